/- Where control goes; loops by a relation; numbers. -/
import Derived.Test.YtpabkdpijcbkgaaGreatDoorFwG
import Derived.WalkSpells
namespace Rc
open Go Go.RowKit

/-- Every state that Γ and H describe will do where control leaves by e. -/
def At (Q : Exit → Act → World → Prop) (w0 : Frm) (A0 : Nat → Prop) (N : Nat) (Γ : Gam) (H : Hp) (e : Exit) : Prop :=
  ∀ a w, St w0 A0 N Γ H a w → Q e a w

section
variable {P : Program} {ops : Array Oper} {Q : Exit → Act → World → Prop} {w0 : Frm} {A0 : Nat → Prop} {N : Nat} {Γ : Gam} {H : Hp}

theorem Tl_end (h : At Q w0 A0 N Γ H .normal) : Tl P ops Q w0 A0 N Γ H [] := Tl_nil h
theorem Tc_skipA (h : At Q w0 A0 N Γ H .normal) : Tc P Q w0 A0 N Γ H .skip := Tc_skip h
theorem Tc_exitA {id : Nat} (h : At Q w0 A0 N Γ H (.exit id)) : Tc P Q w0 A0 N Γ H (.exit id) := Tc_exit h
theorem At_then {y : Code} (h : Tc P Q w0 A0 N Γ H y) : At (Exit.then (y.wp P Q) Q) w0 A0 N Γ H .normal := h
theorem At_then_exit {K : Act → World → Prop} {id : Nat} (h : At Q w0 A0 N Γ H (.exit id)) : At (Exit.then K Q) w0 A0 N Γ H (.exit id) := h
theorem At_block {id : Nat} (h : At Q w0 A0 N Γ H .normal) : At (Exit.inBlock id Q) w0 A0 N Γ H .normal := h
theorem At_block_exit {id : Nat} (h : At Q w0 A0 N Γ H .normal) : At (Exit.inBlock id Q) w0 A0 N Γ H (.exit id) := fun a w hs => by
  show if id = id then _ else _
  rw [if_pos rfl]; exact h a w hs
theorem At_block_other {id id' : Nat} (hne : Nat.beq id id' = false) (h : At Q w0 A0 N Γ H (.exit id)) : At (Exit.inBlock id' Q) w0 A0 N Γ H (.exit id) := fun a w hs => by
  show if id = id' then _ else _
  rw [if_neg (fun e => by subst e; simp at hne)]; exact h a w hs
theorem Tc_t {s : Nat} {x y : Code} (hl : look Γ s = some (D.bool true)) (h : Tc P Q w0 A0 N Γ H x) : Tc P Q w0 A0 N Γ H (.cond (.tmp s) x y) :=
  Tc_cond hl (fun _ => h) (fun h => by simp at h)
theorem Tc_f {s : Nat} {x y : Code} (hl : look Γ s = some (D.bool false)) (h : Tc P Q w0 A0 N Γ H y) : Tc P Q w0 A0 N Γ H (.cond (.tmp s) x y) :=
  Tc_cond hl (fun h => by simp at h) (fun _ => h)
/-- The derivation of a region that draws its order, and what comes behind it. -/
def DKn (P : Program) (ops : Array Oper) (tl : List (Option Nat)) (X : List Nat) : Nat → List Oper → Gam → Hp → (Gam → Hp → Prop) → Prop
  | _, [], Γ, H, K => K Γ H
  | n, o :: os, Γ, H, K => ∃ d H1, ((isEff o = false ∧ H1 = H ∧ ∃ X', (X.all fun x => X'.contains x || pinnedN ops tl x n) = true ∧ JO P ops X' o Γ H d H) ∨
      (isEff o = true ∧ JE P ops (tl.getD n none) o Γ H d H1 ∧ ∀ j, tl.getD n none ≠ some j → H1[j]? = H[j]?)) ∧ DKn P ops tl X (n + 1) os (putG Γ o.dst d) H1 K
section
variable {tl : List (Option Nat)} {X : List Nat} {n : Nat} {o : Oper} {os : List Oper} {K : Gam → Hp → Prop}
theorem DKn.drv {l : List Oper} {Γ : Gam} {H : Hp} (h : DKn P ops tl X n l Γ H K) : ∃ Γ' H', Drv P ops tl X n l Γ H Γ' H' ∧ K Γ' H' := by
  induction l generalizing Γ H n with
  | nil => exact ⟨Γ, H, ⟨rfl, rfl⟩, h⟩
  | cons o os ih =>
    obtain ⟨d, H1, h1, h2⟩ := h
    obtain ⟨Γ', H', h5, h6⟩ := ih h2
    exact ⟨Γ', H', ⟨d, H1, h1, h5⟩, h6⟩
theorem St.reserve {a : Act} {w : World} (h : St w0 A0 N Γ H a w) (k : Nat) : St w0 A0 N Γ (H ++ List.replicate k none) a w := by
  obtain ⟨E, hG⟩ := h
  have back : ∀ (j : Nat) (e : HE), (H ++ List.replicate k none)[j]? = some (some e) → H[j]? = some (some e) := by
    intro j e hj
    by_cases hl : j < H.length
    · rwa [List.getElem?_append_left hl] at hj
    · rw [List.getElem?_append_right (by omega), List.getElem?_replicate] at hj
      split at hj <;> simp at hj
  exact ⟨E, hG.below, hG.foot, hG.foot0, hG.defers, hG.size, fun s d hs => let ⟨ho, v, hv, hd⟩ := hG.slots s d hs; ⟨D.okn_mono ho (fun j e _ he => ⟨e, by rw [List.getElem?_append_left (List.getElem?_eq_some_iff.1 he).1]; exact he⟩), v, hv, hd⟩,
    fun j e hj => hG.boxes j e (back j e hj), fun j1 j2 e1 e2 g1 g2 => hG.apart j1 j2 e1 e2 (back _ _ g1) (back _ _ g2)⟩
/-- k: how many own blocks the region makes; tl: which own block each operation acts on. -/
theorem Tc_drawK (k : Nat) (tl : List (Option Nat)) (X : List Nat) {id : Nat} {l : List Oper} (hm : P.follows .mixedOrders = true) (hok : regionOk N l.toArray tl X = true)
    (hd : DKn P l.toArray tl X 0 l Γ (H ++ List.replicate k none) fun Γ' H' => At Q w0 A0 N Γ' H' .normal) : Tc P Q w0 A0 N Γ H (.region id l.toArray true) := by
  obtain ⟨Γ', H', h1, h2⟩ := hd.drv
  exact fun a w hs => Tc_draw hm hok h1 h2 a w (hs.reserve k)
theorem DK_nil (h : K Γ H) : DKn P ops tl X n [] Γ H K := h
theorem DK_q {d : Option D} (h : JO P ops X o Γ H d H) (hr : DKn P ops tl X (n + 1) os (putG Γ o.dst d) H K) (he : isEff o = false := by rfl) : DKn P ops tl X n (o :: os) Γ H K :=
  ⟨d, H, .inl ⟨he, rfl, X, List.all_eq_true.2 (fun x hx => by rw [Bool.or_eq_true, List.contains_iff_mem]; exact .inl hx), h⟩, hr⟩
/-- A quiet operation that reads what the region writes. -/
theorem DK_qp (X' : List Nat) {d : Option D} (h : JO P ops X' o Γ H d H) (hx : (X.all fun x => X'.contains x || pinnedN ops tl x n) = true) (hr : DKn P ops tl X (n + 1) os (putG Γ o.dst d) H K) (he : isEff o = false := by rfl) : DKn P ops tl X n (o :: os) Γ H K :=
  ⟨d, H, .inl ⟨he, rfl, X', hx, h⟩, hr⟩
theorem JE_of {t : Option Nat} {d : Option D} {H' : Hp} (hg : o.guard = none) (hH : ∀ H2, (∀ i, t = some i → H2[i]? = H[i]?) → ∃ H2', Je P ops o Γ H2 d H2' ∧ (∀ j, t ≠ some j → H2'[j]? = H2[j]?) ∧ (∀ i, t = some i → H2'[i]? = H'[i]?)) : JE P ops t o Γ H d H' := by
  intro w0 A0 N Γ2 H2 a w Q K hs hi hN hSt hK
  rw [if_pos (by simp [Region.wanted, hg])]
  obtain ⟨H2', h1, h2, h3⟩ := hH H2 hi
  exact h1 w0 A0 N Γ2 a w Q K hs hN hSt (fun a' w' hs' => hK a' w' H2' h2 h3 hs')
theorem JE_ofg {t : Option Nat} {d : Option D} {H' : Hp} {j s : Nat} {want : Bool} (hg : o.guard = some (j, want)) (hj : (ops[j]?).bind (·.dst) = some s) (hl : look Γ s = some (D.bool want))
    (hH : ∀ H2, (∀ i, t = some i → H2[i]? = H[i]?) → ∃ H2', Je P ops o Γ H2 d H2' ∧ (∀ j, t ≠ some j → H2'[j]? = H2[j]?) ∧ (∀ i, t = some i → H2'[i]? = H'[i]?)) : JE P ops t o Γ H d H' := by
  intro w0 A0 N Γ2 H2 a w Q K hs hi hN hSt hK
  have hSt' := hSt
  obtain ⟨E, hG⟩ := hSt'
  rw [wanted_of hg hj (by rw [hs s (guard_mem hg hj)]; exact hl) hG, if_pos (by simp)]
  obtain ⟨H2', h1, h2, h3⟩ := hH H2 hi
  exact h1 w0 A0 N Γ2 a w Q K hs hN hSt (fun a' w' hs' => hK a' w' H2' h2 h3 hs')
/-- An operation that acts, and is not asked for. -/
theorem DK_skip' {j s : Nat} {want : Bool} (hg : o.guard = some (j, want)) (hj : (ops[j]?).bind (·.dst) = some s) (hl : unasked Γ s want)
    (hr : DKn P ops tl X (n + 1) os (putG Γ o.dst (some (D.tup []))) H K) : DKn P ops tl X n (o :: os) Γ H K := by
  cases he : isEff o
  · exact DK_q (JO_skip' hg hj hl) hr he
  · refine ⟨_, H, .inr ⟨he, ?_, fun _ _ => rfl⟩, hr⟩
    intro w0 A0 N Γ2 H2 a w Q K hs hi hN hSt hK
    obtain ⟨E, hG⟩ := hSt
    have hw : Region.wanted o (yielded ops a.tmps) = false := by
      rcases hl with hl | hl
      · rw [wanted_of hg hj (by rw [hs s (guard_mem hg hj)]; exact hl) hG]; simp
      · exact not_wanted hg hj (by rw [hs s (guard_mem hg hj)]; exact hl) hG
    rw [if_neg (by rw [hw]; simp)]
    exact hK _ _ H2 (fun _ _ => rfl) hi ⟨E, skip_put hG hN⟩
theorem DK_skip {j s : Nat} {want : Bool} (hg : o.guard = some (j, want)) (hj : (ops[j]?).bind (·.dst) = some s) (hl : look Γ s = some (D.bool (!want)))
    (hr : DKn P ops tl X (n + 1) os (putG Γ o.dst (some (D.tup []))) H K) : DKn P ops tl X n (o :: os) Γ H K := DK_skip' hg hj (.inl hl) hr
theorem DK_skipU {j s : Nat} {want : Bool} (hg : o.guard = some (j, want)) (hj : (ops[j]?).bind (·.dst) = some s) (hl : look Γ s = some (D.tup []))
    (hr : DKn P ops tl X (n + 1) os (putG Γ o.dst (some (D.tup []))) H K) : DKn P ops tl X n (o :: os) Γ H K := DK_skip' hg hj (.inr hl) hr
theorem same_call {t : Option Nat} {d : Option D} (h : ∀ H2, Je P ops o Γ H2 d H2) : ∀ H2, (∀ i, t = some i → H2[i]? = H[i]?) → ∃ H2', Je P ops o Γ H2 d H2' ∧ (∀ j, t ≠ some j → H2'[j]? = H2[j]?) ∧ (∀ i, t = some i → H2'[i]? = H[i]?) :=
  fun H2 hi => ⟨H2, h H2, fun _ _ => rfl, hi⟩
/-- An operation that acts on no own block. -/
theorem DK_c {d : Option D} (hg : o.guard = none) (he : isEff o = true) (h : ∀ H2, Je P ops o Γ H2 d H2) (hr : DKn P ops tl X (n + 1) os (putG Γ o.dst d) H K) : DKn P ops tl X n (o :: os) Γ H K :=
  ⟨d, H, .inr ⟨he, JE_of hg (same_call h), fun _ _ => rfl⟩, hr⟩
theorem DK_cg {d : Option D} {j s : Nat} {want : Bool} (hg : o.guard = some (j, want)) (hj : (ops[j]?).bind (·.dst) = some s) (hl : look Γ s = some (D.bool want)) (he : isEff o = true) (h : ∀ H2, Je P ops o Γ H2 d H2)
    (hr : DKn P ops tl X (n + 1) os (putG Γ o.dst d) H K) : DKn P ops tl X n (o :: os) Γ H K :=
  ⟨d, H, .inr ⟨he, JE_ofg hg hj hl (same_call h), fun _ _ => rfl⟩, hr⟩
theorem same_set {t : Option Nat} {d : Option D} {i : Nat} {e : Option HE} (ht : t = some i) (h : ∀ H2 : Hp, H2[i]? = H[i]? → Je P ops o Γ H2 d (H2.set i e)) :
    ∀ H2, (∀ i, t = some i → H2[i]? = H[i]?) → ∃ H2', Je P ops o Γ H2 d H2' ∧ (∀ j, t ≠ some j → H2'[j]? = H2[j]?) ∧ (∀ i, t = some i → H2'[i]? = (H.set i e)[i]?) := by
  intro H2 hi
  refine ⟨H2.set i e, h H2 (hi i ht), fun j hj => ?_, fun j hj => ?_⟩
  · rw [getElem?_set', if_neg (fun e => hj (by rw [ht, e]))]
  · rw [ht] at hj
    cases hj
    have h1 := hi i ht
    rw [getElem?_set', getElem?_set', if_pos rfl, if_pos rfl]
    by_cases h2 : i < H.length
    · rw [List.getElem?_eq_getElem h2] at h1
      rw [if_pos h2, if_pos (List.getElem?_eq_some_iff.1 h1).1]
    · rw [List.getElem?_eq_none (l := H) (by omega)] at h1
      rw [if_neg h2, if_neg (by have := List.getElem?_eq_none_iff.1 h1; omega)]
theorem oth_set {t : Option Nat} {i : Nat} {e : Option HE} (ht : t = some i) : ∀ j, t ≠ some j → (H.set i e)[j]? = H[j]? := fun j hj => by
  rw [getElem?_set', if_neg (fun e => hj (by rw [ht, e]))]
/-- An operation that acts on own block i. -/
theorem DK_s (i : Nat) {d : Option D} {e : Option HE} (ht : tl.getD n none = some i) (hg : o.guard = none) (he : isEff o = true) (h : ∀ H2 : Hp, H2[i]? = H[i]? → Je P ops o Γ H2 d (H2.set i e))
    (hr : DKn P ops tl X (n + 1) os (putG Γ o.dst d) (H.set i e) K) : DKn P ops tl X n (o :: os) Γ H K := by
  refine ⟨d, H.set i e, .inr ⟨he, JE_of hg ?_, oth_set ht⟩, hr⟩
  intro H2 hi
  obtain ⟨H2', h1, h2, h3⟩ := same_set ht h H2 hi
  exact ⟨H2', h1, h2, fun j hj => by rw [ht] at hj; cases hj; exact h3 i ht⟩
theorem DK_sg (i : Nat) {d : Option D} {e : Option HE} {j s : Nat} {want : Bool} (ht : tl.getD n none = some i) (hg : o.guard = some (j, want)) (hj : (ops[j]?).bind (·.dst) = some s) (hl : look Γ s = some (D.bool want)) (he : isEff o = true)
    (h : ∀ H2 : Hp, H2[i]? = H[i]? → Je P ops o Γ H2 d (H2.set i e)) (hr : DKn P ops tl X (n + 1) os (putG Γ o.dst d) (H.set i e) K) : DKn P ops tl X n (o :: os) Γ H K := by
  refine ⟨d, H.set i e, .inr ⟨he, JE_ofg hg hj hl ?_, oth_set ht⟩, hr⟩
  intro H2 hi
  obtain ⟨H2', h1, h2, h3⟩ := same_set ht h H2 hi
  exact ⟨H2', h1, h2, fun j hj => by rw [ht] at hj; cases hj; exact h3 i ht⟩
end
theorem Jd_store {o : Oper} {t : Nat} {x y : Operand} {i off n : Nat} {e : HE} {v : V} {b : Bool} (ho : o.op = .store t x y) (hx : opD Γ x = some (D.ptr i off)) (hy : opD Γ y = some (D.v v)) (hi : H[i]? = some (some e))
    (ht : TyIs P t b n) (hn : v.leaves.length = n) (hn0 : 0 < n) (hfit : off + n ≤ e.ls.length) {ls : List Leaf} (hls : splice e.ls off v.leaves = ls) :
    ∀ H2 : Hp, H2[i]? = H[i]? → Je P ops o Γ H2 none (H2.set i (some { e with ls := ls })) := fun _ hH => Je_store ho hx hy (hH.trans hi) ht hn hn0 hfit hls
theorem Jd_alloc {o : Oper} {t i : Nat} {zs : List Leaf} (ho : o.op = .alloc t) (hz : TyZero P t zs) (hi : H[i]? = some none) :
    ∀ H2 : Hp, H2[i]? = H[i]? → Je P ops o Γ H2 (some (D.ptr i 0)) (H2.set i (some ⟨t, zs, none, none⟩)) := fun _ hH => Je_allocR ho hz (hH.trans hi)
theorem Jd_box {o : Oper} {t i : Nat} {x : Operand} {y : V} (ho : o.op = .box t x) (hx : opD Γ x = some (D.v y)) (hi : H[i]? = some none) :
    ∀ H2 : Hp, H2[i]? = H[i]? → Je P ops o Γ H2 (some (D.ptr i 0)) (H2.set i (some ⟨t, y.leaves, none, none⟩)) := fun _ hH => Je_boxR ho hx (hH.trans hi)
theorem Jd_call {o : Oper} {f : Nat} {args : Array Operand} {tys : Array TypeId} {xs : List V} {y : R} (ho : o.op = .call { callee := .value (.func f), args := args, argTypes := tys }) (hf : FnOk P f)
    (hx : argsD Γ args.toList = some xs) (hspec : Ctr P f xs y) : ∀ H2 : Hp, Je P ops o Γ H2 (some y.toD) H2 := fun _ => Je_call ho hf hx hspec
/-- A step of the sequence: quiet, or acting. -/
theorem Tl_q {o : Oper} {rest : List Oper} {d : Option D} (h : JO P ops [] o Γ H d H) (hN : dstOk N o.dst = true) (hr : Tl P ops Q w0 A0 N (putG Γ o.dst d) H rest) : Tl P ops Q w0 A0 N Γ H (o :: rest) :=
  Tl_step h (fun _ => rfl) hN hr
theorem Tl_e {o : Oper} {rest : List Oper} {d : Option D} {H' : Hp} (h : JO P ops [] o Γ H d H') (he : isEff o = true) (hN : dstOk N o.dst = true) (hr : Tl P ops Q w0 A0 N (putG Γ o.dst d) H' rest) : Tl P ops Q w0 A0 N Γ H (o :: rest) :=
  Tl_step h (fun h => by rw [he] at h; simp at h) hN hr

/-- A loop by a relation I m Γ H of its heads' states, with a measure m. -/
theorem Tc_loopR {c : Code} (I : Nat → Gam → Hp → Prop) {m0 : Nat} {Γ0 : Gam} (h0 : I m0 Γ0 H) (hk : known Γ Γ0)
    (round : ∀ m Γ H, I m Γ H → Tc P (Exit.then (fun a w => ∃ m' Γ' H', m' < m ∧ I m' Γ' H' ∧ St w0 A0 N Γ' H' a w) Q) w0 A0 N Γ H c) : Tc P Q w0 A0 N Γ H (.loop c) := by
  refine Tc_loop (S := Nat × Gam × Hp) (fun s => s.2.1) (fun s => s.2.2) (fun s => s.1) (fun s => I s.1 s.2.1 s.2.2) (m0, Γ0, H) h0 hk rfl ?_
  intro s hs a w hst
  refine wp_mono (round s.1 s.2.1 s.2.2 hs a w hst) ?_
  intro e a' w' h
  cases e with
  | normal =>
    obtain ⟨m', Γ', H', h1, h2, h3⟩ := h
    exact ⟨(m', Γ', H'), h2, h1, h3⟩
  | exit id => exact h
  | goto l => exact h
  | ret => exact h
  | panic ch => exact h
  | outgrown => exact h
theorem At_next {I : Nat → Gam → Hp → Prop} {m m' : Nat} {Γ' : Gam} (hm : m' < m) (hI : I m' Γ' H) (hk : known Γ Γ') :
    At (Exit.then (fun a w => ∃ m' Γ' H', m' < m ∧ I m' Γ' H' ∧ St w0 A0 N Γ' H' a w) Q) w0 A0 N Γ H .normal :=
  fun _ _ hs => ⟨m', Γ', H, hm, hI, hs.weaken (sub_of_known hk)⟩

/-- What is known of a slot says something of numbers. -/
theorem Tc_len {c : Code} {s n : Nat} {ls : List Leaf} (hs : look Γ s = some (D.rep (sliceRep n ls))) (h : n ≤ 9223372036854775807 → Tc P Q w0 A0 N Γ H c) : Tc P Q w0 A0 N Γ H c := by
  intro a w hSt
  have hSt' := hSt
  obtain ⟨E, hG⟩ := hSt'
  obtain ⟨_, v, _, ad, cap, _, h1, h2, _⟩ := hG.slots s _ hs
  exact h (Nat.le_trans h1 (by simpa [maxLen] using h2)) a w hSt
/-- A piece whose ways meet again. -/
theorem Tc_meet {x y : Code} {Γ' : Gam} {H' : Hp} (h : Tc P (Exit.then (fun a w => St w0 A0 N Γ' H' a w) Q) w0 A0 N Γ H x) (hy : Tc P Q w0 A0 N Γ' H' y) : Tc P Q w0 A0 N Γ H (.seq x y) := by
  refine Tc_seq fun a w hs => wp_mono (h a w hs) ?_
  intro e a' w' hh
  cases e with
  | normal => exact hy a' w' hh
  | exit id => exact hh
  | goto l => exact hh
  | ret => exact hh
  | panic ch => exact hh
  | outgrown => exact hh
theorem At_meet {Γ' : Gam} (hk : known Γ Γ') : At (Exit.then (fun a w => St w0 A0 N Γ' H a w) Q) w0 A0 N Γ H .normal := fun _ _ hs => hs.weaken (sub_of_known hk)
/-- An own row of limbs is handed on. -/
theorem Tl_share_nat {l : List Oper} (s : Nat) (out : List Nat) {i n : Nat} {e : HE} (hs : look Γ s = some (D.own i n)) (hi : H[i]? = some (some e)) (hr : e.row = some 1) (hl : e.ls = out.map u32L) (hn : n = out.length)
    (h : Tl P ops Q w0 A0 N ((s, some (D.v (V.one (natL out)))) :: dropName i Γ) (H.set i none) l) (hp : e.pin = none := by rfl) : Tl P ops Q w0 A0 N Γ H l := by
  subst hn
  refine Tl_share s hs hi hr (by rw [hl]; simp) (by decide) ?_ hp
  rw [hl]; exact h
theorem Tc_share_nat {c : Code} (s : Nat) (out : List Nat) {i n : Nat} {e : HE} (hs : look Γ s = some (D.own i n)) (hi : H[i]? = some (some e)) (hr : e.row = some 1) (hl : e.ls = out.map u32L) (hn : n = out.length)
    (h : Tc P Q w0 A0 N ((s, some (D.v (V.one (natL out)))) :: dropName i Γ) (H.set i none) c) (hp : e.pin = none := by rfl) : Tc P Q w0 A0 N Γ H c := by
  subst hn
  refine Tc_share s hs hi hr (by rw [hl]; simp) (by decide) ?_ hp
  rw [hl]; exact h

/-- s == nil, s a slice that is represented: false unless it is empty. -/
theorem run_eql_nil (w : World) {t e : TypeId} (a : Option Addr) (n c : Nat) (ht : P.underlying t = some (.slice e)) :
    (binOp .eql t (.slice a n c) (.slice none 0 0)).run P w = .ok (.bool a.isNone) w := by
  simp only [binOp]; exact Lib.run_eql_slice_nil w t e a n c 0 0 ht
theorem Tl_eqnil {o : Oper} {rest : List Oper} {x : Operand} {t u el s n : Nat} {ls : List Leaf} (ho : o.op = .binOp .eql t x (.const (.slice none 0 0)) u) (hg : o.guard = none) (hd : o.dst = some s) (hN : dstOk N (some s) = true)
    (hx : opD Γ x = some (D.rep (sliceRep n ls))) (ht : P.underlying t = some (.slice el)) (h : ∀ b : Bool, (b = true → n = 0 ∧ ls = []) → Tl P ops Q w0 A0 N ((s, some (D.bool b)) :: Γ) H rest) : Tl P ops Q w0 A0 N Γ H (o :: rest) := by
  intro a w hSt
  obtain ⟨E, hG⟩ := hSt
  unfold wpList
  rw [if_pos (by simp [Region.wanted, hg])]
  left
  obtain ⟨_, ad, cap, h2, _, _, h3, _⟩ := op_den hG hx
  refine wp_value (v := .bool ad.isNone) ?_ ?_
  · have hgd : ∀ y, (eqGuard .eql t x y (.slice ad n cap) (.slice none 0 0)).run P w = .ok () w := by intro y; simp [eqGuard]
    have hcv : a.eval (.const (.slice none 0 0)) = .slice none 0 0 := rfl
    simp [execOp, ho, h2, hcv, hgd, run_eql_nil w ad n cap ht]
  · rw [hd]
    exact h ad.isNone (fun hb => let ⟨h4, h5, _⟩ := h3 (by simpa using hb); ⟨h4, h5⟩) _ _ ⟨E, hG.put (dst := some s) (d := some (D.bool ad.isNone)) (fun d hd => by cases hd; exact ⟨trivial, rfl, rfl⟩) hN⟩

/-- T{}: an own row without elements. -/
theorem Tl_build0 {o : Oper} {rest : List Oper} {t u sz s i : Nat} (ho : o.op = .buildSlice t 0 #[]) (hg : o.guard = none) (hd : o.dst = some s) (hN : dstOk N (some s) = true) (ht : P.underlying t = some (.slice u)) {b : Bool} (hu : TyIs P u b sz) (hi : H.length = i)
    (h : Tl P ops Q w0 A0 N ((s, some (D.own i 0)) :: Γ) (H ++ [some ⟨u, [], some sz, none⟩]) rest) : Tl P ops Q w0 A0 N Γ H (o :: rest) := by
  intro a w hSt
  obtain ⟨E, hG⟩ := hSt
  unfold wpList
  rw [if_pos (by simp [Region.wanted, hg])]
  left
  obtain ⟨E', hG', hb, hc, hn, hA⟩ := hG.alloc (t := u) (ls := []) (cs := []) (row := some sz) (cap := 0) trivial (fun z hz => ⟨Nat.zero_le _, by simp⟩)
  refine wp_valueW (v := .slice (some ⟨w.heap.size, 0, none⟩) 0 0) (w' := w.alloc (.cells [].toArray u)) ?_ ?_
  · simp [execOp, ho, Instr.buildSlice, run_underlying ht, hu.sizeOf, Instr.fill, newRow, show Array.range 0 = #[] from rfl]
  · rw [hd]
    subst hi
    have hden : (D.own H.length 0).den E' (.slice (some ⟨w.heap.size, 0, none⟩) 0 0) (w.alloc (.cells [].toArray u)) := by
      show _ = if E'.nil H.length then _ else _
      rw [hn, hb, hc]; rfl
    exact h _ _ ⟨E', hG'.put (dst := some s) (d := some (D.own H.length 0)) (fun d hd => by cases hd; exact ⟨okn_new, hden⟩) hN⟩
end

section
variable {P : Program} {ops : Array Oper} {X : List Nat} {o : Oper} {Γ : Gam} {H : Hp}
/-- An element of a string. -/
theorem Jq_index_str {t : Nat} {s : ByteArray} {y : Operand} {k : IntKind} {j : Nat} {c : UInt8} (ho : o.op = .index t (.const (.string s)) y) (hy : opD Γ y = some (D.val (.int k j))) (ht : P.underlying t = some .string) (hc : s[j]? = some c) :
    Jq P ops X o Γ H (D.val (.int .u8 c.toNat)) := by
  intro w0 A0 N Γ2 H2 E a w hs hX hG
  have e2 := op_val hs hG (x := y) (by rw [ho]; simp [Op.operands]) hy
  refine ⟨trivial, .int .u8 c.toNat, ?_, rfl, rfl⟩
  have hcv : a.eval (.const (.string s)) = .string s := rfl
  simp [execOp, ho, e2, hcv, Instr.index, asIntOf, run_underlying ht, hc]
/-- Parts of slices of limbs. -/
theorem Jq_slice_hi_nat {x y : Operand} {t u hi : Nat} {k : IntKind} {b : Bool} {l : List Nat} (ho : o.op = .slice t x none (some y) none) (hx : opD Γ x = some (D.v (V.one (natL l)))) (hy : opD Γ y = some (D.val (.int k hi)))
    (ht : P.underlying t = some (.slice u)) (hu : TyIs P u b 1) (h2 : hi ≤ l.length) : Jq P ops X o Γ H (D.v (V.one (natL (l.take hi)))) := by
  have := Jq_slice_hi (ls' := (l.take hi).map u32L) (X := X) (H := H) (ops := ops) ho hx hy ht hu h2 (by simp [List.map_take])
  have e : hi = (l.take hi).length := by simp [Nat.min_eq_left h2]
  show Jq P ops X o Γ H (D.rep (sliceRep (l.take hi).length _))
  rw [← e]; exact this
theorem Jq_slice_lo_nat {x y : Operand} {t u lo : Nat} {k : IntKind} {b : Bool} {l : List Nat} (ho : o.op = .slice t x (some y) none none) (hx : opD Γ x = some (D.v (V.one (natL l)))) (hy : opD Γ y = some (D.val (.int k lo)))
    (ht : P.underlying t = some (.slice u)) (hu : TyIs P u b 1) (h2 : lo ≤ l.length) : Jq P ops X o Γ H (D.v (V.one (natL (l.drop lo)))) := by
  refine Jq_slice_lo (X := X) (H := H) (ops := ops) ho hx hy ht hu h2 (by simp) ?_
  rw [Nat.mul_one, Nat.mul_one, List.map_drop]
  exact List.take_of_length_le (by simp)
theorem Jq_slice_lohi_nat {x y z : Operand} {t u lo hi : Nat} {k k' : IntKind} {b : Bool} {l : List Nat} (ho : o.op = .slice t x (some y) (some z) none) (hx : opD Γ x = some (D.v (V.one (natL l)))) (hy : opD Γ y = some (D.val (.int k lo)))
    (hz : opD Γ z = some (D.val (.int k' hi))) (ht : P.underlying t = some (.slice u)) (hu : TyIs P u b 1) (h1 : lo ≤ hi) (h2 : hi ≤ l.length) : Jq P ops X o Γ H (D.v (V.one (natL ((l.drop lo).take (hi - lo))))) := by
  refine Jq_slice_lohi (X := X) (H := H) (ops := ops) ho hx hy hz ht hu h1 h2 (by simp; omega) ?_
  rw [Nat.mul_one, Nat.mul_one, List.map_take, List.map_drop]
  simp only [List.length_take, List.length_drop]
  rw [Nat.min_eq_left (by omega)]
end

/-! ## Numbers -/
theorem w64 {x r : Int} (h : x = r) (h1 : -9223372036854775808 ≤ r) (h2 : r ≤ 9223372036854775807) : IntKind.i64.wrap x = r := by
  subst h; rw [IntKind.wrap_i64]; omega
theorem wu64 {x r : Int} (h : x % 18446744073709551616 = r) : IntKind.u64.wrap x = r := by
  subst h; simp [IntKind.wrap, IntKind.bits, IntKind.signed]
theorem wu32 {x r : Int} (h : x % 4294967296 = r) : IntKind.u32.wrap x = r := by
  subst h; simp [IntKind.wrap, IntKind.bits, IntKind.signed]
theorem get_u32 {l : List Nat} {i : Nat} (h : i < l.length) : (l.map u32L)[((i : Nat) : Int).toNat]? = some (u32L l[i]) := by
  simp [h]
theorem get_u32i {l : List Nat} {j : Int} (i : Nat) (h : i < l.length) (hj : j = i) : (l.map u32L)[j.toNat]? = some (u32L l[i]) := by
  subst hj; simp [h]
theorem get_own {l : List Nat} {i : Nat} (h : i < l.length) : (l.map u32L)[i]? = some (u32L l[i]) := by simp [h]
theorem splice_u32 {l : List Nat} {i x : Nat} (h : i < l.length) : splice (l.map u32L) i [u32L x] = (l.set i x).map u32L := by
  unfold splice
  rw [List.map_set]
  apply List.ext_getElem
  · simp; omega
  · intro j h1 h2
    simp only [List.getElem_append, List.length_append, List.length_take, List.length_map, List.length_cons, List.length_nil, List.getElem_set]
    have hm : min i l.length = i := Nat.min_eq_left (Nat.le_of_lt h)
    simp only [hm]
    split
    · split
      · rename_i h3; rw [if_neg (by omega)]; simp
      · rename_i h3 h4
        have : i = j := by omega
        subst this
        rw [if_pos rfl]; simp
    · rename_i h3
      rw [if_neg (by omega)]
      simp only [List.getElem_drop]
      congr 1
      omega
theorem zc_u32 (n : Nat) : zcells (n * 1) [Leaf.val (.int .u32 0)] = (List.replicate n 0).map u32L := by
  rw [zcells_one]; simp [u32L]
theorem shr_nat {k : IntKind} {c : Int} (x c' : Nat) (hc : min c.toNat k.bits = c') : (x : Int).fdiv (2 ^ (min c.toNat k.bits)) = ((x / 2 ^ c' : Nat) : Int) := by
  rw [hc, Int.fdiv_eq_ediv_of_nonneg _ (by exact Int.le_of_lt (Int.pow_pos (by omega))), Int.natCast_ediv, Int.natCast_pow]
  rfl
theorem dT {p : Prop} [Decidable p] (h : p) : decide p = true := decide_eq_true h
theorem dF {p : Prop} [Decidable p] (h : ¬ p) : decide p = false := decide_eq_false h
theorem eT {a b : Int} (h : a = b) : (a == b) = true := beq_iff_eq.2 h
theorem eF {a b : Int} (h : a ≠ b) : (a == b) = false := beq_eq_false_iff_ne.2 h
theorem nT {a b : Int} (h : a ≠ b) : (a != b) = true := by simp [h]
theorem nF {a b : Int} (h : a = b) : (a != b) = false := by simp [h]
end Rc
