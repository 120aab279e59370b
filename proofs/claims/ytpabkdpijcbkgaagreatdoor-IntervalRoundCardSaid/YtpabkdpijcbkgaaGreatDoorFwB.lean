/- A region that draws its order: whatever the order, it ends in the state that the text's order gives. -/
import Derived.Test.YtpabkdpijcbkgaaGreatDoorFwA
namespace Rc
open Go Go.RowKit
/-! ## A region that draws its order -/

def dep (ops : Array Oper) (i j : Nat) : Bool := ((ops[i]?).map fun o => o.after.any fun e => Region.binds .any e && Nat.beq e.on j).getD false
def effAt (ops : Array Oper) (i : Nat) : Bool := ((ops[i]?).map isEff).getD false
def dstAt (ops : Array Oper) (i : Nat) : Option Nat := (ops[i]?).bind (·.dst)
/-- Which operations must come ahead of each one, as the bits of a number. -/
def ancs (ops : Array Oper) : Nat → List Nat
  | 0 => []
  | n + 1 => ancs ops n ++ [(List.range n).foldl (fun m j => bif dep ops n j then m ||| (1 <<< j) ||| (ancs ops n).getD j 0 else m) 0]
def reach (ops : Array Oper) (i j : Nat) : Bool := ((ancs ops (i + 1)).getD i 0).testBit j
theorem ancs_length (ops : Array Oper) (n : Nat) : (ancs ops n).length = n := by
  induction n with
  | zero => rfl
  | succ n ih => simp [ancs, ih]
theorem ancs_get (ops : Array Oper) {n i : Nat} (h : i < n) : (ancs ops n).getD i 0 = (ancs ops (i + 1)).getD i 0 := by
  induction n with
  | zero => omega
  | succ n ih =>
    by_cases e : i = n
    · subst e; rfl
    · have hlt : i < n := by omega
      rw [ancs, List.getD_eq_getElem?_getD, List.getElem?_append_left (by rw [ancs_length]; exact hlt), ← List.getD_eq_getElem?_getD]
      exact ih hlt
theorem fold_bit {f : Nat → Bool} {g : Nat → Nat} {j : Nat} : ∀ (l : List Nat) (m0 : Nat), (l.foldl (fun m x => bif f x then m ||| (1 <<< x) ||| g x else m) m0).testBit j = true →
    m0.testBit j = true ∨ ∃ x ∈ l, f x = true ∧ (x = j ∨ (g x).testBit j = true) := by
  intro l
  induction l with
  | nil => intro m0 h; exact .inl h
  | cons y ys ih =>
    intro m0 h
    rw [List.foldl_cons] at h
    rcases ih _ h with h1 | ⟨x, hx, h2⟩
    · cases hf : f y with
      | false => rw [hf] at h1; exact .inl h1
      | true =>
        rw [hf] at h1
        simp only [cond_true, Nat.testBit_or, Bool.or_eq_true] at h1
        rcases h1 with (h1 | h1) | h1
        · exact .inl h1
        · refine .inr ⟨y, by simp, hf, .inl ?_⟩
          rw [Nat.one_shiftLeft, Nat.testBit_two_pow] at h1
          simpa using h1
        · exact .inr ⟨y, by simp, hf, .inr h1⟩
    · exact .inr ⟨x, by simp [hx], h2⟩
theorem reach_step {ops : Array Oper} {i j : Nat} (h : reach ops i j = true) : ∃ x, x < i ∧ dep ops i x = true ∧ (x = j ∨ reach ops x j = true) := by
  unfold reach at h
  rw [ancs, List.getD_eq_getElem?_getD, List.getElem?_append_right (by rw [ancs_length]; exact Nat.le_refl _)] at h
  rw [ancs_length, Nat.sub_self] at h
  simp only [List.getElem?_cons_zero, Option.getD_some] at h
  rcases fold_bit (f := fun x => dep ops i x) (g := fun x => (ancs ops i).getD x 0) _ _ h with h1 | ⟨x, hx, h1, h2⟩
  · simp at h1
  · have hlt := List.mem_range.1 hx
    refine ⟨x, hlt, h1, ?_⟩
    rcases h2 with h2 | h2
    · exact .inl h2
    · right; unfold reach; rw [← ancs_get ops hlt]; exact h2
theorem reach_closed {ops : Array Oper} {S : Nat → Prop} (hS : ∀ i j, S i → dep ops i j = true → S j) : ∀ (i j : Nat), reach ops i j = true → (∀ x, dep ops i x = true → S x) → S j := by
  intro i
  induction i using Nat.strongRecOn with
  | _ i ih =>
    intro j h hi
    obtain ⟨x, hlt, hd, h2⟩ := reach_step h
    rcases h2 with rfl | h2
    · exact hi x hd
    · exact ih x hlt j h2 (fun y hy => hS x y (hi x hd) hy)


/-! ## What is asked of a region's text -/
/-- Does operation k act on own block x? tl: the name that each operation acts on, if any. -/
def tch (ops : Array Oper) (tl : List (Option Nat)) (k x : Nat) : Bool :=
  effAt ops k && (match tl.getD k none with
    | some y => Nat.beq y x
    | none => false)
def before (ops : Array Oper) (i j : Nat) : Bool := dep ops i j || reach ops i j
/-- All that acts on own block x comes ahead of operation p or behind it, whatever the order. -/
def pinnedN (ops : Array Oper) (tl : List (Option Nat)) (x p : Nat) : Bool :=
  (List.range ops.size).all fun k => !(tch ops tl k x) || Nat.beq k p || (bif Nat.blt k p then before ops p k else before ops k p)
def regionOk (N : Nat) (ops : Array Oper) (tl : List (Option Nat)) (X : List Nat) : Bool :=
  (List.range ops.size).all fun i => match ops[i]? with
    | none => true
    | some o => o.after.all (fun e => !Region.binds .any e || Nat.blt e.on i) && dstOk N o.dst &&
      (match tl.getD i none with
        | some x => X.contains x && (!(effAt ops i) || pinnedN ops tl x i)
        | none => true) &&
      (List.range ops.size).all (fun j => match ops[j]? with
        | none => true
        | some p => (match p.dst with
          | none => true
          | some s => (Nat.beq i j || !(o.dst == some s)) && (!((o.looksAt ops).contains s) || ((Nat.blt j i && dep ops i j) || (Nat.blt i j && dep ops j i)))))

/-- An operation that acts, in its region: it acts on own block t alone, or on none. -/
def JE (P : Program) (ops : Array Oper) (t : Option Nat) (o : Oper) (Γ : Gam) (H : Hp) (d : Option D) (H' : Hp) : Prop :=
  ∀ (w0 : Frm) (A0 : Nat → Prop) (N : Nat) (Γ2 : Gam) (H2 : Hp) (a : Act) (w : World) (Q : Exit → Act → World → Prop) (K : Act → World → Prop),
    (∀ s ∈ o.looksAt ops, look Γ2 s = look Γ s) → (∀ i, t = some i → H2[i]? = H[i]?) → dstOk N o.dst = true → St w0 A0 N Γ2 H2 a w →
    (∀ a' w' H2', (∀ j, t ≠ some j → H2'[j]? = H2[j]?) → (∀ i, t = some i → H2'[i]? = H'[i]?) → St w0 A0 N (putG Γ2 o.dst d) H2' a' w' → K a' w') →
    if Region.wanted o (yielded ops a.tmps) then o.wp P a w K Q else K (a.put o.dst undef) w

/-- The derivation of a region, operation by operation, in the order of the text. -/
def Drv (P : Program) (ops : Array Oper) (tl : List (Option Nat)) (X : List Nat) : Nat → List Oper → Gam → Hp → Gam → Hp → Prop
  | _, [], Γ, H, Γ', H' => Γ' = Γ ∧ H' = H
  | n, o :: os, Γ, H, Γ', H' => ∃ d H1, ((isEff o = false ∧ H1 = H ∧ ∃ X', (X.all fun x => X'.contains x || pinnedN ops tl x n) = true ∧ JO P ops X' o Γ H d H) ∨
      (isEff o = true ∧ JE P ops (tl.getD n none) o Γ H d H1 ∧ ∀ j, tl.getD n none ≠ some j → H1[j]? = H[j]?)) ∧ Drv P ops tl X (n + 1) os (putG Γ o.dst d) H1 Γ' H'

theorem Drv.fns {P : Program} {ops : Array Oper} {tl : List (Option Nat)} {X : List Nat} {n : Nat} {l : List Oper} {Γ Γ' : Gam} {H H' : Hp} (h : Drv P ops tl X n l Γ H Γ' H') :
    ∃ (gg : Nat → Gam) (hh : Nat → Hp), gg 0 = Γ ∧ hh 0 = H ∧ gg l.length = Γ' ∧ hh l.length = H' ∧
      ∀ i o, l[i]? = some o → ∃ d, gg (i + 1) = putG (gg i) o.dst d ∧ ((isEff o = false ∧ hh (i + 1) = hh i ∧ ∃ X', (X.all fun x => X'.contains x || pinnedN ops tl x (n + i)) = true ∧ JO P ops X' o (gg i) (hh i) d (hh i)) ∨
      (isEff o = true ∧ JE P ops (tl.getD (n + i) none) o (gg i) (hh i) d (hh (i + 1)) ∧ ∀ j, tl.getD (n + i) none ≠ some j → (hh (i + 1))[j]? = (hh i)[j]?)) := by
  induction l generalizing Γ H n with
  | nil => obtain ⟨rfl, rfl⟩ := h; exact ⟨fun _ => Γ', fun _ => H', rfl, rfl, rfl, rfl, fun i o h => by simp at h⟩
  | cons o os ih =>
    obtain ⟨d, H1, hJ, hr⟩ := h
    obtain ⟨gg, hh, h1, h2, h3, h4, h5⟩ := ih hr
    refine ⟨fun n => match n with | 0 => Γ | n + 1 => gg n, fun n => match n with | 0 => H | n + 1 => hh n, rfl, rfl, h3, h4, ?_⟩
    intro i o' ho
    cases i with
    | zero =>
      simp at ho; subst ho
      simp only [h1, h2]
      exact ⟨d, rfl, hJ⟩
    | succ i =>
      have := h5 i o' (by simpa using ho)
      rwa [show n + 1 + i = n + (i + 1) from by omega] at this

section
variable {P : Program} {ops : Array Oper} {tl : List (Option Nat)} {X : List Nat} {N : Nat}

structure OkFacts (N : Nat) (ops : Array Oper) (tl : List (Option Nat)) (X : List Nat) : Prop where
  back : ∀ (i j : Nat), dep ops i j = true → j < i
  dst : ∀ (i : Nat) (o : Oper), ops[i]? = some o → dstOk N o.dst = true
  distinct : ∀ (i j s : Nat), dstAt ops i = some s → dstAt ops j = some s → i = j
  looks : ∀ (i : Nat) (o : Oper) (s j : Nat), ops[i]? = some o → s ∈ o.looksAt ops → dstAt ops j = some s → (j < i ∧ dep ops i j = true) ∨ (i < j ∧ dep ops j i = true)
  names : ∀ (i x : Nat), i < ops.size → tl.getD i none = some x → x ∈ X
  chain : ∀ (i x : Nat), i < ops.size → tch ops tl i x = true → pinnedN ops tl x i = true

theorem tch_iff {k x : Nat} : tch ops tl k x = true ↔ effAt ops k = true ∧ tl.getD k none = some x := by
  unfold tch
  rw [Bool.and_eq_true]
  refine and_congr_right fun _ => ?_
  cases tl.getD k none with
  | none => simp
  | some y => simp

theorem OkFacts.of (h : regionOk N ops tl X = true) : OkFacts N ops tl X := by
  unfold regionOk at h
  rw [List.all_eq_true] at h
  have key : ∀ (i : Nat) (o : Oper), ops[i]? = some o → (o.after.all (fun e => !Region.binds .any e || Nat.blt e.on i) = true ∧ dstOk N o.dst = true ∧ (∀ x, tl.getD i none = some x → x ∈ X ∧ (effAt ops i = true → pinnedN ops tl x i = true)) ∧
      ∀ (j : Nat) (p : Oper), ops[j]? = some p → (∀ s, p.dst = some s → (i = j ∨ o.dst ≠ some s) ∧ (s ∉ o.looksAt ops ∨ ((j < i ∧ dep ops i j = true) ∨ (i < j ∧ dep ops j i = true))))) := by
    intro i o ho
    have hi : i < ops.size := (Array.getElem?_eq_some_iff.1 ho).1
    have h1 := h i (List.mem_range.2 hi)
    simp only [ho, Bool.and_eq_true, List.all_eq_true] at h1
    refine ⟨h1.1.1.1, h1.1.1.2, ?_, ?_⟩
    · intro x hx
      have h2 := h1.1.2
      rw [hx] at h2
      simp only [Bool.and_eq_true, Bool.or_eq_true, Bool.not_eq_true', List.contains_iff_mem] at h2
      refine ⟨h2.1, fun he => ?_⟩
      rcases h2.2 with h3 | h3
      · rw [he] at h3; simp at h3
      · exact h3
    · intro j p hp
      have hj : j < ops.size := (Array.getElem?_eq_some_iff.1 hp).1
      have h2 := h1.2 j (List.mem_range.2 hj)
      simp only [hp] at h2
      intro s hs
      simp only [hs, Bool.and_eq_true, Bool.or_eq_true, Bool.not_eq_true', beq_eq_false_iff_ne, Nat.beq_eq, Nat.blt_eq, List.contains_eq_mem, decide_eq_false_iff_not] at h2
      exact h2
  have at_ : ∀ i s, dstAt ops i = some s → ∃ o, ops[i]? = some o ∧ o.dst = some s := by
    intro i s hs
    unfold dstAt at hs
    cases ho : ops[i]? with
    | none => rw [ho] at hs; simp at hs
    | some o => rw [ho] at hs; exact ⟨o, rfl, hs⟩
  refine ⟨?_, ?_, ?_, ?_, ?_, ?_⟩
  · intro i j hd
    unfold dep at hd
    cases ho : ops[i]? with
    | none => rw [ho] at hd; simp at hd
    | some o =>
      rw [ho] at hd
      simp only [Option.map_some, Option.getD_some, Array.any_eq_true'] at hd
      obtain ⟨e, he, hb⟩ := hd
      have h1 := (key i o ho).1
      rw [Array.all_eq_true'] at h1
      have := h1 e he
      simp only [Bool.and_eq_true, Nat.beq_eq] at hb
      simp only [hb.1, Bool.not_true, Bool.false_or, Nat.blt_eq] at this
      omega
  · intro i o ho; exact (key i o ho).2.1
  · intro i j s hi hj
    obtain ⟨o, ho, hos⟩ := at_ i s hi
    obtain ⟨p, hp, hps⟩ := at_ j s hj
    exact ((key i o ho).2.2.2 j p hp s hps).1.resolve_right (fun h => h hos)
  · intro i o s j ho hs hj
    obtain ⟨p, hp, hps⟩ := at_ j s hj
    exact ((key i o ho).2.2.2 j p hp s hps).2.resolve_left (fun h => h hs)
  · intro i x hi hx
    exact ((key i ops[i] (Array.getElem?_eq_getElem hi)).2.2.1 x hx).1
  · intro i x hi hx
    obtain ⟨h1, h2⟩ := tch_iff.1 hx
    exact ((key i ops[i] (Array.getElem?_eq_getElem hi)).2.2.1 x h2).2 h1

theorem before_closed {S : Nat → Prop} (hS : ∀ i j, S i → dep ops i j = true → S j) {i j : Nat} (h : before ops i j = true) (hi : ∀ x, dep ops i x = true → S x) : S j := by
  unfold before at h
  rw [Bool.or_eq_true] at h
  rcases h with h | h
  · exact hi j h
  · exact reach_closed hS i j h hi
theorem pinned_get {x p k : Nat} (h : pinnedN ops tl x p = true) (hk : k < ops.size) (ht : tch ops tl k x = true) (hne : k ≠ p) : (k < p → before ops p k = true) ∧ (p < k → before ops k p = true) := by
  unfold pinnedN at h
  rw [List.all_eq_true] at h
  have := h k (List.mem_range.2 hk)
  simp only [ht, Bool.not_true, Bool.false_or, Bool.or_eq_true, Nat.beq_eq] at this
  rcases this with h | h
  · exact absurd h hne
  · refine ⟨fun hlt => ?_, fun hlt => ?_⟩
    · rw [show Nat.blt k p = true from by simpa using hlt] at h; simpa using h
    · rw [show Nat.blt k p = false from by
        cases hb : Nat.blt k p
        · rfl
        · have : k < p := by simpa using hb
          omega] at h
      simpa using h

theorem ready_mem {listed : Array Bool} {i : Nat} : i ∈ Region.ready .any ops listed ↔ i < ops.size ∧ listed.getD i true = false ∧ ∀ j, dep ops i j = true → listed.getD j false = true := by
  unfold Region.ready
  rw [List.mem_filter, List.mem_range]
  constructor
  · rintro ⟨h1, h2⟩
    simp only [Bool.and_eq_true, Bool.not_eq_true'] at h2
    refine ⟨h1, h2.1, ?_⟩
    intro j hj
    obtain ⟨h2, h3⟩ := h2
    unfold dep at hj
    rw [Array.getElem?_eq_getElem h1] at h3 hj
    simp only [Option.map_some, Option.getD_some] at h3 hj
    rw [Array.any_eq_true'] at hj
    rw [Array.all_eq_true'] at h3
    obtain ⟨e, he, hb⟩ := hj
    simp only [Bool.and_eq_true, Nat.beq_eq] at hb
    have := h3 e he
    simp only [hb.1, Bool.not_true, Bool.false_or] at this
    rw [← hb.2]; exact this
  · rintro ⟨h1, h2, h3⟩
    refine ⟨h1, ?_⟩
    simp only [Bool.and_eq_true, Bool.not_eq_true']
    refine ⟨h2, ?_⟩
    rw [Array.getElem?_eq_getElem h1]
    simp only [Option.map_some, Option.getD_some]
    rw [Array.all_eq_true']
    intro e he
    by_cases hb : Region.binds .any e = true
    · have := h3 e.on (by
        unfold dep
        rw [Array.getElem?_eq_getElem h1]
        simp only [Option.map_some, Option.getD_some]
        rw [Array.any_eq_true']
        exact ⟨e, he, by simp [hb]⟩)
      simp [this]
    · simp [hb]

theorem getD_set (l : Array Bool) (i j : Nat) (b : Bool) (hi : i < l.size) : (l.setIfInBounds i true).getD j b = if j = i then true else l.getD j b := by
  by_cases h : j = i
  · subst h; simp [hi]
  · have h' : i ≠ j := fun e => h e.symm
    simp [h, Array.getElem?_setIfInBounds_ne h']


theorem Tc_draw {Q : Exit → Act → World → Prop} {w0 : Frm} {A0 : Nat → Prop} {Γ Γ' : Gam} {H H' : Hp} {id : Nat} {l : List Oper} (hm : P.follows .mixedOrders = true)
    (hok : regionOk N l.toArray tl X = true) (hd : Drv P l.toArray tl X 0 l Γ H Γ' H') (hK : ∀ a w, St w0 A0 N Γ' H' a w → Q .normal a w) :
    Tc P Q w0 A0 N Γ H (.region id l.toArray true) := by
  intro a w hSt
  have hf := OkFacts.of hok
  obtain ⟨gg, hh, hg0, hh0, hgn, hhn, hstep⟩ := hd.fns
  generalize hops : l.toArray = ops at *
  have hsz : ops.size = l.length := by rw [← hops]; simp
  have hat : ∀ i : Nat, l[i]? = ops[i]? := by intro i; rw [← hops]; simp
  have effo : ∀ (i : Nat) (o : Oper), l[i]? = some o → effAt ops i = isEff o := by
    intro i o ho; unfold effAt; rw [← hat, ho]; rfl
  -- what the slots hold behind the first i operations
  have g_up : ∀ (s i n : Nat), i ≤ n → n ≤ l.length → (∀ j, i ≤ j → j < n → dstAt ops j ≠ some s) → look (gg n) s = look (gg i) s := by
    intro s i n hin hn hno
    induction n with
    | zero => have : i = 0 := by omega
              subst this; rfl
    | succ n ih =>
      by_cases hi : i = n + 1
      · subst hi; rfl
      · have hlt : n < l.length := by omega
        obtain ⟨d, hgs, _⟩ := hstep n l[n] (List.getElem?_eq_getElem hlt)
        rw [hgs, ← ih (by omega) (by omega) (fun j h1 h2 => hno j h1 (by omega))]
        have hne := hno n (by omega) (by omega)
        have hdst : dstAt ops n = l[n].dst := by
          unfold dstAt; rw [← hat, List.getElem?_eq_getElem hlt]; rfl
        rw [hdst] at hne
        cases hd' : l[n].dst with
        | none => rfl
        | some t => rw [hd'] at hne; exact look_cons_ne (fun e => hne (by rw [e])) _ _
  have h_up : ∀ (x i n : Nat), i ≤ n → n ≤ l.length → (∀ j, i ≤ j → j < n → tch ops tl j x = false) → (hh n)[x]? = (hh i)[x]? := by
    intro x i n hin hn hno
    induction n with
    | zero => have : i = 0 := by omega
              subst this; rfl
    | succ n ih =>
      by_cases hi : i = n + 1
      · subst hi; rfl
      · have hlt : n < l.length := by omega
        have hln := List.getElem?_eq_getElem hlt
        obtain ⟨d, _, hcase⟩ := hstep n l[n] hln
        have he := hno n (by omega) (by omega)
        rw [← ih (by omega) (by omega) (fun j h1 h2 => hno j h1 (by omega))]
        rcases hcase with ⟨_, h1, _⟩ | ⟨h1, _, h2⟩
        · rw [h1]
        · refine h2 x (fun e => ?_)
          rw [Nat.zero_add] at e
          have : tch ops tl n x = true := tch_iff.2 ⟨by rw [effo n _ hln]; exact h1, e⟩
          rw [this] at he; simp at he
  -- the state of one own block
  let Nm := fun (listed : Array Bool) (Hc : Hp) (x : Nat) => ∃ n, n ≤ l.length ∧ (∀ k, k < n → tch ops tl k x = true → listed.getD k true = true) ∧
    (∀ k, n ≤ k → k < l.length → tch ops tl k x = true → listed.getD k true = false) ∧ Hc[x]? = (hh n)[x]?
  have main : ∀ (fuel : Nat) (listed : Array Bool) (U : List Nat) (a : Act) (w : World) (Hc : Hp) (Γc : Gam),
      listed.size = ops.size → U.Nodup → U.length ≤ fuel → (∀ i, i < ops.size → (listed.getD i true = false ↔ i ∈ U)) →
      (∀ i j, i < ops.size → listed.getD i true = true → dep ops i j = true → listed.getD j true = true) →
      (∀ x, Nm listed Hc x) →
      (∀ s j, dstAt ops j = some s → j < ops.size → listed.getD j true = true → look Γc s = look Γ' s) →
      (∀ s, (∀ j, j < ops.size → listed.getD j true = true → dstAt ops j ≠ some s) → look Γc s = look Γ s) →
      St w0 A0 N Γc Hc a w → wpAny P .any ops Q fuel listed a w := by
    intro fuel
    have fin : ∀ (listed : Array Bool) (a : Act) (w : World) (Hc : Hp) (Γc : Gam), (∀ i, i < ops.size → listed.getD i true = true) → (∀ x, Nm listed Hc x) →
        (∀ s j, dstAt ops j = some s → j < ops.size → listed.getD j true = true → look Γc s = look Γ' s) →
        (∀ s, (∀ j, j < ops.size → listed.getD j true = true → dstAt ops j ≠ some s) → look Γc s = look Γ s) →
        St w0 A0 N Γc Hc a w → Q .normal a w := by
      intro listed a w Hc Γc hall hnm hs1 hs2 hst
      have e1 : Hc = H' := by
        apply List.ext_getElem?
        intro x
        obtain ⟨n, hn, _, h2, h3⟩ := hnm x
        rw [h3, ← hhn]
        refine (h_up x n l.length hn (Nat.le_refl _) (fun j h4 h5 => ?_)).symm
        cases he : tch ops tl j x
        · rfl
        · have := h2 j h4 h5 he
          rw [hall j (by omega)] at this; simp at this
      rw [e1] at hst
      refine hK a w (hst.weaken ?_)
      intro s d hs
      by_cases hw : ∃ j, j < ops.size ∧ dstAt ops j = some s
      · obtain ⟨j, hj, hjs⟩ := hw
        rw [hs1 s j hjs hj (hall j hj)]; exact hs
      · have hno : ∀ j, j < ops.size → dstAt ops j ≠ some s := fun j hj hjs => hw ⟨j, hj, hjs⟩
        rw [hs2 s (fun j hj _ => hno j hj), ← hg0]
        rw [← g_up s 0 l.length (Nat.zero_le _) (Nat.le_refl _) (fun j _ h2 => hno j (by omega)), hgn]
        exact hs
    induction fuel with
    | zero =>
      intro listed U a w Hc Γc hsize hnd hU hUi hcl hnm hs1 hs2 hst
      have hU0 : U = [] := List.length_eq_zero_iff.1 (by omega)
      have hall : ∀ i, i < ops.size → listed.getD i true = true := by
        intro i hi
        cases hb : listed.getD i true
        · have := (hUi i hi).1 hb; rw [hU0] at this; simp at this
        · rfl
      refine ⟨?_, fin listed a w Hc Γc hall hnm hs1 hs2 hst⟩
      rw [List.eq_nil_iff_forall_not_mem]
      intro i hi
      have := ready_mem.1 hi
      rw [hall i this.1] at this
      simp at this
    | succ fuel ih =>
      intro listed U a w Hc Γc hsize hnd hU hUi hcl hnm hs1 hs2 hst
      have gdd : ∀ j b, j < ops.size → listed.getD j b = listed.getD j true := by
        intro j b hj
        have : j < listed.size := by omega
        simp [this]
      refine ⟨fun hnil => ?_, fun i hi => ?_⟩
      · refine fin listed a w Hc Γc ?_ hnm hs1 hs2 hst
        -- the least unlisted operation would be ready
        intro i
        induction i using Nat.strongRecOn with
        | _ i ihi =>
          intro hi
          cases hb : listed.getD i true
          · exfalso
            have : i ∈ Region.ready .any ops listed := ready_mem.2 ⟨hi, hb, fun j hj => by
              have hlt := hf.back i j hj
              rw [gdd j false (by omega)]
              exact ihi j hlt (by omega)⟩
            rw [hnil] at this
            simp at this
          · rfl
      · obtain ⟨hin, hun, hdeps⟩ := ready_mem.1 hi
        have hdeps' : ∀ j, dep ops i j = true → listed.getD j true = true := fun j hj => by
          have := hdeps j hj
          rwa [gdd j false (Nat.lt_trans (hf.back i j hj) hin)] at this
        have hil : i < l.length := by omega
        have hoi : ops[i]? = some ops[i] := Array.getElem?_eq_getElem hin
        have hli : l[i]? = some ops[i] := by rw [hat]; exact hoi
        have heff := effo i _ hli
        obtain ⟨d, hgs, hcase⟩ := hstep i ops[i] hli
        rw [Nat.zero_add] at hcase
        -- what must come before, what must come behind
        have hS : ∀ i' j, (i' < ops.size ∧ listed.getD i' true = true) → dep ops i' j = true → (j < ops.size ∧ listed.getD j true = true) :=
          fun i' j h1 h2 => ⟨Nat.lt_trans (hf.back i' j h2) h1.1, hcl i' j h1.1 h1.2 h2⟩
        have hpin : ∀ x, pinnedN ops tl x i = true → ∀ k, k < ops.size → tch ops tl k x = true → k ≠ i → (k < i → listed.getD k true = true) ∧ (i < k → listed.getD k true = false) := by
          intro x hp k hk ht hne
          obtain ⟨p1, p2⟩ := pinned_get hp hk ht hne
          refine ⟨fun hlt => ?_, fun hlt => ?_⟩
          · exact (before_closed (S := fun y => y < ops.size ∧ listed.getD y true = true) hS (p1 hlt) (fun y hy => ⟨Nat.lt_trans (hf.back i y hy) hin, hdeps' y hy⟩)).2
          · cases hb : listed.getD k true
            · rfl
            · have := (before_closed (S := fun y => y < ops.size ∧ listed.getD y true = true) hS (p2 hlt) (fun y hy => hS k y ⟨hk, hb⟩ hy)).2
              rw [hun] at this; simp at this
        have hsame : ∀ x, pinnedN ops tl x i = true → Hc[x]? = (hh i)[x]? ∧ (tch ops tl i x = true → ∀ k, i < k → k < l.length → tch ops tl k x = true → listed.getD k true = false) := by
          intro x hp
          obtain ⟨n, hn, h1, h2, h3⟩ := hnm x
          refine ⟨?_, fun _ k hk hkl ht => (hpin x hp k (by omega) ht (by omega)).2 hk⟩
          rw [h3]
          by_cases hni : n ≤ i
          · refine (h_up x n i hni (by omega) (fun j h4 h5 => ?_)).symm
            cases he : tch ops tl j x
            · rfl
            · have a1 := (hpin x hp j (by omega) he (by omega)).1 h5
              have a2 := h2 j h4 (by omega) he
              rw [a1] at a2; simp at a2
          · refine h_up x i n (by omega) hn (fun j h4 h5 => ?_)
            cases he : tch ops tl j x
            · rfl
            · have a1 := h1 j h5 he
              by_cases hji : j = i
              · subst hji; rw [hun] at a1; simp at a1
              · have a2 := (hpin x hp j (by omega) he hji).2 (by omega)
                rw [a1] at a2; simp at a2
        -- its slots are as they are in the order of the text
        have hslots : ∀ s ∈ (ops[i]).looksAt ops, look Γc s = look (gg i) s := by
          intro s hs
          by_cases hw : ∃ j, j < ops.size ∧ dstAt ops j = some s
          · obtain ⟨j, hj, hjs⟩ := hw
            rcases hf.looks i ops[i] s j hoi hs hjs with ⟨hlt, hdp⟩ | ⟨hlt, hdp⟩
            · rw [hs1 s j hjs hj (hdeps' j hdp), ← hgn]
              refine g_up s i l.length (by omega) (Nat.le_refl _) (fun k h1 h2 hk => ?_)
              have := hf.distinct k j s hk hjs
              omega
            · have hunj : listed.getD j true = false := by
                cases hb : listed.getD j true
                · rfl
                · have := hcl j i hj hb hdp; rw [hun] at this; simp at this
              rw [hs2 s (fun k hk hkl hks => by
                have := hf.distinct k j s hks hjs
                subst this
                rw [hunj] at hkl; simp at hkl), ← hg0]
              refine (g_up s 0 i (Nat.zero_le _) (by omega) (fun k _ h2 hk => ?_)).symm
              have := hf.distinct k j s hk hjs
              omega
          · have hno : ∀ j, j < ops.size → dstAt ops j ≠ some s := fun j hj hjs => hw ⟨j, hj, hjs⟩
            rw [hs2 s (fun j hj _ => hno j hj), ← hg0]
            exact (g_up s 0 i (Nat.zero_le _) (by omega) (fun j _ h2 => hno j (by omega))).symm
        have hdst := hf.dst i ops[i] hoi
        -- the state behind it
        have after : ∀ (a' : Act) (w' : World) (H2 : Hp), St w0 A0 N (putG Γc ops[i].dst d) H2 a' w' → (∀ x, Nm (listed.setIfInBounds i true) H2 x) → wpAny P .any ops Q fuel (listed.setIfInBounds i true) a' w' := by
          intro a' w' H2 hst' hnm'
          have hset : ∀ j b, (listed.setIfInBounds i true).getD j b = if j = i then true else listed.getD j b := fun j b => getD_set listed i j b (by omega)
          have hUmem : i ∈ U := (hUi i hin).1 hun
          refine ih (listed.setIfInBounds i true) (U.erase i) a' w' H2 (putG Γc ops[i].dst d) (by simpa using hsize) (hnd.erase i) ?_ ?_ ?_ hnm' ?_ ?_ hst'
          · have := List.length_erase_of_mem hUmem; omega
          · intro j hj
            rw [hset, hnd.mem_erase_iff]
            by_cases e : j = i
            · simp [e]
            · rw [if_neg e]; exact ⟨fun h => ⟨e, (hUi j hj).1 h⟩, fun h => (hUi j hj).2 h.2⟩
          · intro j k hj hjl hjk
            rw [hset] at hjl ⊢
            by_cases e : k = i
            · simp [e]
            · rw [if_neg e]
              by_cases e2 : j = i
              · subst e2; exact hdeps' k hjk
              · rw [if_neg e2] at hjl; exact hcl j k hj hjl hjk
          · intro s j hjs hj hjl
            rw [hset] at hjl
            by_cases e : j = i
            · subst e
              have hds : ops[j].dst = some s := by unfold dstAt at hjs; rw [hoi] at hjs; exact hjs
              rw [hds] at hgs ⊢
              rw [show look (putG Γc (some s) d) s = d from look_cons_self _ _ _, ← hgn]
              rw [g_up s (j + 1) l.length (by omega) (Nat.le_refl _) (fun k h1 h2 hk => by
                have := hf.distinct k j s hk hjs
                omega), hgs]
              exact (look_cons_self _ _ _).symm
            · rw [if_neg e] at hjl
              have hne : ops[i].dst ≠ some s := by
                intro hds
                have : dstAt ops i = some s := by unfold dstAt; rw [hoi]; exact hds
                exact e (hf.distinct j i s hjs this)
              have : look (putG Γc ops[i].dst d) s = look Γc s := by
                cases hd' : ops[i].dst with
                | none => rfl
                | some t => rw [hd'] at hne; exact look_cons_ne (fun e => hne (by rw [e])) _ _
              rw [this]
              exact hs1 s j hjs hj hjl
          · intro s hno
            have hne : ops[i].dst ≠ some s := by
              intro hds
              exact hno i hin (by rw [hset]; simp) (by unfold dstAt; rw [hoi]; exact hds)
            have : look (putG Γc ops[i].dst d) s = look Γc s := by
              cases hd' : ops[i].dst with
              | none => rfl
              | some t => rw [hd'] at hne; exact look_cons_ne (fun e => hne (by rw [e])) _ _
            rw [this]
            refine hs2 s (fun j hj hjl => hno j hj ?_)
            rw [hset]
            by_cases e : j = i
            · simp [e]
            · rw [if_neg e]; exact hjl
        have hset : ∀ j b, (listed.setIfInBounds i true).getD j b = if j = i then true else listed.getD j b := fun j b => getD_set listed i j b (by omega)
        have keep : ∀ x H2, tch ops tl i x = false → H2[x]? = Hc[x]? → Nm (listed.setIfInBounds i true) H2 x := by
          intro x H2 ht hx
          obtain ⟨n, hn, h1, h2, h3⟩ := hnm x
          refine ⟨n, hn, fun k hk htk => ?_, fun k hk hkl htk => ?_, by rw [hx, h3]⟩
          · rw [hset]; split
            · rfl
            · exact h1 k hk htk
          · rw [hset, if_neg (fun e => by subst e; rw [ht] at htk; simp at htk)]
            exact h2 k hk hkl htk
        have hrun : if Region.wanted ops[i] (yielded ops a.tmps) then ops[i].wp P a w (wpAny P .any ops Q fuel (listed.setIfInBounds i true)) Q else wpAny P .any ops Q fuel (listed.setIfInBounds i true) (a.put ops[i].dst undef) w := by
          rcases hcase with ⟨hq, hhq, X', hX', hJ⟩ | ⟨he, hJ, hoth⟩
          · have hnt : ∀ x, tch ops tl i x = false := by
              intro x
              cases ht : tch ops tl i x
              · rfl
              · have := (tch_iff.1 ht).1; rw [heff, hq] at this; simp at this
            refine hJ w0 A0 N Γc Hc a w Q _ hslots ?_ hdst hst (fun a' w' hst' => ?_)
            · rw [hq]
              simp only [Bool.false_eq_true, if_false]
              intro x e hx hxe
              have hxs : Hc[x]? = (hh i)[x]? := by
                by_cases hxX : x ∈ X
                · have h1 := List.all_eq_true.1 hX' x hxX
                  rw [Bool.or_eq_true, List.contains_iff_mem] at h1
                  exact (hsame x (h1.resolve_left hx)).1
                · obtain ⟨n, hn, _, _, h3⟩ := hnm x
                  have hno : ∀ j, j < l.length → tch ops tl j x = false := by
                    intro j hj
                    cases ht : tch ops tl j x
                    · rfl
                    · exact absurd (hf.names j x (by omega) (tch_iff.1 ht).2) hxX
                  rw [h3]
                  rcases Nat.le_total n i with h | h
                  · exact (h_up x n i h (by omega) (fun j _ h2 => hno j (by omega))).symm
                  · exact h_up x i n h hn (fun j _ h2 => hno j (by omega))
              rw [hxs]; exact hxe
            · rw [hq] at hst'
              simp only [Bool.false_eq_true, if_false] at hst'
              exact after a' w' Hc hst' (fun x => keep x Hc (hnt x) rfl)
          · refine hJ w0 A0 N Γc Hc a w Q _ hslots ?_ hdst hst (fun a' w' H2 h1 h2 hst' => ?_)
            · intro x hx
              exact (hsame x (hf.chain i x hin (tch_iff.2 ⟨by rw [heff]; exact he, hx⟩))).1
            · refine after a' w' H2 hst' (fun x => ?_)
              cases ht : tch ops tl i x
              · refine keep x H2 ht (h1 x (fun e => ?_))
                have : tch ops tl i x = true := tch_iff.2 ⟨by rw [heff]; exact he, e⟩
                rw [this] at ht; simp at ht
              · have hx := (tch_iff.1 ht).2
                have hp := hf.chain i x hin ht
                refine ⟨i + 1, by omega, fun k hk htk => ?_, fun k hk hkl htk => ?_, h2 x hx⟩
                · rw [hset]; split
                  · rfl
                  · exact (hpin x hp k (by omega) htk (by assumption)).1 (by omega)
                · rw [hset, if_neg (by omega)]
                  exact (hpin x hp k (by omega) htk (by omega)).2 (by omega)
        unfold wpOp
        rw [hoi]
        simp only []
        split
        · rename_i hw; rw [if_pos hw] at hrun; exact .inl hrun
        · rename_i hw; rw [if_neg hw] at hrun; exact hrun
  have hdrew : St w0 A0 N Γ H a w.drew := let ⟨E, g⟩ := hSt; ⟨E, g.drew⟩
  refine wp_region_any hm ?_
  refine main ops.size (Array.replicate ops.size false) (List.range ops.size) a w.drew H Γ (by simp) List.nodup_range (by simp) ?_ ?_ ?_ ?_ ?_ hdrew
  · intro i hi; simp [hi]
  · intro i j hi h; simp [hi] at h
  · intro x
    refine ⟨0, Nat.zero_le _, fun k hk => by omega, fun k _ hk _ => by simp [hsz, hk], by rw [hh0]⟩
  · intro s j _ hj h; simp [hj] at h
  · intro s _; rfl
end
end Rc
