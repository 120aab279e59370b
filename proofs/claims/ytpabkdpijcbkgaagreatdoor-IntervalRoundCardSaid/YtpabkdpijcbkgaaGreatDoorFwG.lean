/- Slices: length, elements, parts; rows that are made and appended to. -/
import Derived.Test.YtpabkdpijcbkgaaGreatDoorFwF
set_option linter.unusedSimpArgs false
namespace Rc
open Go Go.RowKit

section
variable {P : Program} {ops : Array Oper} {X : List Nat} {o : Oper} {Γ : Gam} {H : Hp}

theorem Jq_len {x : Operand} {t u n : Nat} {ls : List Leaf} (ho : o.op = .call { callee := .builtin .len, args := #[x], argTypes := #[t] }) (hx : opD Γ x = some (D.rep (sliceRep n ls))) (ht : P.underlying t = some (.slice u)) :
    Jq P ops X o Γ H (D.int n) := by
  intro w0 A0 N Γ2 H2 E a w hs hX hG
  obtain ⟨_, ad, cap, h2, _⟩ := op_at hs hG (x := x) (by rw [ho]; simp [Op.operands, Call.operands]) hx
  refine ⟨trivial, goInt n, ?_, rfl, rfl⟩
  simp [execOp, ho, resolve, invoke, builtin, Builtin.len_, h2, run_underlying ht]
theorem Jq_len_own {x : Operand} {t u i n sz : Nat} {e : HE} (ho : o.op = .call { callee := .builtin .len, args := #[x], argTypes := #[t] }) (hx : opD Γ x = some (D.own i n)) (hi : H[i]? = some (some e)) (hXi : i ∉ X)
    (hr : e.row = some sz) (hl : e.ls.length = n * sz) (hsz : 0 < sz) (ht : P.underlying t = some (.slice u)) : Jq P ops X o Γ H (D.int n) := by
  intro w0 A0 N Γ2 H2 E a w hs hX hG
  obtain ⟨_, h2d⟩ := op_at hs hG (x := x) (by rw [ho]; simp [Op.operands, Call.operands]) hx
  have h2 : a.eval x = if E.nil i then .slice none 0 0 else .slice (some ⟨E.b i, 0, none⟩) n (E.cap i) := h2d
  obtain ⟨g1, _⟩ := hG.boxes i e (hX i e hXi hi)
  refine ⟨trivial, goInt n, ?_, rfl, rfl⟩
  cases hn : E.nil i
  · simp only [hn] at h2
    simp [execOp, ho, resolve, invoke, builtin, Builtin.len_, h2, run_underlying ht]
  · unfold HE.ok at g1
    rw [hr] at g1
    simp only [hn, if_true] at g1 h2
    have : n = 0 := by
      rw [g1.1] at hl
      rcases Nat.mul_eq_zero.1 hl.symm with h | h
      · exact h
      · omega
    subst this
    simp [execOp, ho, resolve, invoke, builtin, Builtin.len_, h2, run_underlying ht]

theorem cell_add (b o n : Nat) : (⟨b, o, none⟩ : Addr).add n = ⟨b, o + n, none⟩ := Addr.add_lit b o n

theorem Jq_index {x y : Operand} {t u n sz : Nat} {k : IntKind} {j : Int} {b : Bool} {ls ls' : List Leaf} (ho : o.op = .indexAddr t x y) (hx : opD Γ x = some (D.rep (sliceRep n ls))) (hy : opD Γ y = some (D.val (.int k j)))
    (ht : P.underlying t = some (.slice u)) (hu : TyIs P u b sz) (h0 : 0 ≤ j) (hj : j < n) (hls : (ls.drop (j.toNat * sz)).take sz = ls') : Jq P ops X o Γ H (D.rep (ptrRep ls')) := by
  intro w0 A0 N Γ2 H2 E a w hs hX hG
  obtain ⟨_, ad, cap, h2, hnc, _, hnil, hcells⟩ := op_at hs hG (x := x) (by rw [ho]; simp [Op.operands]) hx
  have e2 := op_val hs hG (x := y) (by rw [ho]; simp [Op.operands]) hy
  cases ad with
  | none => obtain ⟨h3, _⟩ := hnil rfl; omega
  | some ad =>
    obtain ⟨h3, h4⟩ := hcells ad rfl
    obtain ⟨bl, off, sp⟩ := ad
    simp only at h3 h4
    have h3 := h3 (by omega)
    subst h3
    refine ⟨trivial, .pointer (some ⟨bl, off + j.toNat * sz, none⟩), ?_, ⟨bl, off + j.toNat * sz, none⟩, rfl, rfl, fun i l hil => ?_⟩
    · simp [execOp, ho, h2, e2, Instr.indexAt, asIntOf, run_underlying ht, h0, hj, hu.sizeOf, cell_add]
    · rw [← hls, List.getElem?_take] at hil
      split at hil
      · rw [List.getElem?_drop] at hil
        have := h4 _ l hil
        simpa [Nat.add_assoc] using this
      · simp at hil
/-- An element of a slice whose elements are of one cell. -/
theorem Jq_index1 {x y : Operand} {t u n : Nat} {k : IntKind} {j : Int} {b : Bool} {ls : List Leaf} {l : Leaf} (ho : o.op = .indexAddr t x y) (hx : opD Γ x = some (D.rep (sliceRep n ls))) (hy : opD Γ y = some (D.val (.int k j)))
    (ht : P.underlying t = some (.slice u)) (hu : TyIs P u b 1) (h0 : 0 ≤ j) (hj : j < n) (hl : ls[j.toNat]? = some l) : Jq P ops X o Γ H (D.rep (ptrRep [l])) := by
  refine Jq_index ho hx hy ht hu h0 hj ?_
  have hlt := (List.getElem?_eq_some_iff.1 hl)
  obtain ⟨h1, h2⟩ := hlt
  rw [Nat.mul_one, List.drop_eq_getElem_cons h1, h2]
  rfl
theorem Jq_index_own {x y : Operand} {t u i n sz : Nat} {k : IntKind} {j : Int} {b : Bool} {e : HE} (ho : o.op = .indexAddr t x y) (hx : opD Γ x = some (D.own i n)) (hy : opD Γ y = some (D.val (.int k j))) (hi : H[i]? = some (some e)) (hXi : i ∉ X)
    (hl : e.ls.length = n * sz) (hsz : 0 < sz) (ht : P.underlying t = some (.slice u)) (hu : TyIs P u b sz) (h0 : 0 ≤ j) (hj : j < n) {off : Nat} (hoff : j.toNat * sz = off) : Jq P ops X o Γ H (D.ptr i off) := by
  intro w0 A0 N Γ2 H2 E a w hs hX hG
  obtain ⟨h1, h2⟩ := op_at hs hG (x := x) (by rw [ho]; simp [Op.operands]) hx
  have h2 : a.eval x = if E.nil i then .slice none 0 0 else .slice (some ⟨E.b i, 0, none⟩) n (E.cap i) := h2
  have e2 := op_val hs hG (x := y) (by rw [ho]; simp [Op.operands]) hy
  obtain ⟨g1, _⟩ := hG.boxes i e (hX i e hXi hi)
  have hnn := HE.not_nil g1 (by rw [hl]; exact Nat.mul_pos (by omega) hsz)
  simp only [hnn] at h2
  refine ⟨h1, .pointer (some ⟨E.b i, off, none⟩), ?_, rfl⟩
  subst hoff
  simp [execOp, ho, h2, e2, Instr.indexAt, asIntOf, run_underlying ht, h0, hj, hu.sizeOf, cell_add]

/-- A part of a slice that is represented: x[lo:hi]. -/
theorem slice_run {w : World} {A : Nat → Prop} {t u n sz : Nat} {b : Bool} {v : Value} {ls ls' : List Leaf} {lo hi : Nat} {olo ohi : Option Value} (ht : P.underlying t = some (.slice u)) (hu : TyIs P u b sz) (hv : (sliceRep n ls).P A v w)
    (hlo : (∃ k, olo = some (.int k lo)) ∨ (olo = none ∧ lo = 0)) (hhi : (∃ k, ohi = some (.int k hi)) ∨ (ohi = none ∧ hi = n)) (h1 : lo ≤ hi) (h2 : hi ≤ n) (hls : (ls.drop (lo * sz)).take ((hi - lo) * sz) = ls') :
    ∃ v', (Instr.sliceAt t v olo ohi none).run P w = .ok v' w ∧ (sliceRep (hi - lo) ls').P A v' w := by
  obtain ⟨a, cap, rfl, c1, c2, c3, c4⟩ := hv
  have hrun : (Instr.sliceAt t (.slice a n cap) olo ohi none).run P w = .ok (.slice (if cap = lo then a else a.map (·.add (lo * sz))) (hi - lo) (cap - lo)) w := by
    have b1 : hi ≤ cap := by omega
    rcases hlo with ⟨k, rfl⟩ | ⟨rfl, rfl⟩ <;> rcases hhi with ⟨k', rfl⟩ | ⟨rfl, rfl⟩ <;>
      simp [Instr.sliceAt, Instr.slice, run_underlying ht, Instr.sliceBounds, Instr.sliceBound, asIntOf, hu.sizeOf, b1, h1, c1]
  refine ⟨_, hrun, (if cap = lo then a else a.map (·.add (lo * sz))), cap - lo, rfl, by omega, by omega, fun hn => ?_, fun ad had => ?_⟩
  · have ha : a = none := by
      split at hn
      · exact hn
      · simpa using hn
    obtain ⟨d1, d2, d3⟩ := c3 ha
    subst d2
    exact ⟨by omega, by rw [← hls]; simp, by omega⟩
  · by_cases hc : cap = lo
    · rw [if_pos hc] at had
      obtain ⟨e1, e2⟩ := c4 ad had
      refine ⟨fun h => by omega, fun i l hl => ?_⟩
      rw [← hls, show hi - lo = 0 from by omega] at hl
      simp at hl
    · rw [if_neg hc] at had
      cases a with
      | none => simp at had
      | some ad0 =>
        obtain ⟨e1, e2⟩ := c4 ad0 rfl
        obtain ⟨bl, off, sp⟩ := ad0
        simp only at e1 e2
        have e1 := e1 (by omega)
        subst e1
        simp only [Option.map_some, Option.some.injEq, cell_add] at had
        subst had
        refine ⟨fun _ => rfl, fun i l hl => ?_⟩
        rw [← hls, List.getElem?_take] at hl
        split at hl
        · rw [List.getElem?_drop] at hl
          have := e2 _ l hl
          simpa [Nat.add_assoc] using this
        · simp at hl
theorem Jq_slice_hi {x y : Operand} {t u n sz : Nat} {k : IntKind} {hi : Nat} {b : Bool} {ls ls' : List Leaf} (ho : o.op = .slice t x none (some y) none) (hx : opD Γ x = some (D.rep (sliceRep n ls))) (hy : opD Γ y = some (D.val (.int k hi)))
    (ht : P.underlying t = some (.slice u)) (hu : TyIs P u b sz) (h2 : hi ≤ n) (hls : ls.take (hi * sz) = ls') : Jq P ops X o Γ H (D.rep (sliceRep hi ls')) := by
  intro w0 A0 N Γ2 H2 E a w hs hX hG
  obtain ⟨_, hv⟩ := op_at hs hG (x := x) (by rw [ho]; simp [Op.operands]) hx
  have e2 := op_val hs hG (x := y) (by rw [ho]; simp [Op.operands]) hy
  obtain ⟨v', h3, h4⟩ := slice_run (lo := 0) (hi := hi) ht hu hv (.inr ⟨rfl, rfl⟩) (.inl ⟨k, rfl⟩) (Nat.zero_le _) h2 (ls' := ls') (by simpa using hls)
  rw [Nat.sub_zero] at h4
  exact ⟨trivial, v', by simp [execOp, ho, e2, h3], h4⟩
theorem Jq_slice_lo {x y : Operand} {t u n sz : Nat} {k : IntKind} {lo : Nat} {b : Bool} {ls ls' : List Leaf} (ho : o.op = .slice t x (some y) none none) (hx : opD Γ x = some (D.rep (sliceRep n ls))) (hy : opD Γ y = some (D.val (.int k lo)))
    (ht : P.underlying t = some (.slice u)) (hu : TyIs P u b sz) (h2 : lo ≤ n) {m : Nat} (hm : n - lo = m) (hls : (ls.drop (lo * sz)).take (m * sz) = ls') : Jq P ops X o Γ H (D.rep (sliceRep m ls')) := by
  intro w0 A0 N Γ2 H2 E a w hs hX hG
  subst hm
  obtain ⟨_, hv⟩ := op_at hs hG (x := x) (by rw [ho]; simp [Op.operands]) hx
  have e2 := op_val hs hG (x := y) (by rw [ho]; simp [Op.operands]) hy
  obtain ⟨v', h3, h4⟩ := slice_run (lo := lo) (hi := n) ht hu hv (.inl ⟨k, rfl⟩) (.inr ⟨rfl, rfl⟩) h2 (Nat.le_refl _) hls
  exact ⟨trivial, v', by simp [execOp, ho, e2, h3], h4⟩
theorem Jq_slice_lohi {x y z : Operand} {t u n sz : Nat} {k k' : IntKind} {lo hi : Nat} {b : Bool} {ls ls' : List Leaf} (ho : o.op = .slice t x (some y) (some z) none) (hx : opD Γ x = some (D.rep (sliceRep n ls))) (hy : opD Γ y = some (D.val (.int k lo)))
    (hz : opD Γ z = some (D.val (.int k' hi))) (ht : P.underlying t = some (.slice u)) (hu : TyIs P u b sz) (h1 : lo ≤ hi) (h2 : hi ≤ n) {m : Nat} (hm : hi - lo = m) (hls : (ls.drop (lo * sz)).take (m * sz) = ls') : Jq P ops X o Γ H (D.rep (sliceRep m ls')) := by
  intro w0 A0 N Γ2 H2 E a w hs hX hG
  subst hm
  obtain ⟨_, hv⟩ := op_at hs hG (x := x) (by rw [ho]; simp [Op.operands]) hx
  have e2 := op_val hs hG (x := y) (by rw [ho]; simp [Op.operands]) hy
  have e3 := op_val hs hG (x := z) (by rw [ho]; simp [Op.operands]) hz
  obtain ⟨v', h3, h4⟩ := slice_run (lo := lo) (hi := hi) ht hu hv (.inl ⟨k, rfl⟩) (.inl ⟨k', rfl⟩) h1 h2 hls
  exact ⟨trivial, v', by simp [execOp, ho, e2, e3, h3], h4⟩

/-! ## Rows of the function's own -/
/-- make([]T, n) -/
theorem Je_make {t u sz : Nat} {x y : Operand} {n : Nat} {i : Nat} {k k' : IntKind} {zs ls : List Leaf} {inf : TypeInfo} {z : Value} (ho : o.op = .makeSlice t x y) (hx : opD Γ x = some (D.val (.int k n))) (hy : opD Γ y = some (D.val (.int k' n)))
    (ht : P.underlying t = some (.slice u)) (hinf : P.info? u = some inf) (hz : inf.zero = some z) (hsz : inf.size = sz) (hsz0 : 0 < sz) (hzl : z.cells.toList.map zleaf = zs) (hz1 : z.cells.toList.all Value.oneCell' = true) (hzs : zs.length = sz)
    (hb : inf.bytes * n ≤ 281474976710656) (hm : n ≤ maxLen) (hls : zcells (n * sz) zs = ls) (hi : H.length = i) : Je P ops o Γ H (some (D.own i n)) (H ++ [some ⟨u, ls, some sz, none⟩]) := by
  intro w0 A0 N Γ2 a w Q K hs hN hSt hK
  obtain ⟨E, hG⟩ := hSt
  have e1 := op_val hs hG (x := x) (by rw [ho]; simp [Op.operands]) hx
  have e2 := op_val hs hG (x := y) (by rw [ho]; simp [Op.operands]) hy
  have hzd : denL E.A zs z.cells.toList w := hzl ▸ zleaves_den hz1
  have hc : denL E.A ls (madeCells z.cells (n * sz)).toList w := hls ▸ zcells_den hzd (by omega) (n * sz)
  obtain ⟨E', hG', hb', hcap, hnil, hA⟩ := hG.alloc (t := u) (row := some sz) (cap := n) hc (fun s h => by cases h; exact ⟨hm, by simp [size_madeCells]⟩)
  rw [show (madeCells z.cells (n * sz)).toList.toArray = madeCells z.cells (n * sz) from Array.toArray_toList] at hG'
  have hr := run_make (P := P) w t u inf z ht hinf hz k k' n n (by omega) (Int.le_refl _) (by rw [← Int.natCast_mul]; omega) (by simp only [maxLen] at hm; omega)
  rw [hsz, show ((n : Int)).toNat = n from by omega] at hr
  refine wp_valueW (v := .slice (some ⟨w.heap.size, 0, none⟩) n n) (w' := w.alloc (.cells (madeCells z.cells (n * sz)) u)) (by simp [execOp, ho, e1, e2, hr]) (hK _ _ ⟨E', hG'.put (fun d hd => ?_) hN⟩)
  cases hd
  subst hi
  refine ⟨okn_new, ?_⟩
  show _ = _
  rw [hnil, hb', hcap]
  rfl
end

section
variable {P : Program} {ops : Array Oper} {Q : Exit → Act → World → Prop} {w0 : Frm} {A0 : Nat → Prop} {N : Nat} {Γ : Gam} {H : Hp}

/-- A nil slice that will be appended to: an own row. -/
theorem Tl_nil_own {o : Oper} {rest : List Oper} {s i sz u : Nat} (ho : o.op = .assign (.const (.slice none 0 0))) (hg : o.guard = none) (hd : o.dst = some s) (hN : dstOk N (some s) = true) (hi : H.length = i)
    (h : Tl P ops Q w0 A0 N ((s, some (D.own i 0)) :: Γ) (H ++ [some ⟨u, [], some sz, none⟩]) rest) : Tl P ops Q w0 A0 N Γ H (o :: rest) := by
  intro a w hSt
  obtain ⟨E, hG⟩ := hSt
  unfold wpList
  rw [if_pos (by simp [Region.wanted, hg])]
  refine .inl (wp_value (v := .slice none 0 0) (by simp [execOp, ho, Act.eval]) ?_)
  rw [hd]
  refine h _ _ ?_
  subst hi
  have h1 : Good w0 A0 N Γ (H ++ [none]) E a w := by
    have back : ∀ (j : Nat) (e : HE), (H ++ [none])[j]? = some (some e) → H[j]? = some (some e) := by
      intro j e hj
      by_cases hl : j < H.length
      · rwa [List.getElem?_append_left hl] at hj
      · rw [List.getElem?_append_right (by omega)] at hj
        by_cases h0 : j - H.length = 0
        · rw [h0] at hj; simp at hj
        · rw [List.getElem?_eq_none (by simp; omega)] at hj; simp at hj
    refine ⟨hG.below, hG.foot, hG.foot0, hG.defers, hG.size, fun s d hs => ?_, fun j e hj => hG.boxes j e (back j e hj), fun j1 j2 e1 e2 g1 g2 => hG.apart j1 j2 e1 e2 (back _ _ g1) (back _ _ g2)⟩
    obtain ⟨ho', v, hv, hd'⟩ := hG.slots s d hs
    exact ⟨ho'.mono_app, v, hv, hd'⟩
  have h2 := h1.bind (i := H.length) (b := 0) (cap := 0) (nl := true) (e := ⟨u, [], some sz, none⟩) (by simp) (fun s d hs => ?_) rfl (by simp [HE.ok]) (fun h => by simp at h)
  · rw [List.set_append_right _ _ (Nat.le_refl _)] at h2
    simp only [Nat.sub_self, List.set_cons_zero] at h2
    exact ⟨_, h2.put (dst := some s) (d := some (D.own H.length 0)) (fun d hd => by cases hd; exact ⟨okn_new, by show _ = _; simp⟩) hN⟩
  · obtain ⟨ho', _⟩ := hG.slots s d hs
    rcases d with x | xs | ⟨i, o⟩ | ⟨i, n⟩
    · simp [D.nm]
    · simp [D.nm]
    · have : i < H.length := okn_lt ho'
      simp [D.nm]; omega
    · have : i < H.length := okn_lt ho'
      simp [D.nm]; omega

theorem append_ty (w : World) {t t2 u u2 ty : TypeId} (s x : Value) (ht : P.underlying t = some (.slice u)) (ht2 : P.underlying t2 = some (.slice u2)) :
    (Builtin.append_ #[t, t2] ty #[s, x]).run P w = (Builtin.append_ #[t, t] ty #[s, x]).run P w := by
  cases s <;> simp [Builtin.append_, run_underlying ht, run_underlying ht2]
/-- append to an own row, of what a slice that is represented holds. -/
theorem Tl_append {o : Oper} {rest : List Oper} {x y : Operand} {t t2 u u2 i n m s sz : Nat} {e : HE} {ls2 ls : List Leaf} {inf : TypeInfo} {z : Value}
    (ho : o.op = .call { callee := .builtin .append, args := #[x, y], argTypes := #[t, t2] }) (hg : o.guard = none) (hdst : o.dst = some s) (hN : dstOk N (some s) = true)
    (hx : opD Γ x = some (D.own i n)) (hy : opD Γ y = some (D.rep (sliceRep m ls2))) (hi : H[i]? = some (some e)) (hr : e.row = some sz) (het : e.t = u) (hl : e.ls.length = n * sz) (hl2 : ls2.length = m * sz) (hsz : 0 < sz)
    (ht : P.underlying t = some (.slice u)) (ht2 : P.underlying t2 = some (.slice u2)) (hinf : P.info? u = some inf) (hz : inf.zero = some z) (hisz : inf.size = sz) (hzs : z.cells.size = sz)
    (hlen : n + m ≤ maxLen) (hbytes : (n + m) * inf.bytes ≤ 140737488355328) {nm : Nat} (hnm : n + m = nm) (hls : e.ls ++ ls2 = ls)
    (h : Tl P ops Q w0 A0 N ((s, some (D.own i nm)) :: dropName i Γ) (H.set i (some { e with ls := ls })) rest) (hp : e.pin = none := by rfl) : Tl P ops Q w0 A0 N Γ H (o :: rest) := by
  intro a w hSt
  obtain ⟨E, hG⟩ := hSt
  unfold wpList
  rw [if_pos (by simp [Region.wanted, hg])]
  left
  subst hnm hls het hisz
  obtain ⟨hoki', h1d⟩ := op_den hG hx
  have hoki : i < H.length := okn_lt hoki'
  have h1 : a.eval x = if E.nil i then .slice none 0 0 else .slice (some ⟨E.b i, 0, none⟩) n (E.cap i) := h1d
  clear h1d hoki'
  obtain ⟨_, ay, capy, h2, cy1, cy2, cy3, cy4⟩ := op_den hG hy
  obtain ⟨g1, g2⟩ := hG.boxes i e hi
  -- the cells that are appended
  have hnews : ∃ news : List Value, denL E.A ls2 news w ∧ ∀ ad, ay = some ad → ∀ j v, news[j]? = some v → w.cell? (ad.add j) = some v := by
    cases ay with
    | none =>
      obtain ⟨_, e2, _⟩ := cy3 rfl
      subst e2
      exact ⟨[], trivial, fun ad h => by simp at h⟩
    | some ad =>
      by_cases hcy : capy = 0
      · have hm0 : m = 0 := by omega
        have hl0 : ls2 = [] := List.eq_nil_of_length_eq_zero (by rw [hl2, hm0, Nat.zero_mul])
        subst hl0
        exact ⟨[], trivial, fun ad _ j v h => by simp at h⟩
      obtain ⟨d1, d2⟩ := cy4 ad rfl
      obtain ⟨bl, off, sp⟩ := ad
      simp only at d1 d2
      have d1 := d1 (by omega)
      subst d1
      have hex : ∀ (ls : List Leaf) (off : Nat), (∀ (i : Nat) (l : Leaf), ls[i]? = some l → E.A bl ∧ ∃ x, w.cell? ⟨bl, off + i, none⟩ = some x ∧ l.den E.A x w) →
          ∃ cs : List Value, denL E.A ls cs w ∧ ∀ j v, cs[j]? = some v → w.cell? ⟨bl, off + j, none⟩ = some v := by
        intro ls
        induction ls with
        | nil => intro off _; exact ⟨[], trivial, fun j v h => by simp at h⟩
        | cons l ls ih =>
          intro off h
          obtain ⟨_, x, hx, hd⟩ := h 0 l rfl
          obtain ⟨cs, hcs, hcc⟩ := ih (off + 1) (fun i l hi => by
            have := h (i + 1) l (by simpa using hi)
            rwa [show off + (i + 1) = off + 1 + i from by omega] at this)
          refine ⟨x :: cs, ⟨hd, hcs⟩, fun j v hj => ?_⟩
          cases j with
          | zero => simp at hj; subst hj; exact hx
          | succ j => have := hcc j v (by simpa using hj); rwa [show off + (j + 1) = off + 1 + j from by omega]
      obtain ⟨cs, hcs, hcc⟩ := hex ls2 off d2
      exact ⟨cs, hcs, fun ad had j v hj => by cases had; rw [cell_add]; exact hcc j v hj⟩
  obtain ⟨news, hnd, hnc⟩ := hnews
  have hnl : news.length = m * inf.size := by rw [hnd.length, hl2]
  have hn1 := hnd.one
  have hexec : ∀ v' w', (Builtin.append_ #[t, t] o.type #[a.eval x, a.eval y]).run P w = .ok v' w' → (execOp a.eval o).run P w = .ok (.value v') w' := by
    intro v' w' hh
    simp [execOp, ho, resolve, invoke, builtin, append_ty w _ _ ht ht2, hh]
  have ownv : ∀ (k : Nat) (w' : World), E.nil i = false → (D.own i k).den E (.slice (some ⟨E.b i, 0, none⟩) k (E.cap i)) w' := by
    intro k w' hn
    show _ = if E.nil i then _ else _
    rw [hn]; rfl
  have nilv : ∀ (w' : World), E.nil i = true → (D.own i 0).den E (.slice none 0 0) w' := by
    intro w' hn
    show _ = if E.nil i then _ else _
    rw [hn]; rfl
  have hset : H.set i (some { e with ls := e.ls ++ [] }) = H := by
    rw [List.append_nil]
    apply List.ext_getElem?
    intro j
    rw [getElem?_set']
    by_cases hij : i = j
    · subst hij; rw [if_pos rfl, if_pos hoki, hi]
    · rw [if_neg hij]
  -- where nothing is appended, or there is room: in place
  have inPlace : E.nil i = false → n + m ≤ E.cap i → ay ≠ none → Oper.wp P o a w (wpList P ops Q rest) Q := by
    intro hn hroom hay
    cases hay' : ay with
    | none => exact absurd hay' hay
    | some ad =>
      subst hay'
      simp only [hn, Bool.false_eq_true, if_false] at h1
      unfold HE.ok at g1
      rw [hr] at g1
      simp only [hn] at g1
      obtain ⟨hm, cs, rest', hc, hlc, hcd⟩ := g1
      have hcl := hcd.length
      have hfit : n * inf.size + news.length ≤ (cs ++ rest').toArray.size := by
        rw [hnl, ← Nat.add_mul]
        simp only [List.size_toArray]
        rw [hlc]
        exact Nat.mul_le_mul_right _ hroom
      have hrun := run_append_room (P := P) w t o.type e.t inf ht hinf (E.b i) n (E.cap i) (cs ++ rest').toArray hc ad m capy news hnl (hnc ad rfl) hn1 hroom hfit
      have hcsn : cs.length = n * inf.size := by rw [hcl, hl]
      have hrow : ((cs ++ rest').toArray.toList.take (n * inf.size) ++ news ++ (cs ++ rest').toArray.toList.drop (n * inf.size + news.length)) = (cs ++ news) ++ rest'.drop news.length := by
        show ((cs ++ rest').take _ ++ news ++ (cs ++ rest').drop _) = _
        rw [List.take_append_of_le_length (by omega), List.take_of_length_le (by omega), ← hcsn, List.drop_append]
        simp
      rw [hrow] at hrun
      have hG' := hG.setRow hi hn (ls' := e.ls ++ ls2) (cs' := cs ++ news) (rest' := rest'.drop news.length) hc
        (by simp at hfit ⊢; omega) (fun h => by rw [hr] at h; simp at h) (hcd.append hnd)
      refine wp_valueW (v := .slice (some ⟨E.b i, 0, none⟩) (n + m) (E.cap i)) (hexec _ _ (by rw [h1, h2]; exact hrun)) ?_
      rw [hdst]
      refine h _ _ ⟨E, ?_⟩
      have hdrop : Good w0 A0 N (dropName i Γ) (H.set i (some { e with ls := e.ls ++ ls2 })) E a _ :=
        ⟨hG'.below, hG'.foot, hG'.foot0, hG'.defers, hG'.size, fun s d hs => hG'.slots s d (by rw [look_drop] at hs; exact (keepD_some hs).1), hG'.boxes, hG'.apart⟩
      exact hdrop.put (dst := some s) (d := some (D.own i (n + m))) (fun d hd => by cases hd; exact ⟨okn_set hi, ownv _ _ hn⟩) hN
  -- a new block
  have anew : ∀ (cap : Nat) (cells : List Value) (spare : List Value), n + m ≤ cap → cap ≤ maxLen → denL E.A e.ls cells w → (cells ++ news ++ spare).length = cap * inf.size →
      (Builtin.append_ #[t, t] o.type #[a.eval x, a.eval y]).run P w = .ok (.slice (some ⟨w.heap.size, 0, none⟩) (n + m) cap) (w.drew.alloc (.cells (cells ++ news ++ spare).toArray e.t)) →
      Oper.wp P o a w (wpList P ops Q rest) Q := by
    intro cap cells spare hcap hcm hcd hcl hrun
    refine wp_valueW (hexec _ _ hrun) ?_
    rw [hdst]
    refine h _ _ ?_
    have hf := hG.free i
    have hb0 := below_alloc w.drew (.cells (cells ++ news ++ spare).toArray e.t)
    have hb : Below w.heap.size w (w.drew.alloc (.cells (cells ++ news ++ spare).toArray e.t)) := ⟨hb0.os, hb0.tape, hb0.output, hb0.size, hb0.block⟩
    have hk : ∀ k, E.A k → (w.drew.alloc (.cells (cells ++ news ++ spare).toArray e.t)).heap[k]? = w.heap[k]? := fun k hk => hb.block k (hG.foot k hk)
    have hsz' : (w.drew.alloc (.cells (cells ++ news ++ spare).toArray e.t)).heap.size = w.heap.size + 1 := by
      rw [World.size_alloc]; rfl
    have hnew : (w.drew.alloc (.cells (cells ++ news ++ spare).toArray e.t)).heap[w.heap.size]? = some (.cells (cells ++ news ++ spare).toArray e.t (0, 0)) := heap_alloc_new w.drew _
    -- the state in the new world, E as it was
    have hgw : Good w0 A0 N (dropName i Γ) (H.set i none) E a (w.drew.alloc (.cells (cells ++ news ++ spare).toArray e.t)) :=
      ⟨hf.below.then (hb.mono hG.below.size), fun k hk => by have := hG.foot k hk; omega, hf.foot0, hf.defers, hf.size,
        fun s d hs => let ⟨ho', v, hv, hd⟩ := hf.slots s d hs; ⟨ho', v, hv, D.den_keep hk hd⟩,
        fun j e' hj => ⟨HE.ok_keep hk (fun hn => hb.block _ (HE.ok_lt (hf.boxes j e' hj).1 hn)) (hf.boxes j e' hj).1, (hf.boxes j e' hj).2⟩, hf.apart⟩
    have hbind := hgw.bind (i := i) (b := w.heap.size) (cap := cap) (nl := false) (e := { e with ls := e.ls ++ ls2 }) (by simp [hoki])
      (fun s d hs => by rw [look_drop] at hs; exact (keepD_some hs).2) rfl
      (by
        unfold HE.ok
        simp only [hr, if_true]
        exact ⟨hcm, cells ++ news, spare, hnew, hcl, (hcd.append hnd).keep hk⟩)
      (fun _ => ⟨by show w0.mine e.pin _; rw [hp]; exact hG.below.size, fun hA => by have := hG.foot _ hA; omega, fun j e' hj hn' hbj => by
        have := HE.ok_lt (hf.boxes j e' hj).1 hn'
        have h3 : (w.drew).heap.size = w.heap.size := rfl
        omega⟩)
    rw [List.set_set] at hbind
    exact ⟨_, hbind.put (dst := some s) (d := some (D.own i (n + m))) (fun d hd => by cases hd; exact ⟨okn_set hi, by show _ = _; simp⟩) hN⟩
  have harr : ∀ (cs : List Value) (Z : Array Value), (cs ++ news ++ Z.toList).toArray = cs.toArray ++ news.toArray ++ Z := fun cs Z => by
    apply Array.ext'
    simp
  have hcapm : ∀ old, grownCap w (n + m) old e.t ≤ maxLen := fun old => grownCap_le_maxLen w (n + m) old e.t hlen
  have hcapg : ∀ old, n + m ≤ grownCap w (n + m) old e.t := fun old => grownCap_ge w (n + m) old e.t
  have h63 : n + m ≤ 9223372036854775807 := by simp only [maxLen] at hlen; omega
  have hspare : ∀ c : Nat, (Builtin.zeroCells z.cells c).toList.length = c * inf.size := by intro c; simp [size_zeroCells, hzs]
  cases hn : E.nil i
  · -- a row that is there
    simp only [hn, Bool.false_eq_true, if_false] at h1
    have g1' := g1
    unfold HE.ok at g1'
    rw [hr] at g1'
    simp only [hn] at g1'
    obtain ⟨hm, cs, rest', hc, hlc, hcd⟩ := g1'
    have hcl := hcd.length
    have hcsn : cs.length = n * inf.size := by rw [hcl, hl]
    have hncap : n ≤ E.cap i := by
      have : n * inf.size ≤ E.cap i * inf.size := by rw [← hlc, ← hcsn]; simp
      exact Nat.le_of_mul_le_mul_right this hsz
    cases hay : ay with
    | none =>
      -- nothing is appended: a nil slice
      subst hay
      obtain ⟨e1, e2, e3⟩ := cy3 rfl
      subst e1 e2
      have hrun : (Builtin.append_ #[t, t] o.type #[a.eval x, a.eval y]).run P w = .ok (.slice (some ⟨E.b i, 0, none⟩) n (E.cap i)) w := by
        rw [h1, h2]
        simp [Builtin.append_, run_underlying ht, Go.sizeOf, typeInfo, hinf, Builtin.lenOf, hncap, Builtin.firstCells, storeCells]
      refine wp_valueW (hexec _ _ hrun) ?_
      rw [hdst]
      refine h _ _ ⟨E, ?_⟩
      rw [hset]
      have hdrop : Good w0 A0 N (dropName i Γ) H E a w :=
        ⟨hG.below, hG.foot, hG.foot0, hG.defers, hG.size, fun s d hs => hG.slots s d (by rw [look_drop] at hs; exact (keepD_some hs).1), hG.boxes, hG.apart⟩
      exact hdrop.put (dst := some s) (d := some (D.own i (n + 0))) (fun d hd => by cases hd; exact ⟨⟨e, hi⟩, ownv _ _ hn⟩) hN
    | some ad =>
      by_cases hroom : n + m ≤ E.cap i
      · exact inPlace hn hroom (by rw [hay]; simp)
      · subst hay
        have holds : ∀ j u, cs[j]? = some u → w.cell? ((⟨E.b i, 0, none⟩ : Addr).add j) = some u := by
          intro j u hu
          have hlt := (List.getElem?_eq_some_iff.1 hu).1
          rw [cell_add, Nat.zero_add]
          exact load_cell hc (by rw [List.getElem?_append_left hlt]; exact hu)
        have hrun := run_append_grow (P := P) w t o.type e.t inf z ht hinf hz ⟨E.b i, 0, none⟩ n (E.cap i) cs hcsn holds ad m capy news hnl (hnc ad rfl) (by omega) (by omega) (growslice_fits (by omega) hbytes)
        refine anew (grownCap w (n + m) (E.cap i) e.t) cs (Builtin.zeroCells z.cells (grownCap w (n + m) (E.cap i) e.t - (n + m))).toList (hcapg _) (hcapm _) hcd ?_ ?_
        · rw [List.length_append, List.length_append, hcsn, hnl, hspare, ← Nat.add_mul, ← Nat.add_mul]
          congr 1
          have := hcapg (E.cap i)
          omega
        · rw [h1, h2, harr]
          exact hrun
  · -- a nil row
    simp only [hn, if_true] at h1
    have g1' := g1
    unfold HE.ok at g1'
    rw [hr] at g1'
    simp only [hn, if_true] at g1'
    have hn0 : n = 0 := by
      rw [g1'.1] at hl
      rcases Nat.mul_eq_zero.1 hl.symm with h | h
      · exact h
      · omega
    subst hn0
    by_cases hm0 : m = 0
    · subst hm0
      have hls2 : ls2 = [] := List.eq_nil_of_length_eq_zero (by simpa using hl2)
      subst hls2
      have hrun : (Builtin.append_ #[t, t] o.type #[a.eval x, a.eval y]).run P w = .ok (.slice none 0 0) w := by
        rw [h1, h2]
        cases ay <;> simp [Builtin.append_, run_underlying ht, Go.sizeOf, typeInfo, hinf, Builtin.lenOf, Builtin.firstCells, loadCells, loadCellsFrom]
      refine wp_valueW (hexec _ _ hrun) ?_
      rw [hdst]
      refine h _ _ ⟨E, ?_⟩
      rw [hset]
      have hdrop : Good w0 A0 N (dropName i Γ) H E a w :=
        ⟨hG.below, hG.foot, hG.foot0, hG.defers, hG.size, fun s d hs => hG.slots s d (by rw [look_drop] at hs; exact (keepD_some hs).1), hG.boxes, hG.apart⟩
      exact hdrop.put (dst := some s) (d := some (D.own i (0 + 0))) (fun d hd => by cases hd; exact ⟨⟨e, hi⟩, nilv _ hn⟩) hN
    · cases hay : ay with
      | none => obtain ⟨e1, _⟩ := cy3 hay; omega
      | some ad =>
        subst hay
        have hnb : m * inf.bytes ≤ 281474976710656 := by have := hbytes; simp only [Nat.zero_add] at this; omega
        have hrun := run_append_nil (P := P) w t o.type e.t inf z ht hinf hz ad m capy news hnl (hnc ad rfl) (by omega) (by omega) hnb
        refine anew (grownCap w (0 + m) 0 e.t) [] (Builtin.zeroCells z.cells (grownCap w (0 + m) 0 e.t - (0 + m))).toList (hcapg _) (hcapm _) (by rw [g1'.1]; trivial) ?_ ?_
        · rw [List.length_append, List.length_append, hnl, hspare]
          simp only [List.length_nil, Nat.zero_add]
          rw [← Nat.add_mul]
          congr 1
          have := hcapg 0
          simp only [Nat.zero_add] at this
          omega
        · rw [h1, h2, harr]
          simp only [Nat.zero_add]
          simpa using hrun
end
end Rc
