/- Package-level tables; a made slice that is appended to at once. -/
import Derived.Test.YtpabkdpijcbkgaaGreatDoorFwL
set_option linter.unusedSimpArgs false
set_option linter.unusedVariables false
namespace Rc
open Go Go.RowKit
section
variable {P : Program} {ops : Array Oper} {X : List Nat} {o : Oper} {Γ : Gam} {H : Hp}
/-- The address of an element of a package-level table. -/
theorem Jq_index_glob {t u g n sz j : Nat} {k : IntKind} {b : Bool} {y : Operand} (ho : o.op = .indexAddr t (.global g) y) (hy : opD Γ y = some (D.val (.int k j)))
    (ht : P.underlying t = some (.array n u)) (hu : TyIs P u b sz) (hj : j < n) : Jq P ops X o Γ H (D.val (.pointer (some ⟨g, j * sz, none⟩))) := by
  intro w0 A0 N Γ2 H2 E a w hs hX hG
  have e2 := op_val hs hG (x := y) (by rw [ho]; simp [Op.operands]) hy
  have h2 : a.eval (.global g) = .pointer (some ⟨g, 0, none⟩) := rfl
  refine ⟨trivial, .pointer (some ⟨g, j * sz, none⟩), ?_, rfl, rfl⟩
  simp [execOp, ho, h2, e2, Instr.indexAt, Instr.sureAddr, asIntOf, run_underlying ht, hj, hu.sizeOf, cell_add]
/-- What an element of a package-level table holds. -/
theorem Jq_load_glob {x : Operand} {t g off : Nat} {l : List Value} {v : Value} (ho : o.op = .load t x) (hx : opD Γ x = some (D.val (.pointer (some ⟨g, off, none⟩)))) (ht : TyIs P t false 1)
    (hg : (g, l) ∈ tab) (hl : l[off]? = some v) (h1 : v.oneCell' = true) : Jq P ops X o Γ H (D.val v) := by
  intro w0 A0 N Γ2 H2 E a w hs hX hG
  have h2 := op_val hs hG (x := x) (by rw [ho]; simp [Op.operands]) hx
  have hc := (hG.below.now (g, l) hg).2 off v hl
  exact ⟨trivial, v, by simp [execOp, ho, h2, Instr.loadAt, Instr.sureAddr, loadVar, ht.isAgg, load, Sem.run, hc], rfl, h1⟩

def fieldTy (P : Program) (s f : Nat) : Option (Nat × Nat) :=
  match P.underlying s with
  | some (.struct fields) => (fields[f]?).map fun fl => (fl.offset, fl.type)
  | _ => none
/-- A field of a struct value. -/
theorem Jq_fieldT {x : Operand} {s f fo t : Nat} {ls : List Leaf} {l : Leaf} (ho : o.op = .field s x f) (hx : opD Γ x = some (D.agg ls)) (hf : fieldTy P s f = some (fo, t)) (ht : TyIs P t false 1) (hls : ls[fo]? = some l) :
    Jq P ops X o Γ H (D.v (V.one l)) := by
  unfold fieldTy at hf
  split at hf
  · rename_i fields hu
    cases hfl : fields[f]? with
    | none => rw [hfl] at hf; simp at hf
    | some fl =>
      rw [hfl] at hf
      simp only [Option.map_some, Option.some.injEq, Prod.mk.injEq] at hf
      obtain ⟨h1, h2⟩ := hf
      subst h2
      exact Jq_field ho hx hu hfl h1 ht hls
  · simp at hf

/-- A slice without room behind its elements. -/
def sliceFull (n : Nat) (ls : List Leaf) : Rep where
  P A v w := (sliceRep n ls).P A v w ∧ ∃ ad, v = .slice (some ad) n n
  mono := fun hA h => ⟨(sliceRep n ls).mono hA h.1, h.2⟩
  keep := fun hk h => ⟨(sliceRep n ls).keep hk h.1, h.2⟩
  one := fun h => (sliceRep n ls).one h.1

/-- make([]T, n), shared at once. -/
theorem Je_makeFull {t u sz : Nat} {x y : Operand} {n : Nat} {k k' : IntKind} {zs ls : List Leaf} {inf : TypeInfo} {z : Value} (ho : o.op = .makeSlice t x y) (hx : opD Γ x = some (D.val (.int k n))) (hy : opD Γ y = some (D.val (.int k' n)))
    (ht : P.underlying t = some (.slice u)) (hinf : P.info? u = some inf) (hz : inf.zero = some z) (hsz : inf.size = sz) (hsz0 : 0 < sz) (hzl : z.cells.toList.map zleaf = zs) (hz1 : z.cells.toList.all Value.oneCell' = true) (hzs : zs.length = sz)
    (hb : inf.bytes * n ≤ 281474976710656) (hm : n ≤ maxLen) (hls : zcells (n * sz) zs = ls) : ∀ H2 : Hp, Je P ops o Γ H2 (some (D.rep (sliceFull n ls))) H2 := by
  intro H2 w0 A0 N Γ2 a w Q K hs hN hSt hK
  obtain ⟨E, hG⟩ := hSt
  have e1 := op_val hs hG (x := x) (by rw [ho]; simp [Op.operands]) hx
  have e2 := op_val hs hG (x := y) (by rw [ho]; simp [Op.operands]) hy
  have hzd : denL E.A zs z.cells.toList w := hzl ▸ zleaves_den hz1
  have hc : denL E.A ls (madeCells z.cells (n * sz)).toList w := hls ▸ zcells_den hzd (by omega) (n * sz)
  have hbl := below_alloc w (.cells (madeCells z.cells (n * sz)) u)
  have hG' := hG.grow hbl
  have hr := run_make (P := P) w t u inf z ht hinf hz k k' n n (by omega) (Int.le_refl _) (by rw [← Int.natCast_mul]; omega) (by simp only [maxLen] at hm; omega)
  rw [hsz, show ((n : Int)).toNat = n from by omega] at hr
  refine wp_valueW (v := .slice (some ⟨w.heap.size, 0, none⟩) n n) (w' := w.alloc (.cells (madeCells z.cells (n * sz)) u)) (by simp [execOp, ho, e1, e2, hr]) (hK _ _ ⟨_, hG'.put (fun d hd => ?_) hN⟩)
  cases hd
  refine ⟨trivial, ?_, ⟨w.heap.size, 0, none⟩, rfl⟩
  have := new_slice (t := u) (len := n) hG.foot hc hm
  rw [Array.toArray_toList] at this
  exact this

theorem rep_cells {A : Nat → Prop} {w : World} {ad : Addr} {m cap : Nat} {ls : List Leaf} (h : (sliceRep m ls).P A (.slice (some ad) m cap) w) (hcap : 0 < cap) :
    ∃ news : List Value, denL A ls news w ∧ ∀ j v, news[j]? = some v → w.cell? (ad.add j) = some v := by
  obtain ⟨a, c, he, c1, c2, c3, c4⟩ := h
  cases he
  obtain ⟨d1, d2⟩ := c4 ad rfl
  obtain ⟨bl, off, sp⟩ := ad
  simp only at d1 d2
  have d1 := d1 hcap
  subst d1
  have hex : ∀ (ls : List Leaf) (off : Nat), (∀ (i : Nat) (l : Leaf), ls[i]? = some l → A bl ∧ ∃ x, w.cell? ⟨bl, off + i, none⟩ = some x ∧ l.den A x w) →
      ∃ cs : List Value, denL A ls cs w ∧ ∀ j v, cs[j]? = some v → w.cell? ⟨bl, off + j, none⟩ = some v := by
    intro ls
    induction ls with
    | nil => intro off _; exact ⟨[], trivial, fun j v h => by simp at h⟩
    | cons l ls ih =>
      intro off h
      obtain ⟨_, x, hx, hd⟩ := h 0 l rfl
      obtain ⟨cs, hcs, hcc⟩ := ih (off + 1) (fun i l hi => by
        have := h (i + 1) l (by simpa using hi)
        rwa [show off + (i + 1) = off + 1 + i from by omega] at this)
      refine ⟨x :: cs, ⟨hd, hcs⟩, fun j v hj => ?_⟩
      cases j with
      | zero => simp at hj; subst hj; exact hx
      | succ j => have := hcc j v (by simpa using hj); rwa [show off + (j + 1) = off + 1 + j from by omega]
  obtain ⟨cs, hcs, hcc⟩ := hex ls off d2
  exact ⟨cs, hcs, fun j v hj => by rw [cell_add]; exact hcc j v hj⟩

/-- append to a slice without room, of a slice that is not empty. -/
theorem Je_appendFull {x y : Operand} {t t2 u u2 n m sz : Nat} {ls1 ls2 ls : List Leaf} {inf : TypeInfo} {z : Value}
    (ho : o.op = .call { callee := .builtin .append, args := #[x, y], argTypes := #[t, t2] })
    (hx : opD Γ x = some (D.rep (sliceFull n ls1))) (hy : opD Γ y = some (D.rep (sliceRep m ls2))) (hl : ls1.length = n * sz) (hl2 : ls2.length = m * sz) (hsz : 0 < sz) (hm : 0 < m)
    (ht : P.underlying t = some (.slice u)) (ht2 : P.underlying t2 = some (.slice u2)) (hinf : P.info? u = some inf) (hz : inf.zero = some z) (hisz : inf.size = sz) (hzs : z.cells.size = sz)
    (hlen : n + m ≤ maxLen) (hbytes : (n + m) * inf.bytes ≤ 140737488355328) {nm : Nat} (hnm : n + m = nm) (hls : ls1 ++ ls2 = ls) : ∀ H2 : Hp, Je P ops o Γ H2 (some (D.rep (sliceRep nm ls))) H2 := by
  intro H2 w0 A0 N Γ2 a w Q K hs hN hSt hK
  obtain ⟨E, hG⟩ := hSt
  subst hnm hls hisz
  obtain ⟨_, h1, adx, hvx⟩ := op_at hs hG (x := x) (by rw [ho]; simp [Op.operands, Call.operands]) hx
  obtain ⟨_, h2⟩ := op_at hs hG (x := y) (by rw [ho]; simp [Op.operands, Call.operands]) hy
  have h2' := h2
  obtain ⟨ay, capy, hvy, cy1, cy2, cy3, cy4⟩ := h2'
  cases ay with
  | none => have := (cy3 rfl).1; omega
  | some ad =>
  rw [hvx] at h1
  have h2 : (sliceRep m ls2).P E.A (a.eval y) w := h2
  rw [hvy] at h2
  obtain ⟨news, hnd, hnc⟩ := rep_cells h2 (by omega)
  have hcs : ∃ cs : List Value, denL E.A ls1 cs w ∧ ∀ j v, cs[j]? = some v → w.cell? (adx.add j) = some v := by
    by_cases hn : n = 0
    · have : ls1 = [] := List.eq_nil_of_length_eq_zero (by rw [hl, hn, Nat.zero_mul])
      subst this
      exact ⟨[], trivial, fun j v h => by simp at h⟩
    · exact rep_cells h1 (by omega)
  obtain ⟨cs, hcd, hcc⟩ := hcs
  have hcsn : cs.length = n * inf.size := by rw [hcd.length, hl]
  have hnl : news.length = m * inf.size := by rw [hnd.length, hl2]
  have hrun := run_append_grow (P := P) w t o.type u inf z ht hinf hz adx n n cs hcsn hcc ad m capy news hnl hnc (by omega) (by simp only [maxLen] at hlen; omega) (growslice_fits (by omega) hbytes)
  have harr : (cs ++ news ++ (Builtin.zeroCells z.cells (grownCap w (n + m) n u - (n + m))).toList).toArray = cs.toArray ++ news.toArray ++ Builtin.zeroCells z.cells (grownCap w (n + m) n u - (n + m)) := by
    apply Array.ext'
    simp
  rw [← harr] at hrun
  have hexec : (execOp a.eval o).run P w = .ok (.value (.slice (some ⟨w.heap.size, 0, none⟩) (n + m) (grownCap w (n + m) n u)))
      (w.drew.alloc (.cells (cs ++ news ++ (Builtin.zeroCells z.cells (grownCap w (n + m) n u - (n + m))).toList).toArray u)) := by
    simp [execOp, ho, resolve, invoke, builtin, append_ty w _ _ ht ht2, hvx, hvy, hrun]
  generalize (Builtin.zeroCells z.cells (grownCap w (n + m) n u - (n + m))).toList = spare at hexec
  have hb0 := below_alloc w.drew (.cells (cs ++ news ++ spare).toArray u)
  have hb : Below w.heap.size w (w.drew.alloc (.cells (cs ++ news ++ spare).toArray u)) := ⟨hb0.os, hb0.tape, hb0.output, hb0.size, hb0.block⟩
  have hG' := hG.grow hb
  refine wp_valueW hexec (hK _ _ ⟨_, hG'.put (fun d hd => ?_) hN⟩)
  cases hd
  refine ⟨trivial, some ⟨w.heap.size, 0, none⟩, _, rfl, grownCap_ge w (n + m) n u, grownCap_le_maxLen w (n + m) n u hlen, fun h => by simp at h, fun ad' had => ?_⟩
  cases had
  refine ⟨fun _ => rfl, fun i l hi => ⟨.inr ⟨Nat.le_refl _, by rw [World.size_alloc]; exact Nat.lt_succ_self _⟩, ?_⟩⟩
  obtain ⟨v, hv, hvd⟩ := (hcd.append hnd).get hi
  refine ⟨v, ?_, Leaf.den_mono (fun k hk => .inl hk) (Leaf.den_keep (fun k hk => hb.block k (hG.foot k hk)) hvd)⟩
  have hc := heap_alloc_new w.drew (.cells (cs ++ news ++ spare).toArray u)
  have hc : (w.drew.alloc (.cells (cs ++ news ++ spare).toArray u)).heap[w.heap.size]? = _ := hc
  have hlt := (List.getElem?_eq_some_iff.1 hv).1
  unfold World.cell?
  rw [hc]
  show (((cs ++ news ++ spare).toArray)[0 + i]?) = _
  rw [Nat.zero_add, List.getElem?_toArray, List.getElem?_append_left hlt]
  exact hv
end
end Rc
