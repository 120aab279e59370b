/- From what an argument reads as to what the walk is told of it. -/
import Derived.Test.YtpabkdpijcbkgaaGreatDoorQi
import Derived.Test.YtpabkdpijcbkgaaGreatDoorFwL
import Derived.WalkKit
import Derived.ProofKit
import Derived.OpenShut
import Derived.ShutString
import Derived.ChangeOld
import Derived.Below
namespace Rc
open Go Go.RowKit Go.ChangeShapes Go.WideShapes

/-- Offsets and types of a struct's fields. -/
def fldL (P : Program) (t : Nat) : Option (List (Nat × Nat)) :=
  match P.underlying t with
  | some (.struct fs) => some (fs.toList.map fun f => (f.offset, f.type))
  | _ => none
theorem fldL_spec {P : Program} {t : Nat} {l : List (Nat × Nat)} (h : fldL P t = some l) : ∃ fs, P.underlying t = some (.struct fs) ∧ fs.toList.map (fun f => (f.offset, f.type)) = l := by
  unfold fldL at h
  cases hu : P.underlying t with
  | none => rw [hu] at h; simp at h
  | some d =>
    rw [hu] at h
    cases d <;> simp only [reduceCtorEq] at h
    exact ⟨_, rfl, by simpa using h⟩

section
variable {H : Type} {enc : TypeId × Value → H} {P : Program} {w : World} {base : Nat} {held : Bool}
/-- All memory that is there. -/
@[reducible] def here (w : World) : Nat → Prop := fun k => k < w.heap.size

theorem rd_fields {t : Nat} {l : List (Nat × Nat)} {cs : List Value} {fuel : Nat} {x : DataW H × List MemPlace} {spare : Nat → Bool} (hf : fldL P t = some l) (h : DataW.trod enc P w base spare held fuel t cs = some x) :
    cs.length = P.cellsOf t ∧ ∃ n, ∀ (i off ty : Nat), l[i]? = some (off, ty) → ∃ y, DataW.trod enc P w base spare held n ty ((cs.drop off).take (P.cellsOf ty)) = some y := by
  obtain ⟨fs, hu, hl⟩ := fldL_spec hf
  obtain ⟨xs, n, _, _, hlen, hxs, hall⟩ := DataW.trod_struct hu h
  refine ⟨hlen, n, fun i off ty hi => ?_⟩
  rw [← hl, List.getElem?_map] at hi
  cases hfi : fs.toList[i]? with
  | none => rw [hfi] at hi; simp at hi
  | some f =>
    rw [hfi] at hi
    simp only [Option.map_some, Option.some.injEq, Prod.mk.injEq] at hi
    obtain ⟨rfl, rfl⟩ := hi
    have hfi' : fs[i]? = some f := by simpa using hfi
    have := hall i f hfi'
    have hlt : i < xs.length := by rw [hxs]; exact (Array.getElem?_eq_some_iff.1 hfi').1
    exact ⟨xs[i], by rw [this, List.getElem?_eq_getElem hlt]⟩

theorem rd_bool {t : Nat} {cs : List Value} {fuel : Nat} {x : DataW H × List MemPlace} {spare : Nat → Bool} (ht : P.underlying t = some .bool) (h : DataW.trod enc P w base spare held fuel t cs = some x) : ∃ b, cs = [.bool b] := by
  cases fuel with
  | zero => simp [DataW.trod] at h
  | succ n =>
    unfold DataW.trod at h
    rw [ht] at h
    split at h <;> simp_all
theorem rd_int {t : Nat} {k : IntKind} {cs : List Value} {fuel : Nat} {x : DataW H × List MemPlace} {spare : Nat → Bool} (ht : P.underlying t = some (.int k)) (h : DataW.trod enc P w base spare held fuel t cs = some x) :
    ∃ n, cs = [.int k n] ∧ (Lit.int k n).wf = true := by
  obtain ⟨n, rfl, _, hw⟩ := DataW.trod_int ht h
  exact ⟨n, rfl, hw⟩
theorem wf_u32 {n : Int} (h : (Lit.int .u32 n).wf = true) : 0 ≤ n ∧ n ≤ 4294967295 := by
  simp [Lit.wf, IntKind.min, IntKind.max, IntKind.bits, IntKind.signed] at h
  omega
theorem wf_u16 {n : Int} (h : (Lit.int .u16 n).wf = true) : 0 ≤ n ∧ n ≤ 65535 := by
  simp [Lit.wf, IntKind.min, IntKind.max, IntKind.bits, IntKind.signed] at h
  omega
theorem wf_u8 {n : Int} (h : (Lit.int .u8 n).wf = true) : 0 ≤ n ∧ n ≤ 255 := by
  simp [Lit.wf, IntKind.min, IntKind.max, IntKind.bits, IntKind.signed] at h
  omega
theorem wf_i64 {n : Int} (h : (Lit.int .i64 n).wf = true) : -9223372036854775808 ≤ n ∧ n ≤ 9223372036854775807 := by
  simp [Lit.wf, IntKind.min, IntKind.max, IntKind.bits, IntKind.signed] at h
  omega
theorem cell_lt {a : Addr} {v : Value} (h : w.cell? a = some v) : a.block < w.heap.size := by
  unfold World.cell? at h
  cases hb : w.heap[a.block]? with
  | none => rw [hb] at h; simp at h
  | some o => exact (Array.getElem?_eq_some_iff.1 hb).1
/-- A slice of limbs. -/
theorem rd_nat {t u : Nat} {cs : List Value} {fuel : Nat} {x : DataW H × List MemPlace} (ht : P.underlying t = some (.slice u)) (hu : P.underlying u = some (.int .u32)) (hc : P.cellsOf u = 1)
    (h : DataW.trod enc P w base (fun _ => true) held fuel t cs = some x) : ∃ c l, cs = [c] ∧ Small l ∧ (natL l).den (here w) c w := by
  rcases open_ints ht hu hc h with ⟨rfl, _⟩ | ⟨a, len, cap, zs, rfl, _, hl, hm, hz, _, hcell, hwf⟩
  · exact ⟨_, [], rfl, Small.nil, nil_slice _ _⟩
  · simp only [if_true] at hz
    refine ⟨_, (zs.take len).map Int.toNat, rfl, ?_, ?_⟩
    · intro y hy
      obtain ⟨n, hn, rfl⟩ := List.mem_map.1 hy
      have := wf_u32 (hwf n (List.mem_of_mem_take hn))
      omega
    · have hlen : ((zs.take len).map Int.toNat).length = len := by simp; omega
      show (sliceRep ((zs.take len).map Int.toNat).length _).P _ _ _
      rw [hlen]
      refine ⟨some a, cap, rfl, hl, hm, fun h => by simp at h, fun ad had => ?_⟩
      cases had
      refine ⟨fun h0 => ?_, fun i lf hi => ?_⟩
      · obtain ⟨b, off, rfl, _⟩ := ints_at hcell (by omega)
        rfl
      · rw [List.getElem?_map, List.getElem?_map, List.getElem?_take] at hi
        split at hi
        · rename_i hil
          have hiz : i < zs.length := by omega
          obtain ⟨b, off, rfl, hc2⟩ := ints_at hcell (by omega)
          have hci := hc2 i hiz
          rw [List.getElem?_eq_getElem hiz] at hi
          simp only [Option.map_some, Option.some.injEq] at hi
          subst hi
          have hw := wf_u32 (hwf zs[i] (List.getElem_mem hiz))
          have hlt : b < w.heap.size := cell_lt hci
          refine ⟨hlt, _, hci, ?_, rfl⟩
          rw [List.getD_eq_getElem?_getD, List.getElem?_eq_getElem hiz]
          simp only [Option.getD_some]
          congr 1
          omega
        · simp at hi

/-- The types of numbers. -/
structure NumTy (P : Program) (tb tn tu tr : Nat) : Prop where
  b : P.underlying tb = some .bool
  u : P.underlying tu = some (.int .u32)
  n : P.underlying tn = some (.slice tu)
  cb : P.cellsOf tb = 1
  cu : P.cellsOf tu = 1
  cn : P.cellsOf tn = 1
  r : fldL P tr = some [(0, tb), (1, tn), (2, tn)]
  cr : P.cellsOf tr = 3
variable {tb tn tu tr : Nat}
theorem rd_rat (hT : NumTy P tb tn tu tr) {cs : List Value} {fuel : Nat} {x : DataW H × List MemPlace} (h : DataW.trod enc P w base (fun _ => true) held fuel tr cs = some x) :
    ∃ q : Qr, denL (here w) (qV q).leaves cs w := by
  obtain ⟨hlen, n, hall⟩ := rd_fields hT.r h
  rw [hT.cr] at hlen
  match cs, hlen with
  | [c0, c1, c2], _ =>
    obtain ⟨y0, h0⟩ := hall 0 _ _ rfl
    obtain ⟨y1, h1⟩ := hall 1 _ _ rfl
    obtain ⟨y2, h2⟩ := hall 2 _ _ rfl
    rw [hT.cb] at h0
    rw [hT.cn] at h1 h2
    obtain ⟨b, e0⟩ := rd_bool hT.b h0
    obtain ⟨k1, l1, e1, s1, d1⟩ := rd_nat hT.n hT.u hT.cu h1
    obtain ⟨k2, l2, e2, s2, d2⟩ := rd_nat hT.n hT.u hT.cu h2
    simp at e0 e1 e2
    subst e0; subst e1; subst e2
    exact ⟨⟨b, l1, l2, s1, s2⟩, ⟨rfl, rfl⟩, d1, d2, trivial⟩
theorem denL_split {A : Nat → Prop} {l1 l2 : List Leaf} {cs : List Value} (k : Nat) (h1 : denL A l1 (cs.take k) w) (h2 : denL A l2 (cs.drop k) w) : denL A (l1 ++ l2) cs w := by
  have := h1.append h2
  rwa [List.take_append_drop] at this
theorem rd_interval (hT : NumTy P tb tn tu tr) {ti : Nat} (hi : fldL P ti = some [(0, tr), (3, tr)]) (hc : P.cellsOf ti = 6) {cs : List Value} {fuel : Nat} {x : DataW H × List MemPlace} (h : DataW.trod enc P w base (fun _ => true) held fuel ti cs = some x) :
    ∃ p q : Qr, denL (here w) (iV p q).leaves cs w := by
  obtain ⟨hlen, n, hall⟩ := rd_fields hi h
  rw [hc] at hlen
  obtain ⟨y0, h0⟩ := hall 0 _ _ rfl
  obtain ⟨y1, h1⟩ := hall 1 _ _ rfl
  rw [hT.cr] at h0 h1
  obtain ⟨p, d0⟩ := rd_rat hT h0
  obtain ⟨q, d1⟩ := rd_rat hT h1
  refine ⟨p, q, ?_⟩
  rw [List.drop_zero] at d0
  rw [List.take_of_length_le (by simp; omega)] at d1
  exact denL_split 3 d0 d1
/-- Values. -/
theorem rd_agg {t : Nat} {fs : List (Nat × Nat)} (hf : fldL P t = some fs) {r : Reach} {b0 : Nat} {v : Value} {d : DataW H} {p : List MemPlace} {spare : Nat → Bool} (hv : Value.okWide P w r b0 t v) (h : DataW.Trod enc P w base spare held t v d p) :
    ∃ (cs : List Value) (fuel : Nat) (x : DataW H × List MemPlace), v = .agg cs.toArray ∧ DataW.trod enc P w base spare held fuel t cs = some x := by
  obtain ⟨f, hu, _⟩ := fldL_spec hf
  obtain ⟨cs, rfl, _⟩ := okWide_struct hu hv
  obtain ⟨fuel, hf⟩ := h
  exact ⟨cs.toList, fuel, _, by simp, by simpa [Value.cells] using hf⟩
theorem rdv_rat (hT : NumTy P tb tn tu tr) {r : Reach} {b0 : Nat} {v : Value} {d : DataW H} {p : List MemPlace} (hv : Value.okWide P w r b0 tr v) (h : DataW.Trod enc P w base (fun _ => true) held tr v d p) :
    ∃ q : Qr, (qV q).den (here w) v w := by
  obtain ⟨cs, fuel, x, rfl, hx⟩ := rd_agg hT.r hv h
  obtain ⟨q, hq⟩ := rd_rat hT hx
  exact ⟨q, cs, rfl, hq⟩
theorem rdv_interval (hT : NumTy P tb tn tu tr) {ti : Nat} (hi : fldL P ti = some [(0, tr), (3, tr)]) (hc : P.cellsOf ti = 6) {r : Reach} {b0 : Nat} {v : Value} {d : DataW H} {p : List MemPlace} (hv : Value.okWide P w r b0 ti v)
    (h : DataW.Trod enc P w base (fun _ => true) held ti v d p) : ∃ x y : Qr, (iV x y).den (here w) v w := by
  obtain ⟨cs, fuel, x, rfl, hx⟩ := rd_agg hi hv h
  obtain ⟨p, q, hq⟩ := rd_interval hT hi hc hx
  exact ⟨p, q, cs, rfl, hq⟩
theorem rdv_u8 {t : Nat} (ht : P.underlying t = some (.int .u8)) {r : Reach} {b0 : Nat} {v : Value} {d : DataW H} {p : List MemPlace} (hv : Value.okWide P w r b0 t v) (h : DataW.Trod enc P w base (fun _ => true) held t v d p) :
    ∃ n : Nat, n < 256 ∧ (V.one (Leaf.val (.int .u8 n))).den (here w) v w := by
  obtain ⟨x, rfl, _, _, hw⟩ := open_int ht hv h
  have := wf_u8 hw
  exact ⟨x.toNat, by omega, by show _ = _; congr 1; omega, rfl⟩
theorem rdv_u16 {t : Nat} (ht : P.underlying t = some (.int .u16)) {r : Reach} {b0 : Nat} {v : Value} {d : DataW H} {p : List MemPlace} (hv : Value.okWide P w r b0 t v) (h : DataW.Trod enc P w base (fun _ => true) held t v d p) :
    ∃ n : Nat, n < 65536 ∧ (V.one (Leaf.val (.int .u16 n))).den (here w) v w := by
  obtain ⟨x, rfl, _, _, hw⟩ := open_int ht hv h
  have := wf_u16 hw
  exact ⟨x.toNat, by omega, by show _ = _; congr 1; omega, rfl⟩
theorem rdv_i64 {t : Nat} (ht : P.underlying t = some (.int .i64)) {r : Reach} {b0 : Nat} {v : Value} {d : DataW H} {p : List MemPlace} (hv : Value.okWide P w r b0 t v) (h : DataW.Trod enc P w base (fun _ => true) held t v d p) :
    ∃ n : Int, -9223372036854775808 ≤ n ∧ n ≤ 9223372036854775807 ∧ (V.one (Leaf.val (.int .i64 n))).den (here w) v w := by
  obtain ⟨x, rfl, _, _, hw⟩ := open_int ht hv h
  have := wf_i64 hw
  exact ⟨x, this.1, this.2, rfl, rfl⟩
end
/-- A law's walk in the shape that its row wants. -/
theorem law_calls {P : Program} {f : Nat} {xs : List V} {w : World} {vs : List Value} (h : Ctr P f xs (R.one (V.one (Leaf.val (.bool true))))) (hg : Glob w) (hd : denVs (here w) xs vs w) :
    Calls P f vs.toArray w fun e w' => e = .returned (.bool true) ∧ Below w.heap.size w w' := by
  refine Calls.mono (h w vs (here w) hg (fun _ hk => hk) hd) ?_
  rintro e w' ⟨v, rfl, hv, hb⟩
  obtain ⟨rfl, _⟩ : v = .bool true ∧ _ := hv
  exact ⟨rfl, hb⟩
end Rc
