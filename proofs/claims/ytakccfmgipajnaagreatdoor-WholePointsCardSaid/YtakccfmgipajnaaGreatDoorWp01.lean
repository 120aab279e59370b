/- Parts of the proof, 1: the texts FwA, FwB, FwC, FwD, FwE, as far as they are used. -/
import Derived.WalkKit
import Derived.Laws.CopyOwn
set_option linter.unusedSimpArgs false
set_option linter.unusedVariables false
set_option maxRecDepth 10000
namespace Rc
abbrev XL:=@Option.some.injEq
abbrev XM:=@List.getElem?_eq_getElem
abbrev XN:=@List.getElem?_eq_some_iff
abbrev XP:=@Nat.le_refl
abbrev XQ:=@Bool.and_eq_true
abbrev XS:=@Nat.zero_le
abbrev XT:=@Nat.eq_of_beq_eq_true
abbrev XV:=@List.getElem?_append_left
abbrev XY:=@Nat.le_trans
abbrev XZ:=@Nat.lt_of_lt_of_le
abbrev X0:=@List.getElem?_set_ne
abbrev X1:=@List.length_drop
abbrev X2:=@List.length_take
abbrev X4:=@Array.getElem?_eq_some_iff
abbrev X6:=@List.length_cons
abbrev X7:=@List.getElem?_set_self
abbrev X8:=@Bool.false_eq_true
abbrev X9:=@List.mem_cons
abbrev Yc:=@List.mem_append
abbrev Yd:=@Array.getElem?_eq_getElem
abbrev Yf:=@List.append_assoc
abbrev Yj:=@Array.getElem?_append_left
abbrev Yk:=@Nat.zero_add
abbrev Yl:=@Nat.add_zero
abbrev Yt:=@Option.getD_some
abbrev Yw:=@List.getElem?_drop
abbrev Yz:=@List.all_eq_true
abbrev YA:=@Nat.min_eq_left
abbrev YD:=@List.getElem?_cons_zero
abbrev YE:=@Nat.mod_lt
abbrev YF:=@List.append_nil
abbrev YH:=@List.take_of_length_le
abbrev YL:=@List.getElem?_append_right
abbrev YM:=@Nat.ne_of_gt
abbrev YO:=@Bool.or_eq_true
abbrev YR:=@Nat.lt_trans
abbrev YS:=@List.getElem?_take
abbrev YU:=@Array.length_toList
abbrev YY:=@List.take_append_of_le_length
abbrev Y0:=@Option.map_some
abbrev Y5:=@Array.toArray_toList
abbrev Y6:=@List.foldl_cons
abbrev Y9:=@List.mem_range
abbrev Ze:=@Go.Oper.upon_enter
abbrev Zg:=@Go.Calls.mono
abbrev Zi:=@Bool.not_eq_true'
abbrev Zk:=@Go.World.cell?_of_block
abbrev Zn:=@Nat.mul_pos
abbrev Zp:=@List.getD_eq_getElem?_getD
abbrev Zq:=@List.contains_iff_mem
abbrev Zs:=@List.getElem_set_self
abbrev Zz:=@List.take_succ_eq_append_getElem
abbrev ZA:=@Bool.false_or
abbrev ZB:=@List.length_eq_zero_iff
abbrev ZD:=@List.drop_append_of_le_length
abbrev ZE:=@List.mem_map
abbrev ZM:=@List.drop_set_of_lt
abbrev ZU:=@Nat.beq_eq
abbrev ZV:=@Nat.blt_eq
abbrev Z4:=@Array.getElem?_toList
abbrev Z6:=@List.cons_append
abbrev zae:=@List.mapM_cons
abbrev zah:=@Array.mapM_eq_mapM_toList
abbrev zap:=@Option.isSome_iff_exists
abbrev zaq:=@List.ext_getElem
abbrev zav:=@Nat.ble_eq
abbrev zax:=@Nat.ne_of_lt
abbrev zay:=@Nat.sub_zero
abbrev zaE:=@Go.Addr.add_lit
abbrev zaJ:=@List.take_set_of_le
abbrev zaL:=@Bool.not_true
abbrev zaO:=@Array.any_eq_true'
abbrev zaP:=@Array.all_eq_true'
abbrev zaQ:=@Array.foldl_toList
abbrev zaS:=@Nat.sub_self
abbrev zaU:=@List.ext_getElem?
abbrev zaW:=@Array.getElem?_setIfInBounds_ne
abbrev zaZ:=@List.eq_nil_iff_forall_not_mem
end Rc
namespace Rc
open Go Go.RowKit
abbrev Cells:Type:=Nat->Nat->Prop
structure ak where
 c:Cells
 g:Nat->Nat->Option Value
instance : CoeFun ak fun _ => Cells := ⟨ak.c⟩
instance : Coe ak Cells := ⟨ak.c⟩
@[reducible] def ak.of(c:Cells):ak:=⟨c,fun _ _=>none⟩
structure ak.le(A A':ak):Prop where
 c:∀k j,A k j->A' k j
 g:∀r n v,A.g r n=some v->A'.g r n=some v
theorem ak.le.refl(A:ak):ak.le A A:=⟨fun _ _ h=>h,fun _ _ _ h=>h⟩
theorem ak.le.of{c c':Cells}(h:∀k j,c k j->c' k j):ak.le (ak.of c) (ak.of c'):=⟨h,fun _ _ _ h=>h⟩
theorem ak.le.pure{c:Cells}{A:ak}(h:∀k j,c k j->A k j):ak.le (ak.of c) A:=⟨h,fun _ _ _ h=>by simp at h⟩
def kept(A:Cells)(w w':World):Prop:=∀k j,A k j->w'.cell? ⟨k,j,none⟩=w.cell? ⟨k,j,none⟩
theorem ju{A:Cells}{w w':World}(h:∀k j,A k j->w'.heap[k]?=w.heap[k]?):kept A w w':=fun k j hk=>Zk (h k j hk)
def Old(A0 A:Cells)(w0 w:World):Prop:=∀k j,A0 k j->A k j/\w.cell? ⟨k,j,none⟩=w0.cell? ⟨k,j,none⟩
theorem Old.bI{A0 A A':Cells}{w0 w w':World}(h:Old A0 A w0 w)(hle:∀k j,A k j->A' k j)(hk:kept A w w'):Old A0 A' w0 w':=
 fun k j hA=>⟨hle k j (h k j hA).1,(hk k j (h k j hA).1).trans (h k j hA).2⟩
theorem kept.refl(A:Cells)(w:World):kept A w w:=fun _ _ _=>rfl
structure qv where
 P:Cells->Value->World->Prop
 mono:∀{A A':Cells} {v:Value} {w:World},(∀k j,A k j->A' k j)->P A v w->P A' v w
 bI:∀{A:Cells} {v:Value} {w w':World},(kept A w w')->P A v w->P A v w'
 one:∀{A:Cells} {v:Value} {w:World},P A v w->v.oneCell'=true
abbrev ab:Type:=Sum Value (Sum qv (Nat×Nat))
@[reducible] def ab.val(v:Value):ab:=.inl v
@[reducible] def ab.rep(r:qv):ab:=.inr (.inl r)
@[reducible] def ab.own(r n:Nat):ab:=.inr (.inr (r,n))
def ab.den(A:ak):ab->Value->World->Prop
 |.inl v,x,_=>x=v/\v.oneCell'=true
 |.inr (.inl r),x,w=>r.P A.c x w
 |.inr (.inr (r,n)),x,_=>A.g r n=some x/\x.oneCell'=true
def ab.cl:ab->Bool
 |.inr (.inr _)=>false
 |_=>true
def bW:List ab->Bool
 |[]=>true
 |l::ls=>l.cl&&bW ls
theorem ab.cU{A A':ak}{l:ab}{v:Value}{w:World}(h:ak.le A A')(hd:l.den A v w):l.den A' v w:=by
 rcases l with x|r|⟨r,n⟩
 .exact hd
 .exact r.mono h.c hd
 .exact⟨h.g r n v hd.1,hd.2⟩
theorem ab.ja{A:ak}{l:ab}{v:Value}{w:World}(h:l.cl=true)(hd:l.den A v w):l.den (ak.of A.c) v w:=by
 rcases l with x|r|⟨r,n⟩
 .exact hd
 .exact hd
 .simp[ab.cl] at h
theorem ab.fK{A:ak}{l:ab}{v:Value}{w w':World}(h:kept A w w')(hd:l.den A v w):l.den A v w':=by
 rcases l with x|r|⟨r,n⟩
 .exact hd
 .exact r.bI h hd
 .exact hd
theorem ab.vu{A:ak}{l:ab}{v:Value}{w:World}(hd:l.den A v w):v.oneCell'=true:=by
 rcases l with x|r|⟨r,n⟩
 .obtain⟨rfl,h⟩:=hd;exact h
 .exact r.one hd
 .exact hd.2
def a9(A:ak):List ab->List Value->World->Prop
 |[],[],_=>True
 |l::ls,v::vs,w=>l.den A v w/\a9 A ls vs w
 |[],_::_,_=>False
 |_::_,[],_=>False
theorem a9.length{A:ak}{ls:List ab}{vs:List Value}{w:World}(h:a9 A ls vs w):vs.length=ls.length:=by
 induction ls generalizing vs with
 |nil=>cases vs with
  |nil=>rfl
  |cons v vs=>exact h.elim
 |cons l ls ih=>cases vs with
  |nil=>exact h.elim
  |cons v vs=>simp[ih h.2]
theorem a9.mono{A A':ak}{ls:List ab}{vs:List Value}{w:World}(hA:ak.le A A')(h:a9 A ls vs w):a9 A' ls vs w:=by
 induction ls generalizing vs with
 |nil=>cases vs with
  |nil=>trivial
  |cons v vs=>exact h.elim
 |cons l ls ih=>cases vs with
  |nil=>exact h.elim
  |cons v vs=>exact⟨ab.cU hA h.1,ih h.2⟩
theorem a9.bI{A:ak}{ls:List ab}{vs:List Value}{w w':World}(hw:kept A w w')(h:a9 A ls vs w):a9 A ls vs w':=by
 induction ls generalizing vs with
 |nil=>cases vs with
  |nil=>trivial
  |cons v vs=>exact h.elim
 |cons l ls ih=>cases vs with
  |nil=>exact h.elim
  |cons v vs=>exact⟨ab.fK hw h.1,ih h.2⟩
theorem a9.get{A:ak}{ls:List ab}{vs:List Value}{w:World}(h:a9 A ls vs w){i:Nat}{l:ab}(hi:ls[i]?=some l) :
  ∃v,vs[i]?=some v/\l.den A v w:=by
 induction ls generalizing vs i with
 |nil=>simp at hi
 |cons l0 ls ih=>cases vs with
  |nil=>exact h.elim
  |cons v vs=>cases i with
   |zero=>simp at hi;subst hi;exact⟨v,rfl,h.1⟩
   |succ i=>simpa using ih h.2 (by simpa using hi)
theorem a9.append{A:ak}{ls ls':List ab}{vs vs':List Value}{w:World}(h:a9 A ls vs w)(h':a9 A ls' vs' w):a9 A (ls++ls') (vs++vs') w:=by
 induction ls generalizing vs with
 |nil=>cases vs with
  |nil=>exact h'
  |cons v vs=>exact h.elim
 |cons l ls ih=>cases vs with
  |nil=>exact h.elim
  |cons v vs=>exact⟨h.1,ih h.2⟩
theorem a9.take{A:ak}{ls:List ab}{vs:List Value}{w:World}(h:a9 A ls vs w)(n:Nat):a9 A (ls.take n) (vs.take n) w:=by
 induction ls generalizing vs n with
 |nil=>cases vs with
  |nil=>simp[a9]
  |cons v vs=>exact h.elim
 |cons l ls ih=>cases vs with
  |nil=>exact h.elim
  |cons v vs=>cases n with
   |zero=>simp[a9]
   |succ n=>exact⟨h.1,ih h.2 n⟩
theorem a9.drop{A:ak}{ls:List ab}{vs:List Value}{w:World}(h:a9 A ls vs w)(n:Nat):a9 A (ls.drop n) (vs.drop n) w:=by
 induction ls generalizing vs n with
 |nil=>cases vs with
  |nil=>simp[a9]
  |cons v vs=>exact h.elim
 |cons l ls ih=>cases vs with
  |nil=>exact h.elim
  |cons v vs=>cases n with
   |zero=>exact h
   |succ n=>exact ih h.2 n
theorem a9.one{A:ak}{ls:List ab}{vs:List Value}{w:World}(h:a9 A ls vs w):∀u∈vs,u.oneCell'=true:=by
 induction ls generalizing vs with
 |nil=>cases vs with
  |nil=>simp
  |cons v vs=>exact h.elim
 |cons l ls ih=>cases vs with
  |nil=>exact h.elim
  |cons v vs=>
   intro u hu;rcases X9.1 hu with rfl|hu
   .exact ab.vu h.1
   .exact ih h.2 u hu
theorem a9.pure{A:ak}{ls:List ab}{vs:List Value}{w:World}(hc:bW ls=true)(h:a9 A ls vs w):a9 (ak.of A.c) ls vs w:=by
 induction ls generalizing vs with
 |nil=>cases vs with
  |nil=>trivial
  |cons v vs=>exact h.elim
 |cons l ls ih=>cases vs with
  |nil=>exact h.elim
  |cons v vs=>
   unfold bW at hc;rw[XQ] at hc;exact⟨ab.ja hc.1 h.1,ih hc.2 h.2⟩
abbrev V:Type:=Sum ab (List ab)
@[reducible] def V.one(l:ab):V:=.inl l
@[reducible] def V.agg(ls:List ab):V:=.inr ls
def V.den(A:ak):V->Value->World->Prop
 |.inl l,v,w=>l.den A v w
 |.inr ls,v,w=>∃cs:List Value,v = .agg cs.toArray/\a9 A ls cs w
def V.leaves:V->List ab
 |.inl l=>[l]
 |.inr ls=>ls
theorem V.cU{A A':ak}{x:V}{v:Value}{w:World}(h:ak.le A A')(hd:x.den A v w):x.den A' v w:=by
 cases x with
 |inl l=>exact ab.cU h hd
 |inr ls=>obtain⟨cs,rfl,hc⟩:=hd;exact⟨cs,rfl,hc.mono h⟩
theorem V.fK{A:ak}{x:V}{v:Value}{w w':World}(h:kept A w w')(hd:x.den A v w):x.den A v w':=by
 cases x with
 |inl l=>exact ab.fK h hd
 |inr ls=>obtain⟨cs,rfl,hc⟩:=hd;exact⟨cs,rfl,hc.bI h⟩
def V.cl:V->Bool
 |.inl l=>l.cl
 |.inr ls=>bW ls
theorem V.ja{A:ak}{x:V}{v:Value}{w:World}(hc:x.cl=true)(hd:x.den A v w):x.den (ak.of A.c) v w:=by
 cases x with
 |inl l=>exact ab.ja hc hd
 |inr ls=>obtain⟨cs,rfl,h⟩:=hd;exact⟨cs,rfl,h.pure hc⟩
theorem Gt{v:Value}(h:v.oneCell'=true):v.cells = #[v]:=by
 cases v <;> first|rfl|simp[Value.oneCell'] at h
theorem V.yB{A:ak}{x:V}{v:Value}{w:World}(hd:x.den A v w):a9 A x.leaves v.cells.toList w:=by
 cases x with
 |inl l=>rw[Gt (ab.vu hd)];exact⟨hd,trivial⟩
 |inr ls=>obtain⟨cs,rfl,hc⟩:=hd;simpa[Value.cells,V.leaves] using hc
def c6(A:ak):List V->List Value->World->Prop
 |[],[],_=>True
 |x::xs,v::vs,w=>x.den A v w/\c6 A xs vs w
 |[],_::_,_=>False
 |_::_,[],_=>False
theorem c6.length{A:ak}{xs:List V}{vs:List Value}{w:World}(h:c6 A xs vs w):vs.length=xs.length:=by
 induction xs generalizing vs with
 |nil=>cases vs with
  |nil=>rfl
  |cons v vs=>exact h.elim
 |cons l ls ih=>cases vs with
  |nil=>exact h.elim
  |cons v vs=>simp[ih h.2]
theorem c6.mono{A A':ak}{xs:List V}{vs:List Value}{w:World}(hA:ak.le A A')(h:c6 A xs vs w):c6 A' xs vs w:=by
 induction xs generalizing vs with
 |nil=>cases vs with
  |nil=>trivial
  |cons v vs=>exact h.elim
 |cons l ls ih=>cases vs with
  |nil=>exact h.elim
  |cons v vs=>exact⟨V.cU hA h.1,ih h.2⟩
theorem c6.bI{A:ak}{xs:List V}{vs:List Value}{w w':World}(hw:kept A w w')(h:c6 A xs vs w):c6 A xs vs w':=by
 induction xs generalizing vs with
 |nil=>cases vs with
  |nil=>trivial
  |cons v vs=>exact h.elim
 |cons l ls ih=>cases vs with
  |nil=>exact h.elim
  |cons v vs=>exact⟨V.fK hw h.1,ih h.2⟩
theorem c6.get{A:ak}{xs:List V}{vs:List Value}{w:World}(h:c6 A xs vs w){i:Nat}{x:V}(hi:xs[i]?=some x) :
  ∃v,vs[i]?=some v/\x.den A v w:=by
 induction xs generalizing vs i with
 |nil=>simp at hi
 |cons l0 ls ih=>cases vs with
  |nil=>exact h.elim
  |cons v vs=>cases i with
   |zero=>simp at hi;subst hi;exact⟨v,rfl,h.1⟩
   |succ i=>simpa using ih h.2 (by simpa using hi)
def fq:List V->Bool
 |[]=>true
 |x::xs=>x.cl&&fq xs
theorem c6.pure{A:ak}{xs:List V}{vs:List Value}{w:World}(hc:fq xs=true)(h:c6 A xs vs w):c6 (ak.of A.c) xs vs w:=by
 induction xs generalizing vs with
 |nil=>cases vs with
  |nil=>trivial
  |cons v vs=>exact h.elim
 |cons l ls ih=>cases vs with
  |nil=>exact h.elim
  |cons v vs=>
   unfold fq at hc;rw[XQ] at hc;exact⟨V.ja hc.1 h.1,ih hc.2 h.2⟩
abbrev R:Type:=Sum V (List V)
@[reducible] def R.one(x:V):R:=.inl x
@[reducible] def R.aW(xs:List V):R:=.inr xs
def R.den(A:ak):R->Value->World->Prop
 |.inl x,v,w=>x.den A v w
 |.inr xs,v,w=>∃vs:List Value,v = .tuple vs.toArray/\c6 A xs vs w
def grown(A:ak)(w w':World):ak:=⟨fun k j=>A k j\/(w.heap.size<=k/\k<w'.heap.size),A.g⟩
theorem BO(A:ak)(w w':World):ak.le A (grown A w w'):=⟨fun _ _ h=>.inl h,fun _ _ _ h=>h⟩
theorem R.cU{A A':ak}{y:R}{v:Value}{w:World}(h:ak.le A A')(hd:y.den A v w):y.den A' v w:=by
 cases y with
 |inl x=>exact V.cU h hd
 |inr xs=>obtain⟨vs,rfl,hv⟩:=hd;exact⟨vs,rfl,hv.mono h⟩
theorem sm(A:ak)(w w':World):ak.le (grown (ak.of A.c) w w') (grown A w w'):=⟨fun _ _ h=>h,fun _ _ _ h=>by simp[grown] at h⟩
def jn:List (Nat×List Value):=[(2,[.int .u8 0,.int .u8 1,.int .u8 28,.int .u8 2,.int .u8 29,.int .u8 14,.int .u8 24,.int .u8 3,.int .u8 30,.int .u8 22,.int .u8 20,.int .u8 15,.int .u8 25,.int .u8 17,.int .u8 4,.int .u8 8,.int .u8 31,.int .u8 27,.int .u8 13,.int .u8 23,.int .u8 21,.int .u8 19,.int .u8 16,.int .u8 7,.int .u8 26,.int .u8 12,.int .u8 18,.int .u8 6,.int .u8 11,.int .u8 5,.int .u8 10,.int .u8 9])]
def kv(w:World):Prop:=∀p∈jn,p.1<w.heap.size/\∀i v,p.2[i]?=some v->w.cell? ⟨p.1,i,none⟩=some v
structure aJ where
 w:World
 X:Nat->Prop
 ext:Nat->Option Value
structure aJ.cW(F:aJ)(w':World):Prop where
 os:w'.os=F.w.os
 tape:w'.tape=F.w.tape
 output:w'.output=F.w.output
 size:F.w.heap.size<=w'.heap.size
 block:∀k,k<F.w.heap.size->¬F.X k->w'.heap[k]?=F.w.heap[k]?
 kb:∀k cs t m,F.X k->F.w.heap[k]?=some (.cells cs t m)->∃cs':Array Value,w'.heap[k]?=some (.cells cs' t m)/\cs'.size=cs.size
 jU:kv F.w
 apart:∀p∈jn,¬F.X p.1
@[reducible] def aJ.of(w:World):aJ:=⟨w,fun _=>False,fun _=>none⟩
theorem aJ.cW.refl(F:aJ)(hg:kv F.w)(ha:∀p∈jn,¬F.X p.1):F.cW F.w:=⟨rfl,rfl,rfl,XP _,fun _ _ _=>rfl,fun _ cs _ _ _ h=>⟨cs,h,rfl⟩,hg,ha⟩
theorem aJ.cW.now{F:aJ}{w':World}(h:F.cW w'):kv w':=by
 intro p hp;obtain⟨h1,h2⟩:=h.jU p hp;refine⟨XZ h1 h.size,fun i v hv=>?_⟩;rw[<-h2 i v hv];exact Zk (h.block p.1 h1 (h.apart p hp))
theorem aJ.cW.then{F:aJ}{w w':World}(h:F.cW w)(k:Below F.w.heap.size w w'):F.cW w':=
 ⟨k.os.trans h.os,k.tape.trans h.tape,k.output.trans h.output,XY h.size k.size,fun i hi hx=>(k.block i hi).trans (h.block i hi hx),
  fun i cs t m hx hi=>by
   obtain⟨cs',h1,h2⟩:=h.kb i cs t m hx hi;exact⟨cs',by rw[k.block i (X4.1 hi).1];exact h1,h2⟩,h.jU,h.apart⟩
theorem aJ.cW.EC{w w':World}(h:(aJ.of w).cW w'):Below w.heap.size w w':=⟨h.os,h.tape,h.output,h.size,fun k hk=>h.block k hk (fun h=>h)⟩
def ar(P:Program)(f:Nat)(xs:List V)(y:R):Prop:=
 ∀(w:World) (vs:List Value) (A:Cells),kv w->(∀k j,A k j->k<w.heap.size)->c6 (ak.of A) xs vs w →
  Calls P f vs.toArray w fun e w'=>∃v,e = .returned v/\y.den (grown (ak.of A) w w') v w'/\Below w.heap.size w w'
structure Env where
 b:Nat->Nat
 cap:Nat->Nat
 nil:Nat->Bool
 A:ak
abbrev D:Type:=Sum V (Sum (List V) (Sum (Nat×Nat) (Nat×Nat×Nat)))
@[reducible] def D.v(x:V):D:=.inl x
@[reducible] def D.aW(xs:List V):D:=.inr (.inl xs)
@[reducible] def D.ptr(i off:Nat):D:=.inr (.inr (.inl (i,off)))
@[reducible] def D.part(i off n:Nat):D:=.inr (.inr (.inr (i,off,n)))
@[reducible] def D.own(i n:Nat):D:=.inr (.inr (.inr (i,0,n)))
@[reducible] def D.val(v:Value):D:=.inl (.inl (.inl v))
@[reducible] def D.rep(r:qv):D:=.inl (.inl (.inr (.inl r)))
@[reducible] def D.agg(ls:List ab):D:=.inl (.inr ls)
@[reducible] def D.int(n:Int):D:=.inl (.inl (.inl (.int .i64 n)))
@[reducible] def D.bool(b:Bool):D:=.inl (.inl (.inl (.bool b)))
def D.den(E:Env):D->Value->World->Prop
 |.inl x,v,w=>x.den E.A v w
 |.inr (.inl xs),v,w=>∃vs:List Value,v = .tuple vs.toArray/\c6 E.A xs vs w
 |.inr (.inr (.inl (i,off))),v,_=>v = .pointer (some ⟨E.b i,off,none⟩)
 |.inr (.inr (.inr (i,off,n))),v,_=>v=if E.nil i then .slice none 0 0 else .slice (some ⟨E.b i,off,none⟩) n (E.cap i-off)
structure HE where
 t:Nat
 ls:List ab
 row:Option Nat
 cP:Option (Nat ⊕ (Nat×Option Nat))
def aJ.oo(F:aJ)(p:Option (Nat ⊕ (Nat×Option Nat)))(b:Nat):Prop:=
 match p with
 |none=>F.w.heap.size<=b
 |some (.inl q)=>b=q/\(F.w.heap.size<=q\/F.X q)
 |some (.inr _)=>F.w.heap.size<=b\/F.X b
def HE.name(E:Env)(i:Nat)(e:HE):Value:=
 match e.row with
 |none=>.pointer (some ⟨E.b i,0,none⟩)
 |some sz=>if E.nil i then .slice none 0 0 else .slice (some ⟨E.b i,0,none⟩) (e.ls.length/sz) (E.cap i)
def HE.ok(E:Env)(i:Nat)(e:HE)(w:World):Prop:=
 match e.row with
 |none=>E.nil i=false/\∃cs:List Value,w.heap[E.b i]?=some (.cells cs.toArray e.t (0,0))/\a9 E.A e.ls cs w
 |some sz=>if E.nil i then e.ls=[]/\E.cap i=0 else
   E.cap i<=maxLen/\∃cs rest:List Value,w.heap[E.b i]?=some (.cells (cs++rest).toArray e.t (0,0))/\(cs++rest).length=E.cap i*sz/\a9 E.A e.ls cs w
def HE.cY(e:HE):Bool:=match e.cP with|some (.inr (_,some _))=>true|_=>false
abbrev aA:=List (Nat×Option D)
def look:aA->Nat->Option D
 |[],_=>none
 |(k,d)::g,s=>bif Nat.beq k s then d else look g s
def ct(g:aA)(dst:Option Nat)(d:Option D):aA:=
 match dst with
 |some s=>(s,d)::g
 |none=>g
abbrev Hp:=List (Option HE)
def D.nm:D->Option Nat
 |.inl _=>none
 |.inr (.inl _)=>none
 |.inr (.inr (.inl (i,_)))=>some i
 |.inr (.inr (.inr (i,_)))=>some i
def D.gb(H:Hp):D->Prop
 |.inl _=>True
 |.inr (.inl _)=>True
 |.inr (.inr (.inl (i,_)))=>∃e,H[i]?=some (some e)/\e.cY=false
 |.inr (.inr (.inr (i,_)))=>∃e,H[i]?=some (some e)/\e.cY=false
theorem D.uj{H:Hp}{d:D}:d.gb H↔∀i,d.nm=some i->∃e,H[i]?=some (some e)/\e.cY=false:=by
 rcases d with x|xs|⟨i,o⟩|⟨i,n⟩
 .exact⟨fun _ i h=>by simp[D.nm] at h,fun _=>trivial⟩
 .exact⟨fun _ i h=>by simp[D.nm] at h,fun _=>trivial⟩
 .exact⟨fun h j hj=>by cases hj;exact h,fun h=>h i rfl⟩
 .exact⟨fun h j hj=>by cases hj;exact h,fun h=>h i rfl⟩
theorem D.kK{H H':Hp}{d:D}(hd:d.gb H)(h:∀i e,d.nm=some i->H[i]?=some (some e)->e.cY=false->∃e',H'[i]?=some (some e')/\e'.cY=false):d.gb H':=by
 rw[D.uj] at hd ⊢;intro i hi;obtain⟨e,he,hv⟩:=hd i hi;exact h i e hi he hv
theorem rE{H:Hp}{e:HE}(hv:e.cY=false:=by rfl):∃e',(H++[some e])[H.length]?=some (some e')/\e'.cY=false:=⟨e,by simp,hv⟩
theorem PK{H:Hp}{x:Option HE}{i:Nat}{e:HE}(h:H[i]?=some (some e))(hv:e.cY=false):∃e',(H++[x])[i]?=some (some e')/\e'.cY=false:=
 ⟨e,by rw[XV (XN.1 h).1];exact h,hv⟩
theorem D.gb.xz{H:Hp}{x:Option HE}{d:D}(h:d.gb H):d.gb (H++[x]):=D.kK h fun _ _ _ h hv=>PK h hv
theorem Bc{H:Hp}{e e0:HE}{i j:Nat}(h:H[j]?=some (some e0))(hv0:e0.cY=false)(hv:e.cY=false):∃e',(H.set i (some e))[j]?=some (some e')/\e'.cY=false:=by
 by_cases hij:i=j
 .subst hij;exact⟨e,X7 (XN.1 h).1,hv⟩
 .exact⟨e0,by rw[X0 hij];exact h,hv0⟩
theorem D.gb.oj{H:Hp}{i:Nat}{e:HE}{d:D}(h:d.gb H)(hv:∀e0,H[i]?=some (some e0)->e0.cY=false->e.cY=false):d.gb (H.set i (some e)):=D.kK h fun j e0 _ h hv0=>by
 by_cases hij:i=j
 .subst hij;exact Bc h hv0 (hv e0 h hv0)
 .exact⟨e0,by rw[X0 hij];exact h,hv0⟩
theorem oe{H:Hp}{i:Nat}(h:∃e,H[i]?=some (some e)/\e.cY=false):i<H.length:=let ⟨_,he,_⟩:=h;(XN.1 he).1
def HE.fz(e:HE):Nat:=
 match e.cP with
 |some (.inr (k,_))=>k
 |_=>0
def mA(F:aJ)(a:Act)(s:Nat):Option Value:=bif Nat.blt s 2000 then a.tmps[s]? else F.ext s
def dL(Γ:aA)(s:Nat):Option D:=bif Nat.blt s 2000 then look Γ s else none
theorem RJ{Γ:aA}{s:Nat}{d:D}(h:dL Γ s=some d):look Γ s=some d/\Nat.blt s 2000=true:=by
 unfold dL at h;cases hb:Nat.blt s 2000
 .rw[hb] at h;simp at h
 .rw[hb] at h;exact⟨h,rfl⟩
theorem ot{Γ Γ2:aA}{s:Nat}(h:look Γ2 s=look Γ s):dL Γ2 s=dL Γ s:=by unfold dL;rw[h]
theorem jq{F:aJ}{a:Act}{s:Nat}(h:Nat.blt s 2000=true):mA F a s=a.tmps[s]?:=by unfold mA;rw[h];rfl
structure Good(w0:aJ)(A0:ak)(N:Nat)(Γ:aA)(H:Hp)(E:Env)(a:Act)(w:World):Prop where
 below:w0.cW w
 bc:∀k j,E.A k j->k<w.heap.size
 cE:∀k j,E.A k j->A0 k j\/w0.w.heap.size<=k\/w0.X k
 defers:a.defers=[]
 size:a.tmps.size=N
 cr:∀s d,look Γ s=some d->d.gb H/\∃v,mA w0 a s=some v/\d.den E v w
 boxes:∀i e,H[i]?=some (some e)->e.ok E i w/\(E.nil i=false->w0.oo e.cP (E.b i)/\∀j,e.fz<=j->¬E.A (E.b i) j)
 apart:∀i j e e',H[i]?=some (some e)->H[j]?=some (some e')->E.nil i=false->E.nil j=false->i≠j->E.b i≠E.b j
 kn:∀(i:Nat) (e:HE) (n:Nat),H[i]?=some (some e)->(∃k,e.cP=some (.inr (k,some n)))->E.A.g i n=some (e.name E i)/\(∀m,n<m->E.A.g i m=none)/\(E.nil i=false->∀j,j<e.fz->E.A (E.b i) j)
 gd:∀(i m:Nat) (v:Value),E.A.g i m=some v->∃(e:HE) (k n:Nat),H[i]?=some (some e)/\e.cP=some (.inr (k,some n))
 bg:Old A0.c E.A.c w0.w w
theorem Good.tmp{w0:aJ}{A0:ak}{N:Nat}{Γ:aA}{H:Hp}{E:Env}{a:Act}{w:World}(h:Good w0 A0 N Γ H E a w){s:Nat}{d:D}(hs:dL Γ s=some d):d.gb H/\∃v,a.tmps[s]?=some v/\d.den E v w:=by
 obtain⟨h1,h2⟩:=RJ hs;obtain⟨ho,v,hv,hd⟩:=h.cr s d h1;rw[jq h2] at hv;exact⟨ho,v,hv,hd⟩
def St(w0:aJ)(A0:ak)(N:Nat)(Γ:aA)(H:Hp)(a:Act)(w:World):Prop:=∃E,Good w0 A0 N Γ H E a w
theorem uB(k:Nat)(d:Option D)(g:aA)(s:Nat):look ((k,d)::g) s=bif Nat.beq k s then d else look g s:=rfl
theorem hY(k:Nat)(d:Option D)(g:aA):look ((k,d)::g) k=d:=by simp[uB]
theorem gH{k s:Nat}(h:k≠s)(d:Option D)(g:aA):look ((k,d)::g) s=look g s:=by
 rw[uB];have:Nat.beq k s=false:=by
  cases hb:Nat.beq k s
  .rfl
  .exact absurd (XT hb) h
 rw[this];rfl
theorem D.fK{E:Env}{d:D}{v:Value}{w w':World}(h:kept E.A w w')(hd:d.den E v w):d.den E v w':=by
 rcases d with x|xs|p|q
 .exact V.fK h hd
 .obtain⟨vs,rfl,hv⟩:=hd;exact⟨vs,rfl,hv.bI h⟩
 .exact hd
 .exact hd
theorem D.sM{E:Env}{A':ak}{d:D}{v:Value}{w:World}(h:ak.le E.A A')(hd:d.den E v w):d.den { E with A:=A' } v w:=by
 rcases d with x|xs|p|q
 .exact V.cU h hd
 .obtain⟨vs,rfl,hv⟩:=hd;exact⟨vs,rfl,hv.mono h⟩
 .exact hd
 .exact hd
theorem HE.kL{E:Env}{i:Nat}{e:HE}{w w':World}(h:kept E.A w w')
  (hb:E.nil i=false->w'.heap[E.b i]?=w.heap[E.b i]?) (hd:e.ok E i w):e.ok E i w':=by
 unfold HE.ok at *;split <;> rename_i hr
 .rw[hr] at hd;obtain⟨hn,cs,hc,hl⟩:=hd;exact⟨hn,cs,by rw[hb hn];exact hc,hl.bI h⟩
 .rw[hr] at hd;by_cases hn:E.nil i=true
  .simp only[hn,if_true] at hd ⊢;exact hd
  .simp only[hn] at hd ⊢;obtain⟨hm,cs,rest,hc,hl,hd⟩:=hd;exact⟨hm,cs,rest,by rw[hb (by simpa using hn)];exact hc,hl,hd.bI h⟩
theorem HE.jt{E:Env}{A':ak}{i:Nat}{e:HE}{w:World}(h:ak.le E.A A')(hd:e.ok E i w):e.ok { E with A:=A' } i w:=by
 unfold HE.ok at *;split <;> rename_i hr
 .rw[hr] at hd;obtain⟨hn,cs,hc,hl⟩:=hd;exact⟨hn,cs,hc,hl.mono h⟩
 .rw[hr] at hd;by_cases hn:E.nil i=true
  .simp only[hn,if_true] at hd ⊢;exact hd
  .simp only[hn] at hd ⊢;obtain⟨hm,cs,rest,hc,hl,hd⟩:=hd;exact⟨hm,cs,rest,hc,hl,hd.mono h⟩
theorem HE.eu{E:Env}{i:Nat}{e:HE}{w:World}(hd:e.ok E i w)(hn:E.nil i=false):E.b i<w.heap.size:=by
 unfold HE.ok at hd;split at hd
 .obtain⟨_,cs,hc,_⟩:=hd;exact(X4.1 hc).1
 .simp only[hn] at hd;obtain⟨_,cs,rest,hc,_⟩:=hd;exact(X4.1 hc).1
section
variable {w0:aJ}{A0:ak}{N:Nat}{Γ:aA}{H:Hp}{E:Env}{a:Act}{w:World}
theorem Good.drew(h:Good w0 A0 N Γ H E a w):Good w0 A0 N Γ H E a w.drew:=
 ⟨h.below.then ((Below.refl _ _).drew),h.bc,h.cE,h.defers,h.size,fun s d hs=>let ⟨ho,v,hv,hd⟩:=h.cr s d hs;⟨ho,v,hv,D.fK (w:=w) (kept.refl _ _) hd⟩,
  fun i e he=>⟨HE.kL (w:=w) (kept.refl _ _) (fun _=>rfl) (h.boxes i e he).1,(h.boxes i e he).2⟩,h.apart,h.kn,h.gd,h.bg⟩
theorem Pe(a:Act)(s:Nat)(v:Value)(h:s<a.tmps.size):(a.put (some s) v).tmps[s]?=some v:=by
 simp[Act.put,h]
theorem Pf(a:Act)(s t:Nat)(v:Value)(h:s≠t):(a.put (some s) v).tmps[t]?=a.tmps[t]?:=by
 simp[Act.put,zaW h]
theorem rA(a:Act)(dst:Option Nat)(v:Value):(a.put dst v).tmps.size=a.tmps.size:=by cases dst <;> simp[Act.put]
theorem put_defers(a:Act)(dst:Option Nat)(v:Value):(a.put dst v).defers=a.defers:=by cases dst <;> rfl
def eA(N:Nat):Option Nat->Bool
 |some s=>Nat.blt s N&&Nat.blt s 2000
 |none=>true
theorem Good.put(h:Good w0 A0 N Γ H E a w){dst:Option Nat}{v:Value}{d:Option D}(hd:∀x,d=some x->x.gb H/\x.den E v w)(hN:eA N dst=true) :
  Good w0 A0 N (ct Γ dst d) H E (a.put dst v) w:=by
 refine⟨h.below,h.bc,h.cE,by rw[put_defers];exact h.defers,by rw[rA];exact h.size,?_,h.boxes,h.apart,h.kn,h.gd,h.bg⟩;intro s x hs
 cases dst with
 |none=>exact h.cr s x hs
 |some t=>
  have hN':t<N/\t<2000:=by simpa[eA] using hN
  by_cases e:t=s
  .subst e;simp only[ct,hY] at hs;exact⟨(hd x hs).1,v,by rw[jq (by simpa using hN'.2)];exact Pe a t v (by rw[h.size];exact hN'.1),(hd x hs).2⟩
  .simp only[ct,gH e] at hs;obtain⟨ho,u,hu,hd'⟩:=h.cr s x hs;refine⟨ho,u,?_,hd'⟩;unfold mA at hu ⊢;rw[Pf a t s v e];exact hu
theorem Good.grow(h:Good w0 A0 N Γ H E a w){w':World}(hb:Below w.heap.size w w') :
  Good w0 A0 N Γ H { E with A:=grown E.A w w' } a w':=by
 have hk:kept E.A w w':=ju fun k j hk=>hb.block k (h.bc k j hk);have hm:ak.le E.A (grown E.A w w'):=BO _ _ _;have hs0:w0.w.heap.size<=w.heap.size:=h.below.size;refine⟨h.below.then (hb.mono hs0),?_,?_,h.defers,h.size,?_,?_,h.apart,fun i e v he hp=>⟨(h.kn i e v he hp).1,(h.kn i e v he hp).2.1,fun hn j hj=>.inl ((h.kn i e v he hp).2.2 hn j hj)⟩,h.gd,h.bg.bI hm.1 hk⟩
 .intro k j hk;rcases hk with hk|hk
  .exact XZ (h.bc k j hk) hb.size
  .exact hk.2
 .intro k j hk;rcases hk with hk|hk
  .exact h.cE k j hk
  .exact .inr (.inl (XY hs0 hk.1))
 .intro s d hs;obtain⟨ho,v,hv,hd⟩:=h.cr s d hs;exact⟨ho,v,hv,D.sM hm (D.fK hk hd)⟩
 .intro i e he;obtain⟨h1,h2⟩:=h.boxes i e he;refine⟨HE.jt hm (HE.kL hk (fun hn=>hb.block _ (HE.eu h1 hn)) h1),fun hn=>⟨(h2 hn).1,fun j hj hA=>?_⟩⟩;rcases hA with hA|hA
  .exact(h2 hn).2 j hj hA
  .have h3:=HE.eu h1 hn;have h4:w.heap.size<=E.b i:=hA.1;omega
theorem ma(w:World)(o:Obj):Below w.heap.size w (w.alloc o):=(Below.refl _ _).alloc (XP _) o
theorem Good.alloc(h:Good w0 A0 N Γ H E a w){t:Nat}{ls:List ab}{cs:List Value}{row:Option Nat}{cap:Nat}(hc:a9 E.A ls cs w)
  (hrow:∀sz,row=some sz->cap<=maxLen/\cs.length=cap*sz) :
  ∃E',Good w0 A0 N Γ (H++[some ⟨t,ls,row,none⟩]) E' a (w.alloc (.cells cs.toArray t))/\E'.b H.length=w.heap.size/\E'.cap H.length=cap/\E'.nil H.length=false/\E'.A=E.A:=by
 let E':Env:={ b:=fun i=>if i=H.length then w.heap.size else E.b i,cap:=fun i=>if i=H.length then cap else E.cap i,nil:=fun i=>if i=H.length then false else E.nil i,A:=E.A }
 have hb:=ma w (.cells cs.toArray t);have hk:kept E.A w (w.alloc (.cells cs.toArray t)):=ju fun k j hk=>hb.block k (h.bc k j hk);have hsz:(w.alloc (.cells cs.toArray t)).heap.size=w.heap.size+1:=by simp
 have hnew:(w.alloc (.cells cs.toArray t)).heap[w.heap.size]?=some (.cells cs.toArray t (0,0)):=heap_alloc_new w _;have hden:∀(d:D) v,d.gb H->d.den E v w->d.den E' v (w.alloc (.cells cs.toArray t)):=by
  intro d v ho hd;have hd:=D.fK hk hd;rcases d with x|xs|⟨i,o⟩|⟨i,n⟩
  .exact hd
  .exact hd
  .have hi:i≠H.length:=zax (oe ho);simp only[D.den,E',if_neg hi] at hd ⊢;exact hd
  .have hi:i≠H.length:=zax (oe ho);simp only[D.den,E',if_neg hi] at hd ⊢;exact hd
 have hoks:∀(i:Nat) (e:HE),i≠H.length->e.ok E i w->e.ok E' i (w.alloc (.cells cs.toArray t)):=by
  intro i e hi he;have he':=HE.kL (w':=w.alloc (.cells cs.toArray t)) hk (fun hn=>hb.block _ (HE.eu he hn)) he;simp only[HE.ok,E',if_neg hi] at he' ⊢;exact he'
 refine⟨E',⟨h.below.then (hb.mono h.below.size),?_,h.cE,h.defers,h.size,?_,?_,?_,?_,?_,h.bg.bI (fun _ _ x=>x) hk⟩,by simp[E'],by simp[E'],by simp[E'],rfl⟩
 .intro k j hk;have:=h.bc k j hk;omega
 .intro s d hs;obtain⟨ho,v,hv,hd⟩:=h.cr s d hs;exact⟨ho.xz,v,hv,hden d v ho hd⟩
 .intro i e he;by_cases hi:i=H.length
  .subst hi;simp at he;subst he;refine⟨?_,fun _=>⟨by simp only[E',if_true];exact h.below.size,by simp only[E',if_true];intro j _ hA;have:=h.bc _ _ hA;omega⟩⟩
   cases row with
   |none=>exact⟨by simp[E'],cs,by simpa[E'] using hnew,hc.bI hk⟩
   |some sz=>
    obtain⟨h1,h2⟩:=hrow sz rfl;simp only[HE.ok,E',if_true];exact⟨h1,cs,[],by simpa using hnew,by simpa using h2,hc.bI hk⟩
  .have hlt:i<H.length:=by
    have:=(XN.1 he).1;simp at this;omega
   rw[XV hlt] at he;obtain⟨h1,h2⟩:=h.boxes i e he;refine⟨hoks i e hi h1,fun hn=>?_⟩;simp only[E',if_neg hi] at hn ⊢;exact h2 hn
 .intro i j e e' he he' hn hn' hij;have bg:∀(i:Nat) (e:HE),(H++[some ⟨t,ls,row,none⟩])[i]?=some (some e)->i≠H.length->H[i]?=some (some e):=by
   intro i e he hi;have hlt:i<H.length:=by
    have:=(XN.1 he).1;simp at this;omega
   rwa [XV hlt] at he
  by_cases hi:i=H.length
  .have hj:j≠H.length:=fun e=>hij (hi.trans e.symm);simp only[E',if_neg hj] at hn' ⊢;rw[if_pos hi];have:=HE.eu (h.boxes j e' (bg j e' he' hj)).1 hn';omega
  .by_cases hj:j=H.length
   .simp only[E',if_neg hi] at hn ⊢;rw[if_pos hj];have:=HE.eu (h.boxes i e (bg i e he hi)).1 hn;omega
   .simp only[E',if_neg hi,if_neg hj] at hn hn' ⊢;exact h.apart i j e e' (bg i e he hi) (bg j e' he' hj) hn hn' hij
 .intro i e v he hp;by_cases hi:i=H.length
  .subst hi;simp at he;subst he;simp at hp
  .have hlt:i<H.length:=by
    have:=(XN.1 he).1;simp at this;omega
   rw[XV hlt] at he;have:=h.kn i e v he hp;unfold HE.name at this ⊢;simp only[E',if_neg hi];exact this
 .intro i m v hv;obtain⟨e,k,n,h1,h2⟩:=h.gd i m v hv;exact⟨e,k,n,by rw[XV (XN.1 h1).1];exact h1,h2⟩
theorem Good.setRow(h:Good w0 A0 N Γ H E a w){i:Nat}{e:HE}(he:H[i]?=some (some e))(hn:E.nil i=false){ls':List ab}{cs' rest':List Value}{cs0:Array Value}
  (h0:w.heap[E.b i]?=some (.cells cs0 e.t (0,0))) (hl:cs0.size=(cs'++rest').length) (hbox:e.row=none->rest'=[]) (hd:a9 E.A ls' cs' w) (hkn:(∀k n,e.cP≠some (.inr (k,some n)))\/ls'.length=e.ls.length)
  (hfz:∀j,j<e.fz->(cs'++rest')[j]?=cs0[j]?) :
  Good w0 A0 N Γ (H.set i (some { e with ls:=ls' })) E a (w.setRow (E.b i) (cs'++rest').toArray):=by
 obtain⟨h1,h2⟩:=h.boxes i e he;obtain⟨h3,h4⟩:=h2 hn;have hi:i<H.length:=(XN.1 he).1;have hnew:=setRow_heap w (E.b i) cs0 (cs'++rest').toArray e.t (0,0) h0;have hk:kept E.A w (w.setRow (E.b i) (cs'++rest').toArray):=by
  intro k j hA;by_cases hkb:k=E.b i
  .subst hkb;have hj:j<e.fz:=Nat.lt_of_not_le fun hle=>h4 j hle hA;unfold World.cell?;rw[hnew,h0];have:=hfz j hj;simpa using this
  .exact Zk (setRow_other w _ k _ (fun e=>hkb e))
 have hfze:({ e with ls:=ls' }:HE).fz=e.fz:=rfl;refine⟨?_,?_,h.cE,h.defers,h.size,?_,?_,?_,?_,?_,h.bg.bI (fun _ _ x=>x) hk⟩
 .refine⟨h.below.os,h.below.tape,h.below.output,by rw[setRow_size];exact h.below.size,fun k hk hx=>?_,fun k cs t m hx hk=>?_,h.below.jU,h.below.apart⟩;rw[setRow_other w _ k _ (fun e'=>?_)]
  .exact h.below.block k hk hx
  .subst e'
   cases hp:e.cP with
   |none=>rw[hp] at h3;have:w0.w.heap.size<=E.b i:=h3;omega
   |some q=>
    rw[hp] at h3
    cases q with
    |inl q=>
     obtain⟨h5,h6⟩:=h3;rw[h5] at hx hk;rcases h6 with h6|h6
     .omega
     .exact hx h6
    |inr q=>
     rcases h3 with h3|h3
     .omega
     .exact hx h3
  .obtain⟨cs1,g1,g2⟩:=h.below.kb k cs t m hx hk;by_cases hb:k=E.b i
   .subst hb;rw[h0] at g1;cases g1;exact⟨_,hnew,by rw[<-g2,hl];simp⟩
   .exact⟨cs1,by rw[setRow_other w _ k _ hb];exact g1,g2⟩
 .intro k j hk';rw[setRow_size];exact h.bc k j hk'
 .intro s d hs;obtain⟨ho,v,hv,hd⟩:=h.cr s d hs;exact⟨ho.oj (fun e0 h0 h1=>by rw[he] at h0;cases h0;exact h1),v,hv,D.fK hk hd⟩
 .intro j e' he';by_cases hj:i=j
  .subst hj;rw[X7 hi] at he';simp only[XL] at he';subst he';refine⟨?_,fun hn=>⟨(h2 hn).1,fun j hj=>(h2 hn).2 j (by rw[hfze] at hj;exact hj)⟩⟩;unfold HE.ok at h1 ⊢
   cases hr:e.row with
   |none=>
    rw[hr] at h1;simp only[];rw[hbox hr,YF] at hnew ⊢;exact⟨hn,cs',hnew,by rw[hbox hr,YF] at hk;exact hd.bI hk⟩
   |some sz=>
    rw[hr] at h1;simp only[hn] at h1 ⊢;obtain⟨hm,cs1,rest1,hc1,hl1,_⟩:=h1;rw[hc1] at h0;cases h0;refine⟨hm,cs',rest',hnew,?_,hd.bI hk⟩;rw[<-hl,<-hl1];simp
  .rw[X0 hj] at he';obtain⟨g1,g2⟩:=h.boxes j e' he';refine⟨HE.kL hk (fun hn'=>setRow_other w _ _ _ ?_) g1,g2⟩;exact fun hb=>h.apart i j e e' he he' hn hn' hj hb.symm
 .intro j1 j2 e1 e2 he1 he2 hn1 hn2 h12;have back:∀(j:Nat) (e1:HE),(H.set i (some { e with ls:=ls' }))[j]?=some (some e1)->∃e2,H[j]?=some (some e2):=by
   intro j e1 h1;by_cases hj:i=j
   .subst hj;exact⟨e,he⟩
   .rw[X0 hj] at h1;exact⟨e1,h1⟩
  obtain⟨e1',g1⟩:=back j1 e1 he1;obtain⟨e2',g2⟩:=back j2 e2 he2;exact h.apart j1 j2 e1' e2' g1 g2 hn1 hn2 h12
 .intro j e' v he' hp;by_cases hj:i=j
  .subst hj;rw[X7 hi] at he';simp only[XL] at he';subst he';simp only at hp;rw[hfze];rcases hkn with h0|h0
   .obtain⟨k,hp⟩:=hp;exact absurd hp (h0 k v)
   .have:=h.kn i e v he hp;unfold HE.name at this ⊢;simp only[h0];exact this
  .rw[X0 hj] at he';exact h.kn j e' v he' hp
 .intro j m v hv;obtain⟨e1,k,n,h5,h6⟩:=h.gd j m v hv;by_cases hj:i=j
  .subst hj;rw[he] at h5;cases h5;exact⟨_,k,n,X7 hi,h6⟩
  .exact⟨e1,k,n,by rw[X0 hj];exact h5,h6⟩
end
def cu(o:Oper):Bool:=
 match o.op with
 |.move _ | .assign _ | .pick _ _ _ | .load _ _ | .nilCheck _ | .binOp _ _ _ _ _ | .unOp _ _ _ | .convert _ _ _ | .build _ _
 |.slice _ _ _ _ _ | .fieldAddr _ _ _ | .field _ _ _ | .indexAddr _ _ _ | .index _ _ _ | .extract _ _ | .makeInterface _ _=>false
 |.call c=>match c.callee with | .builtin .len=>false | .builtin .min=>false | .builtin .max=>false|_=>true
 |_=>true
def Jq(P:Program)(ops:Array Oper)(X:List Nat)(o:Oper)(Γ:aA)(H:Hp)(d:D):Prop:=
 ∀(w0:aJ) (A0:ak) (N:Nat) (Γ2:aA) (H2:Hp) (E:Env) (a:Act) (w:World),
  (∀s∈o.looksAt ops,look Γ2 s=look Γ s)->(∀i e,i ∉ X->H[i]?=some (some e)->H2[i]?=some (some e))->Good w0 A0 N Γ2 H2 E a w →
  d.gb H2/\∃v,(execOp a.eval o).run P w = .ok (.value v) w/\d.den E v w
def Je(P:Program)(ops:Array Oper)(o:Oper)(Γ:aA)(H:Hp)(d:Option D)(H':Hp):Prop:=
 ∀(w0:aJ) (A0:ak) (N:Nat) (Γ2:aA) (a:Act) (w:World) (Q:Exit->Act->World->Prop) (K:Act->World->Prop),
  (∀s∈o.looksAt ops,look Γ2 s=look Γ s)->eA N o.dst=true->St w0 A0 N Γ2 H a w →
  (∀a' w',St w0 A0 N (ct Γ2 o.dst d) H' a' w'->K a' w')->o.wp P a w K Q
def JO(P:Program)(ops:Array Oper)(X:List Nat)(o:Oper)(Γ:aA)(H:Hp)(d:Option D)(H':Hp):Prop:=
 ∀(w0:aJ) (A0:ak) (N:Nat) (Γ2:aA) (H2:Hp) (a:Act) (w:World) (Q:Exit->Act->World->Prop) (K:Act->World->Prop),
  (∀s∈o.looksAt ops,look Γ2 s=look Γ s)->(if cu o then H2=H else ∀i e,i ∉ X->H[i]?=some (some e)->H2[i]?=some (some e)) →
  eA N o.dst=true->St w0 A0 N Γ2 H2 a w →
  (∀a' w',St w0 A0 N (ct Γ2 o.dst d) (if cu o then H' else H2) a' w'->K a' w') →
  if Region.wanted o (yielded ops a.tmps) then o.wp P a w K Q else K (a.put o.dst undef) w
section
variable {P:Program}{ops:Array Oper}{X:List Nat}{o:Oper}{Γ:aA}{H H':Hp}{d:D}{d':Option D}
theorem wy{a:Act}{w:World}{v:Value}{K:Act->World->Prop}{Q:Exit->Act->World->Prop}(h:(execOp a.eval o).run P w = .ok (.value v) w)(hK:K (a.put o.dst v) w) :
  o.wp P a w K Q:=by
 unfold Oper.wp;rw[h];exact hK
theorem pQ{j:Nat}{want:Bool}(hg:o.guard=some (j,want)){s:Nat}(hj:(ops[j]?).bind (·.dst)=some s):s∈o.looksAt ops:=by
 unfold Oper.looksAt;rw[hg];simp[hj]
theorem tA{w0:aJ}{A0:ak}{N:Nat}{H2:Hp}{E:Env}{a:Act}{w:World}{Γ2:aA}{j:Nat}{want b:Bool}(hg:o.guard=some (j,want)){s:Nat}(hj:(ops[j]?).bind (·.dst)=some s)
  (hs:dL Γ2 s=some (D.bool b)) (hG:Good w0 A0 N Γ2 H2 E a w):Region.wanted o (yielded ops a.tmps)=(b == want):=by
 obtain⟨_,v,hv,hd⟩:=hG.tmp hs;obtain⟨rfl,_⟩:v = .bool b/\_:=hd;simp[Region.wanted,hg,yielded,hj,hv]
theorem gL(hg:o.guard=none)(he:cu o=false)(h:Jq P ops X o Γ H d):JO P ops X o Γ H (some d) H:=by
 intro w0 A0 N Γ2 H2 a w Q K hs hH hN hSt hK;rw[he] at hH hK;obtain⟨E,hG⟩:=hSt;obtain⟨ho,v,hv,hd⟩:=h w0 A0 N Γ2 H2 E a w hs hH hG;rw[if_pos (by simp[Region.wanted,hg])];exact wy hv (hK _ _ ⟨E,hG.put (fun x hx=>by cases hx;exact⟨ho,hd⟩) hN⟩)
theorem wg{j s:Nat}{want:Bool}(hg:o.guard=some (j,want))(hj:(ops[j]?).bind (·.dst)=some s)(hl:dL Γ s=some (D.bool want))(he:cu o=false)
  (h:Jq P ops X o Γ H d):JO P ops X o Γ H (some d) H:=by
 intro w0 A0 N Γ2 H2 a w Q K hs hH hN hSt hK;rw[he] at hH hK;obtain⟨E,hG⟩:=hSt;obtain⟨ho,v,hv,hd⟩:=h w0 A0 N Γ2 H2 E a w hs hH hG;rw[tA hg hj (by rw[ot (hs s (pQ hg hj))];exact hl) hG,if_pos (by simp)];exact wy hv (hK _ _ ⟨E,hG.put (fun x hx=>by cases hx;exact⟨ho,hd⟩) hN⟩)
theorem E3{w0:aJ}{A0:ak}{N:Nat}{Γ2:aA}{H2:Hp}{E:Env}{a:Act}{w:World}(hG:Good w0 A0 N Γ2 H2 E a w)(hN:eA N o.dst=true) :
  Good w0 A0 N (ct Γ2 o.dst (some (D.aW []))) H2 E (a.put o.dst undef) w:=
 hG.put (fun x hx=>by cases hx;exact⟨trivial,[],rfl,trivial⟩) hN
theorem GF{w0:aJ}{A0:ak}{N:Nat}{H2:Hp}{E:Env}{a:Act}{w:World}{Γ2:aA}{j:Nat}{want:Bool}(hg:o.guard=some (j,want)){s:Nat}(hj:(ops[j]?).bind (·.dst)=some s)
  (hs:dL Γ2 s=some (D.aW [])) (hG:Good w0 A0 N Γ2 H2 E a w):Region.wanted o (yielded ops a.tmps)=false:=by
 obtain⟨_,v,hv,vs,hd,_⟩:=hG.tmp hs;simp[Region.wanted,hg,yielded,hj,hv,hd]
def Ep(Γ:aA)(s:Nat)(want:Bool):Prop:=dL Γ s=some (D.bool (!want))\/dL Γ s=some (D.aW [])
theorem DV{j s:Nat}{want:Bool}(hg:o.guard=some (j,want))(hj:(ops[j]?).bind (·.dst)=some s)(hl:Ep Γ s want):JO P ops X o Γ H (some (D.aW [])) H:=by
 intro w0 A0 N Γ2 H2 a w Q K hs hH hN hSt hK;obtain⟨E,hG⟩:=hSt;have hw:Region.wanted o (yielded ops a.tmps)=false:=by
  rcases hl with hl|hl
  .rw[tA hg hj (by rw[ot (hs s (pQ hg hj))];exact hl) hG];simp
  .exact GF hg hj (by rw[ot (hs s (pQ hg hj))];exact hl) hG
 rw[if_neg (by rw[hw];simp)];refine hK _ _ ⟨E,?_⟩;have hHe:(if cu o=true then H else H2)=H2:=by
  by_cases he:cu o=true
  .rw[if_pos he] at hH ⊢;exact hH.symm
  .rw[if_neg he]
 rw[hHe];exact E3 hG hN
theorem Lq{j s:Nat}{want:Bool}(hg:o.guard=some (j,want))(hj:(ops[j]?).bind (·.dst)=some s)(hl:dL Γ s=some (D.bool (!want))):JO P ops X o Γ H (some (D.aW [])) H:=DV hg hj (.inl hl)
theorem Xk{j s:Nat}{want:Bool}(hg:o.guard=some (j,want))(hj:(ops[j]?).bind (·.dst)=some s)(hl:dL Γ s=some (D.aW [])):JO P ops X o Γ H (some (D.aW [])) H:=DV hg hj (.inr hl)
theorem zF(hg:o.guard=none)(he:cu o=true)(h:Je P ops o Γ H d' H'):JO P ops X o Γ H d' H':=by
 intro w0 A0 N Γ2 H2 a w Q K hs hH hN hSt hK;rw[he] at hH hK;simp only[if_true] at hH hK;subst hH;rw[if_pos (by simp[Region.wanted,hg])];exact h w0 A0 N Γ2 a w Q K hs hN hSt hK
theorem Lr{j s:Nat}{want:Bool}(hg:o.guard=some (j,want))(hj:(ops[j]?).bind (·.dst)=some s)(hl:dL Γ s=some (D.bool want))(he:cu o=true)
  (h:Je P ops o Γ H d' H'):JO P ops X o Γ H d' H':=by
 intro w0 A0 N Γ2 H2 a w Q K hs hH hN hSt hK;rw[he] at hH hK;simp only[if_true] at hH hK;subst hH;have hSt':=hSt;obtain⟨E,hG⟩:=hSt';rw[tA hg hj (by rw[ot (hs s (pQ hg hj))];exact hl) hG,if_pos (by simp)];exact h w0 A0 N Γ2 a w Q K hs hN hSt hK
end
def Tl(P:Program)(ops:Array Oper)(Q:Exit->Act->World->Prop)(w0:aJ)(A0:ak)(N:Nat)(Γ:aA)(H:Hp)(l:List Oper):Prop:=
 ∀a w,St w0 A0 N Γ H a w->wpList P ops Q l a w
def Tc(P:Program)(Q:Exit->Act->World->Prop)(w0:aJ)(A0:ak)(N:Nat)(Γ:aA)(H:Hp)(c:Code):Prop:=
 ∀a w,St w0 A0 N Γ H a w->c.wp P Q a w
section
variable {P:Program}{ops:Array Oper}{Q:Exit->Act->World->Prop}{w0:aJ}{A0:ak}{N:Nat}{Γ:aA}{H H':Hp}
theorem KW{o:Oper}{rest:List Oper}{d:Option D}(h:JO P ops [] o Γ H d H')(hq:cu o=false->H'=H)(hN:eA N o.dst=true)
  (hr:Tl P ops Q w0 A0 N (ct Γ o.dst d) H' rest):Tl P ops Q w0 A0 N Γ H (o::rest):=by
 intro a w hSt;have:=h w0 A0 N Γ H a w Q (wpList P ops Q rest) (fun _ _=>rfl) (by split <;> simp) hN hSt (fun a' w' hs=>hr a' w' (by
  by_cases he:cu o=true
  .rwa [if_pos he] at hs
  .rw[if_neg he] at hs;rwa [hq (by simpa using he)]))
 unfold wpList;split
 .rename_i hw;rw[if_pos hw] at this;exact .inl this
 .rename_i hw;rw[if_neg hw] at this;exact this
theorem Wh(h:∀a w,St w0 A0 N Γ H a w->Q .normal a w):Tl P ops Q w0 A0 N Γ H []:=fun a w hs=>wpList_nil (h a w hs)
theorem K2{id:Nat}{l:List Oper}(h:Tl P l.toArray Q w0 A0 N Γ H l):Tc P Q w0 A0 N Γ H (.region id l.toArray false):=
 fun a w hs=>wp_region_lit (h a w hs)
theorem Dw{x y:Code}(h:Tc P (Exit.then (y.wp P Q) Q) w0 A0 N Γ H x):Tc P Q w0 A0 N Γ H (.seq x y):=fun a w hs=>wp_seq (h a w hs)
theorem Wn(h:∀a w,St w0 A0 N Γ H a w->Q .normal a w):Tc P Q w0 A0 N Γ H .skip:=fun a w hs=>wp_skip (h a w hs)
theorem WA{id:Nat}(h:∀a w,St w0 A0 N Γ H a w->Q (.exit id) a w):Tc P Q w0 A0 N Γ H (.exit id):=fun a w hs=>wp_exit (h a w hs)
theorem WD{id:Nat}{c:Code}(h:Tc P (Exit.inBlock id Q) w0 A0 N Γ H c):Tc P Q w0 A0 N Γ H (.block id c):=fun a w hs=>wp_block (h a w hs)
theorem cV{s:Nat}{x y:Code}{b:Bool}(hl:dL Γ s=some (D.bool b))(ht:b=true->Tc P Q w0 A0 N Γ H x)(hf:b=false->Tc P Q w0 A0 N Γ H y) :
  Tc P Q w0 A0 N Γ H (.cond (.tmp s) x y):=by
 intro a w hs;have hs':=hs;obtain⟨E,hG⟩:=hs';obtain⟨_,v,hv,hd⟩:=hG.tmp hl;obtain⟨rfl,_⟩:v = .bool b/\_:=hd;exact wp_cond_split (t:=b) (by simp[Act.eval,hv]) (fun h=>ht h a w hs) (fun h=>hf h a w hs)
def sub(Γ' Γ:aA):Prop:=∀s d,look Γ' s=some d->look Γ s=some d
theorem St.weaken{a:Act}{w:World}{Γ':aA}(h:St w0 A0 N Γ H a w)(hs:sub Γ' Γ):St w0 A0 N Γ' H a w:=
 let ⟨E,g⟩:=h
 ⟨E,g.below,g.bc,g.cE,g.defers,g.size,fun s d h=>g.cr s d (hs s d h),g.boxes,g.apart,g.kn,g.gd,g.bg⟩
def known(Γ:aA):aA->Prop
 |[]=>True
 |(s,some d)::g=>look Γ s=some d/\known Γ g
 |(_,none)::g=>known Γ g
theorem wO{Γ':aA}(h:known Γ Γ'):sub Γ' Γ:=by
 induction Γ' with
 |nil=>intro s d hs;simp[look] at hs
 |cons p g ih=>
  obtain⟨k,d⟩:=p;intro s x hs;rw[uB] at hs;cases hb:Nat.beq k s
  .rw[hb] at hs
   cases d with
   |none=>exact ih h s x hs
   |some d=>exact ih h.2 s x hs
  .rw[hb] at hs;have:=XT hb;subst this
   cases d with
   |none=>simp at hs
   |some d=>simp at hs;subst hs;exact h.1
theorem Wv{S:Type}{c:Code}(G:S->aA)(HH:S->Hp)(μ:S->Nat)(I:S->Prop)(s0:S)(hI:I s0)(h0:known Γ (G s0))(hH:H=HH s0)
  (round:∀s,I s->Tc P (Exit.then (fun a w=>∃s',I s'/\μ s'<μ s/\St w0 A0 N (G s') (HH s') a w) Q) w0 A0 N (G s) (HH s) c):Tc P Q w0 A0 N Γ H (.loop c):=by
 intro a w hs;subst hH;have hs0:St w0 A0 N (G s0) (HH s0) a w:=hs.weaken (wO h0);intro b k cs;have key:∀n,∀s,I s->μ s=n->∀a w,St w0 A0 N (G s) (HH s) a w →
   ∃e a' w',Q e a' w'/\Arrives P (lone (b.at a (.code c :: .inLoop c::k)) cs w) b k cs e a' w':=by
  intro n
  induction n using Nat.strongRecOn with
  |_ n ih=>
   intro s hIs hn a w hst;obtain⟨e,a₁,w₁,hq,harr⟩:=round s hIs a w hst b (.inLoop c::k) cs
   cases e with
   |normal=>
    obtain⟨s',hI',hlt,hst'⟩:=hq;obtain⟨e₂,a₂,w₂,hq₂,harr₂⟩:=ih (μ s') (hn ▸ hlt) s' hI' rfl a₁ w₁ hst';exact⟨e₂,a₂,w₂,hq₂,.of_steps (Steps.trans harr (.one step_inLoop)) harr₂⟩
   |exit id=>exact⟨_,a₁,w₁,hq,.pass (x:=.inLoop c) rfl (fun _ _=>.inl (by simp)) harr⟩
   |goto l=>exact⟨_,a₁,w₁,hq,.pass (x:=.inLoop c) rfl (fun _ _=>.inl (by simp)) harr⟩
   |ret=>exact⟨_,a₁,w₁,hq,.pass (x:=.inLoop c) rfl (fun _ _=>.inl (by simp)) harr⟩
   |panic ch=>exact⟨_,a₁,w₁,hq,.pass (x:=.inLoop c) rfl (fun _ _=>.inl (by simp)) harr⟩
   |outgrown=>exact⟨_,a₁,w₁,hq,.pass (x:=.inLoop c) rfl (fun _ _=>.inl (by simp)) harr⟩
 obtain⟨e,a',w',hq,harr⟩:=key _ s0 hI rfl a w hs0;exact⟨e,a',w',hq,.of_steps (.one step_loop) harr⟩
end
def dep(ops:Array Oper)(i j:Nat):Bool:=((ops[i]?).map fun o=>o.after.any fun e=>Region.binds .any e&&Nat.beq e.on j).getD false
def lZ(ops:Array Oper)(i:Nat):Bool:=((ops[i]?).map cu).getD false
def dw(ops:Array Oper)(i:Nat):Option Nat:=(ops[i]?).bind (·.dst)
def me(ops:Array Oper):Nat->List Nat
 |0=>[]
 |n+1=>me ops n++[(List.range n).foldl (fun m j=>bif dep ops n j then m ||| (1 <<< j) ||| (me ops n).getD j 0 else m) 0]
def reach(ops:Array Oper)(i j:Nat):Bool:=((me ops (i+1)).getD i 0).testBit j
theorem Df(ops:Array Oper)(n:Nat):(me ops n).length=n:=by
 induction n with
 |zero=>rfl
 |succ n ih=>simp[me,ih]
theorem VO(ops:Array Oper){n i:Nat}(h:i<n):(me ops n).getD i 0=(me ops (i+1)).getD i 0:=by
 induction n with
 |zero=>omega
 |succ n ih=>
  by_cases e:i=n
  .subst e;rfl
  .have hlt:i<n:=by omega
   rw[me,Zp,XV (by rw[Df];exact hlt),<-Zp];exact ih hlt
theorem Td{f:Nat->Bool}{g:Nat->Nat}{j:Nat}:∀(l:List Nat) (m0:Nat),(l.foldl (fun m x=>bif f x then m ||| (1 <<< x) ||| g x else m) m0).testBit j=true →
  m0.testBit j=true \/ ∃x∈l,f x=true/\(x=j\/(g x).testBit j=true):=by
 intro l
 induction l with
 |nil=>intro m0 h;exact .inl h
 |cons y ys ih=>
  intro m0 h;rw[Y6] at h;rcases ih _ h with h1|⟨x,hx,h2⟩
  .cases hf:f y with
   |false=>rw[hf] at h1;exact .inl h1
   |true=>
    rw[hf] at h1;simp only[cond_true,Nat.testBit_or,YO] at h1;rcases h1 with (h1|h1)|h1
    .exact .inl h1
    .refine .inr ⟨y,by simp,hf,.inl ?_⟩;rw[Nat.one_shiftLeft,Nat.testBit_two_pow] at h1;simpa using h1
    .exact .inr ⟨y,by simp,hf,.inr h1⟩
  .exact .inr ⟨x,by simp[hx],h2⟩
theorem OR{ops:Array Oper}{i j:Nat}(h:reach ops i j=true):∃x,x<i/\dep ops i x=true/\(x=j\/reach ops x j=true):=by
 unfold reach at h;rw[me,Zp,YL (by rw[Df];exact XP _)] at h;rw[Df,zaS] at h;simp only[YD,Yt] at h;rcases Td (f:=fun x=>dep ops i x) (g:=fun x=>(me ops i).getD x 0) _ _ h with h1|⟨x,hx,h1,h2⟩
 .simp at h1
 .have hlt:=Y9.1 hx;refine⟨x,hlt,h1,?_⟩;rcases h2 with h2|h2
  .exact .inl h2
  .right;unfold reach;rw[<-VO ops hlt];exact h2
theorem OS{ops:Array Oper}{S:Nat->Prop}(hS:∀i j,S i->dep ops i j=true->S j):∀(i j:Nat),reach ops i j=true->(∀x,dep ops i x=true->S x)->S j:=by
 intro i
 induction i using Nat.strongRecOn with
 |_ i ih=>
  intro j h hi;obtain⟨x,hlt,hd,h2⟩:=OR h;rcases h2 with rfl|h2
  .exact hi x hd
  .exact ih x hlt j h2 (fun y hy=>hS x y (hi x hd) hy)
def fC(ops:Array Oper)(tl:List (Option Nat))(k x:Nat):Bool:=
 lZ ops k&&(match tl.getD k none with
  |some y=>Nat.beq y x
  |none=>false)
def before(ops:Array Oper)(i j:Nat):Bool:=dep ops i j||reach ops i j
def kg(ops:Array Oper)(tl:List (Option Nat))(x p:Nat):Bool:=
 (List.range ops.size).all fun k=>!(fC ops tl k x)||Nat.beq k p||(bif Nat.blt k p then before ops p k else before ops k p)
def rp(N:Nat)(ops:Array Oper)(tl:List (Option Nat))(X:List Nat):Bool:=
 (List.range ops.size).all fun i=>match ops[i]? with
  |none=>true
  |some o=>o.after.all (fun e=>!Region.binds .any e||Nat.blt e.on i)&&eA N o.dst &&
   (match tl.getD i none with
    |some x=>X.contains x&&(!(lZ ops i)||kg ops tl x i)
    |none=>true) &&
   (List.range ops.size).all (fun j=>match ops[j]? with
    |none=>true
    |some p=>(match p.dst with
     |none=>true
     |some s=>(Nat.beq i j || !(o.dst == some s))&&(!((o.looksAt ops).contains s)||((Nat.blt j i&&dep ops i j)||(Nat.blt i j&&dep ops j i)))))
def JE(P:Program)(ops:Array Oper)(t:Option Nat)(o:Oper)(Γ:aA)(H:Hp)(d:Option D)(H':Hp):Prop:=
 ∀(w0:aJ) (A0:ak) (N:Nat) (Γ2:aA) (H2:Hp) (a:Act) (w:World) (Q:Exit->Act->World->Prop) (K:Act->World->Prop),
  (∀s∈o.looksAt ops,look Γ2 s=look Γ s)->(∀i,t=some i->H2[i]?=H[i]?)->eA N o.dst=true->St w0 A0 N Γ2 H2 a w →
  (∀a' w' H2',(∀j,t≠some j->H2'[j]?=H2[j]?)->(∀i,t=some i->H2'[i]?=H'[i]?)->St w0 A0 N (ct Γ2 o.dst d) H2' a' w'->K a' w') →
  if Region.wanted o (yielded ops a.tmps) then o.wp P a w K Q else K (a.put o.dst undef) w
def wj(P:Program)(ops:Array Oper)(tl:List (Option Nat))(X:List Nat):Nat->List Oper->aA->Hp->aA->Hp->Prop
 |_,[],Γ,H,Γ',H'=>Γ'=Γ/\H'=H
 |n,o::os,Γ,H,Γ',H'=>∃d H1,((cu o=false/\H1=H/\∃X',(X.all fun x=>X'.contains x||kg ops tl x n)=true/\JO P ops X' o Γ H d H) ∨
   (cu o=true/\JE P ops (tl.getD n none) o Γ H d H1/\∀j,tl.getD n none≠some j->H1[j]?=H[j]?))/\wj P ops tl X (n+1) os (ct Γ o.dst d) H1 Γ' H'
theorem wj.fns{P:Program}{ops:Array Oper}{tl:List (Option Nat)}{X:List Nat}{n:Nat}{l:List Oper}{Γ Γ':aA}{H H':Hp}(h:wj P ops tl X n l Γ H Γ' H') :
  ∃(gg:Nat->aA) (hh:Nat->Hp),gg 0=Γ/\hh 0=H/\gg l.length=Γ'/\hh l.length=H' ∧
   ∀i o,l[i]?=some o->∃d,gg (i+1)=ct (gg i) o.dst d/\((cu o=false/\hh (i+1)=hh i/\∃X',(X.all fun x=>X'.contains x||kg ops tl x (n+i))=true/\JO P ops X' o (gg i) (hh i) d (hh i)) ∨
   (cu o=true/\JE P ops (tl.getD (n+i) none) o (gg i) (hh i) d (hh (i+1))/\∀j,tl.getD (n+i) none≠some j->(hh (i+1))[j]?=(hh i)[j]?)):=by
 induction l generalizing Γ H n with
 |nil=>obtain⟨rfl,rfl⟩:=h;exact⟨fun _=>Γ',fun _=>H',rfl,rfl,rfl,rfl,fun i o h=>by simp at h⟩
 |cons o os ih=>
  obtain⟨d,H1,hJ,hr⟩:=h;obtain⟨gg,hh,h1,h2,h3,h4,h5⟩:=ih hr;refine⟨fun n=>match n with|0=>Γ|n+1=>gg n,fun n=>match n with|0=>H|n+1=>hh n,rfl,rfl,h3,h4,?_⟩;intro i o' ho
  cases i with
  |zero=>
   simp at ho;subst ho;simp only[h1,h2];exact⟨d,rfl,hJ⟩
  |succ i=>
   have:=h5 i o' (by simpa using ho)
   rwa [show n+1+i=n+(i+1) from by omega] at this
section
variable {P:Program}{ops:Array Oper}{tl:List (Option Nat)}{X:List Nat}{N:Nat}
structure zz(N:Nat)(ops:Array Oper)(tl:List (Option Nat))(X:List Nat):Prop where
 back:∀(i j:Nat),dep ops i j=true->j<i
 dst:∀(i:Nat) (o:Oper),ops[i]?=some o->eA N o.dst=true
 distinct:∀(i j s:Nat),dw ops i=some s->dw ops j=some s->i=j
 looks:∀(i:Nat) (o:Oper) (s j:Nat),ops[i]?=some o->s∈o.looksAt ops->dw ops j=some s->(j<i/\dep ops i j=true)\/(i<j/\dep ops j i=true)
 names:∀(i x:Nat),i<ops.size->tl.getD i none=some x->x∈X
 chain:∀(i x:Nat),i<ops.size->fC ops tl i x=true->kg ops tl x i=true
theorem o9{k x:Nat}:fC ops tl k x=true↔lZ ops k=true/\tl.getD k none=some x:=by
 unfold fC;rw[XQ];refine and_congr_right fun _=>?_
 cases tl.getD k none with
 |none=>simp
 |some y=>simp
theorem zz.of(h:rp N ops tl X=true):zz N ops tl X:=by
 unfold rp at h;rw[Yz] at h;have key:∀(i:Nat) (o:Oper),ops[i]?=some o->(o.after.all (fun e=>!Region.binds .any e||Nat.blt e.on i)=true/\eA N o.dst=true/\(∀x,tl.getD i none=some x->x∈X/\(lZ ops i=true->kg ops tl x i=true)) ∧
   ∀(j:Nat) (p:Oper),ops[j]?=some p->(∀s,p.dst=some s->(i=j\/o.dst≠some s)/\(s ∉ o.looksAt ops\/((j<i/\dep ops i j=true)\/(i<j/\dep ops j i=true))))):=by
  intro i o ho;have hi:i<ops.size:=(X4.1 ho).1;have h1:=h i (Y9.2 hi);simp only[ho,XQ,Yz] at h1;refine⟨h1.1.1.1,h1.1.1.2,?_,?_⟩
  .intro x hx;have h2:=h1.1.2;rw[hx] at h2;simp only[XQ,YO,Zi,Zq] at h2;refine⟨h2.1,fun he=>?_⟩;rcases h2.2 with h3|h3
   .rw[he] at h3;simp at h3
   .exact h3
  .intro j p hp;have hj:j<ops.size:=(X4.1 hp).1;have h2:=h1.2 j (Y9.2 hj);simp only[hp] at h2;intro s hs;simp only[hs,XQ,YO,Zi,beq_eq_false_iff_ne,ZU,ZV,List.contains_eq_mem,decide_eq_false_iff_not] at h2;exact h2
 have at_:∀i s,dw ops i=some s->∃o,ops[i]?=some o/\o.dst=some s:=by
  intro i s hs;unfold dw at hs
  cases ho:ops[i]? with
  |none=>rw[ho] at hs;simp at hs
  |some o=>rw[ho] at hs;exact⟨o,rfl,hs⟩
 refine⟨?_,?_,?_,?_,?_,?_⟩
 .intro i j hd;unfold dep at hd
  cases ho:ops[i]? with
  |none=>rw[ho] at hd;simp at hd
  |some o=>
   rw[ho] at hd;simp only[Y0,Yt,zaO] at hd;obtain⟨e,he,hb⟩:=hd;have h1:=(key i o ho).1;rw[zaP] at h1;have:=h1 e he;simp only[XQ,ZU] at hb;simp only[hb.1,zaL,ZA,ZV] at this;omega
 .intro i o ho;exact(key i o ho).2.1
 .intro i j s hi hj;obtain⟨o,ho,hos⟩:=at_ i s hi;obtain⟨p,hp,hps⟩:=at_ j s hj;exact((key i o ho).2.2.2 j p hp s hps).1.resolve_right (fun h=>h hos)
 .intro i o s j ho hs hj;obtain⟨p,hp,hps⟩:=at_ j s hj;exact((key i o ho).2.2.2 j p hp s hps).2.resolve_left (fun h=>h hs)
 .intro i x hi hx;exact((key i ops[i] (Yd hi)).2.2.1 x hx).1
 .intro i x hi hx;obtain⟨h1,h2⟩:=o9.1 hx;exact((key i ops[i] (Yd hi)).2.2.1 x h2).2 h1
theorem zj{S:Nat->Prop}(hS:∀i j,S i->dep ops i j=true->S j){i j:Nat}(h:before ops i j=true)(hi:∀x,dep ops i x=true->S x):S j:=by
 unfold before at h;rw[YO] at h;rcases h with h|h
 .exact hi j h
 .exact OS hS i j h hi
theorem Pv{x p k:Nat}(h:kg ops tl x p=true)(hk:k<ops.size)(ht:fC ops tl k x=true)(hne:k≠p):(k<p->before ops p k=true)/\(p<k->before ops k p=true):=by
 unfold kg at h;rw[Yz] at h;have:=h k (Y9.2 hk);simp only[ht,zaL,ZA,YO,ZU] at this;rcases this with h|h
 .exact absurd h hne
 .refine⟨fun hlt=>?_,fun hlt=>?_⟩
  .rw[show Nat.blt k p=true from by simpa using hlt] at h;simpa using h
  .rw[show Nat.blt k p=false from by
    cases hb:Nat.blt k p
    .rfl
    .have:k<p:=by simpa using hb
     omega] at h
   simpa using h
theorem rr{listed:Array Bool}{i:Nat}:i∈Region.ready .any ops listed↔i<ops.size/\listed.getD i true=false/\∀j,dep ops i j=true->listed.getD j false=true:=by
 unfold Region.ready;rw[List.mem_filter,Y9];constructor
 .rintro⟨h1,h2⟩;simp only[XQ,Zi] at h2;refine⟨h1,h2.1,?_⟩;intro j hj;obtain⟨h2,h3⟩:=h2;unfold dep at hj;rw[Yd h1] at h3 hj;simp only[Y0,Yt] at h3 hj;rw[zaO] at hj;rw[zaP] at h3;obtain⟨e,he,hb⟩:=hj;simp only[XQ,ZU] at hb;have:=h3 e he;simp only[hb.1,zaL,ZA] at this;rw[<-hb.2];exact this
 .rintro⟨h1,h2,h3⟩;refine⟨h1,?_⟩;simp only[XQ,Zi];refine⟨h2,?_⟩;rw[Yd h1];simp only[Y0,Yt];rw[zaP];intro e he;by_cases hb:Region.binds .any e=true
  .have:=h3 e.on (by
    unfold dep;rw[Yd h1];simp only[Y0,Yt];rw[zaO];exact⟨e,he,by simp[hb]⟩)
   simp[this]
  .simp[hb]
theorem x4(l:Array Bool)(i j:Nat)(b:Bool)(hi:i<l.size):(l.setIfInBounds i true).getD j b=if j=i then true else l.getD j b:=by
 by_cases h:j=i
 .subst h;simp[hi]
 .have h':i≠j:=fun e=>h e.symm;simp[h,zaW h']
theorem WC{Q:Exit->Act->World->Prop}{w0:aJ}{A0:ak}{Γ Γ':aA}{H H':Hp}{id:Nat}{l:List Oper}(hm:P.follows .mixedOrders=true)
  (hok:rp N l.toArray tl X=true) (hd:wj P l.toArray tl X 0 l Γ H Γ' H') (hK:∀a w,St w0 A0 N Γ' H' a w->Q .normal a w) :
  Tc P Q w0 A0 N Γ H (.region id l.toArray true):=by
 intro a w hSt;have hf:=zz.of hok;obtain⟨gg,hh,bR,hh0,hgn,hhn,hstep⟩:=hd.fns;generalize hops:l.toArray=ops at *;have hsz:ops.size=l.length:=by rw[<-hops];simp
 have hat:∀i:Nat,l[i]?=ops[i]?:=by intro i;rw[<-hops];simp
 have effo:∀(i:Nat) (o:Oper),l[i]?=some o->lZ ops i=cu o:=by
  intro i o ho;unfold lZ;rw[<-hat,ho];rfl
 have g_up:∀(s i n:Nat),i<=n->n<=l.length->(∀j,i<=j->j<n->dw ops j≠some s)->look (gg n) s=look (gg i) s:=by
  intro s i n hin hn hno
  induction n with
  |zero=>
       have:i=0:=by omega
       subst this;rfl
  |succ n ih=>
   by_cases hi:i=n+1
   .subst hi;rfl
   .have hlt:n<l.length:=by omega
    obtain⟨d,hgs,_⟩:=hstep n l[n] (XM hlt);rw[hgs,<-ih (by omega) (by omega) (fun j h1 h2=>hno j h1 (by omega))];have hne:=hno n (by omega) (by omega);have hdst:dw ops n=l[n].dst:=by
     unfold dw;rw[<-hat,XM hlt];rfl
    rw[hdst] at hne
    cases hd':l[n].dst with
    |none=>rfl
    |some t=>rw[hd'] at hne;exact gH (fun e=>hne (by rw[e])) _ _
 have h_up:∀(x i n:Nat),i<=n->n<=l.length->(∀j,i<=j->j<n->fC ops tl j x=false)->(hh n)[x]?=(hh i)[x]?:=by
  intro x i n hin hn hno
  induction n with
  |zero=>
       have:i=0:=by omega
       subst this;rfl
  |succ n ih=>
   by_cases hi:i=n+1
   .subst hi;rfl
   .have hlt:n<l.length:=by omega
    have hln:=XM hlt;obtain⟨d,_,hcase⟩:=hstep n l[n] hln;have he:=hno n (by omega) (by omega);rw[<-ih (by omega) (by omega) (fun j h1 h2=>hno j h1 (by omega))];rcases hcase with⟨_,h1,_⟩|⟨h1,_,h2⟩
    .rw[h1]
    .refine h2 x (fun e=>?_);rw[Yk] at e;have:fC ops tl n x=true:=o9.2 ⟨by rw[effo n _ hln];exact h1,e⟩;rw[this] at he;simp at he
 let Nm:=fun(listed:Array Bool) (Hc:Hp) (x:Nat)=>∃n,n<=l.length/\(∀k,k<n->fC ops tl k x=true->listed.getD k true=true) ∧
  (∀k,n<=k->k<l.length->fC ops tl k x=true->listed.getD k true=false)/\Hc[x]?=(hh n)[x]?
 have main:∀(fuel:Nat) (listed:Array Bool) (U:List Nat) (a:Act) (w:World) (Hc:Hp) (Γc:aA),
   listed.size=ops.size->U.Nodup->U.length<=fuel->(∀i,i<ops.size->(listed.getD i true=false↔i∈U)) →
   (∀i j,i<ops.size->listed.getD i true=true->dep ops i j=true->listed.getD j true=true) →
   (∀x,Nm listed Hc x) →
   (∀s j,dw ops j=some s->j<ops.size->listed.getD j true=true->look Γc s=look Γ' s) →
   (∀s,(∀j,j<ops.size->listed.getD j true=true->dw ops j≠some s)->look Γc s=look Γ s) →
   St w0 A0 N Γc Hc a w->wpAny P .any ops Q fuel listed a w:=by
  intro fuel;have fin:∀(listed:Array Bool) (a:Act) (w:World) (Hc:Hp) (Γc:aA),(∀i,i<ops.size->listed.getD i true=true)->(∀x,Nm listed Hc x) →
    (∀s j,dw ops j=some s->j<ops.size->listed.getD j true=true->look Γc s=look Γ' s) →
    (∀s,(∀j,j<ops.size->listed.getD j true=true->dw ops j≠some s)->look Γc s=look Γ s) →
    St w0 A0 N Γc Hc a w->Q .normal a w:=by
   intro listed a w Hc Γc hall hnm hs1 hs2 hst;have e1:Hc=H':=by
    apply zaU;intro x;obtain⟨n,hn,_,h2,h3⟩:=hnm x;rw[h3,<-hhn];refine(h_up x n l.length hn (XP _) (fun j h4 h5=>?_)).symm;cases he:fC ops tl j x
    .rfl
    .have:=h2 j h4 h5 he;rw[hall j (by omega)] at this;simp at this
   rw[e1] at hst;refine hK a w (hst.weaken ?_);intro s d hs;by_cases hw:∃j,j<ops.size/\dw ops j=some s
   .obtain⟨j,hj,hjs⟩:=hw;rw[hs1 s j hjs hj (hall j hj)];exact hs
   .have hno:∀j,j<ops.size->dw ops j≠some s:=fun j hj hjs=>hw ⟨j,hj,hjs⟩;rw[hs2 s (fun j hj _=>hno j hj),<-bR];rw[<-g_up s 0 l.length (XS _) (XP _) (fun j _ h2=>hno j (by omega)),hgn];exact hs
  induction fuel with
  |zero=>
   intro listed U a w Hc Γc hsize hnd hU hUi hcl hnm hs1 hs2 hst;have hU0:U=[]:=ZB.1 (by omega);have hall:∀i,i<ops.size->listed.getD i true=true:=by
    intro i hi;cases hb:listed.getD i true
    .have:=(hUi i hi).1 hb;rw[hU0] at this;simp at this
    .rfl
   refine⟨?_,fin listed a w Hc Γc hall hnm hs1 hs2 hst⟩;rw[zaZ];intro i hi;have:=rr.1 hi;rw[hall i this.1] at this;simp at this
  |succ fuel ih=>
   intro listed U a w Hc Γc hsize hnd hU hUi hcl hnm hs1 hs2 hst;have gdd:∀j b,j<ops.size->listed.getD j b=listed.getD j true:=by
    intro j b hj;have:j<listed.size:=by omega
    simp[this]
   refine⟨fun hnil=>?_,fun i hi=>?_⟩
   .refine fin listed a w Hc Γc ?_ hnm hs1 hs2 hst;intro i
    induction i using Nat.strongRecOn with
    |_ i ihi=>
     intro hi;cases hb:listed.getD i true
     .exfalso;have:i∈Region.ready .any ops listed:=rr.2 ⟨hi,hb,fun j hj=>by
       have hlt:=hf.back i j hj;rw[gdd j false (by omega)];exact ihi j hlt (by omega)⟩
      rw[hnil] at this;simp at this
     .rfl
   .obtain⟨hin,hun,hdeps⟩:=rr.1 hi;have hdeps':∀j,dep ops i j=true->listed.getD j true=true:=fun j hj=>by
     have:=hdeps j hj
     rwa [gdd j false (YR (hf.back i j hj) hin)] at this
    have hil:i<l.length:=by omega
    have hoi:ops[i]?=some ops[i]:=Yd hin;have hli:l[i]?=some ops[i]:=by rw[hat];exact hoi
    have heff:=effo i _ hli;obtain⟨d,hgs,hcase⟩:=hstep i ops[i] hli;rw[Yk] at hcase;have hS:∀i' j,(i'<ops.size/\listed.getD i' true=true)->dep ops i' j=true->(j<ops.size/\listed.getD j true=true):=
     fun i' j h1 h2=>⟨YR (hf.back i' j h2) h1.1,hcl i' j h1.1 h1.2 h2⟩
    have hpin:∀x,kg ops tl x i=true->∀k,k<ops.size->fC ops tl k x=true->k≠i->(k<i->listed.getD k true=true)/\(i<k->listed.getD k true=false):=by
     intro x hp k hk ht hne;obtain⟨p1,p2⟩:=Pv hp hk ht hne;refine⟨fun hlt=>?_,fun hlt=>?_⟩
     .exact(zj (S:=fun y=>y<ops.size/\listed.getD y true=true) hS (p1 hlt) (fun y hy=>⟨YR (hf.back i y hy) hin,hdeps' y hy⟩)).2
     .cases hb:listed.getD k true
      .rfl
      .have:=(zj (S:=fun y=>y<ops.size/\listed.getD y true=true) hS (p2 hlt) (fun y hy=>hS k y ⟨hk,hb⟩ hy)).2;rw[hun] at this;simp at this
    have hsame:∀x,kg ops tl x i=true->Hc[x]?=(hh i)[x]?/\(fC ops tl i x=true->∀k,i<k->k<l.length->fC ops tl k x=true->listed.getD k true=false):=by
     intro x hp;obtain⟨n,hn,h1,h2,h3⟩:=hnm x;refine⟨?_,fun _ k hk hkl ht=>(hpin x hp k (by omega) ht (by omega)).2 hk⟩;rw[h3];by_cases hni:n<=i
     .refine(h_up x n i hni (by omega) (fun j h4 h5=>?_)).symm;cases he:fC ops tl j x
      .rfl
      .have a1:=(hpin x hp j (by omega) he (by omega)).1 h5;have a2:=h2 j h4 (by omega) he;rw[a1] at a2;simp at a2
     .refine h_up x i n (by omega) hn (fun j h4 h5=>?_);cases he:fC ops tl j x
      .rfl
      .have a1:=h1 j h5 he;by_cases hji:j=i
       .subst hji;rw[hun] at a1;simp at a1
       .have a2:=(hpin x hp j (by omega) he hji).2 (by omega);rw[a1] at a2;simp at a2
    have hslots:∀s∈(ops[i]).looksAt ops,look Γc s=look (gg i) s:=by
     intro s hs;by_cases hw:∃j,j<ops.size/\dw ops j=some s
     .obtain⟨j,hj,hjs⟩:=hw;rcases hf.looks i ops[i] s j hoi hs hjs with⟨hlt,hdp⟩|⟨hlt,hdp⟩
      .rw[hs1 s j hjs hj (hdeps' j hdp),<-hgn];refine g_up s i l.length (by omega) (XP _) (fun k h1 h2 hk=>?_);have:=hf.distinct k j s hk hjs;omega
      .have hunj:listed.getD j true=false:=by
        cases hb:listed.getD j true
        .rfl
        .have:=hcl j i hj hb hdp;rw[hun] at this;simp at this
       rw[hs2 s (fun k hk hkl hks=>by
        have:=hf.distinct k j s hks hjs;subst this;rw[hunj] at hkl;simp at hkl),<-bR]
       refine(g_up s 0 i (XS _) (by omega) (fun k _ h2 hk=>?_)).symm;have:=hf.distinct k j s hk hjs;omega
     .have hno:∀j,j<ops.size->dw ops j≠some s:=fun j hj hjs=>hw ⟨j,hj,hjs⟩;rw[hs2 s (fun j hj _=>hno j hj),<-bR];exact(g_up s 0 i (XS _) (by omega) (fun j _ h2=>hno j (by omega))).symm
    have hdst:=hf.dst i ops[i] hoi;have after:∀(a':Act) (w':World) (H2:Hp),St w0 A0 N (ct Γc ops[i].dst d) H2 a' w'->(∀x,Nm (listed.setIfInBounds i true) H2 x)->wpAny P .any ops Q fuel (listed.setIfInBounds i true) a' w':=by
     intro a' w' H2 hst' hnm';have hset:∀j b,(listed.setIfInBounds i true).getD j b=if j=i then true else listed.getD j b:=fun j b=>x4 listed i j b (by omega);have hUmem:i∈U:=(hUi i hin).1 hun;refine ih (listed.setIfInBounds i true) (U.erase i) a' w' H2 (ct Γc ops[i].dst d) (by simpa using hsize) (hnd.erase i) ?_ ?_ ?_ hnm' ?_ ?_ hst'
     .have:=List.length_erase_of_mem hUmem;omega
     .intro j hj;rw[hset,hnd.mem_erase_iff];by_cases e:j=i
      .simp[e]
      .rw[if_neg e];exact⟨fun h=>⟨e,(hUi j hj).1 h⟩,fun h=>(hUi j hj).2 h.2⟩
     .intro j k hj hjl hjk;rw[hset] at hjl ⊢;by_cases e:k=i
      .simp[e]
      .rw[if_neg e];by_cases e2:j=i
       .subst e2;exact hdeps' k hjk
       .rw[if_neg e2] at hjl;exact hcl j k hj hjl hjk
     .intro s j hjs hj hjl;rw[hset] at hjl;by_cases e:j=i
      .subst e;have hds:ops[j].dst=some s:=by unfold dw at hjs;rw[hoi] at hjs;exact hjs
       rw[hds] at hgs ⊢;rw[show look (ct Γc (some s) d) s=d from hY _ _ _,<-hgn];rw[g_up s (j+1) l.length (by omega) (XP _) (fun k h1 h2 hk=>by
        have:=hf.distinct k j s hk hjs;omega),hgs]
       exact(hY _ _ _).symm
      .rw[if_neg e] at hjl;have hne:ops[i].dst≠some s:=by
        intro hds;have:dw ops i=some s:=by unfold dw;rw[hoi];exact hds
        exact e (hf.distinct j i s hjs this)
       have:look (ct Γc ops[i].dst d) s=look Γc s:=by
        cases hd':ops[i].dst with
        |none=>rfl
        |some t=>rw[hd'] at hne;exact gH (fun e=>hne (by rw[e])) _ _
       rw[this];exact hs1 s j hjs hj hjl
     .intro s hno;have hne:ops[i].dst≠some s:=by
       intro hds;exact hno i hin (by rw[hset];simp) (by unfold dw;rw[hoi];exact hds)
      have:look (ct Γc ops[i].dst d) s=look Γc s:=by
       cases hd':ops[i].dst with
       |none=>rfl
       |some t=>rw[hd'] at hne;exact gH (fun e=>hne (by rw[e])) _ _
      rw[this];refine hs2 s (fun j hj hjl=>hno j hj ?_);rw[hset];by_cases e:j=i
      .simp[e]
      .rw[if_neg e];exact hjl
    have hset:∀j b,(listed.setIfInBounds i true).getD j b=if j=i then true else listed.getD j b:=fun j b=>x4 listed i j b (by omega);have bI:∀x H2,fC ops tl i x=false->H2[x]?=Hc[x]?->Nm (listed.setIfInBounds i true) H2 x:=by
     intro x H2 ht hx;obtain⟨n,hn,h1,h2,h3⟩:=hnm x;refine⟨n,hn,fun k hk htk=>?_,fun k hk hkl htk=>?_,by rw[hx,h3]⟩
     .rw[hset];split
      .rfl
      .exact h1 k hk htk
     .rw[hset,if_neg (fun e=>by subst e;rw[ht] at htk;simp at htk)];exact h2 k hk hkl htk
    have hrun:if Region.wanted ops[i] (yielded ops a.tmps) then ops[i].wp P a w (wpAny P .any ops Q fuel (listed.setIfInBounds i true)) Q else wpAny P .any ops Q fuel (listed.setIfInBounds i true) (a.put ops[i].dst undef) w:=by
     rcases hcase with⟨hq,hhq,X',hX',hJ⟩|⟨he,hJ,hoth⟩
     .have hnt:∀x,fC ops tl i x=false:=by
       intro x;cases ht:fC ops tl i x
       .rfl
       .have:=(o9.1 ht).1;rw[heff,hq] at this;simp at this
      refine hJ w0 A0 N Γc Hc a w Q _ hslots ?_ hdst hst (fun a' w' hst'=>?_)
      .rw[hq];simp only[X8,if_false];intro x e hx hxe;have hxs:Hc[x]?=(hh i)[x]?:=by
        by_cases hxX:x∈X
        .have h1:=Yz.1 hX' x hxX;rw[YO,Zq] at h1;exact(hsame x (h1.resolve_left hx)).1
        .obtain⟨n,hn,_,_,h3⟩:=hnm x;have hno:∀j,j<l.length->fC ops tl j x=false:=by
          intro j hj;cases ht:fC ops tl j x
          .rfl
          .exact absurd (hf.names j x (by omega) (o9.1 ht).2) hxX
         rw[h3];rcases Nat.le_total n i with h|h
         .exact(h_up x n i h (by omega) (fun j _ h2=>hno j (by omega))).symm
         .exact h_up x i n h hn (fun j _ h2=>hno j (by omega))
       rw[hxs];exact hxe
      .rw[hq] at hst';simp only[X8,if_false] at hst';exact after a' w' Hc hst' (fun x=>bI x Hc (hnt x) rfl)
     .refine hJ w0 A0 N Γc Hc a w Q _ hslots ?_ hdst hst (fun a' w' H2 h1 h2 hst'=>?_)
      .intro x hx;exact(hsame x (hf.chain i x hin (o9.2 ⟨by rw[heff];exact he,hx⟩))).1
      .refine after a' w' H2 hst' (fun x=>?_);cases ht:fC ops tl i x
       .refine bI x H2 ht (h1 x (fun e=>?_));have:fC ops tl i x=true:=o9.2 ⟨by rw[heff];exact he,e⟩;rw[this] at ht;simp at ht
       .have hx:=(o9.1 ht).2;have hp:=hf.chain i x hin ht;refine⟨i+1,by omega,fun k hk htk=>?_,fun k hk hkl htk=>?_,h2 x hx⟩
        .rw[hset];split
         .rfl
         .exact(hpin x hp k (by omega) htk (by assumption)).1 (by omega)
        .rw[hset,if_neg (by omega)];exact(hpin x hp k (by omega) htk (by omega)).2 (by omega)
    unfold wpOp;rw[hoi];simp only[];split
    .rename_i hw;rw[if_pos hw] at hrun;exact .inl hrun
    .rename_i hw;rw[if_neg hw] at hrun;exact hrun
 have hdrew:St w0 A0 N Γ H a w.drew:=let ⟨E,g⟩:=hSt;⟨E,g.drew⟩;refine wp_region_any hm ?_;refine main ops.size (Array.replicate ops.size false) (List.range ops.size) a w.drew H Γ (by simp) List.nodup_range (by simp) ?_ ?_ ?_ ?_ ?_ hdrew
 .intro i hi;simp[hi]
 .intro i j hi h;simp[hi] at h
 .intro x;refine⟨0,XS _,fun k hk=>by omega,fun k _ hk _=>by simp[hsz,hk],by rw[hh0]⟩
 .intro s j _ hj h;simp[hj] at h
 .intro s _;rfl
end
theorem J4{A:Cells}{w w':World}(hk:kept A w w'){b o:Nat}(hb:A b o):w'.cell? ⟨b,o,none⟩=w.cell? ⟨b,o,none⟩:=
 hk b o hb
def bX(n:Nat)(ls:List ab):qv where
 P A v w:=∃a cap,v = .slice a n cap/\n<=cap/\cap<=maxLen/\(a=none->n=0/\ls=[]/\cap=0) ∧
  ∀ad,a=some ad->(0<cap->ad.spot=none)/\∀i l,ls[i]?=some l->A ad.block (ad.off+i)/\∃x,w.cell? ⟨ad.block,ad.off+i,none⟩=some x/\l.den (ak.of A) x w
 mono:=by
  rintro A A' v w hA ⟨a,cap,rfl,h1,h2,h3,h4⟩;refine⟨a,cap,rfl,h1,h2,h3,fun ad had=>⟨(h4 ad had).1,fun i l hi=>?_⟩⟩;obtain⟨g1,x,g2,g3⟩:=(h4 ad had).2 i l hi;exact⟨hA _ _ g1,x,g2,ab.cU (ak.le.of hA) g3⟩
 bI:=by
  rintro A v w w' hk ⟨a,cap,rfl,h1,h2,h3,h4⟩;refine⟨a,cap,rfl,h1,h2,h3,fun ad had=>⟨(h4 ad had).1,fun i l hi=>?_⟩⟩;obtain⟨g1,x,g2,g3⟩:=(h4 ad had).2 i l hi;exact⟨g1,x,by rw[J4 hk g1];exact g2,ab.fK hk g3⟩
 one:=by rintro A v w ⟨a,cap,rfl,_⟩;rfl
def eR(ls:List ab):qv where
 P A v w:=∃ad:Addr,v = .pointer (some ad)/\ad.spot=none/\∀i l,ls[i]?=some l->A ad.block (ad.off+i)/\∃x,w.cell? ⟨ad.block,ad.off+i,none⟩=some x/\l.den (ak.of A) x w
 mono:=by
  rintro A A' v w hA ⟨ad,rfl,h1,h4⟩;refine⟨ad,rfl,h1,fun i l hi=>?_⟩;obtain⟨g1,x,g2,g3⟩:=h4 i l hi;exact⟨hA _ _ g1,x,g2,ab.cU (ak.le.of hA) g3⟩
 bI:=by
  rintro A v w w' hk ⟨ad,rfl,h1,h4⟩;refine⟨ad,rfl,h1,fun i l hi=>?_⟩;obtain⟨g1,x,g2,g3⟩:=h4 i l hi;exact⟨g1,x,by rw[J4 hk g1];exact g2,ab.fK hk g3⟩
 one:=by rintro A v w ⟨ad,rfl,_⟩;rfl
@[reducible] def aY(x:Nat):ab:=ab.val (.int .u32 (x:Int))
@[reducible] def ae(l:List Nat):ab:=ab.rep (bX l.length (l.map aY))
@[reducible] def aT:ab:=ab.rep (bX 0 [])
theorem oi(A:ak)(w:World):aT.den A (.slice none 0 0) w:=
 ⟨none,0,rfl,XP _,XS _,fun _=>⟨rfl,rfl,rfl⟩,fun ad h=>by simp at h⟩
def Dh:TypeDesc->Bool
 |.struct _ | .array _ _=>true
 |_=>false
def bJ(P:Program)(t:Nat)(agg:Bool)(n:Nat):Prop:=(P.underlying t).map Dh=some agg/\(P.info? t).map (·.size)=some n
def nQ:Value->ab
 |.slice none 0 0=>aT
 |v=>ab.val v
def wo:List Value->List ab->Prop
 |[],[]=>True
 |v::vs,l::ls=>(l=nQ v\/l=ab.val v)/\wo vs ls
 |[],_::_=>False
 |_::_,[]=>False
theorem D2:∀l:List Value,wo l (l.map nQ)
 |[]=>trivial
 |_::vs=>⟨.inl rfl,D2 vs⟩
def de(P:Program)(t:Nat)(ls:List ab):Prop:=
 ∃z,(P.info? t).bind (·.zero)=some z/\wo z.cells.toList ls/\z.cells.toList.all Value.oneCell'=true
theorem de.of{P:Program}{t:Nat}{ls:List ab}(z:Value)(h1:(P.info? t).bind (·.zero)=some z)(h2:z.cells.toList.map nQ=ls)(h3:z.cells.toList.all Value.oneCell'=true):de P t ls:=
 ⟨z,h1,h2 ▸ D2 _,h3⟩
def p6(P:Program)(s f:Nat):Option (Nat×Nat):=
 match P.underlying s with
 |some (.struct fields)=>(fields[f]?).bind fun fl=>(P.info? fl.type).map fun i=>(fl.offset,i.size)
 |_=>none
section
variable {P:Program}{t n:Nat}{b:Bool}
theorem bJ.isAgg(h:bJ P t b n)(w:World):(isAgg t).run P w = .ok b w:=by
 obtain⟨h1,_⟩:=h
 cases hu:P.underlying t with
 |none=>rw[hu] at h1;simp at h1
 |some d=>
  rw[hu] at h1;simp only[Y0,XL] at h1;subst h1;cases d <;> simp[isAgg,run_underlying hu,Dh]
theorem bJ.sizeOf(h:bJ P t b n)(w:World):(Go.sizeOf t).run P w = .ok n w:=by
 obtain⟨_,h2⟩:=h
 cases hi:P.info? t with
 |none=>rw[hi] at h2;simp at h2
 |some i=>rw[hi] at h2;simp at h2;simp[Go.sizeOf,typeInfo,hi,h2]
theorem D5{A:ak}{w:World}{v:Value}(h:v.oneCell'=true):(nQ v).den A v w:=by
 unfold nQ;split
 .exact oi A w
 .exact⟨rfl,h⟩
theorem LB{A:ak}{w:World}{l:List Value}(h:l.all Value.oneCell'=true):a9 A (l.map nQ) l w:=by
 induction l with
 |nil=>trivial
 |cons v vs ih=>simp at h;exact⟨D5 h.1,ih (by simpa using h.2)⟩
theorem D3{A:ak}{w:World}:∀{l:List Value} {ls:List ab},wo l ls->l.all Value.oneCell'=true->a9 A ls l w
 |[],[],_,_=>trivial
 |v::vs,l::ls,h,h1=>by
  rw[List.all_cons,XQ] at h1;refine⟨?_,D3 h.2 h1.2⟩;rcases h.1 with e|e
  .rw[e];exact D5 h1.1
  .rw[e];exact⟨rfl,h1.1⟩
 |[],_::_,h,_=>h.elim
 |_::_,[],h,_=>h.elim
theorem de.run{ls:List ab}(h:de P t ls)(w:World)(A:ak):∃z,(zeroValue t).run P w = .ok z w/\a9 A ls z.cells.toList w:=by
 obtain⟨z,h1,h2,h3⟩:=h;refine⟨z,?_,D3 h2 h3⟩
 cases hi:P.info? t with
 |none=>rw[hi] at h1;simp at h1
 |some i=>rw[hi] at h1;simp at h1;simp[zeroValue,typeInfo,hi,h1]
end
def ao(Γ:aA):Operand->Option D
 |.tmp t=>dL Γ t
 |.const v=>bif v.oneCell' then some (D.val v) else none
 |.func f=>some (D.val (.func (.func f) #[] #[]))
 |.global g=>some (D.val (.pointer (some ⟨g,0,none⟩)))
section
variable {P:Program}{ops:Array Oper}{X:List Nat}{o:Oper}{Γ:aA}{H:Hp}
theorem RH{Γ2:aA}(hs:∀s∈o.looksAt ops,look Γ2 s=look Γ s){x:Operand}(hx:x∈o.op.operands):ao Γ2 x=ao Γ x:=by
 cases x with
 |tmp t=>exact ot (hs t (by unfold Oper.looksAt;simp only[Yc,List.mem_filterMap];exact .inl ⟨.tmp t,by simpa using hx,rfl⟩))
 |const v=>rfl
 |func f=>rfl
 |global g=>rfl
theorem uh{w0:aJ}{A0:ak}{N:Nat}{H2:Hp}{E:Env}{a:Act}{w:World}{Γ2:aA}(hG:Good w0 A0 N Γ2 H2 E a w){x:Operand}{d:D}(hd:ao Γ2 x=some d) :
  d.gb H2/\d.den E (a.eval x) w:=by
 cases x with
 |tmp t=>
  obtain⟨ho,v,hv,hd⟩:=hG.tmp (s:=t) hd;exact⟨ho,by simpa[Act.eval,hv] using hd⟩
 |const v=>
  cases hv:v.oneCell' with
  |false=>simp[ao,hv] at hd
  |true=>simp only[ao,hv,cond_true,XL] at hd;subst hd;exact⟨trivial,rfl,hv⟩
 |func f=>simp only[ao,XL] at hd;subst hd;exact⟨trivial,rfl,rfl⟩
 |global g=>simp only[ao,XL] at hd;subst hd;exact⟨trivial,rfl,rfl⟩
theorem bY{w0:aJ}{A0:ak}{N:Nat}{H2:Hp}{E:Env}{a:Act}{w:World}{Γ2:aA}(hs:∀s∈o.looksAt ops,look Γ2 s=look Γ s)
  (hG:Good w0 A0 N Γ2 H2 E a w) {x:Operand} (hx:x∈o.op.operands) {d:D} (hd:ao Γ x=some d):d.gb H2/\d.den E (a.eval x) w:=
 uh hG (by rw[RH hs hx];exact hd)
theorem cT{w0:aJ}{A0:ak}{N:Nat}{H2:Hp}{E:Env}{a:Act}{w:World}{Γ2:aA}(hs:∀s∈o.looksAt ops,look Γ2 s=look Γ s)
  (hG:Good w0 A0 N Γ2 H2 E a w) {x:Operand} (hx:x∈o.op.operands) {v:Value} (hd:ao Γ x=some (D.val v)):a.eval x=v:=
 (bY hs hG hx hd).2.1
theorem v5{x:Operand}{d:D}(ho:o.op = .move x)(hx:ao Γ x=some d):Jq P ops X o Γ H d:=by
 intro w0 A0 N Γ2 H2 E a w hs hX hG;obtain⟨h1,h2⟩:=bY hs hG (x:=x) (by rw[ho];simp[Op.operands]) hx;exact⟨h1,_,by simp[execOp,ho],h2⟩
theorem v8{x:Operand}{d:D}(ho:o.op = .assign x)(hx:ao Γ x=some d):Jq P ops X o Γ H d:=by
 intro w0 A0 N Γ2 H2 E a w hs hX hG;obtain⟨h1,h2⟩:=bY hs hG (x:=x) (by rw[ho];simp[Op.operands]) hx;exact⟨h1,_,by simp[execOp,ho],h2⟩
theorem W5(ho:o.op = .assign (.const (.slice none 0 0))):Jq P ops X o Γ H (D.v (V.one aT)):=by
 intro w0 A0 N Γ2 H2 E a w hs hX hG;exact⟨trivial,.slice none 0 0,by simp[execOp,ho,Act.eval],oi E.A w⟩
theorem WO(ho:o.op = .move (.const (.slice none 0 0))):Jq P ops X o Γ H (D.v (V.one aT)):=by
 intro w0 A0 N Γ2 H2 E a w hs hX hG;exact⟨trivial,.slice none 0 0,by simp[execOp,ho,Act.eval],oi E.A w⟩
theorem WL{c x y:Operand}{d:D}(ho:o.op = .pick c x y)(hc:ao Γ c=some (D.bool true))(hx:ao Γ x=some d):Jq P ops X o Γ H d:=by
 intro w0 A0 N Γ2 H2 E a w hs hX hG;have h0:=cT hs hG (x:=c) (by rw[ho];simp[Op.operands]) hc;obtain⟨h1,h2⟩:=bY hs hG (x:=x) (by rw[ho];simp[Op.operands]) hx;exact⟨h1,_,by simp[execOp,ho,h0,asBool],h2⟩
theorem WM{c x y:Operand}{d:D}(ho:o.op = .pick c x y)(hc:ao Γ c=some (D.bool false))(hx:ao Γ y=some d):Jq P ops X o Γ H d:=by
 intro w0 A0 N Γ2 H2 E a w hs hX hG;have h0:=cT hs hG (x:=c) (by rw[ho];simp[Op.operands]) hc;obtain⟨h1,h2⟩:=bY hs hG (x:=y) (by rw[ho];simp[Op.operands]) hx;exact⟨h1,_,by simp[execOp,ho,h0,asBool],h2⟩
theorem HE.box{E:Env}{i:Nat}{e:HE}{w:World}(h:e.ok E i w)(hr:e.row=none):E.nil i=false/\∃cs:List Value,w.heap[E.b i]?=some (.cells cs.toArray e.t (0,0))/\a9 E.A e.ls cs w:=by
 unfold HE.ok at h;rw[hr] at h;exact h
theorem HE.block{E:Env}{i:Nat}{e:HE}{w:World}(h:e.ok E i w)(hn:E.nil i=false) :
  ∃cs rest:List Value,w.heap[E.b i]?=some (.cells (cs++rest).toArray e.t (0,0))/\a9 E.A e.ls cs w/\(e.row=none->rest=[]):=by
 unfold HE.ok at h
 cases hr:e.row with
 |none=>rw[hr] at h;obtain⟨_,cs,h1,h2⟩:=h;exact⟨cs,[],by simpa using h1,h2,fun _=>rfl⟩
 |some sz=>rw[hr] at h;simp only[hn] at h;obtain⟨_,cs,rest,h1,_,h2⟩:=h;exact⟨cs,rest,h1,h2,fun h=>by simp at h⟩
theorem Hs{w:World}{b o t:Nat}{cs:List Value}(hc:w.heap[b]?=some (.cells cs.toArray t (0,0)))(n:Nat)(hn:o+n<=cs.length) :
  (loadCells ⟨b,o,none⟩ n).run P w = .ok ((cs.drop o).take n).toArray w:=by
 have:=run_loadCells_list (P:=P) w ⟨b,o,none⟩ ((cs.drop o).take n) (fun j v hv=>by
  rw[zaE];rw[YS] at hv;split at hv
  .rw[Yw] at hv;simp[World.cell?,hc,hv]
  .simp at hv)
 rwa [X2,X1,YA (by omega)] at this
theorem kQ{w:World}{b o t:Nat}{cs:List Value}{v:Value}(hc:w.heap[b]?=some (.cells cs.toArray t (0,0)))(hv:cs[o]?=some v):w.cell? ⟨b,o,none⟩=some v:=by
 simp[World.cell?,hc,hv]
theorem HE.not_nil{E:Env}{i:Nat}{e:HE}{w:World}(h:e.ok E i w)(hl:0<e.ls.length):E.nil i=false:=by
 unfold HE.ok at h
 cases hr:e.row with
 |none=>rw[hr] at h;exact h.1
 |some sz=>
  rw[hr] at h;cases hn:E.nil i
  .rfl
  .simp only[hn,if_true] at h;rw[h.1] at hl;simp at hl
theorem jC{x:Operand}{t i off n:Nat}{e:HE}(ho:o.op = .load t x)(hx:ao Γ x=some (D.ptr i off))(hi:H[i]?=some (some e))(hXi:i ∉ X)(ht:bJ P t true n)
  (hn0:0<n) (hn:off+n<=e.ls.length) {ls:List ab} (hls:(e.ls.drop off).take n=ls):Jq P ops X o Γ H (D.agg ls):=by
 intro w0 A0 N Γ2 H2 E a w hs hX hG;obtain⟨h1,h2⟩:=bY hs hG (x:=x) (by rw[ho];simp[Op.operands]) hx;have h2:a.eval x = .pointer (some ⟨E.b i,off,none⟩):=h2;obtain⟨g1,g2⟩:=hG.boxes i e (hX i e hXi hi);refine⟨trivial,?_⟩;obtain⟨cs,rest,hc,hd,_⟩:=HE.block g1 (HE.not_nil g1 (by omega));have hlen:=hd.length;refine⟨.agg ((cs.drop off).take n).toArray,?_,_,rfl,hls ▸ (hd.drop off).take n⟩;have hl:=Hs (P:=P) hc n (by simp;omega) (o:=off);have hcs:(((cs++rest).drop off).take n)=((cs.drop off).take n):=by
  rw[ZD (by omega),YY (by simp;omega)]
 rw[hcs] at hl;simp[execOp,ho,h2,Instr.loadAt,Instr.sureAddr,loadVar,ht.isAgg,ht.sizeOf,hl]
theorem gT{x:Operand}{t i off:Nat}{e:HE}(ho:o.op = .load t x)(hx:ao Γ x=some (D.ptr i off))(hi:H[i]?=some (some e))(hXi:i ∉ X)(ht:bJ P t false 1)
  {l:ab} (hls:e.ls[off]?=some l):Jq P ops X o Γ H (D.v (V.one l)):=by
 intro w0 A0 N Γ2 H2 E a w hs hX hG;obtain⟨h1,h2⟩:=bY hs hG (x:=x) (by rw[ho];simp[Op.operands]) hx;have h2:a.eval x = .pointer (some ⟨E.b i,off,none⟩):=h2;obtain⟨g1,g2⟩:=hG.boxes i e (hX i e hXi hi);refine⟨trivial,?_⟩;have hlt:=(XN.1 hls).1;obtain⟨cs,rest,hc,hd,_⟩:=HE.block g1 (HE.not_nil g1 (by omega));obtain⟨v,hv,hvd⟩:=hd.get hls;have hl:w.cell? ⟨E.b i,off,none⟩=some v:=kQ hc (by rw[XV (by have:=hd.length;omega)];exact hv);exact⟨v,by simp[execOp,ho,h2,Instr.loadAt,Instr.sureAddr,loadVar,ht.isAgg,load,Sem.run,hl],hvd⟩
theorem uE(A:ak):ak.le (ak.of A.c) A:=ak.le.pure fun _ _ h=>h
theorem DG{x:Operand}{t n:Nat}{ls:List ab}(ho:o.op = .load t x)(hx:ao Γ x=some (D.rep (eR ls)))(ht:bJ P t true n)(hn:n=ls.length) :
  Jq P ops X o Γ H (D.agg ls):=by
 intro w0 A0 N Γ2 H2 E a w hs hX hG;obtain⟨h1,ad,h2,h3,h4⟩:=bY hs hG (x:=x) (by rw[ho];simp[Op.operands]) hx;refine⟨trivial,?_⟩;obtain⟨b,off,sp⟩:=ad;simp only at h3 h4;subst h3;have hex:∀(ls:List ab) (off:Nat),(∀(i:Nat) (l:ab),ls[i]?=some l->E.A b (off+i)/\∃x,w.cell? ⟨b,off+i,none⟩=some x/\l.den (ak.of E.A.c) x w) →
   ∃cs:List Value,a9 (ak.of E.A.c) ls cs w/\∀j v,cs[j]?=some v->w.cell? ⟨b,off+j,none⟩=some v:=by
  intro ls
  induction ls with
  |nil=>intro off _;exact⟨[],trivial,fun j v h=>by simp at h⟩
  |cons l ls ih=>
   intro off h;obtain⟨_,x,hx,hd⟩:=h 0 l rfl;obtain⟨cs,hcs,hcc⟩:=ih (off+1) (fun i l hi=>by
    have:=h (i+1) l (by simpa using hi)
    rwa [show off+(i+1)=off+1+i from by omega] at this)
   refine⟨x::cs,⟨hd,hcs⟩,fun j v hj=>?_⟩
   cases j with
   |zero=>simp at hj;subst hj;exact hx
   |succ j=>have:=hcc j v (by simpa using hj);rwa [show off+(j+1)=off+1+j from by omega]
 obtain⟨cs,hd,hcc⟩:=hex ls off h4;have hl:=run_loadCells_list (P:=P) w ⟨b,off,none⟩ cs (fun j v hj=>by rw[zaE];exact hcc j v hj);rw[hd.length] at hl;subst hn;exact⟨.agg cs.toArray,by simp[execOp,ho,h2,Instr.loadAt,Instr.sureAddr,loadVar,ht.isAgg,ht.sizeOf,hl],cs,rfl,hd.mono (uE _)⟩
theorem WS{x:Operand}{t:Nat}{l:ab}{ls:List ab}(ho:o.op = .load t x)(hx:ao Γ x=some (D.rep (eR (l::ls))))(ht:bJ P t false 1) :
  Jq P ops X o Γ H (D.v (V.one l)):=by
 intro w0 A0 N Γ2 H2 E a w hs hX hG;obtain⟨h1,ad,h2,h3,h4⟩:=bY hs hG (x:=x) (by rw[ho];simp[Op.operands]) hx;obtain⟨b,off,sp⟩:=ad;simp only at h3 h4;subst h3;obtain⟨_,v,hv,hd⟩:=h4 0 l rfl;rw[Yl] at hv;exact⟨trivial,v,by simp[execOp,ho,h2,Instr.loadAt,Instr.sureAddr,loadVar,ht.isAgg,load,Sem.run,hv],ab.cU (uE _) hd⟩
theorem Jd{s f fo sz:Nat}(hf:p6 P s f=some (fo,sz)):∃fields fl,P.underlying s=some (.struct fields)/\fields[f]?=some fl/\fl.offset=fo/\∃i,P.info? fl.type=some i/\i.size=sz:=by
 unfold p6 at hf
 cases hu:P.underlying s with
 |none=>rw[hu] at hf;simp at hf
 |some d=>
  rw[hu] at hf;cases d <;> simp only[reduceCtorEq] at hf;rename_i fields
  cases hfl:fields[f]? with
  |none=>rw[hfl] at hf;simp at hf
  |some fl=>
   rw[hfl] at hf
   cases hi:P.info? fl.type with
   |none=>simp[hi] at hf
   |some i=>simp[hi] at hf;exact⟨fields,fl,rfl,hfl,hf.1,i,hi,hf.2⟩
theorem DM{x:Operand}{s f i off fo sz:Nat}(ho:o.op = .fieldAddr s x f)(hx:ao Γ x=some (D.ptr i off))(hf:p6 P s f=some (fo,sz))(hsz:Nat.beq sz 0=false) :
  Jq P ops X o Γ H (D.ptr i (off+fo)):=by
 intro w0 A0 N Γ2 H2 E a w hs hX hG;obtain⟨h1,h2⟩:=bY hs hG (x:=x) (by rw[ho];simp[Op.operands]) hx;have h2:a.eval x = .pointer (some ⟨E.b i,off,none⟩):=h2;obtain⟨fields,fl,hu,hfl,rfl,inf,hi,rfl⟩:=Jd hf;have hsz':inf.size≠0:=fun e=>by rw[e] at hsz;simp at hsz
 refine⟨h1,_,?_,rfl⟩;simp[execOp,ho,h2,Instr.fieldAt,Instr.sureAddr,run_underlying hu,hfl,fieldPlace,Go.sizeOf,typeInfo,hi,hsz',zaE]
theorem Lj{x:Operand}{s f fo sz:Nat}{ls:List ab}(ho:o.op = .fieldAddr s x f)(hx:ao Γ x=some (D.rep (eR ls)))(hf:p6 P s f=some (fo,sz))(hsz:Nat.beq sz 0=false) :
  Jq P ops X o Γ H (D.rep (eR (ls.drop fo))):=by
 intro w0 A0 N Γ2 H2 E a w hs hX hG;obtain⟨h1,ad,h2,h3,h4⟩:=bY hs hG (x:=x) (by rw[ho];simp[Op.operands]) hx;obtain⟨b,off,sp⟩:=ad;simp only at h3 h4;subst h3;obtain⟨fields,fl,hu,hfl,rfl,inf,hi,rfl⟩:=Jd hf;have hsz':inf.size≠0:=fun e=>by rw[e] at hsz;simp at hsz
 refine⟨trivial,.pointer (some ⟨b,off+fl.offset,none⟩),?_,⟨b,off+fl.offset,none⟩,rfl,rfl,fun i l hil=>?_⟩
 .simp[execOp,ho,h2,Instr.fieldAt,Instr.sureAddr,run_underlying hu,hfl,fieldPlace,Go.sizeOf,typeInfo,hi,hsz',zaE]
 .rw[Yw] at hil;have:=h4 _ l hil
  rwa [show off+(fl.offset+i)=off+fl.offset+i from by omega] at this
theorem WY{x:Operand}{s f fo sz:Nat}{ls ls':List ab}(ho:o.op = .field s x f)(hx:ao Γ x=some (D.agg ls)){fields:Array Field}{fl:Field}(hu:P.underlying s=some (.struct fields))
  (hfl:fields[f]?=some fl) (hfo:fl.offset=fo) (ht:bJ P fl.type true sz) (hls:(ls.drop fo).take sz=ls'):Jq P ops X o Γ H (D.agg ls'):=by
 intro w0 A0 N Γ2 H2 E a w hs hX hG;obtain⟨h1,cs,h2,h3⟩:=bY hs hG (x:=x) (by rw[ho];simp[Op.operands]) hx;refine⟨trivial,.agg ((cs.drop fo).take sz).toArray,?_,_,rfl,hls ▸ (h3.drop fo).take sz⟩;simp[execOp,ho,h2,Instr.field,run_underlying hu,hfl,asAgg,part,ht.isAgg,ht.sizeOf,hfo]
theorem W2{x:Operand}{s f fo:Nat}{ls:List ab}{l:ab}(ho:o.op = .field s x f)(hx:ao Γ x=some (D.agg ls)){fields:Array Field}{fl:Field}(hu:P.underlying s=some (.struct fields))
  (hfl:fields[f]?=some fl) (hfo:fl.offset=fo) (ht:bJ P fl.type false 1) (hls:ls[fo]?=some l):Jq P ops X o Γ H (D.v (V.one l)):=by
 intro w0 A0 N Γ2 H2 E a w hs hX hG;obtain⟨h1,cs,h2,h3⟩:=bY hs hG (x:=x) (by rw[ho];simp[Op.operands]) hx;obtain⟨v,hv,hd⟩:=h3.get hls;refine⟨trivial,v,?_,hd⟩;simp[execOp,ho,h2,Instr.field,run_underlying hu,hfl,asAgg,part,ht.isAgg,hfo,hv]
theorem W3{x:Operand}{i:Nat}{xs:List V}{y:V}(ho:o.op = .extract x i)(hx:ao Γ x=some (D.aW xs))(hy:xs[i]?=some y):Jq P ops X o Γ H (D.v y):=by
 intro w0 A0 N Γ2 H2 E a w hs hX hG;obtain⟨h1,vs,h2,h3⟩:=bY hs hG (x:=x) (by rw[ho];simp[Op.operands]) hx;obtain⟨v,hv,hd⟩:=h3.get hy;exact⟨trivial,v,by simp[execOp,ho,h2,Instr.extract,hv],hd⟩
theorem iw{op:BinOp}{t u:Nat}{x y:Operand}{p q r:Value}(ho:o.op = .binOp op t x y u)(hx:ao Γ x=some (D.val p))(hy:ao Γ y=some (D.val q))
  (hg:∀w,(eqGuard op t x y p q).run P w = .ok () w) (hr:∀w,(binOp op t p q).run P w = .ok r w) (h1:r.oneCell'=true):Jq P ops X o Γ H (D.val r):=by
 intro w0 A0 N Γ2 H2 E a w hs hX hG;have e1:=cT hs hG (x:=x) (by rw[ho];simp[Op.operands]) hx;have e2:=cT hs hG (x:=y) (by rw[ho];simp[Op.operands]) hy;exact⟨trivial,r,by simp[execOp,ho,e1,e2,hg,hr],rfl,h1⟩
section
variable {t u:Nat}{x y:Operand}{k:IntKind}{m n r:Int}
theorem jT{op:BinOp}(w:World):(eqGuard op t x y (.int k m) (.int k n)).run P w = .ok () w:=by
 cases op <;> simp[eqGuard]
theorem dS(ho:o.op = .binOp .add t x y u)(hx:ao Γ x=some (D.val (.int k m)))(hy:ao Γ y=some (D.val (.int k n)))(hr:k.wrap (m+n)=r):Jq P ops X o Γ H (D.val (.int k r)):=
 iw ho hx hy jT (fun w=>by simp[binOp,Op.intArith,hr]) rfl
theorem du(ho:o.op = .binOp .sub t x y u)(hx:ao Γ x=some (D.val (.int k m)))(hy:ao Γ y=some (D.val (.int k n)))(hr:k.wrap (m-n)=r):Jq P ops X o Γ H (D.val (.int k r)):=
 iw ho hx hy jT (fun w=>by simp[binOp,Op.intArith,hr]) rfl
theorem qx(ho:o.op = .binOp .mul t x y u)(hx:ao Γ x=some (D.val (.int k m)))(hy:ao Γ y=some (D.val (.int k n)))(hr:k.wrap (m*n)=r):Jq P ops X o Γ H (D.val (.int k r)):=
 iw ho hx hy jT (fun w=>by simp[binOp,Op.intArith,hr]) rfl
theorem iu(ho:o.op = .binOp .quo t x y u)(hx:ao Γ x=some (D.val (.int k m)))(hy:ao Γ y=some (D.val (.int k n)))(hn:n≠0)(hr:k.wrap (m.tdiv n)=r):Jq P ops X o Γ H (D.val (.int k r)):=
 iw ho hx hy jT (fun w=>by simp[binOp,Op.intDiv,hn,hr]) rfl
theorem fR(ho:o.op = .binOp .rem t x y u)(hx:ao Γ x=some (D.val (.int k m)))(hy:ao Γ y=some (D.val (.int k n)))(hn:n≠0)(hr:m.tmod n=r):Jq P ops X o Γ H (D.val (.int k r)):=
 iw ho hx hy jT (fun w=>by simp[binOp,Op.intDiv,hn,hr]) rfl
theorem DF(ho:o.op = .binOp .lss t x y u)(hx:ao Γ x=some (D.val (.int k m)))(hy:ao Γ y=some (D.val (.int k n))){b:Bool}(hr:decide (m<n)=b):Jq P ops X o Γ H (D.bool b):=
 iw ho hx hy jT (fun w=>by simp[binOp,Op.intCmp,hr]) rfl
theorem DH(ho:o.op = .binOp .leq t x y u)(hx:ao Γ x=some (D.val (.int k m)))(hy:ao Γ y=some (D.val (.int k n))){b:Bool}(hr:decide (m<=n)=b):Jq P ops X o Γ H (D.bool b):=
 iw ho hx hy jT (fun w=>by simp[binOp,Op.intCmp,hr]) rfl
theorem DK(ho:o.op = .binOp .gtr t x y u)(hx:ao Γ x=some (D.val (.int k m)))(hy:ao Γ y=some (D.val (.int k n))){b:Bool}(hr:decide (n<m)=b):Jq P ops X o Γ H (D.bool b):=
 iw ho hx hy jT (fun w=>by simp[binOp,Op.intCmp,hr]) rfl
theorem DL(ho:o.op = .binOp .geq t x y u)(hx:ao Γ x=some (D.val (.int k m)))(hy:ao Γ y=some (D.val (.int k n))){b:Bool}(hr:decide (n<=m)=b):Jq P ops X o Γ H (D.bool b):=
 iw ho hx hy jT (fun w=>by simp[binOp,Op.intCmp,hr]) rfl
theorem DN(ho:o.op = .binOp .eql t x y u)(hx:ao Γ x=some (D.val (.int k m)))(hy:ao Γ y=some (D.val (.int k n))){b:Bool}(hr:(m == n)=b):Jq P ops X o Γ H (D.bool b):=
 iw ho hx hy jT (fun w=>by simp[binOp,Op.intCmp,hr]) rfl
theorem DE(ho:o.op = .binOp .neq t x y u)(hx:ao Γ x=some (D.val (.int k m)))(hy:ao Γ y=some (D.val (.int k n))){b:Bool}(hr:(m != n)=b):Jq P ops X o Γ H (D.bool b):=
 iw ho hx hy jT (fun w=>by simp[binOp,Op.intCmp,hr]) rfl
theorem lz{k':IntKind}(ho:o.op = .binOp .shl t x y u)(hx:ao Γ x=some (D.val (.int k m)))(hy:ao Γ y=some (D.val (.int k' n)))(hn:0<=n)(hr:k.wrap (m*2^(min n.toNat k.bits))=r) :
  Jq P ops X o Γ H (D.val (.int k r)):=
 iw ho hx hy (fun w=>by simp[eqGuard]) (fun w=>by simp[binOp,Op.shift,Int.not_lt.2 hn,hr]) rfl
theorem eB{k':IntKind}(ho:o.op = .binOp .shr t x y u)(hx:ao Γ x=some (D.val (.int k m)))(hy:ao Γ y=some (D.val (.int k' n)))(hn:0<=n)(hr:m.fdiv (2^(min n.toNat k.bits))=r) :
  Jq P ops X o Γ H (D.val (.int k r)):=
 iw ho hx hy (fun w=>by simp[eqGuard]) (fun w=>by simp[binOp,Op.shift,Int.not_lt.2 hn,hr]) rfl
theorem lA(ho:o.op = .binOp .or t x y u)(hx:ao Γ x=some (D.val (.int k m)))(hy:ao Γ y=some (D.val (.int k n)))(hr:k.wrap ((BitVec.ofInt k.bits m ||| BitVec.ofInt k.bits n).toNat)=r) :
  Jq P ops X o Γ H (D.val (.int k r)):=
 iw ho hx hy jT (fun w=>by simp[binOp,Op.intBits,<-hr]) rfl
theorem DP(ho:o.op = .binOp .and t x y u)(hx:ao Γ x=some (D.val (.int k m)))(hy:ao Γ y=some (D.val (.int k n)))(hr:k.wrap ((BitVec.ofInt k.bits m &&& BitVec.ofInt k.bits n).toNat)=r) :
  Jq P ops X o Γ H (D.val (.int k r)):=
 iw ho hx hy jT (fun w=>by simp[binOp,Op.intBits,<-hr]) rfl
theorem Lh(ho:o.op = .unOp .neg t x)(hx:ao Γ x=some (D.val (.int k m)))(hr:k.wrap (0-m)=r):Jq P ops X o Γ H (D.val (.int k r)):=by
 intro w0 A0 N Γ2 H2 E a w hs hX hG;have e1:=cT hs hG (x:=x) (by rw[ho];simp[Op.operands]) hx;exact⟨trivial,_,by simp only[execOp,ho,e1,Op.unary,Op.intArith,hr];rfl,rfl,rfl⟩
theorem W4{src dst:Nat}{k':IntKind}(ho:o.op = .convert src dst x)(hx:ao Γ x=some (D.val (.int k m)))(hd:P.underlying dst=some (.int k'))(hs':(P.underlying src).isSome=true)(hr:k'.wrap m=r) :
  Jq P ops X o Γ H (D.val (.int k' r)):=by
 intro w0 A0 N Γ2 H2 E a w hs hX hG;have e1:=cT hs hG (x:=x) (by rw[ho];simp[Op.operands]) hx;obtain⟨ds,hds⟩:=zap.1 hs';refine⟨trivial,.int k' r,?_,rfl,rfl⟩;simp[execOp,ho,e1,convert,run_underlying hd,run_underlying hds,Conv.intToInt,hr]
end
theorem DD{t:Nat}{x:Operand}{b c:Bool}(ho:o.op = .unOp .not t x)(hx:ao Γ x=some (D.bool b))(hr:(!b)=c):Jq P ops X o Γ H (D.bool c):=by
 intro w0 A0 N Γ2 H2 E a w hs hX hG;have e1:=cT hs hG (x:=x) (by rw[ho];simp[Op.operands]) hx;exact⟨trivial,.bool c,by simp[execOp,ho,e1,Op.unary,hr],rfl,rfl⟩
theorem run_equalIn_bool(w:World)(d:Nat){t:TypeId}(b c:Bool)(ht:P.underlying t=some .bool):(Op.equalIn (d+1) t (.bool b) (.bool c)).run P w = .ok (b == c) w:=by
 simp[Op.equalIn,run_underlying ht]
theorem v7{t u:Nat}{x y:Operand}{b c d:Bool}(ho:o.op = .binOp .eql t x y u)(hx:ao Γ x=some (D.bool b))(hy:ao Γ y=some (D.bool c))(ht:P.underlying t=some .bool)(hr:(b == c)=d) :
  Jq P ops X o Γ H (D.bool d):=
 iw ho hx hy (fun w=>by simp[eqGuard]) (fun w=>by
  simp only[binOp];simp[Op.equal,Op.maxDepth,run_equalIn_bool w 9999 b c ht,hr]) rfl
theorem oU{t u:Nat}{x y:Operand}{b c d:Bool}(ho:o.op = .binOp .neq t x y u)(hx:ao Γ x=some (D.bool b))(hy:ao Γ y=some (D.bool c))(ht:P.underlying t=some .bool)(hr:(b != c)=d) :
  Jq P ops X o Γ H (D.bool d):=
 iw ho hx hy (fun w=>by simp[eqGuard]) (fun w=>by
  simp only[binOp];subst hr;simp[Op.equal,Op.maxDepth,run_equalIn_bool w 9999 b c ht,bne]) rfl
end
def splice{α:Type}(l:List α)(off:Nat)(xs:List α):List α:=l.take off++xs++l.drop (off+xs.length)
theorem EY{α:Type}(l:List α)(off:Nat)(xs:List α)(h:off+xs.length<=l.length):(splice l off xs).length=l.length:=by
 simp[splice];omega
theorem a9.splice{A:ak}{ls xs:List ab}{vs us:List Value}{w:World}(h:a9 A ls vs w)(off:Nat)(hx:a9 A xs us w):a9 A (splice ls off xs) (splice vs off us) w:=by
 unfold Rc.splice;rw[hx.length];exact((h.take off).append hx).append (h.drop _)
theorem Iz(off:Nat)(xs:List Value):∀(k:Nat) (cells:Array Value),off+k+xs.length<=cells.size →
  (xs.zipIdx k).foldl (fun cs (p:Value×Nat)=>cs.setIfInBounds (off+p.2) p.1) cells=(splice cells.toList (off+k) xs).toArray:=by
 induction xs with
 |nil=>intro k cells h;simp[splice]
 |cons x xs ih=>
  intro k cells h;simp only[X6] at h;rw[List.zipIdx_cons,Y6,ih (k+1) _ (by simp;omega)];congr 1;have hlt:off+k<cells.toList.length:=by simp;omega
  rw[Array.toList_setIfInBounds];unfold splice;rw[show off+(k+1)=off+k+1 from by omega];rw[Zz (by simpa using hlt),zaJ (XP _),Zs,ZM (by omega)];simp only[Yf,Z6,List.nil_append,X6];rw[show off+k+1+xs.length=off+k+(xs.length+1) from by omega]
def oI(places:Nat->Option (Nat×Nat))(ls:List ab):List (Nat×List ab)->Option (List ab)
 |[]=>some ls
 |(i,xs)::rest=>
  match places i with
  |none=>none
  |some (off,size)=>bif Nat.beq xs.length size&&Nat.ble (off+xs.length) ls.length then oI places (splice ls off xs) rest else none
theorem Cj{A:ak}{w:World}{places:Nat->Option (Nat×Nat)}:∀(parts:List (Nat×Value)) (lparts:List (Nat×List ab)) (cells:Array Value) (ls out:List ab),
  a9 A ls cells.toList w->parts.length=lparts.length->(∀(j:Nat) (p:Nat×Value) (q:Nat×List ab),parts[j]?=some p->lparts[j]?=some q->p.1=q.1/\a9 A q.2 p.2.cells.toList w) →
  oI places ls lparts=some out->∃cs,Instr.fill places cells parts=some cs/\a9 A out cs.toList w:=by
 intro parts
 induction parts with
 |nil=>
  intro lparts cells ls out hd hl _ hf
  cases lparts with
  |nil=>simp only[oI,XL] at hf;subst hf;exact⟨cells,rfl,hd⟩
  |cons q qs=>simp at hl
 |cons p ps ih=>
  intro lparts cells ls out hd hl hp hf
  cases lparts with
  |nil=>simp at hl
  |cons q qs=>
   obtain⟨i,v⟩:=p;obtain⟨i',xs⟩:=q;obtain⟨rfl,hx⟩:=hp 0 _ _ rfl rfl;simp only at hx;unfold oI at hf
   cases hpl:places i with
   |none=>rw[hpl] at hf;simp at hf
   |some os=>
    obtain⟨off,size⟩:=os;rw[hpl] at hf;simp only at hf
    cases hc:(Nat.beq xs.length size&&Nat.ble (off+xs.length) ls.length) with
    |false=>rw[hc] at hf;simp at hf
    |true=>
     rw[hc] at hf;simp only[cond_true] at hf;simp only[XQ,ZU,zav] at hc;have hlx:=hx.length;have hll:=hd.length;simp only[YU] at hlx hll;have hsz:v.cells.size=size:=by omega
     have hfit:¬off+v.cells.size > cells.size:=by omega
     have hfold:(v.cells.zipIdx.foldl (fun cs (p:Value×Nat)=>cs.setIfInBounds (off+p.2) p.1) cells)=(splice cells.toList off v.cells.toList).toArray:=by
      rw[<-zaQ,Array.toList_zipIdx];exact Iz off v.cells.toList 0 cells (by simp;omega)
     obtain⟨cs,h1,h2⟩:=ih qs (splice cells.toList off v.cells.toList).toArray (splice ls off xs) out (by simpa using hd.splice off hx) (by simpa using hl)
      (fun j p q h1 h2=>hp (j+1) p q (by simpa using h1) (by simpa using h2)) hf
     refine⟨cs,?_,h2⟩;unfold Instr.fill;rw[hpl];simp only[hsz,ne_eq,not_true_eq_false,hsz ▸ hfit,ZA,decide_false,X8,if_false];rw[<-h1,<-hfold]
def mT(Γ:aA):List (Nat×Operand)->Option (List (Nat×List ab))
 |[]=>some []
 |(i,x)::rest=>
  match ao Γ x,mT Γ rest with
  |some (.inl v),some ps=>some ((i,v.leaves)::ps)
  |_,_=>none
def pa(P:Program)(t:Nat):Option (List (Nat×Nat)):=
 match P.underlying t with
 |some (.struct fields)=>fields.toList.mapM fun f=>(P.info? f.type).map fun i=>(f.offset,i.size)
 |_=>none
section
variable {P:Program}{ops:Array Oper}{X:List Nat}{o:Oper}{Γ:aA}{H:Hp}
theorem A5{E:Env}{a:Act}{w:World}:∀(ps:List (Nat×Operand)) (lp:List (Nat×List ab)),(∀p∈ps,∀d,ao Γ p.2=some d->d.den E (a.eval p.2) w)->mT Γ ps=some lp →
  (ps.map fun p=>(p.1,a.eval p.2)).length=lp.length ∧
  ∀(j:Nat) (p:Nat×Value) (q:Nat×List ab),(ps.map fun p=>(p.1,a.eval p.2))[j]?=some p->lp[j]?=some q->p.1=q.1/\a9 E.A q.2 p.2.cells.toList w:=by
 intro ps
 induction ps with
 |nil=>intro lp _ h;simp only[mT,XL] at h;subst h;exact⟨rfl,fun j p q h=>by simp at h⟩
 |cons p ps ih=>
  intro lp hd h;obtain⟨i,x⟩:=p;unfold mT at h
  cases hx:ao Γ x with
  |none=>rw[hx] at h;simp at h
  |some d=>
   rw[hx] at h
   cases hr:mT Γ ps with
   |none=>rw[hr] at h;rcases d with v|d <;> simp at h
   |some lps=>
    rw[hr] at h;rcases d with v|d
    .simp only[XL] at h;subst h;obtain⟨h1,h2⟩:=ih lps (fun p hp d hd'=>hd p (by simp[hp]) d hd') hr;refine⟨by simpa using h1,fun j p q hp hq=>?_⟩
     cases j with
     |zero=>
      simp at hp hq;subst hp;subst hq;exact⟨rfl,V.yB (hd (i,x) (by simp) _ hx)⟩
     |succ j=>exact h2 j p q (by simpa using hp) (by simpa using hq)
    .simp at h
theorem CR{t:Nat}{parts:Array (Nat×Operand)}(ho:o.op = .build t parts \/ ∃n,o.op = .buildSlice t n parts){Γ2:aA}{w0:aJ}{A0:ak}{N:Nat}{H2:Hp}{E:Env}{a:Act}{w:World}
  (hs:∀s∈o.looksAt ops,look Γ2 s=look Γ s) (hG:Good w0 A0 N Γ2 H2 E a w) :
  ∀p∈parts.toList,∀d,ao Γ p.2=some d->d.den E (a.eval p.2) w:=by
 intro p hp d hd;refine(bY hs hG (x:=p.2) ?_ hd).2;rcases ho with ho|⟨n,ho⟩ <;> (rw[ho];simp only[Op.operands,List.mem_toArray,ZE];exact⟨p,hp,rfl⟩)
theorem Hk{fields:List Field}{ps:List (Nat×Nat)}(h:(fields.mapM fun f=>(P.info? f.type).map fun i=>(f.offset,i.size))=some ps)(w:World) :
  (fields.mapM fun f=>Prod.mk f.offset <$> Go.sizeOf f.type).run P w = .ok ps w:=by
 induction fields generalizing ps with
 |nil=>simp at h;subst h;simp
 |cons f fs ih=>
  rw[zae] at h
  cases hi:P.info? f.type with
  |none=>simp[hi] at h
  |some i=>
   cases hr:(fs.mapM fun f=>(P.info? f.type).map fun i=>(f.offset,i.size)) with
   |none=>simp[hi,hr] at h
   |some qs=>
    simp[hi,hr] at h;subst h;have:=ih hr;simp only[zae];simp[Go.sizeOf,typeInfo,hi] at this ⊢;simp[this]
theorem nN{t:Nat}{parts:Array (Nat×Operand)}{zs ls:List ab}{lp:List (Nat×List ab)}{places:List (Nat×Nat)}(ho:o.op = .build t parts)(hz:de P t zs)(hp:mT Γ parts.toList=some lp)
  (hpl:pa P t=some places) (hf:oI (fun i=>places[i]?) zs lp=some ls):Jq P ops X o Γ H (D.agg ls):=by
 intro w0 A0 N Γ2 H2 E a w hs hX hG;obtain⟨z,hzr,hzd⟩:=hz.run w E.A;unfold pa at hpl
 cases hu:P.underlying t with
 |none=>rw[hu] at hpl;simp at hpl
 |some d=>
  rw[hu] at hpl;cases d <;> simp only[reduceCtorEq] at hpl;rename_i fields;have hm:=Hk hpl w;obtain⟨h1,h2⟩:=A5 parts.toList lp (CR (.inl ho) hs hG) hp;obtain⟨cs,hc1,hc2⟩:=Cj (A:=E.A) (w:=w) (places:=fun i=>places[i]?) (parts.toList.map fun p=>(p.1,a.eval p.2)) lp z.cells zs ls hzd h1 h2 hf;refine⟨trivial,.agg cs,?_,cs.toList,by simp,hc2⟩;have hmA:∀(g:Field->Sem (Nat×Nat)),fields.mapM g=(do pure (List.toArray (← fields.toList.mapM g)):Sem _):=by
   intro g;rw[zah];simp
  simp only[execOp,ho,Instr.build];simp[hzr,run_underlying hu,hmA,hm,hc1]
end
section
variable {P:Program}{ops:Array Oper}{X:List Nat}{o:Oper}{Γ:aA}{H:Hp}
theorem gh{a:Act}{w w':World}{v:Value}{K:Act->World->Prop}{Q:Exit->Act->World->Prop}(h:(execOp a.eval o).run P w = .ok (.value v) w')(hK:K (a.put o.dst v) w') :
  o.wp P a w K Q:=by
 unfold Oper.wp;rw[h];exact hK
theorem LV{a:Act}{w w':World}{K:Act->World->Prop}{Q:Exit->Act->World->Prop}(h:(execOp a.eval o).run P w = .ok .skip w')(hK:K (a.put o.dst undef) w') :
  o.wp P a w K Q:=by
 unfold Oper.wp;rw[h];exact hK
theorem Xd{t:Nat}{x:Operand}{y:V}{n:Nat}(ho:o.op = .box t x)(hx:ao Γ x=some (D.v y))(hn:H.length=n) :
  Je P ops o Γ H (some (D.ptr n 0)) (H++[some ⟨t,y.leaves,none,none⟩]):=by
 intro w0 A0 N Γ2 a w Q K hs hN hSt hK;obtain⟨E,hG⟩:=hSt;obtain⟨_,h2⟩:=bY hs hG (x:=x) (by rw[ho];simp[Op.operands]) hx;have hc:=V.yB (show y.den E.A (a.eval x) w from h2);obtain⟨E',hG',hb,_,_,hA⟩:=hG.alloc (t:=t) (row:=none) (cap:=0) hc (fun sz h=>by simp at h);rw[show(a.eval x).cells.toList.toArray=(a.eval x).cells from by simp] at hG';refine gh (v:=.pointer (some ⟨w.heap.size,0,none⟩)) (w':=w.alloc (.cells (a.eval x).cells t)) ?_ (hK _ _ ⟨E',hG'.put (fun d hd=>?_) hN⟩)
 .simp[execOp,ho,Instr.box,newVar,newRow]
 .cases hd;subst hn;exact⟨rE,by show _=_;rw[hb]⟩
theorem oX{t:Nat}{zs:List ab}{n:Nat}(ho:o.op = .alloc t)(hz:de P t zs)(hn:H.length=n) :
  Je P ops o Γ H (some (D.ptr n 0)) (H++[some ⟨t,zs,none,none⟩]):=by
 intro w0 A0 N Γ2 a w Q K hs hN hSt hK;obtain⟨E,hG⟩:=hSt;obtain⟨z,hzr,hzd⟩:=hz.run w E.A;obtain⟨E',hG',hb,_,_,hA⟩:=hG.alloc (t:=t) (row:=none) (cap:=0) hzd (fun sz h=>by simp at h);rw[show z.cells.toList.toArray=z.cells from by simp] at hG';refine gh (v:=.pointer (some ⟨w.heap.size,0,none⟩)) (w':=w.alloc (.cells z.cells t)) ?_ (hK _ _ ⟨E',hG'.put (fun d hd=>?_) hN⟩)
 .simp[execOp,ho,Instr.alloc,newVar,newRow,hzr]
 .cases hd;subst hn;exact⟨rE,by show _=_;rw[hb]⟩
theorem eQ{t:Nat}{x y:Operand}{i off n:Nat}{e:HE}{v:V}{b:Bool}(ho:o.op = .store t x y)(hx:ao Γ x=some (D.ptr i off))(hy:ao Γ y=some (D.v v))(hi:H[i]?=some (some e))
  (ht:bJ P t b n) (hn:v.leaves.length=n) (hn0:0<n) (hfit:off+n<=e.ls.length) {ls:List ab} (hls:splice e.ls off v.leaves=ls) (hfz:e.fz=0:=by rfl) :
  Je P ops o Γ H none (H.set i (some { e with ls:=ls })):=by
 intro w0 A0 N Γ2 a w Q K hs hN hSt hK;obtain⟨E,hG⟩:=hSt;obtain⟨_,h1⟩:=bY hs hG (x:=x) (by rw[ho];simp[Op.operands]) hx;obtain⟨_,h2⟩:=bY hs hG (x:=y) (by rw[ho];simp[Op.operands]) hy;have h1:a.eval x = .pointer (some ⟨E.b i,off,none⟩):=h1;have hc:=V.yB (show v.den E.A (a.eval y) w from h2);obtain⟨g1,_⟩:=hG.boxes i e hi;have hni:=HE.not_nil g1 (by omega);obtain⟨cs,rest,hcs,hd,hr⟩:=HE.block g1 hni;have l1:=hd.length;have l2:=hc.length;simp only[YU] at l2;have hst:=run_storeCells_at P (E.b i) off e.t (a.eval y).cells.toList 0 (cs++rest).toArray w hcs (by simp;omega) hc.one;have hrow:((cs++rest).toArray.toList.take (off+0)++(a.eval y).cells.toList++(cs++rest).toArray.toList.drop (off+0+(a.eval y).cells.toList.length))=splice cs off (a.eval y).cells.toList++rest:=by
  unfold splice;simp only[Yl,Yf];rw[YY (by omega),ZD (by simp;omega)]
 rw[hrow] at hst;have hG':=hG.setRow hi hni (ls':=ls) (cs':=splice cs off (a.eval y).cells.toList) (rest':=rest) hcs (by simp[EY cs off (a.eval y).cells.toList (by simp;omega)]) hr (hls ▸ hd.splice off hc) (.inr (by rw[<-hls];exact EY _ _ _ (by omega))) (fun j hj=>by rw[hfz] at hj;omega);refine LV (w':=w.setRow (E.b i) (splice cs off (a.eval y).cells.toList++rest).toArray) ?_ (hK _ _ ⟨E,hG'.put (fun d hd=>by cases hd) hN⟩);have hsz:(a.eval y).cells.size=n:=by omega
 simp[execOp,ho,h1,Instr.storeAt,Instr.sureAddr,storeVar,ht.sizeOf,hsz,hst]
def qD(n:Nat)(zs:List ab):List ab:=(List.range n).map fun i=>zs.getD (i%zs.length) aT
theorem LD(n:Nat)(l:ab):qD n [l]=List.replicate n l:=by
 unfold qD;apply zaq
 .simp
 .intro i h1 h2;simp[Nat.mod_one]
theorem UN{A:ak}{w:World}{f:Nat->ab}{g:Nat->Value}:∀(l:List Nat),(∀i∈l,(f i).den A (g i) w)->a9 A (l.map f) (l.map g) w:=by
 intro l
 induction l with
 |nil=>intro _;trivial
 |cons x xs ih=>intro h;exact⟨h x (by simp),ih fun i hi=>h i (by simp[hi])⟩
theorem D6{A:ak}{w:World}{zs:List ab}{z:Array Value}(h:a9 A zs z.toList w)(h0:0<zs.length)(n:Nat) :
  a9 A (qD n zs) ((Array.range n).map (z[· % z.size]!)).toList w:=by
 have hl:=h.length;simp only[YU] at hl;rw[show((Array.range n).map (z[· % z.size]!)).toList=(List.range n).map (z[· % z.size]!) from by simp];refine UN _ (fun i _=>?_);have hlt:i%zs.length<zs.length:=YE _ h0;obtain⟨v,hv,hd⟩:=h.get (XM hlt);rw[Zp,XM hlt];simp only[Z4] at hv;simp only[Yt,hl];rw[getElem!_def,hv];exact hd
theorem QH{E:Env}{w:World}{t len:Nat}{ls:List ab}{cs:List Value}(hf:∀k j,E.A k j->k<w.heap.size)(hd:a9 E.A ls cs w)(hcl:bW ls=true)(hm:len<=maxLen) :
  (bX len ls).P (grown E.A w (w.alloc (.cells cs.toArray t))) (.slice (some ⟨w.heap.size,0,none⟩) len len) (w.alloc (.cells cs.toArray t)):=by
 refine⟨some ⟨w.heap.size,0,none⟩,len,rfl,XP _,hm,fun h=>by simp at h,fun ad had=>?_⟩;cases had;refine⟨fun _=>rfl,fun i l hi=>⟨.inr ⟨XP _,by simp⟩,?_⟩⟩;obtain⟨v,hv,hvd⟩:=(hd.pure hcl).get hi;refine⟨v,?_,ab.cU (ak.le.of fun k j hk=>.inl hk) (ab.fK (ju fun k j hk=>Below.heap_alloc w _ k (hf k j hk)) hvd)⟩;have hc:=heap_alloc_new w (.cells cs.toArray t);unfold World.cell?;rw[hc];simpa using hv
theorem b8{t elem len sz:Nat}{parts:Array (Nat×Operand)}{zs ls:List ab}{lp:List (Nat×List ab)}{b:Bool}(ho:o.op = .buildSlice t len parts)(ht:P.underlying t=some (.slice elem))(hsz:bJ P elem b sz)
  (hz:de P elem zs) (hzl:zs.length=sz) (hsz0:0<sz) (hlen:0<len) (hp:mT Γ parts.toList=some lp) (hbig:len*sz<=16777216)
  (hf:oI (fun i=>some (i*sz,sz)) (qD (len*sz) zs) lp=some ls) (hcl:bW ls=true:=by rfl):Je P ops o Γ H (some (D.rep (bX len ls))) H:=by
 intro w0 A0 N Γ2 a w Q K hs hN hSt hK;obtain⟨E,hG⟩:=hSt;obtain⟨z,hzr,hzd⟩:=hz.run w E.A;obtain⟨h1,h2⟩:=A5 parts.toList lp (CR (.inr ⟨len,ho⟩) hs hG) hp;obtain⟨cs,hc1,hc2⟩:=Cj (A:=E.A) (w:=w) (places:=fun i=>some (i*sz,sz)) (parts.toList.map fun p=>(p.1,a.eval p.2)) lp ((Array.range (len*sz)).map (z.cells[· % z.cells.size]!)) _ ls
  (D6 hzd (by omega) (len*sz)) h1 h2 hf
 have hb:=ma w (.cells cs elem);have hG':=hG.grow hb;have hlm:len<=16777216:=XY (Nat.le_mul_of_pos_right len hsz0) hbig;refine gh (v:=.slice (some ⟨w.heap.size,0,none⟩) len len) (w':=w.alloc (.cells cs elem)) ?_ (hK _ _ ⟨_,hG'.put (fun d hd=>?_) hN⟩)
 .have n1:¬16777216<len*sz:=by omega
  have n2:len*sz≠0:=YM (Zn hlen hsz0);have hps:(parts.map fun(p:Nat×Operand)=>(p.1,a.eval p.2)).toList=parts.toList.map fun p=>(p.1,a.eval p.2):=by simp
  simp only[execOp,ho,Instr.buildSlice];simp only[hps];simp[run_underlying ht,hsz.sizeOf,n1,hzr,hc1,newRow,n2]
 .cases hd;refine⟨trivial,?_⟩;have:=QH (t:=elem) (len:=len) hG.bc hc2 hcl (by simp only[maxLen];omega);rw[show cs.toList.toArray=cs from by simp] at this;exact this
def gA(Γ:aA):List Operand->Option (List V)
 |[]=>some []
 |x::xs=>
  match ao Γ x,gA Γ xs with
  |some (.inl v),some vs=>some (v::vs)
  |_,_=>none
@[reducible] def R.lG:R->D
 |.inl x=>.inl x
 |.inr xs=>.inr (.inl xs)
theorem R.wL{E:Env}{y:R}{v:Value}{w:World}(h:y.den E.A v w):y.lG.den E v w:=by
 cases y with
 |inl x=>exact h
 |inr xs=>exact h
theorem R.wK{y:R}{H:Hp}:y.lG.gb H:=by cases y <;> trivial
theorem mc{E:Env}{a:Act}{w:World}:∀(xs:List Operand) (vs:List V),(∀x∈xs,∀d,ao Γ x=some d->d.den E (a.eval x) w)->gA Γ xs=some vs->c6 E.A vs (xs.map a.eval) w:=by
 intro xs
 induction xs with
 |nil=>intro vs _ h;simp only[gA,XL] at h;subst h;trivial
 |cons x xs ih=>
  intro vs hd h;unfold gA at h
  cases hx:ao Γ x with
  |none=>rw[hx] at h;simp at h
  |some d=>
   rw[hx] at h
   cases hr:gA Γ xs with
   |none=>rw[hr] at h;rcases d with v|d <;> simp at h
   |some us=>
    rw[hr] at h;rcases d with v|d
    .simp only[XL] at h;subst h;exact⟨hd x (by simp) _ hx,ih us (fun y hy d hd'=>hd y (by simp[hy]) d hd') hr⟩
    .simp at h
def aD(P:Program)(f:Nat):Prop:=∃fn,P.funcs[f]?=some fn/\fn.body.isNone=false/\(fn.name == "runtime.NumGoroutine")=false
theorem Ln{f:Nat}{args:Array Operand}{tys:Array TypeId}{xs:List V}{y:R}(ho:o.op = .call { callee:=.value (.func f),args:=args,argTypes:=tys })(hf:aD P f)
  (hx:gA Γ args.toList=some xs) (hspec:ar P f xs y) (hcl:fq xs=true:=by rfl):Je P ops o Γ H (some y.lG) H:=by
 intro w0 A0 N Γ2 a w Q K hs hN hSt hK;obtain⟨E,hG⟩:=hSt;obtain⟨fn,hfn,hb,hn⟩:=hf;have hargs:=mc (Γ:=Γ) (E:=E) (a:=a) (w:=w) args.toList xs (fun x hx d hd=>(bY hs hG (x:=x) (by rw[ho];simp[Op.operands,Call.operands];exact .inr (by simpa using hx)) hd).2) hx;have hrun:(execOp a.eval o).run P w = .ok (.enter f (args.map a.eval)) w:=by
  have hn':¬fn.name = "runtime.NumGoroutine":=by simpa using hn
  have hb':¬fn.body=none:=by intro e;rw[e] at hb;simp at hb
  simp[execOp,ho,resolve,Deferred.ofValue,invoke,callFunc,hfn,hn',hb',Act.eval]
 unfold Oper.wp;rw[hrun,Ze];have hc:=hspec w (args.map a.eval).toList E.A.c hG.below.now hG.bc (by have:=hargs.pure hcl;simpa using this);rw[show(args.map a.eval).toList.toArray=args.map a.eval from Y5] at hc;refine Zg hc ?_;rintro e w' ⟨v,rfl,hy,hbel⟩;exact hK _ _ ⟨_,(hG.grow hbel).put (fun d hd=>by cases hd;exact⟨R.wK,R.wL (R.cU (sm _ _ _) hy)⟩) hN⟩
def lY:Nat->List V->aA
 |_,[]=>[]
 |k,x::xs=>(k,some (D.v x))::lY (k+1) xs
def aJ.gr(F:aJ)(A0:ak)(w':World):ak:=ak.of fun k j=>A0 k j\/(F.w.heap.size<=k/\k<w'.heap.size)\/F.X k
def oR(P:Program)(fn:Func)(w0:aJ)(A0:ak)(y:R):Exit->Act->World->Prop:=
 bodyPost P fn fun e w'=>∃v,e = .returned v/\y.den (w0.gr A0 w') v w'/\w0.cW w'
theorem vq{A:ak}{w:World}:∀(xs:List V) (vs:List Value) (k s:Nat) (d:D),c6 A xs vs w->look (lY k xs) s=some d →
  ∃x v,d=D.v x/\k<=s/\vs[s-k]?=some v/\x.den A v w:=by
 intro xs
 induction xs with
 |nil=>intro vs k s d _ h;simp[lY,look] at h
 |cons x xs ih=>
  intro vs k s d hd h
  cases vs with
  |nil=>exact hd.elim
  |cons v vs=>
   unfold lY at h;by_cases hk:k=s
   .subst hk;rw[hY] at h;cases h;exact⟨x,v,rfl,XP _,by simp,hd.1⟩
   .rw[gH hk] at h;obtain⟨x',v',h1,h2,h3,h4⟩:=ih vs (k+1) s d hd.2 h;refine⟨x',v',h1,by omega,?_,h4⟩;rw[show s-k=(s-(k+1))+1 from by omega];simpa using h3
theorem ar.gO{f N:Nat}{fn:Func}{c:Code}{xs:List V}{y:R}(hf:P.funcs[f]?=some fn)(hb:fn.body=some c)(hN:fn.ntmps=N)(hl:xs.length<=min N 2000)
  (h:∀w0 A0,Tc P (oR P fn w0 A0 y) w0 A0 N (lY 0 xs) [] c):ar P f xs y:=by
 intro w vs A hg hA hd;have hlen:=hd.length;refine Zg (calls_of_wp hf hb (R:=fun e w'=>∃v,e = .returned v/\y.den ((aJ.of w).gr (ak.of A) w') v w'/\(aJ.of w).cW w') ?_) (fun e w' ⟨v,h1,h2,h3⟩=>⟨v,h1,R.cU (ak.le.pure fun k j hk=>by
  rcases hk with hk|hk|hk
  .exact .inl hk
  .exact .inr hk
  .exact hk.elim) h2,h3.EC⟩)
 refine h (aJ.of w) (ak.of A) _ _ ⟨⟨fun _=>0,fun _=>0,fun _=>false,ak.of A⟩,aJ.cW.refl (aJ.of w) hg (fun _ _ h=>h),hA,fun k j hk=>.inl hk,rfl,?_,?_,fun i e he=>by simp at he,fun i j e e' he=>by simp at he,fun i e v he=>by simp at he,fun i m v hv=>by simp at hv,fun k j hk=>⟨hk,rfl⟩⟩
 .simp;omega
 .intro s d hs;obtain⟨x,v,rfl,_,h2,h3⟩:=vq xs vs 0 s d hd hs;refine⟨trivial,v,?_,h3⟩;simp only[zay] at h2;have hlt:=(XN.1 h2).1;rw[jq (by simp;omega)];rw[Yj (by simpa using hlt)];simpa using h2
def jN(P:Program)(Γ:aA)(H:Hp)(r:ResultVar)(x:V):Prop:=
 match r with
 |.tmp t=>dL Γ t=some (D.v x)
 |.cell s t=>∃i e,dL Γ s=some (D.ptr i 0)/\H[i]?=some (some e) ∧
   ((bJ P t true e.ls.length/\0<e.ls.length/\x=V.agg e.ls)\/(bJ P t false 1/\∃l rest,e.ls=l::rest/\x=V.one l))
def mQ(tmps:Array Value):ResultVar->Sem Value
 |.tmp t=>pure (tmps.getD t undef)
 |.cell a t=>do loadVar t (← asAddr (tmps.getD a undef))
theorem kE{w0:aJ}{A0:ak}{N:Nat}{E:Env}{a:Act}{w:World}(hG:Good w0 A0 N Γ H E a w){r:ResultVar}{x:V}(h:jN P Γ H r x) :
  ∃v,(mQ a.tmps r).run P w = .ok v w/\x.den E.A v w:=by
 cases r with
 |tmp t=>
  obtain⟨_,v,hv,hd⟩:=hG.tmp (s:=t) h;exact⟨v,by simp[mQ,hv],hd⟩
 |cell s t=>
  obtain⟨i,e,h1,h2,h3⟩:=h;obtain⟨_,v,hv,hd⟩:=hG.tmp h1;have hd:v = .pointer (some ⟨E.b i,0,none⟩):=hd;subst hd;obtain⟨g1,_⟩:=hG.boxes i e h2;rcases h3 with⟨ht,h0,rfl⟩|⟨ht,l,rest',hl,rfl⟩
  .obtain⟨cs,rest,hc,hcd,_⟩:=HE.block g1 (HE.not_nil g1 h0);have hlen:=hcd.length;have hl:=Hs (P:=P) hc e.ls.length (by simp;omega) (o:=0);rw[List.drop_zero,YY (by omega),YH (by omega)] at hl;exact⟨.agg cs.toArray,by simp[mQ,hv,asAddr,loadVar,ht.isAgg,ht.sizeOf,hl],cs,rfl,hcd⟩
  .obtain⟨cs,rest,hc,hcd,_⟩:=HE.block g1 (HE.not_nil g1 (by rw[hl];simp));obtain⟨v,hv2,hvd⟩:=hcd.get (i:=0) (l:=l) (by rw[hl];rfl);have hlt:=(XN.1 hv2).1;have hl':w.cell? ⟨E.b i,0,none⟩=some v:=kQ hc (by rw[XV hlt];exact hv2);exact⟨v,by simp[mQ,hv,asAddr,loadVar,ht.isAgg,load,Sem.run,hl'],hvd⟩
theorem kD(fn:Func)(tmps:Array Value):results fn tmps=(do let vs ← fn.results.mapM (mQ tmps);pure (if h:vs.size=1 then vs[0] else .tuple vs)):=by
 unfold results;have:(fun(x:ResultVar)=>match x with | .tmp t=>(pure (tmps.getD t undef):Sem Value) | .cell a t=>do loadVar t (← asAddr (tmps.getD a undef)))=mQ tmps:=by
  funext r;cases r <;> rfl
 rw[<-this];rfl
theorem Good.Ta{w0:aJ}{A0:ak}{N:Nat}{E:Env}{a:Act}{w:World}(hG:Good w0 A0 N Γ H E a w):ak.le (ak.of E.A.c) (w0.gr A0 w):=ak.le.of fun k j hk=>by
 rcases hG.cE k j hk with h|h|h
 .exact .inl h
 .exact .inr (.inl ⟨h,hG.bc k j hk⟩)
 .exact .inr (.inr h)
theorem Good.out{w0:aJ}{A0:ak}{N:Nat}{E:Env}{a:Act}{w:World}(hG:Good w0 A0 N Γ H E a w){x:V}{v:Value}(hc:x.cl=true)(hd:x.den E.A v w):x.den (w0.gr A0 w) v w:=V.cU hG.Ta (V.ja hc hd)
theorem Wt{Q:Exit->Act->World->Prop}{w0:aJ}{A0:ak}{N:Nat}{fn:Func}{y:R}{r:ResultVar}{x:V}(hQ:∀a w,oR P fn w0 A0 y .ret a w->Q .ret a w)
  (hr:fn.results = #[r]) (h:jN P Γ H r x) (hy:R.one x=y) (hcl:x.cl=true:=by rfl):Tc P Q w0 A0 N Γ H .ret:=by
 intro a w hSt;obtain⟨E,hG⟩:=hSt;obtain⟨v,hv,hd⟩:=kE hG h;refine wp_ret (hQ a w ⟨hG.defers,v,?_,v,rfl,?_,hG.below⟩)
 .rw[kD,hr];simp[hv]
 .subst hy;exact hG.out hcl hd
theorem Ws{Q:Exit->Act->World->Prop}{w0:aJ}{A0:ak}{N:Nat}{fn:Func}{y:R}{r r':ResultVar}{x x':V}(hQ:∀a w,oR P fn w0 A0 y .ret a w->Q .ret a w)
  (hr:fn.results = #[r,r']) (h:jN P Γ H r x) (h':jN P Γ H r' x') (hy:R.aW [x,x']=y) (hcl:fq [x,x']=true:=by rfl):Tc P Q w0 A0 N Γ H .ret:=by
 intro a w hSt;obtain⟨E,hG⟩:=hSt;obtain⟨v,hv,hd⟩:=kE hG h;obtain⟨v',hv',hd'⟩:=kE hG h';refine wp_ret (hQ a w ⟨hG.defers,.tuple #[v,v'],?_,_,rfl,?_,hG.below⟩)
 .rw[kD,hr];simp[hv,hv']
 .subst hy;simp only[fq,XQ] at hcl;exact⟨[v,v'],rfl,hG.out hcl.1 hd,hG.out hcl.2.1 hd',trivial⟩
theorem Wr{Q:Exit->Act->World->Prop}{w0:aJ}{A0:ak}{N:Nat}{fn:Func}{y:R}{r r' r'':ResultVar}{x x' x'':V}(hQ:∀a w,oR P fn w0 A0 y .ret a w->Q .ret a w)
  (hr:fn.results = #[r,r',r'']) (h:jN P Γ H r x) (h':jN P Γ H r' x') (h'':jN P Γ H r'' x'') (hy:R.aW [x,x',x'']=y) (hcl:fq [x,x',x'']=true:=by rfl):Tc P Q w0 A0 N Γ H .ret:=by
 intro a w hSt;obtain⟨E,hG⟩:=hSt;obtain⟨v,hv,hd⟩:=kE hG h;obtain⟨v',hv',hd'⟩:=kE hG h';obtain⟨v'',hv'',hd''⟩:=kE hG h'';refine wp_ret (hQ a w ⟨hG.defers,.tuple #[v,v',v''],?_,_,rfl,?_,hG.below⟩)
 .rw[kD,hr];simp[hv,hv',hv'']
 .subst hy;simp only[fq,XQ] at hcl;exact⟨[v,v',v''],rfl,hG.out hcl.1 hd,hG.out hcl.2.1 hd',hG.out hcl.2.2.1 hd'',trivial⟩
end
end Rc
