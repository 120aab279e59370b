/- Parts of the proof, 1: the texts FwA, FwB, FwC, FwD, FwE, as far as they are used. -/
import Derived.WalkKit
import Derived.Laws.CopyOwn
set_option linter.unusedSimpArgs false
set_option linter.unusedVariables false
set_option maxRecDepth 10000
namespace Rc
abbrev zxa:=@List.getElem?_eq_getElem
abbrev zxb:=@List.mem_of_getElem?
abbrev zxc:=@List.getElem?_eq_some_iff
abbrev zxd:=@Option.some.injEq
abbrev zxe:=@Nat.le_refl
abbrev zxf:=@Prod.mk.injEq
abbrev zxg:=@Nat.zero_le
abbrev zxh:=@Nat.le_of_ble_eq_true
abbrev zxi:=@List.getElem?_append_left
abbrev zxj:=@Nat.lt_of_lt_of_le
abbrev zxk:=@Nat.le_trans
abbrev zxl:=@Nat.mul_le_mul_right
abbrev zxm:=@List.eq_nil_of_length_eq_zero
abbrev zxn:=@Nat.pow_le_pow_right
abbrev zxo:=@Bool.and_eq_true
abbrev zxp:=@List.getElem?_set_ne
abbrev zxq:=@List.length_append
abbrev zxr:=@List.length_take
abbrev zxs:=@List.getElem?_set_self
abbrev zxt:=@Nat.pow_succ
abbrev zxu:=@Nat.pow_add
abbrev zxv:=@List.mem_append
abbrev zxw:=@Bool.false_eq_true
abbrev zxx:=@List.take_length
abbrev zxy:=@List.append_nil
abbrev zxz:=@Array.getElem?_eq_some_iff
abbrev zxA:=@List.length_drop
abbrev zxB:=@Nat.lt_of_le_of_lt
abbrev zxC:=@List.foldl_append
abbrev zxD:=@List.append_assoc
abbrev zxE:=@List.mem_cons
abbrev zxF:=@Nat.mul_comm
abbrev zxG:=@Nat.pow_lt_pow_right
abbrev zxH:=@List.drop_eq_getElem_cons
abbrev zxI:=@Nat.mul_le_mul_left
abbrev zxJ:=@List.take_of_length_le
end Rc
namespace Rc
open Go Go.RowKit
abbrev zbG:Type:=Nat->Nat->Prop
structure Foot where
 c:zbG
 g:Nat->Nat->Option Value
instance : CoeFun Foot fun _ => zbG := ⟨Foot.c⟩
instance : Coe Foot zbG := ⟨Foot.c⟩
@[reducible] def Foot.of(c:zbG):Foot:=⟨c,fun _ _=>none⟩
structure Foot.le(A A':Foot):Prop where
 c:∀k j,A k j->A' k j
 g:∀r n v,A.g r n=some v->A'.g r n=some v
theorem Foot.le.refl(A:Foot):Foot.le A A:=⟨fun _ _ h=>h,fun _ _ _ h=>h⟩
theorem Foot.le.of{c c':zbG}(h:∀k j,c k j->c' k j):Foot.le (Foot.of c) (Foot.of c'):=⟨h,fun _ _ _ h=>h⟩
theorem Foot.le.pure{c:zbG}{A:Foot}(h:∀k j,c k j->A k j):Foot.le (Foot.of c) A:=⟨h,fun _ _ _ h=>by simp at h⟩
def kept(A:zbG)(w w':World):Prop:=∀k j,A k j->w'.cell? ⟨k,j,none⟩=w.cell? ⟨k,j,none⟩
theorem zcr{A:zbG}{w w':World}(h:∀k j,A k j->w'.heap[k]?=w.heap[k]?):kept A w w':=fun k j hk=>World.cell?_of_block (h k j hk)
def Old(A0 A:zbG)(w0 w:World):Prop:=∀k j,A0 k j->A k j/\w.cell? ⟨k,j,none⟩=w0.cell? ⟨k,j,none⟩
theorem Old.keep{A0 A A':zbG}{w0 w w':World}(h:Old A0 A w0 w)(hle:∀k j,A k j->A' k j)(hk:kept A w w'):Old A0 A' w0 w':=
 fun k j hA=>⟨hle k j (h k j hA).1,(hk k j (h k j hA).1).trans (h k j hA).2⟩
theorem kept.refl(A:zbG)(w:World):kept A w w:=fun _ _ _=>rfl
structure Rep where
 P:zbG->Value->World->Prop
 mono:∀{A A':zbG} {v:Value} {w:World},(∀k j,A k j->A' k j)->P A v w->P A' v w
 keep:∀{A:zbG} {v:Value} {w w':World},(kept A w w')->P A v w->P A v w'
 one:∀{A:zbG} {v:Value} {w:World},P A v w->v.oneCell'=true
abbrev Leaf:Type:=Sum Value (Sum Rep (Nat×Nat))
@[reducible] def Leaf.val(v:Value):Leaf:=.inl v
@[reducible] def Leaf.rep(r:Rep):Leaf:=.inr (.inl r)
@[reducible] def Leaf.own(r n:Nat):Leaf:=.inr (.inr (r,n))
def Leaf.den(A:Foot):Leaf->Value->World->Prop
 |.inl v,x,_=>x=v/\v.oneCell'=true
 |.inr (.inl r),x,w=>r.P A.c x w
 |.inr (.inr (r,n)),x,_=>A.g r n=some x/\x.oneCell'=true
def Leaf.cl:Leaf->Bool
 |.inr (.inr _)=>false
 |_=>true
def clL:List Leaf->Bool
 |[]=>true
 |l::ls=>l.cl&&clL ls
theorem Leaf.den_mono{A A':Foot}{l:Leaf}{v:Value}{w:World}(h:Foot.le A A')(hd:l.den A v w):l.den A' v w:=by
 rcases l with x|r|⟨r,n⟩
 .exact hd
 .exact r.mono h.c hd
 .exact⟨h.g r n v hd.1,hd.2⟩
theorem Leaf.den_pure{A:Foot}{l:Leaf}{v:Value}{w:World}(h:l.cl=true)(hd:l.den A v w):l.den (Foot.of A.c) v w:=by
 rcases l with x|r|⟨r,n⟩
 .exact hd
 .exact hd
 .simp[Leaf.cl] at h
theorem Leaf.den_keep{A:Foot}{l:Leaf}{v:Value}{w w':World}(h:kept A w w')(hd:l.den A v w):l.den A v w':=by
 rcases l with x|r|⟨r,n⟩
 .exact hd
 .exact r.keep h hd
 .exact hd
theorem Leaf.den_one{A:Foot}{l:Leaf}{v:Value}{w:World}(hd:l.den A v w):v.oneCell'=true:=by
 rcases l with x|r|⟨r,n⟩
 .obtain⟨rfl,h⟩:=hd;exact h
 .exact r.one hd
 .exact hd.2
def denL(A:Foot):List Leaf->List Value->World->Prop
 |[],[],_=>True
 |l::ls,v::vs,w=>l.den A v w/\denL A ls vs w
 |[],_::_,_=>False
 |_::_,[],_=>False
theorem denL.length{A:Foot}{ls:List Leaf}{vs:List Value}{w:World}(h:denL A ls vs w):vs.length=ls.length:=by
 induction ls generalizing vs with
 |nil=>cases vs with
  |nil=>rfl
  |cons v vs=>exact h.elim
 |cons l ls ih=>cases vs with
  |nil=>exact h.elim
  |cons v vs=>simp[ih h.2]
theorem denL.mono{A A':Foot}{ls:List Leaf}{vs:List Value}{w:World}(hA:Foot.le A A')(h:denL A ls vs w):denL A' ls vs w:=by
 induction ls generalizing vs with
 |nil=>cases vs with
  |nil=>trivial
  |cons v vs=>exact h.elim
 |cons l ls ih=>cases vs with
  |nil=>exact h.elim
  |cons v vs=>exact⟨Leaf.den_mono hA h.1,ih h.2⟩
theorem denL.keep{A:Foot}{ls:List Leaf}{vs:List Value}{w w':World}(hw:kept A w w')(h:denL A ls vs w):denL A ls vs w':=by
 induction ls generalizing vs with
 |nil=>cases vs with
  |nil=>trivial
  |cons v vs=>exact h.elim
 |cons l ls ih=>cases vs with
  |nil=>exact h.elim
  |cons v vs=>exact⟨Leaf.den_keep hw h.1,ih h.2⟩
theorem denL.get{A:Foot}{ls:List Leaf}{vs:List Value}{w:World}(h:denL A ls vs w){i:Nat}{l:Leaf}(hi:ls[i]?=some l) :
  ∃v,vs[i]?=some v/\l.den A v w:=by
 induction ls generalizing vs i with
 |nil=>simp at hi
 |cons l0 ls ih=>cases vs with
  |nil=>exact h.elim
  |cons v vs=>cases i with
   |zero=>simp at hi;subst hi;exact⟨v,rfl,h.1⟩
   |succ i=>simpa using ih h.2 (by simpa using hi)
theorem denL.append{A:Foot}{ls ls':List Leaf}{vs vs':List Value}{w:World}(h:denL A ls vs w)(h':denL A ls' vs' w):denL A (ls++ls') (vs++vs') w:=by
 induction ls generalizing vs with
 |nil=>cases vs with
  |nil=>exact h'
  |cons v vs=>exact h.elim
 |cons l ls ih=>cases vs with
  |nil=>exact h.elim
  |cons v vs=>exact⟨h.1,ih h.2⟩
theorem denL.take{A:Foot}{ls:List Leaf}{vs:List Value}{w:World}(h:denL A ls vs w)(n:Nat):denL A (ls.take n) (vs.take n) w:=by
 induction ls generalizing vs n with
 |nil=>cases vs with
  |nil=>simp[denL]
  |cons v vs=>exact h.elim
 |cons l ls ih=>cases vs with
  |nil=>exact h.elim
  |cons v vs=>cases n with
   |zero=>simp[denL]
   |succ n=>exact⟨h.1,ih h.2 n⟩
theorem denL.drop{A:Foot}{ls:List Leaf}{vs:List Value}{w:World}(h:denL A ls vs w)(n:Nat):denL A (ls.drop n) (vs.drop n) w:=by
 induction ls generalizing vs n with
 |nil=>cases vs with
  |nil=>simp[denL]
  |cons v vs=>exact h.elim
 |cons l ls ih=>cases vs with
  |nil=>exact h.elim
  |cons v vs=>cases n with
   |zero=>exact h
   |succ n=>exact ih h.2 n
theorem denL.one{A:Foot}{ls:List Leaf}{vs:List Value}{w:World}(h:denL A ls vs w):∀u∈vs,u.oneCell'=true:=by
 induction ls generalizing vs with
 |nil=>cases vs with
  |nil=>simp
  |cons v vs=>exact h.elim
 |cons l ls ih=>cases vs with
  |nil=>exact h.elim
  |cons v vs=>
   intro u hu;rcases zxE.1 hu with rfl|hu
   .exact Leaf.den_one h.1
   .exact ih h.2 u hu
theorem denL.pure{A:Foot}{ls:List Leaf}{vs:List Value}{w:World}(hc:clL ls=true)(h:denL A ls vs w):denL (Foot.of A.c) ls vs w:=by
 induction ls generalizing vs with
 |nil=>cases vs with
  |nil=>trivial
  |cons v vs=>exact h.elim
 |cons l ls ih=>cases vs with
  |nil=>exact h.elim
  |cons v vs=>
   unfold clL at hc;rw[zxo] at hc;exact⟨Leaf.den_pure hc.1 h.1,ih hc.2 h.2⟩
abbrev V:Type:=Sum Leaf (List Leaf)
@[reducible] def V.one(l:Leaf):V:=.inl l
@[reducible] def V.agg(ls:List Leaf):V:=.inr ls
def V.den(A:Foot):V->Value->World->Prop
 |.inl l,v,w=>l.den A v w
 |.inr ls,v,w=>∃cs:List Value,v = .agg cs.toArray/\denL A ls cs w
def V.leaves:V->List Leaf
 |.inl l=>[l]
 |.inr ls=>ls
theorem V.den_mono{A A':Foot}{x:V}{v:Value}{w:World}(h:Foot.le A A')(hd:x.den A v w):x.den A' v w:=by
 cases x with
 |inl l=>exact Leaf.den_mono h hd
 |inr ls=>obtain⟨cs,rfl,hc⟩:=hd;exact⟨cs,rfl,hc.mono h⟩
theorem V.den_keep{A:Foot}{x:V}{v:Value}{w w':World}(h:kept A w w')(hd:x.den A v w):x.den A v w':=by
 cases x with
 |inl l=>exact Leaf.den_keep h hd
 |inr ls=>obtain⟨cs,rfl,hc⟩:=hd;exact⟨cs,rfl,hc.keep h⟩
def V.cl:V->Bool
 |.inl l=>l.cl
 |.inr ls=>clL ls
theorem V.den_pure{A:Foot}{x:V}{v:Value}{w:World}(hc:x.cl=true)(hd:x.den A v w):x.den (Foot.of A.c) v w:=by
 cases x with
 |inl l=>exact Leaf.den_pure hc hd
 |inr ls=>obtain⟨cs,rfl,h⟩:=hd;exact⟨cs,rfl,h.pure hc⟩
theorem zhs{v:Value}(h:v.oneCell'=true):v.cells = #[v]:=by
 cases v <;> first|rfl|simp[Value.oneCell'] at h
theorem V.den_cells{A:Foot}{x:V}{v:Value}{w:World}(hd:x.den A v w):denL A x.leaves v.cells.toList w:=by
 cases x with
 |inl l=>rw[zhs (Leaf.den_one hd)];exact⟨hd,trivial⟩
 |inr ls=>obtain⟨cs,rfl,hc⟩:=hd;simpa[Value.cells,V.leaves] using hc
def denVs(A:Foot):List V->List Value->World->Prop
 |[],[],_=>True
 |x::xs,v::vs,w=>x.den A v w/\denVs A xs vs w
 |[],_::_,_=>False
 |_::_,[],_=>False
theorem denVs.length{A:Foot}{xs:List V}{vs:List Value}{w:World}(h:denVs A xs vs w):vs.length=xs.length:=by
 induction xs generalizing vs with
 |nil=>cases vs with
  |nil=>rfl
  |cons v vs=>exact h.elim
 |cons l ls ih=>cases vs with
  |nil=>exact h.elim
  |cons v vs=>simp[ih h.2]
theorem denVs.mono{A A':Foot}{xs:List V}{vs:List Value}{w:World}(hA:Foot.le A A')(h:denVs A xs vs w):denVs A' xs vs w:=by
 induction xs generalizing vs with
 |nil=>cases vs with
  |nil=>trivial
  |cons v vs=>exact h.elim
 |cons l ls ih=>cases vs with
  |nil=>exact h.elim
  |cons v vs=>exact⟨V.den_mono hA h.1,ih h.2⟩
theorem denVs.keep{A:Foot}{xs:List V}{vs:List Value}{w w':World}(hw:kept A w w')(h:denVs A xs vs w):denVs A xs vs w':=by
 induction xs generalizing vs with
 |nil=>cases vs with
  |nil=>trivial
  |cons v vs=>exact h.elim
 |cons l ls ih=>cases vs with
  |nil=>exact h.elim
  |cons v vs=>exact⟨V.den_keep hw h.1,ih h.2⟩
theorem denVs.get{A:Foot}{xs:List V}{vs:List Value}{w:World}(h:denVs A xs vs w){i:Nat}{x:V}(hi:xs[i]?=some x) :
  ∃v,vs[i]?=some v/\x.den A v w:=by
 induction xs generalizing vs i with
 |nil=>simp at hi
 |cons l0 ls ih=>cases vs with
  |nil=>exact h.elim
  |cons v vs=>cases i with
   |zero=>simp at hi;subst hi;exact⟨v,rfl,h.1⟩
   |succ i=>simpa using ih h.2 (by simpa using hi)
def zgd:List V->Bool
 |[]=>true
 |x::xs=>x.cl&&zgd xs
theorem denVs.pure{A:Foot}{xs:List V}{vs:List Value}{w:World}(hc:zgd xs=true)(h:denVs A xs vs w):denVs (Foot.of A.c) xs vs w:=by
 induction xs generalizing vs with
 |nil=>cases vs with
  |nil=>trivial
  |cons v vs=>exact h.elim
 |cons l ls ih=>cases vs with
  |nil=>exact h.elim
  |cons v vs=>
   unfold zgd at hc;rw[zxo] at hc;exact⟨V.den_pure hc.1 h.1,ih hc.2 h.2⟩
abbrev R:Type:=Sum V (List V)
@[reducible] def R.one(x:V):R:=.inl x
@[reducible] def R.tup(xs:List V):R:=.inr xs
def R.den(A:Foot):R->Value->World->Prop
 |.inl x,v,w=>x.den A v w
 |.inr xs,v,w=>∃vs:List Value,v = .tuple vs.toArray/\denVs A xs vs w
def zct(A:Foot)(w w':World):Foot:=⟨fun k j=>A k j\/(w.heap.size<=k/\k<w'.heap.size),A.g⟩
theorem zhy(A:Foot)(w w':World):Foot.le A (zct A w w'):=⟨fun _ _ h=>.inl h,fun _ _ _ h=>h⟩
theorem R.den_mono{A A':Foot}{y:R}{v:Value}{w:World}(h:Foot.le A A')(hd:y.den A v w):y.den A' v w:=by
 cases y with
 |inl x=>exact V.den_mono h hd
 |inr xs=>obtain⟨vs,rfl,hv⟩:=hd;exact⟨vs,rfl,hv.mono h⟩
theorem zbE(A:Foot)(w w':World):Foot.le (zct (Foot.of A.c) w w') (zct A w w'):=⟨fun _ _ h=>h,fun _ _ _ h=>by simp[zct] at h⟩
def tab:List (Nat×List Value):=[(0,[.int .u8 0,.int .u8 1,.int .u8 28,.int .u8 2,.int .u8 29,.int .u8 14,.int .u8 24,.int .u8 3,.int .u8 30,.int .u8 22,.int .u8 20,.int .u8 15,.int .u8 25,.int .u8 17,.int .u8 4,.int .u8 8,.int .u8 31,.int .u8 27,.int .u8 13,.int .u8 23,.int .u8 21,.int .u8 19,.int .u8 16,.int .u8 7,.int .u8 26,.int .u8 12,.int .u8 18,.int .u8 6,.int .u8 11,.int .u8 5,.int .u8 10,.int .u8 9])]
def zoP(w:World):Prop:=∀p∈tab,p.1<w.heap.size/\∀i v,p.2[i]?=some v->w.cell? ⟨p.1,i,none⟩=some v
structure Frm where
 w:World
 X:Nat->Prop
 ext:Nat->Option Value
structure Frm.Bel(F:Frm)(w':World):Prop where
 os:w'.os=F.w.os
 tape:w'.tape=F.w.tape
 output:w'.output=F.w.output
 size:F.w.heap.size<=w'.heap.size
 block:∀k,k<F.w.heap.size->¬F.X k->w'.heap[k]?=F.w.heap[k]?
 sizes:∀k cs t m,F.X k->F.w.heap[k]?=some (.cells cs t m)->∃cs':Array Value,w'.heap[k]?=some (.cells cs' t m)/\cs'.size=cs.size
 glob:zoP F.w
 apart:∀p∈tab,¬F.X p.1
@[reducible] def Frm.of(w:World):Frm:=⟨w,fun _=>False,fun _=>none⟩
theorem Frm.Bel.refl(F:Frm)(hg:zoP F.w)(ha:∀p∈tab,¬F.X p.1):F.Bel F.w:=⟨rfl,rfl,rfl,zxe _,fun _ _ _=>rfl,fun _ cs _ _ _ h=>⟨cs,h,rfl⟩,hg,ha⟩
theorem Frm.Bel.now{F:Frm}{w':World}(h:F.Bel w'):zoP w':=by
 intro p hp;obtain⟨h1,h2⟩:=h.glob p hp;refine⟨zxj h1 h.size,fun i v hv=>?_⟩;rw[<-h2 i v hv];exact World.cell?_of_block (h.block p.1 h1 (h.apart p hp))
theorem Frm.Bel.then{F:Frm}{w w':World}(h:F.Bel w)(k:Below F.w.heap.size w w'):F.Bel w':=
 ⟨k.os.trans h.os,k.tape.trans h.tape,k.output.trans h.output,zxk h.size k.size,fun i hi hx=>(k.block i hi).trans (h.block i hi hx),
  fun i cs t m hx hi=>by
   obtain⟨cs',h1,h2⟩:=h.sizes i cs t m hx hi;exact⟨cs',by rw[k.block i (zxz.1 hi).1];exact h1,h2⟩,h.glob,h.apart⟩
theorem Frm.Bel.to_below{w w':World}(h:(Frm.of w).Bel w'):Below w.heap.size w w':=⟨h.os,h.tape,h.output,h.size,fun k hk=>h.block k hk (fun h=>h)⟩
def Ctr(P:Program)(f:Nat)(xs:List V)(y:R):Prop:=
 ∀(w:World) (vs:List Value) (A:zbG),zoP w->(∀k j,A k j->k<w.heap.size)->denVs (Foot.of A) xs vs w →
  Calls P f vs.toArray w fun e w'=>∃v,e = .returned v/\y.den (zct (Foot.of A) w w') v w'/\Below w.heap.size w w'
structure Env where
 b:Nat->Nat
 cap:Nat->Nat
 nil:Nat->Bool
 A:Foot
abbrev D:Type:=Sum V (Sum (List V) (Sum (Nat×Nat) (Nat×Nat×Nat)))
@[reducible] def D.v(x:V):D:=.inl x
@[reducible] def D.tup(xs:List V):D:=.inr (.inl xs)
@[reducible] def D.ptr(i off:Nat):D:=.inr (.inr (.inl (i,off)))
@[reducible] def D.part(i off n:Nat):D:=.inr (.inr (.inr (i,off,n)))
@[reducible] def D.own(i n:Nat):D:=.inr (.inr (.inr (i,0,n)))
@[reducible] def D.val(v:Value):D:=.inl (.inl (.inl v))
@[reducible] def D.rep(r:Rep):D:=.inl (.inl (.inr (.inl r)))
@[reducible] def D.agg(ls:List Leaf):D:=.inl (.inr ls)
@[reducible] def D.int(n:Int):D:=.inl (.inl (.inl (.int .i64 n)))
@[reducible] def D.bool(b:Bool):D:=.inl (.inl (.inl (.bool b)))
def D.den(E:Env):D->Value->World->Prop
 |.inl x,v,w=>x.den E.A v w
 |.inr (.inl xs),v,w=>∃vs:List Value,v = .tuple vs.toArray/\denVs E.A xs vs w
 |.inr (.inr (.inl (i,off))),v,_=>v = .pointer (some ⟨E.b i,off,none⟩)
 |.inr (.inr (.inr (i,off,n))),v,_=>v=if E.nil i then .slice none 0 0 else .slice (some ⟨E.b i,off,none⟩) n (E.cap i-off)
structure HE where
 t:Nat
 ls:List Leaf
 row:Option Nat
 pin:Option (Nat ⊕ (Nat×Option Nat))
def Frm.mine(F:Frm)(p:Option (Nat ⊕ (Nat×Option Nat)))(b:Nat):Prop:=
 match p with
 |none=>F.w.heap.size<=b
 |some (.inl q)=>b=q/\(F.w.heap.size<=q\/F.X q)
 |some (.inr _)=>F.w.heap.size<=b\/F.X b
def HE.name(E:Env)(i:Nat)(e:HE):Value:=
 match e.row with
 |none=>.pointer (some ⟨E.b i,0,none⟩)
 |some sz=>if E.nil i then .slice none 0 0 else .slice (some ⟨E.b i,0,none⟩) (e.ls.length/sz) (E.cap i)
def HE.ok(E:Env)(i:Nat)(e:HE)(w:World):Prop:=
 match e.row with
 |none=>E.nil i=false/\∃cs:List Value,w.heap[E.b i]?=some (.cells cs.toArray e.t (0,0))/\denL E.A e.ls cs w
 |some sz=>if E.nil i then e.ls=[]/\E.cap i=0 else
   E.cap i<=maxLen/\∃cs rest:List Value,w.heap[E.b i]?=some (.cells (cs++rest).toArray e.t (0,0))/\(cs++rest).length=E.cap i*sz/\denL E.A e.ls cs w
def HE.ver(e:HE):Bool:=match e.pin with|some (.inr (_,some _))=>true|_=>false
abbrev Gam:=List (Nat×Option D)
def zbm:Gam->Nat->Option D
 |[],_=>none
 |(k,d)::g,s=>bif Nat.beq k s then d else zbm g s
def zc8(g:Gam)(dst:Option Nat)(d:Option D):Gam:=
 match dst with
 |some s=>(s,d)::g
 |none=>g
abbrev Hp:=List (Option HE)
def D.nm:D->Option Nat
 |.inl _=>none
 |.inr (.inl _)=>none
 |.inr (.inr (.inl (i,_)))=>some i
 |.inr (.inr (.inr (i,_)))=>some i
def D.okn(H:Hp):D->Prop
 |.inl _=>True
 |.inr (.inl _)=>True
 |.inr (.inr (.inl (i,_)))=>∃e,H[i]?=some (some e)/\e.ver=false
 |.inr (.inr (.inr (i,_)))=>∃e,H[i]?=some (some e)/\e.ver=false
theorem D.okn_iff{H:Hp}{d:D}:d.okn H↔∀i,d.nm=some i->∃e,H[i]?=some (some e)/\e.ver=false:=by
 rcases d with x|xs|⟨i,o⟩|⟨i,n⟩
 .exact⟨fun _ i h=>by simp[D.nm] at h,fun _=>trivial⟩
 .exact⟨fun _ i h=>by simp[D.nm] at h,fun _=>trivial⟩
 .exact⟨fun h j hj=>by cases hj;exact h,fun h=>h i rfl⟩
 .exact⟨fun h j hj=>by cases hj;exact h,fun h=>h i rfl⟩
theorem D.okn_mono{H H':Hp}{d:D}(hd:d.okn H)(h:∀i e,d.nm=some i->H[i]?=some (some e)->e.ver=false->∃e',H'[i]?=some (some e')/\e'.ver=false):d.okn H':=by
 rw[D.okn_iff] at hd ⊢;intro i hi;obtain⟨e,he,hv⟩:=hd i hi;exact h i e hi he hv
theorem zeO{H:Hp}{e:HE}(hv:e.ver=false:=by rfl):∃e',(H++[some e])[H.length]?=some (some e')/\e'.ver=false:=⟨e,by simp,hv⟩
theorem zse{H:Hp}{x:Option HE}{i:Nat}{e:HE}(h:H[i]?=some (some e))(hv:e.ver=false):∃e',(H++[x])[i]?=some (some e')/\e'.ver=false:=
 ⟨e,by rw[zxi (zxc.1 h).1];exact h,hv⟩
theorem D.okn.mono_app{H:Hp}{x:Option HE}{d:D}(h:d.okn H):d.okn (H++[x]):=D.okn_mono h fun _ _ _ h hv=>zse h hv
theorem zjw{H:Hp}{e e0:HE}{i j:Nat}(h:H[j]?=some (some e0))(hv0:e0.ver=false)(hv:e.ver=false):∃e',(H.set i (some e))[j]?=some (some e')/\e'.ver=false:=by
 by_cases hij:i=j
 .subst hij;exact⟨e,zxs (zxc.1 h).1,hv⟩
 .exact⟨e0,by rw[zxp hij];exact h,hv0⟩
theorem D.okn.mono_set{H:Hp}{i:Nat}{e:HE}{d:D}(h:d.okn H)(hv:∀e0,H[i]?=some (some e0)->e0.ver=false->e.ver=false):d.okn (H.set i (some e)):=D.okn_mono h fun j e0 _ h hv0=>by
 by_cases hij:i=j
 .subst hij;exact zjw h hv0 (hv e0 h hv0)
 .exact⟨e0,by rw[zxp hij];exact h,hv0⟩
theorem ze9{H:Hp}{i:Nat}(h:∃e,H[i]?=some (some e)/\e.ver=false):i<H.length:=let ⟨_,he,_⟩:=h;(zxc.1 he).1
def HE.fz(e:HE):Nat:=
 match e.pin with
 |some (.inr (k,_))=>k
 |_=>0
def zhk(F:Frm)(a:Act)(s:Nat):Option Value:=bif Nat.blt s 2000 then a.tmps[s]? else F.ext s
def zbI(Γ:Gam)(s:Nat):Option D:=bif Nat.blt s 2000 then zbm Γ s else none
theorem zlD{Γ:Gam}{s:Nat}{d:D}(h:zbI Γ s=some d):zbm Γ s=some d/\Nat.blt s 2000=true:=by
 unfold zbI at h;cases hb:Nat.blt s 2000
 .rw[hb] at h;simp at h
 .rw[hb] at h;exact⟨h,rfl⟩
theorem zcK{Γ Γ2:Gam}{s:Nat}(h:zbm Γ2 s=zbm Γ s):zbI Γ2 s=zbI Γ s:=by unfold zbI;rw[h]
theorem zbA{F:Frm}{a:Act}{s:Nat}(h:Nat.blt s 2000=true):zhk F a s=a.tmps[s]?:=by unfold zhk;rw[h];rfl
structure Good(w0:Frm)(A0:Foot)(N:Nat)(Γ:Gam)(H:Hp)(E:Env)(a:Act)(w:World):Prop where
 below:w0.Bel w
 foot:∀k j,E.A k j->k<w.heap.size
 foot0:∀k j,E.A k j->A0 k j\/w0.w.heap.size<=k\/w0.X k
 defers:a.defers=[]
 size:a.tmps.size=N
 slots:∀s d,zbm Γ s=some d->d.okn H/\∃v,zhk w0 a s=some v/\d.den E v w
 boxes:∀i e,H[i]?=some (some e)->e.ok E i w/\(E.nil i=false->w0.mine e.pin (E.b i)/\∀j,e.fz<=j->¬E.A (E.b i) j)
 apart:∀i j e e',H[i]?=some (some e)->H[j]?=some (some e')->E.nil i=false->E.nil j=false->i≠j->E.b i≠E.b j
 kn:∀(i:Nat) (e:HE) (n:Nat),H[i]?=some (some e)->(∃k,e.pin=some (.inr (k,some n)))->E.A.g i n=some (e.name E i)/\(∀m,n<m->E.A.g i m=none)/\(E.nil i=false->∀j,j<e.fz->E.A (E.b i) j)
 gd:∀(i m:Nat) (v:Value),E.A.g i m=some v->∃(e:HE) (k n:Nat),H[i]?=some (some e)/\e.pin=some (.inr (k,some n))
 old:Old A0.c E.A.c w0.w w
theorem Good.tmp{w0:Frm}{A0:Foot}{N:Nat}{Γ:Gam}{H:Hp}{E:Env}{a:Act}{w:World}(h:Good w0 A0 N Γ H E a w){s:Nat}{d:D}(hs:zbI Γ s=some d):d.okn H/\∃v,a.tmps[s]?=some v/\d.den E v w:=by
 obtain⟨h1,h2⟩:=zlD hs;obtain⟨ho,v,hv,hd⟩:=h.slots s d h1;rw[zbA h2] at hv;exact⟨ho,v,hv,hd⟩
def St(w0:Frm)(A0:Foot)(N:Nat)(Γ:Gam)(H:Hp)(a:Act)(w:World):Prop:=∃E,Good w0 A0 N Γ H E a w
theorem zen(k:Nat)(d:Option D)(g:Gam)(s:Nat):zbm ((k,d)::g) s=bif Nat.beq k s then d else zbm g s:=rfl
theorem zar(k:Nat)(d:Option D)(g:Gam):zbm ((k,d)::g) k=d:=by simp[zen]
theorem zaB{k s:Nat}(h:k≠s)(d:Option D)(g:Gam):zbm ((k,d)::g) s=zbm g s:=by
 rw[zen];have:Nat.beq k s=false:=by
  cases hb:Nat.beq k s
  .rfl
  .exact absurd (Nat.eq_of_beq_eq_true hb) h
 rw[this];rfl
theorem D.den_keep{E:Env}{d:D}{v:Value}{w w':World}(h:kept E.A w w')(hd:d.den E v w):d.den E v w':=by
 rcases d with x|xs|p|q
 .exact V.den_keep h hd
 .obtain⟨vs,rfl,hv⟩:=hd;exact⟨vs,rfl,hv.keep h⟩
 .exact hd
 .exact hd
theorem D.den_grow{E:Env}{A':Foot}{d:D}{v:Value}{w:World}(h:Foot.le E.A A')(hd:d.den E v w):d.den { E with A:=A' } v w:=by
 rcases d with x|xs|p|q
 .exact V.den_mono h hd
 .obtain⟨vs,rfl,hv⟩:=hd;exact⟨vs,rfl,hv.mono h⟩
 .exact hd
 .exact hd
theorem HE.ok_keep{E:Env}{i:Nat}{e:HE}{w w':World}(h:kept E.A w w')
  (hb:E.nil i=false->w'.heap[E.b i]?=w.heap[E.b i]?) (hd:e.ok E i w):e.ok E i w':=by
 unfold HE.ok at *;split <;> rename_i hr
 .rw[hr] at hd;obtain⟨hn,cs,hc,hl⟩:=hd;exact⟨hn,cs,by rw[hb hn];exact hc,hl.keep h⟩
 .rw[hr] at hd;by_cases hn:E.nil i=true
  .simp only[hn,if_true] at hd ⊢;exact hd
  .simp only[hn] at hd ⊢;obtain⟨hm,cs,rest,hc,hl,hd⟩:=hd;exact⟨hm,cs,rest,by rw[hb (by simpa using hn)];exact hc,hl,hd.keep h⟩
theorem HE.ok_grow{E:Env}{A':Foot}{i:Nat}{e:HE}{w:World}(h:Foot.le E.A A')(hd:e.ok E i w):e.ok { E with A:=A' } i w:=by
 unfold HE.ok at *;split <;> rename_i hr
 .rw[hr] at hd;obtain⟨hn,cs,hc,hl⟩:=hd;exact⟨hn,cs,hc,hl.mono h⟩
 .rw[hr] at hd;by_cases hn:E.nil i=true
  .simp only[hn,if_true] at hd ⊢;exact hd
  .simp only[hn] at hd ⊢;obtain⟨hm,cs,rest,hc,hl,hd⟩:=hd;exact⟨hm,cs,rest,hc,hl,hd.mono h⟩
theorem HE.ok_lt{E:Env}{i:Nat}{e:HE}{w:World}(hd:e.ok E i w)(hn:E.nil i=false):E.b i<w.heap.size:=by
 unfold HE.ok at hd;split at hd
 .obtain⟨_,cs,hc,_⟩:=hd;exact(zxz.1 hc).1
 .simp only[hn] at hd;obtain⟨_,cs,rest,hc,_⟩:=hd;exact(zxz.1 hc).1
section
variable {w0:Frm}{A0:Foot}{N:Nat}{Γ:Gam}{H:Hp}{E:Env}{a:Act}{w:World}
theorem Good.drew(h:Good w0 A0 N Γ H E a w):Good w0 A0 N Γ H E a w.drew:=
 ⟨h.below.then ((Below.refl _ _).drew),h.foot,h.foot0,h.defers,h.size,fun s d hs=>let ⟨ho,v,hv,hd⟩:=h.slots s d hs;⟨ho,v,hv,D.den_keep (w:=w) (kept.refl _ _) hd⟩,
  fun i e he=>⟨HE.ok_keep (w:=w) (kept.refl _ _) (fun _=>rfl) (h.boxes i e he).1,(h.boxes i e he).2⟩,h.apart,h.kn,h.gd,h.old⟩
theorem zir(a:Act)(s:Nat)(v:Value)(h:s<a.tmps.size):(a.put (some s) v).tmps[s]?=some v:=by
 simp[Act.put,h]
theorem zly(a:Act)(s t:Nat)(v:Value)(h:s≠t):(a.put (some s) v).tmps[t]?=a.tmps[t]?:=by
 simp[Act.put,Array.getElem?_setIfInBounds_ne h]
theorem zpl(a:Act)(dst:Option Nat)(v:Value):(a.put dst v).tmps.size=a.tmps.size:=by cases dst <;> simp[Act.put]
theorem zlz(a:Act)(dst:Option Nat)(v:Value):(a.put dst v).defers=a.defers:=by cases dst <;> rfl
def zb1(N:Nat):Option Nat->Bool
 |some s=>Nat.blt s N&&Nat.blt s 2000
 |none=>true
theorem Good.put(h:Good w0 A0 N Γ H E a w){dst:Option Nat}{v:Value}{d:Option D}(hd:∀x,d=some x->x.okn H/\x.den E v w)(hN:zb1 N dst=true) :
  Good w0 A0 N (zc8 Γ dst d) H E (a.put dst v) w:=by
 refine⟨h.below,h.foot,h.foot0,by rw[zlz];exact h.defers,by rw[zpl];exact h.size,?_,h.boxes,h.apart,h.kn,h.gd,h.old⟩;intro s x hs
 cases dst with
 |none=>exact h.slots s x hs
 |some t=>
  have hN':t<N/\t<2000:=by simpa[zb1] using hN
  by_cases e:t=s
  .subst e;simp only[zc8,zar] at hs;exact⟨(hd x hs).1,v,by rw[zbA (by simpa using hN'.2)];exact zir a t v (by rw[h.size];exact hN'.1),(hd x hs).2⟩
  .simp only[zc8,zaB e] at hs;obtain⟨ho,u,hu,hd'⟩:=h.slots s x hs;refine⟨ho,u,?_,hd'⟩;unfold zhk at hu ⊢;rw[zly a t s v e];exact hu
theorem Good.grow(h:Good w0 A0 N Γ H E a w){w':World}(hb:Below w.heap.size w w') :
  Good w0 A0 N Γ H { E with A:=zct E.A w w' } a w':=by
 have hk:kept E.A w w':=zcr fun k j hk=>hb.block k (h.foot k j hk);have hm:Foot.le E.A (zct E.A w w'):=zhy _ _ _;have hs0:w0.w.heap.size<=w.heap.size:=h.below.size;refine⟨h.below.then (hb.mono hs0),?_,?_,h.defers,h.size,?_,?_,h.apart,fun i e v he hp=>⟨(h.kn i e v he hp).1,(h.kn i e v he hp).2.1,fun hn j hj=>.inl ((h.kn i e v he hp).2.2 hn j hj)⟩,h.gd,h.old.keep hm.1 hk⟩
 .intro k j hk;rcases hk with hk|hk
  .exact zxj (h.foot k j hk) hb.size
  .exact hk.2
 .intro k j hk;rcases hk with hk|hk
  .exact h.foot0 k j hk
  .exact .inr (.inl (zxk hs0 hk.1))
 .intro s d hs;obtain⟨ho,v,hv,hd⟩:=h.slots s d hs;exact⟨ho,v,hv,D.den_grow hm (D.den_keep hk hd)⟩
 .intro i e he;obtain⟨h1,h2⟩:=h.boxes i e he;refine⟨HE.ok_grow hm (HE.ok_keep hk (fun hn=>hb.block _ (HE.ok_lt h1 hn)) h1),fun hn=>⟨(h2 hn).1,fun j hj hA=>?_⟩⟩;rcases hA with hA|hA
  .exact(h2 hn).2 j hj hA
  .have h3:=HE.ok_lt h1 hn;have h4:w.heap.size<=E.b i:=hA.1;omega
theorem zbF(w:World)(o:Obj):Below w.heap.size w (w.alloc o):=(Below.refl _ _).alloc (zxe _) o
theorem Good.alloc(h:Good w0 A0 N Γ H E a w){t:Nat}{ls:List Leaf}{cs:List Value}{row:Option Nat}{cap:Nat}(hc:denL E.A ls cs w)
  (hrow:∀sz,row=some sz->cap<=maxLen/\cs.length=cap*sz) :
  ∃E',Good w0 A0 N Γ (H++[some ⟨t,ls,row,none⟩]) E' a (w.alloc (.cells cs.toArray t))/\E'.b H.length=w.heap.size/\E'.cap H.length=cap/\E'.nil H.length=false/\E'.A=E.A:=by
 let E':Env:={ b:=fun i=>if i=H.length then w.heap.size else E.b i,cap:=fun i=>if i=H.length then cap else E.cap i,nil:=fun i=>if i=H.length then false else E.nil i,A:=E.A }
 have hb:=zbF w (.cells cs.toArray t);have hk:kept E.A w (w.alloc (.cells cs.toArray t)):=zcr fun k j hk=>hb.block k (h.foot k j hk);have hsz:(w.alloc (.cells cs.toArray t)).heap.size=w.heap.size+1:=by simp
 have hnew:(w.alloc (.cells cs.toArray t)).heap[w.heap.size]?=some (.cells cs.toArray t (0,0)):=heap_alloc_new w _;have hden:∀(d:D) v,d.okn H->d.den E v w->d.den E' v (w.alloc (.cells cs.toArray t)):=by
  intro d v ho hd;have hd:=D.den_keep hk hd;rcases d with x|xs|⟨i,o⟩|⟨i,n⟩
  .exact hd
  .exact hd
  .have hi:i≠H.length:=Nat.ne_of_lt (ze9 ho);simp only[D.den,E',if_neg hi] at hd ⊢;exact hd
  .have hi:i≠H.length:=Nat.ne_of_lt (ze9 ho);simp only[D.den,E',if_neg hi] at hd ⊢;exact hd
 have hoks:∀(i:Nat) (e:HE),i≠H.length->e.ok E i w->e.ok E' i (w.alloc (.cells cs.toArray t)):=by
  intro i e hi he;have he':=HE.ok_keep (w':=w.alloc (.cells cs.toArray t)) hk (fun hn=>hb.block _ (HE.ok_lt he hn)) he;simp only[HE.ok,E',if_neg hi] at he' ⊢;exact he'
 refine⟨E',⟨h.below.then (hb.mono h.below.size),?_,h.foot0,h.defers,h.size,?_,?_,?_,?_,?_,h.old.keep (fun _ _ x=>x) hk⟩,by simp[E'],by simp[E'],by simp[E'],rfl⟩
 .intro k j hk;have:=h.foot k j hk;omega
 .intro s d hs;obtain⟨ho,v,hv,hd⟩:=h.slots s d hs;exact⟨ho.mono_app,v,hv,hden d v ho hd⟩
 .intro i e he;by_cases hi:i=H.length
  .subst hi;simp at he;subst he;refine⟨?_,fun _=>⟨by simp only[E',if_true];exact h.below.size,by simp only[E',if_true];intro j _ hA;have:=h.foot _ _ hA;omega⟩⟩
   cases row with
   |none=>exact⟨by simp[E'],cs,by simpa[E'] using hnew,hc.keep hk⟩
   |some sz=>
    obtain⟨h1,h2⟩:=hrow sz rfl;simp only[HE.ok,E',if_true];exact⟨h1,cs,[],by simpa using hnew,by simpa using h2,hc.keep hk⟩
  .have hlt:i<H.length:=by
    have:=(zxc.1 he).1;simp at this;omega
   rw[zxi hlt] at he;obtain⟨h1,h2⟩:=h.boxes i e he;refine⟨hoks i e hi h1,fun hn=>?_⟩;simp only[E',if_neg hi] at hn ⊢;exact h2 hn
 .intro i j e e' he he' hn hn' hij;have old:∀(i:Nat) (e:HE),(H++[some ⟨t,ls,row,none⟩])[i]?=some (some e)->i≠H.length->H[i]?=some (some e):=by
   intro i e he hi;have hlt:i<H.length:=by
    have:=(zxc.1 he).1;simp at this;omega
   rwa [zxi hlt] at he
  by_cases hi:i=H.length
  .have hj:j≠H.length:=fun e=>hij (hi.trans e.symm);simp only[E',if_neg hj] at hn' ⊢;rw[if_pos hi];have:=HE.ok_lt (h.boxes j e' (old j e' he' hj)).1 hn';omega
  .by_cases hj:j=H.length
   .simp only[E',if_neg hi] at hn ⊢;rw[if_pos hj];have:=HE.ok_lt (h.boxes i e (old i e he hi)).1 hn;omega
   .simp only[E',if_neg hi,if_neg hj] at hn hn' ⊢;exact h.apart i j e e' (old i e he hi) (old j e' he' hj) hn hn' hij
 .intro i e v he hp;by_cases hi:i=H.length
  .subst hi;simp at he;subst he;simp at hp
  .have hlt:i<H.length:=by
    have:=(zxc.1 he).1;simp at this;omega
   rw[zxi hlt] at he;have:=h.kn i e v he hp;unfold HE.name at this ⊢;simp only[E',if_neg hi];exact this
 .intro i m v hv;obtain⟨e,k,n,h1,h2⟩:=h.gd i m v hv;exact⟨e,k,n,by rw[zxi (zxc.1 h1).1];exact h1,h2⟩
theorem Good.setRow(h:Good w0 A0 N Γ H E a w){i:Nat}{e:HE}(he:H[i]?=some (some e))(hn:E.nil i=false){ls':List Leaf}{cs' rest':List Value}{cs0:Array Value}
  (h0:w.heap[E.b i]?=some (.cells cs0 e.t (0,0))) (hl:cs0.size=(cs'++rest').length) (hbox:e.row=none->rest'=[]) (hd:denL E.A ls' cs' w) (hkn:(∀k n,e.pin≠some (.inr (k,some n)))\/ls'.length=e.ls.length)
  (hfz:∀j,j<e.fz->(cs'++rest')[j]?=cs0[j]?) :
  Good w0 A0 N Γ (H.set i (some { e with ls:=ls' })) E a (w.setRow (E.b i) (cs'++rest').toArray):=by
 obtain⟨h1,h2⟩:=h.boxes i e he;obtain⟨h3,h4⟩:=h2 hn;have hi:i<H.length:=(zxc.1 he).1;have hnew:=setRow_heap w (E.b i) cs0 (cs'++rest').toArray e.t (0,0) h0;have hk:kept E.A w (w.setRow (E.b i) (cs'++rest').toArray):=by
  intro k j hA;by_cases hkb:k=E.b i
  .subst hkb;have hj:j<e.fz:=Nat.lt_of_not_le fun hle=>h4 j hle hA;unfold World.cell?;rw[hnew,h0];have:=hfz j hj;simpa using this
  .exact World.cell?_of_block (setRow_other w _ k _ (fun e=>hkb e))
 have hfze:({ e with ls:=ls' }:HE).fz=e.fz:=rfl;refine⟨?_,?_,h.foot0,h.defers,h.size,?_,?_,?_,?_,?_,h.old.keep (fun _ _ x=>x) hk⟩
 .refine⟨h.below.os,h.below.tape,h.below.output,by rw[setRow_size];exact h.below.size,fun k hk hx=>?_,fun k cs t m hx hk=>?_,h.below.glob,h.below.apart⟩;rw[setRow_other w _ k _ (fun e'=>?_)]
  .exact h.below.block k hk hx
  .subst e'
   cases hp:e.pin with
   |none=>rw[hp] at h3;have:w0.w.heap.size<=E.b i:=h3;omega
   |some q=>
    rw[hp] at h3
    cases q with
    |inl q=>
     obtain⟨h5,h6⟩:=h3;rw[h5] at hx hk;rcases h6 with h6|h6
     .omega
     .exact hx h6
    |inr q=>
     rcases h3 with h3|h3
     .omega
     .exact hx h3
  .obtain⟨cs1,g1,g2⟩:=h.below.sizes k cs t m hx hk;by_cases hb:k=E.b i
   .subst hb;rw[h0] at g1;cases g1;exact⟨_,hnew,by rw[<-g2,hl];simp⟩
   .exact⟨cs1,by rw[setRow_other w _ k _ hb];exact g1,g2⟩
 .intro k j hk';rw[setRow_size];exact h.foot k j hk'
 .intro s d hs;obtain⟨ho,v,hv,hd⟩:=h.slots s d hs;exact⟨ho.mono_set (fun e0 h0 h1=>by rw[he] at h0;cases h0;exact h1),v,hv,D.den_keep hk hd⟩
 .intro j e' he';by_cases hj:i=j
  .subst hj;rw[zxs hi] at he';simp only[zxd] at he';subst he';refine⟨?_,fun hn=>⟨(h2 hn).1,fun j hj=>(h2 hn).2 j (by rw[hfze] at hj;exact hj)⟩⟩;unfold HE.ok at h1 ⊢
   cases hr:e.row with
   |none=>
    rw[hr] at h1;simp only[];rw[hbox hr,zxy] at hnew ⊢;exact⟨hn,cs',hnew,by rw[hbox hr,zxy] at hk;exact hd.keep hk⟩
   |some sz=>
    rw[hr] at h1;simp only[hn] at h1 ⊢;obtain⟨hm,cs1,rest1,hc1,hl1,_⟩:=h1;rw[hc1] at h0;cases h0;refine⟨hm,cs',rest',hnew,?_,hd.keep hk⟩;rw[<-hl,<-hl1];simp
  .rw[zxp hj] at he';obtain⟨g1,g2⟩:=h.boxes j e' he';refine⟨HE.ok_keep hk (fun hn'=>setRow_other w _ _ _ ?_) g1,g2⟩;exact fun hb=>h.apart i j e e' he he' hn hn' hj hb.symm
 .intro j1 j2 e1 e2 he1 he2 hn1 hn2 h12;have back:∀(j:Nat) (e1:HE),(H.set i (some { e with ls:=ls' }))[j]?=some (some e1)->∃e2,H[j]?=some (some e2):=by
   intro j e1 h1;by_cases hj:i=j
   .subst hj;exact⟨e,he⟩
   .rw[zxp hj] at h1;exact⟨e1,h1⟩
  obtain⟨e1',g1⟩:=back j1 e1 he1;obtain⟨e2',g2⟩:=back j2 e2 he2;exact h.apart j1 j2 e1' e2' g1 g2 hn1 hn2 h12
 .intro j e' v he' hp;by_cases hj:i=j
  .subst hj;rw[zxs hi] at he';simp only[zxd] at he';subst he';simp only at hp;rw[hfze];rcases hkn with h0|h0
   .obtain⟨k,hp⟩:=hp;exact absurd hp (h0 k v)
   .have:=h.kn i e v he hp;unfold HE.name at this ⊢;simp only[h0];exact this
  .rw[zxp hj] at he';exact h.kn j e' v he' hp
 .intro j m v hv;obtain⟨e1,k,n,h5,h6⟩:=h.gd j m v hv;by_cases hj:i=j
  .subst hj;rw[he] at h5;cases h5;exact⟨_,k,n,zxs hi,h6⟩
  .exact⟨e1,k,n,by rw[zxp hj];exact h5,h6⟩
end
def zbk(o:Oper):Bool:=
 match o.op with
 |.move _ | .assign _ | .pick _ _ _ | .load _ _ | .nilCheck _ | .binOp _ _ _ _ _ | .unOp _ _ _ | .convert _ _ _ | .build _ _
 |.slice _ _ _ _ _ | .fieldAddr _ _ _ | .field _ _ _ | .indexAddr _ _ _ | .index _ _ _ | .extract _ _ | .makeInterface _ _=>false
 |.call c=>match c.callee with | .builtin .len=>false | .builtin .min=>false | .builtin .max=>false|_=>true
 |_=>true
def Jq(P:Program)(ops:Array Oper)(X:List Nat)(o:Oper)(Γ:Gam)(H:Hp)(d:D):Prop:=
 ∀(w0:Frm) (A0:Foot) (N:Nat) (Γ2:Gam) (H2:Hp) (E:Env) (a:Act) (w:World),
  (∀s∈o.looksAt ops,zbm Γ2 s=zbm Γ s)->(∀i e,i ∉ X->H[i]?=some (some e)->H2[i]?=some (some e))->Good w0 A0 N Γ2 H2 E a w →
  d.okn H2/\∃v,(execOp a.eval o).run P w = .ok (.value v) w/\d.den E v w
def Je(P:Program)(ops:Array Oper)(o:Oper)(Γ:Gam)(H:Hp)(d:Option D)(H':Hp):Prop:=
 ∀(w0:Frm) (A0:Foot) (N:Nat) (Γ2:Gam) (a:Act) (w:World) (Q:Exit->Act->World->Prop) (K:Act->World->Prop),
  (∀s∈o.looksAt ops,zbm Γ2 s=zbm Γ s)->zb1 N o.dst=true->St w0 A0 N Γ2 H a w →
  (∀a' w',St w0 A0 N (zc8 Γ2 o.dst d) H' a' w'->K a' w')->o.wp P a w K Q
def JO(P:Program)(ops:Array Oper)(X:List Nat)(o:Oper)(Γ:Gam)(H:Hp)(d:Option D)(H':Hp):Prop:=
 ∀(w0:Frm) (A0:Foot) (N:Nat) (Γ2:Gam) (H2:Hp) (a:Act) (w:World) (Q:Exit->Act->World->Prop) (K:Act->World->Prop),
  (∀s∈o.looksAt ops,zbm Γ2 s=zbm Γ s)->(if zbk o then H2=H else ∀i e,i ∉ X->H[i]?=some (some e)->H2[i]?=some (some e)) →
  zb1 N o.dst=true->St w0 A0 N Γ2 H2 a w →
  (∀a' w',St w0 A0 N (zc8 Γ2 o.dst d) (if zbk o then H' else H2) a' w'->K a' w') →
  if Region.wanted o (yielded ops a.tmps) then o.wp P a w K Q else K (a.put o.dst undef) w
section
variable {P:Program}{ops:Array Oper}{X:List Nat}{o:Oper}{Γ:Gam}{H H':Hp}{d:D}{d':Option D}
theorem zfn{a:Act}{w:World}{v:Value}{K:Act->World->Prop}{Q:Exit->Act->World->Prop}(h:(execOp a.eval o).run P w = .ok (.value v) w)(hK:K (a.put o.dst v) w) :
  o.wp P a w K Q:=by
 unfold Oper.wp;rw[h];exact hK
theorem zcs{j:Nat}{want:Bool}(hg:o.guard=some (j,want)){s:Nat}(hj:(ops[j]?).bind (·.dst)=some s):s∈o.looksAt ops:=by
 unfold Oper.looksAt;rw[hg];simp[hj]
theorem zdp{w0:Frm}{A0:Foot}{N:Nat}{H2:Hp}{E:Env}{a:Act}{w:World}{Γ2:Gam}{j:Nat}{want b:Bool}(hg:o.guard=some (j,want)){s:Nat}(hj:(ops[j]?).bind (·.dst)=some s)
  (hs:zbI Γ2 s=some (D.bool b)) (hG:Good w0 A0 N Γ2 H2 E a w):Region.wanted o (yielded ops a.tmps)=(b == want):=by
 obtain⟨_,v,hv,hd⟩:=hG.tmp hs;obtain⟨rfl,_⟩:v = .bool b/\_:=hd;simp[Region.wanted,hg,yielded,hj,hv]
theorem zwO(hg:o.guard=none)(he:zbk o=false)(h:Jq P ops X o Γ H d):JO P ops X o Γ H (some d) H:=by
 intro w0 A0 N Γ2 H2 a w Q K hs hH hN hSt hK;rw[he] at hH hK;obtain⟨E,hG⟩:=hSt;obtain⟨ho,v,hv,hd⟩:=h w0 A0 N Γ2 H2 E a w hs hH hG;rw[if_pos (by simp[Region.wanted,hg])];exact zfn hv (hK _ _ ⟨E,hG.put (fun x hx=>by cases hx;exact⟨ho,hd⟩) hN⟩)
theorem zoJ{j s:Nat}{want:Bool}(hg:o.guard=some (j,want))(hj:(ops[j]?).bind (·.dst)=some s)(hl:zbI Γ s=some (D.bool want))(he:zbk o=false)
  (h:Jq P ops X o Γ H d):JO P ops X o Γ H (some d) H:=by
 intro w0 A0 N Γ2 H2 a w Q K hs hH hN hSt hK;rw[he] at hH hK;obtain⟨E,hG⟩:=hSt;obtain⟨ho,v,hv,hd⟩:=h w0 A0 N Γ2 H2 E a w hs hH hG;rw[zdp hg hj (by rw[zcK (hs s (zcs hg hj))];exact hl) hG,if_pos (by simp)];exact zfn hv (hK _ _ ⟨E,hG.put (fun x hx=>by cases hx;exact⟨ho,hd⟩) hN⟩)
theorem zki{w0:Frm}{A0:Foot}{N:Nat}{Γ2:Gam}{H2:Hp}{E:Env}{a:Act}{w:World}(hG:Good w0 A0 N Γ2 H2 E a w)(hN:zb1 N o.dst=true) :
  Good w0 A0 N (zc8 Γ2 o.dst (some (D.tup []))) H2 E (a.put o.dst undef) w:=
 hG.put (fun x hx=>by cases hx;exact⟨trivial,[],rfl,trivial⟩) hN
theorem zgX{w0:Frm}{A0:Foot}{N:Nat}{H2:Hp}{E:Env}{a:Act}{w:World}{Γ2:Gam}{j:Nat}{want:Bool}(hg:o.guard=some (j,want)){s:Nat}(hj:(ops[j]?).bind (·.dst)=some s)
  (hs:zbI Γ2 s=some (D.tup [])) (hG:Good w0 A0 N Γ2 H2 E a w):Region.wanted o (yielded ops a.tmps)=false:=by
 obtain⟨_,v,hv,vs,hd,_⟩:=hG.tmp hs;simp[Region.wanted,hg,yielded,hj,hv,hd]
def zmh(Γ:Gam)(s:Nat)(want:Bool):Prop:=zbI Γ s=some (D.bool (!want))\/zbI Γ s=some (D.tup [])
theorem zhR{j s:Nat}{want:Bool}(hg:o.guard=some (j,want))(hj:(ops[j]?).bind (·.dst)=some s)(hl:zmh Γ s want):JO P ops X o Γ H (some (D.tup [])) H:=by
 intro w0 A0 N Γ2 H2 a w Q K hs hH hN hSt hK;obtain⟨E,hG⟩:=hSt;have hw:Region.wanted o (yielded ops a.tmps)=false:=by
  rcases hl with hl|hl
  .rw[zdp hg hj (by rw[zcK (hs s (zcs hg hj))];exact hl) hG];simp
  .exact zgX hg hj (by rw[zcK (hs s (zcs hg hj))];exact hl) hG
 rw[if_neg (by rw[hw];simp)];refine hK _ _ ⟨E,?_⟩;have hHe:(if zbk o=true then H else H2)=H2:=by
  by_cases he:zbk o=true
  .rw[if_pos he] at hH ⊢;exact hH.symm
  .rw[if_neg he]
 rw[hHe];exact zki hG hN
theorem zoI{j s:Nat}{want:Bool}(hg:o.guard=some (j,want))(hj:(ops[j]?).bind (·.dst)=some s)(hl:zbI Γ s=some (D.bool (!want))):JO P ops X o Γ H (some (D.tup [])) H:=zhR hg hj (.inl hl)
theorem zqq{j s:Nat}{want:Bool}(hg:o.guard=some (j,want))(hj:(ops[j]?).bind (·.dst)=some s)(hl:zbI Γ s=some (D.tup [])):JO P ops X o Γ H (some (D.tup [])) H:=zhR hg hj (.inr hl)
theorem JO_e(hg:o.guard=none)(he:zbk o=true)(h:Je P ops o Γ H d' H'):JO P ops X o Γ H d' H':=by
 intro w0 A0 N Γ2 H2 a w Q K hs hH hN hSt hK;rw[he] at hH hK;simp only[if_true] at hH hK;subst hH;rw[if_pos (by simp[Region.wanted,hg])];exact h w0 A0 N Γ2 a w Q K hs hN hSt hK
theorem zwP{j s:Nat}{want:Bool}(hg:o.guard=some (j,want))(hj:(ops[j]?).bind (·.dst)=some s)(hl:zbI Γ s=some (D.bool want))(he:zbk o=true)
  (h:Je P ops o Γ H d' H'):JO P ops X o Γ H d' H':=by
 intro w0 A0 N Γ2 H2 a w Q K hs hH hN hSt hK;rw[he] at hH hK;simp only[if_true] at hH hK;subst hH;have hSt':=hSt;obtain⟨E,hG⟩:=hSt';rw[zdp hg hj (by rw[zcK (hs s (zcs hg hj))];exact hl) hG,if_pos (by simp)];exact h w0 A0 N Γ2 a w Q K hs hN hSt hK
end
def Tl(P:Program)(ops:Array Oper)(Q:Exit->Act->World->Prop)(w0:Frm)(A0:Foot)(N:Nat)(Γ:Gam)(H:Hp)(l:List Oper):Prop:=
 ∀a w,St w0 A0 N Γ H a w->wpList P ops Q l a w
def Tc(P:Program)(Q:Exit->Act->World->Prop)(w0:Frm)(A0:Foot)(N:Nat)(Γ:Gam)(H:Hp)(c:Code):Prop:=
 ∀a w,St w0 A0 N Γ H a w->c.wp P Q a w
section
variable {P:Program}{ops:Array Oper}{Q:Exit->Act->World->Prop}{w0:Frm}{A0:Foot}{N:Nat}{Γ:Gam}{H H':Hp}
theorem zoo{o:Oper}{rest:List Oper}{d:Option D}(h:JO P ops [] o Γ H d H')(hq:zbk o=false->H'=H)(hN:zb1 N o.dst=true)
  (hr:Tl P ops Q w0 A0 N (zc8 Γ o.dst d) H' rest):Tl P ops Q w0 A0 N Γ H (o::rest):=by
 intro a w hSt;have:=h w0 A0 N Γ H a w Q (wpList P ops Q rest) (fun _ _=>rfl) (by split <;> simp) hN hSt (fun a' w' hs=>hr a' w' (by
  by_cases he:zbk o=true
  .rwa [if_pos he] at hs
  .rw[if_neg he] at hs;rwa [hq (by simpa using he)]))
 unfold wpList;split
 .rename_i hw;rw[if_pos hw] at this;exact .inl this
 .rename_i hw;rw[if_neg hw] at this;exact this
theorem zwC(h:∀a w,St w0 A0 N Γ H a w->Q .normal a w):Tl P ops Q w0 A0 N Γ H []:=fun a w hs=>wpList_nil (h a w hs)
theorem zor{id:Nat}{l:List Oper}(h:Tl P l.toArray Q w0 A0 N Γ H l):Tc P Q w0 A0 N Γ H (.region id l.toArray false):=
 fun a w hs=>wp_region_lit (h a w hs)
theorem zrs{x y:Code}(h:Tc P (Exit.then (y.wp P Q) Q) w0 A0 N Γ H x):Tc P Q w0 A0 N Γ H (.seq x y):=fun a w hs=>wp_seq (h a w hs)
theorem ztw(h:∀a w,St w0 A0 N Γ H a w->Q .normal a w):Tc P Q w0 A0 N Γ H .skip:=fun a w hs=>wp_skip (h a w hs)
theorem ztG{id:Nat}(h:∀a w,St w0 A0 N Γ H a w->Q (.exit id) a w):Tc P Q w0 A0 N Γ H (.exit id):=fun a w hs=>wp_exit (h a w hs)
theorem zqm{id:Nat}{c:Code}(h:Tc P (Exit.inBlock id Q) w0 A0 N Γ H c):Tc P Q w0 A0 N Γ H (.block id c):=fun a w hs=>wp_block (h a w hs)
theorem zaz{s:Nat}{x y:Code}{b:Bool}(hl:zbI Γ s=some (D.bool b))(ht:b=true->Tc P Q w0 A0 N Γ H x)(hf:b=false->Tc P Q w0 A0 N Γ H y) :
  Tc P Q w0 A0 N Γ H (.cond (.tmp s) x y):=by
 intro a w hs;have hs':=hs;obtain⟨E,hG⟩:=hs';obtain⟨_,v,hv,hd⟩:=hG.tmp hl;obtain⟨rfl,_⟩:v = .bool b/\_:=hd;exact wp_cond_split (t:=b) (by simp[Act.eval,hv]) (fun h=>ht h a w hs) (fun h=>hf h a w hs)
def sub(Γ' Γ:Gam):Prop:=∀s d,zbm Γ' s=some d->zbm Γ s=some d
theorem St.weaken{a:Act}{w:World}{Γ':Gam}(h:St w0 A0 N Γ H a w)(hs:sub Γ' Γ):St w0 A0 N Γ' H a w:=
 let ⟨E,g⟩:=h
 ⟨E,g.below,g.foot,g.foot0,g.defers,g.size,fun s d h=>g.slots s d (hs s d h),g.boxes,g.apart,g.kn,g.gd,g.old⟩
def zgF(Γ:Gam):Gam->Prop
 |[]=>True
 |(s,some d)::g=>zbm Γ s=some d/\zgF Γ g
 |(_,none)::g=>zgF Γ g
theorem zcG{Γ':Gam}(h:zgF Γ Γ'):sub Γ' Γ:=by
 induction Γ' with
 |nil=>intro s d hs;simp[zbm] at hs
 |cons p g ih=>
  obtain⟨k,d⟩:=p;intro s x hs;rw[zen] at hs;cases hb:Nat.beq k s
  .rw[hb] at hs
   cases d with
   |none=>exact ih h s x hs
   |some d=>exact ih h.2 s x hs
  .rw[hb] at hs;have:=Nat.eq_of_beq_eq_true hb;subst this
   cases d with
   |none=>simp at hs
   |some d=>simp at hs;subst hs;exact h.1
theorem ztE{S:Type}{c:Code}(G:S->Gam)(HH:S->Hp)(μ:S->Nat)(I:S->Prop)(s0:S)(hI:I s0)(h0:zgF Γ (G s0))(hH:H=HH s0)
  (round:∀s,I s->Tc P (Exit.then (fun a w=>∃s',I s'/\μ s'<μ s/\St w0 A0 N (G s') (HH s') a w) Q) w0 A0 N (G s) (HH s) c):Tc P Q w0 A0 N Γ H (.loop c):=by
 intro a w hs;subst hH;have hs0:St w0 A0 N (G s0) (HH s0) a w:=hs.weaken (zcG h0);intro b k cs;have key:∀n,∀s,I s->μ s=n->∀a w,St w0 A0 N (G s) (HH s) a w →
   ∃e a' w',Q e a' w'/\Arrives P (lone (b.at a (.code c :: .inLoop c::k)) cs w) b k cs e a' w':=by
  intro n
  induction n using Nat.strongRecOn with
  |_ n ih=>
   intro s hIs hn a w hst;obtain⟨e,a₁,w₁,hq,harr⟩:=round s hIs a w hst b (.inLoop c::k) cs
   cases e with
   |normal=>
    obtain⟨s',hI',hlt,hst'⟩:=hq;obtain⟨e₂,a₂,w₂,hq₂,harr₂⟩:=ih (μ s') (hn ▸ hlt) s' hI' rfl a₁ w₁ hst';exact⟨e₂,a₂,w₂,hq₂,.of_steps (Steps.trans harr (.one step_inLoop)) harr₂⟩
   |exit id=>exact⟨_,a₁,w₁,hq,.pass (x:=.inLoop c) rfl (fun _ _=>.inl (by simp)) harr⟩
   |goto l=>exact⟨_,a₁,w₁,hq,.pass (x:=.inLoop c) rfl (fun _ _=>.inl (by simp)) harr⟩
   |ret=>exact⟨_,a₁,w₁,hq,.pass (x:=.inLoop c) rfl (fun _ _=>.inl (by simp)) harr⟩
   |panic ch=>exact⟨_,a₁,w₁,hq,.pass (x:=.inLoop c) rfl (fun _ _=>.inl (by simp)) harr⟩
   |outgrown=>exact⟨_,a₁,w₁,hq,.pass (x:=.inLoop c) rfl (fun _ _=>.inl (by simp)) harr⟩
 obtain⟨e,a',w',hq,harr⟩:=key _ s0 hI rfl a w hs0;exact⟨e,a',w',hq,.of_steps (.one step_loop) harr⟩
end
def dep(ops:Array Oper)(i j:Nat):Bool:=((ops[i]?).map fun o=>o.after.any fun e=>Region.binds .any e&&Nat.beq e.on j).getD false
def zlM(ops:Array Oper)(i:Nat):Bool:=((ops[i]?).map zbk).getD false
def zc1(ops:Array Oper)(i:Nat):Option Nat:=(ops[i]?).bind (·.dst)
def zoN(ops:Array Oper):Nat->List Nat
 |0=>[]
 |n+1=>zoN ops n++[(List.range n).foldl (fun m j=>bif dep ops n j then m ||| (1 <<< j) ||| (zoN ops n).getD j 0 else m) 0]
def zlv(ops:Array Oper)(i j:Nat):Bool:=((zoN ops (i+1)).getD i 0).testBit j
theorem zd9(ops:Array Oper)(n:Nat):(zoN ops n).length=n:=by
 induction n with
 |zero=>rfl
 |succ n ih=>simp[zoN,ih]
theorem zp6(ops:Array Oper){n i:Nat}(h:i<n):(zoN ops n).getD i 0=(zoN ops (i+1)).getD i 0:=by
 induction n with
 |zero=>omega
 |succ n ih=>
  by_cases e:i=n
  .subst e;rfl
  .have hlt:i<n:=by omega
   rw[zoN,List.getD_eq_getElem?_getD,zxi (by rw[zd9];exact hlt),<-List.getD_eq_getElem?_getD];exact ih hlt
theorem zpF{f:Nat->Bool}{g:Nat->Nat}{j:Nat}:∀(l:List Nat) (m0:Nat),(l.foldl (fun m x=>bif f x then m ||| (1 <<< x) ||| g x else m) m0).testBit j=true →
  m0.testBit j=true \/ ∃x∈l,f x=true/\(x=j\/(g x).testBit j=true):=by
 intro l
 induction l with
 |nil=>intro m0 h;exact .inl h
 |cons y ys ih=>
  intro m0 h;rw[List.foldl_cons] at h;rcases ih _ h with h1|⟨x,hx,h2⟩
  .cases hf:f y with
   |false=>rw[hf] at h1;exact .inl h1
   |true=>
    rw[hf] at h1;simp only[cond_true,Nat.testBit_or,Bool.or_eq_true] at h1;rcases h1 with (h1|h1)|h1
    .exact .inl h1
    .refine .inr ⟨y,by simp,hf,.inl ?_⟩;rw[Nat.one_shiftLeft,Nat.testBit_two_pow] at h1;simpa using h1
    .exact .inr ⟨y,by simp,hf,.inr h1⟩
  .exact .inr ⟨x,by simp[hx],h2⟩
theorem zlu{ops:Array Oper}{i j:Nat}(h:zlv ops i j=true):∃x,x<i/\dep ops i x=true/\(x=j\/zlv ops x j=true):=by
 unfold zlv at h;rw[zoN,List.getD_eq_getElem?_getD,List.getElem?_append_right (by rw[zd9];exact zxe _)] at h;rw[zd9,Nat.sub_self] at h;simp only[List.getElem?_cons_zero,Option.getD_some] at h;rcases zpF (f:=fun x=>dep ops i x) (g:=fun x=>(zoN ops i).getD x 0) _ _ h with h1|⟨x,hx,h1,h2⟩
 .simp at h1
 .have hlt:=List.mem_range.1 hx;refine⟨x,hlt,h1,?_⟩;rcases h2 with h2|h2
  .exact .inl h2
  .right;unfold zlv;rw[<-zp6 ops hlt];exact h2
theorem zip{ops:Array Oper}{S:Nat->Prop}(hS:∀i j,S i->dep ops i j=true->S j):∀(i j:Nat),zlv ops i j=true->(∀x,dep ops i x=true->S x)->S j:=by
 intro i
 induction i using Nat.strongRecOn with
 |_ i ih=>
  intro j h hi;obtain⟨x,hlt,hd,h2⟩:=zlu h;rcases h2 with rfl|h2
  .exact hi x hd
  .exact ih x hlt j h2 (fun y hy=>hS x y (hi x hd) hy)
def tch(ops:Array Oper)(tl:List (Option Nat))(k x:Nat):Bool:=
 zlM ops k&&(match tl.getD k none with
  |some y=>Nat.beq y x
  |none=>false)
def zgp(ops:Array Oper)(i j:Nat):Bool:=dep ops i j||zlv ops i j
def zce(ops:Array Oper)(tl:List (Option Nat))(x p:Nat):Bool:=
 (List.range ops.size).all fun k=>!(tch ops tl k x)||Nat.beq k p||(bif Nat.blt k p then zgp ops p k else zgp ops k p)
def zei(N:Nat)(ops:Array Oper)(tl:List (Option Nat))(X:List Nat):Bool:=
 (List.range ops.size).all fun i=>match ops[i]? with
  |none=>true
  |some o=>o.after.all (fun e=>!Region.binds .any e||Nat.blt e.on i)&&zb1 N o.dst &&
   (match tl.getD i none with
    |some x=>X.contains x&&(!(zlM ops i)||zce ops tl x i)
    |none=>true) &&
   (List.range ops.size).all (fun j=>match ops[j]? with
    |none=>true
    |some p=>(match p.dst with
     |none=>true
     |some s=>(Nat.beq i j || !(o.dst == some s))&&(!((o.looksAt ops).contains s)||((Nat.blt j i&&dep ops i j)||(Nat.blt i j&&dep ops j i)))))
def JE(P:Program)(ops:Array Oper)(t:Option Nat)(o:Oper)(Γ:Gam)(H:Hp)(d:Option D)(H':Hp):Prop:=
 ∀(w0:Frm) (A0:Foot) (N:Nat) (Γ2:Gam) (H2:Hp) (a:Act) (w:World) (Q:Exit->Act->World->Prop) (K:Act->World->Prop),
  (∀s∈o.looksAt ops,zbm Γ2 s=zbm Γ s)->(∀i,t=some i->H2[i]?=H[i]?)->zb1 N o.dst=true->St w0 A0 N Γ2 H2 a w →
  (∀a' w' H2',(∀j,t≠some j->H2'[j]?=H2[j]?)->(∀i,t=some i->H2'[i]?=H'[i]?)->St w0 A0 N (zc8 Γ2 o.dst d) H2' a' w'->K a' w') →
  if Region.wanted o (yielded ops a.tmps) then o.wp P a w K Q else K (a.put o.dst undef) w
def Drv(P:Program)(ops:Array Oper)(tl:List (Option Nat))(X:List Nat):Nat->List Oper->Gam->Hp->Gam->Hp->Prop
 |_,[],Γ,H,Γ',H'=>Γ'=Γ/\H'=H
 |n,o::os,Γ,H,Γ',H'=>∃d H1,((zbk o=false/\H1=H/\∃X',(X.all fun x=>X'.contains x||zce ops tl x n)=true/\JO P ops X' o Γ H d H) ∨
   (zbk o=true/\JE P ops (tl.getD n none) o Γ H d H1/\∀j,tl.getD n none≠some j->H1[j]?=H[j]?))/\Drv P ops tl X (n+1) os (zc8 Γ o.dst d) H1 Γ' H'
theorem Drv.fns{P:Program}{ops:Array Oper}{tl:List (Option Nat)}{X:List Nat}{n:Nat}{l:List Oper}{Γ Γ':Gam}{H H':Hp}(h:Drv P ops tl X n l Γ H Γ' H') :
  ∃(gg:Nat->Gam) (hh:Nat->Hp),gg 0=Γ/\hh 0=H/\gg l.length=Γ'/\hh l.length=H' ∧
   ∀i o,l[i]?=some o->∃d,gg (i+1)=zc8 (gg i) o.dst d/\((zbk o=false/\hh (i+1)=hh i/\∃X',(X.all fun x=>X'.contains x||zce ops tl x (n+i))=true/\JO P ops X' o (gg i) (hh i) d (hh i)) ∨
   (zbk o=true/\JE P ops (tl.getD (n+i) none) o (gg i) (hh i) d (hh (i+1))/\∀j,tl.getD (n+i) none≠some j->(hh (i+1))[j]?=(hh i)[j]?)):=by
 induction l generalizing Γ H n with
 |nil=>obtain⟨rfl,rfl⟩:=h;exact⟨fun _=>Γ',fun _=>H',rfl,rfl,rfl,rfl,fun i o h=>by simp at h⟩
 |cons o os ih=>
  obtain⟨d,H1,hJ,hr⟩:=h;obtain⟨gg,hh,h1,h2,h3,h4,h5⟩:=ih hr;refine⟨fun n=>match n with|0=>Γ|n+1=>gg n,fun n=>match n with|0=>H|n+1=>hh n,rfl,rfl,h3,h4,?_⟩;intro i o' ho
  cases i with
  |zero=>
   simp at ho;subst ho;simp only[h1,h2];exact⟨d,rfl,hJ⟩
  |succ i=>
   have:=h5 i o' (by simpa using ho)
   rwa [show n+1+i=n+(i+1) from by omega] at this
section
variable {P:Program}{ops:Array Oper}{tl:List (Option Nat)}{X:List Nat}{N:Nat}
structure OkFacts(N:Nat)(ops:Array Oper)(tl:List (Option Nat))(X:List Nat):Prop where
 back:∀(i j:Nat),dep ops i j=true->j<i
 dst:∀(i:Nat) (o:Oper),ops[i]?=some o->zb1 N o.dst=true
 distinct:∀(i j s:Nat),zc1 ops i=some s->zc1 ops j=some s->i=j
 looks:∀(i:Nat) (o:Oper) (s j:Nat),ops[i]?=some o->s∈o.looksAt ops->zc1 ops j=some s->(j<i/\dep ops i j=true)\/(i<j/\dep ops j i=true)
 names:∀(i x:Nat),i<ops.size->tl.getD i none=some x->x∈X
 chain:∀(i x:Nat),i<ops.size->tch ops tl i x=true->zce ops tl x i=true
theorem zdV{k x:Nat}:tch ops tl k x=true↔zlM ops k=true/\tl.getD k none=some x:=by
 unfold tch;rw[zxo];refine and_congr_right fun _=>?_
 cases tl.getD k none with
 |none=>simp
 |some y=>simp
theorem OkFacts.of(h:zei N ops tl X=true):OkFacts N ops tl X:=by
 unfold zei at h;rw[List.all_eq_true] at h;have key:∀(i:Nat) (o:Oper),ops[i]?=some o->(o.after.all (fun e=>!Region.binds .any e||Nat.blt e.on i)=true/\zb1 N o.dst=true/\(∀x,tl.getD i none=some x->x∈X/\(zlM ops i=true->zce ops tl x i=true)) ∧
   ∀(j:Nat) (p:Oper),ops[j]?=some p->(∀s,p.dst=some s->(i=j\/o.dst≠some s)/\(s ∉ o.looksAt ops\/((j<i/\dep ops i j=true)\/(i<j/\dep ops j i=true))))):=by
  intro i o ho;have hi:i<ops.size:=(zxz.1 ho).1;have h1:=h i (List.mem_range.2 hi);simp only[ho,zxo,List.all_eq_true] at h1;refine⟨h1.1.1.1,h1.1.1.2,?_,?_⟩
  .intro x hx;have h2:=h1.1.2;rw[hx] at h2;simp only[zxo,Bool.or_eq_true,Bool.not_eq_true',List.contains_iff_mem] at h2;refine⟨h2.1,fun he=>?_⟩;rcases h2.2 with h3|h3
   .rw[he] at h3;simp at h3
   .exact h3
  .intro j p hp;have hj:j<ops.size:=(zxz.1 hp).1;have h2:=h1.2 j (List.mem_range.2 hj);simp only[hp] at h2;intro s hs;simp only[hs,zxo,Bool.or_eq_true,Bool.not_eq_true',beq_eq_false_iff_ne,Nat.beq_eq,Nat.blt_eq,List.contains_eq_mem,decide_eq_false_iff_not] at h2;exact h2
 have at_:∀i s,zc1 ops i=some s->∃o,ops[i]?=some o/\o.dst=some s:=by
  intro i s hs;unfold zc1 at hs
  cases ho:ops[i]? with
  |none=>rw[ho] at hs;simp at hs
  |some o=>rw[ho] at hs;exact⟨o,rfl,hs⟩
 refine⟨?_,?_,?_,?_,?_,?_⟩
 .intro i j hd;unfold dep at hd
  cases ho:ops[i]? with
  |none=>rw[ho] at hd;simp at hd
  |some o=>
   rw[ho] at hd;simp only[Option.map_some,Option.getD_some,Array.any_eq_true'] at hd;obtain⟨e,he,hb⟩:=hd;have h1:=(key i o ho).1;rw[Array.all_eq_true'] at h1;have:=h1 e he;simp only[zxo,Nat.beq_eq] at hb;simp only[hb.1,Bool.not_true,Bool.false_or,Nat.blt_eq] at this;omega
 .intro i o ho;exact(key i o ho).2.1
 .intro i j s hi hj;obtain⟨o,ho,hos⟩:=at_ i s hi;obtain⟨p,hp,hps⟩:=at_ j s hj;exact((key i o ho).2.2.2 j p hp s hps).1.resolve_right (fun h=>h hos)
 .intro i o s j ho hs hj;obtain⟨p,hp,hps⟩:=at_ j s hj;exact((key i o ho).2.2.2 j p hp s hps).2.resolve_left (fun h=>h hs)
 .intro i x hi hx;exact((key i ops[i] (Array.getElem?_eq_getElem hi)).2.2.1 x hx).1
 .intro i x hi hx;obtain⟨h1,h2⟩:=zdV.1 hx;exact((key i ops[i] (Array.getElem?_eq_getElem hi)).2.2.1 x h2).2 h1
theorem zer{S:Nat->Prop}(hS:∀i j,S i->dep ops i j=true->S j){i j:Nat}(h:zgp ops i j=true)(hi:∀x,dep ops i x=true->S x):S j:=by
 unfold zgp at h;rw[Bool.or_eq_true] at h;rcases h with h|h
 .exact hi j h
 .exact zip hS i j h hi
theorem zlA{x p k:Nat}(h:zce ops tl x p=true)(hk:k<ops.size)(ht:tch ops tl k x=true)(hne:k≠p):(k<p->zgp ops p k=true)/\(p<k->zgp ops k p=true):=by
 unfold zce at h;rw[List.all_eq_true] at h;have:=h k (List.mem_range.2 hk);simp only[ht,Bool.not_true,Bool.false_or,Bool.or_eq_true,Nat.beq_eq] at this;rcases this with h|h
 .exact absurd h hne
 .refine⟨fun hlt=>?_,fun hlt=>?_⟩
  .rw[show Nat.blt k p=true from by simpa using hlt] at h;simpa using h
  .rw[show Nat.blt k p=false from by
    cases hb:Nat.blt k p
    .rfl
    .have:k<p:=by simpa using hb
     omega] at h
   simpa using h
theorem zfN{listed:Array Bool}{i:Nat}:i∈Region.ready .any ops listed↔i<ops.size/\listed.getD i true=false/\∀j,dep ops i j=true->listed.getD j false=true:=by
 unfold Region.ready;rw[List.mem_filter,List.mem_range];constructor
 .rintro⟨h1,h2⟩;simp only[zxo,Bool.not_eq_true'] at h2;refine⟨h1,h2.1,?_⟩;intro j hj;obtain⟨h2,h3⟩:=h2;unfold dep at hj;rw[Array.getElem?_eq_getElem h1] at h3 hj;simp only[Option.map_some,Option.getD_some] at h3 hj;rw[Array.any_eq_true'] at hj;rw[Array.all_eq_true'] at h3;obtain⟨e,he,hb⟩:=hj;simp only[zxo,Nat.beq_eq] at hb;have:=h3 e he;simp only[hb.1,Bool.not_true,Bool.false_or] at this;rw[<-hb.2];exact this
 .rintro⟨h1,h2,h3⟩;refine⟨h1,?_⟩;simp only[zxo,Bool.not_eq_true'];refine⟨h2,?_⟩;rw[Array.getElem?_eq_getElem h1];simp only[Option.map_some,Option.getD_some];rw[Array.all_eq_true'];intro e he;by_cases hb:Region.binds .any e=true
  .have:=h3 e.on (by
    unfold dep;rw[Array.getElem?_eq_getElem h1];simp only[Option.map_some,Option.getD_some];rw[Array.any_eq_true'];exact⟨e,he,by simp[hb]⟩)
   simp[this]
  .simp[hb]
theorem zkL(l:Array Bool)(i j:Nat)(b:Bool)(hi:i<l.size):(l.setIfInBounds i true).getD j b=if j=i then true else l.getD j b:=by
 by_cases h:j=i
 .subst h;simp[hi]
 .have h':i≠j:=fun e=>h e.symm;simp[h,Array.getElem?_setIfInBounds_ne h']
theorem ztH{Q:Exit->Act->World->Prop}{w0:Frm}{A0:Foot}{Γ Γ':Gam}{H H':Hp}{id:Nat}{l:List Oper}(hm:P.follows .mixedOrders=true)
  (hok:zei N l.toArray tl X=true) (hd:Drv P l.toArray tl X 0 l Γ H Γ' H') (hK:∀a w,St w0 A0 N Γ' H' a w->Q .normal a w) :
  Tc P Q w0 A0 N Γ H (.region id l.toArray true):=by
 intro a w hSt;have hf:=OkFacts.of hok;obtain⟨gg,hh,hg0,hh0,hgn,hhn,hstep⟩:=hd.fns;generalize hops:l.toArray=ops at *;have hsz:ops.size=l.length:=by rw[<-hops];simp
 have hat:∀i:Nat,l[i]?=ops[i]?:=by intro i;rw[<-hops];simp
 have effo:∀(i:Nat) (o:Oper),l[i]?=some o->zlM ops i=zbk o:=by
  intro i o ho;unfold zlM;rw[<-hat,ho];rfl
 have g_up:∀(s i n:Nat),i<=n->n<=l.length->(∀j,i<=j->j<n->zc1 ops j≠some s)->zbm (gg n) s=zbm (gg i) s:=by
  intro s i n hin hn hno
  induction n with
  |zero=>
       have:i=0:=by omega
       subst this;rfl
  |succ n ih=>
   by_cases hi:i=n+1
   .subst hi;rfl
   .have hlt:n<l.length:=by omega
    obtain⟨d,hgs,_⟩:=hstep n l[n] (zxa hlt);rw[hgs,<-ih (by omega) (by omega) (fun j h1 h2=>hno j h1 (by omega))];have hne:=hno n (by omega) (by omega);have hdst:zc1 ops n=l[n].dst:=by
     unfold zc1;rw[<-hat,zxa hlt];rfl
    rw[hdst] at hne
    cases hd':l[n].dst with
    |none=>rfl
    |some t=>rw[hd'] at hne;exact zaB (fun e=>hne (by rw[e])) _ _
 have h_up:∀(x i n:Nat),i<=n->n<=l.length->(∀j,i<=j->j<n->tch ops tl j x=false)->(hh n)[x]?=(hh i)[x]?:=by
  intro x i n hin hn hno
  induction n with
  |zero=>
       have:i=0:=by omega
       subst this;rfl
  |succ n ih=>
   by_cases hi:i=n+1
   .subst hi;rfl
   .have hlt:n<l.length:=by omega
    have hln:=zxa hlt;obtain⟨d,_,hcase⟩:=hstep n l[n] hln;have he:=hno n (by omega) (by omega);rw[<-ih (by omega) (by omega) (fun j h1 h2=>hno j h1 (by omega))];rcases hcase with⟨_,h1,_⟩|⟨h1,_,h2⟩
    .rw[h1]
    .refine h2 x (fun e=>?_);rw[Nat.zero_add] at e;have:tch ops tl n x=true:=zdV.2 ⟨by rw[effo n _ hln];exact h1,e⟩;rw[this] at he;simp at he
 let Nm:=fun(listed:Array Bool) (Hc:Hp) (x:Nat)=>∃n,n<=l.length/\(∀k,k<n->tch ops tl k x=true->listed.getD k true=true) ∧
  (∀k,n<=k->k<l.length->tch ops tl k x=true->listed.getD k true=false)/\Hc[x]?=(hh n)[x]?
 have main:∀(fuel:Nat) (listed:Array Bool) (U:List Nat) (a:Act) (w:World) (Hc:Hp) (Γc:Gam),
   listed.size=ops.size->U.Nodup->U.length<=fuel->(∀i,i<ops.size->(listed.getD i true=false↔i∈U)) →
   (∀i j,i<ops.size->listed.getD i true=true->dep ops i j=true->listed.getD j true=true) →
   (∀x,Nm listed Hc x) →
   (∀s j,zc1 ops j=some s->j<ops.size->listed.getD j true=true->zbm Γc s=zbm Γ' s) →
   (∀s,(∀j,j<ops.size->listed.getD j true=true->zc1 ops j≠some s)->zbm Γc s=zbm Γ s) →
   St w0 A0 N Γc Hc a w->wpAny P .any ops Q fuel listed a w:=by
  intro fuel;have fin:∀(listed:Array Bool) (a:Act) (w:World) (Hc:Hp) (Γc:Gam),(∀i,i<ops.size->listed.getD i true=true)->(∀x,Nm listed Hc x) →
    (∀s j,zc1 ops j=some s->j<ops.size->listed.getD j true=true->zbm Γc s=zbm Γ' s) →
    (∀s,(∀j,j<ops.size->listed.getD j true=true->zc1 ops j≠some s)->zbm Γc s=zbm Γ s) →
    St w0 A0 N Γc Hc a w->Q .normal a w:=by
   intro listed a w Hc Γc hall hnm hs1 hs2 hst;have e1:Hc=H':=by
    apply List.ext_getElem?;intro x;obtain⟨n,hn,_,h2,h3⟩:=hnm x;rw[h3,<-hhn];refine(h_up x n l.length hn (zxe _) (fun j h4 h5=>?_)).symm;cases he:tch ops tl j x
    .rfl
    .have:=h2 j h4 h5 he;rw[hall j (by omega)] at this;simp at this
   rw[e1] at hst;refine hK a w (hst.weaken ?_);intro s d hs;by_cases hw:∃j,j<ops.size/\zc1 ops j=some s
   .obtain⟨j,hj,hjs⟩:=hw;rw[hs1 s j hjs hj (hall j hj)];exact hs
   .have hno:∀j,j<ops.size->zc1 ops j≠some s:=fun j hj hjs=>hw ⟨j,hj,hjs⟩;rw[hs2 s (fun j hj _=>hno j hj),<-hg0];rw[<-g_up s 0 l.length (zxg _) (zxe _) (fun j _ h2=>hno j (by omega)),hgn];exact hs
  induction fuel with
  |zero=>
   intro listed U a w Hc Γc hsize hnd hU hUi hcl hnm hs1 hs2 hst;have hU0:U=[]:=List.length_eq_zero_iff.1 (by omega);have hall:∀i,i<ops.size->listed.getD i true=true:=by
    intro i hi;cases hb:listed.getD i true
    .have:=(hUi i hi).1 hb;rw[hU0] at this;simp at this
    .rfl
   refine⟨?_,fin listed a w Hc Γc hall hnm hs1 hs2 hst⟩;rw[List.eq_nil_iff_forall_not_mem];intro i hi;have:=zfN.1 hi;rw[hall i this.1] at this;simp at this
  |succ fuel ih=>
   intro listed U a w Hc Γc hsize hnd hU hUi hcl hnm hs1 hs2 hst;have gdd:∀j b,j<ops.size->listed.getD j b=listed.getD j true:=by
    intro j b hj;have:j<listed.size:=by omega
    simp[this]
   refine⟨fun hnil=>?_,fun i hi=>?_⟩
   .refine fin listed a w Hc Γc ?_ hnm hs1 hs2 hst;intro i
    induction i using Nat.strongRecOn with
    |_ i ihi=>
     intro hi;cases hb:listed.getD i true
     .exfalso;have:i∈Region.ready .any ops listed:=zfN.2 ⟨hi,hb,fun j hj=>by
       have hlt:=hf.back i j hj;rw[gdd j false (by omega)];exact ihi j hlt (by omega)⟩
      rw[hnil] at this;simp at this
     .rfl
   .obtain⟨hin,hun,hdeps⟩:=zfN.1 hi;have hdeps':∀j,dep ops i j=true->listed.getD j true=true:=fun j hj=>by
     have:=hdeps j hj
     rwa [gdd j false (Nat.lt_trans (hf.back i j hj) hin)] at this
    have hil:i<l.length:=by omega
    have hoi:ops[i]?=some ops[i]:=Array.getElem?_eq_getElem hin;have hli:l[i]?=some ops[i]:=by rw[hat];exact hoi
    have heff:=effo i _ hli;obtain⟨d,hgs,hcase⟩:=hstep i ops[i] hli;rw[Nat.zero_add] at hcase;have hS:∀i' j,(i'<ops.size/\listed.getD i' true=true)->dep ops i' j=true->(j<ops.size/\listed.getD j true=true):=
     fun i' j h1 h2=>⟨Nat.lt_trans (hf.back i' j h2) h1.1,hcl i' j h1.1 h1.2 h2⟩
    have hpin:∀x,zce ops tl x i=true->∀k,k<ops.size->tch ops tl k x=true->k≠i->(k<i->listed.getD k true=true)/\(i<k->listed.getD k true=false):=by
     intro x hp k hk ht hne;obtain⟨p1,p2⟩:=zlA hp hk ht hne;refine⟨fun hlt=>?_,fun hlt=>?_⟩
     .exact(zer (S:=fun y=>y<ops.size/\listed.getD y true=true) hS (p1 hlt) (fun y hy=>⟨Nat.lt_trans (hf.back i y hy) hin,hdeps' y hy⟩)).2
     .cases hb:listed.getD k true
      .rfl
      .have:=(zer (S:=fun y=>y<ops.size/\listed.getD y true=true) hS (p2 hlt) (fun y hy=>hS k y ⟨hk,hb⟩ hy)).2;rw[hun] at this;simp at this
    have hsame:∀x,zce ops tl x i=true->Hc[x]?=(hh i)[x]?/\(tch ops tl i x=true->∀k,i<k->k<l.length->tch ops tl k x=true->listed.getD k true=false):=by
     intro x hp;obtain⟨n,hn,h1,h2,h3⟩:=hnm x;refine⟨?_,fun _ k hk hkl ht=>(hpin x hp k (by omega) ht (by omega)).2 hk⟩;rw[h3];by_cases hni:n<=i
     .refine(h_up x n i hni (by omega) (fun j h4 h5=>?_)).symm;cases he:tch ops tl j x
      .rfl
      .have a1:=(hpin x hp j (by omega) he (by omega)).1 h5;have a2:=h2 j h4 (by omega) he;rw[a1] at a2;simp at a2
     .refine h_up x i n (by omega) hn (fun j h4 h5=>?_);cases he:tch ops tl j x
      .rfl
      .have a1:=h1 j h5 he;by_cases hji:j=i
       .subst hji;rw[hun] at a1;simp at a1
       .have a2:=(hpin x hp j (by omega) he hji).2 (by omega);rw[a1] at a2;simp at a2
    have hslots:∀s∈(ops[i]).looksAt ops,zbm Γc s=zbm (gg i) s:=by
     intro s hs;by_cases hw:∃j,j<ops.size/\zc1 ops j=some s
     .obtain⟨j,hj,hjs⟩:=hw;rcases hf.looks i ops[i] s j hoi hs hjs with⟨hlt,hdp⟩|⟨hlt,hdp⟩
      .rw[hs1 s j hjs hj (hdeps' j hdp),<-hgn];refine g_up s i l.length (by omega) (zxe _) (fun k h1 h2 hk=>?_);have:=hf.distinct k j s hk hjs;omega
      .have hunj:listed.getD j true=false:=by
        cases hb:listed.getD j true
        .rfl
        .have:=hcl j i hj hb hdp;rw[hun] at this;simp at this
       rw[hs2 s (fun k hk hkl hks=>by
        have:=hf.distinct k j s hks hjs;subst this;rw[hunj] at hkl;simp at hkl),<-hg0]
       refine(g_up s 0 i (zxg _) (by omega) (fun k _ h2 hk=>?_)).symm;have:=hf.distinct k j s hk hjs;omega
     .have hno:∀j,j<ops.size->zc1 ops j≠some s:=fun j hj hjs=>hw ⟨j,hj,hjs⟩;rw[hs2 s (fun j hj _=>hno j hj),<-hg0];exact(g_up s 0 i (zxg _) (by omega) (fun j _ h2=>hno j (by omega))).symm
    have hdst:=hf.dst i ops[i] hoi;have after:∀(a':Act) (w':World) (H2:Hp),St w0 A0 N (zc8 Γc ops[i].dst d) H2 a' w'->(∀x,Nm (listed.setIfInBounds i true) H2 x)->wpAny P .any ops Q fuel (listed.setIfInBounds i true) a' w':=by
     intro a' w' H2 hst' hnm';have hset:∀j b,(listed.setIfInBounds i true).getD j b=if j=i then true else listed.getD j b:=fun j b=>zkL listed i j b (by omega);have hUmem:i∈U:=(hUi i hin).1 hun;refine ih (listed.setIfInBounds i true) (U.erase i) a' w' H2 (zc8 Γc ops[i].dst d) (by simpa using hsize) (hnd.erase i) ?_ ?_ ?_ hnm' ?_ ?_ hst'
     .have:=List.length_erase_of_mem hUmem;omega
     .intro j hj;rw[hset,hnd.mem_erase_iff];by_cases e:j=i
      .simp[e]
      .rw[if_neg e];exact⟨fun h=>⟨e,(hUi j hj).1 h⟩,fun h=>(hUi j hj).2 h.2⟩
     .intro j k hj hjl hjk;rw[hset] at hjl ⊢;by_cases e:k=i
      .simp[e]
      .rw[if_neg e];by_cases e2:j=i
       .subst e2;exact hdeps' k hjk
       .rw[if_neg e2] at hjl;exact hcl j k hj hjl hjk
     .intro s j hjs hj hjl;rw[hset] at hjl;by_cases e:j=i
      .subst e;have hds:ops[j].dst=some s:=by unfold zc1 at hjs;rw[hoi] at hjs;exact hjs
       rw[hds] at hgs ⊢;rw[show zbm (zc8 Γc (some s) d) s=d from zar _ _ _,<-hgn];rw[g_up s (j+1) l.length (by omega) (zxe _) (fun k h1 h2 hk=>by
        have:=hf.distinct k j s hk hjs;omega),hgs]
       exact(zar _ _ _).symm
      .rw[if_neg e] at hjl;have hne:ops[i].dst≠some s:=by
        intro hds;have:zc1 ops i=some s:=by unfold zc1;rw[hoi];exact hds
        exact e (hf.distinct j i s hjs this)
       have:zbm (zc8 Γc ops[i].dst d) s=zbm Γc s:=by
        cases hd':ops[i].dst with
        |none=>rfl
        |some t=>rw[hd'] at hne;exact zaB (fun e=>hne (by rw[e])) _ _
       rw[this];exact hs1 s j hjs hj hjl
     .intro s hno;have hne:ops[i].dst≠some s:=by
       intro hds;exact hno i hin (by rw[hset];simp) (by unfold zc1;rw[hoi];exact hds)
      have:zbm (zc8 Γc ops[i].dst d) s=zbm Γc s:=by
       cases hd':ops[i].dst with
       |none=>rfl
       |some t=>rw[hd'] at hne;exact zaB (fun e=>hne (by rw[e])) _ _
      rw[this];refine hs2 s (fun j hj hjl=>hno j hj ?_);rw[hset];by_cases e:j=i
      .simp[e]
      .rw[if_neg e];exact hjl
    have hset:∀j b,(listed.setIfInBounds i true).getD j b=if j=i then true else listed.getD j b:=fun j b=>zkL listed i j b (by omega);have keep:∀x H2,tch ops tl i x=false->H2[x]?=Hc[x]?->Nm (listed.setIfInBounds i true) H2 x:=by
     intro x H2 ht hx;obtain⟨n,hn,h1,h2,h3⟩:=hnm x;refine⟨n,hn,fun k hk htk=>?_,fun k hk hkl htk=>?_,by rw[hx,h3]⟩
     .rw[hset];split
      .rfl
      .exact h1 k hk htk
     .rw[hset,if_neg (fun e=>by subst e;rw[ht] at htk;simp at htk)];exact h2 k hk hkl htk
    have hrun:if Region.wanted ops[i] (yielded ops a.tmps) then ops[i].wp P a w (wpAny P .any ops Q fuel (listed.setIfInBounds i true)) Q else wpAny P .any ops Q fuel (listed.setIfInBounds i true) (a.put ops[i].dst undef) w:=by
     rcases hcase with⟨hq,hhq,X',hX',hJ⟩|⟨he,hJ,hoth⟩
     .have hnt:∀x,tch ops tl i x=false:=by
       intro x;cases ht:tch ops tl i x
       .rfl
       .have:=(zdV.1 ht).1;rw[heff,hq] at this;simp at this
      refine hJ w0 A0 N Γc Hc a w Q _ hslots ?_ hdst hst (fun a' w' hst'=>?_)
      .rw[hq];simp only[zxw,if_false];intro x e hx hxe;have hxs:Hc[x]?=(hh i)[x]?:=by
        by_cases hxX:x∈X
        .have h1:=List.all_eq_true.1 hX' x hxX;rw[Bool.or_eq_true,List.contains_iff_mem] at h1;exact(hsame x (h1.resolve_left hx)).1
        .obtain⟨n,hn,_,_,h3⟩:=hnm x;have hno:∀j,j<l.length->tch ops tl j x=false:=by
          intro j hj;cases ht:tch ops tl j x
          .rfl
          .exact absurd (hf.names j x (by omega) (zdV.1 ht).2) hxX
         rw[h3];rcases Nat.le_total n i with h|h
         .exact(h_up x n i h (by omega) (fun j _ h2=>hno j (by omega))).symm
         .exact h_up x i n h hn (fun j _ h2=>hno j (by omega))
       rw[hxs];exact hxe
      .rw[hq] at hst';simp only[zxw,if_false] at hst';exact after a' w' Hc hst' (fun x=>keep x Hc (hnt x) rfl)
     .refine hJ w0 A0 N Γc Hc a w Q _ hslots ?_ hdst hst (fun a' w' H2 h1 h2 hst'=>?_)
      .intro x hx;exact(hsame x (hf.chain i x hin (zdV.2 ⟨by rw[heff];exact he,hx⟩))).1
      .refine after a' w' H2 hst' (fun x=>?_);cases ht:tch ops tl i x
       .refine keep x H2 ht (h1 x (fun e=>?_));have:tch ops tl i x=true:=zdV.2 ⟨by rw[heff];exact he,e⟩;rw[this] at ht;simp at ht
       .have hx:=(zdV.1 ht).2;have hp:=hf.chain i x hin ht;refine⟨i+1,by omega,fun k hk htk=>?_,fun k hk hkl htk=>?_,h2 x hx⟩
        .rw[hset];split
         .rfl
         .exact(hpin x hp k (by omega) htk (by assumption)).1 (by omega)
        .rw[hset,if_neg (by omega)];exact(hpin x hp k (by omega) htk (by omega)).2 (by omega)
    unfold wpOp;rw[hoi];simp only[];split
    .rename_i hw;rw[if_pos hw] at hrun;exact .inl hrun
    .rename_i hw;rw[if_neg hw] at hrun;exact hrun
 have hdrew:St w0 A0 N Γ H a w.drew:=let ⟨E,g⟩:=hSt;⟨E,g.drew⟩;refine wp_region_any hm ?_;refine main ops.size (Array.replicate ops.size false) (List.range ops.size) a w.drew H Γ (by simp) List.nodup_range (by simp) ?_ ?_ ?_ ?_ ?_ hdrew
 .intro i hi;simp[hi]
 .intro i j hi h;simp[hi] at h
 .intro x;refine⟨0,zxg _,fun k hk=>by omega,fun k _ hk _=>by simp[hsz,hk],by rw[hh0]⟩
 .intro s j _ hj h;simp[hj] at h
 .intro s _;rfl
end
theorem zff{A:zbG}{w w':World}(hk:kept A w w'){b o:Nat}(hb:A b o):w'.cell? ⟨b,o,none⟩=w.cell? ⟨b,o,none⟩:=
 hk b o hb
def zal(n:Nat)(ls:List Leaf):Rep where
 P A v w:=∃a cap,v = .slice a n cap/\n<=cap/\cap<=maxLen/\(a=none->n=0/\ls=[]/\cap=0) ∧
  ∀ad,a=some ad->(0<cap->ad.spot=none)/\∀i l,ls[i]?=some l->A ad.block (ad.off+i)/\∃x,w.cell? ⟨ad.block,ad.off+i,none⟩=some x/\l.den (Foot.of A) x w
 mono:=by
  rintro A A' v w hA ⟨a,cap,rfl,h1,h2,h3,h4⟩;refine⟨a,cap,rfl,h1,h2,h3,fun ad had=>⟨(h4 ad had).1,fun i l hi=>?_⟩⟩;obtain⟨g1,x,g2,g3⟩:=(h4 ad had).2 i l hi;exact⟨hA _ _ g1,x,g2,Leaf.den_mono (Foot.le.of hA) g3⟩
 keep:=by
  rintro A v w w' hk ⟨a,cap,rfl,h1,h2,h3,h4⟩;refine⟨a,cap,rfl,h1,h2,h3,fun ad had=>⟨(h4 ad had).1,fun i l hi=>?_⟩⟩;obtain⟨g1,x,g2,g3⟩:=(h4 ad had).2 i l hi;exact⟨g1,x,by rw[zff hk g1];exact g2,Leaf.den_keep hk g3⟩
 one:=by rintro A v w ⟨a,cap,rfl,_⟩;rfl
def zbf(ls:List Leaf):Rep where
 P A v w:=∃ad:Addr,v = .pointer (some ad)/\ad.spot=none/\∀i l,ls[i]?=some l->A ad.block (ad.off+i)/\∃x,w.cell? ⟨ad.block,ad.off+i,none⟩=some x/\l.den (Foot.of A) x w
 mono:=by
  rintro A A' v w hA ⟨ad,rfl,h1,h4⟩;refine⟨ad,rfl,h1,fun i l hi=>?_⟩;obtain⟨g1,x,g2,g3⟩:=h4 i l hi;exact⟨hA _ _ g1,x,g2,Leaf.den_mono (Foot.le.of hA) g3⟩
 keep:=by
  rintro A v w w' hk ⟨ad,rfl,h1,h4⟩;refine⟨ad,rfl,h1,fun i l hi=>?_⟩;obtain⟨g1,x,g2,g3⟩:=h4 i l hi;exact⟨g1,x,by rw[zff hk g1];exact g2,Leaf.den_keep hk g3⟩
 one:=by rintro A v w ⟨ad,rfl,_⟩;rfl
@[reducible] def za5(x:Nat):Leaf:=Leaf.val (.int .u32 (x:Int))
@[reducible] def zaf(l:List Nat):Leaf:=Leaf.rep (zal l.length (l.map za5))
@[reducible] def nilL:Leaf:=Leaf.rep (zal 0 [])
theorem zca(A:Foot)(w:World):nilL.den A (.slice none 0 0) w:=
 ⟨none,0,rfl,zxe _,zxg _,fun _=>⟨rfl,rfl,rfl⟩,fun ad h=>by simp at h⟩
def aggD:TypeDesc->Bool
 |.struct _ | .array _ _=>true
 |_=>false
def TyIs(P:Program)(t:Nat)(agg:Bool)(n:Nat):Prop:=(P.underlying t).map aggD=some agg/\(P.info? t).map (·.size)=some n
def zhW:Value->Leaf
 |.slice none 0 0=>nilL
 |v=>Leaf.val v
def zj4:List Value->List Leaf->Prop
 |[],[]=>True
 |v::vs,l::ls=>(l=zhW v\/l=Leaf.val v)/\zj4 vs ls
 |[],_::_=>False
 |_::_,[]=>False
theorem zgK:∀l:List Value,zj4 l (l.map zhW)
 |[]=>trivial
 |_::vs=>⟨.inl rfl,zgK vs⟩
def TyZero(P:Program)(t:Nat)(ls:List Leaf):Prop:=
 ∃z,(P.info? t).bind (·.zero)=some z/\zj4 z.cells.toList ls/\z.cells.toList.all Value.oneCell'=true
theorem TyZero.of{P:Program}{t:Nat}{ls:List Leaf}(z:Value)(h1:(P.info? t).bind (·.zero)=some z)(h2:z.cells.toList.map zhW=ls)(h3:z.cells.toList.all Value.oneCell'=true):TyZero P t ls:=
 ⟨z,h1,h2 ▸ zgK _,h3⟩
def zah(P:Program)(s f:Nat):Option (Nat×Nat):=
 match P.underlying s with
 |some (.struct fields)=>(fields[f]?).bind fun fl=>(P.info? fl.type).map fun i=>(fl.offset,i.size)
 |_=>none
section
variable {P:Program}{t n:Nat}{b:Bool}
theorem TyIs.isAgg(h:TyIs P t b n)(w:World):(isAgg t).run P w = .ok b w:=by
 obtain⟨h1,_⟩:=h
 cases hu:P.underlying t with
 |none=>rw[hu] at h1;simp at h1
 |some d=>
  rw[hu] at h1;simp only[Option.map_some,zxd] at h1;subst h1;cases d <;> simp[isAgg,run_underlying hu,aggD]
theorem TyIs.sizeOf(h:TyIs P t b n)(w:World):(Go.sizeOf t).run P w = .ok n w:=by
 obtain⟨_,h2⟩:=h
 cases hi:P.info? t with
 |none=>rw[hi] at h2;simp at h2
 |some i=>rw[hi] at h2;simp at h2;simp[Go.sizeOf,typeInfo,hi,h2]
theorem zhV{A:Foot}{w:World}{v:Value}(h:v.oneCell'=true):(zhW v).den A v w:=by
 unfold zhW;split
 .exact zca A w
 .exact⟨rfl,h⟩
theorem zfF{A:Foot}{w:World}{l:List Value}(h:l.all Value.oneCell'=true):denL A (l.map zhW) l w:=by
 induction l with
 |nil=>trivial
 |cons v vs ih=>simp at h;exact⟨zhV h.1,ih (by simpa using h.2)⟩
theorem zgL{A:Foot}{w:World}:∀{l:List Value} {ls:List Leaf},zj4 l ls->l.all Value.oneCell'=true->denL A ls l w
 |[],[],_,_=>trivial
 |v::vs,l::ls,h,h1=>by
  rw[List.all_cons,zxo] at h1;refine⟨?_,zgL h.2 h1.2⟩;rcases h.1 with e|e
  .rw[e];exact zhV h1.1
  .rw[e];exact⟨rfl,h1.1⟩
 |[],_::_,h,_=>h.elim
 |_::_,[],h,_=>h.elim
theorem TyZero.run{ls:List Leaf}(h:TyZero P t ls)(w:World)(A:Foot):∃z,(zeroValue t).run P w = .ok z w/\denL A ls z.cells.toList w:=by
 obtain⟨z,h1,h2,h3⟩:=h;refine⟨z,?_,zgL h2 h3⟩
 cases hi:P.info? t with
 |none=>rw[hi] at h1;simp at h1
 |some i=>rw[hi] at h1;simp at h1;simp[zeroValue,typeInfo,hi,h1]
end
def opD(Γ:Gam):Operand->Option D
 |.tmp t=>zbI Γ t
 |.const v=>bif v.oneCell' then some (D.val v) else none
 |.func f=>some (D.val (.func (.func f) #[] #[]))
 |.global g=>some (D.val (.pointer (some ⟨g,0,none⟩)))
section
variable {P:Program}{ops:Array Oper}{X:List Nat}{o:Oper}{Γ:Gam}{H:Hp}
theorem zss{Γ2:Gam}(hs:∀s∈o.looksAt ops,zbm Γ2 s=zbm Γ s){x:Operand}(hx:x∈o.op.operands):opD Γ2 x=opD Γ x:=by
 cases x with
 |tmp t=>exact zcK (hs t (by unfold Oper.looksAt;simp only[zxv,List.mem_filterMap];exact .inl ⟨.tmp t,by simpa using hx,rfl⟩))
 |const v=>rfl
 |func f=>rfl
 |global g=>rfl
theorem zfR{w0:Frm}{A0:Foot}{N:Nat}{H2:Hp}{E:Env}{a:Act}{w:World}{Γ2:Gam}(hG:Good w0 A0 N Γ2 H2 E a w){x:Operand}{d:D}(hd:opD Γ2 x=some d) :
  d.okn H2/\d.den E (a.eval x) w:=by
 cases x with
 |tmp t=>
  obtain⟨ho,v,hv,hd⟩:=hG.tmp (s:=t) hd;exact⟨ho,by simpa[Act.eval,hv] using hd⟩
 |const v=>
  cases hv:v.oneCell' with
  |false=>simp[opD,hv] at hd
  |true=>simp only[opD,hv,cond_true,zxd] at hd;subst hd;exact⟨trivial,rfl,hv⟩
 |func f=>simp only[opD,zxd] at hd;subst hd;exact⟨trivial,rfl,rfl⟩
 |global g=>simp only[opD,zxd] at hd;subst hd;exact⟨trivial,rfl,rfl⟩
theorem za1{w0:Frm}{A0:Foot}{N:Nat}{H2:Hp}{E:Env}{a:Act}{w:World}{Γ2:Gam}(hs:∀s∈o.looksAt ops,zbm Γ2 s=zbm Γ s)
  (hG:Good w0 A0 N Γ2 H2 E a w) {x:Operand} (hx:x∈o.op.operands) {d:D} (hd:opD Γ x=some d):d.okn H2/\d.den E (a.eval x) w:=
 zfR hG (by rw[zss hs hx];exact hd)
theorem za3{w0:Frm}{A0:Foot}{N:Nat}{H2:Hp}{E:Env}{a:Act}{w:World}{Γ2:Gam}(hs:∀s∈o.looksAt ops,zbm Γ2 s=zbm Γ s)
  (hG:Good w0 A0 N Γ2 H2 E a w) {x:Operand} (hx:x∈o.op.operands) {v:Value} (hd:opD Γ x=some (D.val v)):a.eval x=v:=
 (za1 hs hG hx hd).2.1
theorem zou{x:Operand}{d:D}(ho:o.op = .move x)(hx:opD Γ x=some d):Jq P ops X o Γ H d:=by
 intro w0 A0 N Γ2 H2 E a w hs hX hG;obtain⟨h1,h2⟩:=za1 hs hG (x:=x) (by rw[ho];simp[Op.operands]) hx;exact⟨h1,_,by simp[execOp,ho],h2⟩
theorem zex{x:Operand}{d:D}(ho:o.op = .assign x)(hx:opD Γ x=some d):Jq P ops X o Γ H d:=by
 intro w0 A0 N Γ2 H2 E a w hs hX hG;obtain⟨h1,h2⟩:=za1 hs hG (x:=x) (by rw[ho];simp[Op.operands]) hx;exact⟨h1,_,by simp[execOp,ho],h2⟩
theorem zhP(ho:o.op = .assign (.const (.slice none 0 0))):Jq P ops X o Γ H (D.v (V.one nilL)):=by
 intro w0 A0 N Γ2 H2 E a w hs hX hG;exact⟨trivial,.slice none 0 0,by simp[execOp,ho,Act.eval],zca E.A w⟩
theorem zjW(ho:o.op = .move (.const (.slice none 0 0))):Jq P ops X o Γ H (D.v (V.one nilL)):=by
 intro w0 A0 N Γ2 H2 E a w hs hX hG;exact⟨trivial,.slice none 0 0,by simp[execOp,ho,Act.eval],zca E.A w⟩
theorem zos{c x y:Operand}{d:D}(ho:o.op = .pick c x y)(hc:opD Γ c=some (D.bool true))(hx:opD Γ x=some d):Jq P ops X o Γ H d:=by
 intro w0 A0 N Γ2 H2 E a w hs hX hG;have h0:=za3 hs hG (x:=c) (by rw[ho];simp[Op.operands]) hc;obtain⟨h1,h2⟩:=za1 hs hG (x:=x) (by rw[ho];simp[Op.operands]) hx;exact⟨h1,_,by simp[execOp,ho,h0,asBool],h2⟩
theorem zot{c x y:Operand}{d:D}(ho:o.op = .pick c x y)(hc:opD Γ c=some (D.bool false))(hx:opD Γ y=some d):Jq P ops X o Γ H d:=by
 intro w0 A0 N Γ2 H2 E a w hs hX hG;have h0:=za3 hs hG (x:=c) (by rw[ho];simp[Op.operands]) hc;obtain⟨h1,h2⟩:=za1 hs hG (x:=y) (by rw[ho];simp[Op.operands]) hx;exact⟨h1,_,by simp[execOp,ho,h0,asBool],h2⟩
theorem HE.box{E:Env}{i:Nat}{e:HE}{w:World}(h:e.ok E i w)(hr:e.row=none):E.nil i=false/\∃cs:List Value,w.heap[E.b i]?=some (.cells cs.toArray e.t (0,0))/\denL E.A e.ls cs w:=by
 unfold HE.ok at h;rw[hr] at h;exact h
theorem HE.block{E:Env}{i:Nat}{e:HE}{w:World}(h:e.ok E i w)(hn:E.nil i=false) :
  ∃cs rest:List Value,w.heap[E.b i]?=some (.cells (cs++rest).toArray e.t (0,0))/\denL E.A e.ls cs w/\(e.row=none->rest=[]):=by
 unfold HE.ok at h
 cases hr:e.row with
 |none=>rw[hr] at h;obtain⟨_,cs,h1,h2⟩:=h;exact⟨cs,[],by simpa using h1,h2,fun _=>rfl⟩
 |some sz=>rw[hr] at h;simp only[hn] at h;obtain⟨_,cs,rest,h1,_,h2⟩:=h;exact⟨cs,rest,h1,h2,fun h=>by simp at h⟩
theorem zgZ{w:World}{b o t:Nat}{cs:List Value}(hc:w.heap[b]?=some (.cells cs.toArray t (0,0)))(n:Nat)(hn:o+n<=cs.length) :
  (loadCells ⟨b,o,none⟩ n).run P w = .ok ((cs.drop o).take n).toArray w:=by
 have:=run_loadCells_list (P:=P) w ⟨b,o,none⟩ ((cs.drop o).take n) (fun j v hv=>by
  rw[Addr.add_lit];rw[List.getElem?_take] at hv;split at hv
  .rw[List.getElem?_drop] at hv;simp[World.cell?,hc,hv]
  .simp at hv)
 rwa [zxr,zxA,Nat.min_eq_left (by omega)] at this
theorem zbW{w:World}{b o t:Nat}{cs:List Value}{v:Value}(hc:w.heap[b]?=some (.cells cs.toArray t (0,0)))(hv:cs[o]?=some v):w.cell? ⟨b,o,none⟩=some v:=by
 simp[World.cell?,hc,hv]
theorem HE.not_nil{E:Env}{i:Nat}{e:HE}{w:World}(h:e.ok E i w)(hl:0<e.ls.length):E.nil i=false:=by
 unfold HE.ok at h
 cases hr:e.row with
 |none=>rw[hr] at h;exact h.1
 |some sz=>
  rw[hr] at h;cases hn:E.nil i
  .rfl
  .simp only[hn,if_true] at h;rw[h.1] at hl;simp at hl
theorem zbe{x:Operand}{t i off n:Nat}{e:HE}(ho:o.op = .load t x)(hx:opD Γ x=some (D.ptr i off))(hi:H[i]?=some (some e))(hXi:i ∉ X)(ht:TyIs P t true n)
  (hn0:0<n) (hn:off+n<=e.ls.length) {ls:List Leaf} (hls:(e.ls.drop off).take n=ls):Jq P ops X o Γ H (D.agg ls):=by
 intro w0 A0 N Γ2 H2 E a w hs hX hG;obtain⟨h1,h2⟩:=za1 hs hG (x:=x) (by rw[ho];simp[Op.operands]) hx;have h2:a.eval x = .pointer (some ⟨E.b i,off,none⟩):=h2;obtain⟨g1,g2⟩:=hG.boxes i e (hX i e hXi hi);refine⟨trivial,?_⟩;obtain⟨cs,rest,hc,hd,_⟩:=HE.block g1 (HE.not_nil g1 (by omega));have hlen:=hd.length;refine⟨.agg ((cs.drop off).take n).toArray,?_,_,rfl,hls ▸ (hd.drop off).take n⟩;have hl:=zgZ (P:=P) hc n (by simp;omega) (o:=off);have hcs:(((cs++rest).drop off).take n)=((cs.drop off).take n):=by
  rw[List.drop_append_of_le_length (by omega),List.take_append_of_le_length (by simp;omega)]
 rw[hcs] at hl;simp[execOp,ho,h2,Instr.loadAt,Instr.sureAddr,loadVar,ht.isAgg,ht.sizeOf,hl]
theorem zbZ{x:Operand}{t i off:Nat}{e:HE}(ho:o.op = .load t x)(hx:opD Γ x=some (D.ptr i off))(hi:H[i]?=some (some e))(hXi:i ∉ X)(ht:TyIs P t false 1)
  {l:Leaf} (hls:e.ls[off]?=some l):Jq P ops X o Γ H (D.v (V.one l)):=by
 intro w0 A0 N Γ2 H2 E a w hs hX hG;obtain⟨h1,h2⟩:=za1 hs hG (x:=x) (by rw[ho];simp[Op.operands]) hx;have h2:a.eval x = .pointer (some ⟨E.b i,off,none⟩):=h2;obtain⟨g1,g2⟩:=hG.boxes i e (hX i e hXi hi);refine⟨trivial,?_⟩;have hlt:=(zxc.1 hls).1;obtain⟨cs,rest,hc,hd,_⟩:=HE.block g1 (HE.not_nil g1 (by omega));obtain⟨v,hv,hvd⟩:=hd.get hls;have hl:w.cell? ⟨E.b i,off,none⟩=some v:=zbW hc (by rw[zxi (by have:=hd.length;omega)];exact hv);exact⟨v,by simp[execOp,ho,h2,Instr.loadAt,Instr.sureAddr,loadVar,ht.isAgg,load,Sem.run,hl],hvd⟩
theorem zfZ(A:Foot):Foot.le (Foot.of A.c) A:=Foot.le.pure fun _ _ h=>h
theorem zgw{x:Operand}{t n:Nat}{ls:List Leaf}(ho:o.op = .load t x)(hx:opD Γ x=some (D.rep (zbf ls)))(ht:TyIs P t true n)(hn:n=ls.length) :
  Jq P ops X o Γ H (D.agg ls):=by
 intro w0 A0 N Γ2 H2 E a w hs hX hG;obtain⟨h1,ad,h2,h3,h4⟩:=za1 hs hG (x:=x) (by rw[ho];simp[Op.operands]) hx;refine⟨trivial,?_⟩;obtain⟨b,off,sp⟩:=ad;simp only at h3 h4;subst h3;have hex:∀(ls:List Leaf) (off:Nat),(∀(i:Nat) (l:Leaf),ls[i]?=some l->E.A b (off+i)/\∃x,w.cell? ⟨b,off+i,none⟩=some x/\l.den (Foot.of E.A.c) x w) →
   ∃cs:List Value,denL (Foot.of E.A.c) ls cs w/\∀j v,cs[j]?=some v->w.cell? ⟨b,off+j,none⟩=some v:=by
  intro ls
  induction ls with
  |nil=>intro off _;exact⟨[],trivial,fun j v h=>by simp at h⟩
  |cons l ls ih=>
   intro off h;obtain⟨_,x,hx,hd⟩:=h 0 l rfl;obtain⟨cs,hcs,hcc⟩:=ih (off+1) (fun i l hi=>by
    have:=h (i+1) l (by simpa using hi)
    rwa [show off+(i+1)=off+1+i from by omega] at this)
   refine⟨x::cs,⟨hd,hcs⟩,fun j v hj=>?_⟩
   cases j with
   |zero=>simp at hj;subst hj;exact hx
   |succ j=>have:=hcc j v (by simpa using hj);rwa [show off+(j+1)=off+1+j from by omega]
 obtain⟨cs,hd,hcc⟩:=hex ls off h4;have hl:=run_loadCells_list (P:=P) w ⟨b,off,none⟩ cs (fun j v hj=>by rw[Addr.add_lit];exact hcc j v hj);rw[hd.length] at hl;subst hn;exact⟨.agg cs.toArray,by simp[execOp,ho,h2,Instr.loadAt,Instr.sureAddr,loadVar,ht.isAgg,ht.sizeOf,hl],cs,rfl,hd.mono (zfZ _)⟩
theorem zjX{x:Operand}{t:Nat}{l:Leaf}{ls:List Leaf}(ho:o.op = .load t x)(hx:opD Γ x=some (D.rep (zbf (l::ls))))(ht:TyIs P t false 1) :
  Jq P ops X o Γ H (D.v (V.one l)):=by
 intro w0 A0 N Γ2 H2 E a w hs hX hG;obtain⟨h1,ad,h2,h3,h4⟩:=za1 hs hG (x:=x) (by rw[ho];simp[Op.operands]) hx;obtain⟨b,off,sp⟩:=ad;simp only at h3 h4;subst h3;obtain⟨_,v,hv,hd⟩:=h4 0 l rfl;rw[Nat.add_zero] at hv;exact⟨trivial,v,by simp[execOp,ho,h2,Instr.loadAt,Instr.sureAddr,loadVar,ht.isAgg,load,Sem.run,hv],Leaf.den_mono (zfZ _) hd⟩
theorem zdC{s f fo sz:Nat}(hf:zah P s f=some (fo,sz)):∃fields fl,P.underlying s=some (.struct fields)/\fields[f]?=some fl/\fl.offset=fo/\∃i,P.info? fl.type=some i/\i.size=sz:=by
 unfold zah at hf
 cases hu:P.underlying s with
 |none=>rw[hu] at hf;simp at hf
 |some d=>
  rw[hu] at hf;cases d <;> simp only[reduceCtorEq] at hf;rename_i fields
  cases hfl:fields[f]? with
  |none=>rw[hfl] at hf;simp at hf
  |some fl=>
   rw[hfl] at hf
   cases hi:P.info? fl.type with
   |none=>simp[hi] at hf
   |some i=>simp[hi] at hf;exact⟨fields,fl,rfl,hfl,hf.1,i,hi,hf.2⟩
theorem zja{x:Operand}{s f i off fo sz:Nat}(ho:o.op = .fieldAddr s x f)(hx:opD Γ x=some (D.ptr i off))(hf:zah P s f=some (fo,sz))(hsz:Nat.beq sz 0=false) :
  Jq P ops X o Γ H (D.ptr i (off+fo)):=by
 intro w0 A0 N Γ2 H2 E a w hs hX hG;obtain⟨h1,h2⟩:=za1 hs hG (x:=x) (by rw[ho];simp[Op.operands]) hx;have h2:a.eval x = .pointer (some ⟨E.b i,off,none⟩):=h2;obtain⟨fields,fl,hu,hfl,rfl,inf,hi,rfl⟩:=zdC hf;have hsz':inf.size≠0:=fun e=>by rw[e] at hsz;simp at hsz
 refine⟨h1,_,?_,rfl⟩;simp[execOp,ho,h2,Instr.fieldAt,Instr.sureAddr,run_underlying hu,hfl,fieldPlace,Go.sizeOf,typeInfo,hi,hsz',Addr.add_lit]
theorem zdn{x:Operand}{s f fo sz:Nat}{ls:List Leaf}(ho:o.op = .fieldAddr s x f)(hx:opD Γ x=some (D.rep (zbf ls)))(hf:zah P s f=some (fo,sz))(hsz:Nat.beq sz 0=false) :
  Jq P ops X o Γ H (D.rep (zbf (ls.drop fo))):=by
 intro w0 A0 N Γ2 H2 E a w hs hX hG;obtain⟨h1,ad,h2,h3,h4⟩:=za1 hs hG (x:=x) (by rw[ho];simp[Op.operands]) hx;obtain⟨b,off,sp⟩:=ad;simp only at h3 h4;subst h3;obtain⟨fields,fl,hu,hfl,rfl,inf,hi,rfl⟩:=zdC hf;have hsz':inf.size≠0:=fun e=>by rw[e] at hsz;simp at hsz
 refine⟨trivial,.pointer (some ⟨b,off+fl.offset,none⟩),?_,⟨b,off+fl.offset,none⟩,rfl,rfl,fun i l hil=>?_⟩
 .simp[execOp,ho,h2,Instr.fieldAt,Instr.sureAddr,run_underlying hu,hfl,fieldPlace,Go.sizeOf,typeInfo,hi,hsz',Addr.add_lit]
 .rw[List.getElem?_drop] at hil;have:=h4 _ l hil
  rwa [show off+(fl.offset+i)=off+fl.offset+i from by omega] at this
theorem zi9{x:Operand}{s f fo sz:Nat}{ls ls':List Leaf}(ho:o.op = .field s x f)(hx:opD Γ x=some (D.agg ls)){fields:Array Field}{fl:Field}(hu:P.underlying s=some (.struct fields))
  (hfl:fields[f]?=some fl) (hfo:fl.offset=fo) (ht:TyIs P fl.type true sz) (hls:(ls.drop fo).take sz=ls'):Jq P ops X o Γ H (D.agg ls'):=by
 intro w0 A0 N Γ2 H2 E a w hs hX hG;obtain⟨h1,cs,h2,h3⟩:=za1 hs hG (x:=x) (by rw[ho];simp[Op.operands]) hx;refine⟨trivial,.agg ((cs.drop fo).take sz).toArray,?_,_,rfl,hls ▸ (h3.drop fo).take sz⟩;simp[execOp,ho,h2,Instr.field,run_underlying hu,hfl,asAgg,part,ht.isAgg,ht.sizeOf,hfo]
theorem zqn{x:Operand}{s f fo:Nat}{ls:List Leaf}{l:Leaf}(ho:o.op = .field s x f)(hx:opD Γ x=some (D.agg ls)){fields:Array Field}{fl:Field}(hu:P.underlying s=some (.struct fields))
  (hfl:fields[f]?=some fl) (hfo:fl.offset=fo) (ht:TyIs P fl.type false 1) (hls:ls[fo]?=some l):Jq P ops X o Γ H (D.v (V.one l)):=by
 intro w0 A0 N Γ2 H2 E a w hs hX hG;obtain⟨h1,cs,h2,h3⟩:=za1 hs hG (x:=x) (by rw[ho];simp[Op.operands]) hx;obtain⟨v,hv,hd⟩:=h3.get hls;refine⟨trivial,v,?_,hd⟩;simp[execOp,ho,h2,Instr.field,run_underlying hu,hfl,asAgg,part,ht.isAgg,hfo,hv]
theorem zl1{x:Operand}{i:Nat}{xs:List V}{y:V}(ho:o.op = .extract x i)(hx:opD Γ x=some (D.tup xs))(hy:xs[i]?=some y):Jq P ops X o Γ H (D.v y):=by
 intro w0 A0 N Γ2 H2 E a w hs hX hG;obtain⟨h1,vs,h2,h3⟩:=za1 hs hG (x:=x) (by rw[ho];simp[Op.operands]) hx;obtain⟨v,hv,hd⟩:=h3.get hy;exact⟨trivial,v,by simp[execOp,ho,h2,Instr.extract,hv],hd⟩
theorem zcd{op:BinOp}{t u:Nat}{x y:Operand}{p q r:Value}(ho:o.op = .binOp op t x y u)(hx:opD Γ x=some (D.val p))(hy:opD Γ y=some (D.val q))
  (hg:∀w,(eqGuard op t x y p q).run P w = .ok () w) (hr:∀w,(binOp op t p q).run P w = .ok r w) (h1:r.oneCell'=true):Jq P ops X o Γ H (D.val r):=by
 intro w0 A0 N Γ2 H2 E a w hs hX hG;have e1:=za3 hs hG (x:=x) (by rw[ho];simp[Op.operands]) hx;have e2:=za3 hs hG (x:=y) (by rw[ho];simp[Op.operands]) hy;exact⟨trivial,r,by simp[execOp,ho,e1,e2,hg,hr],rfl,h1⟩
section
variable {t u:Nat}{x y:Operand}{k:IntKind}{m n r:Int}
theorem zbn{op:BinOp}(w:World):(eqGuard op t x y (.int k m) (.int k n)).run P w = .ok () w:=by
 cases op <;> simp[eqGuard]
theorem zbj(ho:o.op = .binOp .add t x y u)(hx:opD Γ x=some (D.val (.int k m)))(hy:opD Γ y=some (D.val (.int k n)))(hr:k.wrap (m+n)=r):Jq P ops X o Γ H (D.val (.int k r)):=
 zcd ho hx hy zbn (fun w=>by simp[binOp,Op.intArith,hr]) rfl
theorem zaI(ho:o.op = .binOp .sub t x y u)(hx:opD Γ x=some (D.val (.int k m)))(hy:opD Γ y=some (D.val (.int k n)))(hr:k.wrap (m-n)=r):Jq P ops X o Γ H (D.val (.int k r)):=
 zcd ho hx hy zbn (fun w=>by simp[binOp,Op.intArith,hr]) rfl
theorem zew(ho:o.op = .binOp .mul t x y u)(hx:opD Γ x=some (D.val (.int k m)))(hy:opD Γ y=some (D.val (.int k n)))(hr:k.wrap (m*n)=r):Jq P ops X o Γ H (D.val (.int k r)):=
 zcd ho hx hy zbn (fun w=>by simp[binOp,Op.intArith,hr]) rfl
theorem zc6(ho:o.op = .binOp .quo t x y u)(hx:opD Γ x=some (D.val (.int k m)))(hy:opD Γ y=some (D.val (.int k n)))(hn:n≠0)(hr:k.wrap (m.tdiv n)=r):Jq P ops X o Γ H (D.val (.int k r)):=
 zcd ho hx hy zbn (fun w=>by simp[binOp,Op.intDiv,hn,hr]) rfl
theorem zcA(ho:o.op = .binOp .rem t x y u)(hx:opD Γ x=some (D.val (.int k m)))(hy:opD Γ y=some (D.val (.int k n)))(hn:n≠0)(hr:m.tmod n=r):Jq P ops X o Γ H (D.val (.int k r)):=
 zcd ho hx hy zbn (fun w=>by simp[binOp,Op.intDiv,hn,hr]) rfl
theorem zov(ho:o.op = .binOp .lss t x y u)(hx:opD Γ x=some (D.val (.int k m)))(hy:opD Γ y=some (D.val (.int k n))){b:Bool}(hr:decide (m<n)=b):Jq P ops X o Γ H (D.bool b):=
 zcd ho hx hy zbn (fun w=>by simp[binOp,Op.intCmp,hr]) rfl
theorem zow(ho:o.op = .binOp .leq t x y u)(hx:opD Γ x=some (D.val (.int k m)))(hy:opD Γ y=some (D.val (.int k n))){b:Bool}(hr:decide (m<=n)=b):Jq P ops X o Γ H (D.bool b):=
 zcd ho hx hy zbn (fun w=>by simp[binOp,Op.intCmp,hr]) rfl
theorem zoB(ho:o.op = .binOp .gtr t x y u)(hx:opD Γ x=some (D.val (.int k m)))(hy:opD Γ y=some (D.val (.int k n))){b:Bool}(hr:decide (n<m)=b):Jq P ops X o Γ H (D.bool b):=
 zcd ho hx hy zbn (fun w=>by simp[binOp,Op.intCmp,hr]) rfl
theorem zoC(ho:o.op = .binOp .geq t x y u)(hx:opD Γ x=some (D.val (.int k m)))(hy:opD Γ y=some (D.val (.int k n))){b:Bool}(hr:decide (n<=m)=b):Jq P ops X o Γ H (D.bool b):=
 zcd ho hx hy zbn (fun w=>by simp[binOp,Op.intCmp,hr]) rfl
theorem zoF(ho:o.op = .binOp .eql t x y u)(hx:opD Γ x=some (D.val (.int k m)))(hy:opD Γ y=some (D.val (.int k n))){b:Bool}(hr:(m == n)=b):Jq P ops X o Γ H (D.bool b):=
 zcd ho hx hy zbn (fun w=>by simp[binOp,Op.intCmp,hr]) rfl
theorem zdG(ho:o.op = .binOp .neq t x y u)(hx:opD Γ x=some (D.val (.int k m)))(hy:opD Γ y=some (D.val (.int k n))){b:Bool}(hr:(m != n)=b):Jq P ops X o Γ H (D.bool b):=
 zcd ho hx hy zbn (fun w=>by simp[binOp,Op.intCmp,hr]) rfl
theorem zdF{k':IntKind}(ho:o.op = .binOp .shl t x y u)(hx:opD Γ x=some (D.val (.int k m)))(hy:opD Γ y=some (D.val (.int k' n)))(hn:0<=n)(hr:k.wrap (m*2^(min n.toNat k.bits))=r) :
  Jq P ops X o Γ H (D.val (.int k r)):=
 zcd ho hx hy (fun w=>by simp[eqGuard]) (fun w=>by simp[binOp,Op.shift,Int.not_lt.2 hn,hr]) rfl
theorem zbi{k':IntKind}(ho:o.op = .binOp .shr t x y u)(hx:opD Γ x=some (D.val (.int k m)))(hy:opD Γ y=some (D.val (.int k' n)))(hn:0<=n)(hr:m.fdiv (2^(min n.toNat k.bits))=r) :
  Jq P ops X o Γ H (D.val (.int k r)):=
 zcd ho hx hy (fun w=>by simp[eqGuard]) (fun w=>by simp[binOp,Op.shift,Int.not_lt.2 hn,hr]) rfl
theorem zgv(ho:o.op = .binOp .or t x y u)(hx:opD Γ x=some (D.val (.int k m)))(hy:opD Γ y=some (D.val (.int k n)))(hr:k.wrap ((BitVec.ofInt k.bits m ||| BitVec.ofInt k.bits n).toNat)=r) :
  Jq P ops X o Γ H (D.val (.int k r)):=
 zcd ho hx hy zbn (fun w=>by simp[binOp,Op.intBits,<-hr]) rfl
theorem zlc(ho:o.op = .binOp .and t x y u)(hx:opD Γ x=some (D.val (.int k m)))(hy:opD Γ y=some (D.val (.int k n)))(hr:k.wrap ((BitVec.ofInt k.bits m &&& BitVec.ofInt k.bits n).toNat)=r) :
  Jq P ops X o Γ H (D.val (.int k r)):=
 zcd ho hx hy zbn (fun w=>by simp[binOp,Op.intBits,<-hr]) rfl
theorem zhb(ho:o.op = .unOp .neg t x)(hx:opD Γ x=some (D.val (.int k m)))(hr:k.wrap (0-m)=r):Jq P ops X o Γ H (D.val (.int k r)):=by
 intro w0 A0 N Γ2 H2 E a w hs hX hG;have e1:=za3 hs hG (x:=x) (by rw[ho];simp[Op.operands]) hx;exact⟨trivial,_,by simp only[execOp,ho,e1,Op.unary,Op.intArith,hr];rfl,rfl,rfl⟩
theorem zl3{src dst:Nat}{k':IntKind}(ho:o.op = .convert src dst x)(hx:opD Γ x=some (D.val (.int k m)))(hd:P.underlying dst=some (.int k'))(hs':(P.underlying src).isSome=true)(hr:k'.wrap m=r) :
  Jq P ops X o Γ H (D.val (.int k' r)):=by
 intro w0 A0 N Γ2 H2 E a w hs hX hG;have e1:=za3 hs hG (x:=x) (by rw[ho];simp[Op.operands]) hx;obtain⟨ds,hds⟩:=Option.isSome_iff_exists.1 hs';refine⟨trivial,.int k' r,?_,rfl,rfl⟩;simp[execOp,ho,e1,convert,run_underlying hd,run_underlying hds,Conv.intToInt,hr]
end
theorem zwJ{t:Nat}{x:Operand}{b c:Bool}(ho:o.op = .unOp .not t x)(hx:opD Γ x=some (D.bool b))(hr:(!b)=c):Jq P ops X o Γ H (D.bool c):=by
 intro w0 A0 N Γ2 H2 E a w hs hX hG;have e1:=za3 hs hG (x:=x) (by rw[ho];simp[Op.operands]) hx;exact⟨trivial,.bool c,by simp[execOp,ho,e1,Op.unary,hr],rfl,rfl⟩
theorem zdk(w:World)(d:Nat){t:TypeId}(b c:Bool)(ht:P.underlying t=some .bool):(Op.equalIn (d+1) t (.bool b) (.bool c)).run P w = .ok (b == c) w:=by
 simp[Op.equalIn,run_underlying ht]
theorem zaF{t u:Nat}{x y:Operand}{b c d:Bool}(ho:o.op = .binOp .eql t x y u)(hx:opD Γ x=some (D.bool b))(hy:opD Γ y=some (D.bool c))(ht:P.underlying t=some .bool)(hr:(b == c)=d) :
  Jq P ops X o Γ H (D.bool d):=
 zcd ho hx hy (fun w=>by simp[eqGuard]) (fun w=>by
  simp only[binOp];simp[Op.equal,Op.maxDepth,zdk w 9999 b c ht,hr]) rfl
theorem zbP{t u:Nat}{x y:Operand}{b c d:Bool}(ho:o.op = .binOp .neq t x y u)(hx:opD Γ x=some (D.bool b))(hy:opD Γ y=some (D.bool c))(ht:P.underlying t=some .bool)(hr:(b != c)=d) :
  Jq P ops X o Γ H (D.bool d):=
 zcd ho hx hy (fun w=>by simp[eqGuard]) (fun w=>by
  simp only[binOp];subst hr;simp[Op.equal,Op.maxDepth,zdk w 9999 b c ht,bne]) rfl
end
def splice{α:Type}(l:List α)(off:Nat)(xs:List α):List α:=l.take off++xs++l.drop (off+xs.length)
theorem zef{α:Type}(l:List α)(off:Nat)(xs:List α)(h:off+xs.length<=l.length):(splice l off xs).length=l.length:=by
 simp[splice];omega
theorem denL.splice{A:Foot}{ls xs:List Leaf}{vs us:List Value}{w:World}(h:denL A ls vs w)(off:Nat)(hx:denL A xs us w):denL A (splice ls off xs) (splice vs off us) w:=by
 unfold Rc.splice;rw[hx.length];exact((h.take off).append hx).append (h.drop _)
theorem ziH(off:Nat)(xs:List Value):∀(k:Nat) (cells:Array Value),off+k+xs.length<=cells.size →
  (xs.zipIdx k).foldl (fun cs (p:Value×Nat)=>cs.setIfInBounds (off+p.2) p.1) cells=(splice cells.toList (off+k) xs).toArray:=by
 induction xs with
 |nil=>intro k cells h;simp[splice]
 |cons x xs ih=>
  intro k cells h;simp only[List.length_cons] at h;rw[List.zipIdx_cons,List.foldl_cons,ih (k+1) _ (by simp;omega)];congr 1;have hlt:off+k<cells.toList.length:=by simp;omega
  rw[Array.toList_setIfInBounds];unfold splice;rw[show off+(k+1)=off+k+1 from by omega];rw[List.take_succ_eq_append_getElem (by simpa using hlt),List.take_set_of_le (zxe _),List.getElem_set_self,List.drop_set_of_lt (by omega)];simp only[zxD,List.cons_append,List.nil_append,List.length_cons];rw[show off+k+1+xs.length=off+k+(xs.length+1) from by omega]
def ziL(places:Nat->Option (Nat×Nat))(ls:List Leaf):List (Nat×List Leaf)->Option (List Leaf)
 |[]=>some ls
 |(i,xs)::rest=>
  match places i with
  |none=>none
  |some (off,size)=>bif Nat.beq xs.length size&&Nat.ble (off+xs.length) ls.length then ziL places (splice ls off xs) rest else none
theorem zhB{A:Foot}{w:World}{places:Nat->Option (Nat×Nat)}:∀(parts:List (Nat×Value)) (lparts:List (Nat×List Leaf)) (cells:Array Value) (ls out:List Leaf),
  denL A ls cells.toList w->parts.length=lparts.length->(∀(j:Nat) (p:Nat×Value) (q:Nat×List Leaf),parts[j]?=some p->lparts[j]?=some q->p.1=q.1/\denL A q.2 p.2.cells.toList w) →
  ziL places ls lparts=some out->∃cs,Instr.fill places cells parts=some cs/\denL A out cs.toList w:=by
 intro parts
 induction parts with
 |nil=>
  intro lparts cells ls out hd hl _ hf
  cases lparts with
  |nil=>simp only[ziL,zxd] at hf;subst hf;exact⟨cells,rfl,hd⟩
  |cons q qs=>simp at hl
 |cons p ps ih=>
  intro lparts cells ls out hd hl hp hf
  cases lparts with
  |nil=>simp at hl
  |cons q qs=>
   obtain⟨i,v⟩:=p;obtain⟨i',xs⟩:=q;obtain⟨rfl,hx⟩:=hp 0 _ _ rfl rfl;simp only at hx;unfold ziL at hf
   cases hpl:places i with
   |none=>rw[hpl] at hf;simp at hf
   |some os=>
    obtain⟨off,size⟩:=os;rw[hpl] at hf;simp only at hf
    cases hc:(Nat.beq xs.length size&&Nat.ble (off+xs.length) ls.length) with
    |false=>rw[hc] at hf;simp at hf
    |true=>
     rw[hc] at hf;simp only[cond_true] at hf;simp only[zxo,Nat.beq_eq,Nat.ble_eq] at hc;have hlx:=hx.length;have hll:=hd.length;simp only[Array.length_toList] at hlx hll;have hsz:v.cells.size=size:=by omega
     have hfit:¬off+v.cells.size > cells.size:=by omega
     have hfold:(v.cells.zipIdx.foldl (fun cs (p:Value×Nat)=>cs.setIfInBounds (off+p.2) p.1) cells)=(splice cells.toList off v.cells.toList).toArray:=by
      rw[<-Array.foldl_toList,Array.toList_zipIdx];exact ziH off v.cells.toList 0 cells (by simp;omega)
     obtain⟨cs,h1,h2⟩:=ih qs (splice cells.toList off v.cells.toList).toArray (splice ls off xs) out (by simpa using hd.splice off hx) (by simpa using hl)
      (fun j p q h1 h2=>hp (j+1) p q (by simpa using h1) (by simpa using h2)) hf
     refine⟨cs,?_,h2⟩;unfold Instr.fill;rw[hpl];simp only[hsz,ne_eq,not_true_eq_false,hsz ▸ hfit,Bool.false_or,decide_false,zxw,if_false];rw[<-h1,<-hfold]
def zek(Γ:Gam):List (Nat×Operand)->Option (List (Nat×List Leaf))
 |[]=>some []
 |(i,x)::rest=>
  match opD Γ x,zek Γ rest with
  |some (.inl v),some ps=>some ((i,v.leaves)::ps)
  |_,_=>none
def zat(P:Program)(t:Nat):Option (List (Nat×Nat)):=
 match P.underlying t with
 |some (.struct fields)=>fields.toList.mapM fun f=>(P.info? f.type).map fun i=>(f.offset,i.size)
 |_=>none
section
variable {P:Program}{ops:Array Oper}{X:List Nat}{o:Oper}{Γ:Gam}{H:Hp}
theorem zd2{E:Env}{a:Act}{w:World}:∀(ps:List (Nat×Operand)) (lp:List (Nat×List Leaf)),(∀p∈ps,∀d,opD Γ p.2=some d->d.den E (a.eval p.2) w)->zek Γ ps=some lp →
  (ps.map fun p=>(p.1,a.eval p.2)).length=lp.length ∧
  ∀(j:Nat) (p:Nat×Value) (q:Nat×List Leaf),(ps.map fun p=>(p.1,a.eval p.2))[j]?=some p->lp[j]?=some q->p.1=q.1/\denL E.A q.2 p.2.cells.toList w:=by
 intro ps
 induction ps with
 |nil=>intro lp _ h;simp only[zek,zxd] at h;subst h;exact⟨rfl,fun j p q h=>by simp at h⟩
 |cons p ps ih=>
  intro lp hd h;obtain⟨i,x⟩:=p;unfold zek at h
  cases hx:opD Γ x with
  |none=>rw[hx] at h;simp at h
  |some d=>
   rw[hx] at h
   cases hr:zek Γ ps with
   |none=>rw[hr] at h;rcases d with v|d <;> simp at h
   |some lps=>
    rw[hr] at h;rcases d with v|d
    .simp only[zxd] at h;subst h;obtain⟨h1,h2⟩:=ih lps (fun p hp d hd'=>hd p (by simp[hp]) d hd') hr;refine⟨by simpa using h1,fun j p q hp hq=>?_⟩
     cases j with
     |zero=>
      simp at hp hq;subst hp;subst hq;exact⟨rfl,V.den_cells (hd (i,x) (by simp) _ hx)⟩
     |succ j=>exact h2 j p q (by simpa using hp) (by simpa using hq)
    .simp at h
theorem zgh{t:Nat}{parts:Array (Nat×Operand)}(ho:o.op = .build t parts \/ ∃n,o.op = .buildSlice t n parts){Γ2:Gam}{w0:Frm}{A0:Foot}{N:Nat}{H2:Hp}{E:Env}{a:Act}{w:World}
  (hs:∀s∈o.looksAt ops,zbm Γ2 s=zbm Γ s) (hG:Good w0 A0 N Γ2 H2 E a w) :
  ∀p∈parts.toList,∀d,opD Γ p.2=some d->d.den E (a.eval p.2) w:=by
 intro p hp d hd;refine(za1 hs hG (x:=p.2) ?_ hd).2;rcases ho with ho|⟨n,ho⟩ <;> (rw[ho];simp only[Op.operands,List.mem_toArray,List.mem_map];exact⟨p,hp,rfl⟩)
theorem zjB{fields:List Field}{ps:List (Nat×Nat)}(h:(fields.mapM fun f=>(P.info? f.type).map fun i=>(f.offset,i.size))=some ps)(w:World) :
  (fields.mapM fun f=>Prod.mk f.offset <$> Go.sizeOf f.type).run P w = .ok ps w:=by
 induction fields generalizing ps with
 |nil=>simp at h;subst h;simp
 |cons f fs ih=>
  rw[List.mapM_cons] at h
  cases hi:P.info? f.type with
  |none=>simp[hi] at h
  |some i=>
   cases hr:(fs.mapM fun f=>(P.info? f.type).map fun i=>(f.offset,i.size)) with
   |none=>simp[hi,hr] at h
   |some qs=>
    simp[hi,hr] at h;subst h;have:=ih hr;simp only[List.mapM_cons];simp[Go.sizeOf,typeInfo,hi] at this ⊢;simp[this]
theorem zfC{t:Nat}{parts:Array (Nat×Operand)}{zs ls:List Leaf}{lp:List (Nat×List Leaf)}{places:List (Nat×Nat)}(ho:o.op = .build t parts)(hz:TyZero P t zs)(hp:zek Γ parts.toList=some lp)
  (hpl:zat P t=some places) (hf:ziL (fun i=>places[i]?) zs lp=some ls):Jq P ops X o Γ H (D.agg ls):=by
 intro w0 A0 N Γ2 H2 E a w hs hX hG;obtain⟨z,hzr,hzd⟩:=hz.run w E.A;unfold zat at hpl
 cases hu:P.underlying t with
 |none=>rw[hu] at hpl;simp at hpl
 |some d=>
  rw[hu] at hpl;cases d <;> simp only[reduceCtorEq] at hpl;rename_i fields;have hm:=zjB hpl w;obtain⟨h1,h2⟩:=zd2 parts.toList lp (zgh (.inl ho) hs hG) hp;obtain⟨cs,hc1,hc2⟩:=zhB (A:=E.A) (w:=w) (places:=fun i=>places[i]?) (parts.toList.map fun p=>(p.1,a.eval p.2)) lp z.cells zs ls hzd h1 h2 hf;refine⟨trivial,.agg cs,?_,cs.toList,by simp,hc2⟩;have hmA:∀(g:Field->Sem (Nat×Nat)),fields.mapM g=(do pure (List.toArray (← fields.toList.mapM g)):Sem _):=by
   intro g;rw[Array.mapM_eq_mapM_toList];simp
  simp only[execOp,ho,Instr.build];simp[hzr,run_underlying hu,hmA,hm,hc1]
end
section
variable {P:Program}{ops:Array Oper}{X:List Nat}{o:Oper}{Γ:Gam}{H:Hp}
theorem zaS{a:Act}{w w':World}{v:Value}{K:Act->World->Prop}{Q:Exit->Act->World->Prop}(h:(execOp a.eval o).run P w = .ok (.value v) w')(hK:K (a.put o.dst v) w') :
  o.wp P a w K Q:=by
 unfold Oper.wp;rw[h];exact hK
theorem zoT{a:Act}{w w':World}{K:Act->World->Prop}{Q:Exit->Act->World->Prop}(h:(execOp a.eval o).run P w = .ok .skip w')(hK:K (a.put o.dst undef) w') :
  o.wp P a w K Q:=by
 unfold Oper.wp;rw[h];exact hK
theorem zwM{t:Nat}{x:Operand}{y:V}{n:Nat}(ho:o.op = .box t x)(hx:opD Γ x=some (D.v y))(hn:H.length=n) :
  Je P ops o Γ H (some (D.ptr n 0)) (H++[some ⟨t,y.leaves,none,none⟩]):=by
 intro w0 A0 N Γ2 a w Q K hs hN hSt hK;obtain⟨E,hG⟩:=hSt;obtain⟨_,h2⟩:=za1 hs hG (x:=x) (by rw[ho];simp[Op.operands]) hx;have hc:=V.den_cells (show y.den E.A (a.eval x) w from h2);obtain⟨E',hG',hb,_,_,hA⟩:=hG.alloc (t:=t) (row:=none) (cap:=0) hc (fun sz h=>by simp at h);rw[show(a.eval x).cells.toList.toArray=(a.eval x).cells from by simp] at hG';refine zaS (v:=.pointer (some ⟨w.heap.size,0,none⟩)) (w':=w.alloc (.cells (a.eval x).cells t)) ?_ (hK _ _ ⟨E',hG'.put (fun d hd=>?_) hN⟩)
 .simp[execOp,ho,Instr.box,newVar,newRow]
 .cases hd;subst hn;exact⟨zeO,by show _=_;rw[hb]⟩
theorem zdP{t:Nat}{zs:List Leaf}{n:Nat}(ho:o.op = .alloc t)(hz:TyZero P t zs)(hn:H.length=n) :
  Je P ops o Γ H (some (D.ptr n 0)) (H++[some ⟨t,zs,none,none⟩]):=by
 intro w0 A0 N Γ2 a w Q K hs hN hSt hK;obtain⟨E,hG⟩:=hSt;obtain⟨z,hzr,hzd⟩:=hz.run w E.A;obtain⟨E',hG',hb,_,_,hA⟩:=hG.alloc (t:=t) (row:=none) (cap:=0) hzd (fun sz h=>by simp at h);rw[show z.cells.toList.toArray=z.cells from by simp] at hG';refine zaS (v:=.pointer (some ⟨w.heap.size,0,none⟩)) (w':=w.alloc (.cells z.cells t)) ?_ (hK _ _ ⟨E',hG'.put (fun d hd=>?_) hN⟩)
 .simp[execOp,ho,Instr.alloc,newVar,newRow,hzr]
 .cases hd;subst hn;exact⟨zeO,by show _=_;rw[hb]⟩
theorem zaM{t:Nat}{x y:Operand}{i off n:Nat}{e:HE}{v:V}{b:Bool}(ho:o.op = .store t x y)(hx:opD Γ x=some (D.ptr i off))(hy:opD Γ y=some (D.v v))(hi:H[i]?=some (some e))
  (ht:TyIs P t b n) (hn:v.leaves.length=n) (hn0:0<n) (hfit:off+n<=e.ls.length) {ls:List Leaf} (hls:splice e.ls off v.leaves=ls) (hfz:e.fz=0:=by rfl) :
  Je P ops o Γ H none (H.set i (some { e with ls:=ls })):=by
 intro w0 A0 N Γ2 a w Q K hs hN hSt hK;obtain⟨E,hG⟩:=hSt;obtain⟨_,h1⟩:=za1 hs hG (x:=x) (by rw[ho];simp[Op.operands]) hx;obtain⟨_,h2⟩:=za1 hs hG (x:=y) (by rw[ho];simp[Op.operands]) hy;have h1:a.eval x = .pointer (some ⟨E.b i,off,none⟩):=h1;have hc:=V.den_cells (show v.den E.A (a.eval y) w from h2);obtain⟨g1,_⟩:=hG.boxes i e hi;have hni:=HE.not_nil g1 (by omega);obtain⟨cs,rest,hcs,hd,hr⟩:=HE.block g1 hni;have l1:=hd.length;have l2:=hc.length;simp only[Array.length_toList] at l2;have hst:=run_storeCells_at P (E.b i) off e.t (a.eval y).cells.toList 0 (cs++rest).toArray w hcs (by simp;omega) hc.one;have hrow:((cs++rest).toArray.toList.take (off+0)++(a.eval y).cells.toList++(cs++rest).toArray.toList.drop (off+0+(a.eval y).cells.toList.length))=splice cs off (a.eval y).cells.toList++rest:=by
  unfold splice;simp only[Nat.add_zero,zxD];rw[List.take_append_of_le_length (by omega),List.drop_append_of_le_length (by simp;omega)]
 rw[hrow] at hst;have hG':=hG.setRow hi hni (ls':=ls) (cs':=splice cs off (a.eval y).cells.toList) (rest':=rest) hcs (by simp[zef cs off (a.eval y).cells.toList (by simp;omega)]) hr (hls ▸ hd.splice off hc) (.inr (by rw[<-hls];exact zef _ _ _ (by omega))) (fun j hj=>by rw[hfz] at hj;omega);refine zoT (w':=w.setRow (E.b i) (splice cs off (a.eval y).cells.toList++rest).toArray) ?_ (hK _ _ ⟨E,hG'.put (fun d hd=>by cases hd) hN⟩);have hsz:(a.eval y).cells.size=n:=by omega
 simp[execOp,ho,h1,Instr.storeAt,Instr.sureAddr,storeVar,ht.sizeOf,hsz,hst]
def zfG(n:Nat)(zs:List Leaf):List Leaf:=(List.range n).map fun i=>zs.getD (i%zs.length) nilL
theorem zli(n:Nat)(l:Leaf):zfG n [l]=List.replicate n l:=by
 unfold zfG;apply List.ext_getElem
 .simp
 .intro i h1 h2;simp[Nat.mod_one]
theorem zpS{A:Foot}{w:World}{f:Nat->Leaf}{g:Nat->Value}:∀(l:List Nat),(∀i∈l,(f i).den A (g i) w)->denL A (l.map f) (l.map g) w:=by
 intro l
 induction l with
 |nil=>intro _;trivial
 |cons x xs ih=>intro h;exact⟨h x (by simp),ih fun i hi=>h i (by simp[hi])⟩
theorem zeB{A:Foot}{w:World}{zs:List Leaf}{z:Array Value}(h:denL A zs z.toList w)(h0:0<zs.length)(n:Nat) :
  denL A (zfG n zs) ((Array.range n).map (z[· % z.size]!)).toList w:=by
 have hl:=h.length;simp only[Array.length_toList] at hl;rw[show((Array.range n).map (z[· % z.size]!)).toList=(List.range n).map (z[· % z.size]!) from by simp];refine zpS _ (fun i _=>?_);have hlt:i%zs.length<zs.length:=Nat.mod_lt _ h0;obtain⟨v,hv,hd⟩:=h.get (zxa hlt);rw[List.getD_eq_getElem?_getD,zxa hlt];simp only[Array.getElem?_toList] at hv;simp only[Option.getD_some,hl];rw[getElem!_def,hv];exact hd
theorem ziv{E:Env}{w:World}{t len:Nat}{ls:List Leaf}{cs:List Value}(hf:∀k j,E.A k j->k<w.heap.size)(hd:denL E.A ls cs w)(hcl:clL ls=true)(hm:len<=maxLen) :
  (zal len ls).P (zct E.A w (w.alloc (.cells cs.toArray t))) (.slice (some ⟨w.heap.size,0,none⟩) len len) (w.alloc (.cells cs.toArray t)):=by
 refine⟨some ⟨w.heap.size,0,none⟩,len,rfl,zxe _,hm,fun h=>by simp at h,fun ad had=>?_⟩;cases had;refine⟨fun _=>rfl,fun i l hi=>⟨.inr ⟨zxe _,by simp⟩,?_⟩⟩;obtain⟨v,hv,hvd⟩:=(hd.pure hcl).get hi;refine⟨v,?_,Leaf.den_mono (Foot.le.of fun k j hk=>.inl hk) (Leaf.den_keep (zcr fun k j hk=>Below.heap_alloc w _ k (hf k j hk)) hvd)⟩;have hc:=heap_alloc_new w (.cells cs.toArray t);unfold World.cell?;rw[hc];simpa using hv
theorem zag{t elem len sz:Nat}{parts:Array (Nat×Operand)}{zs ls:List Leaf}{lp:List (Nat×List Leaf)}{b:Bool}(ho:o.op = .buildSlice t len parts)(ht:P.underlying t=some (.slice elem))(hsz:TyIs P elem b sz)
  (hz:TyZero P elem zs) (hzl:zs.length=sz) (hsz0:0<sz) (hlen:0<len) (hp:zek Γ parts.toList=some lp) (hbig:len*sz<=16777216)
  (hf:ziL (fun i=>some (i*sz,sz)) (zfG (len*sz) zs) lp=some ls) (hcl:clL ls=true:=by rfl):Je P ops o Γ H (some (D.rep (zal len ls))) H:=by
 intro w0 A0 N Γ2 a w Q K hs hN hSt hK;obtain⟨E,hG⟩:=hSt;obtain⟨z,hzr,hzd⟩:=hz.run w E.A;obtain⟨h1,h2⟩:=zd2 parts.toList lp (zgh (.inr ⟨len,ho⟩) hs hG) hp;obtain⟨cs,hc1,hc2⟩:=zhB (A:=E.A) (w:=w) (places:=fun i=>some (i*sz,sz)) (parts.toList.map fun p=>(p.1,a.eval p.2)) lp ((Array.range (len*sz)).map (z.cells[· % z.cells.size]!)) _ ls
  (zeB hzd (by omega) (len*sz)) h1 h2 hf
 have hb:=zbF w (.cells cs elem);have hG':=hG.grow hb;have hlm:len<=16777216:=zxk (Nat.le_mul_of_pos_right len hsz0) hbig;refine zaS (v:=.slice (some ⟨w.heap.size,0,none⟩) len len) (w':=w.alloc (.cells cs elem)) ?_ (hK _ _ ⟨_,hG'.put (fun d hd=>?_) hN⟩)
 .have n1:¬16777216<len*sz:=by omega
  have n2:len*sz≠0:=Nat.ne_of_gt (Nat.mul_pos hlen hsz0);have hps:(parts.map fun(p:Nat×Operand)=>(p.1,a.eval p.2)).toList=parts.toList.map fun p=>(p.1,a.eval p.2):=by simp
  simp only[execOp,ho,Instr.buildSlice];simp only[hps];simp[run_underlying ht,hsz.sizeOf,n1,hzr,hc1,newRow,n2]
 .cases hd;refine⟨trivial,?_⟩;have:=ziv (t:=elem) (len:=len) hG.foot hc2 hcl (by simp only[maxLen];omega);rw[show cs.toList.toArray=cs from by simp] at this;exact this
def zcE(Γ:Gam):List Operand->Option (List V)
 |[]=>some []
 |x::xs=>
  match opD Γ x,zcE Γ xs with
  |some (.inl v),some vs=>some (v::vs)
  |_,_=>none
@[reducible] def R.toD:R->D
 |.inl x=>.inl x
 |.inr xs=>.inr (.inl xs)
theorem R.toD_den{E:Env}{y:R}{v:Value}{w:World}(h:y.den E.A v w):y.toD.den E v w:=by
 cases y with
 |inl x=>exact h
 |inr xs=>exact h
theorem R.toD_okn{y:R}{H:Hp}:y.toD.okn H:=by cases y <;> trivial
theorem zbo{E:Env}{a:Act}{w:World}:∀(xs:List Operand) (vs:List V),(∀x∈xs,∀d,opD Γ x=some d->d.den E (a.eval x) w)->zcE Γ xs=some vs->denVs E.A vs (xs.map a.eval) w:=by
 intro xs
 induction xs with
 |nil=>intro vs _ h;simp only[zcE,zxd] at h;subst h;trivial
 |cons x xs ih=>
  intro vs hd h;unfold zcE at h
  cases hx:opD Γ x with
  |none=>rw[hx] at h;simp at h
  |some d=>
   rw[hx] at h
   cases hr:zcE Γ xs with
   |none=>rw[hr] at h;rcases d with v|d <;> simp at h
   |some us=>
    rw[hr] at h;rcases d with v|d
    .simp only[zxd] at h;subst h;exact⟨hd x (by simp) _ hx,ih us (fun y hy d hd'=>hd y (by simp[hy]) d hd') hr⟩
    .simp at h
def zay(P:Program)(f:Nat):Prop:=∃fn,P.funcs[f]?=some fn/\fn.body.isNone=false/\(fn.name == "runtime.NumGoroutine")=false
theorem zoG{f:Nat}{args:Array Operand}{tys:Array TypeId}{xs:List V}{y:R}(ho:o.op = .call { callee:=.value (.func f),args:=args,argTypes:=tys })(hf:zay P f)
  (hx:zcE Γ args.toList=some xs) (hspec:Ctr P f xs y) (hcl:zgd xs=true:=by rfl):Je P ops o Γ H (some y.toD) H:=by
 intro w0 A0 N Γ2 a w Q K hs hN hSt hK;obtain⟨E,hG⟩:=hSt;obtain⟨fn,hfn,hb,hn⟩:=hf;have hargs:=zbo (Γ:=Γ) (E:=E) (a:=a) (w:=w) args.toList xs (fun x hx d hd=>(za1 hs hG (x:=x) (by rw[ho];simp[Op.operands,Call.operands];exact .inr (by simpa using hx)) hd).2) hx;have hrun:(execOp a.eval o).run P w = .ok (.enter f (args.map a.eval)) w:=by
  have hn':¬fn.name = "runtime.NumGoroutine":=by simpa using hn
  have hb':¬fn.body=none:=by intro e;rw[e] at hb;simp at hb
  simp[execOp,ho,resolve,Deferred.ofValue,invoke,callFunc,hfn,hn',hb',Act.eval]
 unfold Oper.wp;rw[hrun,Oper.upon_enter];have hc:=hspec w (args.map a.eval).toList E.A.c hG.below.now hG.foot (by have:=hargs.pure hcl;simpa using this);rw[show(args.map a.eval).toList.toArray=args.map a.eval from Array.toArray_toList] at hc;refine Calls.mono hc ?_;rintro e w' ⟨v,rfl,hy,hbel⟩;exact hK _ _ ⟨_,(hG.grow hbel).put (fun d hd=>by cases hd;exact⟨R.toD_okn,R.toD_den (R.den_mono (zbE _ _ _) hy)⟩) hN⟩
def zdD:Nat->List V->Gam
 |_,[]=>[]
 |k,x::xs=>(k,some (D.v x))::zdD (k+1) xs
def Frm.gr(F:Frm)(A0:Foot)(w':World):Foot:=Foot.of fun k j=>A0 k j\/(F.w.heap.size<=k/\k<w'.heap.size)\/F.X k
def zrt(P:Program)(fn:Func)(w0:Frm)(A0:Foot)(y:R):Exit->Act->World->Prop:=
 bodyPost P fn fun e w'=>∃v,e = .returned v/\y.den (w0.gr A0 w') v w'/\w0.Bel w'
theorem zb7{A:Foot}{w:World}:∀(xs:List V) (vs:List Value) (k s:Nat) (d:D),denVs A xs vs w->zbm (zdD k xs) s=some d →
  ∃x v,d=D.v x/\k<=s/\vs[s-k]?=some v/\x.den A v w:=by
 intro xs
 induction xs with
 |nil=>intro vs k s d _ h;simp[zdD,zbm] at h
 |cons x xs ih=>
  intro vs k s d hd h
  cases vs with
  |nil=>exact hd.elim
  |cons v vs=>
   unfold zdD at h;by_cases hk:k=s
   .subst hk;rw[zar] at h;cases h;exact⟨x,v,rfl,zxe _,by simp,hd.1⟩
   .rw[zaB hk] at h;obtain⟨x',v',h1,h2,h3,h4⟩:=ih vs (k+1) s d hd.2 h;refine⟨x',v',h1,by omega,?_,h4⟩;rw[show s-k=(s-(k+1))+1 from by omega];simpa using h3
theorem Ctr.of_body{f N:Nat}{fn:Func}{c:Code}{xs:List V}{y:R}(hf:P.funcs[f]?=some fn)(hb:fn.body=some c)(hN:fn.ntmps=N)(hl:xs.length<=min N 2000)
  (h:∀w0 A0,Tc P (zrt P fn w0 A0 y) w0 A0 N (zdD 0 xs) [] c):Ctr P f xs y:=by
 intro w vs A hg hA hd;have hlen:=hd.length;refine Calls.mono (calls_of_wp hf hb (R:=fun e w'=>∃v,e = .returned v/\y.den ((Frm.of w).gr (Foot.of A) w') v w'/\(Frm.of w).Bel w') ?_) (fun e w' ⟨v,h1,h2,h3⟩=>⟨v,h1,R.den_mono (Foot.le.pure fun k j hk=>by
  rcases hk with hk|hk|hk
  .exact .inl hk
  .exact .inr hk
  .exact hk.elim) h2,h3.to_below⟩)
 refine h (Frm.of w) (Foot.of A) _ _ ⟨⟨fun _=>0,fun _=>0,fun _=>false,Foot.of A⟩,Frm.Bel.refl (Frm.of w) hg (fun _ _ h=>h),hA,fun k j hk=>.inl hk,rfl,?_,?_,fun i e he=>by simp at he,fun i j e e' he=>by simp at he,fun i e v he=>by simp at he,fun i m v hv=>by simp at hv,fun k j hk=>⟨hk,rfl⟩⟩
 .simp;omega
 .intro s d hs;obtain⟨x,v,rfl,_,h2,h3⟩:=zb7 xs vs 0 s d hd hs;refine⟨trivial,v,?_,h3⟩;simp only[Nat.sub_zero] at h2;have hlt:=(zxc.1 h2).1;rw[zbA (by simp;omega)];rw[Array.getElem?_append_left (by simpa using hlt)];simpa using h2
def zfk(P:Program)(Γ:Gam)(H:Hp)(r:ResultVar)(x:V):Prop:=
 match r with
 |.tmp t=>zbI Γ t=some (D.v x)
 |.cell s t=>∃i e,zbI Γ s=some (D.ptr i 0)/\H[i]?=some (some e) ∧
   ((TyIs P t true e.ls.length/\0<e.ls.length/\x=V.agg e.ls)\/(TyIs P t false 1/\∃l rest,e.ls=l::rest/\x=V.one l))
def zdu(tmps:Array Value):ResultVar->Sem Value
 |.tmp t=>pure (tmps.getD t undef)
 |.cell a t=>do loadVar t (← asAddr (tmps.getD a undef))
theorem zbu{w0:Frm}{A0:Foot}{N:Nat}{E:Env}{a:Act}{w:World}(hG:Good w0 A0 N Γ H E a w){r:ResultVar}{x:V}(h:zfk P Γ H r x) :
  ∃v,(zdu a.tmps r).run P w = .ok v w/\x.den E.A v w:=by
 cases r with
 |tmp t=>
  obtain⟨_,v,hv,hd⟩:=hG.tmp (s:=t) h;exact⟨v,by simp[zdu,hv],hd⟩
 |cell s t=>
  obtain⟨i,e,h1,h2,h3⟩:=h;obtain⟨_,v,hv,hd⟩:=hG.tmp h1;have hd:v = .pointer (some ⟨E.b i,0,none⟩):=hd;subst hd;obtain⟨g1,_⟩:=hG.boxes i e h2;rcases h3 with⟨ht,h0,rfl⟩|⟨ht,l,rest',hl,rfl⟩
  .obtain⟨cs,rest,hc,hcd,_⟩:=HE.block g1 (HE.not_nil g1 h0);have hlen:=hcd.length;have hl:=zgZ (P:=P) hc e.ls.length (by simp;omega) (o:=0);rw[List.drop_zero,List.take_append_of_le_length (by omega),zxJ (by omega)] at hl;exact⟨.agg cs.toArray,by simp[zdu,hv,asAddr,loadVar,ht.isAgg,ht.sizeOf,hl],cs,rfl,hcd⟩
  .obtain⟨cs,rest,hc,hcd,_⟩:=HE.block g1 (HE.not_nil g1 (by rw[hl];simp));obtain⟨v,hv2,hvd⟩:=hcd.get (i:=0) (l:=l) (by rw[hl];rfl);have hlt:=(zxc.1 hv2).1;have hl':w.cell? ⟨E.b i,0,none⟩=some v:=zbW hc (by rw[zxi hlt];exact hv2);exact⟨v,by simp[zdu,hv,asAddr,loadVar,ht.isAgg,load,Sem.run,hl'],hvd⟩
theorem zba(fn:Func)(tmps:Array Value):results fn tmps=(do let vs ← fn.results.mapM (zdu tmps);pure (if h:vs.size=1 then vs[0] else .tuple vs)):=by
 unfold results;have:(fun(x:ResultVar)=>match x with | .tmp t=>(pure (tmps.getD t undef):Sem Value) | .cell a t=>do loadVar t (← asAddr (tmps.getD a undef)))=zdu tmps:=by
  funext r;cases r <;> rfl
 rw[<-this];rfl
theorem Good.foot_gr{w0:Frm}{A0:Foot}{N:Nat}{E:Env}{a:Act}{w:World}(hG:Good w0 A0 N Γ H E a w):Foot.le (Foot.of E.A.c) (w0.gr A0 w):=Foot.le.of fun k j hk=>by
 rcases hG.foot0 k j hk with h|h|h
 .exact .inl h
 .exact .inr (.inl ⟨h,hG.foot k j hk⟩)
 .exact .inr (.inr h)
theorem Good.out{w0:Frm}{A0:Foot}{N:Nat}{E:Env}{a:Act}{w:World}(hG:Good w0 A0 N Γ H E a w){x:V}{v:Value}(hc:x.cl=true)(hd:x.den E.A v w):x.den (w0.gr A0 w) v w:=V.den_mono hG.foot_gr (V.den_pure hc hd)
theorem ztB{Q:Exit->Act->World->Prop}{w0:Frm}{A0:Foot}{N:Nat}{fn:Func}{y:R}{r:ResultVar}{x:V}(hQ:∀a w,zrt P fn w0 A0 y .ret a w->Q .ret a w)
  (hr:fn.results = #[r]) (h:zfk P Γ H r x) (hy:R.one x=y) (hcl:x.cl=true:=by rfl):Tc P Q w0 A0 N Γ H .ret:=by
 intro a w hSt;obtain⟨E,hG⟩:=hSt;obtain⟨v,hv,hd⟩:=zbu hG h;refine wp_ret (hQ a w ⟨hG.defers,v,?_,v,rfl,?_,hG.below⟩)
 .rw[zba,hr];simp[hv]
 .subst hy;exact hG.out hcl hd
theorem ztA{Q:Exit->Act->World->Prop}{w0:Frm}{A0:Foot}{N:Nat}{fn:Func}{y:R}{r r':ResultVar}{x x':V}(hQ:∀a w,zrt P fn w0 A0 y .ret a w->Q .ret a w)
  (hr:fn.results = #[r,r']) (h:zfk P Γ H r x) (h':zfk P Γ H r' x') (hy:R.tup [x,x']=y) (hcl:zgd [x,x']=true:=by rfl):Tc P Q w0 A0 N Γ H .ret:=by
 intro a w hSt;obtain⟨E,hG⟩:=hSt;obtain⟨v,hv,hd⟩:=zbu hG h;obtain⟨v',hv',hd'⟩:=zbu hG h';refine wp_ret (hQ a w ⟨hG.defers,.tuple #[v,v'],?_,_,rfl,?_,hG.below⟩)
 .rw[zba,hr];simp[hv,hv']
 .subst hy;simp only[zgd,zxo] at hcl;exact⟨[v,v'],rfl,hG.out hcl.1 hd,hG.out hcl.2.1 hd',trivial⟩
theorem ztz{Q:Exit->Act->World->Prop}{w0:Frm}{A0:Foot}{N:Nat}{fn:Func}{y:R}{r r' r'':ResultVar}{x x' x'':V}(hQ:∀a w,zrt P fn w0 A0 y .ret a w->Q .ret a w)
  (hr:fn.results = #[r,r',r'']) (h:zfk P Γ H r x) (h':zfk P Γ H r' x') (h'':zfk P Γ H r'' x'') (hy:R.tup [x,x',x'']=y) (hcl:zgd [x,x',x'']=true:=by rfl):Tc P Q w0 A0 N Γ H .ret:=by
 intro a w hSt;obtain⟨E,hG⟩:=hSt;obtain⟨v,hv,hd⟩:=zbu hG h;obtain⟨v',hv',hd'⟩:=zbu hG h';obtain⟨v'',hv'',hd''⟩:=zbu hG h'';refine wp_ret (hQ a w ⟨hG.defers,.tuple #[v,v',v''],?_,_,rfl,?_,hG.below⟩)
 .rw[zba,hr];simp[hv,hv',hv'']
 .subst hy;simp only[zgd,zxo] at hcl;exact⟨[v,v',v''],rfl,hG.out hcl.1 hd,hG.out hcl.2.1 hd',hG.out hcl.2.2.1 hd'',trivial⟩
end
end Rc
