/- Parts of the proof, 4: the texts FwV, FwW, Mac, Facts, FactsD, RatQ, Val, NatM, as far as they are used. -/
import Derived.Test.YticnclbnchgigaaGreatDoorDe03
import Derived.KernelRfl
import Derived.Test.YticnclbnchgigaaGreatDoorProg
set_option linter.unusedSimpArgs false
set_option linter.unusedVariables false
set_option maxRecDepth 10000
namespace Rc
open Go Go.RowKit
@[reducible] def ifV(t:Nat)(cs:List Value):Value:=.iface t (.agg cs.toArray)
def ztW(P:Program)(t:Nat):Bool:=match P.underlying t with|some (.interface _)=>true|_=>false
theorem znB{P:Program}{t:Nat}(h:ztW P t=true):∃ms,P.underlying t=some (.interface ms):=by
 unfold ztW at h;split at h
 .exact⟨_,by assumption⟩
 .simp at h
theorem zo8{P:Program}{w:World}{t tx:Nat}{vx:Value}(hu:ztW P t=true)(d:Nat):(Op.equalIn (d+1) t (.iface tx vx) .nilIface).run P w = .ok false w:=by
 obtain⟨ms,hu⟩:=znB hu;rw[Op.equalIn];simp[run_underlying hu]
theorem zmM{P:Program}{w:World}{t:Nat}(hu:ztW P t=true)(d:Nat):(Op.equalIn (d+1) t .nilIface .nilIface).run P w = .ok true w:=by
 obtain⟨ms,hu⟩:=znB hu;rw[Op.equalIn];simp[run_underlying hu]
section
variable {P:Program}{ops:Array Oper}{X:List Nat}{o:Oper}{Γ:Gam}{H:Hp}{t u:Nat}{x y:Operand}
theorem zgx{tx:Nat}{vx:Value}(ho:o.op = .binOp .eql t x y u)(hx:opD Γ x=some (D.val (.iface tx vx)))(hy:opD Γ y=some (D.val .nilIface))(h:ztW P t=true):Jq P ops X o Γ H (D.bool false):=by
 intro w0 A0 N Γ2 H2 E a w hs hX hG;have e1:=za3 hs hG (x:=x) (by rw[ho];simp[Op.operands]) hx;have e2:=za3 hs hG (x:=y) (by rw[ho];simp[Op.operands]) hy;have:=zo8 (tx:=tx) (vx:=vx) (w:=w) h 9999;refine⟨trivial,.bool false,?_,rfl,rfl⟩;simp[execOp,ho,e1,e2,eqGuard,binOp,Op.equal,Op.maxDepth,this]
theorem zl2{c:Value}(ho:o.op = .binOp .eql t x (.const c) u)(hx:opD Γ x=some (D.val .nilIface))(hy:opD Γ (.const c)=some (D.val .nilIface))(h:ztW P t=true):Jq P ops X o Γ H (D.bool true):=by
 intro w0 A0 N Γ2 H2 E a w hs hX hG;have e1:=za3 hs hG (x:=x) (by rw[ho];simp[Op.operands]) hx;have e2:=za3 hs hG (x:=.const c) (by rw[ho];simp[Op.operands]) hy;have:=zmM (w:=w) h 9999;refine⟨trivial,.bool true,?_,rfl,rfl⟩;simp[execOp,ho,e1,e2,eqGuard,binOp,Op.equal,Op.maxDepth,this]
end
theorem zfE{P:Program}{ops:Array Oper}{Q:Exit->Act->World->Prop}{w0:Frm}{A0:Foot}{N:Nat}{Γ:Gam}{H:Hp}{rest:List Oper}{dst:Option Nat}{a1:Act}{Nc:Nat}{fn:Func}(Γo:Gam)
  (hd:a1.defers=[]) (hs:a1.tmps.size=N) (hN:zb1 N dst=true) (hr:fn.results = #[]) (hk:zf0 Γ Γo) (hc:Tl P ops Q w0 A0 N (zc8 Γo dst (some (D.tup []))) H rest) :
  At (bodyPost P fn (fun e w'=>∃v,e = .returned v/\wpList P ops Q rest (a1.put dst v) w')) (w0.into a1) A0 Nc Γ H .normal:=by
 intro a w hSt;obtain⟨E,hG⟩:=hSt;refine⟨hG.defers,.tuple #[],?_,_,rfl,hc _ _ ⟨E,(hG.leave hd hs hk).put (fun x hx=>by cases hx;exact⟨trivial,[],rfl,trivial⟩) hN⟩⟩;rw[zba,hr];simp
structure FTab where
 fo:List ((Nat×Nat)×Nat×Nat)
 ty:List (Nat×Bool×Nat)
def zog{α:Type}(p:α->Prop):List α->Prop
 |[]=>True
 |a::l=>p a/\zog p l
structure FTab.Ok(P:Program)(F:FTab):Prop where
 fo:zog (fun e=>zah P e.1.1 e.1.2=some e.2) F.fo
 ty:zog (fun e=>TyIs P e.1 e.2.1 e.2.2) F.ty
def zcZ{β:Type}(k:Nat):List (Nat×β)->Option β
 |[]=>none
 |(a,b)::l=>bif Nat.beq a k then some b else zcZ k l
def zrb{β:Type}(k j:Nat):List ((Nat×Nat)×β)->Option β
 |[]=>none
 |((a,c),b)::l=>bif Nat.beq a k&&Nat.beq c j then some b else zrb k j l
theorem zaK{β:Type}{p:Nat×β->Prop}{k:Nat}{b:β}:∀{l:List (Nat×β)},zog p l->zcZ k l=some b->p (k,b)
 |[],_,h=>by simp[zcZ] at h
 |(a,c)::l,hp,h=>by
  unfold zcZ at h;cases hb:Nat.beq a k
  .rw[hb] at h;exact zaK hp.2 h
  .rw[hb] at h;have:=Nat.eq_of_beq_eq_true hb;simp only[cond_true,zxd] at h;subst this;subst h;exact hp.1
theorem zf3{β:Type}{p:(Nat×Nat)×β->Prop}{k j:Nat}{b:β}:∀{l:List ((Nat×Nat)×β)},zog p l->zrb k j l=some b->p ((k,j),b)
 |[],_,h=>by simp[zrb] at h
 |((a,c),d)::l,hp,h=>by
  unfold zrb at h;cases hb:(Nat.beq a k&&Nat.beq c j)
  .rw[hb] at h;exact zf3 hp.2 h
  .rw[hb] at h;rw[zxo] at hb;have h1:=Nat.eq_of_beq_eq_true hb.1;have h2:=Nat.eq_of_beq_eq_true hb.2;simp only[cond_true,zxd] at h;subst h1;subst h2;subst h;exact hp.1
def zq3:Operand->Bool
 |.const (.slice none _ _)=>false
 |_=>true
def ldD(F:FTab)(X:List Nat)(H:Hp)(t i off:Nat):Option D:=
 bif X.contains i then none else
 match H[i]? with
 |some (some e)=>
  match zcZ t F.ty with
  |some (true,n)=>bif Nat.blt 0 n&&Nat.ble (off+n) e.ls.length then some (D.agg ((e.ls.drop off).take n)) else none
  |some (false,n)=>
   match e.ls[off]? with
   |some l=>bif Nat.beq n 1 then some (D.v (V.one l)) else none
   |none=>none
  |none=>none
 |_=>none
def zrK(F:FTab)(X:List Nat)(Γ:Gam)(H:Hp):Op->Option D
 |.move x=>bif zq3 x then opD Γ x else none
 |.assign x=>bif zq3 x then opD Γ x else none
 |.extract x i=>
  match opD Γ x with
  |some (.inr (.inl xs))=>match xs[i]? with
   |some y=>some (.inl y)
   |none=>none
  |_=>none
 |.pick c x y=>
  match opD Γ c with
  |some (.inl (.inl (.inl (.bool b))))=>match b with
   |true=>opD Γ x
   |false=>opD Γ y
  |_=>none
 |.unOp .not _ x=>
  match opD Γ x with
  |some (.inl (.inl (.inl (.bool b))))=>some (D.bool (!b))
  |_=>none
 |.fieldAddr s x f=>
  match opD Γ x with
  |some (.inr (.inr (.inl (i,off))))=>match zrb s f F.fo with
   |some (fo,sz)=>bif Nat.beq sz 0 then none else some (D.ptr i (off+fo))
   |none=>none
  |_=>none
 |.load t x=>
  match opD Γ x with
  |some (.inr (.inr (.inl (i,off))))=>ldD F X H t i off
  |_=>none
 |.nilCheck x=>
  match opD Γ x with
  |some (.inr (.inr (.inl (i,off))))=>some (D.ptr i off)
  |_=>none
 |_=>none
section
variable {P:Program}{ops:Array Oper}{X:List Nat}{o:Oper}{Γ:Gam}{H:Hp}{F:FTab}
theorem zq9(hF:F.Ok P){t i off:Nat}{x:Operand}{d:D}(ho:o.op = .load t x)(hx:opD Γ x=some (D.ptr i off))(h:ldD F X H t i off=some d):Jq P ops X o Γ H d:=by
 unfold ldD at h;cases hc:X.contains i
 .rw[hc] at h;have hXi:i ∉ X:=fun hm=>by rw[List.contains_iff_mem.2 hm] at hc;simp at hc
  simp only[cond_false] at h;split at h
  .rename_i e hi;split at h
   .rename_i n ht;have ht:TyIs P t true n:=zaK hF.ty ht;cases hn:(Nat.blt 0 n&&Nat.ble (off+n) e.ls.length)
    .rw[hn] at h;simp at h
    .rw[hn] at h;simp only[cond_true,zxd] at h;simp only[zxo,Nat.blt_eq,Nat.ble_eq] at hn;subst h;exact zbe ho hx hi hXi ht hn.1 hn.2 rfl
   .rename_i n ht;have ht:TyIs P t false n:=zaK hF.ty ht;split at h
    .rename_i l hl;cases hn:Nat.beq n 1
     .rw[hn] at h;simp at h
     .rw[hn] at h;simp only[cond_true,zxd] at h;subst h;have:=Nat.eq_of_beq_eq_true hn;subst this;exact zbZ ho hx hi hXi ht hl
    .simp at h
   .simp at h
  .simp at h
 .rw[hc] at h;simp at h
theorem zo2(hF:F.Ok P){d:D}(h:zrK F X Γ H o.op=some d):Jq P ops X o Γ H d:=by
 generalize hop:o.op=op at h;unfold zrK at h;split at h
 .rename_i x;cases hn:zq3 x
  .rw[hn] at h;simp at h
  .rw[hn] at h;exact zou hop h
 .rename_i x;cases hn:zq3 x
  .rw[hn] at h;simp at h
  .rw[hn] at h;exact zex hop h
 .split at h
  .rename_i xs hx;split at h
   .rename_i y hy;simp only[zxd] at h;subst h;exact zl1 hop hx hy
   .simp at h
  .simp at h
 .split at h
  .rename_i b hc;split at h
   .exact zos hop hc h
   .exact zot hop hc h
  .simp at h
 .split at h
  .rename_i b hx;simp only[zxd] at h;subst h;exact zwJ hop hx rfl
  .simp at h
 .split at h
  .rename_i i off hx;split at h
   .rename_i fo sz hf;have hf:=zf3 hF.fo hf;cases hz:Nat.beq sz 0
    .rw[hz] at h;simp only[cond_false,zxd] at h;subst h;exact zja hop hx hf hz
    .rw[hz] at h;simp at h
   .simp at h
  .simp at h
 .split at h
  .rename_i i off hx;exact zq9 hF hop hx h
  .simp at h
 .split at h
  .rename_i i off hx;simp only[zxd] at h;subst h;exact zjV hop hx
  .simp at h
 .simp at h
def gst(ops:Array Oper)(Γ:Gam)(o:Oper):Option Bool:=
 match o.guard with
 |none=>some true
 |some (j,want)=>match (ops[j]?).bind (·.dst) with
  |some s=>match zbI Γ s with
   |some (.inl (.inl (.inl (.bool b))))=>match b with
    |true=>some want
    |false=>some (!want)
   |some (.inr (.inl []))=>some false
   |_=>none
  |none=>none
theorem gst_f(h:gst ops Γ o=some false):JO P ops X o Γ H (some (D.tup [])) H:=by
 unfold gst at h;split at h
 .simp at h
 .rename_i j want hgd;split at h
  .rename_i s hs;split at h
   .rename_i b hb;split at h
    .simp only[zxd] at h;subst h;exact zoI hgd hs hb
    .simp only[zxd] at h;have:want=true:=by cases want <;> simp_all
     subst this;exact zoI hgd hs hb
   .rename_i hb;exact zqq hgd hs hb
   .simp at h
  .simp at h
theorem DK_no{tl:List (Option Nat)}{n:Nat}{os:List Oper}{K:Gam->Hp->Prop}(h:gst ops Γ o=some false)(hr:DKn P ops tl X (n+1) os (zc8 Γ o.dst (some (D.tup []))) H K):DKn P ops tl X n (o::os) Γ H K:=by
 unfold gst at h;split at h
 .simp at h
 .rename_i j want hgd;split at h
  .rename_i s hs;split at h
   .rename_i b hb;split at h
    .simp only[zxd] at h;subst h;exact zoK hgd hs hb hr
    .simp only[zxd] at h;have:want=true:=by cases want <;> simp_all
     subst this;exact zoK hgd hs hb hr
   .rename_i hb;exact zqs hgd hs hb hr
   .simp at h
  .simp at h
theorem hq_{α β:Type}{p:α->β->Prop}:∀a w,p a w->p a w:=fun _ _ h=>h
@[reducible] def hb_(t:Nat)(ls:List Leaf):Option HE:=some ⟨t,ls,none,none⟩
@[reducible] def hbq(t:Nat)(ls:List Leaf)(q:Nat):Option HE:=some ⟨t,ls,none,some (.inl q)⟩
@[reducible] def hgr{α:Type}(t sz:Nat)(e:El α)(l:List α)(n:Nat):Option HE:=some ⟨t,e.all l,some sz,some (.inr ((e.all l).length,some n))⟩
theorem zbq{Q:Exit->Act->World->Prop}{w0:Frm}{A0:Foot}{N:Nat}{ex:Exit}(n:Nat)(hn:(H.drop n).all Option.isNone=true)(h:At Q w0 A0 N Γ (H.take n) ex):At Q w0 A0 N Γ H ex:=by
 refine ztN (H.take n) (H.drop n).length ?_ h;have:H.drop n=List.replicate (H.drop n).length none:=by
  refine List.eq_replicate_iff.2 ⟨rfl,fun b hb=>?_⟩;have:=List.all_eq_true.1 hn b hb;exact Option.isNone_iff_eq_none.1 this
 rw[<-this,List.take_append_drop]
end
inductive KF where
 |thn (y:Code)
 |blk (id:Nat)
 |lp (K:Act->World->Prop)
def qk(P:Program)(Q:Exit->Act->World->Prop):List KF->Exit->Act->World->Prop
 |[]=>Q
 |.thn y::ks=>Exit.then (y.wp P (qk P Q ks)) (qk P Q ks)
 |.blk id::ks=>Exit.inBlock id (qk P Q ks)
 |.lp K::ks=>Exit.then K (qk P Q ks)
inductive Md where
 |code (c:Code)
 |ops (r:Array Oper) (l:List Oper)
 |ex (e:Exit)
@[reducible] def Ms(P:Program)(Q:Exit->Act->World->Prop)(w0:Frm)(A0:Foot)(N:Nat)(ks:List KF)(Γ:Gam)(H:Hp):Md->Prop
 |.code c=>Tc P (qk P Q ks) w0 A0 N Γ H c
 |.ops r l=>Tl P r (qk P Q ks) w0 A0 N Γ H l
 |.ex e=>At (qk P Q ks) w0 A0 N Γ H e
structure MTab extends FTab where
 tz:List (Nat×List Leaf)
 pl:List (Nat×List (Nat×Nat))
 ft:List ((Nat×Nat)×Nat×Nat)
 un:List (Nat×Nat)
 ik:List (Nat×IntKind)
 inf:List (Nat×Nat×Nat)
structure MTab.Ok(P:Program)(F:MTab):Prop where
 f:F.toFTab.Ok P
 tz:zog (fun e=>TyZero P e.1 e.2) F.tz
 pl:zog (fun e=>zat P e.1=some e.2) F.pl
 ft:zog (fun e=>zaq P e.1.1 e.1.2=some e.2) F.ft
 un:zog (fun e=>P.underlying e.1=some (.slice e.2)) F.un
 ik:zog (fun e=>P.underlying e.1=some (.int e.2)) F.ik
 inf:zog (fun e=>∃(i:TypeInfo) (z:Value),P.info? e.1=some i/\i.zero=some z/\i.size=e.2.1/\z.cells.size=e.2.1/\i.bytes=e.2.2) F.inf
class Tab (P:Program) where
 F:MTab
 ok:F.Ok P
 mo:P.follows .mixedOrders=true
def zdv{α β:Type}:List α->(List α->Option β)->Option β
 |[],k=>k []
 |x::l,k=>zdv l fun l'=>k (x::l')
theorem za7{α β:Type}:∀(l:List α) (k:List α->Option β),zdv l k=k l
 |[],_=>rfl
 |x::l,k=>za7 l fun l'=>k (x::l')
def zsd{β:Type}(Γ:Gam)(dst:Option Nat)(d:Option D)(k:Gam->Option β):Option β:=
 match dst with
 |some s=>k ((s,d)::Γ)
 |none=>k Γ
theorem zeN{β:Type}(Γ:Gam)(dst:Option Nat)(d:Option D)(k:Gam->Option β):zsd Γ dst d k=k (zc8 Γ dst d):=by cases dst <;> rfl
def zuH:List Nat:=[0,1,2,3,4,5,6,7,8,9,10,11,12,13,14,15,16,17,18,19,20,21,22,23,24,25,26,27,28,29,30,31,32,33,34,35,36,37,38,39,40,41,42,43,44,45,46,47,48,49,50,51,52,53,54,55,56,57,58,59,60,61,62,63]
def ztT{β:Type}:Hp->List Nat->(Nat->Option β)->Option β
 |[],n::_,k=>k n
 |_::H,_::l,k=>ztT H l k
 |_,[],_=>none
theorem znq{β:Type}:∀(H:Hp) (l:List Nat) (k:Nat->Option β) {b:β},ztT H l k=some b->∃n,l[H.length]?=some n/\k n=some b
 |[],n::_,k,b,h=>⟨n,rfl,h⟩
 |_::H,_::l,k,b,h=>znq H l k h
 |_,[],_,_,h=>by simp[ztT] at h
theorem zno:zuH=List.range 64:=by decide
theorem znp{β:Type}{H:Hp}{k:Nat->Option β}{b:β}(h:ztT H zuH k=some b):k H.length=some b:=by
 obtain⟨n,h1,h2⟩:=znq H zuH k h;have hl:=(zxc.1 h1).1;rw[zno,List.length_range] at hl;rw[zno,List.getElem?_range hl] at h1;cases h1;exact h2
def zra(k k':IntKind):Bool:=decide (k=k')
def cmpD:BinOp->Int->Int->Option D
 |.lss,m,n=>some (D.bool (decide (m<n)))
 |.leq,m,n=>some (D.bool (decide (m<=n)))
 |.gtr,m,n=>some (D.bool (decide (n<m)))
 |.geq,m,n=>some (D.bool (decide (n<=m)))
 |.eql,m,n=>some (D.bool (m == n))
 |.neq,m,n=>some (D.bool (m != n))
 |_,_,_=>none
def mD(F:MTab)(X:List Nat)(Γ:Gam)(H:Hp):Op->Option D
 |.move x=>bif zq3 x then opD Γ x else match x with
  |.const (.slice none 0 0)=>some (D.v (V.one nilL))
  |_=>none
 |.assign x=>bif zq3 x then opD Γ x else match x with
  |.const (.slice none 0 0)=>some (D.v (V.one nilL))
  |_=>none
 |.build t parts=>
  match zcZ t F.tz with
  |some zs=>match zcZ t F.pl with
   |some pl=>match zek Γ parts.toList with
    |some lp=>match ziL (fun i=>pl[i]?) zs lp with
     |some ls=>zdv ls fun ls=>some (D.agg ls)
     |none=>none
    |none=>none
   |none=>none
  |none=>none
 |.field s x f=>
  match opD Γ x with
  |some (.inl (.inr ls))=>match zrb s f F.ft with
   |some (fo,t)=>match zcZ t F.ty with
    |some (true,n)=>zdv ((ls.drop fo).take n) fun ls=>some (D.agg ls)
    |some (false,n)=>match ls[fo]? with
     |some l=>bif Nat.beq n 1 then some (D.v (V.one l)) else none
     |none=>none
    |none=>none
   |none=>none
  |_=>none
 |.binOp op t x y u=>
  match opD Γ x with
  |some (.inl (.inl (.inl (.int k m))))=>match opD Γ y with
   |some (.inl (.inl (.inl (.int k' n))))=>bif zra k k' then cmpD op m n else none
   |_=>none
  |_=>none
 |.load t x=>
  match opD Γ x with
  |some (.inr (.inr (.inl (i,off))))=>bif X.contains i then none else match H[i]? with
   |some (some e)=>match zcZ t F.ty with
    |some (true,n)=>bif Nat.blt 0 n&&Nat.ble (off+n) e.ls.length then zdv ((e.ls.drop off).take n) fun ls=>some (D.agg ls) else none
    |some (false,n)=>match e.ls[off]? with
     |some l=>bif Nat.beq n 1 then some (D.v (V.one l)) else none
     |none=>none
    |none=>none
   |_=>none
  |_=>none
 |op=>zrK F.toFTab X Γ H op
section
variable {P:Program}{ops:Array Oper}{X:List Nat}{o:Oper}{Γ:Gam}{H:Hp}{F:MTab}
theorem zgG{C:Prop}(h:gst ops Γ o=some true)(hj:o.guard=none->C)(hg:∀{j s:Nat} {want:Bool},o.guard=some (j,want)->(ops[j]?).bind (·.dst)=some s->zbI Γ s=some (D.bool want)->C):C:=by
 unfold gst at h;split at h
 .rename_i hn;exact hj hn
 .rename_i j want hgd;split at h
  .rename_i s hs;split at h
   .rename_i b hb;split at h
    .simp only[zxd] at h;subst h;exact hg hgd hs hb
    .simp only[zxd] at h;have:want=false:=by cases want <;> simp_all
     subst this;exact hg hgd hs hb
   .simp at h
   .simp at h
  .simp at h
theorem zte{op:BinOp}{k:IntKind}{t u:Nat}{x y:Operand}{m n:Int}{d:D}(ho:o.op = .binOp op t x y u)(hx:opD Γ x=some (D.val (.int k m)))(hy:opD Γ y=some (D.val (.int k n)))(h:cmpD op m n=some d):Jq P ops X o Γ H d:=by
 unfold cmpD at h;split at h
 .simp only[zxd] at h;subst h;exact zov ho hx hy rfl
 .simp only[zxd] at h;subst h;exact zow ho hx hy rfl
 .simp only[zxd] at h;subst h;exact zoB ho hx hy rfl
 .simp only[zxd] at h;subst h;exact zoC ho hx hy rfl
 .simp only[zxd] at h;subst h;exact zoF ho hx hy rfl
 .simp only[zxd] at h;subst h;exact zdG ho hx hy rfl
 .simp at h
theorem zuM(hF:F.Ok P){d:D}(h:mD F X Γ H o.op=some d):Jq P ops X o Γ H d:=by
 generalize hop:o.op=op at h;unfold mD at h;split at h
 .rename_i x;cases hn:zq3 x
  .rw[hn] at h;simp only[cond_false] at h;split at h
   .simp only[zxd] at h;subst h;exact zjW hop
   .simp at h
  .rw[hn] at h;exact zou hop h
 .rename_i x;cases hn:zq3 x
  .rw[hn] at h;simp only[cond_false] at h;split at h
   .simp only[zxd] at h;subst h;exact zhP hop
   .simp at h
  .rw[hn] at h;exact zex hop h
 .split at h
  .rename_i zs hz;split at h
   .rename_i pl hpl;split at h
    .rename_i lp hlp;split at h
     .rename_i ls hls;rw[za7] at h;simp only[zxd] at h;subst h;exact zfC hop (zaK hF.tz hz) hlp (zaK hF.pl hpl) hls
     .simp at h
    .simp at h
   .simp at h
  .simp at h
 .split at h
  .rename_i ls hx;split at h
   .rename_i fo t hf;have hf:=zf3 hF.ft hf;split at h
    .rename_i n ht;rw[za7] at h;simp only[zxd] at h;subst h;exact zl0 hop hx hf (zaK hF.f.ty ht) rfl
    .rename_i n ht;split at h
     .rename_i l hl;cases hn:Nat.beq n 1
      .rw[hn] at h;simp at h
      .rw[hn] at h;simp only[cond_true,zxd] at h;subst h;have:=Nat.eq_of_beq_eq_true hn;subst this;exact zoD hop hx hf (zaK hF.f.ty ht) hl
     .simp at h
    .simp at h
   .simp at h
  .simp at h
 .split at h
  .rename_i k m hx;split at h
   .rename_i k' n hy;cases hk:zra k k'
    .rw[hk] at h;simp at h
    .rw[hk] at h;have:=of_decide_eq_true hk;subst this;exact zte hop hx hy h
   .simp at h
  .simp at h
 .rename_i t x;split at h
  .rename_i i off hx;cases hc:X.contains i
   .rw[hc] at h;simp only[cond_false] at h;have ho:ldD F.toFTab X H t i off=some d:=by
     rw[<-h];unfold ldD;rw[hc];simp only[cond_false,za7] <;> rfl
    exact zq9 hF.f hop hx ho
   .rw[hc] at h;simp at h
  .simp at h
 .exact zo2 hF.f (by rw[hop];exact h)
def mE(F:MTab)(Γ:Gam)(H:Hp):Op->Option (Option D×Hp)
 |.alloc t=>match zcZ t F.tz with
  |some zs=>ztT H zuH fun n=>zdv (H++[some ⟨t,zs,none,none⟩]) fun H'=>some (some (D.ptr n 0),H')
  |none=>none
 |.box t x=>match opD Γ x with
  |some (.inl y)=>ztT H zuH fun n=>zdv y.leaves fun ls=>zdv (H++[some ⟨t,ls,none,none⟩]) fun H'=>some (some (D.ptr n 0),H')
  |_=>none
 |.store t x y=>
  match opD Γ x with
  |some (.inr (.inr (.inl (i,off))))=>match opD Γ y with
   |some (.inl v)=>match H[i]? with
    |some (some e)=>match zcZ t F.ty with
     |some (b,n)=>bif Nat.beq v.leaves.length n&&(Nat.blt 0 n&&(Nat.ble (off+n) e.ls.length&&Nat.beq e.fz 0)) then
       zdv (splice e.ls off v.leaves) fun ls=>zdv (H.set i (some ⟨e.t,ls,e.row,e.pin⟩)) fun H'=>some (none,H') else none
     |none=>none
    |_=>none
   |_=>none
  |_=>none
 |_=>none
theorem mE_ok(hF:F.Ok P){d:Option D}{H':Hp}(h:mE F Γ H o.op=some (d,H')):Je P ops o Γ H d H':=by
 generalize hop:o.op=op at h;unfold mE at h;split at h
 .split at h
  .rename_i zs hz;have h:=znp h;rw[za7] at h;simp only[zxd,zxf] at h;obtain⟨rfl,rfl⟩:=h;exact zdP hop (zaK hF.tz hz) rfl
  .simp at h
 .split at h
  .rename_i y hx;have h:=znp h;simp only[za7,zxd,zxf] at h;obtain⟨rfl,rfl⟩:=h;exact zwM hop hx rfl
  .simp at h
 .split at h
  .rename_i i off hx;split at h
   .rename_i v hy;split at h
    .rename_i e hi;split at h
     .rename_i b n ht;have ht:=zaK hF.f.ty ht;cases hc:(Nat.beq v.leaves.length n&&(Nat.blt 0 n&&(Nat.ble (off+n) e.ls.length&&Nat.beq e.fz 0)))
      .rw[hc] at h;simp at h
      .rw[hc] at h;simp only[za7,cond_true,zxd,zxf] at h;simp only[zxo,Nat.blt_eq,Nat.ble_eq,Nat.beq_eq] at hc;obtain⟨rfl,rfl⟩:=h;exact zaM hop hx hy hi ht hc.1 hc.2.1 hc.2.2.1 rfl hc.2.2.2
     .simp at h
    .simp at h
   .simp at h
  .simp at h
 .simp at h
def mO(F:MTab)(N:Nat)(ops:Array Oper)(Γ:Gam)(H:Hp)(o:Oper):Option (Gam×Hp):=
 bif zb1 N o.dst then
  match gst ops Γ o with
  |some true=>
   bif zbk o then
    match mE F Γ H o.op with
    |some (d,H')=>zsd Γ o.dst d fun Γ=>some (Γ,H')
    |none=>none
   else
    match mD F [] Γ H o.op with
    |some d=>zsd Γ o.dst (some d) fun Γ=>some (Γ,H)
    |none=>none
  |some false=>zsd Γ o.dst (some (D.tup [])) fun Γ=>some (Γ,H)
  |none=>none
 else none
theorem mO_ok{Q:Exit->Act->World->Prop}{w0:Frm}{A0:Foot}{N:Nat}{Γ':Gam}{H':Hp}{l:List Oper}(hF:F.Ok P)(h:mO F N ops Γ H o=some (Γ',H'))(hr:Tl P ops Q w0 A0 N Γ' H' l):Tl P ops Q w0 A0 N Γ H (o::l):=by
 unfold mO at h;cases hd:zb1 N o.dst
 .rw[hd] at h;simp at h
 .rw[hd] at h;simp only[cond_true] at h;split at h
  .rename_i hg;cases he:zbk o
   .rw[he] at h;simp only[cond_false] at h;split at h
    .rename_i d hq;simp only[zeN,zxd,zxf] at h;obtain⟨rfl,rfl⟩:=h;have hq:=zuM (ops:=ops) hF hq;exact Tl_q (zgG hg (fun hn=>zwO hn he hq) (fun h1 h2 h3=>zoJ h1 h2 h3 he hq)) hd hr
    .simp at h
   .rw[he] at h;simp only[cond_true] at h;split at h
    .rename_i d2 H2 hf;simp only[zeN,zxd,zxf] at h;obtain⟨rfl,rfl⟩:=h;have hf:=mE_ok (ops:=ops) hF hf;exact Tl_e (zgG hg (fun hn=>JO_e hn he hf) (fun h1 h2 h3=>zwP h1 h2 h3 he hf)) he hd hr
    .simp at h
  .rename_i hg;simp only[zeN,zxd,zxf] at h;obtain⟨rfl,rfl⟩:=h;exact Tl_q (gst_f hg) hd hr
  .simp at h
def mS1(F:MTab)(N:Nat)(ks:List KF)(Γ:Gam)(H:Hp):Md->Option (List KF×Gam×Hp×Md)
 |.code c=>match c with
  |.seq x y=>some (.thn y::ks,Γ,H,.code x)
  |.region _ r dr=>bif dr then none else some (ks,Γ,H,.ops r r.toList)
  |.skip=>some (ks,Γ,H,.ex .normal)
  |.exit id=>some (ks,Γ,H,.ex (.exit id))
  |.block id x=>some (.blk id::ks,Γ,H,.code x)
  |.cond (.tmp s) x y=>match zbI Γ s with
   |some (.inl (.inl (.inl (.bool b))))=>match b with
    |true=>some (ks,Γ,H,.code x)
    |false=>some (ks,Γ,H,.code y)
   |_=>none
  |_=>none
 |.ops r l=>match l with
  |[]=>some (ks,Γ,H,.ex .normal)
  |o::l=>match mO F N r Γ H o with
   |some (Γ',H')=>some (ks,Γ',H',.ops r l)
   |none=>none
 |.ex e=>match ks with
  |[]=>none
  |.thn y::ks=>match e with
   |.normal=>some (ks,Γ,H,.code y)
   |.exit id=>some (ks,Γ,H,.ex (.exit id))
   |_=>none
  |.blk id::ks=>match e with
   |.normal=>some (ks,Γ,H,.ex .normal)
   |.exit id'=>bif Nat.beq id' id then some (ks,Γ,H,.ex .normal) else some (ks,Γ,H,.ex (.exit id'))
   |_=>none
  |.lp _::ks=>match e with
   |.exit id=>some (ks,Γ,H,.ex (.exit id))
   |_=>none
def mSn(F:MTab)(N:Nat):Nat->List KF->Gam->Hp->Md->Option (List KF×Gam×Hp×Md)
 |0,ks,Γ,H,m=>some (ks,Γ,H,m)
 |k+1,ks,Γ,H,m=>match mS1 F N ks Γ H m with
  |some (ks',Γ',H',m')=>mSn F N k ks' Γ' H' m'
  |none=>none
def ztU(F:MTab)(N k:Nat)(ks:List KF)(Γ:Gam)(H:Hp)(m:Md):Option (List KF×Gam×Hp×Md):=zdv Γ fun Γ=>zdv H fun H=>mSn F N k ks Γ H m
section
variable {Q:Exit->Act->World->Prop}{w0:Frm}{A0:Foot}{N:Nat}{ks ks':List KF}{Γ':Gam}{H':Hp}{m m':Md}
theorem zuL(hF:F.Ok P)(h:mS1 F N ks Γ H m=some (ks',Γ',H',m'))(hr:Ms P Q w0 A0 N ks' Γ' H' m'):Ms P Q w0 A0 N ks Γ H m:=by
 unfold mS1 at h;split at h
 .split at h
  .simp only[zxd,zxf] at h;obtain⟨rfl,rfl,rfl,rfl⟩:=h;exact zrs hr
  .rename_i id r dr;cases dr
   .simp only[cond_false,zxd,zxf] at h;obtain⟨rfl,rfl,rfl,rfl⟩:=h;have:=zor (id:=id) (l:=r.toList) (P:=P) (Q:=qk P Q ks) (w0:=w0) (A0:=A0) (N:=N) (Γ:=Γ) (H:=H) hr;exact this
   .simp at h
  .simp only[zxd,zxf] at h;obtain⟨rfl,rfl,rfl,rfl⟩:=h;exact zqf hr
  .simp only[zxd,zxf] at h;obtain⟨rfl,rfl,rfl,rfl⟩:=h;exact zqk hr
  .simp only[zxd,zxf] at h;obtain⟨rfl,rfl,rfl,rfl⟩:=h;exact zqm hr
  .split at h
   .rename_i b hl;split at h
    .simp only[zxd,zxf] at h;obtain⟨rfl,rfl,rfl,rfl⟩:=h;exact Tc_t hl hr
    .simp only[zxd,zxf] at h;obtain⟨rfl,rfl,rfl,rfl⟩:=h;exact Tc_f hl hr
   .simp at h
  .simp at h
 .split at h
  .simp only[zxd,zxf] at h;obtain⟨rfl,rfl,rfl,rfl⟩:=h;exact zwD hr
  .split at h
   .rename_i ho;simp only[zxd,zxf] at h;obtain⟨rfl,rfl,rfl,rfl⟩:=h;exact mO_ok hF ho hr
   .simp at h
 .split at h
  .simp at h
  .split at h
   .simp only[zxd,zxf] at h;obtain⟨rfl,rfl,rfl,rfl⟩:=h;exact ztO hr
   .simp only[zxd,zxf] at h;obtain⟨rfl,rfl,rfl,rfl⟩:=h;exact zfh hr
   .simp at h
  .split at h
   .simp only[zxd,zxf] at h;obtain⟨rfl,rfl,rfl,rfl⟩:=h;exact zqt hr
   .rename_i id _ _ id';cases hb:Nat.beq id' id
    .rw[hb] at h;simp only[cond_false,zxd,zxf] at h;obtain⟨rfl,rfl,rfl,rfl⟩:=h;exact zgJ hb hr
    .rw[hb] at h;have:=Nat.eq_of_beq_eq_true hb;subst this;simp only[cond_true,zxd,zxf] at h;obtain⟨rfl,rfl,rfl,rfl⟩:=h;exact zhT hr
   .simp at h
  .split at h
   .simp only[zxd,zxf] at h;obtain⟨rfl,rfl,rfl,rfl⟩:=h;exact zfh hr
   .simp at h
theorem znu(hF:F.Ok P)(k:Nat)(h:mSn F N k ks Γ H m=some (ks',Γ',H',m'))(hr:Ms P Q w0 A0 N ks' Γ' H' m'):Ms P Q w0 A0 N ks Γ H m:=by
 induction k generalizing ks Γ H m with
 |zero=>
  simp only[mSn,zxd,zxf] at h;obtain⟨rfl,rfl,rfl,rfl⟩:=h;exact hr
 |succ k ih=>
  simp only[mSn] at h;split at h
  .rename_i hs;exact zuL hF hs (ih h)
  .simp at h
theorem zc[T:Tab P]{c:Code}(k:Nat)(h:ztU T.F N k ks Γ H (.code c)=some (ks',Γ',H',m'))(hr:Ms P Q w0 A0 N ks' Γ' H' m'):Tc P (qk P Q ks) w0 A0 N Γ H c:=znu T.ok k (by unfold ztU at h;rw[za7,za7] at h;exact h) hr
theorem zl[T:Tab P]{l:List Oper}(k:Nat)(h:ztU T.F N k ks Γ H (.ops ops l)=some (ks',Γ',H',m'))(hr:Ms P Q w0 A0 N ks' Γ' H' m'):Tl P ops (qk P Q ks) w0 A0 N Γ H l:=znu T.ok k (by unfold ztU at h;rw[za7,za7] at h;exact h) hr
theorem za[T:Tab P]{e:Exit}(k:Nat)(h:ztU T.F N k ks Γ H (.ex e)=some (ks',Γ',H',m'))(hr:Ms P Q w0 A0 N ks' Γ' H' m'):At (qk P Q ks) w0 A0 N Γ H e:=znu T.ok k (by unfold ztU at h;rw[za7,za7] at h;exact h) hr
end
def mI(F:MTab)(Γ:Gam)(H:Hp)(i:Nat):Op->Option (Option D×HE)
 |.store t x y=>
  match opD Γ x with
  |some (.inr (.inr (.inl (j,off))))=>match opD Γ y with
   |some (.inl v)=>match H[i]? with
    |some (some e)=>match zcZ t F.ty with
     |some (b,n)=>bif Nat.beq j i&&(Nat.beq v.leaves.length n&&(Nat.blt 0 n&&(Nat.ble (off+n) e.ls.length&&Nat.beq e.fz 0))) then zdv (splice e.ls off v.leaves) fun ls=>some (none,⟨e.t,ls,e.row,e.pin⟩) else none
     |none=>none
    |_=>none
   |_=>none
  |_=>none
 |.alloc t=>match H[i]? with
  |some none=>match zcZ t F.tz with
   |some zs=>some (some (D.ptr i 0),⟨t,zs,none,none⟩)
   |none=>none
  |_=>none
 |.box t x=>match H[i]? with
  |some none=>match opD Γ x with
   |some (.inl y)=>zdv y.leaves fun ls=>some (some (D.ptr i 0),⟨t,ls,none,none⟩)
   |_=>none
  |_=>none
 |_=>none
theorem mI_ok(hF:F.Ok P){i:Nat}{d:Option D}{e:HE}(h:mI F Γ H i o.op=some (d,e)):∀H2:Hp,H2[i]?=H[i]?->Je P ops o Γ H2 d (H2.set i (some e)):=by
 generalize hop:o.op=op at h;unfold mI at h;split at h
 .split at h
  .rename_i j off hx;split at h
   .rename_i v hy;split at h
    .rename_i e0 hi;split at h
     .rename_i b n ht;have ht:=zaK hF.f.ty ht;cases hc:(Nat.beq j i&&(Nat.beq v.leaves.length n&&(Nat.blt 0 n&&(Nat.ble (off+n) e0.ls.length&&Nat.beq e0.fz 0))))
      .rw[hc] at h;simp at h
      .rw[hc] at h;simp only[za7,cond_true,zxd,zxf] at h;simp only[zxo,Nat.blt_eq,Nat.ble_eq,Nat.beq_eq] at hc;obtain⟨rfl,rfl⟩:=h;obtain⟨rfl,hc⟩:=hc;exact zfD hop hx hy hi ht hc.1 hc.2.1 hc.2.2.1 rfl hc.2.2.2
     .simp at h
    .simp at h
   .simp at h
  .simp at h
 .split at h
  .rename_i hi;split at h
   .rename_i zs hz;simp only[zxd,zxf] at h;obtain⟨rfl,rfl⟩:=h;exact zle hop (zaK hF.tz hz) hi
   .simp at h
  .simp at h
 .split at h
  .rename_i hi;split at h
   .rename_i y hx;simp only[za7,zxd,zxf] at h;obtain⟨rfl,rfl⟩:=h;exact zwN hop hx hi
   .simp at h
  .simp at h
 .simp at h
def mK(F:MTab)(X:List Nat)(tl:List (Option Nat))(ops:Array Oper):Nat->Nat->Gam->Hp->List Oper->Option (Gam×Hp×List Oper)
 |0,_,Γ,H,l=>some (Γ,H,l)
 |_+1,_,_,_,[]=>none
 |k+1,n,Γ,H,o::l=>match gst ops Γ o with
  |some true=>bif zbk o then
    match tl.getD n none with
    |some i=>match mI F Γ H i o.op with
     |some (d,e)=>zsd Γ o.dst d fun Γ=>zdv (H.set i (some e)) fun H=>mK F X tl ops k (n+1) Γ H l
     |none=>none
    |none=>none
   else match mD F X Γ H o.op with
    |some d=>zsd Γ o.dst (some d) fun Γ=>mK F X tl ops k (n+1) Γ H l
    |none=>none
  |some false=>zsd Γ o.dst (some (D.tup [])) fun Γ=>mK F X tl ops k (n+1) Γ H l
  |none=>none
theorem mK_ok{tl:List (Option Nat)}{n:Nat}{l l':List Oper}{Γ':Gam}{H':Hp}{K:Gam->Hp->Prop}(hF:F.Ok P)(k:Nat)(h:mK F X tl ops k n Γ H l=some (Γ',H',l'))(hr:DKn P ops tl X (n+k) l' Γ' H' K):DKn P ops tl X n l Γ H K:=by
 induction k generalizing Γ H l n with
 |zero=>
  simp only[mK,zxd,zxf] at h;obtain⟨rfl,rfl,rfl⟩:=h;exact hr
 |succ k ih=>
  have hr:DKn P ops tl X (n+1+k) l' Γ' H' K:=by rw[Nat.add_right_comm];exact hr
  cases l with
  |nil=>simp[mK] at h
  |cons o l=>
   simp only[mK] at h;split at h
   .rename_i hg;cases he:zbk o
    .rw[he] at h;simp only[cond_false] at h;split at h
     .rename_i d hq;rw[zeN] at h;have hq:=zuM (ops:=ops) hF hq;exact DK_q (zgG hg (fun hn=>zwO hn he hq) (fun h1 h2 h3=>zoJ h1 h2 h3 he hq)) (ih h hr) he
     .simp at h
    .rw[he] at h;simp only[cond_true] at h;split at h
     .rename_i i ht;split at h
      .rename_i d e hm;rw[zeN,za7] at h;have hm:=mI_ok (ops:=ops) hF hm;exact zgG hg (fun hn=>DK_s i ht hn he hm (ih h hr)) (fun h1 h2 h3=>zwR i ht h1 h2 h3 he hm (ih h hr))
      .simp at h
     .simp at h
   .rename_i hg;rw[zeN] at h;exact DK_no hg (ih h hr)
   .simp at h
section
variable {tl:List (Option Nat)}{n:Nat}{l l':List Oper}{os rest:List Oper}{Γ':Gam}{H':Hp}{K:Gam->Hp->Prop}
theorem dz[T:Tab P](k:Nat)(h:(zdv Γ fun Γ=>zdv H fun H=>mK T.F X tl ops k n Γ H l)=some (Γ',H',l'))(hr:DKn P ops tl X (n+k) l' Γ' H' K):DKn P ops tl X n l Γ H K:=mK_ok T.ok k (by rw[za7,za7] at h;exact h) hr
def mkTl(az:List (Nat×Nat))(m:Nat):List (Option Nat):=(List.range m).map fun k=>zcZ k az
variable {Q:Exit->Act->World->Prop}{w0:Frm}{A0:Foot}{N:Nat}{ks:List KF}
theorem dr_[T:Tab P](k:Nat)(az:List (Nat×Nat))(X:List Nat){id:Nat}{l:List Oper}(hd:DKn P l.toArray (mkTl az l.length) X 0 l Γ (H++List.replicate k none) fun Γ' H'=>At Q w0 A0 N Γ' H' .normal)
  (hok:zei N l.toArray (mkTl az l.length) X=true:=by kernel_rfl):Tc P Q w0 A0 N Γ H (.region id l.toArray true):=zql k _ X T.mo hok hd
theorem tq_{d:D}(h1:(gst ops Γ o,zbk o,zb1 N o.dst)=(some true,false,true))(h:Jq P ops [] o Γ H d)(hr:Tl P ops Q w0 A0 N (zc8 Γ o.dst (some d)) H rest):Tl P ops Q w0 A0 N Γ H (o::rest):=by
 simp only[zxf] at h1;exact Tl_q (zgG h1.1 (fun hn=>zwO hn h1.2.1 h) (fun a b c=>zoJ a b c h1.2.1 h)) h1.2.2 hr
theorem te_{d:Option D}(h1:(gst ops Γ o,zbk o,zb1 N o.dst)=(some true,true,true))(h:Je P ops o Γ H d H')(hr:Tl P ops Q w0 A0 N (zc8 Γ o.dst d) H' rest):Tl P ops Q w0 A0 N Γ H (o::rest):=by
 simp only[zxf] at h1;exact Tl_e (zgG h1.1 (fun hn=>JO_e hn h1.2.1 h) (fun a b c=>zwP a b c h1.2.1 h)) h1.2.1 h1.2.2 hr
theorem kq_{d:D}(h1:(gst ops Γ o,zbk o)=(some true,false))(h:Jq P ops X o Γ H d)(hr:DKn P ops tl X (n+1) os (zc8 Γ o.dst (some d)) H K):DKn P ops tl X n (o::os) Γ H K:=by
 simp only[zxf] at h1;exact DK_q (zgG h1.1 (fun hn=>zwO hn h1.2 h) (fun a b c=>zoJ a b c h1.2 h)) hr h1.2
theorem ke_{d:Option D}(h1:(gst ops Γ o,zbk o)=(some true,true))(h:∀H2,Je P ops o Γ H2 d H2)(hr:DKn P ops tl X (n+1) os (zc8 Γ o.dst d) H K):DKn P ops tl X n (o::os) Γ H K:=by
 simp only[zxf] at h1;exact zgG h1.1 (fun hn=>DK_c hn h1.2 h hr) (fun a b c=>DK_cg a b c h1.2 h hr)
theorem ki_(i:Nat){d:Option D}{e:Option HE}(h1:(tl.getD n none,gst ops Γ o,zbk o)=(some i,some true,true))(h:∀H2:Hp,H2[i]?=H[i]?->Je P ops o Γ H2 d (H2.set i e))
  (hr:DKn P ops tl X (n+1) os (zc8 Γ o.dst d) (H.set i e) K):DKn P ops tl X n (o::os) Γ H K:=by
 simp only[zxf] at h1;exact zgG h1.2.1 (fun hn=>DK_s i h1.1 hn h1.2.2 h hr) (fun a b c=>zwR i h1.1 a b c h1.2.2 h hr)
theorem is_{s:Nat}{b:Bool}{G:Gam}{l:List Oper}(b':Bool)(hG:G=(s,some (D.bool b))::Γ)(h:b=b')(hr:Tl P ops Q w0 A0 N ((s,some (D.bool b'))::Γ) H l):Tl P ops Q w0 A0 N G H l:=by subst hG;subst h;exact hr
theorem zgy{s:Nat}{b:Bool}{G:Gam}(b':Bool)(hG:G=(s,some (D.bool b))::Γ)(h:b=b')(hr:DKn P ops tl X n l ((s,some (D.bool b'))::Γ) H K):DKn P ops tl X n l G H K:=by subst hG;subst h;exact hr
theorem zec{s:Nat}{b:Bool}{G:Gam}{l:List Oper}(hG:G=(s,some (D.bool b))::Γ)(hf:b=false->Tl P ops Q w0 A0 N ((s,some (D.bool false))::Γ) H l)(ht:b=true->Tl P ops Q w0 A0 N ((s,some (D.bool true))::Γ) H l):Tl P ops Q w0 A0 N G H l:=by
 subst hG;cases b
 .exact hf rfl
 .exact ht rfl
theorem zkG{s:Nat}{b:Bool}{G:Gam}(hG:G=(s,some (D.bool b))::Γ)(hf:b=false->DKn P ops tl X n l ((s,some (D.bool false))::Γ) H K)(ht:b=true->DKn P ops tl X n l ((s,some (D.bool true))::Γ) H K):DKn P ops tl X n l G H K:=by
 subst hG;cases b
 .exact hf rfl
 .exact ht rfl
theorem eq_{s:Nat}{d:D}{G:Gam}{l:List Oper}(d':D)(hG:G=(s,some d)::Γ)(h:d=d')(hr:Tl P ops Q w0 A0 N ((s,some d')::Γ) H l):Tl P ops Q w0 A0 N G H l:=by subst hG;subst h;exact hr
theorem zsx{s:Nat}{d:D}{G:Gam}(d':D)(hG:G=(s,some d)::Γ)(h:d=d')(hr:DKn P ops tl X n l ((s,some d')::Γ) H K):DKn P ops tl X n l G H K:=by subst hG;subst h;exact hr
theorem kp_(X':List Nat){d:D}(h1:(gst ops Γ o,zbk o)=(some true,false))(h:Jq P ops X' o Γ H d)(hr:DKn P ops tl X (n+1) os (zc8 Γ o.dst (some d)) H K)(hx:(X.all fun x=>X'.contains x||zce ops tl x n)=true:=by kernel_rfl):DKn P ops tl X n (o::os) Γ H K:=by
 simp only[zxf] at h1;exact DK_qp X' (zgG h1.1 (fun hn=>zwO hn h1.2 h) (fun a b c=>zoJ a b c h1.2 h)) hx hr h1.2
theorem zg1{f:Nat}{args:Array Operand}{tys:Array TypeId}(ho:o.op = .call { callee:=.value (.func f),args:=args,argTypes:=tys }):zbk o=true:=by unfold zbk;rw[ho]
theorem tc_{f:Nat}{args:Array Operand}{tys:Array TypeId}{xs:List V}{y:R}(hf:zay P f)(h:(gst ops Γ o,zb1 N o.dst,o.op,zcE Γ args.toList)=(some true,true,Op.call { callee:=.value (.func f),args:=args,argTypes:=tys },some xs))
  (hspec:Ctr P f xs y) (hr:Tl P ops Q w0 A0 N (zc8 Γ o.dst (some y.toD)) H rest) (hcl:zgd xs=true:=by rfl):Tl P ops Q w0 A0 N Γ H (o::rest):=by
 simp only[zxf] at h;exact te_ (by rw[h.1,h.2.1,zg1 h.2.2.1]) (zoG h.2.2.1 hf h.2.2.2 hspec hcl) hr
theorem kc_{f:Nat}{args:Array Operand}{tys:Array TypeId}{xs:List V}{y:R}(hf:zay P f)(h:(gst ops Γ o,o.op,zcE Γ args.toList)=(some true,Op.call { callee:=.value (.func f),args:=args,argTypes:=tys },some xs))
  (hspec:Ctr P f xs y) (hr:DKn P ops tl X (n+1) os (zc8 Γ o.dst (some y.toD)) H K) (hcl:zgd xs=true:=by rfl):DKn P ops tl X n (o::os) Γ H K:=by
 simp only[zxf] at h;exact ke_ (by rw[h.1,zg1 h.2.1]) (ztL h.2.1 hf h.2.2 hspec hcl) hr
end
section
variable {x y:Operand}{t u:Nat}
theorem jld[T:Tab P]{i off:Nat}{e:HE}{l:Leaf}(h:(o.op,opD Γ x,H[i]?,X.contains i,zcZ t T.F.ty,e.ls[off]?)=(Op.load t x,some (D.ptr i off),some (some e),false,some (false,1),some l)):Jq P ops X o Γ H (D.v (V.one l)):=by
 simp only[zxf] at h;exact zbZ h.1 h.2.1 h.2.2.1 (fun hm=>by rw[List.contains_iff_mem.2 hm] at h;simp at h) (zaK T.ok.f.ty h.2.2.2.2.1) h.2.2.2.2.2
theorem jln[T:Tab P]{n:Nat}{ls:List Leaf}(h:(o.op,opD Γ x,zcZ t T.F.un)=(Op.call { callee:=.builtin .len,args:=#[x],argTypes:=#[t] },some (D.rep (zal n ls)),some u)):Jq P ops X o Γ H (D.int n):=by
 simp only[zxf] at h;exact zwL h.1 h.2.1 (zaK T.ok.un h.2.2)
theorem jlr[T:Tab P]{n:Nat}{ls:List Leaf}(h:(o.op,opD Γ x,zcZ t T.F.ty)=(Op.load t x,some (D.rep (zbf ls)),some (true,n)))(hn:n=ls.length:=by rfl):Jq P ops X o Γ H (D.agg ls):=by
 simp only[zxf] at h;exact zgw h.1 h.2.1 (zaK T.ok.f.ty h.2.2) hn
theorem jli[T:Tab P]{l:Leaf}{ls:List Leaf}(h:(o.op,opD Γ x,zcZ t T.F.ty)=(Op.load t x,some (D.rep (zbf (l::ls))),some (false,1))):Jq P ops X o Γ H (D.v (V.one l)):=by
 simp only[zxf] at h;exact zjX h.1 h.2.1 (zaK T.ok.f.ty h.2.2)
theorem jfr[T:Tab P]{s f fo sz:Nat}{ls:List Leaf}(h:(o.op,opD Γ x,zrb s f T.F.fo,Nat.beq sz 0)=(Op.fieldAddr s x f,some (D.rep (zbf ls)),some (fo,sz),false)):Jq P ops X o Γ H (D.rep (zbf (ls.drop fo))):=by
 simp only[zxf] at h;exact zdn h.1 h.2.1 (zf3 T.ok.f.fo h.2.2.1) h.2.2.2
theorem jft[T:Tab P]{s f fo sz:Nat}{ls:List Leaf}(h:(o.op,opD Γ x,zrb s f T.F.fo,Nat.beq sz 0)=(Op.fieldAddr s x f,some (D.rep (zbf ls)),some (fo,sz),false)){ls':List Leaf}(hls:(ls.drop fo).take sz=ls':=by rfl):Jq P ops X o Γ H (D.rep (zbf ls')):=by
 simp only[zxf] at h;exact ze2 h.1 h.2.1 (zf3 T.ok.f.fo h.2.2.1) h.2.2.2 hls
theorem jix[T:Tab P]{α:Type}{e:El α}{l:List α}{v:α}{k:IntKind}{j:Int}{b:Bool}(i:Nat)(hi:l[i]?=some v)(h:(o.op,opD Γ x,opD Γ y,zcZ t T.F.un,zcZ u T.F.ty)=(Op.indexAddr t x y,some (D.v (V.one (e.row l))),some (D.val (.int k j)),some u,some (b,e.sz)))
  (hj:j=(i:Int):=by first|rfl|omega):Jq P ops X o Γ H (D.rep (zbf (e.f v))):=by
 simp only[zxf] at h;exact zox e l i h.1 h.2.1 h.2.2.1 (zaK T.ok.un h.2.2.2.1) (zaK T.ok.f.ty h.2.2.2.2) hi hj
theorem ji1[T:Tab P]{n:Nat}{k:IntKind}{j:Int}{b:Bool}{ls:List Leaf}{l:Leaf}(h:(o.op,opD Γ x,opD Γ y,zcZ t T.F.un,zcZ u T.F.ty)=(Op.indexAddr t x y,some (D.rep (zal n ls)),some (D.val (.int k j)),some u,some (b,1)))
  (hl:ls[j.toNat]?=some l) (h0:0<=j:=by omega) (hj:j<n:=by omega):Jq P ops X o Γ H (D.rep (zbf [l])):=by
 simp only[zxf] at h;exact zoA h.1 h.2.1 h.2.2.1 (zaK T.ok.un h.2.2.2.1) (zaK T.ok.f.ty h.2.2.2.2) h0 hj hl
theorem zh5{l0 l1:Leaf}:∀(ls:List Leaf),subL l0 l1 ls ls
 |[]=>trivial
 |l::ls=>⟨.inl rfl,zh5 ls⟩
theorem zkh{l0 l1:Leaf}:∀{ls:List Leaf} {k:Nat},ls[k]?=some l0->subL l0 l1 ls (ls.set k l1)
 |[],_,h=>by simp at h
 |l::ls,0,h=>by simp at h;subst h;exact⟨.inr ⟨rfl,rfl⟩,zh5 ls⟩
 |l::ls,k+1,h=>by simp at h;exact⟨.inl rfl,zkh h⟩
theorem jvl[T:Tab P]{α:Type}{e:El α}{l:List α}{i off n r m u sz:Nat}{e0:HE}{ls:List Leaf}(k:Nat)
  (h:(o.op,opD Γ x,H[i]?,zcZ t T.F.ty,(e0.ls.drop off).take n,ls[k]?,H[r]?)=(Op.load t x,some (D.ptr i off),some (some e0),some (true,n),ls,some (Leaf.own r m),some (some ⟨u,e.all l,some sz,some (.inr ((e.all l).length,some m))⟩)))
  (hk:(X.contains i,X.contains r,Nat.blt 0 n&&Nat.ble (off+n) e0.ls.length,e.sz,Nat.blt 0 sz)=(false,false,true,sz,true)):Jq P ops X o Γ H (D.agg (ls.set k (e.row l))):=by
 simp only[zxf,zxo,Nat.blt_eq,Nat.ble_eq] at h hk;obtain⟨h1,h2,h3,h4,rfl,k1,h6⟩:=h;obtain⟨k2,k3,k4,k5,k6⟩:=hk;have ni:∀{a:Nat},X.contains a=false->a ∉ X:=fun hc hm=>by rw[List.contains_iff_mem.2 hm] at hc;simp at hc
 exact zjU (zbe h1 h2 h3 (ni k2) (zaK T.ok.f.ty h4) k4.1 k4.2 rfl) (RowAt.ofE e l h6 k6 k5) (ni k3) (zkh k1)
theorem ltT{k:IntKind}{m n:Int}(h:(o.op,opD Γ x,opD Γ y)=(Op.binOp .lss t x y u,some (D.val (.int k m)),some (D.val (.int k n))))(hr:m<n:=by omega):Jq P ops X o Γ H (D.bool true):=by
 simp only[zxf] at h;exact zov h.1 h.2.1 h.2.2 (dT hr)
theorem ltF{k:IntKind}{m n:Int}(h:(o.op,opD Γ x,opD Γ y)=(Op.binOp .lss t x y u,some (D.val (.int k m)),some (D.val (.int k n))))(hr:¬m<n:=by omega):Jq P ops X o Γ H (D.bool false):=by
 simp only[zxf] at h;exact zov h.1 h.2.1 h.2.2 (dF hr)
theorem leT{k:IntKind}{m n:Int}(h:(o.op,opD Γ x,opD Γ y)=(Op.binOp .leq t x y u,some (D.val (.int k m)),some (D.val (.int k n))))(hr:m<=n:=by omega):Jq P ops X o Γ H (D.bool true):=by
 simp only[zxf] at h;exact zow h.1 h.2.1 h.2.2 (dT hr)
theorem leF{k:IntKind}{m n:Int}(h:(o.op,opD Γ x,opD Γ y)=(Op.binOp .leq t x y u,some (D.val (.int k m)),some (D.val (.int k n))))(hr:¬m<=n:=by omega):Jq P ops X o Γ H (D.bool false):=by
 simp only[zxf] at h;exact zow h.1 h.2.1 h.2.2 (dF hr)
theorem gtT{k:IntKind}{m n:Int}(h:(o.op,opD Γ x,opD Γ y)=(Op.binOp .gtr t x y u,some (D.val (.int k m)),some (D.val (.int k n))))(hr:n<m:=by omega):Jq P ops X o Γ H (D.bool true):=by
 simp only[zxf] at h;exact zoB h.1 h.2.1 h.2.2 (dT hr)
theorem gtF{k:IntKind}{m n:Int}(h:(o.op,opD Γ x,opD Γ y)=(Op.binOp .gtr t x y u,some (D.val (.int k m)),some (D.val (.int k n))))(hr:¬n<m:=by omega):Jq P ops X o Γ H (D.bool false):=by
 simp only[zxf] at h;exact zoB h.1 h.2.1 h.2.2 (dF hr)
theorem geT{k:IntKind}{m n:Int}(h:(o.op,opD Γ x,opD Γ y)=(Op.binOp .geq t x y u,some (D.val (.int k m)),some (D.val (.int k n))))(hr:n<=m:=by omega):Jq P ops X o Γ H (D.bool true):=by
 simp only[zxf] at h;exact zoC h.1 h.2.1 h.2.2 (dT hr)
theorem geF{k:IntKind}{m n:Int}(h:(o.op,opD Γ x,opD Γ y)=(Op.binOp .geq t x y u,some (D.val (.int k m)),some (D.val (.int k n))))(hr:¬n<=m:=by omega):Jq P ops X o Γ H (D.bool false):=by
 simp only[zxf] at h;exact zoC h.1 h.2.1 h.2.2 (dF hr)
theorem eqT{k:IntKind}{m n:Int}(h:(o.op,opD Γ x,opD Γ y)=(Op.binOp .eql t x y u,some (D.val (.int k m)),some (D.val (.int k n))))(hr:m=n:=by omega):Jq P ops X o Γ H (D.bool true):=by
 simp only[zxf] at h;exact zoF h.1 h.2.1 h.2.2 (eT hr)
theorem eqF{k:IntKind}{m n:Int}(h:(o.op,opD Γ x,opD Γ y)=(Op.binOp .eql t x y u,some (D.val (.int k m)),some (D.val (.int k n))))(hr:m≠n:=by omega):Jq P ops X o Γ H (D.bool false):=by
 simp only[zxf] at h;exact zoF h.1 h.2.1 h.2.2 (eF hr)
theorem neT{k:IntKind}{m n:Int}(h:(o.op,opD Γ x,opD Γ y)=(Op.binOp .neq t x y u,some (D.val (.int k m)),some (D.val (.int k n))))(hr:m≠n:=by omega):Jq P ops X o Γ H (D.bool true):=by
 simp only[zxf] at h;exact zdG h.1 h.2.1 h.2.2 (nT hr)
theorem neF{k:IntKind}{m n:Int}(h:(o.op,opD Γ x,opD Γ y)=(Op.binOp .neq t x y u,some (D.val (.int k m)),some (D.val (.int k n))))(hr:m=n:=by omega):Jq P ops X o Γ H (D.bool false):=by
 simp only[zxf] at h;exact zdG h.1 h.2.1 h.2.2 (nF hr)
theorem jad{a b:Int}(n:Nat)(h:(o.op,opD Γ x,opD Γ y)=(Op.binOp .add t x y u,some (D.val (.int .i64 a)),some (D.val (.int .i64 b))))(hr:a+b=(n:Int)/\(n:Int)<=9223372036854775807:=by omega):Jq P ops X o Γ H (D.val (.int .i64 (n:Int))):=by
 simp only[zxf] at h;exact zbj h.1 h.2.1 h.2.2 (w64 hr.1 (by omega) hr.2)
theorem jsb{a b:Int}(n:Nat)(h:(o.op,opD Γ x,opD Γ y)=(Op.binOp .sub t x y u,some (D.val (.int .i64 a)),some (D.val (.int .i64 b))))(hr:a-b=(n:Int)/\(n:Int)<=9223372036854775807:=by omega):Jq P ops X o Γ H (D.val (.int .i64 (n:Int))):=by
 simp only[zxf] at h;exact zaI h.1 h.2.1 h.2.2 (w64 hr.1 (by omega) hr.2)
theorem jcv[T:Tab P]{src dst:Nat}{k k':IntKind}{m:Int}(n:Nat)(h:(o.op,opD Γ x,zcZ dst T.F.ik,(zcZ src T.F.ik).isSome)=(Op.convert src dst x,some (D.val (.int k m)),some k',true))(hr:k'.wrap m=(n:Int)):Jq P ops X o Γ H (D.val (.int k' (n:Int))):=by
 simp only[zxf,Option.isSome_iff_exists] at h;obtain⟨h1,h2,h3,k0,h4⟩:=h;exact zl3 h1 h2 (zaK T.ok.ik h3) (by rw[zaK T.ok.ik h4];rfl) hr
theorem jc6[T:Tab P]{src dst:Nat}{k:IntKind}{m:Int}(n:Nat)(h:(o.op,opD Γ x,zcZ dst T.F.ik,(zcZ src T.F.ik).isSome)=(Op.convert src dst x,some (D.val (.int k m)),some .u64,true))(hr:m%18446744073709551616=(n:Int):=by omega):Jq P ops X o Γ H (D.val (.int .u64 (n:Int))):=jcv n h (zcC hr)
theorem jc3[T:Tab P]{src dst:Nat}{k:IntKind}{m:Int}(n:Nat)(h:(o.op,opD Γ x,zcZ dst T.F.ik,(zcZ src T.F.ik).isSome)=(Op.convert src dst x,some (D.val (.int k m)),some .u32,true))(hr:m%4294967296=(n:Int):=by omega):Jq P ops X o Γ H (D.val (.int .u32 (n:Int))):=jcv n h (zry hr)
theorem jci[T:Tab P]{src dst:Nat}{k:IntKind}{m:Int}(n:Nat)(h:(o.op,opD Γ x,zcZ dst T.F.ik,(zcZ src T.F.ik).isSome)=(Op.convert src dst x,some (D.val (.int k m)),some .i64,true))(hr:m=(n:Int)/\(n:Int)<=9223372036854775807:=by omega):Jq P ops X o Γ H (D.val (.int .i64 (n:Int))):=jcv n h (w64 hr.1 (by omega) hr.2)
theorem jap[T:Tab P]{α:Type}{e:El α}{l:List α}{t2 u2 r n sz bt:Nat}(v:α)
  (h:(o.op,opD Γ x,H[r]?,opD Γ y)=(Op.call { callee:=.builtin .append,args:=#[x,y],argTypes:=#[t,t2] },some (D.v (V.one (Leaf.own r n))),some (some ⟨u,e.all l,some sz,some (.inr ((e.all l).length,some n))⟩),some (D.rep (zal 1 (e.f v)))))
  (h2:(zcZ t T.F.un,zcZ t2 T.F.un,zcZ u T.F.inf,e.sz,Nat.blt 0 sz)=(some u,some u2,some (sz,bt),sz,true))
  (hb:l.length+1<=9223372036854775807/\(l.length+1)*bt<=140737488355328:=by first|omega|(simp only[zxq,zxr,zxA,List.length_cons,List.length_nil];omega)) :
  Je P ops o Γ H (some (D.v (V.one (Leaf.own r (n+1))))) (H.set r (some ⟨u,e.all (l++[v]),some sz,some (.inr ((e.all (l++[v])).length,some (n+1)))⟩)):=by
 simp only[zxf,Nat.blt_eq] at h h2;obtain⟨i,z,i1,i2,i3,i4,i5⟩:=zaK T.ok.inf h2.2.2.1;exact zl4 e l v h.1 h.2.1 h.2.2.2 h.2.2.1 h2.2.2.2.2 (zaK T.ok.un h2.1) (zaK T.ok.un h2.2.1) i1 i2 i3 i4 (by simp only[maxLen];omega) (by rw[i5];exact hb.2) h2.2.2.2.1
theorem jal[T:Tab P]{α:Type}{e:El α}{l l2:List α}{t2 u2 r n sz bt:Nat}
  (h:(o.op,opD Γ x,H[r]?,opD Γ y)=(Op.call { callee:=.builtin .append,args:=#[x,y],argTypes:=#[t,t2] },some (D.v (V.one (Leaf.own r n))),some (some ⟨u,e.all l,some sz,some (.inr ((e.all l).length,some n))⟩),some (D.v (V.one (e.row l2)))))
  (h2:(zcZ t T.F.un,zcZ t2 T.F.un,zcZ u T.F.inf,e.sz,Nat.blt 0 sz)=(some u,some u2,some (sz,bt),sz,true))
  (hb:l.length+l2.length<=9223372036854775807/\(l.length+l2.length)*bt<=140737488355328:=by first|omega|(simp only[zxq,zxr,zxA,List.length_cons,List.length_nil];omega)) :
  Je P ops o Γ H (some (D.v (V.one (Leaf.own r (n+1))))) (H.set r (some ⟨u,e.all (l++l2),some sz,some (.inr ((e.all (l++l2)).length,some (n+1)))⟩)):=by
 simp only[zxf,Nat.blt_eq] at h h2;obtain⟨i,z,i1,i2,i3,i4,i5⟩:=zaK T.ok.inf h2.2.2.1;exact zj2 e l l2 h.1 h.2.1 h.2.2.2 h.2.2.1 h2.2.2.2.2 (zaK T.ok.un h2.1) (zaK T.ok.un h2.2.1) i1 i2 i3 i4 (by simp only[maxLen];omega) (by rw[i5];exact hb.2) h2.2.2.2.1
theorem dap[T:Tab P]{α:Type}{e:El α}{l:List α}{t2 u2 r n sz bt:Nat}(v:α)
  (h:(o.op,opD Γ x,H[r]?,opD Γ y)=(Op.call { callee:=.builtin .append,args:=#[x,y],argTypes:=#[t,t2] },some (D.v (V.one (Leaf.own r n))),some (some ⟨u,e.all l,some sz,some (.inr ((e.all l).length,some n))⟩),some (D.rep (zal 1 (e.f v)))))
  (h2:(zcZ t T.F.un,zcZ t2 T.F.un,zcZ u T.F.inf,e.sz,Nat.blt 0 sz)=(some u,some u2,some (sz,bt),sz,true))
  (hb:l.length+1<=9223372036854775807/\(l.length+1)*bt<=140737488355328:=by first|omega|(simp only[zxq,zxr,zxA,List.length_cons,List.length_nil];omega)) :
  ∀H2:Hp,H2[r]?=H[r]?->Je P ops o Γ H2 (some (D.v (V.one (Leaf.own r (n+1))))) (H2.set r (some ⟨u,e.all (l++[v]),some sz,some (.inr ((e.all (l++[v])).length,some (n+1)))⟩)):=
 fun _ hH=>jap v (by rw[hH];exact h) h2 hb
end
end
@[reducible] def so(k:Nat)(d:D):Nat×Option D:=(k,some d)
def lkN(Γ:Gam):Gam->List (Option D)
 |[]=>[]
 |e::g=>zbm Γ e.1::lkN Γ g
def lkV:Gam->List (Option D)
 |[]=>[]
 |e::g=>e.2::lkV g
theorem zdL{Γ:Gam}:∀{g:Gam},lkN Γ g=lkV g->zgF Γ g
 |[],_=>trivial
 |(s,some d)::g,h=>by simp only[lkN,lkV,List.cons.injEq] at h;exact⟨h.1,zdL h.2⟩
 |(s,none)::g,h=>by simp only[lkN,lkV,List.cons.injEq] at h;exact zdL (Γ:=Γ) (g:=g) h.2
def frG:List Nat->Gam->Gam
 |[],g=>g
 |i::l,g=>frG l (zaL i g)
def frH:List Nat->Hp->Hp
 |[],H=>H
 |i::l,H=>frH l (H.set i none)
def frK:List Nat->Hp->Bool
 |[],_=>true
 |i::l,H=>!zhZ H i&&frK l (H.set i none)
section
variable {P:Program}{Q:Exit->Act->World->Prop}{w0:Frm}{A0:Foot}{N:Nat}{ks:List KF}{Γ:Gam}{H:Hp}
theorem bd_{f N:Nat}{fn:Func}{c:Code}{xs:List V}{y:R}(hf:P.funcs[f]?=some fn)(hN:fn.ntmps=N)(h:(fn.body,Nat.ble xs.length (min N 2000))=(some c,true))
  (hc:∀w0 A0,Tc P (qk P (zrt P fn w0 A0 y) []) w0 A0 N (zdD 0 xs) [] c):Ctr P f xs y:=by
 simp only[zxf,Nat.ble_eq] at h;exact Ctr.of_body hf h.1 hN h.2 hc
theorem qc_{c:Code}(h:Tc P (qk P Q []) w0 A0 N Γ H c):Tc P Q w0 A0 N Γ H c:=h
theorem nz_{c:Code}(Γ':Gam)(H':Hp)(hk:lkN Γ Γ'=lkV Γ')(hH:H=H')(h:Tc P Q w0 A0 N Γ' H' c):Tc P Q w0 A0 N Γ H c:=ztC Γ' H' (zdL hk) hH h
theorem fr_{c:Code}:∀(l:List Nat) {Γ:Gam} {H:Hp},frK l H=true->Tc P Q w0 A0 N (frG l Γ) (frH l H) c->Tc P Q w0 A0 N Γ H c
 |[],_,_,_,h=>h
 |i::l,_,_,hk,h=>by
  simp only[frK,zxo,Bool.not_eq_true'] at hk;exact ztF i (fr_ l hk.2 h) hk.1
theorem nf_{c:Code}(l:List Nat)(Γ':Gam)(H':Hp)(h0:frK l H=true)(hk:lkN (frG l Γ) Γ'=lkV Γ')(hH:frH l H=H')(h:Tc P Q w0 A0 N Γ' H' c):Tc P Q w0 A0 N Γ H c:=fr_ l h0 (nz_ Γ' H' hk hH h)
theorem zbO{c:Code}(I:Nat->Gam->Hp->Prop){m0:Nat}{Γ0:Gam}(h0:I m0 Γ0 H)(hk:lkN Γ Γ0=lkV Γ0)
  (round:∀m Γ H,I m Γ H->Tc P (qk P Q (.lp (fun a w=>∃m' Γ' H',m'<m/\I m' Γ' H'/\St w0 A0 N Γ' H' a w)::ks)) w0 A0 N Γ H c):Tc P (qk P Q ks) w0 A0 N Γ H (.loop c):=zla I h0 (zdL hk) round
theorem ztV{c:Code}(I:Nat->Gam->Hp->Prop){m0:Nat}{Γ0:Gam}(h0:I m0 Γ0 H)(hk:zgF Γ Γ0)
  (round:∀m Γ H,I m Γ H->Tc P (qk P Q (.lp (fun a w=>∃m' Γ' H',m'<m/\I m' Γ' H'/\St w0 A0 N Γ' H' a w)::ks)) w0 A0 N Γ H c):Tc P (qk P Q ks) w0 A0 N Γ H (.loop c):=zla I h0 hk round
theorem nx_{I:Nat->Gam->Hp->Prop}{m m':Nat}{Γ':Gam}(hI:I m' Γ' H)(hk:lkN Γ Γ'=lkV Γ')(hm:m'<m:=by omega) :
  At (qk P Q (.lp (fun a w=>∃m' Γ' H',m'<m/\I m' Γ' H'/\St w0 A0 N Γ' H' a w)::ks)) w0 A0 N Γ H .normal:=zj3 hm hI (zdL hk)
theorem mt_{x y:Code}(Γ':Gam)(H':Hp)(h:Tc P (qk P Q (.lp (fun a w=>St w0 A0 N Γ' H' a w)::ks)) w0 A0 N Γ H x)(hy:Tc P (qk P Q ks) w0 A0 N Γ' H' y):Tc P (qk P Q ks) w0 A0 N Γ H (.seq x y):=ztD h hy
theorem mx_{Γ':Gam}(hk:lkN Γ Γ'=lkV Γ'):At (qk P Q (.lp (fun a w=>St w0 A0 N Γ' H a w)::ks)) w0 A0 N Γ H .normal:=zhS (zdL hk)
def rvD(F:MTab)(Γ:Gam)(H:Hp):ResultVar->Option V
 |.tmp s=>match zbI Γ s with
  |some (.inl x)=>some x
  |_=>none
 |.cell s t=>match zbI Γ s with
  |some (.inr (.inr (.inl (i,off))))=>match H[i]? with
   |some (some e)=>match zcZ t F.ty with
    |some (true,n)=>bif Nat.beq off 0&&(Nat.beq e.ls.length n&&Nat.blt 0 n) then some (V.agg e.ls) else none
    |_=>none
   |_=>none
  |_=>none
theorem zgR{F:MTab}(hF:F.Ok P){r:ResultVar}{x:V}(h:rvD F Γ H r=some x):zfk P Γ H r x:=by
 unfold rvD at h;split at h
 .split at h
  .rename_i x hx;simp only[zxd] at h;subst h;exact hx
  .simp at h
 .split at h
  .rename_i i off hs;split at h
   .rename_i e hi;split at h
    .rename_i n ht;cases hc:(Nat.beq off 0&&(Nat.beq e.ls.length n&&Nat.blt 0 n))
     .rw[hc] at h;simp at h
     .rw[hc] at h;simp only[cond_true,zxd] at h;simp only[zxo,Nat.beq_eq,Nat.blt_eq] at hc;obtain⟨rfl,rfl,h2⟩:=hc;exact⟨i,e,hs,hi,.inl ⟨zaK hF.f.ty ht,h2,h.symm⟩⟩
    .simp at h
   .simp at h
  .simp at h
theorem r1_[T:Tab P]{fn:Func}{y:R}{r:ResultVar}{x:V}(hQ:∀a w,zrt P fn w0 A0 y .ret a w->Q .ret a w)(h:(fn.results,rvD T.F Γ H r)=(#[r],some x))(hy:R.one x=y)(hcl:x.cl=true:=by rfl):Tc P Q w0 A0 N Γ H .ret:=by
 simp only[zxf] at h;exact ztB hQ h.1 (zgR T.ok h.2) hy hcl
theorem r2_[T:Tab P]{fn:Func}{y:R}{r r':ResultVar}{x x':V}(hQ:∀a w,zrt P fn w0 A0 y .ret a w->Q .ret a w)(h:(fn.results,rvD T.F Γ H r,rvD T.F Γ H r')=(#[r,r'],some x,some x'))(hy:R.tup [x,x']=y)(hcl:zgd [x,x']=true:=by rfl):Tc P Q w0 A0 N Γ H .ret:=by
 simp only[zxf] at h;exact ztA hQ h.1 (zgR T.ok h.2.1) (zgR T.ok h.2.2) hy hcl
theorem r3_[T:Tab P]{fn:Func}{y:R}{r r' r'':ResultVar}{x x' x'':V}(hQ:∀a w,zrt P fn w0 A0 y .ret a w->Q .ret a w)(h:(fn.results,rvD T.F Γ H r,rvD T.F Γ H r',rvD T.F Γ H r'')=(#[r,r',r''],some x,some x',some x''))(hy:R.tup [x,x',x'']=y)(hcl:zgd [x,x',x'']=true:=by rfl):Tc P Q w0 A0 N Γ H .ret:=by
 simp only[zxf] at h;exact ztz hQ h.1 (zgR T.ok h.2.1) (zgR T.ok h.2.2.1) (zgR T.ok h.2.2.2) hy hcl
end
end Rc
namespace Go.Proofs.YticnclbnchgigaaGreatDoor
open Go Rc
theorem follows:Tryz.prog.follows .mixedOrders=true:=by kernel_rfl
theorem fk_{f:Nat}{fn:Func}(h:Tryz.prog.funcs[f]? = some fn)(h1:fn.body.isNone = false:=by kernel_rfl)(h2:(fn.name == "runtime.NumGoroutine") = false:=by kernel_rfl):zay Tryz.prog f:=⟨fn,h,h1,h2⟩
theorem tk_{t n:Nat}{b:Bool}(h1:(Tryz.prog.underlying t).map aggD = some b:=by kernel_rfl)(h2:(Tryz.prog.info? t).map (·.size) = some n:=by kernel_rfl):TyIs Tryz.prog t b n:=⟨h1,h2⟩
theorem fn4:zay Tryz.prog 4:=fk_ Tryz.func4
theorem fn5:zay Tryz.prog 5:=fk_ Tryz.func5
theorem fn6:zay Tryz.prog 6:=fk_ Tryz.func6
theorem fn7:zay Tryz.prog 7:=fk_ Tryz.func7
theorem fn8:zay Tryz.prog 8:=fk_ Tryz.func8
theorem fn9:zay Tryz.prog 9:=fk_ Tryz.func9
theorem fn10:zay Tryz.prog 10:=fk_ Tryz.func10
theorem fn12:zay Tryz.prog 12:=fk_ Tryz.func12
theorem fn13:zay Tryz.prog 13:=fk_ Tryz.func13
theorem fn14:zay Tryz.prog 14:=fk_ Tryz.func14
theorem fn16:zay Tryz.prog 16:=fk_ Tryz.func16
theorem fn17:zay Tryz.prog 17:=fk_ Tryz.func17
theorem fn18:zay Tryz.prog 18:=fk_ Tryz.func18
theorem fn19:zay Tryz.prog 19:=fk_ Tryz.func19
theorem fn20:zay Tryz.prog 20:=fk_ Tryz.func20
theorem zt1:zay Tryz.prog 21:=fk_ Tryz.func21
theorem zw9:zay Tryz.prog 22:=fk_ Tryz.func22
theorem fn23:zay Tryz.prog 23:=fk_ Tryz.func23
theorem zsY:zay Tryz.prog 24:=fk_ Tryz.func24
theorem fn25:zay Tryz.prog 25:=fk_ Tryz.func25
theorem fn26:zay Tryz.prog 26:=fk_ Tryz.func26
theorem fn27:zay Tryz.prog 27:=fk_ Tryz.func27
theorem fn28:zay Tryz.prog 28:=fk_ Tryz.func28
theorem fn29:zay Tryz.prog 29:=fk_ Tryz.func29
theorem zw8:zay Tryz.prog 30:=fk_ Tryz.func30
theorem fn31:zay Tryz.prog 31:=fk_ Tryz.func31
theorem fn32:zay Tryz.prog 32:=fk_ Tryz.func32
theorem zre:zay Tryz.prog 33:=fk_ Tryz.func33
theorem fn34:zay Tryz.prog 34:=fk_ Tryz.func34
theorem fn35:zay Tryz.prog 35:=fk_ Tryz.func35
theorem fn36:zay Tryz.prog 36:=fk_ Tryz.func36
theorem zsX:zay Tryz.prog 37:=fk_ Tryz.func37
theorem fn38:zay Tryz.prog 38:=fk_ Tryz.func38
theorem fn39:zay Tryz.prog 39:=fk_ Tryz.func39
theorem fn40:zay Tryz.prog 40:=fk_ Tryz.func40
theorem zpI:zay Tryz.prog 41:=fk_ Tryz.func41
theorem fn42:zay Tryz.prog 42:=fk_ Tryz.func42
theorem fn43:zay Tryz.prog 43:=fk_ Tryz.func43
theorem zw7:zay Tryz.prog 44:=fk_ Tryz.func44
theorem zw6:zay Tryz.prog 45:=fk_ Tryz.func45
theorem zw5:zay Tryz.prog 46:=fk_ Tryz.func46
theorem zhU:zay Tryz.prog 47:=fk_ Tryz.func47
theorem znO:zay Tryz.prog 48:=fk_ Tryz.func48
theorem zt0:zay Tryz.prog 49:=fk_ Tryz.func49
theorem zw4:zay Tryz.prog 50:=fk_ Tryz.func50
theorem zsW:zay Tryz.prog 51:=fk_ Tryz.func51
theorem zw3:zay Tryz.prog 52:=fk_ Tryz.func52
theorem zv1:zay Tryz.prog 53:=fk_ Tryz.func53
theorem fn54:zay Tryz.prog 54:=fk_ Tryz.func54
theorem zrd:zay Tryz.prog 55:=fk_ Tryz.func55
theorem zv0:zay Tryz.prog 56:=fk_ Tryz.func56
theorem fn57:zay Tryz.prog 57:=fk_ Tryz.func57
theorem zoM:zay Tryz.prog 58:=fk_ Tryz.func58
theorem zw2:zay Tryz.prog 59:=fk_ Tryz.func59
theorem fn60:zay Tryz.prog 60:=fk_ Tryz.func60
theorem fn61:zay Tryz.prog 61:=fk_ Tryz.func61
theorem zw1:zay Tryz.prog 62:=fk_ Tryz.func62
theorem zvZ:zay Tryz.prog 63:=fk_ Tryz.func63
theorem zw0:zay Tryz.prog 64:=fk_ Tryz.func64
theorem fn65:zay Tryz.prog 65:=fk_ Tryz.func65
theorem zsV:zay Tryz.prog 66:=fk_ Tryz.func66
theorem zrc:zay Tryz.prog 67:=fk_ Tryz.func67
theorem fn68:zay Tryz.prog 68:=fk_ Tryz.func68
theorem ztZ:zay Tryz.prog 69:=fk_ Tryz.func69
theorem zwZ:zay Tryz.prog 70:=fk_ Tryz.func70
theorem fn71:zay Tryz.prog 71:=fk_ Tryz.func71
theorem fn72:zay Tryz.prog 72:=fk_ Tryz.func72
theorem zpH:zay Tryz.prog 73:=fk_ Tryz.func73
theorem fn74:zay Tryz.prog 74:=fk_ Tryz.func74
theorem fn75:zay Tryz.prog 75:=fk_ Tryz.func75
theorem zsU:zay Tryz.prog 76:=fk_ Tryz.func76
theorem zjH:zay Tryz.prog 77:=fk_ Tryz.func77
theorem fn78:zay Tryz.prog 78:=fk_ Tryz.func78
theorem zsT:zay Tryz.prog 79:=fk_ Tryz.func79
theorem zpG:zay Tryz.prog 80:=fk_ Tryz.func80
theorem fn81:zay Tryz.prog 81:=fk_ Tryz.func81
theorem zvY:zay Tryz.prog 82:=fk_ Tryz.func82
theorem fn83:zay Tryz.prog 83:=fk_ Tryz.func83
theorem zwY:zay Tryz.prog 84:=fk_ Tryz.func84
theorem zsS:zay Tryz.prog 85:=fk_ Tryz.func85
theorem fn86:zay Tryz.prog 86:=fk_ Tryz.func86
theorem fn87:zay Tryz.prog 87:=fk_ Tryz.func87
theorem fn88:zay Tryz.prog 88:=fk_ Tryz.func88
theorem fn89:zay Tryz.prog 89:=fk_ Tryz.func89
theorem zwX:zay Tryz.prog 90:=fk_ Tryz.func90
theorem zsR:zay Tryz.prog 91:=fk_ Tryz.func91
theorem ztY:zay Tryz.prog 92:=fk_ Tryz.func92
theorem fn93:zay Tryz.prog 93:=fk_ Tryz.func93
theorem ztX:zay Tryz.prog 94:=fk_ Tryz.func94
theorem zeU:zay Tryz.prog 95:=fk_ Tryz.func95
theorem zwW:zay Tryz.prog 96:=fk_ Tryz.func96
theorem fn97:zay Tryz.prog 97:=fk_ Tryz.func97
theorem fn98:zay Tryz.prog 98:=fk_ Tryz.func98
theorem fn99:zay Tryz.prog 99:=fk_ Tryz.func99
theorem zs3:zay Tryz.prog 100:=fk_ Tryz.func100
theorem zlK:zay Tryz.prog 101:=fk_ Tryz.func101
theorem fn102:zay Tryz.prog 102:=fk_ Tryz.func102
theorem znQ:zay Tryz.prog 103:=fk_ Tryz.func103
theorem fn104:zay Tryz.prog 104:=fk_ Tryz.func104
theorem fn105:zay Tryz.prog 105:=fk_ Tryz.func105
theorem zf5:zay Tryz.prog 106:=fk_ Tryz.func106
theorem zpJ:zay Tryz.prog 107:=fk_ Tryz.func107
theorem zlJ:zay Tryz.prog 108:=fk_ Tryz.func108
theorem fn109:zay Tryz.prog 109:=fk_ Tryz.func109
theorem zs2:zay Tryz.prog 110:=fk_ Tryz.func110
theorem zwb:zay Tryz.prog 111:=fk_ Tryz.func111
theorem fn112:zay Tryz.prog 112:=fk_ Tryz.func112
theorem zwa:zay Tryz.prog 113:=fk_ Tryz.func113
theorem fn114:zay Tryz.prog 114:=fk_ Tryz.func114
theorem fn115:zay Tryz.prog 115:=fk_ Tryz.func115
theorem zs1:zay Tryz.prog 116:=fk_ Tryz.func116
theorem fn117:zay Tryz.prog 117:=fk_ Tryz.func117
theorem fn118:zay Tryz.prog 118:=fk_ Tryz.func118
theorem zv9:zay Tryz.prog 119:=fk_ Tryz.func119
theorem zv8:zay Tryz.prog 120:=fk_ Tryz.func120
theorem fn121:zay Tryz.prog 121:=fk_ Tryz.func121
theorem fn122:zay Tryz.prog 122:=fk_ Tryz.func122
theorem znP:zay Tryz.prog 123:=fk_ Tryz.func123
theorem zgI:zay Tryz.prog 124:=fk_ Tryz.func124
theorem zs0:zay Tryz.prog 125:=fk_ Tryz.func125
theorem zsZ:zay Tryz.prog 126:=fk_ Tryz.func126
theorem fn127:zay Tryz.prog 127:=fk_ Tryz.func127
theorem zv7:zay Tryz.prog 143:=fk_ Tryz.func143
theorem fn145:zay Tryz.prog 145:=fk_ Tryz.func145
theorem fn146:zay Tryz.prog 146:=fk_ Tryz.func146
theorem fn147:zay Tryz.prog 147:=fk_ Tryz.func147
theorem fn148:zay Tryz.prog 148:=fk_ Tryz.func148
theorem zv6:zay Tryz.prog 149:=fk_ Tryz.func149
theorem fn150:zay Tryz.prog 150:=fk_ Tryz.func150
theorem zgH:zay Tryz.prog 151:=fk_ Tryz.func151
theorem fn152:zay Tryz.prog 152:=fk_ Tryz.func152
theorem fn153:zay Tryz.prog 153:=fk_ Tryz.func153
theorem fn154:zay Tryz.prog 154:=fk_ Tryz.func154
theorem fn155:zay Tryz.prog 155:=fk_ Tryz.func155
theorem fn156:zay Tryz.prog 156:=fk_ Tryz.func156
theorem zv5:zay Tryz.prog 157:=fk_ Tryz.func157
theorem fn158:zay Tryz.prog 158:=fk_ Tryz.func158
theorem zlI:zay Tryz.prog 159:=fk_ Tryz.func159
theorem zv4:zay Tryz.prog 160:=fk_ Tryz.func160
theorem zv3:zay Tryz.prog 161:=fk_ Tryz.func161
theorem zv2:zay Tryz.prog 162:=fk_ Tryz.func162
theorem zvX:zah Tryz.prog 25 0=some (0,1):=by kernel_rfl
theorem zvW:zah Tryz.prog 25 1=some (1,1):=by kernel_rfl
theorem zvV:zah Tryz.prog 25 2=some (2,1):=by kernel_rfl
theorem zvU:zah Tryz.prog 28 0=some (0,1):=by kernel_rfl
theorem zvT:zah Tryz.prog 28 1=some (1,1):=by kernel_rfl
theorem zvS:zah Tryz.prog 28 2=some (2,1):=by kernel_rfl
theorem zvR:zah Tryz.prog 33 0=some (0,1):=by kernel_rfl
theorem zvQ:zah Tryz.prog 33 1=some (1,1):=by kernel_rfl
theorem zvP:zah Tryz.prog 33 2=some (2,1):=by kernel_rfl
theorem zvO:zah Tryz.prog 35 0=some (0,1):=by kernel_rfl
theorem zvN:zah Tryz.prog 35 1=some (1,3):=by kernel_rfl
theorem zvM:zah Tryz.prog 37 0=some (0,3):=by kernel_rfl
theorem zvL:zah Tryz.prog 37 1=some (3,3):=by kernel_rfl
theorem zvK:zah Tryz.prog 37 2=some (6,4):=by kernel_rfl
theorem zvJ:zah Tryz.prog 43 0=some (0,10):=by kernel_rfl
theorem zvI:zah Tryz.prog 43 1=some (10,1):=by kernel_rfl
theorem zvH:zah Tryz.prog 43 2=some (11,1):=by kernel_rfl
theorem zvG:zah Tryz.prog 48 0=some (0,1):=by kernel_rfl
theorem zvF:zah Tryz.prog 48 1=some (1,1):=by kernel_rfl
theorem zvE:zah Tryz.prog 53 0=some (0,1):=by kernel_rfl
theorem zvD:zah Tryz.prog 53 1=some (1,3):=by kernel_rfl
theorem zvC:zah Tryz.prog 57 0=some (0,1):=by kernel_rfl
theorem zvB:zah Tryz.prog 57 1=some (1,1):=by kernel_rfl
theorem zvA:zah Tryz.prog 57 2=some (2,3):=by kernel_rfl
theorem zvz:zah Tryz.prog 57 3=some (5,1):=by kernel_rfl
theorem zvy:zah Tryz.prog 65 0=some (0,1):=by kernel_rfl
theorem zvx:zah Tryz.prog 65 1=some (1,1):=by kernel_rfl
theorem zvw:zah Tryz.prog 65 2=some (2,3):=by kernel_rfl
theorem zvv:zah Tryz.prog 81 0=some (0,1):=by kernel_rfl
theorem zvu:zah Tryz.prog 81 1=some (1,1):=by kernel_rfl
theorem zvt:zah Tryz.prog 88 0=some (0,1):=by kernel_rfl
theorem zvs:zah Tryz.prog 88 1=some (1,1):=by kernel_rfl
theorem zvr:zah Tryz.prog 93 0=some (0,1):=by kernel_rfl
theorem zvq:zah Tryz.prog 93 1=some (1,1):=by kernel_rfl
theorem zvp:zah Tryz.prog 93 2=some (2,1):=by kernel_rfl
theorem zsQ:zah Tryz.prog 175 0=some (0,1):=by kernel_rfl
theorem zsP:zah Tryz.prog 175 1=some (1,1):=by kernel_rfl
theorem zsO:zah Tryz.prog 175 2=some (2,1):=by kernel_rfl
theorem zsN:zah Tryz.prog 175 3=some (3,1):=by kernel_rfl
theorem zsM:zah Tryz.prog 177 0=some (0,4):=by kernel_rfl
theorem zsL:zah Tryz.prog 177 1=some (4,3):=by kernel_rfl
theorem zvn:zaq Tryz.prog 25 0=some (0,3):=by kernel_rfl
theorem zvm:zaq Tryz.prog 25 1=some (1,23):=by kernel_rfl
theorem zvl:zaq Tryz.prog 25 2=some (2,23):=by kernel_rfl
theorem zvk:zaq Tryz.prog 28 0=some (0,26):=by kernel_rfl
theorem zvj:zaq Tryz.prog 28 1=some (1,26):=by kernel_rfl
theorem zvi:zaq Tryz.prog 28 2=some (2,23):=by kernel_rfl
theorem zvh:zaq Tryz.prog 33 0=some (0,4):=by kernel_rfl
theorem zvg:zaq Tryz.prog 33 1=some (1,31):=by kernel_rfl
theorem zvf:zaq Tryz.prog 33 2=some (2,31):=by kernel_rfl
theorem zve:zaq Tryz.prog 35 0=some (0,29):=by kernel_rfl
theorem zvd:zaq Tryz.prog 35 1=some (1,33):=by kernel_rfl
theorem zvc:zaq Tryz.prog 37 0=some (0,25):=by kernel_rfl
theorem zvb:zaq Tryz.prog 37 1=some (3,28):=by kernel_rfl
theorem zva:zaq Tryz.prog 37 2=some (6,35):=by kernel_rfl
theorem zu9:zaq Tryz.prog 43 0=some (0,37):=by kernel_rfl
theorem zu8:zaq Tryz.prog 43 1=some (10,40):=by kernel_rfl
theorem zu7:zaq Tryz.prog 43 2=some (11,41):=by kernel_rfl
theorem zu6:zaq Tryz.prog 48 0=some (0,9):=by kernel_rfl
theorem zu5:zaq Tryz.prog 48 1=some (1,3):=by kernel_rfl
theorem zu4:zaq Tryz.prog 53 0=some (0,3):=by kernel_rfl
theorem zu3:zaq Tryz.prog 53 1=some (1,33):=by kernel_rfl
theorem zu2:zaq Tryz.prog 57 0=some (0,3):=by kernel_rfl
theorem zu1:zaq Tryz.prog 57 1=some (1,4):=by kernel_rfl
theorem zu0:zaq Tryz.prog 57 2=some (2,33):=by kernel_rfl
theorem zuZ:zaq Tryz.prog 57 3=some (5,55):=by kernel_rfl
theorem zuY:zaq Tryz.prog 65 0=some (0,3):=by kernel_rfl
theorem zuX:zaq Tryz.prog 65 1=some (1,3):=by kernel_rfl
theorem zuW:zaq Tryz.prog 65 2=some (2,33):=by kernel_rfl
theorem zuV:zaq Tryz.prog 81 0=some (0,4):=by kernel_rfl
theorem zuU:zaq Tryz.prog 81 1=some (1,31):=by kernel_rfl
theorem zuT:zaq Tryz.prog 88 0=some (0,22):=by kernel_rfl
theorem zuS:zaq Tryz.prog 88 1=some (1,3):=by kernel_rfl
theorem zuR:zaq Tryz.prog 93 0=some (0,4):=by kernel_rfl
theorem zuQ:zaq Tryz.prog 93 1=some (1,31):=by kernel_rfl
theorem zuP:zaq Tryz.prog 93 2=some (2,3):=by kernel_rfl
theorem zsK:zaq Tryz.prog 175 0=some (0,3):=by kernel_rfl
theorem zsJ:zaq Tryz.prog 175 1=some (1,3):=by kernel_rfl
theorem zsI:zaq Tryz.prog 175 2=some (2,3):=by kernel_rfl
theorem zsH:zaq Tryz.prog 175 3=some (3,3):=by kernel_rfl
theorem zsG:zaq Tryz.prog 177 0=some (0,175):=by kernel_rfl
theorem zsF:zaq Tryz.prog 177 1=some (4,33):=by kernel_rfl
theorem in2:∃i:TypeInfo,Tryz.prog.info? 2=some i/\i.zero=some (.int .i64 0)/\i.size=1/\i.bytes=8:=(info_parts (by kernel_rfl))
theorem in3:∃i:TypeInfo,Tryz.prog.info? 3=some i/\i.zero=some (.int .i64 0)/\i.size=1/\i.bytes=8:=(info_parts (by kernel_rfl))
theorem in4:∃i:TypeInfo,Tryz.prog.info? 4=some i/\i.zero=some (.bool false)/\i.size=1/\i.bytes=1:=(info_parts (by kernel_rfl))
theorem in5:∃i:TypeInfo,Tryz.prog.info? 5=some i/\i.zero=some (.int .u8 0)/\i.size=1/\i.bytes=1:=(info_parts (by kernel_rfl))
theorem in9:∃i:TypeInfo,Tryz.prog.info? 9=some i/\i.zero=some (.string ⟨#[]⟩)/\i.size=1/\i.bytes=16:=(info_parts (by kernel_rfl))
theorem in12:∃i:TypeInfo,Tryz.prog.info? 12=some i/\i.zero=some (.int .u64 0)/\i.size=1/\i.bytes=8:=(info_parts (by kernel_rfl))
theorem in21:∃i:TypeInfo,Tryz.prog.info? 21=some i/\i.zero=some (.int .i32 0)/\i.size=1/\i.bytes=4:=(info_parts (by kernel_rfl))
theorem in22:∃i:TypeInfo,Tryz.prog.info? 22=some i/\i.zero=some (.slice none 0 0)/\i.size=1/\i.bytes=24:=(info_parts (by kernel_rfl))
theorem in23:∃i:TypeInfo,Tryz.prog.info? 23=some i/\i.zero=some (.slice none 0 0)/\i.size=1/\i.bytes=24:=(info_parts (by kernel_rfl))
theorem in25:∃i:TypeInfo,Tryz.prog.info? 25=some i/\i.zero=some (.agg #[.int .i64 0,.slice none 0 0,.slice none 0 0])/\i.size=3/\i.bytes=56:=(info_parts (by kernel_rfl))
theorem in26:∃i:TypeInfo,Tryz.prog.info? 26=some i/\i.zero=some (.slice none 0 0)/\i.size=1/\i.bytes=24:=(info_parts (by kernel_rfl))
theorem in28:∃i:TypeInfo,Tryz.prog.info? 28=some i/\i.zero=some (.agg #[.slice none 0 0,.slice none 0 0,.slice none 0 0])/\i.size=3/\i.bytes=72:=(info_parts (by kernel_rfl))
theorem in29:∃i:TypeInfo,Tryz.prog.info? 29=some i/\i.zero=some (.slice none 0 0)/\i.size=1/\i.bytes=24:=(info_parts (by kernel_rfl))
theorem in30:∃i:TypeInfo,Tryz.prog.info? 30=some i/\i.zero=some (.slice none 0 0)/\i.size=1/\i.bytes=24:=(info_parts (by kernel_rfl))
theorem in31:∃i:TypeInfo,Tryz.prog.info? 31=some i/\i.zero=some (.slice none 0 0)/\i.size=1/\i.bytes=24:=(info_parts (by kernel_rfl))
theorem in33:∃i:TypeInfo,Tryz.prog.info? 33=some i/\i.zero=some (.agg #[.bool false,.slice none 0 0,.slice none 0 0])/\i.size=3/\i.bytes=56:=(info_parts (by kernel_rfl))
theorem in35:∃i:TypeInfo,Tryz.prog.info? 35=some i/\i.zero=some (.agg #[.slice none 0 0,.bool false,.slice none 0 0,.slice none 0 0])/\i.size=4/\i.bytes=80:=(info_parts (by kernel_rfl))
theorem in37:∃i:TypeInfo,Tryz.prog.info? 37=some i/\i.zero=some (.agg #[.int .i64 0,.slice none 0 0,.slice none 0 0,.slice none 0 0,.slice none 0 0,.slice none 0 0,.slice none 0 0,.bool false,.slice none 0 0,.slice none 0 0])/\i.size=10/\i.bytes=208:=(info_parts (by kernel_rfl))
theorem in40:∃i:TypeInfo,Tryz.prog.info? 40=some i/\i.zero=some (.slice none 0 0)/\i.size=1/\i.bytes=24:=(info_parts (by kernel_rfl))
theorem in41:∃i:TypeInfo,Tryz.prog.info? 41=some i/\i.zero=some (.slice none 0 0)/\i.size=1/\i.bytes=24:=(info_parts (by kernel_rfl))
theorem in43:∃i:TypeInfo,Tryz.prog.info? 43=some i/\i.zero=some (.agg #[.int .i64 0,.slice none 0 0,.slice none 0 0,.slice none 0 0,.slice none 0 0,.slice none 0 0,.slice none 0 0,.bool false,.slice none 0 0,.slice none 0 0,.slice none 0 0,.slice none 0 0])/\i.size=12/\i.bytes=256:=(info_parts (by kernel_rfl))
theorem in44:∃i:TypeInfo,Tryz.prog.info? 44=some i/\i.zero=some (.int .i64 0)/\i.size=1/\i.bytes=8:=(info_parts (by kernel_rfl))
theorem in48:∃i:TypeInfo,Tryz.prog.info? 48=some i/\i.zero=some (.agg #[.string ⟨#[]⟩,.int .i64 0])/\i.size=2/\i.bytes=24:=(info_parts (by kernel_rfl))
theorem in53:∃i:TypeInfo,Tryz.prog.info? 53=some i/\i.zero=some (.agg #[.int .i64 0,.bool false,.slice none 0 0,.slice none 0 0])/\i.size=4/\i.bytes=64:=(info_parts (by kernel_rfl))
theorem in55:∃i:TypeInfo,Tryz.prog.info? 55=some i/\i.zero=some (.slice none 0 0)/\i.size=1/\i.bytes=24:=(info_parts (by kernel_rfl))
theorem in57:∃i:TypeInfo,Tryz.prog.info? 57=some i/\i.zero=some (.agg #[.int .i64 0,.bool false,.bool false,.slice none 0 0,.slice none 0 0,.slice none 0 0])/\i.size=6/\i.bytes=96:=(info_parts (by kernel_rfl))
theorem in65:∃i:TypeInfo,Tryz.prog.info? 65=some i/\i.zero=some (.agg #[.int .i64 0,.int .i64 0,.bool false,.slice none 0 0,.slice none 0 0])/\i.size=5/\i.bytes=72:=(info_parts (by kernel_rfl))
theorem in81:∃i:TypeInfo,Tryz.prog.info? 81=some i/\i.zero=some (.agg #[.bool false,.slice none 0 0])/\i.size=2/\i.bytes=32:=(info_parts (by kernel_rfl))
theorem in88:∃i:TypeInfo,Tryz.prog.info? 88=some i/\i.zero=some (.agg #[.slice none 0 0,.int .i64 0])/\i.size=2/\i.bytes=32:=(info_parts (by kernel_rfl))
theorem in93:∃i:TypeInfo,Tryz.prog.info? 93=some i/\i.zero=some (.agg #[.bool false,.slice none 0 0,.int .i64 0])/\i.size=3/\i.bytes=40:=(info_parts (by kernel_rfl))
theorem in105:∃i:TypeInfo,Tryz.prog.info? 105=some i/\i.zero=some (.int .u64 0)/\i.size=1/\i.bytes=8:=(info_parts (by kernel_rfl))
theorem zcb:∃i:TypeInfo,Tryz.prog.info? 106=some i/\i.zero=some (.int .u32 0)/\i.size=1/\i.bytes=4:=(info_parts (by kernel_rfl))
theorem in124:∃i:TypeInfo,Tryz.prog.info? 124=some i/\i.zero=some (.int .u64 0)/\i.size=1/\i.bytes=8:=(info_parts (by kernel_rfl))
theorem in127:∃i:TypeInfo,Tryz.prog.info? 127=some i/\i.zero=some (.agg #[.int .i64 0,.int .i64 0,.int .i64 0,.int .i64 0])/\i.size=4/\i.bytes=32:=(info_parts (by kernel_rfl))
theorem in152:∃i:TypeInfo,Tryz.prog.info? 152=some i/\i.zero=some (.agg #[.int .u8 0,.int .u8 0,.int .u8 0,.int .u8 0,.int .u8 0,.int .u8 0,.int .u8 0,.int .u8 0,.int .u8 0,.int .u8 0,.int .u8 0,.int .u8 0,.int .u8 0,.int .u8 0,.int .u8 0,.int .u8 0,.int .u8 0,.int .u8 0,.int .u8 0,.int .u8 0,.int .u8 0,.int .u8 0,.int .u8 0,.int .u8 0,.int .u8 0,.int .u8 0,.int .u8 0,.int .u8 0,.int .u8 0,.int .u8 0,.int .u8 0,.int .u8 0])/\i.size=32/\i.bytes=32:=(info_parts (by kernel_rfl))
theorem in175:∃i:TypeInfo,Tryz.prog.info? 175=some i/\i.zero=some (.agg #[.int .i64 0,.int .i64 0,.int .i64 0,.int .i64 0])/\i.size=4/\i.bytes=32:=(info_parts (by kernel_rfl))
theorem in177:∃i:TypeInfo,Tryz.prog.info? 177=some i/\i.zero=some (.agg #[.int .i64 0,.int .i64 0,.int .i64 0,.int .i64 0,.bool false,.slice none 0 0,.slice none 0 0])/\i.size=7/\i.bytes=88:=(info_parts (by kernel_rfl))
theorem pl25:zat Tryz.prog 25=some [(0,1),(1,1),(2,1)]:=by kernel_rfl
theorem pl28:zat Tryz.prog 28=some [(0,1),(1,1),(2,1)]:=by kernel_rfl
theorem pl33:zat Tryz.prog 33=some [(0,1),(1,1),(2,1)]:=by kernel_rfl
theorem pl35:zat Tryz.prog 35=some [(0,1),(1,3)]:=by kernel_rfl
theorem pl37:zat Tryz.prog 37=some [(0,3),(3,3),(6,4)]:=by kernel_rfl
theorem pl43:zat Tryz.prog 43=some [(0,10),(10,1),(11,1)]:=by kernel_rfl
theorem pl48:zat Tryz.prog 48=some [(0,1),(1,1)]:=by kernel_rfl
theorem pl53:zat Tryz.prog 53=some [(0,1),(1,3)]:=by kernel_rfl
theorem pl57:zat Tryz.prog 57=some [(0,1),(1,1),(2,3),(5,1)]:=by kernel_rfl
theorem pl65:zat Tryz.prog 65=some [(0,1),(1,1),(2,3)]:=by kernel_rfl
theorem pl81:zat Tryz.prog 81=some [(0,1),(1,1)]:=by kernel_rfl
theorem pl88:zat Tryz.prog 88=some [(0,1),(1,1)]:=by kernel_rfl
theorem pl93:zat Tryz.prog 93=some [(0,1),(1,1),(2,1)]:=by kernel_rfl
theorem pl175:zat Tryz.prog 175=some [(0,1),(1,1),(2,1),(3,1)]:=by kernel_rfl
theorem pl177:zat Tryz.prog 177=some [(0,4),(4,3)]:=by kernel_rfl
theorem tx25:TyZero Tryz.prog 25 [Leaf.val (.int .i64 0),Leaf.val (.slice none 0 0),Leaf.val (.slice none 0 0)]:=⟨.agg #[.int .i64 0,.slice none 0 0,.slice none 0 0],by kernel_rfl,⟨.inl rfl,.inr rfl,.inr rfl,trivial⟩,by decide⟩
theorem tx28:TyZero Tryz.prog 28 [Leaf.val (.slice none 0 0),Leaf.val (.slice none 0 0),Leaf.val (.slice none 0 0)]:=⟨.agg #[.slice none 0 0,.slice none 0 0,.slice none 0 0],by kernel_rfl,⟨.inr rfl,.inr rfl,.inr rfl,trivial⟩,by decide⟩
theorem zwU:TyZero Tryz.prog 35 [Leaf.val (.slice none 0 0),Leaf.val (.bool false),nilL,nilL]:=⟨.agg #[.slice none 0 0,.bool false,.slice none 0 0,.slice none 0 0],by kernel_rfl,⟨.inr rfl,.inl rfl,.inl rfl,.inl rfl,trivial⟩,by decide⟩
theorem ty2:TyIs Tryz.prog 2 false 1:=tk_
theorem ty3:TyIs Tryz.prog 3 false 1:=tk_
theorem ty4:TyIs Tryz.prog 4 false 1:=tk_
theorem ty5:TyIs Tryz.prog 5 false 1:=tk_
theorem ty9:TyIs Tryz.prog 9 false 1:=tk_
theorem ty12:TyIs Tryz.prog 12 false 1:=tk_
theorem ty21:TyIs Tryz.prog 21 false 1:=tk_
theorem ty22:TyIs Tryz.prog 22 false 1:=tk_
theorem ty23:TyIs Tryz.prog 23 false 1:=tk_
theorem ty25:TyIs Tryz.prog 25 true 3:=tk_
theorem ty26:TyIs Tryz.prog 26 false 1:=tk_
theorem ty28:TyIs Tryz.prog 28 true 3:=tk_
theorem ty29:TyIs Tryz.prog 29 false 1:=tk_
theorem ty30:TyIs Tryz.prog 30 false 1:=tk_
theorem ty31:TyIs Tryz.prog 31 false 1:=tk_
theorem ztR:TyIs Tryz.prog 33 true 3:=tk_
theorem zh3:TyIs Tryz.prog 35 true 4:=tk_
theorem ty37:TyIs Tryz.prog 37 true 10:=tk_
theorem ty40:TyIs Tryz.prog 40 false 1:=tk_
theorem ty41:TyIs Tryz.prog 41 false 1:=tk_
theorem ty43:TyIs Tryz.prog 43 true 12:=tk_
theorem ty44:TyIs Tryz.prog 44 false 1:=tk_
theorem ty48:TyIs Tryz.prog 48 true 2:=tk_
theorem zl5:TyIs Tryz.prog 53 true 4:=tk_
theorem ty55:TyIs Tryz.prog 55 false 1:=tk_
theorem zwT:TyIs Tryz.prog 57 true 6:=tk_
theorem ty62:TyIs Tryz.prog 62 false 1:=tk_
theorem ty65:TyIs Tryz.prog 65 true 5:=tk_
theorem ty81:TyIs Tryz.prog 81 true 2:=tk_
theorem ty88:TyIs Tryz.prog 88 true 2:=tk_
theorem ty93:TyIs Tryz.prog 93 true 3:=tk_
theorem ty105:TyIs Tryz.prog 105 false 1:=tk_
theorem zap:TyIs Tryz.prog 106 false 1:=tk_
theorem ty124:TyIs Tryz.prog 124 false 1:=tk_
theorem ty127:TyIs Tryz.prog 127 true 4:=tk_
theorem ty152:TyIs Tryz.prog 152 true 32:=tk_
theorem ty175:TyIs Tryz.prog 175 true 4:=tk_
theorem zdr:TyIs Tryz.prog 177 true 7:=tk_
theorem tz2:TyZero Tryz.prog 2 [Leaf.val (.int .i64 0)]:=TyZero.of (.int .i64 0) (by kernel_rfl) rfl (by decide)
theorem tz3:TyZero Tryz.prog 3 [Leaf.val (.int .i64 0)]:=TyZero.of (.int .i64 0) (by kernel_rfl) rfl (by decide)
theorem tz4:TyZero Tryz.prog 4 [Leaf.val (.bool false)]:=TyZero.of (.bool false) (by kernel_rfl) rfl (by decide)
theorem tz5:TyZero Tryz.prog 5 [Leaf.val (.int .u8 0)]:=TyZero.of (.int .u8 0) (by kernel_rfl) rfl (by decide)
theorem tz9:TyZero Tryz.prog 9 [Leaf.val (.string ⟨#[]⟩)]:=TyZero.of (.string ⟨#[]⟩) (by kernel_rfl) rfl (by decide)
theorem tz12:TyZero Tryz.prog 12 [Leaf.val (.int .u64 0)]:=TyZero.of (.int .u64 0) (by kernel_rfl) rfl (by decide)
theorem tz21:TyZero Tryz.prog 21 [Leaf.val (.int .i32 0)]:=TyZero.of (.int .i32 0) (by kernel_rfl) rfl (by decide)
theorem tz22:TyZero Tryz.prog 22 [nilL]:=TyZero.of (.slice none 0 0) (by kernel_rfl) rfl (by decide)
theorem tz23:TyZero Tryz.prog 23 [nilL]:=TyZero.of (.slice none 0 0) (by kernel_rfl) rfl (by decide)
theorem tz25:TyZero Tryz.prog 25 [Leaf.val (.int .i64 0),nilL,nilL]:=TyZero.of (.agg #[.int .i64 0,.slice none 0 0,.slice none 0 0]) (by kernel_rfl) rfl (by decide)
theorem tz26:TyZero Tryz.prog 26 [nilL]:=TyZero.of (.slice none 0 0) (by kernel_rfl) rfl (by decide)
theorem tz28:TyZero Tryz.prog 28 [nilL,nilL,nilL]:=TyZero.of (.agg #[.slice none 0 0,.slice none 0 0,.slice none 0 0]) (by kernel_rfl) rfl (by decide)
theorem tz29:TyZero Tryz.prog 29 [nilL]:=TyZero.of (.slice none 0 0) (by kernel_rfl) rfl (by decide)
theorem tz30:TyZero Tryz.prog 30 [nilL]:=TyZero.of (.slice none 0 0) (by kernel_rfl) rfl (by decide)
theorem tz31:TyZero Tryz.prog 31 [nilL]:=TyZero.of (.slice none 0 0) (by kernel_rfl) rfl (by decide)
theorem zuh:TyZero Tryz.prog 33 [Leaf.val (.bool false),nilL,nilL]:=TyZero.of (.agg #[.bool false,.slice none 0 0,.slice none 0 0]) (by kernel_rfl) rfl (by decide)
theorem ztQ:TyZero Tryz.prog 35 [nilL,Leaf.val (.bool false),nilL,nilL]:=TyZero.of (.agg #[.slice none 0 0,.bool false,.slice none 0 0,.slice none 0 0]) (by kernel_rfl) rfl (by decide)
theorem tz37:TyZero Tryz.prog 37 [Leaf.val (.int .i64 0),nilL,nilL,nilL,nilL,nilL,nilL,Leaf.val (.bool false),nilL,nilL]:=TyZero.of (.agg #[.int .i64 0,.slice none 0 0,.slice none 0 0,.slice none 0 0,.slice none 0 0,.slice none 0 0,.slice none 0 0,.bool false,.slice none 0 0,.slice none 0 0]) (by kernel_rfl) rfl (by decide)
theorem tz40:TyZero Tryz.prog 40 [nilL]:=TyZero.of (.slice none 0 0) (by kernel_rfl) rfl (by decide)
theorem tz41:TyZero Tryz.prog 41 [nilL]:=TyZero.of (.slice none 0 0) (by kernel_rfl) rfl (by decide)
theorem tz43:TyZero Tryz.prog 43 [Leaf.val (.int .i64 0),nilL,nilL,nilL,nilL,nilL,nilL,Leaf.val (.bool false),nilL,nilL,nilL,nilL]:=TyZero.of (.agg #[.int .i64 0,.slice none 0 0,.slice none 0 0,.slice none 0 0,.slice none 0 0,.slice none 0 0,.slice none 0 0,.bool false,.slice none 0 0,.slice none 0 0,.slice none 0 0,.slice none 0 0]) (by kernel_rfl) rfl (by decide)
theorem tz44:TyZero Tryz.prog 44 [Leaf.val (.int .i64 0)]:=TyZero.of (.int .i64 0) (by kernel_rfl) rfl (by decide)
theorem tz48:TyZero Tryz.prog 48 [Leaf.val (.string ⟨#[]⟩),Leaf.val (.int .i64 0)]:=TyZero.of (.agg #[.string ⟨#[]⟩,.int .i64 0]) (by kernel_rfl) rfl (by decide)
theorem zug:TyZero Tryz.prog 53 [Leaf.val (.int .i64 0),Leaf.val (.bool false),nilL,nilL]:=TyZero.of (.agg #[.int .i64 0,.bool false,.slice none 0 0,.slice none 0 0]) (by kernel_rfl) rfl (by decide)
theorem tz55:TyZero Tryz.prog 55 [nilL]:=TyZero.of (.slice none 0 0) (by kernel_rfl) rfl (by decide)
theorem tz57:TyZero Tryz.prog 57 [Leaf.val (.int .i64 0),Leaf.val (.bool false),Leaf.val (.bool false),nilL,nilL,nilL]:=TyZero.of (.agg #[.int .i64 0,.bool false,.bool false,.slice none 0 0,.slice none 0 0,.slice none 0 0]) (by kernel_rfl) rfl (by decide)
theorem tz65:TyZero Tryz.prog 65 [Leaf.val (.int .i64 0),Leaf.val (.int .i64 0),Leaf.val (.bool false),nilL,nilL]:=TyZero.of (.agg #[.int .i64 0,.int .i64 0,.bool false,.slice none 0 0,.slice none 0 0]) (by kernel_rfl) rfl (by decide)
theorem tz81:TyZero Tryz.prog 81 [Leaf.val (.bool false),nilL]:=TyZero.of (.agg #[.bool false,.slice none 0 0]) (by kernel_rfl) rfl (by decide)
theorem tz88:TyZero Tryz.prog 88 [nilL,Leaf.val (.int .i64 0)]:=TyZero.of (.agg #[.slice none 0 0,.int .i64 0]) (by kernel_rfl) rfl (by decide)
theorem tz93:TyZero Tryz.prog 93 [Leaf.val (.bool false),nilL,Leaf.val (.int .i64 0)]:=TyZero.of (.agg #[.bool false,.slice none 0 0,.int .i64 0]) (by kernel_rfl) rfl (by decide)
theorem tz105:TyZero Tryz.prog 105 [Leaf.val (.int .u64 0)]:=TyZero.of (.int .u64 0) (by kernel_rfl) rfl (by decide)
theorem zdT:TyZero Tryz.prog 106 [Leaf.val (.int .u32 0)]:=TyZero.of (.int .u32 0) (by kernel_rfl) rfl (by decide)
theorem tz124:TyZero Tryz.prog 124 [Leaf.val (.int .u64 0)]:=TyZero.of (.int .u64 0) (by kernel_rfl) rfl (by decide)
theorem zui:TyZero Tryz.prog 127 [Leaf.val (.int .i64 0),Leaf.val (.int .i64 0),Leaf.val (.int .i64 0),Leaf.val (.int .i64 0)]:=TyZero.of (.agg #[.int .i64 0,.int .i64 0,.int .i64 0,.int .i64 0]) (by kernel_rfl) rfl (by decide)
theorem tz152:TyZero Tryz.prog 152 [Leaf.val (.int .u8 0),Leaf.val (.int .u8 0),Leaf.val (.int .u8 0),Leaf.val (.int .u8 0),Leaf.val (.int .u8 0),Leaf.val (.int .u8 0),Leaf.val (.int .u8 0),Leaf.val (.int .u8 0),Leaf.val (.int .u8 0),Leaf.val (.int .u8 0),Leaf.val (.int .u8 0),Leaf.val (.int .u8 0),Leaf.val (.int .u8 0),Leaf.val (.int .u8 0),Leaf.val (.int .u8 0),Leaf.val (.int .u8 0),Leaf.val (.int .u8 0),Leaf.val (.int .u8 0),Leaf.val (.int .u8 0),Leaf.val (.int .u8 0),Leaf.val (.int .u8 0),Leaf.val (.int .u8 0),Leaf.val (.int .u8 0),Leaf.val (.int .u8 0),Leaf.val (.int .u8 0),Leaf.val (.int .u8 0),Leaf.val (.int .u8 0),Leaf.val (.int .u8 0),Leaf.val (.int .u8 0),Leaf.val (.int .u8 0),Leaf.val (.int .u8 0),Leaf.val (.int .u8 0)]:=TyZero.of (.agg #[.int .u8 0,.int .u8 0,.int .u8 0,.int .u8 0,.int .u8 0,.int .u8 0,.int .u8 0,.int .u8 0,.int .u8 0,.int .u8 0,.int .u8 0,.int .u8 0,.int .u8 0,.int .u8 0,.int .u8 0,.int .u8 0,.int .u8 0,.int .u8 0,.int .u8 0,.int .u8 0,.int .u8 0,.int .u8 0,.int .u8 0,.int .u8 0,.int .u8 0,.int .u8 0,.int .u8 0,.int .u8 0,.int .u8 0,.int .u8 0,.int .u8 0,.int .u8 0]) (by kernel_rfl) rfl (by decide)
theorem tz175:TyZero Tryz.prog 175 [Leaf.val (.int .i64 0),Leaf.val (.int .i64 0),Leaf.val (.int .i64 0),Leaf.val (.int .i64 0)]:=TyZero.of (.agg #[.int .i64 0,.int .i64 0,.int .i64 0,.int .i64 0]) (by kernel_rfl) rfl (by decide)
theorem zgA:TyZero Tryz.prog 177 [Leaf.val (.int .i64 0),Leaf.val (.int .i64 0),Leaf.val (.int .i64 0),Leaf.val (.int .i64 0),Leaf.val (.bool false),nilL,nilL]:=TyZero.of (.agg #[.int .i64 0,.int .i64 0,.int .i64 0,.int .i64 0,.bool false,.slice none 0 0,.slice none 0 0]) (by kernel_rfl) rfl (by decide)
theorem un2:Tryz.prog.underlying 2=some (.int .i64):=by kernel_rfl
theorem un3:Tryz.prog.underlying 3=some (.int .i64):=by kernel_rfl
theorem un4:Tryz.prog.underlying 4=some (.bool):=by kernel_rfl
theorem un5:Tryz.prog.underlying 5=some (.int .u8):=by kernel_rfl
theorem un9:Tryz.prog.underlying 9=some (.string):=by kernel_rfl
theorem un12:Tryz.prog.underlying 12=some (.int .u64):=by kernel_rfl
theorem un21:Tryz.prog.underlying 21=some (.int .i32):=by kernel_rfl
theorem zwS:Tryz.prog.underlying 22=some (.slice 5):=by kernel_rfl
theorem ztP:Tryz.prog.underlying 23=some (.slice 35):=by kernel_rfl
theorem zua:Tryz.prog.underlying 26=some (.slice 33):=by kernel_rfl
theorem zj8:Tryz.prog.underlying 29=some (.slice 53):=by kernel_rfl
theorem zc7:Tryz.prog.underlying 30=some (.slice 106):=by kernel_rfl
theorem zbU:Tryz.prog.underlying 31=some (.slice 106):=by kernel_rfl
theorem zt9:Tryz.prog.underlying 40=some (.slice 65):=by kernel_rfl
theorem zt8:Tryz.prog.underlying 41=some (.slice 57):=by kernel_rfl
theorem un44:Tryz.prog.underlying 44=some (.int .i64):=by kernel_rfl
theorem zh0:Tryz.prog.underlying 55=some (.slice 177):=by kernel_rfl
theorem un105:Tryz.prog.underlying 105=some (.int .u64):=by kernel_rfl
theorem un106:Tryz.prog.underlying 106=some (.int .u32):=by kernel_rfl
theorem un124:Tryz.prog.underlying 124=some (.int .u64):=by kernel_rfl
theorem zub:Tryz.prog.underlying 127=some (.array 4 3):=by kernel_rfl
theorem un152:Tryz.prog.underlying 152=some (.array 32 5):=by kernel_rfl
theorem zaT{P:Program}{n k b:Nat}{v:Value}(h:∃i:TypeInfo,P.info? n=some i/\i.zero=some v/\i.size=k/\i.bytes=b)(hk:v.cells.size=k:=by rfl):∃(i:TypeInfo) (z:Value),P.info? n=some i/\i.zero=some z/\i.size=k/\z.cells.size=k/\i.bytes=b:=let ⟨i,h1,h2,h3,h4⟩:=h;⟨i,v,h1,h2,h3,hk,h4⟩
def mtab:MTab:={ fo:=[((25,0),0,1),((53,0),0,1),((81,1),1,1),((53,1),1,3),((35,0),0,1),((37,0),0,3),((25,1),1,1),((81,0),0,1),((43,2),11,1),((33,0),0,1),((175,1),1,1),((33,1),1,1),((33,2),2,1),((65,1),1,1),((28,1),1,1),((25,2),2,1),((57,2),2,3),((43,0),0,10),((28,0),0,1),((35,1),1,3),((28,2),2,1),((175,2),2,1),((175,3),3,1),((65,2),2,3),((43,1),10,1),((57,1),1,1),((175,0),0,1),((37,1),3,3),((177,0),0,4),((177,1),4,3),((65,0),0,1),((88,1),1,1),((37,2),6,4),((93,2),2,1),((57,0),0,1),((93,0),0,1),((93,1),1,1),((88,0),0,1),((48,1),1,1),((48,0),0,1),((57,3),5,1)],ty:=[(33,true,3),(35,true,4),(3,false,1),(106,false,1),(31,false,1),(81,true,2),(4,false,1),(23,false,1),(53,true,4),(93,true,3),(43,true,12),(29,false,1),(26,false,1),(41,false,1),(37,true,10),(57,true,6),(25,true,3),(175,true,4),(177,true,7),(28,true,3),(40,false,1),(65,true,5),(62,false,1),(22,false,1),(5,false,1),(2,false,1),(9,false,1),(12,false,1),(21,false,1),(30,false,1),(44,false,1),(48,true,2),(55,false,1),(88,true,2),(105,false,1),(124,false,1),(127,true,4),(152,true,32)],tz:=[(33,[Leaf.val (.bool false),nilL,nilL]),(35,[nilL,Leaf.val (.bool false),nilL,nilL]),(81,[Leaf.val (.bool false),nilL]),(43,[Leaf.val (.int .i64 0),nilL,nilL,nilL,nilL,nilL,nilL,Leaf.val (.bool false),nilL,nilL,nilL,nilL]),(93,[Leaf.val (.bool false),nilL,Leaf.val (.int .i64 0)]),(53,[Leaf.val (.int .i64 0),Leaf.val (.bool false),nilL,nilL]),(177,[Leaf.val (.int .i64 0),Leaf.val (.int .i64 0),Leaf.val (.int .i64 0),Leaf.val (.int .i64 0),Leaf.val (.bool false),nilL,nilL]),(175,[Leaf.val (.int .i64 0),Leaf.val (.int .i64 0),Leaf.val (.int .i64 0),Leaf.val (.int .i64 0)]),(48,[Leaf.val (.string ⟨#[]⟩),Leaf.val (.int .i64 0)]),(37,[Leaf.val (.int .i64 0),nilL,nilL,nilL,nilL,nilL,nilL,Leaf.val (.bool false),nilL,nilL]),(57,[Leaf.val (.int .i64 0),Leaf.val (.bool false),Leaf.val (.bool false),nilL,nilL,nilL]),(25,[Leaf.val (.int .i64 0),nilL,nilL]),(28,[nilL,nilL,nilL]),(88,[nilL,Leaf.val (.int .i64 0)]),(65,[Leaf.val (.int .i64 0),Leaf.val (.int .i64 0),Leaf.val (.bool false),nilL,nilL]),(3,[Leaf.val (.int .i64 0)]),(2,[Leaf.val (.int .i64 0)]),(4,[Leaf.val (.bool false)]),(5,[Leaf.val (.int .u8 0)]),(9,[Leaf.val (.string ⟨#[]⟩)]),(12,[Leaf.val (.int .u64 0)]),(21,[Leaf.val (.int .i32 0)]),(22,[nilL]),(23,[nilL]),(26,[nilL]),(29,[nilL]),(30,[nilL]),(31,[nilL]),(40,[nilL]),(41,[nilL]),(44,[Leaf.val (.int .i64 0)]),(55,[nilL]),(105,[Leaf.val (.int .u64 0)]),(106,[Leaf.val (.int .u32 0)]),(124,[Leaf.val (.int .u64 0)]),(127,[Leaf.val (.int .i64 0),Leaf.val (.int .i64 0),Leaf.val (.int .i64 0),Leaf.val (.int .i64 0)]),(152,[Leaf.val (.int .u8 0),Leaf.val (.int .u8 0),Leaf.val (.int .u8 0),Leaf.val (.int .u8 0),Leaf.val (.int .u8 0),Leaf.val (.int .u8 0),Leaf.val (.int .u8 0),Leaf.val (.int .u8 0),Leaf.val (.int .u8 0),Leaf.val (.int .u8 0),Leaf.val (.int .u8 0),Leaf.val (.int .u8 0),Leaf.val (.int .u8 0),Leaf.val (.int .u8 0),Leaf.val (.int .u8 0),Leaf.val (.int .u8 0),Leaf.val (.int .u8 0),Leaf.val (.int .u8 0),Leaf.val (.int .u8 0),Leaf.val (.int .u8 0),Leaf.val (.int .u8 0),Leaf.val (.int .u8 0),Leaf.val (.int .u8 0),Leaf.val (.int .u8 0),Leaf.val (.int .u8 0),Leaf.val (.int .u8 0),Leaf.val (.int .u8 0),Leaf.val (.int .u8 0),Leaf.val (.int .u8 0),Leaf.val (.int .u8 0),Leaf.val (.int .u8 0),Leaf.val (.int .u8 0)])],pl:=[(35,[(0,1),(1,3)]),(33,[(0,1),(1,1),(2,1)]),(81,[(0,1),(1,1)]),(177,[(0,4),(4,3)]),(43,[(0,10),(10,1),(11,1)]),(175,[(0,1),(1,1),(2,1),(3,1)]),(48,[(0,1),(1,1)]),(93,[(0,1),(1,1),(2,1)]),(53,[(0,1),(1,3)]),(37,[(0,3),(3,3),(6,4)]),(57,[(0,1),(1,1),(2,3),(5,1)]),(88,[(0,1),(1,1)]),(25,[(0,1),(1,1),(2,1)]),(28,[(0,1),(1,1),(2,1)]),(65,[(0,1),(1,1),(2,3)])],ft:=[((35,1),1,33),((25,0),0,3),((25,1),1,23),((25,2),2,23),((28,0),0,26),((28,1),1,26),((28,2),2,23),((33,0),0,4),((33,1),1,31),((33,2),2,31),((35,0),0,29),((37,0),0,25),((37,1),3,28),((37,2),6,35),((43,0),0,37),((43,1),10,40),((43,2),11,41),((48,0),0,9),((48,1),1,3),((53,0),0,3),((53,1),1,33),((57,0),0,3),((57,1),1,4),((57,2),2,33),((57,3),5,55),((65,0),0,3),((65,1),1,3),((65,2),2,33),((81,0),0,4),((81,1),1,31),((88,0),0,22),((88,1),1,3),((93,0),0,4),((93,1),1,31),((93,2),2,3),((175,0),0,3),((175,1),1,3),((175,2),2,3),((175,3),3,3),((177,0),0,175),((177,1),4,33)],un:=[(31,106),(23,35),(29,53),(55,177),(26,33),(41,57),(40,65),(22,5),(30,106)],ik:=[(106,.u32),(105,.u64),(5,.u8),(3,.i64),(2,.i64),(12,.u64),(21,.i32),(44,.i64),(124,.u64)],inf:=[(177,7,88),(35,4,80),(57,6,96),(53,4,64),(33,3,56),(2,1,8),(3,1,8),(4,1,1),(5,1,1),(9,1,16),(12,1,8),(21,1,4),(22,1,24),(23,1,24),(25,3,56),(26,1,24),(28,3,72),(29,1,24),(30,1,24),(31,1,24),(37,10,208),(40,1,24),(41,1,24),(43,12,256),(44,1,8),(48,2,24),(55,1,24),(65,5,72),(81,2,32),(88,2,32),(93,3,40),(105,1,8),(106,1,4),(124,1,8),(127,4,32),(152,32,32),(175,4,32)] }
theorem zsm:mtab.Ok Tryz.prog:=⟨⟨⟨zvX,zvE,zvu,zvD,zvO,zvM,zvW,zvv,zvH,zvR,zsP,zvQ,zvP,zvx,zvT,zvV,zvA,zvJ,zvU,zvN,zvS,zsO,zsN,zvw,zvI,zvB,zsQ,zvL,zsM,zsL,zvy,zvs,zvK,zvp,zvC,zvr,zvq,zvt,zvF,zvG,zvz,trivial⟩,⟨ztR,zh3,ty3,zap,ty31,ty81,ty4,ty23,zl5,ty93,ty43,ty29,ty26,ty41,ty37,zwT,ty25,ty175,zdr,ty28,ty40,ty65,ty62,ty22,ty5,ty2,ty9,ty12,ty21,ty30,ty44,ty48,ty55,ty88,ty105,ty124,ty127,ty152,trivial⟩⟩,⟨zuh,ztQ,tz81,tz43,tz93,zug,zgA,tz175,tz48,tz37,tz57,tz25,tz28,tz88,tz65,tz3,tz2,tz4,tz5,tz9,tz12,tz21,tz22,tz23,tz26,tz29,tz30,tz31,tz40,tz41,tz44,tz55,tz105,zdT,tz124,zui,tz152,trivial⟩,⟨pl35,pl33,pl81,pl177,pl43,pl175,pl48,pl93,pl53,pl37,pl57,pl88,pl25,pl28,pl65,trivial⟩,⟨zvd,zvn,zvm,zvl,zvk,zvj,zvi,zvh,zvg,zvf,zve,zvc,zvb,zva,zu9,zu8,zu7,zu6,zu5,zu4,zu3,zu2,zu1,zu0,zuZ,zuY,zuX,zuW,zuV,zuU,zuT,zuS,zuR,zuQ,zuP,zsK,zsJ,zsI,zsH,zsG,zsF,trivial⟩,⟨zbU,ztP,zj8,zh0,zua,zt8,zt9,zwS,zc7,trivial⟩,⟨un106,un105,un5,un3,un2,un12,un21,un44,un124,trivial⟩,⟨(zaT in177),(zaT in35),(zaT in57),(zaT in53),(zaT in33),(zaT in2),(zaT in3),(zaT in4),(zaT in5),(zaT in9),(zaT in12),(zaT in21),(zaT in22),(zaT in23),(zaT in25),(zaT in26),(zaT in28),(zaT in29),(zaT in30),(zaT in31),(zaT in37),(zaT in40),(zaT in41),(zaT in43),(zaT in44),(zaT in48),(zaT in55),(zaT in65),(zaT in81),(zaT in88),(zaT in93),(zaT in105),(zaT zcb),(zaT in124),(zaT in127),(zaT in152),(zaT in175),trivial⟩⟩
instance tab0:Tab Tryz.prog:=⟨mtab,zsm,follows⟩
end Go.Proofs.YticnclbnchgigaaGreatDoor

namespace Rc
def dn(d:Nat):Nat:=if d=0 then 1 else d
theorem zfd(d:Nat):0<dn d:=by unfold dn;split <;> omega
theorem zc3(d:Nat):dn d≠0:=Nat.ne_of_gt (zfd d)
theorem zch{d:Nat}(h:d≠0):dn d=d:=by simp[dn,h]
@[simp] theorem zs7:dn 0=1:=rfl
def sgn(neg:Bool)(n:Nat):Int:=if neg then -(n:Int) else n
@[simp] theorem zcI (n:Nat):sgn true n = -(n:Int):=rfl
@[simp] theorem zds (n:Nat):sgn false n=n:=rfl
@[simp] theorem zb4 (neg:Bool) (n:Nat):(sgn neg n).natAbs=n:=by cases neg <;> simp
theorem zmB(a b:Bool)(m n:Nat):sgn (a != b) (m*n)=sgn a m*sgn b n:=by
 cases a <;> cases b <;> simp[Int.neg_mul,Int.mul_neg]
theorem zrP(a:Bool)(m:Nat):sgn (!a) m = - sgn a m:=by cases a <;> simp
theorem zcV(x:Int):sgn (decide (x<0)) x.natAbs=x:=by
 unfold sgn;by_cases h:x<0
 .simp only[h,decide_true,if_true];omega
 .simp only[h,decide_false];simp;omega
def rq(neg:Bool)(n d:Nat):Rat:=mkRat (sgn neg n) (dn d)
def zbx(q:Rat):Bool:=decide (q.num<0)
def zaV(q:Rat):Nat:=q.num.natAbs
def zaW(q:Rat):Nat:=if q.den=1 then 0 else q.den
theorem zf8(q:Rat):dn (zaW q)=q.den:=by
 have:=q.den_pos;unfold zaW;by_cases h:q.den=1
 .rw[if_pos h,h];rfl
 .rw[if_neg h];exact zch (by omega)
theorem zho(q:Rat):rq (zbx q) (zaV q) (zaW q)=q:=by
 unfold rq zbx zaV;rw[zf8,zcV,Rat.mkRat_self]
theorem zmT(neg:Bool)(d:Nat):rq neg 0 d=0:=by unfold rq;cases neg <;> simp
theorem zgU{neg:Bool}{n d:Nat}:rq neg n d=0↔n=0:=by
 unfold rq;rw[Rat.mkRat_eq_zero (zc3 d)];cases neg <;> simp
@[simp] theorem znV:zbx 0=false:=rfl
@[simp] theorem zcw:zaV 0=0:=rfl
@[simp] theorem zcy:zaW 0=0:=rfl
theorem zr0(neg:Bool)(n d:Nat):rq neg n (dn d)=rq neg n d:=by unfold rq;rw[zch (zc3 d)]
theorem ziP(neg:Bool)(n d:Nat):(rq neg n d).den=dn d/Nat.gcd n (dn d):=by
 unfold rq;rw[Rat.den_mkRat,if_neg (zc3 d),zb4,Nat.gcd_comm]
theorem zq2(neg:Bool)(n d:Nat):(rq neg n d).num=sgn neg (n/Nat.gcd n (dn d)):=by
 unfold rq;rw[Rat.num_mkRat,if_neg (zc3 d),zb4,Nat.gcd_comm (dn d) n];obtain⟨k,hk⟩:=Nat.gcd_dvd_left n (dn d);have hg0:0<Nat.gcd n (dn d):=Nat.gcd_pos_of_pos_right _ (zfd d);generalize Nat.gcd n (dn d)=g at *;subst hk;rw[Nat.mul_div_cancel_left _ hg0];cases neg
 .simp only[zds];rw[Int.natCast_mul,Int.mul_ediv_cancel_left _ (by omega)]
 .simp only[zcI];rw[Int.natCast_mul,<-Int.mul_neg,Int.mul_ediv_cancel_left _ (by omega)]
theorem zga(neg:Bool)(n d:Nat):zaV (rq neg n d)=n/Nat.gcd n (dn d):=by
 unfold zaV;rw[zq2,zb4]
theorem zjK(neg:Bool)(n d:Nat):zbx (rq neg n d)=(neg&&decide (n≠0)):=by
 unfold zbx;rw[zq2];have hp:n≠0->0<n/Nat.gcd n (dn d):=fun h=>Nat.div_pos (Nat.le_of_dvd (by omega) (Nat.gcd_dvd_left _ _)) (Nat.gcd_pos_of_pos_left _ (by omega));have h0:n=0->n/Nat.gcd n (dn d)=0:=fun h=>by rw[h,Nat.zero_div]
 generalize n/Nat.gcd n (dn d)=k at *;cases neg
 .rw[Bool.false_and];exact decide_eq_false (by rw[zds];omega)
 .rw[Bool.true_and];by_cases h:n=0
  .rw[h0 h];rw[decide_eq_false (by simp[h]:¬n≠0)];rfl
  .have:=hp h;rw[decide_eq_true (h:n≠0)];exact decide_eq_true (by rw[zcI];omega)
theorem zkq(a b:Bool)(m n d e:Nat)(s:Int)(hs:s=sgn a (m*dn e)+sgn b (n*dn d)) :
  rq (decide (s<0)) s.natAbs (dn d*dn e)=rq a m d+rq b n e:=by
 have h1:rq (decide (s<0)) s.natAbs (dn d*dn e)=mkRat s (dn d*dn e):=by
  unfold rq;rw[zcV,zch (Nat.ne_of_gt (Nat.mul_pos (zfd d) (zfd e)))]
 rw[h1,hs];unfold rq;rw[Rat.mkRat_add_mkRat _ _ (zc3 d) (zc3 e)];congr 1;cases a <;> cases b <;> simp <;> grind
theorem ze6(a b:Bool)(m n d e:Nat):rq (a != b) (m*n) (dn d*dn e)=rq a m d*rq b n e:=by
 unfold rq;rw[Rat.mkRat_mul_mkRat,zmB,zch (Nat.ne_of_gt (Nat.mul_pos (zfd d) (zfd e)))]
theorem zqP(a:Bool)(m d:Nat):rq (!a) m d = - rq a m d:=by
 unfold rq;rw[zrP,Rat.neg_mkRat]
theorem zpw{a b:Int}{d e:Nat}(hd:0<d)(he:0<e):mkRat a d<mkRat b e↔a*e<b*d:=by
 rw[Rat.mkRat_eq_div,Rat.mkRat_eq_div];have hd':(0:Rat)<((d:Int):Rat):=by
  rw[show(0:Rat)=((0:Int):Rat) from rfl];exact Rat.intCast_lt_intCast.2 (by omega)
 have he':(0:Rat)<((e:Int):Rat):=by
  rw[show(0:Rat)=((0:Int):Rat) from rfl];exact Rat.intCast_lt_intCast.2 (by omega)
 have e1:((a:Rat)/(d:Nat))=(a:Rat)/((d:Int):Rat):=rfl;have e2:((b:Rat)/(e:Nat))=(b:Rat)/((e:Int):Rat):=rfl;rw[e1,e2,Rat.div_lt_iff hd'];rw[show(b:Rat)/((e:Int):Rat)*((d:Int):Rat)=((b:Rat)*((d:Int):Rat))/((e:Int):Rat) by grind,Rat.lt_div_iff he',
  ← Rat.intCast_mul,<-Rat.intCast_mul,Rat.intCast_lt_intCast]
theorem zuv(a b:Bool)(m n d e:Nat):rq a m d<rq b n e↔sgn a m*dn e<sgn b n*dn d:=by
 unfold rq;exact zpw (zfd d) (zfd e)
theorem zux(a b:Bool)(m n d e:Nat):rq a m d=rq b n e↔sgn a m*dn e=sgn b n*dn d:=by
 unfold rq;exact Rat.mkRat_eq_iff (zc3 d) (zc3 e)
def sg(q:Rat):Int:=if q<0 then -1 else if q=0 then 0 else 1
def zgc(p q:Rat):Int:=if p<q then -1 else if p=q then 0 else 1
theorem zpW(p q:Rat):zgc p q=sg (p-q):=by
 unfold zgc sg;have h1:p<q↔p-q<0:=by grind
 have h2:p=q↔p-q=0:=by grind
 simp only[h1,h2]
def val:List Nat->Nat
 |[]=>0
 |x::xs=>x+4294967296*val xs
def Small(l:List Nat):Prop:=∀x∈l,x<4294967296
def Canon(l:List Nat):Prop:=Small l/\∀h:l≠[],l.getLast h≠0
def zab(n:Nat):List Nat:=if h:n=0 then[] else n%4294967296::zab (n/4294967296)
termination_by n
decreasing_by omega
@[simp] theorem zhg:val []=0:=rfl
@[simp] theorem zbl (x:Nat) (xs:List Nat):val (x::xs)=x+4294967296*val xs:=rfl
theorem Small.nil:Small []:=fun _ h=>by simp at h
theorem Small.cons{x:Nat}{l:List Nat}(hx:x<4294967296)(h:Small l):Small (x::l):=by
 intro y hy;rcases zxE.1 hy with rfl|hy
 .exact hx
 .exact h y hy
theorem Small.head{x:Nat}{l:List Nat}(h:Small (x::l)):x<4294967296:=h x (by simp)
theorem Small.tail{x:Nat}{l:List Nat}(h:Small (x::l)):Small l:=fun y hy=>h y (by simp[hy])
theorem Small.append{a b:List Nat}(ha:Small a)(hb:Small b):Small (a++b):=by
 intro x hx;rcases zxv.1 hx with h|h
 .exact ha x h
 .exact hb x h
theorem Small.take{a:List Nat}(ha:Small a)(n:Nat):Small (a.take n):=fun x hx=>ha x (List.mem_of_mem_take hx)
theorem Small.drop{a:List Nat}(ha:Small a)(n:Nat):Small (a.drop n):=fun x hx=>ha x (List.mem_of_mem_drop hx)
theorem Small.get{a:List Nat}(ha:Small a)(i:Nat)(h:i<a.length):a[i]<4294967296:=ha _ (List.getElem_mem h)
theorem Small.getD{a:List Nat}(ha:Small a)(i:Nat):a.getD i 0<4294967296:=by
 by_cases h:i<a.length
 .simp[List.getD,h];exact ha.get i h
 .simp[List.getD,h]
theorem Small.set{a:List Nat}(ha:Small a)(i x:Nat)(hx:x<4294967296):Small (a.set i x):=by
 intro y hy;rcases List.mem_or_eq_of_mem_set hy with h|h
 .exact ha y h
 .omega
theorem Small.replicate(n:Nat):Small (List.replicate n 0):=by
 intro x hx;have:=(List.mem_replicate.1 hx).2;omega
theorem zaU(a b:List Nat):val (a++b)=val a+4294967296^a.length*val b:=by
 induction a with
 |nil=>simp
 |cons x xs ih=>simp only[List.cons_append,zbl,ih,List.length_cons];grind
theorem zaJ(n:Nat):val (List.replicate n 0)=0:=by
 induction n with
 |zero=>rfl
 |succ n ih=>simp[List.replicate_succ,ih]
theorem za6{l:List Nat}(h:Small l):val l<4294967296^l.length:=by
 induction l with
 |nil=>simp
 |cons x xs ih=>
  have hx:=h.head;have:=ih h.tail;simp only[zbl,List.length_cons,zxt];omega
theorem zau(l:List Nat)(i:Nat)(h:i<l.length):val (l.take (i+1))=val (l.take i)+4294967296^i*l[i]:=by
 rw[List.take_succ_eq_append_getElem h,zaU];simp[zxr,Nat.min_eq_left (Nat.le_of_lt h)]
theorem zav(l:List Nat)(i:Nat):val (l.take (i+1))=val (l.take i)+4294967296^i*l.getD i 0:=by
 by_cases h:i<l.length
 .rw[zau l i h];simp[List.getD,h]
 .simp[List.getD,h,zxJ (Nat.le_of_not_lt h),zxJ (Nat.le_succ_of_le (Nat.le_of_not_lt h))]
theorem zcf(l:List Nat)(i:Nat):val l=val (l.take i)+4294967296^(min i l.length)*val (l.drop i):=by
 conv=>lhs;rw[<-List.take_append_drop i l]
 rw[zaU,zxr]
theorem zaj:zab 0=[]:=by unfold zab;simp
theorem zcY{n:Nat}(h:n≠0):zab n=n%4294967296::zab (n/4294967296):=by rw[zab];simp[h]
theorem zac(n:Nat):val (zab n)=n:=by
 induction n using Nat.strongRecOn with
 |_ n ih=>
  by_cases h:n=0
  .subst h;simp[zaj]
  .rw[zcY h,zbl,ih _ (by omega)];omega
theorem zaa(n:Nat):Small (zab n):=by
 induction n using Nat.strongRecOn with
 |_ n ih=>
  by_cases h:n=0
  .subst h;simp[zaj];exact Small.nil
  .rw[zcY h];exact Small.cons (by omega) (ih _ (by omega))
theorem zaP{n:Nat}:zab n=[]↔n=0:=by
 constructor
 .intro h;have:=zac n;rw[h] at this;simp at this;omega
 .rintro rfl;exact zaj
theorem zb8(n:Nat):Canon (zab n):=by
 refine⟨zaa n,?_⟩
 induction n using Nat.strongRecOn with
 |_ n ih=>
  intro h;have hn:n≠0:=fun e=>h (zaP.2 e);simp only[zcY hn];by_cases h2:n/4294967296=0
  .simp only[h2,zaj];simp;omega
  .have h3:zab (n/4294967296)≠[]:=fun e=>h2 (zaP.1 e);rw[List.getLast_cons h3];exact ih _ (by omega) h3
theorem Canon.tail{x:Nat}{l:List Nat}(h:Canon (x::l)):Canon l:=
 ⟨h.1.tail,fun hl=>by have:=h.2 (by simp);rwa [List.getLast_cons hl] at this⟩
theorem zeo{l:List Nat}(h:Canon l):zab (val l)=l:=by
 induction l with
 |nil=>exact zaj
 |cons x xs ih=>
  have hx:=h.1.head;have hne:val (x::xs)≠0:=by
   intro e;simp only[zbl] at e;have h0:val xs=0:=by omega
   have:xs=[]:=by rw[<-ih h.tail,h0,zaj]
   subst this;exact h.2 (by simp) (by simp;omega)
  rw[zcY hne];have e1:val (x::xs)%4294967296=x:=by simp only[zbl];omega
  have e2:val (x::xs)/4294967296=val xs:=by simp only[zbl];omega
  rw[e1,e2,ih h.tail]
theorem Canon.eq{l:List Nat}(h:Canon l):l=zab (val l):=(zeo h).symm
theorem zae{n k:Nat}:(zab n).length<=k↔n<4294967296^k:=by
 constructor
 .intro h;have h1:=za6 (zaa n);rw[zac] at h1;exact zxj h1 (zxn (by omega) h)
 .intro h
  induction k generalizing n with
  |zero=>simp at h;subst h;simp[zaj]
  |succ k ih=>
   by_cases hn:n=0
   .subst hn;simp[zaj]
   .rw[zcY hn];simp only[List.length_cons];have:=ih (n:=n/4294967296) (by rw[zxt] at h;omega);omega
theorem zoZ{l:List Nat}(n:Nat)(h:∀i (hi:i<l.length),n<=i->l[i]=0):val (l.take n)=val l:=by
 rw[zcf l n];have:val (l.drop n)=0:=by
  have e:l.drop n=List.replicate (l.length-n) 0:=by
   apply List.ext_getElem
   .simp
   .intro i h1 h2;simp at h1;simp;exact h _ _ (by omega)
  rw[e,zaJ]
 rw[this];simp
theorem zdM{l:List Nat}(hs:Small l)(n:Nat)(hn:n<=l.length)(h:∀i (hi:i<l.length),n<=i->l[i]=0)
  (hl:∀h0:0<n,l[n-1]≠0):l.take n=zab (val l):=by
 have hc:Canon (l.take n):=by
  refine⟨hs.take n,fun he=>?_⟩;have h0:0<n:=by
   rcases Nat.eq_zero_or_pos n with h0|h0
   .subst h0;simp at he
   .exact h0
  have h1:=hl h0;rw[List.getLast_eq_getElem];simp only[List.getElem_take,zxr];simpa[Nat.min_eq_left hn] using h1
 rw[hc.eq,zoZ n h]
def zeA(a b:Nat):Int:=if a<b then -1 else if a=b then 0 else 1
theorem zcx{a b:Nat}(h:a<b):zeA a b = -1:=by simp[zeA,h]
theorem zjM{a b:Nat}(h:b<a):zeA a b=1:=by
 unfold zeA;rw[if_neg (by omega),if_neg (by omega)]
theorem znX{a b:Nat}(h:a=b):zeA a b=0:=by subst h;simp[zeA]
theorem zax{x y:Nat}(h:x<=y):(zab x).length<=(zab y).length:=
 zae.2 (zxB h (zae.1 (zxe _)))
theorem zfb{x y:Nat}(h:(zab x).length<(zab y).length):x<y:=by
 rcases Nat.lt_or_ge x y with h1|h1
 .exact h1
 .have:=zax h1;omega
theorem zai{l:List Nat}(hs:Small l):(zab (val l)).length<=l.length:=zae.2 (za6 hs)
theorem zcT(l:List Nat)(n:Nat)(h:n<l.length):val l=val (l.take n)+4294967296^n*(l[n]+4294967296*val (l.drop (n+1))):=by
 have h1:=zcf l n;rw[Nat.min_eq_left (Nat.le_of_lt h),zxH h,zbl] at h1;exact h1
theorem zrj{a b:List Nat}{n:Nat}(ha:Small a)(hn:n<a.length)(hn':n<b.length)(h:a.drop (n+1)=b.drop (n+1))(hlt:a[n]<b[n]):val a<val b:=by
 rw[zcT a n hn,zcT b n hn',h];have h1:=za6 (ha.take n);rw[zxr,Nat.min_eq_left (Nat.le_of_lt hn)] at h1;generalize val (b.drop (n+1))=d;have h2:4294967296^n*(a[n]+4294967296*d+1)<=4294967296^n*(b[n]+4294967296*d):=zxI _ (by omega);rw[Nat.mul_add,Nat.mul_one] at h2;omega
theorem ziN{a b:List Nat}{n:Nat}(hn:n<a.length)(hn':n<b.length)(h:a.drop (n+1)=b.drop (n+1))(he:a[n]=b[n]):a.drop n=b.drop n:=by
 rw[zxH hn,zxH hn',h,he]
theorem za2(out:List Nat)(k x:Nat)(h:k<out.length):val ((out.set k x).take (k+1))=val (out.take k)+4294967296^k*x:=by
 rw[zau _ _ (by simpa using h),List.take_set_of_le (zxe k),List.getElem_set_self]
theorem zak(l:List Nat)(k:Nat)(h:l.length<=k):val (l.take k)=val l:=by rw[zxJ h]
theorem zbJ{l:List Nat}{k:Nat}(h:k<l.length):l.getD k 0=l[k]:=by simp[List.getD,h]
theorem zcL{l:List Nat}{k:Nat}(h:l.length<=k):l.getD k 0=0:=by simp[List.getD,h]
theorem zet{a b out:List Nat}{k c s:Nat}(hk:k<a.length)(hl:k<out.length)(h:val (out.take k)+c*4294967296^k=val (a.take k)+val (b.take k))(hs:s=c+a[k]+b.getD k 0) :
  val ((out.set k (s%4294967296)).take (k+1))+(s/4294967296)*4294967296^(k+1)=val (a.take (k+1))+val (b.take (k+1)):=by
 rw[za2 out k _ hl,zau a k hk,zav b k,zxt];have e:4294967296^k*s=4294967296^k*(s%4294967296)+s/4294967296*(4294967296^k*4294967296):=by
  conv=>lhs;rw[<-Nat.mod_add_div s 4294967296]
  grind
 rw[hs] at e;rw[hs];have e2:4294967296^k*(c+a[k]+b.getD k 0)=c*4294967296^k+4294967296^k*a[k]+4294967296^k*b.getD k 0:=by grind
 omega
theorem zkg{a b out:List Nat}{k c x:Nat}(hk:k<a.length)(hl:k<out.length)(ha:Small a)(hb:Small b)(hc:c<=1)
  (h:val (out.take k)+val (b.take k)=val (a.take k)+c*4294967296^k) (hx:x=(18446744073709551616+a[k]-c-b.getD k 0)%18446744073709551616) :
  val ((out.set k (x%4294967296)).take (k+1))+val (b.take (k+1))=val (a.take (k+1))+(x/9223372036854775808)*4294967296^(k+1):=by
 rw[za2 out k _ hl,zau a k hk,zav b k,zxt];have h1:=ha.get k hk;have h2:=hb.getD k;generalize a[k]=p at *;generalize b.getD k 0=q at *;have e:x%4294967296+q+c=p+(x/9223372036854775808)*4294967296:=by omega
 have e2:4294967296^k*(x%4294967296+q+c)=4294967296^k*(p+(x/9223372036854775808)*4294967296):=by rw[e]
 have e3:4294967296^k*(x%4294967296+q+c)=4294967296^k*(x%4294967296)+4294967296^k*q+c*4294967296^k:=by grind
 have e4:4294967296^k*(p+(x/9223372036854775808)*4294967296)=4294967296^k*p+(x/9223372036854775808)*(4294967296^k*4294967296):=by grind
 omega
theorem zhf(l:List Nat)(i x:Nat)(h:i<l.length):val (l.set i x)+4294967296^i*l[i]=val l+4294967296^i*x:=by
 rw[zcT l i h,zcT (l.set i x) i (by simpa using h)];rw[List.take_set_of_le (zxe i),List.getElem_set_self,List.drop_set_of_lt (by omega)];grind
theorem zpu{b out:List Nat}{i k c x:Nat}(hk:k<b.length)(hl:i+k<out.length)(base:Nat)(h:val out+c*4294967296^(i+k)=base+4294967296^i*(x*val (b.take k))) :
  val (out.set (i+k) ((c+(x*b[k]+out[i+k]))%4294967296))+((c+(x*b[k]+out[i+k]))/4294967296)*4294967296^(i+(k+1))=base+4294967296^i*(x*val (b.take (k+1))):=by
 have h1:=zhf out (i+k) ((c+(x*b[k]+out[i+k]))%4294967296) hl;rw[zau b k hk,show i+(k+1)=(i+k)+1 from rfl,zxt];generalize hs:c+(x*b[k]+out[i+k])=s at *;have e1:4294967296^(i+k)*s=4294967296^(i+k)*(s%4294967296)+s/4294967296*(4294967296^(i+k)*4294967296):=by
  conv=>lhs;rw[<-Nat.mod_add_div s 4294967296]
  grind
 have e2:4294967296^(i+k)*s=c*4294967296^(i+k)+4294967296^i*(x*(4294967296^k*b[k]))+4294967296^(i+k)*out[i+k]:=by
  rw[<-hs,zxu];grind
 have e3:4294967296^i*(x*(val (b.take k)+4294967296^k*b[k]))=4294967296^i*(x*val (b.take k))+4294967296^i*(x*(4294967296^k*b[k])):=by grind
 omega
theorem ziw{c x y o:Nat}(hc:c<4294967296)(hx:x<4294967296)(hy:y<4294967296)(ho:o<4294967296):c+(x*y+o)<18446744073709551616/\(c+(x*y+o))/4294967296<4294967296/\x*y<=18446744065119617025:=by
 have h1:x*y<=4294967295*4294967295:=Nat.mul_le_mul (by omega) (by omega);omega
end Rc
namespace Rc
def bl(n:Nat):Nat:=if n=0 then 0 else Nat.log2 n+1
theorem zgm(n:Nat):n<2^bl n:=by
 unfold bl;split
 .rename_i h;subst h;simp
 .exact Nat.lt_log2_self
theorem zjO{n:Nat}(h:n≠0):2^(bl n-1)<=n:=by
 unfold bl;rw[if_neg h];simpa using Nat.log2_self_le h
theorem zgl{n k:Nat}(h1:n<2^k)(h2:0<k->2^(k-1)<=n):bl n=k:=by
 by_cases h0:n=0
 .subst h0;rcases Nat.eq_zero_or_pos k with hk|hk
  .subst hk;rfl
  .have:=h2 hk;have:=Nat.pow_pos (n:=k-1) (show 0<2 from by omega);omega
 .have hk:0<k:=by
   rcases Nat.eq_zero_or_pos k with hk|hk
   .subst hk;simp at h1;omega
   .exact hk
  unfold bl;rw[if_neg h0,(Nat.log2_eq_iff h0).2 ⟨h2 hk,by rw[show k-1+1=k from by omega];exact h1⟩];omega
theorem zn5:bl 0=0:=rfl
theorem ziY{n:Nat}(h:n≠0):0<bl n:=by unfold bl;rw[if_neg h];omega
theorem zg4{n k:Nat}(h:2^k<=n):bl n=bl (n/2^k)+k:=by
 have hp:0<2^k:=Nat.pow_pos (by omega);have hq:n/2^k≠0:=Nat.ne_of_gt (Nat.div_pos h hp);apply zgl
 .have:=zgm (n/2^k);rw[zxu]
  rwa [Nat.div_lt_iff_lt_mul hp] at this
 .intro _;have:=zjO hq;have h3:=ziY hq;rw[show bl (n/2^k)+k-1=(bl (n/2^k)-1)+k from by omega,zxu]
  rwa [Nat.le_div_iff_mul_le hp] at this
theorem zas{n k:Nat}(h:n<2^k):bl n<=k:=by
 rcases Nat.lt_or_ge k (bl n) with h1|h1
 .exfalso;have h0:n≠0:=by intro e;subst e;simp[bl] at h1
  have:=zjO h0;have h2:2^k<=2^(bl n-1):=zxn (by omega) (by omega);omega
 .exact h1
theorem zlW{lo hi k:Nat}(h:lo<2^k)(hh:hi≠0):bl (lo+2^k*hi)=k+bl hi:=by
 have hp:0<2^k:=Nat.pow_pos (by omega);have e:(lo+2^k*hi)/2^k=hi:=by
  rw[Nat.add_mul_div_left _ _ hp,Nat.div_eq_of_lt h,Nat.zero_add]
 have h1:2^k<=lo+2^k*hi:=by
  have:2^k*1<=2^k*hi:=zxI _ (by omega);omega
 rw[zg4 h1,e,Nat.add_comm]
theorem zcg(k:Nat):4294967296^k=2^(32*k):=by rw[Nat.pow_mul]
theorem zfA{l:List Nat}(hc:Canon l)(h:0<l.length):bl (val l)=32*(l.length-1)+bl (l[l.length-1]'(by omega)):=by
 have h1:=zcT l (l.length-1) (by omega);have h2:l.drop (l.length-1+1)=[]:=List.drop_of_length_le (by omega);rw[h2] at h1;simp only[zhg,Nat.mul_zero,Nat.add_zero] at h1;have h3:=za6 (hc.1.take (l.length-1));rw[zxr,Nat.min_eq_left (by omega),zcg] at h3;rw[h1,zcg];refine zlW h3 ?_;have:=hc.2 (by intro e;rw[e] at h;simp at h)
 rwa [List.getLast_eq_getElem] at this
theorem znz{a out:List Nat}{i k:Nat}(hi:i<a.length)(hl:i+1<out.length)(h:val (out.take (i+1))=val (a.take i)*2^k)(x:Nat)(hx:x=a[i]*2^k) :
  val (((out.set i (out[i]+x%4294967296)).set (i+1) (x/4294967296)).take (i+1+1))=val (a.take (i+1))*2^k:=by
 rw[za2 _ (i+1) _ (by simpa using hl)];rw[za2 out i _ (by omega)];rw[zau out i (by omega)] at h;rw[zau a i hi,Nat.add_mul,<-h,zxt];have e:4294967296^i*x=4294967296^i*(x%4294967296)+4294967296^i*4294967296*(x/4294967296):=by
  conv=>lhs;rw[<-Nat.mod_add_div x 4294967296]
  grind
 have e2:4294967296^i*a[i]*2^k=4294967296^i*x:=by rw[hx];grind
 have e3:4294967296^i*(out[i]+x%4294967296)=4294967296^i*out[i]+4294967296^i*(x%4294967296):=by grind
 omega
theorem zbR(l:List Nat)(hs:Small l)(i:Nat):val l/4294967296^i=val (l.drop i):=by
 have hp:0<4294967296^i:=Nat.pow_pos (by omega);by_cases hi:i<=l.length
 .have h1:=zcf l i;have h2:=za6 (hs.take i);rw[zxr,Nat.min_eq_left hi] at h2;rw[Nat.min_eq_left hi] at h1;rw[h1,Nat.add_mul_div_left _ _ hp,Nat.div_eq_of_lt h2,Nat.zero_add]
 .have h1:=za6 hs;have h2:4294967296^l.length<=4294967296^i:=zxn (by omega) (by omega);rw[List.drop_of_length_le (by omega),Nat.div_eq_of_lt (by omega)];rfl
theorem zkm{a out:List Nat}{i s:Nat}(ha:Small a)(hi:i<a.length)(hl:i<out.length)(hs:s<32)(h:val (out.take i)=val a/2^s%4294967296^i)(x:Nat)(hx:x=a[i]+4294967296*a.getD (i+1) 0) :
  val ((out.set i (x/2^s%4294967296)).take (i+1))=val a/2^s%4294967296^(i+1):=by
 rw[za2 out i _ hl,h,zxt,Nat.mod_mul,Nat.div_div_eq_div_mul,zxF (2^s),<-Nat.div_div_eq_div_mul,zbR a ha i];congr 2;rw[zxH hi,zbl];have e:val (a.drop (i+1))=a.getD (i+1) 0+4294967296*val (a.drop (i+2)):=by
  by_cases h2:i+1<a.length
  .rw[zxH h2,zbl,zbJ h2]
  .rw[List.drop_of_length_le (by omega),List.drop_of_length_le (by omega),zcL (by omega)];rfl
 rw[e,hx];have e2:(4294967296:Nat)=2^s*2^(32-s):=by rw[<-zxu,show s+(32-s)=32 from by omega]
 have e3:a[i]+4294967296*(a.getD (i+1) 0+4294967296*val (a.drop (i+2)))=(a[i]+4294967296*a.getD (i+1) 0)+2^s*(4294967296*(2^(32-s)*val (a.drop (i+2)))):=by
  have:4294967296*(4294967296*val (a.drop (i+2)))=2^s*(4294967296*(2^(32-s)*val (a.drop (i+2)))):=by
   conv=>lhs;lhs;rw[e2]
   grind
  grind
 rw[e3,Nat.add_mul_div_left _ _ (Nat.pow_pos (by omega)),Nat.add_mul_mod_self_left]
theorem zlq{a out:List Nat}{n d r:Nat}(hn:0<n)(hna:n<=a.length)(hnl:n<=out.length)(h:val (a.drop n)=val (out.drop n)*d+r)(t:Nat)(ht:t=r*4294967296+a[n-1]'(by omega)) :
  val (a.drop (n-1))=val ((out.set (n-1) (t/d)).drop (n-1))*d+t%d:=by
 rw[zxH (show n-1<a.length from by omega),zxH (show n-1<(out.set (n-1) (t/d)).length from by simp;omega)];rw[List.getElem_set_self,List.drop_set_of_lt (by omega),show n-1+1=n from by omega];simp only[zbl];rw[h];have:=Nat.div_add_mod t d;grind
end Rc
namespace Rc
def ze8(n x:Nat):List Nat:=(List.range n).map fun i=>x/4294967296^i%4294967296
theorem zbN(n x:Nat):(ze8 n x).length=n:=by simp[ze8]
theorem zjv{l:List Nat}(hs:Small l):l=ze8 l.length (val l):=by
 apply List.ext_getElem
 .simp[ze8]
 .intro i h1 h2;simp only[ze8,List.getElem_map,List.getElem_range];rw[zbR l hs i,zxH h1,zbl];have:=hs.get i h1;omega
theorem zhq{l:List Nat}{n x:Nat}(hs:Small l)(hl:l.length=n)(hv:val l=x):l=ze8 n x:=by subst hl;subst hv;exact zjv hs
theorem zcU(n x:Nat):Small (ze8 n x):=by
 intro y hy;simp only[ze8,List.mem_map] at hy;obtain⟨i,_,rfl⟩:=hy;omega
theorem zed{n x:Nat}(h:x<4294967296^n):val (ze8 n x)=x:=by
 have e:ze8 n x=zab x++List.replicate (n-(zab x).length) 0:=by
  refine(zhq ((zaa x).append (Small.replicate _)) ?_ ?_).symm
  .have:=zae.2 h;simp;omega
  .rw[zaU,zaJ,zac];simp
 rw[e,zaU,zaJ,zac];simp
theorem zsv{o d k:Nat}(hk:k<32)(ho:o<2^k):(d*2^k%4294967296)%2^k=0/\d*2^k%4294967296+o<4294967296:=by
 have e:(4294967296:Nat)=2^(32-k)*2^k:=by rw[<-zxu,show 32-k+k=32 from by omega]
 have h1:d*2^k%4294967296=(d%2^(32-k))*2^k:=by rw[e,Nat.mul_mod_mul_right]
 have hp:0<2^(32-k):=Nat.pow_pos (by omega);have h2:d%2^(32-k)<2^(32-k):=Nat.mod_lt _ hp;rw[h1];refine⟨Nat.mul_mod_left _ _,?_⟩;rw[e];generalize 2^(32-k)=m at *;generalize 2^k=p at *;have:(d%m+1)*p<=m*p:=zxl _ h2;rw[Nat.add_mul,Nat.one_mul] at this;omega
theorem zlE{d k:Nat}(hk:k<32)(hd:d<4294967296):d*2^k<18446744073709551616/\d*2^k/4294967296<2^k/\(2:Nat)^k<=2147483648:=by
 have h1:(2:Nat)^k<=2^31:=zxn (by omega) (by omega);have hp:0<(2:Nat)^k:=Nat.pow_pos (by omega);have h2:d*2^k<=4294967295*2^k:=zxl _ (by omega);refine⟨by omega,?_,by omega⟩;rw[Nat.div_lt_iff_lt_mul (by omega)];omega
theorem zdW(x k:Nat):x/4294967296^(k/32)/2^(k%32)=x/2^k:=by
 rw[zcg,Nat.div_div_eq_div_mul,<-zxu,Nat.div_add_mod]
end Rc
