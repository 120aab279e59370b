/- Parts of the proof, 4: the texts Mac, Facts, Val, WkA, NatM, WkB, FwI, WkC, as far as they are used. -/
import Derived.Test.YtakccfmgipajnaaGreatDoorWp03
import Derived.KernelRfl
import Derived.Test.YtakccfmgipajnaaGreatDoorProg
set_option linter.unusedSimpArgs false
set_option linter.unusedVariables false
set_option maxRecDepth 10000
namespace Rc
abbrev X3:=@Nat.pow_le_pow_right
abbrev Yb:=@Nat.pow_succ
abbrev Ye:=@Nat.lt_of_le_of_lt
abbrev Yp:=@Nat.pow_pos
abbrev Yr:=@Nat.eq_zero_or_pos
abbrev Yu:=@Nat.mul_comm
abbrev Yv:=@Nat.pow_add
abbrev Yx:=@Nat.mul_le_mul_left
abbrev YB:=@List.mem_of_mem_take
abbrev YI:=@List.drop_of_length_le
abbrev YQ:=@Nat.div_eq_of_lt
abbrev YT:=@Nat.div_lt_iff_lt_mul
abbrev YX:=@Nat.mul_add
abbrev YZ:=@Nat.mul_le_mul
abbrev Y3:=@Nat.le_div_iff_mul_le
abbrev Y7:=@Nat.mod_eq_of_lt
abbrev Za:=@Nat.le_of_not_lt
abbrev Zc:=@Nat.mul_zero
abbrev Zd:=@Nat.div_add_mod
abbrev Zo:=@Nat.mul_mod_left
abbrev Zy:=@List.mem_of_mem_drop
abbrev ZC:=@List.getLast_eq_getElem
abbrev ZL:=@List.mem_or_eq_of_mem_set
abbrev ZS:=@Nat.mod_add_div
abbrev ZX:=@Nat.add_comm
abbrev Z1:=@Nat.div_div_eq_div_mul
abbrev Z7:=@Nat.add_mul_div_left
abbrev zaj:=@Nat.add_mul_mod_self_left
abbrev zaz:=@Nat.lt_or_ge
abbrev zaB:=@BitVec.toNat_or
end Rc
namespace Rc
open Go Go.RowKit
inductive KF where
 |z9 (y:Code)
 |bO (id:Nat)
 |lp (K:Act->World->Prop)
def qk(P:Program)(Q:Exit->Act->World->Prop):List KF->Exit->Act->World->Prop
 |[]=>Q
 |.z9 y::ks=>Exit.then (y.wp P (qk P Q ks)) (qk P Q ks)
 |.bO id::ks=>Exit.inBlock id (qk P Q ks)
 |.lp K::ks=>Exit.then K (qk P Q ks)
inductive Md where
 |code (c:Code)
 |ops (r:Array Oper) (l:List Oper)
 |ex (e:Exit)
@[reducible] def Ms(P:Program)(Q:Exit->Act->World->Prop)(w0:aJ)(A0:ak)(N:Nat)(ks:List KF)(Γ:aA)(H:Hp):Md->Prop
 |.code c=>Tc P (qk P Q ks) w0 A0 N Γ H c
 |.ops r l=>Tl P r (qk P Q ks) w0 A0 N Γ H l
 |.ex e=>At (qk P Q ks) w0 A0 N Γ H e
structure jg extends td where
 tz:List (Nat×List ab)
 pl:List (Nat×List (Nat×Nat))
 ft:List ((Nat×Nat)×Nat×Nat)
 un:List (Nat×Nat)
 ik:List (Nat×IntKind)
 inf:List (Nat×Nat×Nat)
structure jg.Ok(P:Program)(F:jg):Prop where
 f:F.totd.Ok P
 tz:lr (fun e=>de P e.1 e.2) F.tz
 pl:lr (fun e=>pa P e.1=some e.2) F.pl
 ft:lr (fun e=>vj P e.1.1 e.1.2=some e.2) F.ft
 un:lr (fun e=>P.underlying e.1=some (.slice e.2)) F.un
 ik:lr (fun e=>P.underlying e.1=some (.int e.2)) F.ik
 inf:lr (fun e=>∃(i:TypeInfo) (z:Value),P.info? e.1=some i/\i.zero=some z/\i.size=e.2.1/\z.cells.size=e.2.1/\i.bytes=e.2.2) F.inf
class eJ (P:Program) where
 F:jg
 ok:F.Ok P
 mo:P.follows .mixedOrders=true
def plain{α β:Type}:List α->(List α->Option β)->Option β
 |[],k=>k []
 |x::l,k=>plain l fun l'=>k (x::l')
theorem gN{α β:Type}:∀(l:List α) (k:List α->Option β),plain l k=k l
 |[],_=>rfl
 |x::l,k=>gN l fun l'=>k (x::l')
def fb{β:Type}(Γ:aA)(dst:Option Nat)(d:Option D)(k:aA->Option β):Option β:=
 match dst with
 |some s=>k ((s,d)::Γ)
 |none=>k Γ
theorem gM{β:Type}(Γ:aA)(dst:Option Nat)(d:Option D)(k:aA->Option β):fb Γ dst d k=k (ct Γ dst d):=by cases dst <;> rfl
def uq:List Nat:=[0,1,2,3,4,5,6,7,8,9,10,11,12,13,14,15,16,17,18,19,20,21,22,23,24,25,26,27,28,29,30,31,32,33,34,35,36,37,38,39,40,41,42,43,44,45,46,47,48,49,50,51,52,53,54,55,56,57,58,59,60,61,62,63]
def rI{β:Type}:Hp->List Nat->(Nat->Option β)->Option β
 |[],n::_,k=>k n
 |_::H,_::l,k=>rI H l k
 |_,[],_=>none
theorem GP{β:Type}:∀(H:Hp) (l:List Nat) (k:Nat->Option β) {b:β},rI H l k=some b->∃n,l[H.length]?=some n/\k n=some b
 |[],n::_,k,b,h=>⟨n,rfl,h⟩
 |_::H,_::l,k,b,h=>GP H l k h
 |_,[],_,_,h=>by simp[rI] at h
theorem GN:uq=List.range 64:=by decide
theorem GO{β:Type}{H:Hp}{k:Nat->Option β}{b:β}(h:rI H uq k=some b):k H.length=some b:=by
 obtain⟨n,h1,h2⟩:=GP H uq k h;have hl:=(XN.1 h1).1;rw[GN,List.length_range] at hl;rw[GN,List.getElem?_range hl] at h1;cases h1;exact h2
def HL(k k':IntKind):Bool:=decide (k=k')
def CL:BinOp->Int->Int->Option D
 |.lss,m,n=>some (D.bool (decide (m<n)))
 |.leq,m,n=>some (D.bool (decide (m<=n)))
 |.gtr,m,n=>some (D.bool (decide (n<m)))
 |.geq,m,n=>some (D.bool (decide (n<=m)))
 |.eql,m,n=>some (D.bool (m == n))
 |.neq,m,n=>some (D.bool (m != n))
 |_,_,_=>none
def mD(F:jg)(X:List Nat)(Γ:aA)(H:Hp):Op->Option D
 |.move x=>bif oh x then ao Γ x else match x with
  |.const (.slice none 0 0)=>some (D.v (V.one aT))
  |_=>none
 |.assign x=>bif oh x then ao Γ x else match x with
  |.const (.slice none 0 0)=>some (D.v (V.one aT))
  |_=>none
 |.build t parts=>
  match cL t F.tz with
  |some zs=>match cL t F.pl with
   |some pl=>match mT Γ parts.toList with
    |some lp=>match oI (fun i=>pl[i]?) zs lp with
     |some ls=>plain ls fun ls=>some (D.agg ls)
     |none=>none
    |none=>none
   |none=>none
  |none=>none
 |.field s x f=>
  match ao Γ x with
  |some (.inl (.inr ls))=>match oE s f F.ft with
   |some (fo,t)=>match cL t F.ty with
    |some (true,n)=>plain ((ls.drop fo).take n) fun ls=>some (D.agg ls)
    |some (false,n)=>match ls[fo]? with
     |some l=>bif Nat.beq n 1 then some (D.v (V.one l)) else none
     |none=>none
    |none=>none
   |none=>none
  |_=>none
 |.binOp op t x y u=>
  match ao Γ x with
  |some (.inl (.inl (.inl (.int k m))))=>match ao Γ y with
   |some (.inl (.inl (.inl (.int k' n))))=>bif HL k k' then CL op m n else none
   |_=>none
  |_=>none
 |.load t x=>
  match ao Γ x with
  |some (.inr (.inr (.inl (i,off))))=>bif X.contains i then none else match H[i]? with
   |some (some e)=>match cL t F.ty with
    |some (true,n)=>bif Nat.blt 0 n&&Nat.ble (off+n) e.ls.length then plain ((e.ls.drop off).take n) fun ls=>some (D.agg ls) else none
    |some (false,n)=>match e.ls[off]? with
     |some l=>bif Nat.beq n 1 then some (D.v (V.one l)) else none
     |none=>none
    |none=>none
   |_=>none
  |_=>none
 |op=>Ae F.totd X Γ H op
section
variable {P:Program}{ops:Array Oper}{X:List Nat}{o:Oper}{Γ:aA}{H:Hp}{F:jg}
theorem lT{C:Prop}(h:iI ops Γ o=some true)(hj:o.guard=none->C)(hg:∀{j s:Nat} {want:Bool},o.guard=some (j,want)->(ops[j]?).bind (·.dst)=some s->dL Γ s=some (D.bool want)->C):C:=by
 unfold iI at h;split at h
 .rename_i hn;exact hj hn
 .rename_i j want hgd;split at h
  .rename_i s hs;split at h
   .rename_i b hb;split at h
    .simp only[XL] at h;subst h;exact hg hgd hs hb
    .simp only[XL] at h;have:want=false:=by cases want <;> simp_all
     subst this;exact hg hgd hs hb
   .simp at h
   .simp at h
  .simp at h
theorem U6{op:BinOp}{k:IntKind}{t u:Nat}{x y:Operand}{m n:Int}{d:D}(ho:o.op = .binOp op t x y u)(hx:ao Γ x=some (D.val (.int k m)))(hy:ao Γ y=some (D.val (.int k n)))(h:CL op m n=some d):Jq P ops X o Γ H d:=by
 unfold CL at h;split at h
 .simp only[XL] at h;subst h;exact DF ho hx hy rfl
 .simp only[XL] at h;subst h;exact DH ho hx hy rfl
 .simp only[XL] at h;subst h;exact DK ho hx hy rfl
 .simp only[XL] at h;subst h;exact DL ho hx hy rfl
 .simp only[XL] at h;subst h;exact DN ho hx hy rfl
 .simp only[XL] at h;subst h;exact DE ho hx hy rfl
 .simp at h
theorem Hl(hF:F.Ok P){d:D}(h:mD F X Γ H o.op=some d):Jq P ops X o Γ H d:=by
 generalize hop:o.op=op at h;unfold mD at h;split at h
 .rename_i x;cases hn:oh x
  .rw[hn] at h;simp only[cond_false] at h;split at h
   .simp only[XL] at h;subst h;exact WO hop
   .simp at h
  .rw[hn] at h;exact v5 hop h
 .rename_i x;cases hn:oh x
  .rw[hn] at h;simp only[cond_false] at h;split at h
   .simp only[XL] at h;subst h;exact W5 hop
   .simp at h
  .rw[hn] at h;exact v8 hop h
 .split at h
  .rename_i zs hz;split at h
   .rename_i pl hpl;split at h
    .rename_i lp hlp;split at h
     .rename_i ls hls;rw[gN] at h;simp only[XL] at h;subst h;exact nN hop (eh hF.tz hz) hlp (eh hF.pl hpl) hls
     .simp at h
    .simp at h
   .simp at h
  .simp at h
 .split at h
  .rename_i ls hx;split at h
   .rename_i fo t hf;have hf:=uX hF.ft hf;split at h
    .rename_i n ht;rw[gN] at h;simp only[XL] at h;subst h;exact WZ hop hx hf (eh hF.f.ty ht) rfl
    .rename_i n ht;split at h
     .rename_i l hl;cases hn:Nat.beq n 1
      .rw[hn] at h;simp at h
      .rw[hn] at h;simp only[cond_true,XL] at h;subst h;have:=XT hn;subst this;exact W0 hop hx hf (eh hF.f.ty ht) hl
     .simp at h
    .simp at h
   .simp at h
  .simp at h
 .split at h
  .rename_i k m hx;split at h
   .rename_i k' n hy;cases hk:HL k k'
    .rw[hk] at h;simp at h
    .rw[hk] at h;have:=of_decide_eq_true hk;subst this;exact U6 hop hx hy h
   .simp at h
  .simp at h
 .rename_i t x;split at h
  .rename_i i off hx;cases hc:X.contains i
   .rw[hc] at h;simp only[cond_false] at h;have ho:uG F.totd X H t i off=some d:=by
     rw[<-h];unfold uG;rw[hc];simp only[cond_false,gN] <;> rfl
    exact HK hF.f hop hx ho
   .rw[hc] at h;simp at h
  .simp at h
 .exact Nj hF.f (by rw[hop];exact h)
def mE(F:jg)(Γ:aA)(H:Hp):Op->Option (Option D×Hp)
 |.alloc t=>match cL t F.tz with
  |some zs=>rI H uq fun n=>plain (H++[some ⟨t,zs,none,none⟩]) fun H'=>some (some (D.ptr n 0),H')
  |none=>none
 |.box t x=>match ao Γ x with
  |some (.inl y)=>rI H uq fun n=>plain y.leaves fun ls=>plain (H++[some ⟨t,ls,none,none⟩]) fun H'=>some (some (D.ptr n 0),H')
  |_=>none
 |.store t x y=>
  match ao Γ x with
  |some (.inr (.inr (.inl (i,off))))=>match ao Γ y with
   |some (.inl v)=>match H[i]? with
    |some (some e)=>match cL t F.ty with
     |some (b,n)=>bif Nat.beq v.leaves.length n&&(Nat.blt 0 n&&(Nat.ble (off+n) e.ls.length&&Nat.beq e.fz 0)) then
       plain (splice e.ls off v.leaves) fun ls=>plain (H.set i (some ⟨e.t,ls,e.row,e.cP⟩)) fun H'=>some (none,H') else none
     |none=>none
    |_=>none
   |_=>none
  |_=>none
 |_=>none
theorem RD(hF:F.Ok P){d:Option D}{H':Hp}(h:mE F Γ H o.op=some (d,H')):Je P ops o Γ H d H':=by
 generalize hop:o.op=op at h;unfold mE at h;split at h
 .split at h
  .rename_i zs hz;have h:=GO h;rw[gN] at h;simp only[XL,XO] at h;obtain⟨rfl,rfl⟩:=h;exact oX hop (eh hF.tz hz) rfl
  .simp at h
 .split at h
  .rename_i y hx;have h:=GO h;simp only[gN,XL,XO] at h;obtain⟨rfl,rfl⟩:=h;exact Xd hop hx rfl
  .simp at h
 .split at h
  .rename_i i off hx;split at h
   .rename_i v hy;split at h
    .rename_i e hi;split at h
     .rename_i b n ht;have ht:=eh hF.f.ty ht;cases hc:(Nat.beq v.leaves.length n&&(Nat.blt 0 n&&(Nat.ble (off+n) e.ls.length&&Nat.beq e.fz 0)))
      .rw[hc] at h;simp at h
      .rw[hc] at h;simp only[gN,cond_true,XL,XO] at h;simp only[XQ,ZV,zav,ZU] at hc;obtain⟨rfl,rfl⟩:=h;exact eQ hop hx hy hi ht hc.1 hc.2.1 hc.2.2.1 rfl hc.2.2.2
     .simp at h
    .simp at h
   .simp at h
  .simp at h
 .simp at h
def mO(F:jg)(N:Nat)(ops:Array Oper)(Γ:aA)(H:Hp)(o:Oper):Option (aA×Hp):=
 bif eA N o.dst then
  match iI ops Γ o with
  |some true=>
   bif cu o then
    match mE F Γ H o.op with
    |some (d,H')=>fb Γ o.dst d fun Γ=>some (Γ,H')
    |none=>none
   else
    match mD F [] Γ H o.op with
    |some d=>fb Γ o.dst (some d) fun Γ=>some (Γ,H)
    |none=>none
  |some false=>fb Γ o.dst (some (D.aW [])) fun Γ=>some (Γ,H)
  |none=>none
 else none
theorem RA{Q:Exit->Act->World->Prop}{w0:aJ}{A0:ak}{N:Nat}{Γ':aA}{H':Hp}{l:List Oper}(hF:F.Ok P)(h:mO F N ops Γ H o=some (Γ',H'))(hr:Tl P ops Q w0 A0 N Γ' H' l):Tl P ops Q w0 A0 N Γ H (o::l):=by
 unfold mO at h;cases hd:eA N o.dst
 .rw[hd] at h;simp at h
 .rw[hd] at h;simp only[cond_true] at h;split at h
  .rename_i hg;cases he:cu o
   .rw[he] at h;simp only[cond_false] at h;split at h
    .rename_i d hq;simp only[gM,XL,XO] at h;obtain⟨rfl,rfl⟩:=h;have hq:=Hl (ops:=ops) hF hq;exact Dv (lT hg (fun hn=>gL hn he hq) (fun h1 h2 h3=>wg h1 h2 h3 he hq)) hd hr
    .simp at h
   .rw[he] at h;simp only[cond_true] at h;split at h
    .rename_i d2 H2 hf;simp only[gM,XL,XO] at h;obtain⟨rfl,rfl⟩:=h;have hf:=RD (ops:=ops) hF hf;exact KZ (lT hg (fun hn=>zF hn he hf) (fun h1 h2 h3=>Lr h1 h2 h3 he hf)) he hd hr
    .simp at h
  .rename_i hg;simp only[gM,XL,XO] at h;obtain⟨rfl,rfl⟩:=h;exact Dv (SN hg) hd hr
  .simp at h
def Bx(F:jg)(N:Nat)(ks:List KF)(Γ:aA)(H:Hp):Md->Option (List KF×aA×Hp×Md)
 |.code c=>match c with
  |.seq x y=>some (.z9 y::ks,Γ,H,.code x)
  |.region _ r dr=>bif dr then none else some (ks,Γ,H,.ops r r.toList)
  |.skip=>some (ks,Γ,H,.ex .normal)
  |.exit id=>some (ks,Γ,H,.ex (.exit id))
  |.block id x=>some (.bO id::ks,Γ,H,.code x)
  |.cond (.tmp s) x y=>match dL Γ s with
   |some (.inl (.inl (.inl (.bool b))))=>match b with
    |true=>some (ks,Γ,H,.code x)
    |false=>some (ks,Γ,H,.code y)
   |_=>none
  |_=>none
 |.ops r l=>match l with
  |[]=>some (ks,Γ,H,.ex .normal)
  |o::l=>match mO F N r Γ H o with
   |some (Γ',H')=>some (ks,Γ',H',.ops r l)
   |none=>none
 |.ex e=>match ks with
  |[]=>none
  |.z9 y::ks=>match e with
   |.normal=>some (ks,Γ,H,.code y)
   |.exit id=>some (ks,Γ,H,.ex (.exit id))
   |_=>none
  |.bO id::ks=>match e with
   |.normal=>some (ks,Γ,H,.ex .normal)
   |.exit id'=>bif Nat.beq id' id then some (ks,Γ,H,.ex .normal) else some (ks,Γ,H,.ex (.exit id'))
   |_=>none
  |.lp _::ks=>match e with
   |.exit id=>some (ks,Γ,H,.ex (.exit id))
   |_=>none
def uA(F:jg)(N:Nat):Nat->List KF->aA->Hp->Md->Option (List KF×aA×Hp×Md)
 |0,ks,Γ,H,m=>some (ks,Γ,H,m)
 |k+1,ks,Γ,H,m=>match Bx F N ks Γ H m with
  |some (ks',Γ',H',m')=>uA F N k ks' Γ' H' m'
  |none=>none
def rN(F:jg)(N k:Nat)(ks:List KF)(Γ:aA)(H:Hp)(m:Md):Option (List KF×aA×Hp×Md):=plain Γ fun Γ=>plain H fun H=>uA F N k ks Γ H m
section
variable {Q:Exit->Act->World->Prop}{w0:aJ}{A0:ak}{N:Nat}{ks ks':List KF}{Γ':aA}{H':Hp}{m m':Md}
theorem Rz(hF:F.Ok P)(h:Bx F N ks Γ H m=some (ks',Γ',H',m'))(hr:Ms P Q w0 A0 N ks' Γ' H' m'):Ms P Q w0 A0 N ks Γ H m:=by
 unfold Bx at h;split at h
 .split at h
  .simp only[XL,XO] at h;obtain⟨rfl,rfl,rfl,rfl⟩:=h;exact Dw hr
  .rename_i id r dr;cases dr
   .simp only[cond_false,XL,XO] at h;obtain⟨rfl,rfl,rfl,rfl⟩:=h;have:=K2 (id:=id) (l:=r.toList) (P:=P) (Q:=qk P Q ks) (w0:=w0) (A0:=A0) (N:=N) (Γ:=Γ) (H:=H) hr;exact this
   .simp at h
  .simp only[XL,XO] at h;obtain⟨rfl,rfl,rfl,rfl⟩:=h;exact Wm hr
  .simp only[XL,XO] at h;obtain⟨rfl,rfl,rfl,rfl⟩:=h;exact Wz hr
  .simp only[XL,XO] at h;obtain⟨rfl,rfl,rfl,rfl⟩:=h;exact WD hr
  .split at h
   .rename_i b hl;split at h
    .simp only[XL,XO] at h;obtain⟨rfl,rfl,rfl,rfl⟩:=h;exact Wl hl hr
    .simp only[XL,XO] at h;obtain⟨rfl,rfl,rfl,rfl⟩:=h;exact Wy hl hr
   .simp at h
  .simp at h
 .split at h
  .simp only[XL,XO] at h;obtain⟨rfl,rfl,rfl,rfl⟩:=h;exact Wk hr
  .split at h
   .rename_i ho;simp only[XL,XO] at h;obtain⟨rfl,rfl,rfl,rfl⟩:=h;exact RA hF ho hr
   .simp at h
 .split at h
  .simp at h
  .split at h
   .simp only[XL,XO] at h;obtain⟨rfl,rfl,rfl,rfl⟩:=h;exact Xv hr
   .simp only[XL,XO] at h;obtain⟨rfl,rfl,rfl,rfl⟩:=h;exact LA hr
   .simp at h
  .split at h
   .simp only[XL,XO] at h;obtain⟨rfl,rfl,rfl,rfl⟩:=h;exact XA hr
   .rename_i id _ _ id';cases hb:Nat.beq id' id
    .rw[hb] at h;simp only[cond_false,XL,XO] at h;obtain⟨rfl,rfl,rfl,rfl⟩:=h;exact Xy hb hr
    .rw[hb] at h;have:=XT hb;subst this;simp only[cond_true,XL,XO] at h;obtain⟨rfl,rfl,rfl,rfl⟩:=h;exact Xz hr
   .simp at h
  .split at h
   .simp only[XL,XO] at h;obtain⟨rfl,rfl,rfl,rfl⟩:=h;exact LA hr
   .simp at h
theorem Bw(hF:F.Ok P)(k:Nat)(h:uA F N k ks Γ H m=some (ks',Γ',H',m'))(hr:Ms P Q w0 A0 N ks' Γ' H' m'):Ms P Q w0 A0 N ks Γ H m:=by
 induction k generalizing ks Γ H m with
 |zero=>
  simp only[uA,XL,XO] at h;obtain⟨rfl,rfl,rfl,rfl⟩:=h;exact hr
 |succ k ih=>
  simp only[uA] at h;split at h
  .rename_i hs;exact Rz hF hs (ih h)
  .simp at h
theorem zc[T:eJ P]{c:Code}(k:Nat)(h:rN T.F N k ks Γ H (.code c)=some (ks',Γ',H',m'))(hr:Ms P Q w0 A0 N ks' Γ' H' m'):Tc P (qk P Q ks) w0 A0 N Γ H c:=Bw T.ok k (by unfold rN at h;rw[gN,gN] at h;exact h) hr
theorem zl[T:eJ P]{l:List Oper}(k:Nat)(h:rN T.F N k ks Γ H (.ops ops l)=some (ks',Γ',H',m'))(hr:Ms P Q w0 A0 N ks' Γ' H' m'):Tl P ops (qk P Q ks) w0 A0 N Γ H l:=Bw T.ok k (by unfold rN at h;rw[gN,gN] at h;exact h) hr
theorem za[T:eJ P]{e:Exit}(k:Nat)(h:rN T.F N k ks Γ H (.ex e)=some (ks',Γ',H',m'))(hr:Ms P Q w0 A0 N ks' Γ' H' m'):At (qk P Q ks) w0 A0 N Γ H e:=Bw T.ok k (by unfold rN at h;rw[gN,gN] at h;exact h) hr
end
def mI(F:jg)(Γ:aA)(H:Hp)(i:Nat):Op->Option (Option D×HE)
 |.store t x y=>
  match ao Γ x with
  |some (.inr (.inr (.inl (j,off))))=>match ao Γ y with
   |some (.inl v)=>match H[i]? with
    |some (some e)=>match cL t F.ty with
     |some (b,n)=>bif Nat.beq j i&&(Nat.beq v.leaves.length n&&(Nat.blt 0 n&&(Nat.ble (off+n) e.ls.length&&Nat.beq e.fz 0))) then plain (splice e.ls off v.leaves) fun ls=>some (none,⟨e.t,ls,e.row,e.cP⟩) else none
     |none=>none
    |_=>none
   |_=>none
  |_=>none
 |.alloc t=>match H[i]? with
  |some none=>match cL t F.tz with
   |some zs=>some (some (D.ptr i 0),⟨t,zs,none,none⟩)
   |none=>none
  |_=>none
 |.box t x=>match H[i]? with
  |some none=>match ao Γ x with
   |some (.inl y)=>plain y.leaves fun ls=>some (some (D.ptr i 0),⟨t,ls,none,none⟩)
   |_=>none
  |_=>none
 |_=>none
theorem RC(hF:F.Ok P){i:Nat}{d:Option D}{e:HE}(h:mI F Γ H i o.op=some (d,e)):∀H2:Hp,H2[i]?=H[i]?->Je P ops o Γ H2 d (H2.set i (some e)):=by
 generalize hop:o.op=op at h;unfold mI at h;split at h
 .split at h
  .rename_i j off hx;split at h
   .rename_i v hy;split at h
    .rename_i e0 hi;split at h
     .rename_i b n ht;have ht:=eh hF.f.ty ht;cases hc:(Nat.beq j i&&(Nat.beq v.leaves.length n&&(Nat.blt 0 n&&(Nat.ble (off+n) e0.ls.length&&Nat.beq e0.fz 0))))
      .rw[hc] at h;simp at h
      .rw[hc] at h;simp only[gN,cond_true,XL,XO] at h;simp only[XQ,ZV,zav,ZU] at hc;obtain⟨rfl,rfl⟩:=h;obtain⟨rfl,hc⟩:=hc;exact zE hop hx hy hi ht hc.1 hc.2.1 hc.2.2.1 rfl hc.2.2.2
     .simp at h
    .simp at h
   .simp at h
  .simp at h
 .split at h
  .rename_i hi;split at h
   .rename_i zs hz;simp only[XL,XO] at h;obtain⟨rfl,rfl⟩:=h;exact Lp hop (eh hF.tz hz) hi
   .simp at h
  .simp at h
 .split at h
  .rename_i hi;split at h
   .rename_i y hx;simp only[gN,XL,XO] at h;obtain⟨rfl,rfl⟩:=h;exact Xj hop hx hi
   .simp at h
  .simp at h
 .simp at h
def mK(F:jg)(X:List Nat)(tl:List (Option Nat))(ops:Array Oper):Nat->Nat->aA->Hp->List Oper->Option (aA×Hp×List Oper)
 |0,_,Γ,H,l=>some (Γ,H,l)
 |_+1,_,_,_,[]=>none
 |k+1,n,Γ,H,o::l=>match iI ops Γ o with
  |some true=>bif cu o then
    match tl.getD n none with
    |some i=>match mI F Γ H i o.op with
     |some (d,e)=>fb Γ o.dst d fun Γ=>plain (H.set i (some e)) fun H=>mK F X tl ops k (n+1) Γ H l
     |none=>none
    |none=>none
   else match mD F X Γ H o.op with
    |some d=>fb Γ o.dst (some d) fun Γ=>mK F X tl ops k (n+1) Γ H l
    |none=>none
  |some false=>fb Γ o.dst (some (D.aW [])) fun Γ=>mK F X tl ops k (n+1) Γ H l
  |none=>none
theorem RB{tl:List (Option Nat)}{n:Nat}{l l':List Oper}{Γ':aA}{H':Hp}{K:aA->Hp->Prop}(hF:F.Ok P)(k:Nat)(h:mK F X tl ops k n Γ H l=some (Γ',H',l'))(hr:cy P ops tl X (n+k) l' Γ' H' K):cy P ops tl X n l Γ H K:=by
 induction k generalizing Γ H l n with
 |zero=>
  simp only[mK,XL,XO] at h;obtain⟨rfl,rfl,rfl⟩:=h;exact hr
 |succ k ih=>
  have hr:cy P ops tl X (n+1+k) l' Γ' H' K:=by rw[Nat.add_right_comm];exact hr
  cases l with
  |nil=>simp[mK] at h
  |cons o l=>
   simp only[mK] at h;split at h
   .rename_i hg;cases he:cu o
    .rw[he] at h;simp only[cond_false] at h;split at h
     .rename_i d hq;rw[gM] at h;have hq:=Hl (ops:=ops) hF hq;exact DX (lT hg (fun hn=>gL hn he hq) (fun h1 h2 h3=>wg h1 h2 h3 he hq)) (ih h hr) he
     .simp at h
    .rw[he] at h;simp only[cond_true] at h;split at h
     .rename_i i ht;split at h
      .rename_i d e hm;rw[gM,gN] at h;have hm:=RC (ops:=ops) hF hm;exact lT hg (fun hn=>Lx i ht hn he hm (ih h hr)) (fun h1 h2 h3=>Lw i ht h1 h2 h3 he hm (ih h hr))
      .simp at h
     .simp at h
   .rename_i hg;rw[gM] at h;exact Xr hg (ih h hr)
   .simp at h
section
variable {tl:List (Option Nat)}{n:Nat}{l l':List Oper}{os rest:List Oper}{Γ':aA}{H':Hp}{K:aA->Hp->Prop}
theorem dz[T:eJ P](k:Nat)(h:(plain Γ fun Γ=>plain H fun H=>mK T.F X tl ops k n Γ H l)=some (Γ',H',l'))(hr:cy P ops tl X (n+k) l' Γ' H' K):cy P ops tl X n l Γ H K:=RB T.ok k (by rw[gN,gN] at h;exact h) hr
def G9(az:List (Nat×Nat))(m:Nat):List (Option Nat):=(List.range m).map fun k=>cL k az
variable {Q:Exit->Act->World->Prop}{w0:aJ}{A0:ak}{N:Nat}{ks:List KF}
theorem aE[T:eJ P](k:Nat)(az:List (Nat×Nat))(X:List Nat){id:Nat}{l:List Oper}(hd:cy P l.toArray (G9 az l.length) X 0 l Γ (H++List.replicate k none) fun Γ' H'=>At Q w0 A0 N Γ' H' .normal)
  (hok:rp N l.toArray (G9 az l.length) X=true:=by kernel_rfl):Tc P Q w0 A0 N Γ H (.region id l.toArray true):=WB k _ X T.mo hok hd
theorem aa{d:D}(h1:(iI ops Γ o,cu o,eA N o.dst)=(some true,false,true))(h:Jq P ops [] o Γ H d)(hr:Tl P ops Q w0 A0 N (ct Γ o.dst (some d)) H rest):Tl P ops Q w0 A0 N Γ H (o::rest):=by
 simp only[XO] at h1;exact Dv (lT h1.1 (fun hn=>gL hn h1.2.1 h) (fun a b c=>wg a b c h1.2.1 h)) h1.2.2 hr
theorem aK{d:Option D}(h1:(iI ops Γ o,cu o,eA N o.dst)=(some true,true,true))(h:Je P ops o Γ H d H')(hr:Tl P ops Q w0 A0 N (ct Γ o.dst d) H' rest):Tl P ops Q w0 A0 N Γ H (o::rest):=by
 simp only[XO] at h1;exact KZ (lT h1.1 (fun hn=>zF hn h1.2.1 h) (fun a b c=>Lr a b c h1.2.1 h)) h1.2.1 h1.2.2 hr
theorem af{d:D}(h1:(iI ops Γ o,cu o)=(some true,false))(h:Jq P ops X o Γ H d)(hr:cy P ops tl X (n+1) os (ct Γ o.dst (some d)) H K):cy P ops tl X n (o::os) Γ H K:=by
 simp only[XO] at h1;exact DX (lT h1.1 (fun hn=>gL hn h1.2 h) (fun a b c=>wg a b c h1.2 h)) hr h1.2
theorem fh{d:Option D}(h1:(iI ops Γ o,cu o)=(some true,true))(h:∀H2,Je P ops o Γ H2 d H2)(hr:cy P ops tl X (n+1) os (ct Γ o.dst d) H K):cy P ops tl X n (o::os) Γ H K:=by
 simp only[XO] at h1;exact lT h1.1 (fun hn=>Xt hn h1.2 h hr) (fun a b c=>Xs a b c h1.2 h hr)
theorem cH(i:Nat){d:Option D}{e:Option HE}(h1:(tl.getD n none,iI ops Γ o,cu o)=(some i,some true,true))(h:∀H2:Hp,H2[i]?=H[i]?->Je P ops o Γ H2 d (H2.set i e))
  (hr:cy P ops tl X (n+1) os (ct Γ o.dst d) (H.set i e) K):cy P ops tl X n (o::os) Γ H K:=by
 simp only[XO] at h1;exact lT h1.2.1 (fun hn=>Lx i h1.1 hn h1.2.2 h hr) (fun a b c=>Lw i h1.1 a b c h1.2.2 h hr)
theorem bT{s:Nat}{b:Bool}{G:aA}{l:List Oper}(b':Bool)(hG:G=(s,some (D.bool b))::Γ)(h:b=b')(hr:Tl P ops Q w0 A0 N ((s,some (D.bool b'))::Γ) H l):Tl P ops Q w0 A0 N G H l:=by subst hG;subst h;exact hr
theorem gv{s:Nat}{b:Bool}{G:aA}(b':Bool)(hG:G=(s,some (D.bool b))::Γ)(h:b=b')(hr:cy P ops tl X n l ((s,some (D.bool b'))::Γ) H K):cy P ops tl X n l G H K:=by subst hG;subst h;exact hr
theorem db{s:Nat}{b:Bool}{G:aA}{l:List Oper}(hG:G=(s,some (D.bool b))::Γ)(hf:b=false->Tl P ops Q w0 A0 N ((s,some (D.bool false))::Γ) H l)(ht:b=true->Tl P ops Q w0 A0 N ((s,some (D.bool true))::Γ) H l):Tl P ops Q w0 A0 N G H l:=by
 subst hG;cases b
 .exact hf rfl
 .exact ht rfl
theorem jQ{s:Nat}{b:Bool}{G:aA}(hG:G=(s,some (D.bool b))::Γ)(hf:b=false->cy P ops tl X n l ((s,some (D.bool false))::Γ) H K)(ht:b=true->cy P ops tl X n l ((s,some (D.bool true))::Γ) H K):cy P ops tl X n l G H K:=by
 subst hG;cases b
 .exact hf rfl
 .exact ht rfl
theorem iK{s:Nat}{d:D}{G:aA}{l:List Oper}(d':D)(hG:G=(s,some d)::Γ)(h:d=d')(hr:Tl P ops Q w0 A0 N ((s,some d')::Γ) H l):Tl P ops Q w0 A0 N G H l:=by subst hG;subst h;exact hr
theorem eU{s:Nat}{d:D}{G:aA}(d':D)(hG:G=(s,some d)::Γ)(h:d=d')(hr:cy P ops tl X n l ((s,some d')::Γ) H K):cy P ops tl X n l G H K:=by subst hG;subst h;exact hr
theorem cK(X':List Nat){d:D}(h1:(iI ops Γ o,cu o)=(some true,false))(h:Jq P ops X' o Γ H d)(hr:cy P ops tl X (n+1) os (ct Γ o.dst (some d)) H K)(hx:(X.all fun x=>X'.contains x||kg ops tl x n)=true:=by kernel_rfl):cy P ops tl X n (o::os) Γ H K:=by
 simp only[XO] at h1;exact Xq X' (lT h1.1 (fun hn=>gL hn h1.2 h) (fun a b c=>wg a b c h1.2 h)) hx hr h1.2
theorem HR{f:Nat}{args:Array Operand}{tys:Array TypeId}(ho:o.op = .call { callee:=.value (.func f),args:=args,argTypes:=tys }):cu o=true:=by unfold cu;rw[ho]
theorem aj{f:Nat}{args:Array Operand}{tys:Array TypeId}{xs:List V}{y:R}(hf:aD P f)(h:(iI ops Γ o,eA N o.dst,o.op,gA Γ args.toList)=(some true,true,Op.call { callee:=.value (.func f),args:=args,argTypes:=tys },some xs))
  (hspec:ar P f xs y) (hr:Tl P ops Q w0 A0 N (ct Γ o.dst (some y.lG)) H rest) (hcl:fq xs=true:=by rfl):Tl P ops Q w0 A0 N Γ H (o::rest):=by
 simp only[XO] at h;exact aK (by rw[h.1,h.2.1,HR h.2.2.1]) (Ln h.2.2.1 hf h.2.2.2 hspec hcl) hr
theorem ax{f:Nat}{args:Array Operand}{tys:Array TypeId}{xs:List V}{y:R}(hf:aD P f)(h:(iI ops Γ o,o.op,gA Γ args.toList)=(some true,Op.call { callee:=.value (.func f),args:=args,argTypes:=tys },some xs))
  (hspec:ar P f xs y) (hr:cy P ops tl X (n+1) os (ct Γ o.dst (some y.lG)) H K) (hcl:fq xs=true:=by rfl):cy P ops tl X n (o::os) Γ H K:=by
 simp only[XO] at h;exact fh (by rw[h.1,HR h.2.1]) (Xi h.2.1 hf h.2.2 hspec hcl) hr
end
section
variable {x y:Operand}{t u:Nat}
theorem kU[T:eJ P]{i off:Nat}{e:HE}{l:ab}(h:(o.op,ao Γ x,H[i]?,X.contains i,cL t T.F.ty,e.ls[off]?)=(Op.load t x,some (D.ptr i off),some (some e),false,some (false,1),some l)):Jq P ops X o Γ H (D.v (V.one l)):=by
 simp only[XO] at h;exact gT h.1 h.2.1 h.2.2.1 (fun hm=>by rw[Zq.2 hm] at h;simp at h) (eh T.ok.f.ty h.2.2.2.2.1) h.2.2.2.2.2
theorem aw[T:eJ P]{n:Nat}{ls:List ab}(h:(o.op,ao Γ x,cL t T.F.un)=(Op.call { callee:=.builtin .len,args:=#[x],argTypes:=#[t] },some (D.rep (bX n ls)),some u)):Jq P ops X o Γ H (D.int n):=by
 simp only[XO] at h;exact WU h.1 h.2.1 (eh T.ok.un h.2.2)
theorem bo[T:eJ P]{n:Nat}{ls:List ab}(h:(o.op,ao Γ x,cL t T.F.ty)=(Op.load t x,some (D.rep (eR ls)),some (true,n)))(hn:n=ls.length:=by rfl):Jq P ops X o Γ H (D.agg ls):=by
 simp only[XO] at h;exact DG h.1 h.2.1 (eh T.ok.f.ty h.2.2) hn
theorem bB[T:eJ P]{l:ab}{ls:List ab}(h:(o.op,ao Γ x,cL t T.F.ty)=(Op.load t x,some (D.rep (eR (l::ls))),some (false,1))):Jq P ops X o Γ H (D.v (V.one l)):=by
 simp only[XO] at h;exact WS h.1 h.2.1 (eh T.ok.f.ty h.2.2)
theorem dW[T:eJ P]{s f fo sz:Nat}{ls:List ab}(h:(o.op,ao Γ x,oE s f T.F.fo,Nat.beq sz 0)=(Op.fieldAddr s x f,some (D.rep (eR ls)),some (fo,sz),false)):Jq P ops X o Γ H (D.rep (eR (ls.drop fo))):=by
 simp only[XO] at h;exact Lj h.1 h.2.1 (uX T.ok.f.fo h.2.2.1) h.2.2.2
theorem jv[T:eJ P]{s f fo sz:Nat}{ls:List ab}(h:(o.op,ao Γ x,oE s f T.F.fo,Nat.beq sz 0)=(Op.fieldAddr s x f,some (D.rep (eR ls)),some (fo,sz),false)){ls':List ab}(hls:(ls.drop fo).take sz=ls':=by rfl):Jq P ops X o Γ H (D.rep (eR ls')):=by
 simp only[XO] at h;exact W1 h.1 h.2.1 (uX T.ok.f.fo h.2.2.1) h.2.2.2 hls
theorem aS[T:eJ P]{α:Type}{e:El α}{l:List α}{v:α}{k:IntKind}{j:Int}{b:Bool}(i:Nat)(hi:l[i]?=some v)(h:(o.op,ao Γ x,ao Γ y,cL t T.F.un,cL u T.F.ty)=(Op.indexAddr t x y,some (D.v (V.one (e.row l))),some (D.val (.int k j)),some u,some (b,e.sz)))
  (hj:j=(i:Int):=by first|rfl|omega):Jq P ops X o Γ H (D.rep (eR (e.f v))):=by
 simp only[XO] at h;exact DJ e l i h.1 h.2.1 h.2.2.1 (eh T.ok.un h.2.2.2.1) (eh T.ok.f.ty h.2.2.2.2) hi hj
theorem b5[T:eJ P]{n:Nat}{k:IntKind}{j:Int}{b:Bool}{ls:List ab}{l:ab}(h:(o.op,ao Γ x,ao Γ y,cL t T.F.un,cL u T.F.ty)=(Op.indexAddr t x y,some (D.rep (bX n ls)),some (D.val (.int k j)),some u,some (b,1)))
  (hl:ls[j.toNat]?=some l) (h0:0<=j:=by omega) (hj:j<n:=by omega):Jq P ops X o Γ H (D.rep (eR [l])):=by
 simp only[XO] at h;exact WX h.1 h.2.1 h.2.2.1 (eh T.ok.un h.2.2.2.1) (eh T.ok.f.ty h.2.2.2.2) h0 hj hl
theorem EU{l0 l1:ab}:∀(ls:List ab),jK l0 l1 ls ls
 |[]=>trivial
 |l::ls=>⟨.inl rfl,EU ls⟩
theorem ET{l0 l1:ab}:∀{ls:List ab} {k:Nat},ls[k]?=some l0->jK l0 l1 ls (ls.set k l1)
 |[],_,h=>by simp at h
 |l::ls,0,h=>by simp at h;subst h;exact⟨.inr ⟨rfl,rfl⟩,EU ls⟩
 |l::ls,k+1,h=>by simp at h;exact⟨.inl rfl,ET h⟩
theorem BG[T:eJ P]{α:Type}{e:El α}{l:List α}{i off n r m u sz:Nat}{e0:HE}{ls:List ab}(k:Nat)
  (h:(o.op,ao Γ x,H[i]?,cL t T.F.ty,(e0.ls.drop off).take n,ls[k]?,H[r]?)=(Op.load t x,some (D.ptr i off),some (some e0),some (true,n),ls,some (ab.own r m),some (some ⟨u,e.all l,some sz,some (.inr ((e.all l).length,some m))⟩)))
  (hk:(X.contains i,X.contains r,Nat.blt 0 n&&Nat.ble (off+n) e0.ls.length,e.sz,Nat.blt 0 sz)=(false,false,true,sz,true)):Jq P ops X o Γ H (D.agg (ls.set k (e.row l))):=by
 simp only[XO,XQ,ZV,zav] at h hk;obtain⟨h1,h2,h3,h4,rfl,k1,h6⟩:=h;obtain⟨k2,k3,k4,k5,k6⟩:=hk;have ni:∀{a:Nat},X.contains a=false->a ∉ X:=fun hc hm=>by rw[Zq.2 hm] at hc;simp at hc
 exact qw (jC h1 h2 h3 (ni k2) (eh T.ok.f.ty h4) k4.1 k4.2 rfl) (dH.gf e l h6 k6 k5) (ni k3) (ET k1)
theorem aX{k:IntKind}{m n:Int}(h:(o.op,ao Γ x,ao Γ y)=(Op.binOp .lss t x y u,some (D.val (.int k m)),some (D.val (.int k n))))(hr:m<n:=by omega):Jq P ops X o Γ H (D.bool true):=by
 simp only[XO] at h;exact DF h.1 h.2.1 h.2.2 (dT hr)
theorem aO{k:IntKind}{m n:Int}(h:(o.op,ao Γ x,ao Γ y)=(Op.binOp .lss t x y u,some (D.val (.int k m)),some (D.val (.int k n))))(hr:¬m<n:=by omega):Jq P ops X o Γ H (D.bool false):=by
 simp only[XO] at h;exact DF h.1 h.2.1 h.2.2 (dF hr)
theorem uF{k:IntKind}{m n:Int}(h:(o.op,ao Γ x,ao Γ y)=(Op.binOp .leq t x y u,some (D.val (.int k m)),some (D.val (.int k n))))(hr:m<=n:=by omega):Jq P ops X o Γ H (D.bool true):=by
 simp only[XO] at h;exact DH h.1 h.2.1 h.2.2 (dT hr)
theorem rU{k:IntKind}{m n:Int}(h:(o.op,ao Γ x,ao Γ y)=(Op.binOp .leq t x y u,some (D.val (.int k m)),some (D.val (.int k n))))(hr:¬m<=n:=by omega):Jq P ops X o Γ H (D.bool false):=by
 simp only[XO] at h;exact DH h.1 h.2.1 h.2.2 (dF hr)
theorem dQ{k:IntKind}{m n:Int}(h:(o.op,ao Γ x,ao Γ y)=(Op.binOp .gtr t x y u,some (D.val (.int k m)),some (D.val (.int k n))))(hr:n<m:=by omega):Jq P ops X o Γ H (D.bool true):=by
 simp only[XO] at h;exact DK h.1 h.2.1 h.2.2 (dT hr)
theorem cD{k:IntKind}{m n:Int}(h:(o.op,ao Γ x,ao Γ y)=(Op.binOp .gtr t x y u,some (D.val (.int k m)),some (D.val (.int k n))))(hr:¬n<m:=by omega):Jq P ops X o Γ H (D.bool false):=by
 simp only[XO] at h;exact DK h.1 h.2.1 h.2.2 (dF hr)
theorem dR{k:IntKind}{m n:Int}(h:(o.op,ao Γ x,ao Γ y)=(Op.binOp .geq t x y u,some (D.val (.int k m)),some (D.val (.int k n))))(hr:n<=m:=by omega):Jq P ops X o Γ H (D.bool true):=by
 simp only[XO] at h;exact DL h.1 h.2.1 h.2.2 (dT hr)
theorem dY{k:IntKind}{m n:Int}(h:(o.op,ao Γ x,ao Γ y)=(Op.binOp .geq t x y u,some (D.val (.int k m)),some (D.val (.int k n))))(hr:¬n<=m:=by omega):Jq P ops X o Γ H (D.bool false):=by
 simp only[XO] at h;exact DL h.1 h.2.1 h.2.2 (dF hr)
theorem bp{k:IntKind}{m n:Int}(h:(o.op,ao Γ x,ao Γ y)=(Op.binOp .eql t x y u,some (D.val (.int k m)),some (D.val (.int k n))))(hr:m=n:=by omega):Jq P ops X o Γ H (D.bool true):=by
 simp only[XO] at h;exact DN h.1 h.2.1 h.2.2 (eT hr)
theorem aU{k:IntKind}{m n:Int}(h:(o.op,ao Γ x,ao Γ y)=(Op.binOp .eql t x y u,some (D.val (.int k m)),some (D.val (.int k n))))(hr:m≠n:=by omega):Jq P ops X o Γ H (D.bool false):=by
 simp only[XO] at h;exact DN h.1 h.2.1 h.2.2 (eF hr)
theorem fG{k:IntKind}{m n:Int}(h:(o.op,ao Γ x,ao Γ y)=(Op.binOp .neq t x y u,some (D.val (.int k m)),some (D.val (.int k n))))(hr:m≠n:=by omega):Jq P ops X o Γ H (D.bool true):=by
 simp only[XO] at h;exact DE h.1 h.2.1 h.2.2 (nT hr)
theorem eg{k:IntKind}{m n:Int}(h:(o.op,ao Γ x,ao Γ y)=(Op.binOp .neq t x y u,some (D.val (.int k m)),some (D.val (.int k n))))(hr:m=n:=by omega):Jq P ops X o Γ H (D.bool false):=by
 simp only[XO] at h;exact DE h.1 h.2.1 h.2.2 (nF hr)
theorem aL{a b:Int}(n:Nat)(h:(o.op,ao Γ x,ao Γ y)=(Op.binOp .add t x y u,some (D.val (.int .i64 a)),some (D.val (.int .i64 b))))(hr:a+b=(n:Int)/\(n:Int)<=9223372036854775807:=by omega):Jq P ops X o Γ H (D.val (.int .i64 (n:Int))):=by
 simp only[XO] at h;exact dS h.1 h.2.1 h.2.2 (bS hr.1 (by omega) hr.2)
theorem b9{a b:Int}(n:Nat)(h:(o.op,ao Γ x,ao Γ y)=(Op.binOp .sub t x y u,some (D.val (.int .i64 a)),some (D.val (.int .i64 b))))(hr:a-b=(n:Int)/\(n:Int)<=9223372036854775807:=by omega):Jq P ops X o Γ H (D.val (.int .i64 (n:Int))):=by
 simp only[XO] at h;exact du h.1 h.2.1 h.2.2 (bS hr.1 (by omega) hr.2)
theorem gw[T:eJ P]{src dst:Nat}{k k':IntKind}{m:Int}(n:Nat)(h:(o.op,ao Γ x,cL dst T.F.ik,(cL src T.F.ik).isSome)=(Op.convert src dst x,some (D.val (.int k m)),some k',true))(hr:k'.wrap m=(n:Int)):Jq P ops X o Γ H (D.val (.int k' (n:Int))):=by
 simp only[XO,zap] at h;obtain⟨h1,h2,h3,k0,h4⟩:=h;exact W4 h1 h2 (eh T.ok.ik h3) (by rw[eh T.ok.ik h4];rfl) hr
theorem cZ[T:eJ P]{src dst:Nat}{k:IntKind}{m:Int}(n:Nat)(h:(o.op,ao Γ x,cL dst T.F.ik,(cL src T.F.ik).isSome)=(Op.convert src dst x,some (D.val (.int k m)),some .u64,true))(hr:m%18446744073709551616=(n:Int):=by omega):Jq P ops X o Γ H (D.val (.int .u64 (n:Int))):=gw n h (cF hr)
theorem dN[T:eJ P]{src dst:Nat}{k:IntKind}{m:Int}(n:Nat)(h:(o.op,ao Γ x,cL dst T.F.ik,(cL src T.F.ik).isSome)=(Op.convert src dst x,some (D.val (.int k m)),some .u32,true))(hr:m%4294967296=(n:Int):=by omega):Jq P ops X o Γ H (D.val (.int .u32 (n:Int))):=gw n h (tt hr)
theorem oy[T:eJ P]{src dst:Nat}{k:IntKind}{m:Int}(n:Nat)(h:(o.op,ao Γ x,cL dst T.F.ik,(cL src T.F.ik).isSome)=(Op.convert src dst x,some (D.val (.int k m)),some .i64,true))(hr:m=(n:Int)/\(n:Int)<=9223372036854775807:=by omega):Jq P ops X o Γ H (D.val (.int .i64 (n:Int))):=gw n h (bS hr.1 (by omega) hr.2)
theorem uK[T:eJ P]{α:Type}{e:El α}{l:List α}{t2 u2 r n sz bt:Nat}(v:α)
  (h:(o.op,ao Γ x,H[r]?,ao Γ y)=(Op.call { callee:=.builtin .append,args:=#[x,y],argTypes:=#[t,t2] },some (D.v (V.one (ab.own r n))),some (some ⟨u,e.all l,some sz,some (.inr ((e.all l).length,some n))⟩),some (D.rep (bX 1 (e.f v)))))
  (h2:(cL t T.F.un,cL t2 T.F.un,cL u T.F.inf,e.sz,Nat.blt 0 sz)=(some u,some u2,some (sz,bt),sz,true))
  (hb:l.length+1<=9223372036854775807/\(l.length+1)*bt<=140737488355328:=by first|omega|(simp only[XX,X2,X1,X6,Yg];omega)) :
  Je P ops o Γ H (some (D.v (V.one (ab.own r (n+1))))) (H.set r (some ⟨u,e.all (l++[v]),some sz,some (.inr ((e.all (l++[v])).length,some (n+1)))⟩)):=by
 simp only[XO,ZV] at h h2;obtain⟨i,z,i1,i2,i3,i4,i5⟩:=eh T.ok.inf h2.2.2.1;exact Xf e l v h.1 h.2.1 h.2.2.2 h.2.2.1 h2.2.2.2.2 (eh T.ok.un h2.1) (eh T.ok.un h2.2.1) i1 i2 i3 i4 (by simp only[maxLen];omega) (by rw[i5];exact hb.2) h2.2.2.2.1
theorem rX[T:eJ P]{α:Type}{e:El α}{l l2:List α}{t2 u2 r n sz bt:Nat}
  (h:(o.op,ao Γ x,H[r]?,ao Γ y)=(Op.call { callee:=.builtin .append,args:=#[x,y],argTypes:=#[t,t2] },some (D.v (V.one (ab.own r n))),some (some ⟨u,e.all l,some sz,some (.inr ((e.all l).length,some n))⟩),some (D.v (V.one (e.row l2)))))
  (h2:(cL t T.F.un,cL t2 T.F.un,cL u T.F.inf,e.sz,Nat.blt 0 sz)=(some u,some u2,some (sz,bt),sz,true))
  (hb:l.length+l2.length<=9223372036854775807/\(l.length+l2.length)*bt<=140737488355328:=by first|omega|(simp only[XX,X2,X1,X6,Yg];omega)) :
  Je P ops o Γ H (some (D.v (V.one (ab.own r (n+1))))) (H.set r (some ⟨u,e.all (l++l2),some sz,some (.inr ((e.all (l++l2)).length,some (n+1)))⟩)):=by
 simp only[XO,ZV] at h h2;obtain⟨i,z,i1,i2,i3,i4,i5⟩:=eh T.ok.inf h2.2.2.1;exact Xe e l l2 h.1 h.2.1 h.2.2.2 h.2.2.1 h2.2.2.2.2 (eh T.ok.un h2.1) (eh T.ok.un h2.2.1) i1 i2 i3 i4 (by simp only[maxLen];omega) (by rw[i5];exact hb.2) h2.2.2.2.1
theorem ib[T:eJ P]{α:Type}{e:El α}{l:List α}{t2 u2 r n sz bt:Nat}(v:α)
  (h:(o.op,ao Γ x,H[r]?,ao Γ y)=(Op.call { callee:=.builtin .append,args:=#[x,y],argTypes:=#[t,t2] },some (D.v (V.one (ab.own r n))),some (some ⟨u,e.all l,some sz,some (.inr ((e.all l).length,some n))⟩),some (D.rep (bX 1 (e.f v)))))
  (h2:(cL t T.F.un,cL t2 T.F.un,cL u T.F.inf,e.sz,Nat.blt 0 sz)=(some u,some u2,some (sz,bt),sz,true))
  (hb:l.length+1<=9223372036854775807/\(l.length+1)*bt<=140737488355328:=by first|omega|(simp only[XX,X2,X1,X6,Yg];omega)) :
  ∀H2:Hp,H2[r]?=H[r]?->Je P ops o Γ H2 (some (D.v (V.one (ab.own r (n+1))))) (H2.set r (some ⟨u,e.all (l++[v]),some sz,some (.inr ((e.all (l++[v])).length,some (n+1)))⟩)):=
 fun _ hH=>uK v (by rw[hH];exact h) h2 hb
theorem vw[T:eJ P]{α:Type}{e:El α}{l l2:List α}{t2 u2 r n sz bt:Nat}
  (h:(o.op,ao Γ x,H[r]?,ao Γ y)=(Op.call { callee:=.builtin .append,args:=#[x,y],argTypes:=#[t,t2] },some (D.v (V.one (ab.own r n))),some (some ⟨u,e.all l,some sz,some (.inr ((e.all l).length,some n))⟩),some (D.v (V.one (e.row l2)))))
  (h2:(cL t T.F.un,cL t2 T.F.un,cL u T.F.inf,e.sz,Nat.blt 0 sz)=(some u,some u2,some (sz,bt),sz,true))
  (hb:l.length+l2.length<=9223372036854775807/\(l.length+l2.length)*bt<=140737488355328:=by first|omega|(simp only[XX,X2,X1,X6,Yg];omega)) :
  ∀H2:Hp,H2[r]?=H[r]?->Je P ops o Γ H2 (some (D.v (V.one (ab.own r (n+1))))) (H2.set r (some ⟨u,e.all (l++l2),some sz,some (.inr ((e.all (l++l2)).length,some (n+1)))⟩)):=
 fun _ hH=>rX (by rw[hH];exact h) h2 hb
end
end
@[reducible] def so(k:Nat)(d:D):Nat×Option D:=(k,some d)
def mW(Γ:aA):aA->List (Option D)
 |[]=>[]
 |e::g=>look Γ e.1::mW Γ g
def mV:aA->List (Option D)
 |[]=>[]
 |e::g=>e.2::mV g
theorem rQ{Γ:aA}:∀{g:aA},mW Γ g=mV g->known Γ g
 |[],_=>trivial
 |(s,some d)::g,h=>by simp only[mW,mV,za3] at h;exact⟨h.1,rQ h.2⟩
 |(s,none)::g,h=>by simp only[mW,mV,za3] at h;exact rQ (Γ:=Γ) (g:=g) h.2
def BU:List Nat->aA->aA
 |[],g=>g
 |i::l,g=>BU l (fk i g)
def BT:List Nat->Hp->Hp
 |[],H=>H
 |i::l,H=>BT l (H.set i none)
def x6:List Nat->Hp->Bool
 |[],_=>true
 |i::l,H=>!nU H i&&x6 l (H.set i none)
section
variable {P:Program}{Q:Exit->Act->World->Prop}{w0:aJ}{A0:ak}{N:Nat}{ks:List KF}{Γ:aA}{H:Hp}
theorem aF{f N:Nat}{fn:Func}{c:Code}{xs:List V}{y:R}(hf:P.funcs[f]?=some fn)(hN:fn.ntmps=N)(h:(fn.body,Nat.ble xs.length (min N 2000))=(some c,true))
  (hc:∀w0 A0,Tc P (qk P (oR P fn w0 A0 y) []) w0 A0 N (lY 0 xs) [] c):ar P f xs y:=by
 simp only[XO,zav] at h;exact ar.gO hf h.1 hN h.2 hc
theorem jO{c:Code}(h:Tc P (qk P Q []) w0 A0 N Γ H c):Tc P Q w0 A0 N Γ H c:=h
theorem bF{c:Code}(Γ':aA)(H':Hp)(hk:mW Γ Γ'=mV Γ')(hH:H=H')(h:Tc P Q w0 A0 N Γ' H' c):Tc P Q w0 A0 N Γ H c:=qu Γ' H' (rQ hk) hH h
theorem km{c:Code}:∀(l:List Nat) {Γ:aA} {H:Hp},x6 l H=true->Tc P Q w0 A0 N (BU l Γ) (BT l H) c->Tc P Q w0 A0 N Γ H c
 |[],_,_,_,h=>h
 |i::l,_,_,hk,h=>by
  simp only[x6,XQ,Zi] at hk;exact Wx i (km l hk.2 h) hk.1
theorem bQ{c:Code}(l:List Nat)(Γ':aA)(H':Hp)(h0:x6 l H=true)(hk:mW (BU l Γ) Γ'=mV Γ')(hH:BT l H=H')(h:Tc P Q w0 A0 N Γ' H' c):Tc P Q w0 A0 N Γ H c:=km l h0 (bF Γ' H' hk hH h)
theorem bH{c:Code}(I:Nat->aA->Hp->Prop){m0:Nat}{Γ0:aA}(h0:I m0 Γ0 H)(hk:mW Γ Γ0=mV Γ0)
  (round:∀m Γ H,I m Γ H->Tc P (qk P Q (.lp (fun a w=>∃m' Γ' H',m'<m/\I m' Γ' H'/\St w0 A0 N Γ' H' a w)::ks)) w0 A0 N Γ H c):Tc P (qk P Q ks) w0 A0 N Γ H (.loop c):=K4 I h0 (rQ hk) round
theorem xH{c:Code}(I:Nat->aA->Hp->Prop){m0:Nat}{Γ0:aA}(h0:I m0 Γ0 H)(hk:known Γ Γ0)
  (round:∀m Γ H,I m Γ H->Tc P (qk P Q (.lp (fun a w=>∃m' Γ' H',m'<m/\I m' Γ' H'/\St w0 A0 N Γ' H' a w)::ks)) w0 A0 N Γ H c):Tc P (qk P Q ks) w0 A0 N Γ H (.loop c):=K4 I h0 hk round
theorem aP{I:Nat->aA->Hp->Prop}{m m':Nat}{Γ':aA}(hI:I m' Γ' H)(hk:mW Γ Γ'=mV Γ')(hm:m'<m:=by omega) :
  At (qk P Q (.lp (fun a w=>∃m' Γ' H',m'<m/\I m' Γ' H'/\St w0 A0 N Γ' H' a w)::ks)) w0 A0 N Γ H .normal:=Xw hm hI (rQ hk)
theorem uu{x y:Code}(Γ':aA)(H':Hp)(h:Tc P (qk P Q (.lp (fun a w=>St w0 A0 N Γ' H' a w)::ks)) w0 A0 N Γ H x)(hy:Tc P (qk P Q ks) w0 A0 N Γ' H' y):Tc P (qk P Q ks) w0 A0 N Γ H (.seq x y):=Wu h hy
theorem eD{Γ':aA}(hk:mW Γ Γ'=mV Γ'):At (qk P Q (.lp (fun a w=>St w0 A0 N Γ' H a w)::ks)) w0 A0 N Γ H .normal:=Xx (rQ hk)
theorem nY{c:Code}{n:Nat}(h:Tc P (qk P Q (.lp (Code.rounds P c (qk P Q ks) n)::ks)) w0 A0 N Γ H c):Rn P (qk P Q ks) w0 A0 N Γ H (n+1) c:=h
def nW(F:jg)(Γ:aA)(H:Hp):ResultVar->Option V
 |.tmp s=>match dL Γ s with
  |some (.inl x)=>some x
  |_=>none
 |.cell s t=>match dL Γ s with
  |some (.inr (.inr (.inl (i,off))))=>match H[i]? with
   |some (some e)=>match cL t F.ty with
    |some (true,n)=>bif Nat.beq off 0&&(Nat.beq e.ls.length n&&Nat.blt 0 n) then some (V.agg e.ls) else none
    |_=>none
   |_=>none
  |_=>none
theorem rb{F:jg}(hF:F.Ok P){r:ResultVar}{x:V}(h:nW F Γ H r=some x):jN P Γ H r x:=by
 unfold nW at h;split at h
 .split at h
  .rename_i x hx;simp only[XL] at h;subst h;exact hx
  .simp at h
 .split at h
  .rename_i i off hs;split at h
   .rename_i e hi;split at h
    .rename_i n ht;cases hc:(Nat.beq off 0&&(Nat.beq e.ls.length n&&Nat.blt 0 n))
     .rw[hc] at h;simp at h
     .rw[hc] at h;simp only[cond_true,XL] at h;simp only[XQ,ZU,ZV] at hc;obtain⟨rfl,rfl,h2⟩:=hc;exact⟨i,e,hs,hi,.inl ⟨eh hF.f.ty ht,h2,h.symm⟩⟩
    .simp at h
   .simp at h
  .simp at h
theorem av[T:eJ P]{fn:Func}{y:R}{r:ResultVar}{x:V}(hQ:∀a w,oR P fn w0 A0 y .ret a w->Q .ret a w)(h:(fn.results,nW T.F Γ H r)=(#[r],some x))(hy:R.one x=y)(hcl:x.cl=true:=by rfl):Tc P Q w0 A0 N Γ H .ret:=by
 simp only[XO] at h;exact Wt hQ h.1 (rb T.ok h.2) hy hcl
theorem aI[T:eJ P]{fn:Func}{y:R}{r r':ResultVar}{x x':V}(hQ:∀a w,oR P fn w0 A0 y .ret a w->Q .ret a w)(h:(fn.results,nW T.F Γ H r,nW T.F Γ H r')=(#[r,r'],some x,some x'))(hy:R.aW [x,x']=y)(hcl:fq [x,x']=true:=by rfl):Tc P Q w0 A0 N Γ H .ret:=by
 simp only[XO] at h;exact Ws hQ h.1 (rb T.ok h.2.1) (rb T.ok h.2.2) hy hcl
theorem kG[T:eJ P]{fn:Func}{y:R}{r r' r'':ResultVar}{x x' x'':V}(hQ:∀a w,oR P fn w0 A0 y .ret a w->Q .ret a w)(h:(fn.results,nW T.F Γ H r,nW T.F Γ H r',nW T.F Γ H r'')=(#[r,r',r''],some x,some x',some x''))(hy:R.aW [x,x',x'']=y)(hcl:fq [x,x',x'']=true:=by rfl):Tc P Q w0 A0 N Γ H .ret:=by
 simp only[XO] at h;exact Wr hQ h.1 (rb T.ok h.2.1) (rb T.ok h.2.2.1) (rb T.ok h.2.2.2) hy hcl
end
end Rc
namespace Go.Proofs.YtakccfmgipajnaaGreatDoor
open Go Rc
theorem follows:Tryz.prog.follows .mixedOrders=true:=by kernel_rfl
theorem fk_{f:Nat}{fn:Func}(h:Tryz.prog.funcs[f]? = some fn)(h1:fn.body.isNone = false:=by kernel_rfl)(h2:(fn.name == "runtime.NumGoroutine") = false:=by kernel_rfl):aD Tryz.prog f:=⟨fn,h,h1,h2⟩
theorem tk_{t n:Nat}{b:Bool}(h1:(Tryz.prog.underlying t).map Dh = some b:=by kernel_rfl)(h2:(Tryz.prog.info? t).map (·.size) = some n:=by kernel_rfl):bJ Tryz.prog t b n:=⟨h1,h2⟩
theorem Ty:aD Tryz.prog 4:=fk_ Tryz.func4
theorem Tw:aD Tryz.prog 5:=fk_ Tryz.func5
theorem Tu:aD Tryz.prog 6:=fk_ Tryz.func6
theorem B0:aD Tryz.prog 7:=fk_ Tryz.func7
theorem Tp:aD Tryz.prog 8:=fk_ Tryz.func8
theorem Tk:aD Tryz.prog 9:=fk_ Tryz.func9
theorem T6:aD Tryz.prog 10:=fk_ Tryz.func10
theorem Cg:aD Tryz.prog 11:=fk_ Tryz.func11
theorem gy:aD Tryz.prog 12:=fk_ Tryz.func12
theorem TS:aD Tryz.prog 18:=fk_ Tryz.func18
theorem lW:aD Tryz.prog 19:=fk_ Tryz.func19
theorem oH:aD Tryz.prog 20:=fk_ Tryz.func20
theorem pY:aD Tryz.prog 21:=fk_ Tryz.func21
theorem TM:aD Tryz.prog 22:=fk_ Tryz.func22
theorem B8:aD Tryz.prog 23:=fk_ Tryz.func23
theorem TL:aD Tryz.prog 24:=fk_ Tryz.func24
theorem yf:aD Tryz.prog 25:=fk_ Tryz.func25
theorem B7:aD Tryz.prog 26:=fk_ Tryz.func26
theorem IK:aD Tryz.prog 27:=fk_ Tryz.func27
theorem B6:aD Tryz.prog 29:=fk_ Tryz.func29
theorem TC:aD Tryz.prog 30:=fk_ Tryz.func30
theorem TB:aD Tryz.prog 31:=fk_ Tryz.func31
theorem ye:aD Tryz.prog 32:=fk_ Tryz.func32
theorem kY:aD Tryz.prog 33:=fk_ Tryz.func33
theorem pX:aD Tryz.prog 34:=fk_ Tryz.func34
theorem TA:aD Tryz.prog 35:=fk_ Tryz.func35
theorem pW:aD Tryz.prog 36:=fk_ Tryz.func36
theorem B5:aD Tryz.prog 37:=fk_ Tryz.func37
theorem ko:aD Tryz.prog 38:=fk_ Tryz.func38
theorem Tz:aD Tryz.prog 39:=fk_ Tryz.func39
theorem IJ:aD Tryz.prog 40:=fk_ Tryz.func40
theorem oG:aD Tryz.prog 43:=fk_ Tryz.func43
theorem vc:aD Tryz.prog 44:=fk_ Tryz.func44
theorem Tx:aD Tryz.prog 49:=fk_ Tryz.func49
theorem sB:aD Tryz.prog 50:=fk_ Tryz.func50
theorem u9:aD Tryz.prog 52:=fk_ Tryz.func52
theorem Tv:aD Tryz.prog 53:=fk_ Tryz.func53
theorem yd:aD Tryz.prog 55:=fk_ Tryz.func55
theorem II:aD Tryz.prog 56:=fk_ Tryz.func56
theorem nj:aD Tryz.prog 57:=fk_ Tryz.func57
theorem B4:aD Tryz.prog 58:=fk_ Tryz.func58
theorem pV:aD Tryz.prog 59:=fk_ Tryz.func59
theorem yc:aD Tryz.prog 60:=fk_ Tryz.func60
theorem IH:aD Tryz.prog 61:=fk_ Tryz.func61
theorem jw:aD Tryz.prog 63:=fk_ Tryz.func63
theorem kX:aD Tryz.prog 64:=fk_ Tryz.func64
theorem B3:aD Tryz.prog 65:=fk_ Tryz.func65
theorem Tt:aD Tryz.prog 66:=fk_ Tryz.func66
theorem Ts:aD Tryz.prog 67:=fk_ Tryz.func67
theorem B1:aD Tryz.prog 68:=fk_ Tryz.func68
theorem pU:aD Tryz.prog 69:=fk_ Tryz.func69
theorem nh:aD Tryz.prog 70:=fk_ Tryz.func70
theorem Tq:aD Tryz.prog 71:=fk_ Tryz.func71
theorem u7:aD Tryz.prog 72:=fk_ Tryz.func72
theorem IG:aD Tryz.prog 73:=fk_ Tryz.func73
theorem BZ:aD Tryz.prog 74:=fk_ Tryz.func74
theorem IF:aD Tryz.prog 75:=fk_ Tryz.func75
theorem sA:aD Tryz.prog 76:=fk_ Tryz.func76
theorem To:aD Tryz.prog 85:=fk_ Tryz.func85
theorem sy:aD Tryz.prog 86:=fk_ Tryz.func86
theorem IE:aD Tryz.prog 87:=fk_ Tryz.func87
theorem BX:aD Tryz.prog 88:=fk_ Tryz.func88
theorem Tn:aD Tryz.prog 89:=fk_ Tryz.func89
theorem Tj:aD Tryz.prog 90:=fk_ Tryz.func90
theorem yb:aD Tryz.prog 91:=fk_ Tryz.func91
theorem Th:aD Tryz.prog 92:=fk_ Tryz.func92
theorem Tg:aD Tryz.prog 93:=fk_ Tryz.func93
theorem ID:aD Tryz.prog 94:=fk_ Tryz.func94
theorem Tf:aD Tryz.prog 95:=fk_ Tryz.func95
theorem lV:aD Tryz.prog 96:=fk_ Tryz.func96
theorem pT:aD Tryz.prog 97:=fk_ Tryz.func97
theorem Te:aD Tryz.prog 98:=fk_ Tryz.func98
theorem pS:aD Tryz.prog 99:=fk_ Tryz.func99
theorem I7:aD Tryz.prog 100:=fk_ Tryz.func100
theorem T5:aD Tryz.prog 101:=fk_ Tryz.func101
theorem T4:aD Tryz.prog 102:=fk_ Tryz.func102
theorem Ci:aD Tryz.prog 103:=fk_ Tryz.func103
theorem Ch:aD Tryz.prog 104:=fk_ Tryz.func104
theorem T3:aD Tryz.prog 105:=fk_ Tryz.func105
theorem I6:aD Tryz.prog 106:=fk_ Tryz.func106
theorem yl:aD Tryz.prog 107:=fk_ Tryz.func107
theorem kZ:aD Tryz.prog 108:=fk_ Tryz.func108
theorem iX:aD Tryz.prog 109:=fk_ Tryz.func109
theorem yk:aD Tryz.prog 110:=fk_ Tryz.func110
theorem sF:aD Tryz.prog 111:=fk_ Tryz.func111
theorem T2:aD Tryz.prog 112:=fk_ Tryz.func112
theorem Cf:aD Tryz.prog 113:=fk_ Tryz.func113
theorem I4:aD Tryz.prog 114:=fk_ Tryz.func114
theorem p5:aD Tryz.prog 115:=fk_ Tryz.func115
theorem vi:aD Tryz.prog 140:=fk_ Tryz.func140
theorem nq:aD Tryz.prog 141:=fk_ Tryz.func141
theorem Ce:aD Tryz.prog 142:=fk_ Tryz.func142
theorem yj:aD Tryz.prog 143:=fk_ Tryz.func143
theorem vh:aD Tryz.prog 144:=fk_ Tryz.func144
theorem T1:aD Tryz.prog 145:=fk_ Tryz.func145
theorem T0:aD Tryz.prog 146:=fk_ Tryz.func146
theorem pZ:aD Tryz.prog 147:=fk_ Tryz.func147
theorem yi:aD Tryz.prog 148:=fk_ Tryz.func148
theorem Cd:aD Tryz.prog 149:=fk_ Tryz.func149
theorem TZ:aD Tryz.prog 150:=fk_ Tryz.func150
theorem TY:aD Tryz.prog 151:=fk_ Tryz.func151
theorem TX:aD Tryz.prog 152:=fk_ Tryz.func152
theorem TW:aD Tryz.prog 153:=fk_ Tryz.func153
theorem TV:aD Tryz.prog 154:=fk_ Tryz.func154
theorem eO:aD Tryz.prog 155:=fk_ Tryz.func155
theorem I3:aD Tryz.prog 156:=fk_ Tryz.func156
theorem I2:aD Tryz.prog 157:=fk_ Tryz.func157
theorem vg:aD Tryz.prog 158:=fk_ Tryz.func158
theorem TU:aD Tryz.prog 159:=fk_ Tryz.func159
theorem Cc:aD Tryz.prog 160:=fk_ Tryz.func160
theorem I1:aD Tryz.prog 161:=fk_ Tryz.func161
theorem I0:aD Tryz.prog 162:=fk_ Tryz.func162
theorem TT:aD Tryz.prog 163:=fk_ Tryz.func163
theorem vf:aD Tryz.prog 164:=fk_ Tryz.func164
theorem lX:aD Tryz.prog 165:=fk_ Tryz.func165
theorem Cb:aD Tryz.prog 166:=fk_ Tryz.func166
theorem Ca:aD Tryz.prog 167:=fk_ Tryz.func167
theorem B9:aD Tryz.prog 168:=fk_ Tryz.func168
theorem ve:aD Tryz.prog 201:=fk_ Tryz.func201
theorem sE:aD Tryz.prog 202:=fk_ Tryz.func202
theorem TR:aD Tryz.prog 203:=fk_ Tryz.func203
theorem yh:aD Tryz.prog 204:=fk_ Tryz.func204
theorem IZ:aD Tryz.prog 205:=fk_ Tryz.func205
theorem TQ:aD Tryz.prog 206:=fk_ Tryz.func206
theorem sD:aD Tryz.prog 207:=fk_ Tryz.func207
theorem yg:aD Tryz.prog 208:=fk_ Tryz.func208
theorem TP:aD Tryz.prog 209:=fk_ Tryz.func209
theorem IY:aD Tryz.prog 210:=fk_ Tryz.func210
theorem TO:aD Tryz.prog 211:=fk_ Tryz.func211
theorem TN:aD Tryz.prog 212:=fk_ Tryz.func212
theorem sC:aD Tryz.prog 213:=fk_ Tryz.func213
theorem IX:aD Tryz.prog 214:=fk_ Tryz.func214
theorem IW:aD Tryz.prog 215:=fk_ Tryz.func215
theorem IV:aD Tryz.prog 216:=fk_ Tryz.func216
theorem TK:aD Tryz.prog 252:=fk_ Tryz.func252
theorem IU:aD Tryz.prog 253:=fk_ Tryz.func253
theorem TJ:aD Tryz.prog 254:=fk_ Tryz.func254
theorem TI:aD Tryz.prog 255:=fk_ Tryz.func255
theorem IQ:aD Tryz.prog 256:=fk_ Tryz.func256
theorem TH:aD Tryz.prog 257:=fk_ Tryz.func257
theorem TG:aD Tryz.prog 258:=fk_ Tryz.func258
theorem TF:aD Tryz.prog 259:=fk_ Tryz.func259
theorem TE:aD Tryz.prog 260:=fk_ Tryz.func260
theorem IP:aD Tryz.prog 261:=fk_ Tryz.func261
theorem TD:aD Tryz.prog 262:=fk_ Tryz.func262
theorem IM:aD Tryz.prog 263:=fk_ Tryz.func263
theorem IL:aD Tryz.prog 264:=fk_ Tryz.func264
theorem fn139:aD Tryz.prog 139:=fk_ Tryz.func139
theorem fn62:aD Tryz.prog 62:=fk_ Tryz.func62
theorem IC:p6 Tryz.prog 46 2=some (6,1):=by kernel_rfl
@[reducible] def IN_(t:Nat)(z:Value)(s b:Nat):Prop:=∃i:TypeInfo,Tryz.prog.info? t=some i/\i.zero=some z/\i.size=s/\i.bytes=b
theorem ik_{t s b:Nat}{z:Value}(h:(Tryz.prog.info? t).map (fun i=>(i.zero,i.size,i.bytes))=some (some z,s,b):=by kernel_rfl):IN_ t z s b:=by
 cases e:Tryz.prog.info? t with
 |none=>rw[e] at h;simp at h
 |some i=>rw[e] at h;simp only[Option.map_some,Option.some.injEq,Prod.mk.injEq] at h;exact⟨i,e,h.1,h.2.1,h.2.2⟩
theorem SD:IN_ 5 (.int .u8 0) 1 1:=ik_
theorem BM:IN_ 42 (.agg #[.int .i64 0,.int .i64 0,.bool false,.slice none 0 0,.slice none 0 0]) 5 72:=ik_
theorem H8:IN_ 46 (.agg #[.slice none 0 0,.int .i64 0,.int .i64 0,.bool false,.slice none 0 0,.slice none 0 0,.slice none 0 0,.bool false,.slice none 0 0]) 9 152:=ik_
theorem fi:IN_ 80 (.int .u32 0) 1 4:=ik_
theorem xV:IN_ 97 (.agg #[.int .i64 0,.bool false,.bool false,.slice none 0 0,.slice none 0 0,.slice none 0 0]) 6 96:=ik_
theorem SF:IN_ 107 (.agg #[.int .i64 0,.int .i64 0,.int .i64 0,.int .i64 0,.bool false,.slice none 0 0,.slice none 0 0]) 7 88:=ik_
theorem SE:IN_ 113 (.agg #[.int .i64 0,.bool false,.slice none 0 0,.slice none 0 0]) 4 64:=ik_
theorem Pt:pa Tryz.prog 27=some [(0,1),(1,1),(2,1)]:=by kernel_rfl
theorem Gf:pa Tryz.prog 37=some [(0,1),(1,3)]:=by kernel_rfl
theorem xf:pa Tryz.prog 85=some [(0,10),(10,1),(11,1)]:=by kernel_rfl
theorem Ps:pa Tryz.prog 94=some [(0,10),(10,1),(11,1)]:=by kernel_rfl
theorem z6:de Tryz.prog 27 [ab.val (.int .i64 0),ab.val (.slice none 0 0),ab.val (.slice none 0 0)]:=⟨.agg #[.int .i64 0,.slice none 0 0,.slice none 0 0],by kernel_rfl,⟨.inl rfl,.inr rfl,.inr rfl,trivial⟩,by decide⟩
theorem EB:de Tryz.prog 30 [ab.val (.slice none 0 0),ab.val (.slice none 0 0),ab.val (.slice none 0 0)]:=⟨.agg #[.slice none 0 0,.slice none 0 0,.slice none 0 0],by kernel_rfl,⟨.inr rfl,.inr rfl,.inr rfl,trivial⟩,by decide⟩
theorem wJ:de Tryz.prog 37 [ab.val (.slice none 0 0),ab.val (.bool false),aT,aT]:=⟨.agg #[.slice none 0 0,.bool false,.slice none 0 0,.slice none 0 0],by kernel_rfl,⟨.inr rfl,.inl rfl,.inl rfl,.inl rfl,trivial⟩,by decide⟩
theorem EA:de Tryz.prog 94 [ab.val (.int .i64 0),ab.val (.slice none 0 0),ab.val (.slice none 0 0),ab.val (.slice none 0 0),ab.val (.slice none 0 0),ab.val (.slice none 0 0),ab.val (.slice none 0 0),ab.val (.bool false),aT,aT,ab.val (.slice none 0 0),ab.val (.slice none 0 0)]:=⟨.agg #[.int .i64 0,.slice none 0 0,.slice none 0 0,.slice none 0 0,.slice none 0 0,.slice none 0 0,.slice none 0 0,.bool false,.slice none 0 0,.slice none 0 0,.slice none 0 0,.slice none 0 0],by kernel_rfl,⟨.inl rfl,.inr rfl,.inr rfl,.inr rfl,.inr rfl,.inr rfl,.inr rfl,.inl rfl,.inl rfl,.inl rfl,.inr rfl,.inr rfl,trivial⟩,by decide⟩
theorem fW:bJ Tryz.prog 3 false 1:=tk_
theorem MD:bJ Tryz.prog 5 false 1:=tk_
theorem MH:bJ Tryz.prog 27 true 3:=tk_
theorem MG:bJ Tryz.prog 30 true 3:=tk_
theorem jm:bJ Tryz.prog 35 true 3:=tk_
theorem iE:bJ Tryz.prog 37 true 4:=tk_
theorem MF:bJ Tryz.prog 39 true 10:=tk_
theorem jl:bJ Tryz.prog 42 true 5:=tk_
theorem Ez:bJ Tryz.prog 43 false 1:=tk_
theorem ka:bJ Tryz.prog 46 true 9:=tk_
theorem ME:bJ Tryz.prog 49 false 1:=tk_
theorem ba:bJ Tryz.prog 80 false 1:=tk_
theorem iD:bJ Tryz.prog 97 true 6:=tk_
theorem gB:bJ Tryz.prog 107 true 7:=tk_
theorem kA:bJ Tryz.prog 113 true 4:=tk_
theorem qO:de Tryz.prog 35 [ab.val (.bool false),aT,aT]:=de.of (.agg #[.bool false,.slice none 0 0,.slice none 0 0]) (by kernel_rfl) rfl (by decide)
theorem zZ:de Tryz.prog 37 [aT,ab.val (.bool false),aT,aT]:=de.of (.agg #[.slice none 0 0,.bool false,.slice none 0 0,.slice none 0 0]) (by kernel_rfl) rfl (by decide)
theorem o8:de Tryz.prog 42 [ab.val (.int .i64 0),ab.val (.int .i64 0),ab.val (.bool false),aT,aT]:=de.of (.agg #[.int .i64 0,.int .i64 0,.bool false,.slice none 0 0,.slice none 0 0]) (by kernel_rfl) rfl (by decide)
theorem Ey:de Tryz.prog 46 [aT,ab.val (.int .i64 0),ab.val (.int .i64 0),ab.val (.bool false),aT,aT,aT,ab.val (.bool false),aT]:=de.of (.agg #[.slice none 0 0,.int .i64 0,.int .i64 0,.bool false,.slice none 0 0,.slice none 0 0,.slice none 0 0,.bool false,.slice none 0 0]) (by kernel_rfl) rfl (by decide)
theorem jk:de Tryz.prog 80 [ab.val (.int .u32 0)]:=de.of (.int .u32 0) (by kernel_rfl) rfl (by decide)
theorem wG:de Tryz.prog 85 [ab.val (.int .i64 0),aT,aT,aT,aT,aT,aT,ab.val (.bool false),aT,aT,aT,aT]:=de.of (.agg #[.int .i64 0,.slice none 0 0,.slice none 0 0,.slice none 0 0,.slice none 0 0,.slice none 0 0,.slice none 0 0,.bool false,.slice none 0 0,.slice none 0 0,.slice none 0 0,.slice none 0 0]) (by kernel_rfl) rfl (by decide)
theorem tH:de Tryz.prog 97 [ab.val (.int .i64 0),ab.val (.bool false),ab.val (.bool false),aT,aT,aT]:=de.of (.agg #[.int .i64 0,.bool false,.bool false,.slice none 0 0,.slice none 0 0,.slice none 0 0]) (by kernel_rfl) rfl (by decide)
theorem mu:de Tryz.prog 107 [ab.val (.int .i64 0),ab.val (.int .i64 0),ab.val (.int .i64 0),ab.val (.int .i64 0),ab.val (.bool false),aT,aT]:=de.of (.agg #[.int .i64 0,.int .i64 0,.int .i64 0,.int .i64 0,.bool false,.slice none 0 0,.slice none 0 0]) (by kernel_rfl) rfl (by decide)
theorem wH:de Tryz.prog 113 [ab.val (.int .i64 0),ab.val (.bool false),aT,aT]:=de.of (.agg #[.int .i64 0,.bool false,.slice none 0 0,.slice none 0 0]) (by kernel_rfl) rfl (by decide)
theorem z0:de Tryz.prog 237 [ab.val (.int .i64 0),ab.val (.int .i64 0),ab.val (.int .i64 0),ab.val (.int .i64 0)]:=de.of (.agg #[.int .i64 0,.int .i64 0,.int .i64 0,.int .i64 0]) (by kernel_rfl) rfl (by decide)
theorem jH:Tryz.prog.underlying 4=some (.bool):=by kernel_rfl
theorem wF:Tryz.prog.underlying 9=some (.string):=by kernel_rfl
theorem zX:Tryz.prog.underlying 22=some (.slice 5):=by kernel_rfl
theorem zW:Tryz.prog.underlying 25=some (.slice 37):=by kernel_rfl
theorem qN:Tryz.prog.underlying 28=some (.slice 35):=by kernel_rfl
theorem jI:Tryz.prog.underlying 31=some (.slice 113):=by kernel_rfl
theorem da:Tryz.prog.underlying 32=some (.slice 80):=by kernel_rfl
theorem bP:Tryz.prog.underlying 33=some (.slice 80):=by kernel_rfl
theorem eC:Tryz.prog.underlying 40=some (.slice 97):=by kernel_rfl
theorem j9:Tryz.prog.underlying 43=some (.slice 46):=by kernel_rfl
theorem fU:Tryz.prog.underlying 44=some (.slice 107):=by kernel_rfl
theorem fy:Tryz.prog.underlying 49=some (.slice 42):=by kernel_rfl
theorem gj:Tryz.prog.underlying 237=some (.array 4 3):=by kernel_rfl
theorem SB{P:Program}{n k b:Nat}(h:((P.info? n).bind fun i=>i.zero.map fun z=>(i.size,z.cells.size,i.bytes))=some (k,k,b)):∃(i:TypeInfo) (z:Value),P.info? n=some i/\i.zero=some z/\i.size=k/\z.cells.size=k/\i.bytes=b:=by
 cases hi:P.info? n with
 |none=>rw[hi] at h;simp at h
 |some i=>
  rw[hi] at h
  cases hz:i.zero with
  |none=>simp[hz] at h
  |some z=>
   simp[hz] at h;exact⟨i,z,rfl,hz,h.1,h.2.1,h.2.2⟩
theorem MA{P:Program}{t:Nat}{ls:List ab}(h:((P.info? t).bind (·.zero)).map (fun z=>(z.cells.toList.map nQ,z.cells.toList.all Value.oneCell'))=some (ls,true)):de P t ls:=by
 cases hz:(P.info? t).bind (·.zero) with
 |none=>rw[hz] at h;simp at h
 |some z=>
  rw[hz] at h;simp only[Y0,XL,XO] at h;exact de.of z hz h.1 h.2
def GW:jg:={ fo:=[((116,1),1,1),((35,0),0,1),((85,2),11,1),((39,0),0,3),((105,1),1,1),((27,1),1,1),((27,0),0,1),((37,0),0,1),((113,0),0,1),((35,1),1,1),((113,1),1,3),((116,0),0,1),((105,0),0,1),((35,2),2,1),((30,0),0,1),((105,2),2,1),((46,2),6,1),((97,2),2,3),((85,0),0,10),((46,0),0,1),((105,3),3,1),((37,1),1,3),((30,1),1,1),((42,1),1,1),((94,1),10,1),((30,2),2,1),((42,0),0,1),((85,1),10,1),((94,2),11,1),((39,2),6,4),((107,1),4,3),((42,2),2,3),((107,0),0,4),((46,1),1,5),((46,4),8,1),((97,1),1,1),((27,2),2,1),((39,1),3,3),((97,0),0,1),((94,0),0,10),((169,1),1,1),((169,0),0,1),((97,3),5,1),((46,3),7,1)],ty:=[(35,true,3),(37,true,4),(3,false,1),(80,false,1),(33,false,1),(46,true,9),(4,false,1),(40,false,1),(116,true,2),(25,false,1),(113,true,4),(42,true,5),(28,false,1),(39,true,10),(97,true,6),(31,false,1),(49,false,1),(85,true,12),(43,false,1),(105,true,4),(27,true,3),(30,true,3),(107,true,7),(94,true,12),(44,false,1),(5,false,1),(22,false,1),(237,true,4)],tz:=[(35,[ab.val (.bool false),aT,aT]),(37,[aT,ab.val (.bool false),aT,aT]),(116,[ab.val (.bool false),aT]),(46,[aT,ab.val (.int .i64 0),ab.val (.int .i64 0),ab.val (.bool false),aT,aT,aT,ab.val (.bool false),aT]),(42,[ab.val (.int .i64 0),ab.val (.int .i64 0),ab.val (.bool false),aT,aT]),(107,[ab.val (.int .i64 0),ab.val (.int .i64 0),ab.val (.int .i64 0),ab.val (.int .i64 0),ab.val (.bool false),aT,aT]),(113,[ab.val (.int .i64 0),ab.val (.bool false),aT,aT]),(85,[ab.val (.int .i64 0),aT,aT,aT,aT,aT,aT,ab.val (.bool false),aT,aT,aT,aT]),(97,[ab.val (.int .i64 0),ab.val (.bool false),ab.val (.bool false),aT,aT,aT]),(105,[ab.val (.int .i64 0),ab.val (.int .i64 0),ab.val (.int .i64 0),ab.val (.int .i64 0)]),(39,[ab.val (.int .i64 0),aT,aT,aT,aT,aT,aT,ab.val (.bool false),aT,aT]),(30,[aT,aT,aT]),(27,[ab.val (.int .i64 0),aT,aT]),(237,[ab.val (.int .i64 0),ab.val (.int .i64 0),ab.val (.int .i64 0),ab.val (.int .i64 0)]),(169,[aT,ab.val (.int .i64 0)])],pl:=[(37,[(0,1),(1,3)]),(35,[(0,1),(1,1),(2,1)]),(116,[(0,1),(1,1)]),(107,[(0,4),(4,3)]),(105,[(0,1),(1,1),(2,1),(3,1)]),(85,[(0,10),(10,1),(11,1)]),(113,[(0,1),(1,3)]),(42,[(0,1),(1,1),(2,3)]),(97,[(0,1),(1,1),(2,3),(5,1)]),(39,[(0,3),(3,3),(6,4)]),(169,[(0,1),(1,1)])],ft:=[((37,1),1,35)],un:=[(33,80),(28,35),(25,37),(31,113),(44,107),(40,97),(49,42),(43,46),(22,5),(32,80)],ik:=[(80,.u32),(187,.u64),(3,.i64),(5,.u8),(23,.u16)],inf:=[(107,7,88),(42,5,72),(35,3,56),(97,6,96),(37,4,80),(113,4,64)] }
theorem QO:GW.Ok Tryz.prog:=⟨⟨(by repeat (first|exact trivial|refine⟨(by show _=_;kernel_rfl),?_⟩)),(by repeat (first|exact trivial|refine⟨⟨(by show _=_;kernel_rfl),(by show _=_;kernel_rfl)⟩,?_⟩))⟩,(by repeat (first|exact trivial|refine⟨MA (by show _=_;kernel_rfl),?_⟩)),(by repeat (first|exact trivial|refine⟨(by show _=_;kernel_rfl),?_⟩)),(by repeat (first|exact trivial|refine⟨(by show _=_;kernel_rfl),?_⟩)),(by repeat (first|exact trivial|refine⟨(by show _=_;kernel_rfl),?_⟩)),(by repeat (first|exact trivial|refine⟨(by show _=_;kernel_rfl),?_⟩)),(by repeat (first|exact trivial|refine⟨SB (by show _=_;kernel_rfl),?_⟩))⟩
instance XB:eJ Tryz.prog:=⟨GW,QO,follows⟩
end Go.Proofs.YtakccfmgipajnaaGreatDoor
namespace Rc
def val:List Nat->Nat
 |[]=>0
 |x::xs=>x+4294967296*val xs
def Small(l:List Nat):Prop:=∀x∈l,x<4294967296
def Canon(l:List Nat):Prop:=Small l/\∀h:l≠[],l.getLast h≠0
def ah(n:Nat):List Nat:=if h:n=0 then[] else n%4294967296::ah (n/4294967296)
termination_by n
decreasing_by omega
@[simp] theorem wE:val []=0:=rfl
@[simp] theorem iB (x:Nat) (xs:List Nat):val (x::xs)=x+4294967296*val xs:=rfl
theorem Small.nil:Small []:=fun _ h=>by simp at h
theorem Small.cons{x:Nat}{l:List Nat}(hx:x<4294967296)(h:Small l):Small (x::l):=by
 intro y hy;rcases X9.1 hy with rfl|hy
 .exact hx
 .exact h y hy
theorem Small.head{x:Nat}{l:List Nat}(h:Small (x::l)):x<4294967296:=h x (by simp)
theorem Small.tail{x:Nat}{l:List Nat}(h:Small (x::l)):Small l:=fun y hy=>h y (by simp[hy])
theorem Small.append{a b:List Nat}(ha:Small a)(hb:Small b):Small (a++b):=by
 intro x hx;rcases Yc.1 hx with h|h
 .exact ha x h
 .exact hb x h
theorem Small.take{a:List Nat}(ha:Small a)(n:Nat):Small (a.take n):=fun x hx=>ha x (YB hx)
theorem Small.drop{a:List Nat}(ha:Small a)(n:Nat):Small (a.drop n):=fun x hx=>ha x (Zy hx)
theorem Small.get{a:List Nat}(ha:Small a)(i:Nat)(h:i<a.length):a[i]<4294967296:=ha _ (List.getElem_mem h)
theorem Small.getD{a:List Nat}(ha:Small a)(i:Nat):a.getD i 0<4294967296:=by
 by_cases h:i<a.length
 .simp[List.getD,h];exact ha.get i h
 .simp[List.getD,h]
theorem Small.set{a:List Nat}(ha:Small a)(i x:Nat)(hx:x<4294967296):Small (a.set i x):=by
 intro y hy;rcases ZL hy with h|h
 .exact ha y h
 .omega
theorem Small.replicate(n:Nat):Small (List.replicate n 0):=by
 intro x hx;have:=(List.mem_replicate.1 hx).2;omega
theorem ji(a b:List Nat):val (a++b)=val a+4294967296^a.length*val b:=by
 induction a with
 |nil=>simp
 |cons x xs ih=>simp only[Z6,iB,ih,X6];grind
theorem lD(n:Nat):val (List.replicate n 0)=0:=by
 induction n with
 |zero=>rfl
 |succ n ih=>simp[List.replicate_succ,ih]
theorem dy{l:List Nat}(h:Small l):val l<4294967296^l.length:=by
 induction l with
 |nil=>simp
 |cons x xs ih=>
  have hx:=h.head;have:=ih h.tail;simp only[iB,X6,Yb];omega
theorem iR(l:List Nat)(i:Nat)(h:i<l.length):val (l.take (i+1))=val (l.take i)+4294967296^i*l[i]:=by
 rw[Zz h,ji];simp[X2,YA (Yn h)]
theorem iA(l:List Nat)(i:Nat):val (l.take (i+1))=val (l.take i)+4294967296^i*l.getD i 0:=by
 by_cases h:i<l.length
 .rw[iR l i h];simp[List.getD,h]
 .simp[List.getD,h,YH (Za h),YH (Nat.le_succ_of_le (Za h))]
theorem wB(l:List Nat)(i:Nat):val l=val (l.take i)+4294967296^(min i l.length)*val (l.drop i):=by
 conv=>lhs;rw[<-YN i l]
 rw[ji,X2]
theorem cJ:ah 0=[]:=by unfold ah;simp
theorem ow{n:Nat}(h:n≠0):ah n=n%4294967296::ah (n/4294967296):=by rw[ah];simp[h]
theorem aZ(n:Nat):val (ah n)=n:=by
 induction n using Nat.strongRecOn with
 |_ n ih=>
  by_cases h:n=0
  .subst h;simp[cJ]
  .rw[ow h,iB,ih _ (by omega)];omega
theorem bh(n:Nat):Small (ah n):=by
 induction n using Nat.strongRecOn with
 |_ n ih=>
  by_cases h:n=0
  .subst h;simp[cJ];exact Small.nil
  .rw[ow h];exact Small.cons (by omega) (ih _ (by omega))
theorem kS{n:Nat}:ah n=[]↔n=0:=by
 constructor
 .intro h;have:=aZ n;rw[h] at this;simp at this;omega
 .rintro rfl;exact cJ
theorem sS(n:Nat):Canon (ah n):=by
 refine⟨bh n,?_⟩
 induction n using Nat.strongRecOn with
 |_ n ih=>
  intro h;have hn:n≠0:=fun e=>h (kS.2 e);simp only[ow hn];by_cases h2:n/4294967296=0
  .simp only[h2,cJ];simp;omega
  .have h3:ah (n/4294967296)≠[]:=fun e=>h2 (kS.1 e);rw[List.getLast_cons h3];exact ih _ (by omega) h3
theorem Canon.tail{x:Nat}{l:List Nat}(h:Canon (x::l)):Canon l:=
 ⟨h.1.tail,fun hl=>by have:=h.2 (by simp);rwa [List.getLast_cons hl] at this⟩
theorem xJ{l:List Nat}(h:Canon l):ah (val l)=l:=by
 induction l with
 |nil=>exact cJ
 |cons x xs ih=>
  have hx:=h.1.head;have hne:val (x::xs)≠0:=by
   intro e;simp only[iB] at e;have h0:val xs=0:=by omega
   have:xs=[]:=by rw[<-ih h.tail,h0,cJ]
   subst this;exact h.2 (by simp) (by simp;omega)
  rw[ow hne];have e1:val (x::xs)%4294967296=x:=by simp only[iB];omega
  have e2:val (x::xs)/4294967296=val xs:=by simp only[iB];omega
  rw[e1,e2,ih h.tail]
theorem Canon.eq{l:List Nat}(h:Canon l):l=ah (val l):=(xJ h).symm
theorem dm{n k:Nat}:(ah n).length<=k↔n<4294967296^k:=by
 constructor
 .intro h;have h1:=dy (bh n);rw[aZ] at h1;exact XZ h1 (X3 (by omega) h)
 .intro h
  induction k generalizing n with
  |zero=>simp at h;subst h;simp[cJ]
  |succ k ih=>
   by_cases hn:n=0
   .subst hn;simp[cJ]
   .rw[ow hn];simp only[X6];have:=ih (n:=n/4294967296) (by rw[Yb] at h;omega);omega
theorem MZ{l:List Nat}(n:Nat)(h:∀i (hi:i<l.length),n<=i->l[i]=0):val (l.take n)=val l:=by
 rw[wB l n];have:val (l.drop n)=0:=by
  have e:l.drop n=List.replicate (l.length-n) 0:=by
   apply zaq
   .simp
   .intro i h1 h2;simp at h1;simp;exact h _ _ (by omega)
  rw[e,lD]
 rw[this];simp
theorem xK{l:List Nat}(hs:Small l)(n:Nat)(hn:n<=l.length)(h:∀i (hi:i<l.length),n<=i->l[i]=0)
  (hl:∀h0:0<n,l[n-1]≠0):l.take n=ah (val l):=by
 have hc:Canon (l.take n):=by
  refine⟨hs.take n,fun he=>?_⟩;have h0:0<n:=by
   rcases Yr n with h0|h0
   .subst h0;simp at he
   .exact h0
  have h1:=hl h0;rw[ZC];simp only[List.getElem_take,X2];simpa[YA hn] using h1
 rw[hc.eq,MZ n h]
end Rc
namespace Go.Proofs.YtakccfmgipajnaaGreatDoor
open Go Go.RowKit Rc
theorem eL(l:List Nat)(hs:Small l):ar Tryz.prog 155 [V.one (ae l)] (R.one (V.one (ae (ah (val l))))):=by
 refine aF Tryz.func155 Tryz.ntmps155 rfl (fun w0 A0=>?_);refine zc 1 rfl ?_;refine nJ (s:=0) rfl (fun hm=>?_);refine zc 7 rfl (aa rfl (aw rfl) (zl 5 rfl (bH (fun m Γ H=>∃(n:Nat),n=m/\Γ=[(0,some (D.v (V.one (ae l)))),(3,some (D.int n))]/\H=[]/\n<=l.length/\∀i (hi:i<l.length),n<=i->l[i]=0) ⟨l.length,rfl,rfl,rfl,XP _,fun i hi h=>absurd hi (by omega)⟩ rfl ?_)));rintro m Γ H ⟨n,rfl,rfl,rfl,h⟩;refine zc 4 rfl ?_;by_cases hp:0<n
 .refine aa rfl (dQ rfl) (zl 3 rfl (aa rfl (b9 (n-1) rfl) (aa rfl (b5 rfl (fj (by omega))) (aa rfl (bB rfl) ?_))));by_cases hz:l[n-1]'(by omega)=0
  .refine aa rfl (bp rfl) (zl 9 rfl (aa rfl (b9 (n-1) rfl) (zl 3 rfl ?_)));exact aP ⟨n-1,rfl,rfl,rfl,by omega,fun i hi h1=>(if e:i=n-1 then by subst e;exact hz else h.2 i hi (by omega))⟩ rfl
  .refine aa rfl (aU rfl) (zl 13 rfl (aa rfl (aU rfl) (zl 9 rfl (aa rfl (DC rfl rfl rfl bP ba (by omega)) (zl 3 rfl ?_)))));exact av ai rfl (by rw[<-xK hs n h.1 h.2 (fun _=>hz)])
 .refine aa rfl (cD rfl) (zl 20 rfl (aa rfl (bp rfl) (zl 8 rfl ?_)));exact av ai rfl (by rw[<-xK hs n h.1 h.2 (fun h0=>absurd h0 hp),show n=0 from by omega] <;> rfl)
end Go.Proofs.YtakccfmgipajnaaGreatDoor
namespace Rc
def eH(a b:Nat):Int:=if a<b then -1 else if a=b then 0 else 1
theorem nB{a b:Nat}(h:a<b):eH a b = -1:=by simp[eH,h]
theorem CK{a b:Nat}(h:b<a):eH a b=1:=by
 unfold eH;rw[if_neg (by omega),if_neg (by omega)]
theorem JY{a b:Nat}(h:a=b):eH a b=0:=by subst h;simp[eH]
theorem mX{x y:Nat}(h:x<=y):(ah x).length<=(ah y).length:=
 dm.2 (Ye h (dm.1 (XP _)))
theorem Hm{x y:Nat}(h:(ah x).length<(ah y).length):x<y:=by
 rcases zaz x y with h1|h1
 .exact h1
 .have:=mX h1;omega
theorem fH{l:List Nat}(hs:Small l):(ah (val l)).length<=l.length:=dm.2 (dy hs)
theorem tD(l:List Nat)(n:Nat)(h:n<l.length):val l=val (l.take n)+4294967296^n*(l[n]+4294967296*val (l.drop (n+1))):=by
 have h1:=wB l n;rw[YA (Yn h),Yh h,iB] at h1;exact h1
theorem JX{a b:List Nat}{n:Nat}(ha:Small a)(hn:n<a.length)(hn':n<b.length)(h:a.drop (n+1)=b.drop (n+1))(hlt:a[n]<b[n]):val a<val b:=by
 rw[tD a n hn,tD b n hn',h];have h1:=dy (ha.take n);rw[X2,YA (Yn hn)] at h1;generalize val (b.drop (n+1))=d;have h2:4294967296^n*(a[n]+4294967296*d+1)<=4294967296^n*(b[n]+4294967296*d):=Yx _ (by omega);rw[YX,Y1] at h2;omega
theorem Uz{a b:List Nat}{n:Nat}(hn:n<a.length)(hn':n<b.length)(h:a.drop (n+1)=b.drop (n+1))(he:a[n]=b[n]):a.drop n=b.drop n:=by
 rw[Yh hn,Yh hn',h,he]
theorem lC(out:List Nat)(k x:Nat)(h:k<out.length):val ((out.set k x).take (k+1))=val (out.take k)+4294967296^k*x:=by
 rw[iR _ _ (by simpa using h),zaJ (XP k),Zs]
theorem dJ(l:List Nat)(k:Nat)(h:l.length<=k):val (l.take k)=val l:=by rw[YH h]
theorem iJ{l:List Nat}{k:Nat}(h:k<l.length):l.getD k 0=l[k]:=by simp[List.getD,h]
theorem oD{l:List Nat}{k:Nat}(h:l.length<=k):l.getD k 0=0:=by simp[List.getD,h]
theorem vV{a b out:List Nat}{k c s:Nat}(hk:k<a.length)(hl:k<out.length)(h:val (out.take k)+c*4294967296^k=val (a.take k)+val (b.take k))(hs:s=c+a[k]+b.getD k 0) :
  val ((out.set k (s%4294967296)).take (k+1))+(s/4294967296)*4294967296^(k+1)=val (a.take (k+1))+val (b.take (k+1)):=by
 rw[lC out k _ hl,iR a k hk,iA b k,Yb];have e:4294967296^k*s=4294967296^k*(s%4294967296)+s/4294967296*(4294967296^k*4294967296):=by
  conv=>lhs;rw[<-ZS s 4294967296]
  grind
 rw[hs] at e;rw[hs];have e2:4294967296^k*(c+a[k]+b.getD k 0)=c*4294967296^k+4294967296^k*a[k]+4294967296^k*b.getD k 0:=by grind
 omega
theorem EO{a b out:List Nat}{k c x:Nat}(hk:k<a.length)(hl:k<out.length)(ha:Small a)(hb:Small b)(hc:c<=1)
  (h:val (out.take k)+val (b.take k)=val (a.take k)+c*4294967296^k) (hx:x=(18446744073709551616+a[k]-c-b.getD k 0)%18446744073709551616) :
  val ((out.set k (x%4294967296)).take (k+1))+val (b.take (k+1))=val (a.take (k+1))+(x/9223372036854775808)*4294967296^(k+1):=by
 rw[lC out k _ hl,iR a k hk,iA b k,Yb];have h1:=ha.get k hk;have h2:=hb.getD k;generalize a[k]=p at *;generalize b.getD k 0=q at *;have e:x%4294967296+q+c=p+(x/9223372036854775808)*4294967296:=by omega
 have e2:4294967296^k*(x%4294967296+q+c)=4294967296^k*(p+(x/9223372036854775808)*4294967296):=by rw[e]
 have e3:4294967296^k*(x%4294967296+q+c)=4294967296^k*(x%4294967296)+4294967296^k*q+c*4294967296^k:=by grind
 have e4:4294967296^k*(p+(x/9223372036854775808)*4294967296)=4294967296^k*p+(x/9223372036854775808)*(4294967296^k*4294967296):=by grind
 omega
theorem wC(l:List Nat)(i x:Nat)(h:i<l.length):val (l.set i x)+4294967296^i*l[i]=val l+4294967296^i*x:=by
 rw[tD l i h,tD (l.set i x) i (by simpa using h)];rw[zaJ (XP i),Zs,ZM (by omega)];grind
theorem QL{b out:List Nat}{i k c x:Nat}(hk:k<b.length)(hl:i+k<out.length)(base:Nat)(h:val out+c*4294967296^(i+k)=base+4294967296^i*(x*val (b.take k))) :
  val (out.set (i+k) ((c+(x*b[k]+out[i+k]))%4294967296))+((c+(x*b[k]+out[i+k]))/4294967296)*4294967296^(i+(k+1))=base+4294967296^i*(x*val (b.take (k+1))):=by
 have h1:=wC out (i+k) ((c+(x*b[k]+out[i+k]))%4294967296) hl;rw[iR b k hk,show i+(k+1)=(i+k)+1 from rfl,Yb];generalize hs:c+(x*b[k]+out[i+k])=s at *;have e1:4294967296^(i+k)*s=4294967296^(i+k)*(s%4294967296)+s/4294967296*(4294967296^(i+k)*4294967296):=by
  conv=>lhs;rw[<-ZS s 4294967296]
  grind
 have e2:4294967296^(i+k)*s=c*4294967296^(i+k)+4294967296^i*(x*(4294967296^k*b[k]))+4294967296^(i+k)*out[i+k]:=by
  rw[<-hs,Yv];grind
 have e3:4294967296^i*(x*(val (b.take k)+4294967296^k*b[k]))=4294967296^i*(x*val (b.take k))+4294967296^i*(x*(4294967296^k*b[k])):=by grind
 omega
theorem GV{c x y o:Nat}(hc:c<4294967296)(hx:x<4294967296)(hy:y<4294967296)(ho:o<4294967296):c+(x*y+o)<18446744073709551616/\(c+(x*y+o))/4294967296<4294967296/\x*y<=18446744065119617025:=by
 have h1:x*y<=4294967295*4294967295:=YZ (by omega) (by omega);omega
end Rc
namespace Rc
def bl(n:Nat):Nat:=if n=0 then 0 else Nat.log2 n+1
theorem sW(n:Nat):n<2^bl n:=by
 unfold bl;split
 .rename_i h;subst h;simp
 .exact Nat.lt_log2_self
theorem vQ{n:Nat}(h:n≠0):2^(bl n-1)<=n:=by
 unfold bl;rw[if_neg h];simpa using Nat.log2_self_le h
theorem Kg{n k:Nat}(h1:n<2^k)(h2:0<k->2^(k-1)<=n):bl n=k:=by
 by_cases h0:n=0
 .subst h0;rcases Yr k with hk|hk
  .subst hk;rfl
  .have:=h2 hk;have:=Yp (n:=k-1) (show 0<2 from by omega);omega
 .have hk:0<k:=by
   rcases Yr k with hk|hk
   .subst hk;simp at h1;omega
   .exact hk
  unfold bl;rw[if_neg h0,(Nat.log2_eq_iff h0).2 ⟨h2 hk,by rw[show k-1+1=k from by omega];exact h1⟩];omega
theorem Kf:bl 0=0:=rfl
theorem C0{n:Nat}(h:n≠0):0<bl n:=by unfold bl;rw[if_neg h];omega
theorem sX{n k:Nat}(h:2^k<=n):bl n=bl (n/2^k)+k:=by
 have hp:0<2^k:=Yp (by omega);have hq:n/2^k≠0:=YM (Nat.div_pos h hp);apply Kg
 .have:=sW (n/2^k);rw[Yv]
  rwa [YT hp] at this
 .intro _;have:=vQ hq;have h3:=C0 hq;rw[show bl (n/2^k)+k-1=(bl (n/2^k)-1)+k from by omega,Yv]
  rwa [Y3 hp] at this
theorem gQ{n k:Nat}(h:n<2^k):bl n<=k:=by
 rcases zaz k (bl n) with h1|h1
 .exfalso;have h0:n≠0:=by intro e;subst e;simp[bl] at h1
  have:=vQ h0;have h2:2^k<=2^(bl n-1):=X3 (by omega) (by omega);omega
 .exact h1
theorem Vt{lo hi k:Nat}(h:lo<2^k)(hh:hi≠0):bl (lo+2^k*hi)=k+bl hi:=by
 have hp:0<2^k:=Yp (by omega);have e:(lo+2^k*hi)/2^k=hi:=by
  rw[Z7 _ _ hp,YQ h,Yk]
 have h1:2^k<=lo+2^k*hi:=by
  have:2^k*1<=2^k*hi:=Yx _ (by omega);omega
 rw[sX h1,e,ZX]
theorem gD(k:Nat):4294967296^k=2^(32*k):=by rw[Nat.pow_mul]
theorem zg{l:List Nat}(hc:Canon l)(h:0<l.length):bl (val l)=32*(l.length-1)+bl (l[l.length-1]'(by omega)):=by
 have h1:=tD l (l.length-1) (by omega);have h2:l.drop (l.length-1+1)=[]:=YI (by omega);rw[h2] at h1;simp only[wE,Zc,Yl] at h1;have h3:=dy (hc.1.take (l.length-1));rw[X2,YA (by omega),gD] at h3;rw[h1,gD];refine Vt h3 ?_;have:=hc.2 (by intro e;rw[e] at h;simp at h)
 rwa [ZC] at this
theorem R4{a out:List Nat}{i k:Nat}(hi:i<a.length)(hl:i+1<out.length)(h:val (out.take (i+1))=val (a.take i)*2^k)(x:Nat)(hx:x=a[i]*2^k) :
  val (((out.set i (out[i]+x%4294967296)).set (i+1) (x/4294967296)).take (i+1+1))=val (a.take (i+1))*2^k:=by
 rw[lC _ (i+1) _ (by simpa using hl)];rw[lC out i _ (by omega)];rw[iR out i (by omega)] at h;rw[iR a i hi,Ys,<-h,Yb];have e:4294967296^i*x=4294967296^i*(x%4294967296)+4294967296^i*4294967296*(x/4294967296):=by
  conv=>lhs;rw[<-ZS x 4294967296]
  grind
 have e2:4294967296^i*a[i]*2^k=4294967296^i*x:=by rw[hx];grind
 have e3:4294967296^i*(out[i]+x%4294967296)=4294967296^i*out[i]+4294967296^i*(x%4294967296):=by grind
 omega
theorem qI(l:List Nat)(hs:Small l)(i:Nat):val l/4294967296^i=val (l.drop i):=by
 have hp:0<4294967296^i:=Yp (by omega);by_cases hi:i<=l.length
 .have h1:=wB l i;have h2:=dy (hs.take i);rw[X2,YA hi] at h2;rw[YA hi] at h1;rw[h1,Z7 _ _ hp,YQ h2,Yk]
 .have h1:=dy hs;have h2:4294967296^l.length<=4294967296^i:=X3 (by omega) (by omega);rw[YI (by omega),YQ (by omega)];rfl
theorem E4{a out:List Nat}{i s:Nat}(ha:Small a)(hi:i<a.length)(hl:i<out.length)(hs:s<32)(h:val (out.take i)=val a/2^s%4294967296^i)(x:Nat)(hx:x=a[i]+4294967296*a.getD (i+1) 0) :
  val ((out.set i (x/2^s%4294967296)).take (i+1))=val a/2^s%4294967296^(i+1):=by
 rw[lC out i _ hl,h,Yb,Nat.mod_mul,Z1,Yu (2^s),<-Z1,qI a ha i];congr 2;rw[Yh hi,iB];have e:val (a.drop (i+1))=a.getD (i+1) 0+4294967296*val (a.drop (i+2)):=by
  by_cases h2:i+1<a.length
  .rw[Yh h2,iB,iJ h2]
  .rw[YI (by omega),YI (by omega),oD (by omega)];rfl
 rw[e,hx];have e2:(4294967296:Nat)=2^s*2^(32-s):=by rw[<-Yv,show s+(32-s)=32 from by omega]
 have e3:a[i]+4294967296*(a.getD (i+1) 0+4294967296*val (a.drop (i+2)))=(a[i]+4294967296*a.getD (i+1) 0)+2^s*(4294967296*(2^(32-s)*val (a.drop (i+2)))):=by
  have:4294967296*(4294967296*val (a.drop (i+2)))=2^s*(4294967296*(2^(32-s)*val (a.drop (i+2)))):=by
   conv=>lhs;lhs;rw[e2]
   grind
  grind
 rw[e3,Z7 _ _ (Yp (by omega)),zaj]
theorem NF{a out:List Nat}{n d r:Nat}(hn:0<n)(hna:n<=a.length)(hnl:n<=out.length)(h:val (a.drop n)=val (out.drop n)*d+r)(t:Nat)(ht:t=r*4294967296+a[n-1]'(by omega)) :
  val (a.drop (n-1))=val ((out.set (n-1) (t/d)).drop (n-1))*d+t%d:=by
 rw[Yh (show n-1<a.length from by omega),Yh (show n-1<(out.set (n-1) (t/d)).length from by simp;omega)];rw[Zs,ZM (by omega),show n-1+1=n from by omega];simp only[iB];rw[h];have:=Zd t d;grind
end Rc
namespace Rc
def fF(n x:Nat):List Nat:=(List.range n).map fun i=>x/4294967296^i%4294967296
theorem xi(n x:Nat):(fF n x).length=n:=by simp[fF]
theorem A8{l:List Nat}(hs:Small l):l=fF l.length (val l):=by
 apply zaq
 .simp[fF]
 .intro i h1 h2;simp only[fF,List.getElem_map,List.getElem_range];rw[qI l hs i,Yh h1,iB];have:=hs.get i h1;omega
theorem xh{l:List Nat}{n x:Nat}(hs:Small l)(hl:l.length=n)(hv:val l=x):l=fF n x:=by subst hl;subst hv;exact A8 hs
theorem wR(n x:Nat):Small (fF n x):=by
 intro y hy;simp only[fF,ZE] at hy;obtain⟨i,_,rfl⟩:=hy;omega
theorem wD{n x:Nat}(h:x<4294967296^n):val (fF n x)=x:=by
 have e:fF n x=ah x++List.replicate (n-(ah x).length) 0:=by
  refine(xh ((bh x).append (Small.replicate _)) ?_ ?_).symm
  .have:=dm.2 h;simp;omega
  .rw[ji,lD,aZ];simp
 rw[e,ji,lD,aZ];simp
theorem R6{o d k:Nat}(hk:k<32)(ho:o<2^k):(d*2^k%4294967296)%2^k=0/\d*2^k%4294967296+o<4294967296:=by
 have e:(4294967296:Nat)=2^(32-k)*2^k:=by rw[<-Yv,show 32-k+k=32 from by omega]
 have h1:d*2^k%4294967296=(d%2^(32-k))*2^k:=by rw[e,Nat.mul_mod_mul_right]
 have hp:0<2^(32-k):=Yp (by omega);have h2:d%2^(32-k)<2^(32-k):=YE _ hp;rw[h1];refine⟨Zo _ _,?_⟩;rw[e];generalize 2^(32-k)=m at *;generalize 2^k=p at *;have:(d%m+1)*p<=m*p:=Ya _ h2;rw[Ys,Y2] at this;omega
theorem R7{d k:Nat}(hk:k<32)(hd:d<4294967296):d*2^k<18446744073709551616/\d*2^k/4294967296<2^k/\(2:Nat)^k<=2147483648:=by
 have h1:(2:Nat)^k<=2^31:=X3 (by omega) (by omega);have hp:0<(2:Nat)^k:=Yp (by omega);have h2:d*2^k<=4294967295*2^k:=Ya _ (by omega);refine⟨by omega,?_,by omega⟩;rw[YT (by omega)];omega
theorem Am(x k:Nat):x/4294967296^(k/32)/2^(k%32)=x/2^k:=by
 rw[gD,Z1,<-Yv,Zd]
end Rc
namespace Go.Proofs.YtakccfmgipajnaaGreatDoor
open Go Go.RowKit Rc
theorem U7(l:List Nat)(hl:l.length<=10000000000000):ar Tryz.prog 252 [V.one (ae l)] (R.one (V.one (ae l))):=by
 refine aF Tryz.func252 Tryz.ntmps252 rfl (fun w0 A0=>?_);refine zc 9 rfl ?_;refine Wj rfl rfl rfl rfl rfl bP (fun b1 hb1=>?_);refine zl 2 rfl ?_;refine cV rfl (fun hc4=>?_) (fun hc4=>?_)
 .refine zc 5 rfl ?_;exact av ai rfl (by obtain⟨h1,h2⟩:=hb1 hc4;have:=X5 h1;subst this;rfl)
 .refine zc 4 rfl (j0 rfl rfl rfl rfl bP ba rfl (zl 1 rfl ?_));obtain⟨ti2,hi2,hz2,hs2,hb2⟩:=fi;refine mf rfl rfl rfl rfl rfl rfl rfl rfl rfl (by simp) (by simp) (by decide) bP bP hi2 hz2 hs2 rfl (by simp only[maxLen];omega) (by rw[hb2];omega) (nm:=l.length) (by simp) (ls:=(l.map aY)) (by simp) (zl 3 rfl (s9 2 (l) rfl rfl rfl rfl rfl ?_));exact av ai rfl rfl
theorem xE(l:List Nat)(hs:Small l)(hl:l.length<=10000000000000):ar Tryz.prog 201 [V.one (ae l)] (R.one (V.one (ae (ah (val l))))):=by
 refine aF Tryz.func201 Tryz.ntmps201 rfl (fun w0 A0=>?_);refine zc 8 rfl (aj eO rfl (eL l hs) (aj TK rfl (U7 _ (XY (fH hs) hl)) (zl 3 rfl ?_)));exact av ai rfl rfl
theorem CJ(la lb:List Nat)(hsa:Small la)(hsb:Small lb):ar Tryz.prog 99 [V.one (ae la),V.one (ae lb)] (R.one (V.one (ab.val (.int .i64 (eH (val la) (val lb)))))):=by
 refine aF Tryz.func99 Tryz.ntmps99 rfl (fun w0 A0=>?_);refine zc 1 rfl ?_;refine nJ (s:=0) rfl (fun hma=>?_);refine nJ (s:=1) rfl (fun hmb=>?_);refine zc 7 rfl (aj eO rfl (eL la hsa) (zl 1 rfl (aj eO rfl (eL lb hsb) (zl 6 rfl ?_))));have hla:=fH hsa;have hlb:=fH hsb;have va:=aZ (val la);have vb:=aZ (val lb);have sa:=bh (val la);have sb:=bh (val lb);have hlt1:(ah (val la)).length<(ah (val lb)).length->val la<val lb:=Hm;have hlt2:(ah (val lb)).length<(ah (val la)).length->val lb<val la:=Hm;generalize ah (val la)=a at *;generalize ah (val lb)=b at *;refine zc 2 rfl (aa rfl (aw rfl) (zl 1 rfl (aa rfl (aw rfl) ?_)));by_cases hne:a.length≠b.length
 .refine aa rfl (fG rfl) (zl 7 rfl (aa rfl (aw rfl) (zl 1 rfl (aa rfl (aw rfl) ?_))));by_cases hlt:a.length<b.length
  .refine aa rfl (aX rfl) (zl 8 rfl ?_);exact av ai rfl (by rw[nB (hlt1 hlt)])
  .refine aa rfl (aO rfl) (zl 10 rfl ?_);exact av ai rfl (by rw[CK (hlt2 (by omega))])
 .refine aa rfl (eg rfl) (zl 9 rfl (aa rfl (aw rfl) (aa rfl (du rfl rfl rfl (r:=(a.length:Int)-1) (bS (by omega) (by omega) (by omega))) (zl 4 rfl ?_))));refine bH (fun m Γ H=>∃(n:Nat),n=m/\Γ=[(0,some (D.v (V.one (ae a)))),(1,some (D.v (V.one (ae b)))),(5,some (D.int ((n:Int)-1)))]/\H=[]/\n<=a.length/\a.drop n=b.drop n) ⟨a.length,rfl,rfl,rfl,XP _,by rw[YI (XP _),YI (by omega)]⟩ rfl ?_;rintro m Γ H ⟨n,rfl,rfl,rfl,h⟩;refine zc 4 rfl ?_;by_cases hp:0<n
  .refine aa rfl (dR rfl) (zl 8 rfl ?_);by_cases hz:a[n-1]'(by omega)=b[n-1]'(by omega)
   .refine aE 0 [] [] (dz 2 rfl (af rfl (b5 rfl (eV (n-1) (by omega) (by omega))) (af rfl (bB rfl) (dz 2 rfl (af rfl (b5 rfl (eV (n-1) (by omega) (by omega))) (af rfl (bB rfl) (af rfl (eg rfl) (aB (za 7 rfl ?_)))))))));refine aa rfl (du rfl rfl rfl (r:=((n-1:Nat):Int)-1) (bS (by omega) (by omega) (by omega))) (zl 2 rfl ?_);exact aP ⟨n-1,rfl,rfl,rfl,by omega,Uz (by omega) (by omega) (by rw[show n-1+1=n from by omega];exact h.2) hz⟩ rfl
   .refine aE 0 [] [] (dz 2 rfl (af rfl (b5 rfl (eV (n-1) (by omega) (by omega))) (af rfl (bB rfl) (dz 2 rfl (af rfl (b5 rfl (eV (n-1) (by omega) (by omega))) (af rfl (bB rfl) (af rfl (fG rfl) (aB (za 4 rfl ?_)))))))));by_cases hy:a[n-1]'(by omega)<b[n-1]'(by omega)
    .refine aE 0 [] [] (dz 2 rfl (af rfl (b5 rfl (eV (n-1) (by omega) (by omega))) (af rfl (bB rfl) (dz 2 rfl (af rfl (b5 rfl (eV (n-1) (by omega) (by omega))) (af rfl (bB rfl) (af rfl (aX rfl) (aB (za 7 rfl ?_)))))))));exact av ai rfl (by rw[nB (by rw[<-va,<-vb];exact JX (n:=n-1) sa (by omega) (by omega) (by rw[show n-1+1=n from by omega];exact h.2) hy)])
    .refine aE 0 [] [] (dz 2 rfl (af rfl (b5 rfl (eV (n-1) (by omega) (by omega))) (af rfl (bB rfl) (dz 2 rfl (af rfl (b5 rfl (eV (n-1) (by omega) (by omega))) (af rfl (bB rfl) (af rfl (aO rfl) (aB (za 9 rfl ?_)))))))));exact av ai rfl (by rw[CK (by rw[<-va,<-vb];exact JX (n:=n-1) sb (by omega) (by omega) (by rw[show n-1+1=n from by omega];exact h.2.symm) (by omega))])
  .refine aa rfl (dY rfl) (zl 13 rfl ?_);exact av ai rfl (by rw[JY (by rw[<-va,<-vb];have h2:=h.2;rw[show n=0 from by omega] at h2;rw[show a=b from h2])])
theorem xq(x:Nat)(hx:x<18446744073709551616):ar Tryz.prog 208 [V.one (ab.val (.int .u64 x))] (R.one (V.one (ae (ah x)))):=by
 refine aF Tryz.func208 Tryz.ntmps208 rfl (fun w0 A0=>?_);refine zc 8 rfl (aa rfl (dN (x%4294967296) rfl) (zl 1 rfl (aa rfl (eB rfl rfl rfl (by decide) (r:=((x/4294967296:Nat):Int)) (er x 32 rfl)) (aa rfl (dN (x/4294967296) rfl) (aK rfl (b8 rfl bP ba jk rfl (by decide) (by decide) rfl (by decide) rfl) ?_)))));refine aj eO rfl (eL [x%4294967296,x/4294967296] (Small.cons (by omega) (Small.cons (by omega) Small.nil))) (zl 3 rfl ?_);exact av ai rfl (by rw[show val [x%4294967296,x/4294967296]=x from by simp;omega])
end Go.Proofs.YtakccfmgipajnaaGreatDoor
namespace Rc
open Go
theorem xk{a b:Nat}(i:Nat)(ha:a%2^i=0)(hb:b<2^i):a ||| b=a+b:=by
 have h:a=(a/2^i) <<< i:=by
  rw[Nat.shiftLeft_eq];have:=Zd a (2^i);rw[ha,Yl] at this;rw[Yu];exact this.symm
 rw[h,<-Nat.shiftLeft_add_eq_or_of_lt hb]
theorem lO(w n:Nat)(h:n<2^w):(BitVec.ofInt w (n:Int)).toNat=n:=by
 rw[show(BitVec.ofInt w (n:Int))=BitVec.ofNat w n from by
  apply BitVec.eq_of_toNat_eq;rw[BitVec.toNat_ofInt,BitVec.toNat_ofNat];have:((n:Int)%((2^w:Nat):Int))=((n%2^w:Nat):Int):=by rw[Int.natCast_emod]
  rw[this];rfl]
 rw[BitVec.toNat_ofNat,Y7 h]
theorem qE{n:Nat}(h:n<18446744073709551616):IntKind.u64.wrap (n:Int)=n:=cF (by omega)
theorem qF{n:Nat}(h:n<4294967296):IntKind.u32.wrap (n:Int)=n:=tt (by omega)
theorem Ba{a b:Nat}(i:Nat)(ha:a%2^i=0)(hb:b<2^i)(h:a+b<18446744073709551616) :
  IntKind.u64.wrap ((BitVec.ofInt IntKind.u64.bits (a:Int) ||| BitVec.ofInt IntKind.u64.bits (b:Int)).toNat)=((a+b:Nat):Int):=by
 rw[zaB,lO _ a (by simp only[IntKind.bits];omega),lO _ b (by simp only[IntKind.bits];omega),xk i ha hb];exact qE h
theorem xm{a b:Nat}(i:Nat)(ha:a%2^i=0)(hb:b<2^i)(h:a+b<18446744073709551616) :
  IntKind.u64.wrap ((BitVec.ofInt IntKind.u64.bits (b:Int) ||| BitVec.ofInt IntKind.u64.bits (a:Int)).toNat)=((b+a:Nat):Int):=by
 rw[zaB,lO _ a (by simp only[IntKind.bits];omega),lO _ b (by simp only[IntKind.bits];omega),Nat.or_comm,xk i ha hb,ZX b a];exact qE h
theorem PF{a b:Nat}(i:Nat)(ha:a%2^i=0)(hb:b<2^i)(h:a+b<4294967296) :
  IntKind.u32.wrap ((BitVec.ofInt IntKind.u32.bits (b:Int) ||| BitVec.ofInt IntKind.u32.bits (a:Int)).toNat)=((b+a:Nat):Int):=by
 rw[zaB,lO _ a (by simp only[IntKind.bits];omega),lO _ b (by simp only[IntKind.bits];omega),Nat.or_comm,xk i ha hb,ZX b a];exact qF h
theorem nV{c:Int}(x c':Nat)(hc:min c.toNat IntKind.u64.bits=c')(h:x*2^c'<18446744073709551616):IntKind.u64.wrap ((x:Int)*2^(min c.toNat IntKind.u64.bits))=((x*2^c':Nat):Int):=by
 rw[hc,show((x:Int)*2^c')=((x*2^c':Nat):Int) from by rw[Zu,Z8];rfl];exact qE h
theorem uw{c:Nat}(h:c<=64):min ((c:Int)).toNat IntKind.u64.bits=c:=by simp only[IntKind.bits];omega
theorem wx{x r:Int}(h:x%256=r):IntKind.u8.wrap x=r:=by
 subst h;simp[IntKind.wrap,IntKind.bits,IntKind.signed]
theorem jJ(a b:Nat):((a:Int)).tdiv (b:Int)=((a/b:Nat):Int):=by rw[Int.tdiv_eq_ediv_of_nonneg (by omega)];rfl
theorem fB(a b:Nat):((a:Int)).tmod (b:Int)=((a%b:Nat):Int):=by rw[Int.tmod_eq_emod_of_nonneg (by omega)];rfl
theorem SX(s:ByteArray)(j:Nat):s[j]?=s.data.toList[j]?:=by
 by_cases h:j<s.size
 .rw[getElem?_pos s j h];have h':j<s.data.toList.length:=by simpa using h
  rw[XM h'];rfl
 .rw[getElem?_neg s j h,Yi (by simpa using h)]
theorem xN{s:ByteArray}(hs:s.data.toList=(List.range 256).map fun i=>UInt8.ofNat (bl i)){x:Nat}(hx:x<256):s[x]?=some (UInt8.ofNat (bl x)):=by
 rw[SX,hs];simp[hx]
theorem xM{x:Nat}(hx:x<256):((UInt8.ofNat (bl x)).toNat:Int)=(bl x:Int):=by
 have:=gQ (n:=x) (k:=8) hx;rw[UInt8.toNat_ofNat_of_lt' (by simp[UInt8.size];omega)]
end Rc
namespace Go.Proofs.YtakccfmgipajnaaGreatDoor
open Go Go.RowKit Rc
theorem Mi(l:List Nat):ar Tryz.prog 98 [V.one (ae l)] (R.one (V.one (ab.val (.bool (decide (∀h:l≠[],l.getLast h≠0)))))):=by
 refine aF Tryz.func98 Tryz.ntmps98 rfl (fun w0 A0=>?_);refine zc 1 rfl ?_;refine nJ (s:=0) rfl (fun hm=>?_);refine zc 7 rfl (aa rfl (aw rfl) ?_);by_cases hz:l.length=0
 .refine aa rfl (bp rfl) (zl 12 rfl ?_);exact av ai rfl (by rw[decide_eq_true];intro h;exact absurd (X5 hz) h)
 .refine aa rfl (aU rfl) (zl 3 rfl (aa rfl (aw rfl) (aa rfl (b9 (l.length-1) rfl) (aa rfl (b5 rfl (eV (l.length-1) (by omega) rfl)) (aa rfl (bB rfl) ?_)))));by_cases hy:l[l.length-1]'(by omega)≠0
  .refine aa rfl (fG rfl) (zl 4 rfl ?_);exact av ai rfl (by rw[decide_eq_true];intro h;rw[ZC];exact hy)
  .refine aa rfl (eg rfl) (zl 4 rfl ?_);exact av ai rfl (by rw[decide_eq_false];intro h;exact h (by intro e;rw[e] at hz;simp at hz) (by rw[ZC];omega))
theorem Es(x:Nat):ar Tryz.prog 253 [V.one (ae (ah x))] (R.aW [V.one (ab.val (.int .u64 (if x<18446744073709551616 then x else 0:Nat))),V.one (ab.val (.bool (decide (x<18446744073709551616))))]):=by
 refine aF Tryz.func253 Tryz.ntmps253 rfl (fun w0 A0=>?_);refine zc 9 rfl (aj eO rfl (eL (ah x) (bh x)) (zl 5 rfl ?_));rw[aZ];have hx:=aZ x;have hsl:=bh x;have hlen:(ah x).length<=2↔x<4294967296^2:=dm;generalize ah x=l at *;refine zc 2 rfl (aa rfl (aw rfl) ?_);by_cases hl:2<l.length
 .refine aa rfl (dQ rfl) (zl 9 rfl ?_);exact aI ai rfl (by rw[if_neg (by omega),decide_eq_false (by omega)] <;> rfl)
 .refine aa rfl (cD rfl) (zl 14 rfl (aa rfl (aw rfl) (zl 4 rfl ?_)));refine bH (fun m Γ H=>∃(i:Nat),l.length-i=m/\Γ=[(0,some (D.v (V.one (ae l)))),(4,some (D.val (.int .u64 ((val (l.take i):Nat):Int)))),(12,some (D.v (V.one (ae l)))),(13,some (D.int ((l.length:Nat):Int))),(14,some (D.int (i:Int)))]/\H=[]/\i<=l.length) ⟨0,rfl,rfl,rfl,XS _⟩ rfl ?_;rintro m Γ H ⟨i,rfl,rfl,rfl,h⟩;refine zc 2 rfl ?_;by_cases hp:i<l.length
  .refine aa rfl (aX rfl) (zl 11 rfl (aa rfl (b5 rfl (fj (by omega))) (aa rfl (bB rfl) (zl 4 rfl ?_))));have hd:=hsl.get i hp;have hv:=iR l i hp;have hlt:=dy (hsl.take (i+1));rw[X2,YA (by omega),gD] at hlt;have hlt0:=dy (hsl.take i);rw[X2,YA (by omega),gD] at hlt0;have h64:(2:Nat)^(32*(i+1))<=18446744073709551616:=by
    have:i=0\/i=1:=by omega
    rcases this with e|e <;> subst e <;> decide
   rw[gD,Yu] at hv;refine zc 3 rfl (aa rfl (cZ (l[i]'(by omega)) rfl) (zl 1 rfl (aa rfl (qx rfl rfl rfl (r:=((32*i:Nat):Int)) (bS (by omega) (by omega) (by omega))) (aa rfl (lz rfl rfl rfl (by omega) (r:=((l[i]'(by omega)*2^(32*i):Nat):Int)) (nV _ (32*i) (uw (by omega)) (by omega))) ?_))));refine aa rfl (lA rfl rfl rfl (r:=((val (l.take (i+1)):Nat):Int)) (by rw[hv];exact xm (32*i) (Zo _ _) hlt0 (by omega))) (zl 5 rfl (aa rfl (aL (i+1) rfl) (zl 2 rfl ?_)));exact aP ⟨i+1,rfl,rfl,rfl,by omega⟩ rfl
  .refine aa rfl (aO rfl) (zl 16 rfl ?_);exact aI ai rfl (by rw[dJ l i (by omega),hx,if_pos (by omega),decide_eq_true (by omega)])
theorem VU(la lb:List Nat)(hsa:Small la)(hsb:Small lb)(hla0:la.length<=10000000000000)(hlb0:lb.length<=10000000000000):ar Tryz.prog 260 [V.one (ae la),V.one (ae lb)] (R.one (V.one (ae (ah (val la+val lb))))):=by
 refine aF Tryz.func260 Tryz.ntmps260 rfl (fun w0 A0=>?_);refine zc 8 rfl (aj eO rfl (eL la hsa) (zl 1 rfl (aj eO rfl (eL lb hsb) (zl 6 rfl ?_))));have hla:=fH hsa;have hlb:=fH hsb;have va:=aZ (val la);have vb:=aZ (val lb);have sa:=bh (val la);have sb:=bh (val lb);generalize ah (val la)=a at *;generalize ah (val lb)=b at *;refine zc 2 rfl (aa rfl (aw rfl) (zl 1 rfl (aa rfl (aw rfl) ?_)));by_cases hab:a.length<b.length
 .refine aa rfl (aX rfl) (zl 13 rfl (aa rfl (aw rfl) (aa rfl (aL (b.length+1) rfl) ?_)));obtain⟨ti2,hi2,hz2,hs2,hb2⟩:=fi;refine aK rfl (j6 (i:=0) (n:=b.length+1) (ls:=((List.replicate (b.length+1) 0).map aY)) rfl rfl rfl bP hi2 hz2 hs2 (by decide) rfl (by decide) rfl (by rw[hb2];omega) (by simp only[maxLen];omega) (jF _) rfl) (zl 12 rfl (aa rfl (aw rfl) (zl 4 rfl ?_)));refine bH (fun m Γ H=>∃(k:Nat) (out:List Nat) (c:Nat),b.length-k=m/\Γ=[(0,some (D.v (V.one (ae b)))),(1,some (D.v (V.one (ae a)))),(5,some (D.own 0 (b.length+1))),(6,some (D.val (.int .u64 (c:Int)))),(24,some (D.v (V.one (ae b)))),(25,some (D.int ((b.length:Nat):Int))),(26,some (D.int (k:Int)))]/\H=[some ⟨80,out.map aY,some 1,none⟩]/\k<=b.length/\out.length=b.length+1/\Small out/\c<=1/\val (out.take k)+c*4294967296^k=val (b.take k)+val (a.take k)) ⟨0,List.replicate (b.length+1) 0,0,rfl,rfl,rfl,XS _,by simp,Small.replicate _,by omega,rfl⟩ rfl ?_;rintro m Γ H ⟨k,out,c,rfl,rfl,rfl,hkle,hol,hos,hc,heq⟩;refine zc 2 rfl ?_;by_cases hk:k<b.length
  .refine aa rfl (aX rfl) (zl 9 rfl ?_);have hak:=sb.get k hk;have hbk:=sa.getD k;refine zc 2 rfl (aa rfl (b5 rfl (fj (by omega))) (aa rfl (bB rfl) (zl 8 rfl (aa rfl (cZ (b[k]'hk) rfl) (aa rfl (dS rfl rfl rfl (r:=((c+b[k]'hk:Nat):Int)) (cF (by omega))) (zl 8 rfl (aa rfl (aw rfl) ?_)))))));by_cases hkb:k<a.length
   .refine aa rfl (aX rfl) (zl 3 rfl ?_);have hbk2:=sa.get k hkb;refine zc 4 rfl (aa rfl (b5 rfl (fj (by omega))) (aa rfl (bB rfl) (aa rfl (cZ (a[k]'hkb) rfl) (aa rfl (dS rfl rfl rfl (r:=((c+b[k]'hk+a[k]'hkb:Nat):Int)) (cF (by omega))) (zl 8 rfl (aa rfl (dN ((c+b[k]+a[k])%4294967296) rfl) ?_))))));refine aa rfl (eK rfl rfl rfl rfl (by decide) (by simp[hol]) (by decide) bP ba (by omega) (by omega) (off:=k) (by omega)) (aK rfl (eQ (ls:=((out.set k ((c+b[k]+a[k])%4294967296)).map aY)) rfl rfl rfl rfl ba rfl (by decide) (by simp;omega) (fX (by omega))) (zl 4 rfl ?_));refine aa rfl (eB rfl rfl rfl (by decide) (r:=(((c+b[k]+a[k])/4294967296:Nat):Int)) (er _ 32 rfl)) (zl 5 rfl (aa rfl (aL (k+1) rfl) (zl 2 rfl ?_)));exact aP ⟨k+1,_,(c+b[k]+a[k])/4294967296,rfl,rfl,rfl,by omega,by simp[hol],hos.set _ _ (by omega),by omega,vV hk (by omega) heq (by rw[iJ hkb])⟩ rfl
   .refine aa rfl (aO rfl) (zl 10 rfl (aa rfl (dN ((c+b[k])%4294967296) rfl) (aa rfl (eK rfl rfl rfl rfl (by decide) (by simp[hol]) (by decide) bP ba (by omega) (by omega) (off:=k) (by omega)) (aK rfl (eQ (ls:=((out.set k ((c+b[k])%4294967296)).map aY)) rfl rfl rfl rfl ba rfl (by decide) (by simp;omega) (fX (by omega))) (zl 4 rfl ?_)))));refine aa rfl (eB rfl rfl rfl (by decide) (r:=(((c+b[k])/4294967296:Nat):Int)) (er _ 32 rfl)) (zl 5 rfl (aa rfl (aL (k+1) rfl) (zl 2 rfl ?_)));exact aP ⟨k+1,_,(c+b[k])/4294967296,rfl,rfl,rfl,by omega,by simp[hol],hos.set _ _ (by omega),by omega,vV hk (by omega) heq (by rw[oD (by omega),Yl])⟩ rfl
  .refine aa rfl (aO rfl) (zl 13 rfl (aa rfl (aw rfl) (zl 1 rfl (aa rfl (dN c rfl) (aa rfl (eK rfl rfl rfl rfl (by decide) (by simp[hol]) (by decide) bP ba (by omega) (by omega) (off:=b.length) (by omega)) (aK rfl (eQ (ls:=((out.set b.length c).map aY)) rfl rfl rfl rfl ba rfl (by decide) (by simp;omega) (fX (by omega))) (zl 5 rfl ?_)))))));refine je 60 (out.set b.length c) rfl rfl rfl rfl (by simp[hol]) (aj eO rfl (eL (out.set b.length c) (hos.set _ _ (by omega))) (zl 3 rfl ?_));have hke:k=b.length:=by omega
   subst hke;have hfin:=lC out b.length c (by omega);rw[dJ _ _ (by simp[hol])] at hfin;rw[dJ b _ (XP _),dJ a _ (by omega)] at heq;exact av ai rfl (by rw[show val (out.set b.length c)=val la+val lb from by rw[hfin,<-va,<-vb,Yu];omega])
 .refine aa rfl (aO rfl) (zl 8 rfl (aa rfl (aw rfl) (aa rfl (aL (a.length+1) rfl) ?_)));obtain⟨ti6,hi6,hz6,hs6,hb6⟩:=fi;refine aK rfl (j6 (i:=0) (n:=a.length+1) (ls:=((List.replicate (a.length+1) 0).map aY)) rfl rfl rfl bP hi6 hz6 hs6 (by decide) rfl (by decide) rfl (by rw[hb6];omega) (by simp only[maxLen];omega) (jF _) rfl) (zl 12 rfl (aa rfl (aw rfl) (zl 4 rfl ?_)));refine bH (fun m Γ H=>∃(k:Nat) (out:List Nat) (c:Nat),a.length-k=m/\Γ=[(0,some (D.v (V.one (ae a)))),(1,some (D.v (V.one (ae b)))),(5,some (D.own 0 (a.length+1))),(6,some (D.val (.int .u64 (c:Int)))),(24,some (D.v (V.one (ae a)))),(25,some (D.int ((a.length:Nat):Int))),(26,some (D.int (k:Int)))]/\H=[some ⟨80,out.map aY,some 1,none⟩]/\k<=a.length/\out.length=a.length+1/\Small out/\c<=1/\val (out.take k)+c*4294967296^k=val (a.take k)+val (b.take k)) ⟨0,List.replicate (a.length+1) 0,0,rfl,rfl,rfl,XS _,by simp,Small.replicate _,by omega,rfl⟩ rfl ?_;rintro m Γ H ⟨k,out,c,rfl,rfl,rfl,hkle,hol,hos,hc,heq⟩;refine zc 2 rfl ?_;by_cases hk:k<a.length
  .refine aa rfl (aX rfl) (zl 9 rfl ?_);have hak:=sa.get k hk;have hbk:=sb.getD k;refine zc 2 rfl (aa rfl (b5 rfl (fj (by omega))) (aa rfl (bB rfl) (zl 8 rfl (aa rfl (cZ (a[k]'hk) rfl) (aa rfl (dS rfl rfl rfl (r:=((c+a[k]'hk:Nat):Int)) (cF (by omega))) (zl 8 rfl (aa rfl (aw rfl) ?_)))))));by_cases hkb:k<b.length
   .refine aa rfl (aX rfl) (zl 3 rfl ?_);have hbk2:=sb.get k hkb;refine zc 4 rfl (aa rfl (b5 rfl (fj (by omega))) (aa rfl (bB rfl) (aa rfl (cZ (b[k]'hkb) rfl) (aa rfl (dS rfl rfl rfl (r:=((c+a[k]'hk+b[k]'hkb:Nat):Int)) (cF (by omega))) (zl 8 rfl (aa rfl (dN ((c+a[k]+b[k])%4294967296) rfl) ?_))))));refine aa rfl (eK rfl rfl rfl rfl (by decide) (by simp[hol]) (by decide) bP ba (by omega) (by omega) (off:=k) (by omega)) (aK rfl (eQ (ls:=((out.set k ((c+a[k]+b[k])%4294967296)).map aY)) rfl rfl rfl rfl ba rfl (by decide) (by simp;omega) (fX (by omega))) (zl 4 rfl ?_));refine aa rfl (eB rfl rfl rfl (by decide) (r:=(((c+a[k]+b[k])/4294967296:Nat):Int)) (er _ 32 rfl)) (zl 5 rfl (aa rfl (aL (k+1) rfl) (zl 2 rfl ?_)));exact aP ⟨k+1,_,(c+a[k]+b[k])/4294967296,rfl,rfl,rfl,by omega,by simp[hol],hos.set _ _ (by omega),by omega,vV hk (by omega) heq (by rw[iJ hkb])⟩ rfl
   .refine aa rfl (aO rfl) (zl 10 rfl (aa rfl (dN ((c+a[k])%4294967296) rfl) (aa rfl (eK rfl rfl rfl rfl (by decide) (by simp[hol]) (by decide) bP ba (by omega) (by omega) (off:=k) (by omega)) (aK rfl (eQ (ls:=((out.set k ((c+a[k])%4294967296)).map aY)) rfl rfl rfl rfl ba rfl (by decide) (by simp;omega) (fX (by omega))) (zl 4 rfl ?_)))));refine aa rfl (eB rfl rfl rfl (by decide) (r:=(((c+a[k])/4294967296:Nat):Int)) (er _ 32 rfl)) (zl 5 rfl (aa rfl (aL (k+1) rfl) (zl 2 rfl ?_)));exact aP ⟨k+1,_,(c+a[k])/4294967296,rfl,rfl,rfl,by omega,by simp[hol],hos.set _ _ (by omega),by omega,vV hk (by omega) heq (by rw[oD (by omega),Yl])⟩ rfl
  .refine aa rfl (aO rfl) (zl 13 rfl (aa rfl (aw rfl) (zl 1 rfl (aa rfl (dN c rfl) (aa rfl (eK rfl rfl rfl rfl (by decide) (by simp[hol]) (by decide) bP ba (by omega) (by omega) (off:=a.length) (by omega)) (aK rfl (eQ (ls:=((out.set a.length c).map aY)) rfl rfl rfl rfl ba rfl (by decide) (by simp;omega) (fX (by omega))) (zl 5 rfl ?_)))))));refine je 60 (out.set a.length c) rfl rfl rfl rfl (by simp[hol]) (aj eO rfl (eL (out.set a.length c) (hos.set _ _ (by omega))) (zl 3 rfl ?_));have hke:k=a.length:=by omega
   subst hke;have hfin:=lC out a.length c (by omega);rw[dJ _ _ (by simp[hol])] at hfin;rw[dJ a _ (XP _),dJ b _ (by omega)] at heq;exact av ai rfl (by rw[show val (out.set a.length c)=val la+val lb from by rw[hfin,<-va,<-vb,Yu];omega])
theorem Ng(la lb:List Nat)(hsa:Small la)(hsb:Small lb)(hla0:la.length<=10000000000000)(hge:val lb<=val la):ar Tryz.prog 261 [V.one (ae la),V.one (ae lb)] (R.aW [V.one (ae (ah (val la-val lb))),V.one (ab.val (.int .i64 0))]):=by
 refine aF Tryz.func261 Tryz.ntmps261 rfl (fun w0 A0=>?_);refine zc 9 rfl (aj eO rfl (eL la hsa) (zl 1 rfl (aj eO rfl (eL lb hsb) (zl 6 rfl ?_))));have hla:=fH hsa;have hlb:=fH hsb;have va:=aZ (val la);have vb:=aZ (val lb);have sa:=bh (val la);have sb:=bh (val lb);have hlen:(ah (val lb)).length<=(ah (val la)).length:=mX hge;have hcm:¬eH (val (ah (val la))) (val (ah (val lb)))<0:=by rw[va,vb];unfold eH;rw[if_neg (by omega)];split <;> decide
 generalize ah (val la)=a at *;generalize ah (val lb)=b at *;refine zc 3 rfl (aj pS rfl (CJ _ _ sa sb) (aa rfl (aO rfl hcm) (zl 8 rfl (aa rfl (aw rfl) ?_))));obtain⟨ti1,hi1,hz1,hs1,hb1⟩:=fi;refine aK rfl (j6 (i:=0) (n:=a.length) (ls:=((List.replicate (a.length) 0).map aY)) rfl rfl rfl bP hi1 hz1 hs1 (by decide) rfl (by decide) rfl (by rw[hb1];omega) (by simp only[maxLen];omega) (jF _) rfl) (zl 12 rfl (aa rfl (aw rfl) (zl 4 rfl ?_)));refine bH (fun m Γ H=>∃(k:Nat) (out:List Nat) (c:Nat),a.length-k=m/\Γ=[(0,some (D.v (V.one (ae a)))),(1,some (D.v (V.one (ae b)))),(6,some (D.own 0 a.length)),(7,some (D.val (.int .u64 (c:Int)))),(22,some (D.v (V.one (ae a)))),(23,some (D.int ((a.length:Nat):Int))),(24,some (D.int (k:Int)))]/\H=[some ⟨80,out.map aY,some 1,none⟩]/\k<=a.length/\out.length=a.length/\Small out/\c<=1/\val (out.take k)+val (b.take k)=val (a.take k)+c*4294967296^k) ⟨0,List.replicate a.length 0,0,rfl,rfl,rfl,XS _,by simp,Small.replicate _,by omega,rfl⟩ rfl ?_;rintro m Γ H ⟨k,out,c,rfl,rfl,rfl,hkle,hol,hos,hc,heq⟩;refine zc 2 rfl ?_;by_cases hk:k<a.length
 .refine aa rfl (aX rfl) (zl 9 rfl ?_);have hak:=sa.get k hk;have hbk:=sb.getD k;refine zc 2 rfl (aa rfl (b5 rfl (fj (by omega))) (aa rfl (bB rfl) (zl 7 rfl (aa rfl (cZ (a[k]'hk) rfl) (zl 1 rfl (aa rfl (du rfl rfl rfl (r:=(((18446744073709551616+a[k]'hk-c)%18446744073709551616:Nat):Int)) (cF (by omega))) (zl 8 rfl (aa rfl (aw rfl) ?_))))))));by_cases hkb:k<b.length
  .refine aa rfl (aX rfl) (zl 3 rfl ?_);have hbk2:=sb.get k hkb;refine zc 4 rfl (aa rfl (b5 rfl (fj (by omega))) (aa rfl (bB rfl) (aa rfl (cZ (b[k]'hkb) rfl) (aa rfl (du rfl rfl rfl (r:=(((18446744073709551616+a[k]'hk-c-b[k]'hkb)%18446744073709551616:Nat):Int)) (cF (by omega))) (zl 8 rfl (aa rfl (dN (((18446744073709551616+a[k]-c-b[k])%18446744073709551616)%4294967296) rfl) ?_))))));refine aa rfl (eK rfl rfl rfl rfl (by decide) (by simp[hol]) (by decide) bP ba (by omega) (by omega) (off:=k) (by omega)) (aK rfl (eQ (ls:=((out.set k (((18446744073709551616+a[k]-c-b[k])%18446744073709551616)%4294967296)).map aY)) rfl rfl rfl rfl ba rfl (by decide) (by simp;omega) (fX (by omega))) (zl 4 rfl ?_));refine aa rfl (eB rfl rfl rfl (by decide) (r:=((((18446744073709551616+a[k]-c-b[k])%18446744073709551616)/9223372036854775808:Nat):Int)) (er _ 63 rfl)) (zl 5 rfl (aa rfl (aL (k+1) rfl) (zl 2 rfl ?_)));exact aP ⟨k+1,_,((18446744073709551616+a[k]-c-b[k])%18446744073709551616)/9223372036854775808,rfl,rfl,rfl,by omega,by simp[hol],hos.set _ _ (by omega),by omega,EO hk (by omega) sa sb hc heq (by rw[iJ hkb])⟩ rfl
  .refine aa rfl (aO rfl) (zl 10 rfl (aa rfl (dN (((18446744073709551616+a[k]-c)%18446744073709551616)%4294967296) rfl) (aa rfl (eK rfl rfl rfl rfl (by decide) (by simp[hol]) (by decide) bP ba (by omega) (by omega) (off:=k) (by omega)) ?_)));refine aK rfl (eQ (ls:=((out.set k (((18446744073709551616+a[k]-c)%18446744073709551616)%4294967296)).map aY)) rfl rfl rfl rfl ba rfl (by decide) (by simp;omega) (fX (by omega))) (zl 4 rfl (aa rfl (eB rfl rfl rfl (by decide) (r:=((((18446744073709551616+a[k]-c)%18446744073709551616)/9223372036854775808:Nat):Int)) (er _ 63 rfl)) ?_));refine zl 5 rfl (aa rfl (aL (k+1) rfl) (zl 2 rfl ?_));exact aP ⟨k+1,_,((18446744073709551616+a[k]-c)%18446744073709551616)/9223372036854775808,rfl,rfl,rfl,by omega,by simp[hol],hos.set _ _ (by omega),by omega,EO hk (by omega) sa sb hc heq (by rw[oD (by omega),zay])⟩ rfl
 .refine aa rfl (aO rfl) (zl 12 rfl (je 52 (out) rfl rfl rfl rfl (by omega) (aj eO rfl (eL out hos) (zl 4 rfl ?_))));have hke:k=a.length:=by omega
  subst hke;rw[dJ out _ (by omega),dJ a _ (XP _),dJ b _ (by omega)] at heq;have hlt:=dy hos;rw[hol] at hlt;have hc0:c=0:=by
   rcases Yr c with h|h
   .exact h
   .exfalso;have:c=1:=by omega
    subst this;omega
  exact aI ai rfl (by rw[show val out=val la-val lb from by rw[<-va,<-vb];subst hc0;omega])
theorem QM(la lb:List Nat)(hsa:Small la)(hsb:Small lb)(hla0:la.length<=10000000000000)(hlb0:lb.length<=10000000000000):ar Tryz.prog 207 [V.one (ae la),V.one (ae lb)] (R.one (V.one (ae (ah (val la*val lb))))):=by
 refine aF Tryz.func207 Tryz.ntmps207 rfl (fun w0 A0=>?_);refine zc 8 rfl (aj eO rfl (eL la hsa) (zl 1 rfl (aj eO rfl (eL lb hsb) (zl 6 rfl ?_))));have hla:=fH hsa;have hlb:=fH hsb;have va:=aZ (val la);have vb:=aZ (val lb);have sa:=bh (val la);have sb:=bh (val lb);have ea:(ah (val la)).length=0->val la=0:=fun h=>kS.1 (X5 h);have eb:(ah (val lb)).length=0->val lb=0:=fun h=>kS.1 (X5 h);generalize ah (val la)=a at *;generalize ah (val lb)=b at *;refine zc 2 rfl (aa rfl (aw rfl) ?_);by_cases ha0:a.length=0
 .refine aa rfl (bp rfl) (zl 13 rfl ?_);exact av ai rfl (by rw[ea ha0,Zm,cJ] <;> rfl)
 .refine aa rfl (aU rfl) (zl 2 rfl (aa rfl (aw rfl) ?_));by_cases hb0:b.length=0
  .refine aa rfl (bp rfl) (zl 9 rfl ?_);exact av ai rfl (by rw[eb hb0,Zc,cJ] <;> rfl)
  .refine aa rfl (aU rfl) (zl 9 rfl (aa rfl (aw rfl) (zl 1 rfl (aa rfl (aw rfl) (aa rfl (aL (a.length+b.length) rfl) ?_)))));obtain⟨ti3,hi3,hz3,hs3,hb3⟩:=fi;refine aK rfl (j6 (i:=0) (n:=a.length+b.length) (ls:=((List.replicate (a.length+b.length) 0).map aY)) rfl rfl rfl bP hi3 hz3 hs3 (by decide) rfl (by decide) rfl (by rw[hb3];omega) (by simp only[maxLen];omega) (jF _) rfl) (zl 7 rfl (aa rfl (aw rfl) (zl 4 rfl ?_)));refine bH (fun m Γ H=>∃(i:Nat) (out:List Nat),a.length-i=m/\Γ=[(0,some (D.v (V.one (ae a)))),(1,some (D.v (V.one (ae b)))),(5,some (D.own 0 (a.length+b.length))),(29,some (D.v (V.one (ae a)))),(30,some (D.int ((a.length:Nat):Int))),(31,some (D.int (i:Int)))]/\H=[some ⟨80,out.map aY,some 1,none⟩]/\i<=a.length/\out.length=a.length+b.length/\Small out/\val out=val (a.take i)*val b/\(∀j (hj:j<out.length),i+b.length<=j->out[j]=0)) ⟨0,List.replicate (a.length+b.length) 0,rfl,rfl,rfl,XS _,by simp,Small.replicate _,by simp[lD],by intro j hj _;simp⟩ rfl ?_;rintro m Γ H ⟨i,out,rfl,rfl,rfl,hile,hol,hos,heq,hzero⟩;refine zc 2 rfl ?_;by_cases hi:i<a.length
   .refine aa rfl (aX rfl) (zl 9 rfl ?_);have hai:=sa.get i hi;refine zc 2 rfl (aa rfl (b5 rfl (fj (by omega))) (aa rfl (bB rfl) (zl 13 rfl (aa rfl (aw rfl) (zl 4 rfl ?_)))));refine bH (fun m Γ H=>∃(k:Nat) (o:List Nat) (c:Nat),b.length-k=m/\Γ=[(0,some (D.v (V.one (ae a)))),(1,some (D.v (V.one (ae b)))),(5,some (D.own 0 (a.length+b.length))),(6,some (D.int (i:Int))),(7,some (D.val (.int .u32 ((a[i]'hi:Nat):Int)))),(8,some (D.val (.int .u64 (c:Int)))),(29,some (D.v (V.one (ae a)))),(30,some (D.int ((a.length:Nat):Int))),(31,some (D.int (i:Int))),(36,some (D.v (V.one (ae b)))),(37,some (D.int ((b.length:Nat):Int))),(38,some (D.int (k:Int)))]/\H=[some ⟨80,o.map aY,some 1,none⟩]/\k<=b.length/\o.length=a.length+b.length/\Small o/\c<4294967296/\val o+c*4294967296^(i+k)=val (a.take i)*val b+4294967296^i*(a[i]*val (b.take k))/\(∀j (hj:j<o.length),i+b.length<=j->o[j]=0)) ⟨0,out,0,rfl,rfl,rfl,XS _,hol,hos,by omega,by simp[heq],hzero⟩ rfl ?_;rintro m Γ H ⟨k,o,c,rfl,rfl,rfl,hkle,hoo1,hoo,hc,hq,hz1⟩;refine zc 2 rfl ?_;by_cases hk:k<b.length
    .refine aa rfl (aX rfl) (zl 9 rfl ?_);have hbk:=sb.get k hk;have hok:=hoo.get (i+k) (by omega);have hm:=GV hc hai hbk hok;have hm2:=hm.1;refine zc 2 rfl (aa rfl (b5 rfl (fj (by omega))) (aa rfl (bB rfl) (zl 8 rfl (aa rfl (cZ (a[i]'hi) rfl) (zl 1 rfl (aa rfl (cZ (b[k]'hk) rfl) (aa rfl (qx rfl rfl rfl (r:=((a[i]'hi*b[k]'hk:Nat):Int)) (cF (by rw[<-Zu];omega))) (zl 3 rfl (aa rfl (aL (i+k) rfl) ?_)))))))));refine aa rfl (eK rfl rfl rfl rfl (by decide) (by simp[hoo1]) (by decide) bP ba (by omega) (by omega) (off:=i+k) (by omega)) (aa rfl (gT rfl rfl rfl (by decide) ba (sv (by omega))) (aa rfl (cZ (o[i+k]'(by omega)) rfl) (aa rfl (dS rfl rfl rfl (r:=((a[i]'hi*b[k]'hk+o[i+k]'(by omega):Nat):Int)) (cF (by omega))) ?_)));refine aa rfl (dS rfl rfl rfl (r:=((c+(a[i]'hi*b[k]'hk+o[i+k]'(by omega)):Nat):Int)) (cF (by omega))) (zl 8 rfl (aa rfl (aL (i+k) rfl) (zl 1 rfl (aa rfl (dN ((c+(a[i]'hi*b[k]'hk+o[i+k]'(by omega)))%4294967296) rfl) ?_))));refine aa rfl (eK rfl rfl rfl rfl (by decide) (by simp[hoo1]) (by decide) bP ba (by omega) (by omega) (off:=i+k) (by omega)) (aK rfl (eQ (ls:=((o.set (i+k) ((c+(a[i]'hi*b[k]'hk+o[i+k]'(by omega)))%4294967296)).map aY)) rfl rfl rfl rfl ba rfl (by decide) (by simp;omega) (fX (by omega))) (zl 4 rfl ?_));refine aa rfl (eB rfl rfl rfl (by decide) (r:=(((c+(a[i]'hi*b[k]'hk+o[i+k]'(by omega)))/4294967296:Nat):Int)) (er _ 32 rfl)) (zl 5 rfl (aa rfl (aL (k+1) rfl) (zl 2 rfl ?_)));exact aP ⟨k+1,_,_,rfl,rfl,rfl,by omega,by simp[hoo1],hoo.set _ _ (by omega),hm.2.1,QL hk (by omega) _ hq,by intro j hj hle;rw[List.getElem_set_ne (by omega)];exact hz1 j (by simpa using hj) hle⟩ rfl
    .refine aa rfl (aO rfl) (zl 13 rfl (aa rfl (aw rfl) (aa rfl (aL (i+b.length) rfl) (zl 1 rfl (aa rfl (dN c rfl) (aa rfl (eK rfl rfl rfl rfl (by decide) (by simp[hoo1]) (by decide) bP ba (by omega) (by omega) (off:=i+b.length) (by omega)) ?_))))));refine aK rfl (eQ (ls:=((o.set (i+b.length) c).map aY)) rfl rfl rfl rfl ba rfl (by decide) (by simp;omega) (fX (by omega))) (zl 4 rfl (aa rfl (aL (i+1) rfl) (zl 2 rfl ?_)));have hke:k=b.length:=by omega
     subst hke;have hzz:=hz1 (i+b.length) (by omega) (XP _);have hvs:=wC o (i+b.length) c (by omega);rw[hzz,Zc,Yl] at hvs;rw[dJ b _ (XP _)] at hq;have hfin:val (o.set (i+b.length) c)=val (a.take (i+1))*val b:=by
      rw[hvs,iR a i hi,Ys,Yu _ c,hq];grind
     have hz2:∀j (hj:j<(o.set (i+b.length) c).length),i+1+b.length<=j->(o.set (i+b.length) c)[j]=0:=by
      intro j hj hle;rw[List.getElem_set_ne (by omega)];exact hz1 j (by simpa using hj) (by omega)
     have hol:=hoo1;exact aP ⟨i+1,_,rfl,rfl,rfl,by omega,by simp[hol],hoo.set _ _ hc,hfin,hz2⟩ rfl
   .refine aa rfl (aO rfl) (zl 12 rfl (je 77 (out) rfl rfl rfl rfl (by omega) (aj eO rfl (eL out hos) (zl 3 rfl ?_))));have hie:i=a.length:=by omega
    subst hie;exact av ai rfl (by rw[show val out=val la*val lb from by rw[heq,dJ a _ (XP _),va,vb]])
end Go.Proofs.YtakccfmgipajnaaGreatDoor
