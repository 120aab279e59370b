/- Parts of the proof, 13: the texts EvM, EvJ, EvN, EvK, EvL, EvQ, as far as they are used. -/
import Derived.Test.YtakccfmgipajnaaGreatDoorWp12
import Derived.OrdersIn
import Derived.RangeFuncRecord
import Derived.LoopNIn
import Derived.Scope
set_option linter.unusedSimpArgs false
set_option linter.unusedVariables false
set_option maxRecDepth 10000
namespace Rc
abbrev ZK:=@List.mem_cons_of_mem
abbrev zag:=@List.mem_cons_self
abbrev zaD:=@Go.World.putObj_heap_other
abbrev zaF:=@Go.World.putObj_heap_same
abbrev za5:=@Array.getElem?_setIfInBounds
end Rc
namespace Rc.Ev
open Go
structure Mn(S S':HS):Prop where
 c:S.c<=S'.c
 tm:∀i,tb S.tm i->tb S'.tm i
 mm:∀i,tb S.mm i->tb S'.mm i
 mt:∀i,tb S'.mm i->tb S.mm i\/tb S'.tm i
 same:∀j,(∀i,tb S'.mm i->bu i≠bu j)->S'.rd j=S.rd j
theorem Mn.mono{S S':HS}(h:Mn S S'):ij S S':=⟨h.c,h.tm⟩
theorem Mn.refl(S:HS):Mn S S:=⟨XP _,fun _ h=>h,fun _ h=>h,fun _ h=>.inl h,fun _ _=>rfl⟩
theorem Mn.trans{S S1 S2:HS}(h:Mn S S1)(h':Mn S1 S2):Mn S S2:=
 ⟨XY h.c h'.c,fun i hi=>h'.tm i (h.tm i hi),fun i hi=>h'.mm i (h.mm i hi),
  fun i hi=>by
  rcases h'.mt i hi with h1|h1
  .rcases h.mt i h1 with h2|h2
   .exact .inl h2
   .exact .inr (h'.tm i h2)
  .exact .inr h1,
  fun j hj=>(h'.same j hj).trans (h.same j fun i hi=>hj i (h'.mm i hi))⟩
theorem Mn.bD(S:HS)(i:Nat):Mn S (S.bD i):=by
 rw[fA];exact⟨XP _,fun i h=>aM.2 (.inl h),fun _ h=>h,fun _ h=>.inl h,fun _ _=>rfl⟩
theorem Mn.wr(S:HS)(i:Nat)(b:Option Bk):Mn S (S.wr i b):=by
 rw[gW];refine⟨XP _,fun i h=>aM.2 (.inl h),fun i h=>aM.2 (.inl h),fun j h=>?_,fun j hj=>?_⟩
 .rcases aM.1 h with h|h
  .exact .inl h
  .exact .inr (aM.2 (.inr h))
 .exact lU S.h b (fun e=>hj i (aM.2 (.inr (cn.2 rfl))) e.symm)
theorem Mn.new(S:HS)(b:Bk):Mn S (S.new b):=by
 rw[g9];refine⟨zaH _,fun i h=>aM.2 (.inl h),fun i h=>aM.2 (.inl h),fun j h=>?_,fun j hj=>?_⟩
 .rcases aM.1 h with h|h
  .exact .inl h
  .exact .inr (aM.2 (.inr h))
 .exact lU S.h _ (fun e=>hj S.c (aM.2 (.inr (cn.2 rfl))) e.symm)
theorem Mn.news{S S1:HS}(h:Mn S S1)(b:Bk):Mn S (S1.new b):=h.trans (Mn.new _ _)
section
variable {S S':HS}{F:Tr CV}{v:CV}
theorem G0{t:TypeId}{x:CV}(h:ld S t x=some (v,S')):Mn S S':=by
 unfold ld at h
 repeat' split at h
 all_goals first
  |(simp at h;done)
  |(simp only[XL,XO] at h;obtain⟨-,rfl⟩:=h;first|exact Mn.refl _|exact Mn.bD _ _)
theorem rK{b o:Nat}{cs:List CV}(h:iT S b o cs=some S'):Mn S S':=by
 unfold iT at h;simp only[gz] at h
 repeat' split at h
 all_goals first
  |(simp at h;done)
  |(simp only[XL] at h;subst h;exact Mn.wr _ _ _)
theorem Q0{t:TypeId}{x y:CV}(h:st S t x y=some (v,S')):Mn S S':=by
 unfold st at h;simp only[Yq] at h
 repeat' split at h
 all_goals first
  |(simp at h;done)
  |(rename_i hs;simp only[XL,XO] at h;obtain⟨-,rfl⟩:=h;exact rK hs)
theorem GZ{l:List CV}{t:TypeId}(h:rH S l t=some (v,S')):Mn S S':=by
 unfold rH at h;simp only[cd,gz] at h
 repeat' split at h
 all_goals first
  |(simp at h;done)
  |(simp only[XL,XO] at h;obtain⟨-,rfl⟩:=h;exact Mn.new _ _)
theorem Rl{t:TypeId}{n:Nat}{ps:List (Nat×Operand)}(h:vP F S t n ps=some (v,S')):Mn S S':=by
 unfold vP at h;simp only[cd,gz,Yq] at h
 repeat' split at h
 all_goals first
  |(simp at h;done)
  |(simp only[XL,XO] at h;obtain⟨-,rfl⟩:=h;first|exact Mn.refl _|exact Mn.new _ _)
theorem Q5{t:TypeId}{n c:CV}(h:xC S t n c=some (v,S')):Mn S S':=by
 unfold xC at h;simp only[cd,gz,Yq] at h
 repeat' split at h
 all_goals first
  |(simp at h;done)
  |(simp only[XL,XO] at h;obtain⟨-,rfl⟩:=h;exact Mn.new _ _)
theorem Q1{e:TypeId}{zV0:Nat}{x:CV}{l:List CV}(h:src S e zV0 x=some (l,S')):Mn S S':=by
 unfold src at h;simp only[Yq] at h
 repeat' split at h
 all_goals first
  |(simp at h;done)
  |(simp only[XL,XO] at h;obtain⟨-,rfl⟩:=h;first|exact Mn.refl _|exact Mn.bD _ _)
theorem G6{e:TypeId}{k:Nat}{l:List CV}(h:zn S e k l=some (v,S')):Mn S S':=by
 unfold zn at h;simp only[cd,gz,Yq] at h;split at h
 .simp only[XL,XO] at h;obtain⟨-,rfl⟩:=h;exact Mn.new _ _
 .simp at h
theorem G5{e:TypeId}{zV0 k b o n:Nat}{l:List CV}{c:Option Nat}(h:zm S e zV0 k l b o n c=some (v,S')):Mn S S':=by
 unfold zm at h;simp only[cd,gz,Yq] at h
 repeat' split at h
 all_goals first
  |(simp at h;done)
  |(simp only[XL,XO] at h;obtain⟨-,rfl⟩:=h;first|exact(Mn.bD _ _).news _|exact(Mn.wr _ _ _).news _|(exact rK (by assumption)))
theorem G4{t t2:TypeId}{x y:CV}(h:sY S t t2 x y=some (v,S')):Mn S S':=by
 unfold sY at h;simp only[Yq,cd] at h;split at h
 .split at h
  .split at h
   .split at h
    .rename_i hs;refine(Q1 hs).trans ?_;clear hs;split at h
     .split at h
      .cases h;exact Mn.refl _
      .cases h;exact Mn.refl _
      .cases h;exact Mn.refl _
      .simp at h
     .split at h
      .exact G6 h
      .exact G5 h
      .simp at h
    .simp at h
   .simp at h
  .simp at h
 .simp at h
theorem Re{t:TypeId}{x y:CV}(h:sN S t x y=some (v,S')):Mn S S':=by
 unfold sN at h;simp only[Yq] at h
 repeat' split at h
 all_goals first
  |(simp at h;done)
  |(simp only[XL,XO] at h;obtain⟨-,rfl⟩:=h;exact Mn.refl _)
  |(simp only[XL,XO] at h;obtain⟨-,rfl⟩:=h;exact(Mn.bD _ _).trans (rK (by assumption)))
theorem Rh{t:TypeId}{x:CV}(h:vE S t x=some (v,S')):Mn S S':=by
 unfold vE at h;simp only[Yq] at h
 repeat' split at h
 all_goals first
  |(simp at h;done)
  |(rename_i hs;simp only[XL,XO] at h;obtain⟨-,rfl⟩:=h;exact rK hs)
  |(simp only[XL,XO] at h;obtain⟨-,rfl⟩:=h;exact Mn.refl _)
theorem Q6{t:TypeId}{x:CV}(h:rS S t x=some (v,S')):Mn S S':=by
 unfold rS at h;simp only[cd] at h
 repeat' split at h
 all_goals first
  |(simp at h;done)
  |(simp only[XL,XO] at h;obtain⟨-,rfl⟩:=h;exact Mn.refl _)
theorem Ri{t:TypeId}{x:CV}(h:sR S t x=some (v,S')):Mn S S':=by
 unfold sR at h
 repeat' split at h
 all_goals first
  |(simp at h;done)
  |(simp only[XL,XO] at h;obtain⟨-,rfl⟩:=h;exact Mn.refl _)
theorem Q2{t:TypeId}{b o n:Nat}{c lo hi mx:Option Nat}(h:pj S t b o n c lo hi mx=some (v,S')):Mn S S':=by
 unfold pj at h;simp only[cd,Cl,Yq] at h
 repeat' split at h
 all_goals first
  |(simp at h;done)
  |(simp only[XL,XO] at h;obtain⟨-,rfl⟩:=h;exact Mn.bD _ _)
theorem Q3{t:TypeId}{x:CV}{lo hi mx:Option Operand}(h:qX F S t x lo hi mx=some (v,S')):Mn S S':=by
 unfold qX at h;simp only[Yq] at h
 repeat' split at h
 all_goals first
  |(simp at h;done)
  |exact Q2 h
  |(simp only[XL,XO] at h;obtain⟨-,rfl⟩:=h;exact Mn.refl _)
theorem Ra{t:TypeId}{x:CV}{f:Nat}(h:yn S t x f=some (v,S')):Mn S S':=by
 unfold yn at h;simp only[cd] at h
 repeat' split at h
 all_goals first
  |(simp at h;done)
  |(simp only[XL,XO] at h;obtain⟨-,rfl⟩:=h;first|exact Mn.refl _|exact Mn.bD _ _)
theorem Rf{t u:TypeId}{x:CV}(h:yH S t u x=some (v,S')):Mn S S':=by
 unfold yH at h;simp only[Yq] at h
 repeat' split at h
 all_goals first
  |(simp at h;done)
  |(simp only[XL,XO] at h;obtain⟨-,rfl⟩:=h;first|exact Mn.refl _|exact Mn.bD _ _)
theorem Rb{k:Nat}{args:List CV}(h:ext k args S=some (v,S')):Mn S S':=by
 unfold ext at h
 repeat' split at h
 all_goals first
  |(simp at h;done)
  |(rename_i hs;simp only[XL,XO] at h;obtain⟨-,rfl⟩:=h;exact rK hs)
  |(simp only[XL,XO] at h;obtain⟨-,rfl⟩:=h;first|exact Mn.refl _|exact Mn.bD _ _)
theorem Rm{t:TypeId}{b o n c k:Nat}(h:vU S t b o n c k=some (v,S')):Mn S S':=by
 unfold vU at h;simp only[cd,gz,Yq] at h
 repeat' split at h
 all_goals first
  |(simp at h;done)
  |(simp only[XL,XO] at h;obtain⟨-,rfl⟩:=h;exact(Mn.bD _ _).news _)
theorem QZ{t:TypeId}{b n:Nat}(h:tE S t b n=some (v,S')):Mn S S':=by
 unfold tE at h;simp only[Yq] at h
 repeat' split at h
 all_goals first
  |(simp at h;done)
  |(simp only[XL,XO] at h;obtain⟨-,rfl⟩:=h;exact Mn.wr _ _ _)
theorem Rd{b:Builtin}{ts:List TypeId}{args:List CV}(h:yr F S b ts args=some (v,S')):Mn S S':=by
 unfold yr at h;split at h
 .exact Q6 h
 .exact Ri h
 .rw[Yq] at h;split at h
  .split at h
   .exact Rm h
   .simp at h
  .exact G4 h
 .exact Re h
 .exact Rh h
 .rw[Yq] at h;split at h
  .simp only[XL,XO] at h;obtain⟨-,rfl⟩:=h;exact Mn.refl _
  .simp at h
 .exact QZ h
 .simp at h
theorem xA:∀(l:List Nat) {S S':HS},vF l S=some S'->Mn S S'
 |[],S,S',h=>by
  have h:some S=some S':=h;cases h;exact Mn.refl _
 |r::l,S,S',h=>by
  have h:(match S.rd r with|some (.d true)=>vF l (S.wr r (some (.d false)))|_=>none)=some S':=h;split at h
  .exact(Mn.wr _ _ _).trans (xA l h)
  .simp at h
theorem rL:∀(l:List ResultVar) {S S':HS} {vs:List CV},nZ F S l=some (vs,S')->Mn S S'
 |[],S,S',vs,h=>by
  have h:some ([],S)=some (vs,S'):=h;cases h;exact Mn.refl _
 |.tmp t::l,S,S',vs,h=>by
  have h:(match F.get t,nZ F S l with|some v,some (vs,S)=>some (v::vs,S)|_,_=>none)=some (vs,S'):=h;split at h
  .rename_i h1;cases h;exact rL l h1
  .simp at h
 |.cell a t::l,S,S',vs,h=>by
  have h:(match F.get a with
   |some x=>(match ld S t x with
    |some (v,S)=>(match nZ F S l with|some (vs,S)=>some (v::vs,S)|none=>none)
    |none=>none)
   |none=>none)=some (vs,S'):=h
  split at h
  .split at h
   .rename_i h1;split at h
    .rename_i h2;cases h;exact(G0 h1).trans (rL l h2)
    .simp at h
   .simp at h
  .simp at h
theorem Bo{fn:Func}{F:FS}(h:fin fn F=some (v,S')):Mn F.s S':=by
 unfold fin at h;split at h
 .rename_i h1;split at h
  .rename_i h2;cases h;exact(xA _ h1).trans (rL _ h2)
  .rename_i h2;cases h;exact(xA _ h1).trans (rL _ h2)
  .simp at h
 .simp at h
end
def iq(ih:Rec):Prop:=∀r c F x F',ih r c F=some (x,F')->Mn F.s F'.s
def iO(O:dI):Prop:=∀f args S v S',O f args S=some (some (v,S'))->Mn S S'
section
variable {O:dI}{ih:Rec}{S S':HS}{T:Tr CV}{v:CV}
theorem xB(hO:iO O)(hi:iq ih){f:FuncId}{args:List CV}(h:l7 O ih f args S=some (v,S')):Mn S S':=by
 unfold l7 at h;split at h
 .split at h
  .cases h;exact Mn.refl _
  .simp at h
 .split at h
  .rename_i h1;subst h;exact hO _ _ _ _ _ h1
  .split at h
   .split at h
    .simp only[Yq] at h;split at h
     .split at h
      .rename_i h1;exact(hi _ _ _ _ _ h1).trans (Bo h)
      .rename_i h1;exact(hi _ _ _ _ _ h1).trans (Bo h)
      .simp at h
     .simp at h
    .exact Rb h
   .simp at h
theorem GY(hi:iq ih){l:Nat}{args:List CV}(h:tq ih l args S=some (v,S')):Mn S S':=by
 unfold tq at h;split at h
 .simp only[Yq] at h;split at h
  .split at h
   .rename_i h1;split at h
    .split at h
     .rename_i h2;split at h
      .cases h;exact(Mn.bD _ _).trans ((hi _ _ _ _ _ h1).trans ((Mn.wr _ _ _).trans ((hi _ _ _ _ _ h2).trans (Mn.wr _ _ _))))
      .simp at h
     .simp at h
    .simp at h
   .simp at h
  .simp at h
 .simp at h
theorem Rj(hO:iO O)(hi:iq ih){fv:CV}{args:List CV}(h:yM O ih fv args S=some (v,S')):Mn S S':=by
 unfold yM at h;split at h
 .exact xB hO hi h
 .exact GY hi h
 .simp at h
theorem Rk(hO:iO O)(hi:iq ih){c:Call}(h:lS O c ih T S=some (v,S')):Mn S S':=by
 unfold lS at h;split at h
 .exact Rd h
 .split at h
  .exact Rj hO hi h
  .simp at h
 .split at h
  .split at h
   .exact xB hO hi h
   .simp at h
  .simp at h
 .simp at h
theorem G3{t:TypeId}{x i y:Operand}(h:pO t x i y ih T S=some (v,S')):Mn S S':=by
 unfold pO at h
 repeat' split at h
 all_goals first
  |(simp at h;done)
  |(simp only[XL,XO] at h;obtain⟨-,rfl⟩:=h;exact Mn.wr _ _ _)
theorem Q4(hO:iO O)(hi:iq ih){o:Op}(h:oJ O o ih T S=some (v,S')):Mn S S':=by
 cases o
 case call c=>exact Rk hO hi h
 case load t x=>have h:se t x ih T S=some (v,S'):=h;unfold se at h;split at h;exact G0 h;simp at h
 case store t x y=>have h:r7 t x y ih T S=some (v,S'):=h;unfold r7 at h;split at h;exact Q0 h;simp at h
 case alloc t=>have h:uW t ih T S=some (v,S'):=h;unfold uW at h;split at h;exact GZ h;simp at h
 case box t x=>
  have h:sk t x ih T S=some (v,S'):=h;unfold sk at h;simp only[Yq] at h;split at h
  .split at h
   .simp at h
   .exact GZ h
  .simp at h
 case buildSlice t n ps=>exact Rl h
 case insert t x i y=>exact G3 (ih:=ih) h
 case mapUpdate t x i y=>exact G3 (ih:=ih) h
 case convert t u x=>have h:si t u x ih T S=some (v,S'):=h;unfold si at h;split at h;exact Rf h;simp at h
 case makeSlice t n c=>have h:r9 t n c ih T S=some (v,S'):=h;unfold r9 at h;split at h;exact Q5 h;simp at h
 case slice t x lo hi mx=>have h:oA t x lo hi mx ih T S=some (v,S'):=h;unfold oA at h;split at h;exact Q3 h;simp at h
 case fieldAddr t x f=>have h:sf t x f ih T S=some (v,S'):=h;unfold sf at h;split at h;exact Ra h;simp at h
 case makeMap t x=>
  have h:oB t x ih T S=some (v,S'):=h;unfold oB at h;simp only[cd] at h
  repeat' split at h
  all_goals first
   |(simp at h;done)
   |(simp only[XL,XO] at h;obtain⟨-,rfl⟩:=h;exact Mn.new _ _)
 case lookup t x i ok=>
  have h:sd t x i ok ih T S=some (v,S'):=h;unfold sd at h
  repeat' split at h
  all_goals first
   |(simp at h;done)
   |(simp only[XL,XO] at h;obtain⟨-,rfl⟩:=h;exact Mn.bD _ _)
 all_goals first
  |(have h:gP ih T S=some (v,S'):=h;simp[gP] at h;done)
  |(unfold oJ at h
    simp only[r8,uO,pP,uP,uV,uN,uQ,pN,uT,uR,uS,uU] at h
    repeat' split at h
    all_goals first
     |(simp at h;done)
     |(simp only[XL,XO] at h;obtain⟨-,rfl⟩:=h;exact Mn.refl _))
end
section
variable {O:dI}{ih:Rec}{S S':HS}{T T':Tr CV}{v:CV}
theorem xo:∀{l:List Operand},(∀x∈l,bM T x=bM T' x)->dU T l=dU T' l
 |[],_=>rfl
 |x::l,h=>by
  have e:∀T,dU T (x::l)=(match bM T x,dU T l with|some v,some vs=>some (v::vs)|_,_=>none):=fun _=>rfl;rw[e,e,h x (by simp),xo fun y hy=>h y (by simp[hy])]
theorem Ck{pl:Nat->Option (Nat×Nat)}:∀{ps:List (Nat×Operand)} (cs:List CV),(∀p∈ps,bM T p.2=bM T' p.2)->fill T pl cs ps=fill T' pl cs ps
 |[],_,_=>rfl
 |p::ps,cs,h=>by
  have e:∀T,fill T pl cs (p::ps)=(match pl p.1,bM T p.2 with
   |some (o,zV0),some v=>bif v.jS then none else bif Nat.beq (len v.cl) zV0 then(match rn cs o v.cl with|some cs'=>fill T pl cs' ps|none=>none) else none
   |_,_=>none):=fun _=>rfl
  rw[e,e,h p (by simp)];have ih:∀cs,fill T pl cs ps=fill T' pl cs ps:=fun cs=>Ck cs fun q hq=>h q (by simp[hq]);simp only[ih]
theorem CY{x:Option Operand}(h:∀y,x=some y->bM T y=bM T' y):jy T x=jy T' x:=by
 cases x with
 |none=>rfl
 |some y=>unfold jy;simp only[h y rfl]
theorem Ug{o:Op}(h:∀x∈o.operands,bM T x=bM T' x):oJ O o ih T S=oJ O o ih T' S:=by
 cases o
 case build t ps=>
  show pP t ps ih T S=pP t ps ih T' S;have e:∀p∈ps.toList,bM T p.2=bM T' p.2:=fun p hp=>h p.2 (by simp[Op.operands];exact⟨p.1,by simpa using hp⟩);have e':∀pl cs,fill T pl cs ps.toList=fill T' pl cs ps.toList:=fun pl cs=>Ck cs e;simp only[pP,zf,e']
 case buildSlice t n ps=>
  show sj t n ps ih T S=sj t n ps ih T' S;have e:∀p∈ps.toList,bM T p.2=bM T' p.2:=fun p hp=>h p.2 (by simp[Op.operands];exact⟨p.1,by simpa using hp⟩);have e':∀pl cs,fill T pl cs ps.toList=fill T' pl cs ps.toList:=fun pl cs=>Ck cs e;simp only[sj,vP,e']
 case makeFunc fn fs cs=>
  show pN fn fs cs ih T S=pN fn fs cs ih T' S;have e1:dU T fs.toList=dU T' fs.toList:=xo fun x hx=>h x (by simp[Op.operands];exact .inl (by simpa using hx));have e2:dU T cs.toList=dU T' cs.toList:=xo fun x hx=>h x (by simp[Op.operands];exact .inr (by simpa using hx));simp only[pN,e1,e2]
 case makeMap t x=>
  show oB t x ih T S=oB t x ih T' S
  cases x with
  |none=>rfl
  |some y=>simp only[oB,h y (by simp[Op.operands])]
 case slice t x lo hi mx=>
  show oA t x lo hi mx ih T S=oA t x lo hi mx ih T' S;have e0:=h x (by simp[Op.operands]);have e1:jy T lo=jy T' lo:=CY fun y hy=>h y (by simp[Op.operands,hy]);have e2:jy T hi=jy T' hi:=CY fun y hy=>h y (by simp[Op.operands,hy]);have e3:jy T mx=jy T' mx:=CY fun y hy=>h y (by simp[Op.operands,hy]);simp only[oA,qX,e0,e1,e2,e3]
 case call c=>
  show lS O c ih T S=lS O c ih T' S;have e1:dU T c.args.toList=dU T' c.args.toList:=xo fun x hx=>h x (by simp[Op.operands,Call.operands];exact .inr (by simpa using hx));obtain⟨cl,al,ts⟩:=c
  cases cl with
  |value f=>
   have e2:=h f (by simp[Op.operands,Call.operands]);simp only at e1;unfold lS;simp only[e1]
   cases dU T' al.toList with
   |none=>rfl
   |some args=>simp only[e2]
  |invoke r m=>
   have e2:=h r (by simp[Op.operands,Call.operands]);simp only at e1;unfold lS;simp only[e1]
   cases dU T' al.toList with
   |none=>rfl
   |some args=>simp only[e2]
  |builtin b=>
   simp only at e1;unfold lS;simp only[e1]
   cases dU T' al.toList with
   |none=>rfl
   |some args=>rfl
 all_goals first
  |rfl
  |(simp only[Op.operands,List.mem_toArray,X9,Y8,or_false,forall_eq_or_imp,forall_eq,Ym] at h
    unfold oJ;simp only[r8,uO,sk,pO,se,r7,uP,uV,uN,si,uQ,r9,sf,uT,uR,uS,sd,uU,h])
end
theorem E5{α:Type}(t:Tr α)(p q:List Bool)(x:Option α):fD (t.eZ p x) q=fD t q:=by
 induction t generalizing p q with
 |e=>rfl
 |n v l r il ir=>
  cases p with
  |nil=>cases q <;> rfl
  |cons b p=>
   cases q with
   |nil=>cases b <;> rfl
   |cons c q=>
    cases b <;> cases c
    .exact ir p q
    .rfl
    .rfl
    .exact il p q
theorem Il{α:Type}(t:Tr α)(p:List Bool){x:α}(h:t.dX p=some x):fD t p=true:=by
 induction t generalizing p with
 |e=>simp[Tr.dX] at h
 |n v l r il ir=>
  cases p with
  |nil=>rfl
  |cons b p=>
   cases b
   .exact ir p h
   .exact il p h
theorem Pd{α:Type}(t:Tr α)(p:List Bool)(x:Option α)(h:fD t p=false):t.eZ p x=t:=by
 induction t generalizing p with
 |e=>rfl
 |n v l r il ir=>
  cases p with
  |nil=>simp[fD] at h
  |cons b p=>
   cases b
   .show Tr.n v l (r.eZ p x)=_;rw[ir p (by simpa[fD] using h)]
   .show Tr.n v (l.eZ p x) r=_;rw[il p (by simpa[fD] using h)]
theorem Pg{α:Type}(t:Tr α)(p:List Bool)(x:Option α)(h:fD t p=true):(t.eZ p x).dX p=x:=by
 induction t generalizing p with
 |e=>simp[fD] at h
 |n v l r il ir=>
  cases p with
  |nil=>rfl
  |cons b p=>
   cases b
   .exact ir p (by simpa[fD] using h)
   .exact il p (by simpa[fD] using h)
theorem w8{α:Type}{t:Tr α}{N:Nat}(h:rm t N)(p:List Bool)(x:Option α):rm (t.eZ p x) N:=fun s hs=>h s (by rw[E5] at hs;exact hs)
theorem Mk{α:Type}:∀(d f N s:Nat),N<2^f->fD (Tr.lE (α:=α) d N) (lK f s)=true->s<N:=by
 intro d
 induction d with
 |zero=>intro f N s _ h;simp[Tr.lE,fD] at h
 |succ d ih=>
  intro f N s hN h;have e:Tr.lE (α:=α) (d+1) N=(bif Nat.beq N 0 then .e else fN (Nat.div N 2) fun a=>fN (Nat.div (Nat.sub N 1) 2) fun b=>.n none (Tr.lE d a) (Tr.lE d b)):=rfl;rw[e] at h;simp only[cd] at h
  cases N with
  |zero=>simp[fD] at h
  |succ N=>
   have e0:Nat.beq (N+1) 0=false:=rfl;rw[e0] at h;simp only[cond_false] at h
   cases f with
   |zero=>simp at hN
   |succ f=>
    have hp:2^(f+1)=2*2^f:=by rw[Yb,Yu]
    have e1:lK (f+1) s=bif Nat.beq s 0 then[] else bif Nat.beq (Nat.mod s 2) 1 then true::lK f (Nat.div s 2) else false::lK f (Nat.sub (Nat.div s 2) 1):=rfl;rw[e1] at h
    cases s with
    |zero=>omega
    |succ s=>
     have e2:Nat.beq (s+1) 0=false:=rfl;rw[e2] at h;simp only[cond_false] at h;have hd:∀n,Nat.div n 2=n/2:=fun _=>rfl;have hs:∀n,Nat.sub n 1=n-1:=fun _=>rfl;simp only[hd,hs] at h;cases hb:Nat.beq (Nat.mod (s+1) 2) 1
     .rw[hb] at h;simp only[cond_false,fD,X8,if_false] at h;have h1:=ih f _ _ (by omega) h;have hm:(s+1)%2≠1:=fun e=>by rw[show Nat.mod (s+1) 2=1 from e] at hb;simp at hb
      omega
     .rw[hb] at h;simp only[cond_true,fD,if_true] at h;have h1:=ih f _ _ (by omega) h;have hm:(s+1)%2=1:=XT hb;omega
theorem Ek{α:Type}{N:Nat}(h:N<1048575):rm (Tr.upto (α:=α) N) N:=fun s hs=>Mk 20 20 N s (by omega) hs
theorem Ml{α:Type}:∀(d N:Nat) (p:List Bool),(Tr.lE (α:=α) d N).dX p=none:=by
 intro d
 induction d with
 |zero=>intro N p;rfl
 |succ d ih=>
  intro N p;have e:Tr.lE (α:=α) (d+1) N=(bif Nat.beq N 0 then .e else fN (Nat.div N 2) fun a=>fN (Nat.div (Nat.sub N 1) 2) fun b=>.n none (Tr.lE d a) (Tr.lE d b)):=rfl;rw[e];simp only[cd];cases Nat.beq N 0
  .cases p with
   |nil=>rfl
   |cons b p=>cases b <;> exact ih _ _
  .rfl
section
variable {N:Nat}{t:Tr CV}
theorem FN(h:rm t N)(hN:N<=aR){s d:Nat}(h1:fD t (bu s)=true)(h2:bu s=bu d):s=d:=
 kH (XZ (h s h1) hN) (XZ (h d (by rw[<-h2];exact h1)) hN) h2
theorem F8(h:rm t N)(hN:N<=aR){s d:Nat}(x:Option CV)(hne:s≠d):(t.eZ (bu d) x).get s=t.get s:=by
 by_cases hp:bu s=bu d
 .cases hs:fD t (bu d) with
  |true=>exact absurd (FN h hN (by rw[hp];exact hs) hp) hne
  |false=>rw[Pd _ _ _ hs]
 .exact lU t x hp
theorem AZ(h:rm t N)(hN:N<=aR){s d:Nat}{v x:CV}(hx:(t.eZ (bu d) (some v)).get s=some x):(s=d/\x=v/\d<N)\/(s≠d/\t.get s=some x):=by
 by_cases hne:s=d
 .subst hne;have hs:fD t (bu s)=true:=by have:=Il _ _ hx;rw[E5] at this;exact this
  have:=Pg t (bu s) (some v) hs;have hx:(t.eZ (bu s) (some v)).dX (bu s)=some x:=hx;rw[this] at hx;cases hx;exact .inl ⟨rfl,rfl,h s hs⟩
 .exact .inr ⟨hne,by rw[F8 h hN _ hne] at hx;exact hx⟩
end
def pC{α:Type}(f:List Bool->Bool):Tr α->Tr α
 |.e=>.e
 |.n v l r=>.n (if f [] then v else none) (pC (fun p=>f (true::p)) l) (pC (fun p=>f (false::p)) r)
theorem getP_e{α:Type}(p:List Bool):(Tr.e:Tr α).dX p=none:=rfl
theorem Im{α:Type}(t:Tr α)(f:List Bool->Bool)(p:List Bool):(pC f t).dX p=if f p then t.dX p else none:=by
 induction t generalizing f p with
 |e=>simp[pC,getP_e]
 |n v l r il ir=>
  cases p with
  |nil=>rfl
  |cons b p=>
   cases b
   .exact ir (fun p=>f (false::p)) p
   .exact il (fun p=>f (true::p)) p
def xp(L:List Nat)(t:Tr CV):Tr CV:=pC (fun p=>L.any fun s=>decide (bu s=p)) t
theorem PJ{L:List Nat}{t:Tr CV}{s:Nat}(h:s∈L):(xp L t).get s=t.get s:=by
 have:(L.any fun s'=>decide (bu s'=bu s))=true:=zas.2 ⟨s,h,by simp⟩;show(pC _ t).dX (bu s)=_;rw[Im];simp only[this,if_true];rfl
theorem PI{L:List Nat}{t:Tr CV}{s N:Nat}{x:CV}(hr:rm t N)(hN:N<=aR)(h:(xp L t).get s=some x):s∈L/\t.get s=some x:=by
 have h:(pC (fun p=>L.any fun s=>decide (bu s=p)) t).dX (bu s)=some x:=h;rw[Im] at h;split at h
 .rename_i ha;obtain⟨s',h1,h2⟩:=zas.1 ha;have h2:bu s'=bu s:=by simpa using h2
  have:=FN hr hN (s:=s) (d:=s') (Il _ _ h) h2.symm;exact⟨this ▸ h1,h⟩
 .simp at h
def qU(L:List Nat)(M:Mp)(w:World)(t:Tr CV)(a:Array Value):Prop:=∀s∈L,∀x,t.get s=some x->∃u,a[s]?=some u/\vr M w x u
theorem Nr{L:List Nat}{M:Mp}{w:World}{t:Tr CV}{a:Array Value}{N:Nat}(hr:rm t N)(hN:N<=aR)(h:qU L M w t a):sr M w (xp L t) a:=fun s x hx=>
 let ⟨h1,h2⟩:=PI hr hN hx;h s h1 x h2
def j4(O:dI)(ih:Rec):Prop:=∀(r:Option Nat) (n:Nat) (o:Oper) (F:Tr CV) (S:HS) (v:CV) (S':HS) (T:Nat->Prop) (M:Mp) (w:World) (a:Act),
 oJ O o.op ih F S=some (v,S')->Hr T M S w->Fx T M S.c w->sr M w F a.tmps->In T S'->dg r n T M S w a o v S'
def tx(r:Option Nat)(n:Nat)(ops:Array Oper)(o:Oper)(a:Act)(w:World)(K:Act->World->Prop)(Q:Exit->Act->World->Prop):Prop:=
 if Region.wanted o (yielded ops a.tmps) then o.wpIn (Fc r) n PP a w K Q else(∀f,o.about PP w a.eval=some f->(Fc r).fn f)/\K (a.put o.dst undef) w
noncomputable def A1(t:Tr CV)(d:Option Tmp)(v:CV):Tr CV:=match d with|some s=>t.eZ (bu s) (some v)|none=>t
theorem Eb{ops:Array Oper}{o:Oper}{t:Tr CV}{b:Bool}{M:Mp}{w:World}{a:Array Value}(h:want ops.toList o t=some b)(hs:qU (o.looksAt ops) M w t a):Region.wanted o (yielded ops a)=b:=by
 unfold want at h;unfold Region.wanted;split at h
 .rename_i hg;simp only[XL] at h;rw[hg,<-h]
 .rename_i j wt hg;rw[hg];simp only;split at h
  .rename_i g hj;rw[iV] at hj;have hj:ops[j]?=some g:=by simpa using hj
   split at h
   .rename_i d hd;have hin:d∈o.looksAt ops:=by
     unfold Oper.looksAt;rw[hg];simp[hj,hd]
    split at h
    .rename_i b' hb;obtain⟨u,h1,h2⟩:=hs d hin _ hb;simp only[vr] at h2;have hy:yielded ops a j=some b':=by
      unfold yielded;simp[hj,hd,h1,h2.1]
     rw[hy];simp only[XL] at h;rw[<-h];cases b' <;> cases wt <;> rfl
    .rename_i hb;obtain⟨u,h1,h2⟩:=hs d hin _ hb;simp only[vr] at h2;obtain⟨l',rfl,h3⟩:=h2;have hy:yielded ops a j=none:=by
      unfold yielded;simp[hj,hd,h1]
     rw[hy];simp only[XL] at h;rw[<-h];cases wt <;> rfl
    .simp at h
   .simp at h
  .simp at h
theorem oL{O:dI}{ih:Rec}(hS:j4 O ih)(hO:iO O)(hi:iq ih){ops:Array Oper}{o:Oper}{t t':Tr CV}{d d':List Nat}{S S':HS}(h:nu O ih ops.toList o ⟨t,d,S⟩=some ⟨t',d',S'⟩) :
  d'=d/\Mn S S'/\∃v,t'=A1 t o.dst v ∧
  ∀(r:Option Nat) (n:Nat) (T:Nat->Prop) (M:Mp) (w:World) (a:Act) (N:Nat) (K:Act->World->Prop) (Q:Exit->Act->World->Prop),rm t N->N<=aR->Hr T M S w->Fx T M S.c w->qU (o.looksAt ops) M w t a.tmps->In T S' →
   (∀M' u w',vr M' w' v u->Hr T M' S' w'->Fr M S w M' S' w'->K (a.put o.dst u) w')->tx r n ops o a w K Q:=by
 unfold nu at h;simp only at h;split at h
 .rename_i hw;split at h
  .rename_i v S1 he;rw[Uc] at h;have hmn:=Q4 hO hi he;have key:∀(hS1:S1=S') (r:Option Nat) (n:Nat) (T:Nat->Prop) (M:Mp) (w:World) (a:Act) (N:Nat) (K:Act->World->Prop) (Q:Exit->Act->World->Prop),rm t N->N<=aR->Hr T M S w->Fx T M S.c w->qU (o.looksAt ops) M w t a.tmps->In T S' →
     (∀M' u w',vr M' w' v u->Hr T M' S' w'->Fr M S w M' S' w'->K (a.put o.dst u) w')->tx r n ops o a w K Q:=by
    intro hS1 r n T M w a N K Q hr hN hH hF hs hI hK;subst hS1;unfold tx;rw[Eb hw hs];simp only[if_true];have hc:oJ O o.op ih (xp (o.looksAt ops) t) S=some (v,S1):=by
     rw[<-he];refine Ug fun x hx=>?_
     cases x with
     |tmp s=>
      refine PJ ?_;unfold Oper.looksAt;exact List.mem_append_left _ (List.mem_filterMap.2 ⟨.tmp s,by simpa using hx,rfl⟩)
     |const c=>rfl
     |global g=>rfl
     |func f=>rfl
    exact hS r n o _ S v S1 T M w a hc hH hF (Nr hr hN hs) hI K Q hK
   split at h
   .rename_i s hd;rw[gM] at h;simp only[XL,FS.mk.injEq] at h;obtain⟨h1,h2,h3⟩:=h;subst h3;exact⟨h2.symm,hmn,v,by rw[<-h1,hd];rfl,key rfl⟩
   .rename_i hd;simp only[XL,FS.mk.injEq] at h;obtain⟨h1,h2,h3⟩:=h;subst h3;exact⟨h2.symm,hmn,v,by rw[<-h1,hd];rfl,key rfl⟩
  .simp at h
 .rename_i hw;have key:∀(hS1:S=S') (r:Option Nat) (n:Nat) (T:Nat->Prop) (M:Mp) (w:World) (a:Act) (N:Nat) (K:Act->World->Prop) (Q:Exit->Act->World->Prop),rm t N->N<=aR->Hr T M S w->Fx T M S.c w->qU (o.looksAt ops) M w t a.tmps->In T S' →
    (∀M' u w',vr M' w' CV.un u->Hr T M' S' w'->Fr M S w M' S' w'->K (a.put o.dst u) w')->tx r n ops o a w K Q:=by
   intro hS1 r n T M w a N K Q hr hN hH hF hs hI hK;subst hS1;unfold tx;rw[Eb hw hs];exact⟨fun _ _=>trivial,hK M undef w qM hH (Fr.refl _ _ _)⟩
  split at h
  .rename_i s hd;rw[gM] at h;simp only[XL,FS.mk.injEq] at h;obtain⟨h1,h2,h3⟩:=h;exact⟨h2.symm,by rw[<-h3];exact Mn.refl _,.un,by rw[<-h1,hd];rfl,key h3⟩
  .rename_i hd;simp only[XL,FS.mk.injEq] at h;obtain⟨h1,h2,h3⟩:=h;exact⟨h2.symm,by rw[<-h3];exact Mn.refl _,.un,by rw[<-h1,hd];rfl,key h3⟩
 .simp at h
theorem w7{t:Tr CV}{N:Nat}(h:rm t N)(d:Option Tmp)(v:CV):rm (A1 t d v) N:=by
 cases d with
 |none=>exact h
 |some s=>exact w8 h _ _
theorem rA(a:Act)(d:Option Tmp)(u:Value):(a.put d u).tmps.size=a.tmps.size:=by
 cases d <;> simp[Act.put]
theorem put_defers(a:Act)(d:Option Tmp)(u:Value):(a.put d u).defers=a.defers:=by
 cases d <;> rfl
theorem KL{a:Act}{d s:Nat}{u:Value}(h:s≠d):(a.put (some d) u).tmps[s]?=a.tmps[s]?:=by
 simp[Act.put,za5,Ne.symm h]
theorem KJ{a:Act}{d:Nat}{u:Value}(h:d<a.tmps.size):(a.put (some d) u).tmps[d]?=some u:=by
 simp[Act.put,za5,h]
theorem EX{M M':Mp}{w w':World}{t:Tr CV}{a:Act}{N:Nat}{v:CV}{u:Value}{d:Option Tmp}(hr:rm t N)(hN:N<=aR)(hsz:N<=a.tmps.size)(h:sr M w t a.tmps)(he:M.ext M')(hk:kept M.A w w')(hv:vr M' w' v u):sr M' w' (A1 t d v) (a.put d u).tmps:=by
 have h':=my he hk h
 cases d with
 |none=>exact h'
 |some d=>
  intro s x hx;rcases AZ hr hN hx with⟨rfl,rfl,hlt⟩|⟨hne,hx⟩
  .exact⟨u,KJ (XZ hlt hsz),hv⟩
  .obtain⟨y,h1,h2⟩:=h' s x hx;exact⟨y,by rw[KL hne];exact h1,h2⟩
structure wm(T:Nat->Prop)(M:Mp)(S:HS)(w:World)(a:Act)(t':Tr CV)(S':HS)(M':Mp)(w':World)(a':Act):Prop where
 hr:Hr T M' S' w'
 fr:Fr M S w M' S' w'
 sr:sr M' w' t' a'.tmps
 sz:a'.tmps.size=a.tmps.size
theorem Jn{O:dI}{ih:Rec}(hS:j4 O ih)(hO:iO O)(hi:iq ih){ops:Array Oper} :
  ∀(l:List Oper) {t t':Tr CV} {d d':List Nat} {S S':HS},Cu O ih ops.toList l ⟨t,d,S⟩=some ⟨t',d',S'⟩ →
  d'=d/\Mn S S'/\(∀N,rm t N->rm t' N)/\∀{r:Option Nat} {n:Nat} {T:Nat->Prop} {Q:Exit->Act->World->Prop} {M:Mp} {w:World} {a:Act},rm t a.tmps.size->a.tmps.size<=aR->Hr T M S w->Fx T M S.c w->sr M w t a.tmps->In T S' →
   (∀M' w' a',wm T M S w a t' S' M' w' a'->a'.defers=a.defers->Q .normal a' w')->wpListIn (Fc r) n PP ops Q l a w
 |[],t,t',d,d',S,S',h=>by
  have h:some (FS.mk t d S)=some ⟨t',d',S'⟩:=h;cases h;exact⟨rfl,Mn.refl _,fun _ h=>h,fun {r n T Q M w a} hr hN hH hF hs hI hQ=>hQ M w a ⟨hH,Fr.refl _ _ _,hs,rfl⟩ rfl⟩
 |o::l,t,t',d,d',S,S',h=>by
  have h:(match nu O ih ops.toList o ⟨t,d,S⟩ with|some F'=>Cu O ih ops.toList l F'|none=>none)=some ⟨t',d',S'⟩:=h;split at h
  .rename_i F1 h1;obtain⟨t1,d1,S1⟩:=F1;obtain⟨e1,m1,v,ht1,k1⟩:=oL hS hO hi h1;obtain⟨e2,m2,r2,k2⟩:=Jn hS hO hi l h;refine⟨e2.trans e1,m1.trans m2,fun N hN=>r2 N (by rw[ht1];exact w7 hN _ _),fun {r n T Q M w a} hr hN hH hF hs hI hQ=>?_⟩;have hI1:In T S1:=In.back hI m2.mono;refine k1 r n T M w a a.tmps.size (wpListIn (Fc r) n PP ops Q l) Q hr hN hH hF (fun s _ x hx=>hs s x hx) hI1 ?_;intro M1 u w1 hv hH1 hf1;have hs1:sr M1 w1 t1 (a.put o.dst u).tmps:=by rw[ht1];exact EX hr hN (XP _) hs hf1.ext hf1.bI hv
   refine k2 (by rw[rA,ht1];exact w7 hr _ _) (by rw[rA];exact hN) hH1 (hF.step hf1) hs1 hI ?_;intro M' w' a' ha hd;exact hQ M' w' a' ⟨ha.hr,hf1.trans ha.fr,ha.sr,ha.sz.trans (rA _ _ _)⟩ (hd.trans (put_defers _ _ _))
  .simp at h
theorem zh{m i:Nat}:nD m i=true↔tb m i:=by
 unfold nD tb;rw[Nat.testBit_eq_decide_div_mod_eq];have:Nat.mod (Nat.shiftRight m i) 2=m/2^i%2:=by
  show(m >>> i)%2=_;rw[Nat.shiftRight_eq_div_pow]
 rw[this];simp
theorem iS{i:Nat}:¬tb 0 i:=by unfold tb;simp
theorem xP{a b:Nat}(h:Nat.beq (Nat.land a b) 0=true)(i:Nat)(ha:tb a i):¬tb b i:=by
 intro hb;have h:a &&& b=0:=XT h;have:(a &&& b).testBit i=true:=by rw[Nat.testBit_and];simp[show a.testBit i=true from ha,show b.testBit i=true from hb]
 rw[h] at this;simp at this
theorem Hi{n:Nat}:∀{l:List Nat},pI n l=true↔n∈l
 |[]=>by simp[pI]
 |m::l=>by
  have e:pI n (m::l)=bif Nat.beq n m then true else pI n l:=rfl;rw[e];cases hb:Nat.beq n m
  .have:n≠m:=fun h=>by rw[h] at hb;simp at hb
   simp[Hi (l:=l),this]
  .have:=XT hb;simp[this]
theorem Cz{bs:List Nat}{j:Nat}:∀{l:List Edge},tb (ny bs l) j->∃e∈l,Region.binds .any e=true/\(j=e.on\/tb ((nth bs e.on).getD 0) j)
 |[],h=>absurd h iS
 |e::l,h=>by
  have h:tb (bif Region.binds .any e then Nat.lor (Nat.lor (fM e.on) ((nth bs e.on).getD 0)) (ny bs l) else ny bs l) j:=h;cases hb:Region.binds .any e
  .rw[hb] at h;obtain⟨e',h1,h2⟩:=Cz (l:=l) h;exact⟨e',ZK _ h1,h2⟩
  .rw[hb] at h;rcases aM.1 h with h|h
   .rcases aM.1 h with h|h
    .exact⟨e,zag ..,hb,.inl (cn.1 h)⟩
    .exact⟨e,zag ..,hb,.inr h⟩
   .obtain⟨e',h1,h2⟩:=Cz (l:=l) h;exact⟨e',ZK _ h1,h2⟩
theorem C5:∀{l:List Oper} {bs:List Nat} {i:Nat},i<bs.length->(jA l bs)[i]?=bs[i]?
 |[],_,_,_=>rfl
 |o::l,bs,i,h=>by
  have e:jA (o::l) bs=jA l (app bs [ny bs o.after.toList]):=rfl;rw[e,jd,C5 (by simp;omega),XV h]
theorem Kk:∀{l:List Oper} {bs:List Nat} {k:Nat} {o:Oper},l[k]?=some o →
  ∃m,(jA l bs)[bs.length+k]?=some m/\∀j,tb m j->∃e∈o.after.toList,Region.binds .any e=true/\(j=e.on\/tb (((jA l bs)[e.on]?).getD 0) j)
 |[],_,_,_,h=>by simp at h
 |o'::l,bs,0,o,h=>by
  simp at h;subst h;have e:jA (o'::l) bs=jA l (bs++[ny bs o'.after.toList]):=by rw[<-jd];rfl
  refine⟨ny bs o'.after.toList,?_,fun j hj=>?_⟩
  .rw[e,C5 (by simp)];simp
  .obtain⟨ed,h1,h2,h3⟩:=Cz hj;refine⟨ed,h1,h2,?_⟩;rcases h3 with h3|h3
   .exact .inl h3
   .refine .inr ?_;rw[iV] at h3;by_cases hlt:ed.on<bs.length
    .rw[e,C5 (by simp;omega),XV hlt];exact h3
    .rw[Yi (by omega)] at h3;exact absurd h3 iS
 |o'::l,bs,k+1,o,h=>by
  have e:jA (o'::l) bs=jA l (bs++[ny bs o'.after.toList]):=by rw[<-jd];rfl
  obtain⟨m,h1,h2⟩:=Kk (l:=l) (bs:=bs++[ny bs o'.after.toList]) (k:=k) (o:=o) (by simpa using h);refine⟨m,?_,?_⟩
  .rw[e,<-h1];congr 1;simp;omega
  .rw[e];exact h2
theorem Gh{ops:Array Oper}{o:Oper}{m:Nat}:∀{l:List Oper} {j:Nat},xg ops o m j l=true->∀k x,l[k]?=some x->tb m (j+k)\/ph ops x o=true
 |[],_,_,k,x,h=>by simp at h
 |y::l,j,h,k,x,hk=>by
  have h:((nD m j||ph ops y o)&&xg ops o m (Nat.add j 1) l)=true:=h;rw[XQ,YO] at h
  cases k with
  |zero=>
   simp at hk;subst hk;rcases h.1 with h|h
   .exact .inl (zh.1 h)
   .exact .inr h
  |succ k=>
   have:=Gh h.2 k x (by simpa using hk);rw[show Nat.add j 1+k=j+(k+1) by show j+1+k=_;omega] at this;exact this
theorem Cy{i:Nat}:∀{l:List Edge},vt i l=true->∀e∈l,Region.binds .any e=true->e.on<i
 |[],_,e,h,_=>by simp at h
 |x::l,h,e,he,hb=>by
  have h:(bif Region.binds .any x then Nat.blt x.on i&&vt i l else vt i l)=true:=h;rcases X9.1 he with rfl|he
  .rw[hb] at h;simp only[cond_true,XQ] at h;exact jz.1 h.1
  .cases hx:Region.binds .any x
   .rw[hx] at h;exact Cy h e he hb
   .rw[hx] at h;simp only[cond_true,XQ] at h;exact Cy h.2 e he hb
theorem yy{ops:Array Oper}{bs:List Nat}:∀{l pre:List Oper} {i:Nat},yz ops bs i pre l=true->i=pre.length->∀k o,l[k]?=some o →
  (∀e∈o.after.toList,Region.binds .any e=true->e.on<i+k)/\∀j x,j<i+k->(pre++l)[j]?=some x->tb ((bs[i+k]?).getD 0) j\/ph ops x o=true
 |[],_,_,_,_,k,o,h=>by simp at h
 |y::l,pre,i,h,hi,k,o,hk=>by
  have h:(vt i y.after.toList&&xg ops y ((nth bs i).getD 0) 0 pre&&yz ops bs (Nat.add i 1) (app pre [y]) l)=true:=h;rw[XQ,XQ] at h;obtain⟨⟨h1,h2⟩,h3⟩:=h
  cases k with
  |zero=>
   simp at hk;subst hk;refine⟨fun e he hb=>Cy h1 e he hb,fun j x hj hx=>?_⟩;rw[XV (by omega)] at hx;have:=Gh h2 j x hx;rw[iV] at this;simpa using this
  |succ k=>
   rw[jd] at h3;obtain⟨g1,g2⟩:=yy h3 (by simp[hi]) k o (by simpa using hk);have e1:Nat.add i 1+k=i+(k+1):=by show i+1+k=_;omega
   rw[e1] at g1 g2;exact⟨g1,fun j x hj hx=>g2 j x hj (by simpa using hx)⟩
theorem Nx{ops:Array Oper}{x y:Oper}(h:ph ops x y=true) :
  (∀d,x.dst=some d->d ∉ y.looksAt ops)/\(∀d,x.dst=some d->y.dst≠some d)/\(∀d,y.dst=some d->d ∉ x.looksAt ops):=by
 unfold ph at h;rw[XQ] at h;obtain⟨h1,h2⟩:=h;have nm:∀{d:Nat} {l:List Nat},(!(pI d l))=true->d ∉ l:=fun {d l} h hm=>by rw[Hi.2 hm] at h;simp at h
 refine⟨fun d hd=>?_,fun d hd hd'=>?_,fun d hd=>?_⟩
 .rw[hd] at h1;simp only[XQ] at h1;exact nm h1.1
 .rw[hd,hd'] at h1;simp only[XQ] at h1;have:=h1.2;rw[show Nat.beq d d=true from Nat.beq_refl d] at this;simp at this
 .rw[hd] at h2;exact nm h2
theorem Hj{m t w:Nat}:∀{l:List (Nat×Nat×Nat)},uz m t w l=true->∀p∈l,tb m p.1\/((∀b,tb t b->¬tb p.2.2 b)/\∀b,tb w b->¬tb p.2.1 b)
 |[],_,p,h=>by simp at h
 |q::l,h,p,hp=>by
  have h:((nD m q.1||(Nat.beq (Nat.land t q.2.2) 0&&Nat.beq (Nat.land w q.2.1) 0))&&uz m t w l)=true:=h;rw[XQ,YO,XQ] at h;rcases X9.1 hp with rfl|hp
  .rcases h.1 with h|h
   .exact .inl (zh.1 h)
   .exact .inr ⟨xP h.1,xP h.2⟩
  .exact Hj h.2 p hp
abbrev St:=Tr CV×Tr Bk×Nat
def hs(x:St):HS:=⟨x.2.1,x.2.2,0,0⟩
structure Du(O:dI)(ih:Rec)(ops:List Oper)(bs:List Nat)(d:List Nat)(i:Nat)(l:List Oper)(acc:List (Nat×Nat×Nat))(t:Tr CV)(S:HS)(t':Tr CV)(S':HS)(X:Nat->St)(tm mm:Nat->Nat):Prop where
 x0:X i=(t,S.h,S.c)
 x1:X (i+l.length)=(t',S'.h,S'.c)
 step:∀k o,l[k]?=some o->nu O ih ops o ⟨(X (i+k)).1,d,hs (X (i+k))⟩=some ⟨(X (i+k+1)).1,d,⟨(X (i+k+1)).2.1,(X (i+k+1)).2.2,tm (i+k),mm (i+k)⟩⟩
 wM:∀b,tb S'.tm b↔tb S.tm b \/ ∃k,k<l.length/\tb (tm (i+k)) b
 uv:∀b,tb S'.mm b↔tb S.mm b \/ ∃k,k<l.length/\tb (mm (i+k)) b
 acc:∀k p,k<l.length->p∈acc->tb ((bs[i+k]?).getD 0) p.1\/((∀b,tb (tm (i+k)) b->¬tb p.2.2 b)/\∀b,tb (mm (i+k)) b->¬tb p.2.1 b)
 pw:∀k k',k'<k->k<l.length->tb ((bs[i+k]?).getD 0) (i+k')\/((∀b,tb (tm (i+k)) b->¬tb (mm (i+k')) b)/\∀b,tb (mm (i+k)) b->¬tb (tm (i+k')) b)
theorem Cv{O:dI}{ih:Rec}(hO:iO O)(hi:iq ih)(hS:j4 O ih){ops:Array Oper}{bs:List Nat}:∀{l:List Oper} {i:Nat} {acc:List (Nat×Nat×Nat)} {ta wa:Nat} {t t':Tr CV} {d d':List Nat} {S S':HS},
  (∀p∈acc,(∀b,tb p.2.1 b->tb ta b)/\∀b,tb p.2.2 b->tb wa b)->vm O ih ops.toList bs i l acc ta wa ⟨t,d,S⟩=some ⟨t',d',S'⟩->d'=d/\∃X tm mm,Du O ih ops.toList bs d i l acc t S t' S' X tm mm
 |[],i,acc,ta,wa,t,t',d,d',S,S',_,h=>by
  have h:some (FS.mk t d S)=some ⟨t',d',S'⟩:=h;cases h;exact⟨rfl,fun _=>(t,S.h,S.c),fun _=>0,fun _=>0,⟨rfl,rfl,fun k o hk=>by simp at hk,fun b=>by simp,fun b=>by simp,fun k p hk=>by simp at hk,fun k k' _ hk=>by simp at hk⟩⟩
 |o::l,i,acc,ta,wa,t,t',d,d',⟨h0,c0,tm0,mm0⟩,S',hacc,h=>by
  have h2:(match nu O ih ops.toList o ⟨t,d,⟨h0,c0,0,0⟩⟩ with
   |some ⟨t,d,⟨h,c,t',w'⟩⟩=>fN (Nat.add i 1) fun i'=>
    bif Nat.beq t' 0&&Nat.beq w' 0 then vm O ih ops.toList bs i' l acc ta wa ⟨t,d,⟨h,c,tm0,mm0⟩⟩ else
    bif (Nat.beq (Nat.land t' wa) 0&&Nat.beq (Nat.land w' ta) 0)||uz ((nth bs i).getD 0) t' w' acc then
     fN (Nat.lor tm0 t') fun tm=>fN (Nat.lor mm0 w') fun mm=>fN (Nat.lor ta t') fun ta=>fN (Nat.lor wa w') fun wa=>vm O ih ops.toList bs i' l ((i,t',w')::acc) ta wa ⟨t,d,⟨h,c,tm,mm⟩⟩
    else none
   |none=>none)=some ⟨t',d',S'⟩:=h
  split at h2
  .rename_i t1 d1 h1 c1 tk wk he;have hd1:d1=d:=(oL hS hO hi he).1;subst hd1;simp only[cd] at h2;have fin:∀(acc':List (Nat×Nat×Nat)) (tm1 mm1:Nat),(∀p∈acc,p∈acc') →
     (∀p∈acc,tb ((bs[i]?).getD 0) p.1\/((∀b,tb tk b->¬tb p.2.2 b)/\∀b,tb wk b->¬tb p.2.1 b)) →
     ((i,tk,wk)∈acc'\/(tk=0/\wk=0))->(∀b,tb tm1 b↔tb tm0 b\/tb tk b)->(∀b,tb mm1 b↔tb mm0 b\/tb wk b) →
     (∃X tm mm,Du O ih ops.toList bs d1 (i+1) l acc' t1 ⟨h1,c1,tm1,mm1⟩ t' S' X tm mm)->∃X tm mm,Du O ih ops.toList bs d1 i (o::l) acc t ⟨h0,c0,tm0,mm0⟩ t' S' X tm mm:=by
    rintro acc' tm1 mm1 hsub hnow hin htm hmm ⟨X,tm,mm,hT⟩;have hne:∀k,i+1+k≠i:=fun k=>by omega
    have e2:∀k,i+(k+1)=i+1+k:=fun k=>by omega
    have b0:∀{α:Type} (x:α) (y:Nat->α) (k:Nat),(if i+(k+1)=i then x else y (i+(k+1)))=y (i+1+k):=fun x y k=>by
     rw[e2 k,if_neg (hne k)]
    have bi:∀{α:Type} (x:α) (y:Nat->α),(if i+0=i then x else y (i+0))=x:=fun x y=>by
     rw[if_pos (Yl i)]
    refine⟨fun k=>if k=i then(t,h0,c0) else X k,fun k=>if k=i then tk else tm k,fun k=>if k=i then wk else mm k,⟨?_,?_,?_,?_,?_,?_,?_⟩⟩
    .exact if_pos rfl
    .exact(b0 (t,h0,c0) X l.length).trans hT.x1
    .intro k o' hk
     cases k with
     |zero=>
      simp at hk;subst hk;have hx:X (i+1)=(t1,h1,c1):=hT.x0;have q1:(if i+0+1=i then(t,h0,c0) else X (i+0+1))=(t1,h1,c1):=(b0 (t,h0,c0) X 0).trans hx;rw[bi (t,h0,c0) X,q1,bi tk tm,bi wk mm];exact he
     |succ k=>
      have q1:(if i+(k+1)+1=i then(t,h0,c0) else X (i+(k+1)+1))=X (i+1+k+1):=b0 (t,h0,c0) X (k+1);rw[q1,b0 (t,h0,c0) X k,b0 tk tm k,b0 wk mm k];exact hT.step k o' (by simpa using hk)
    .intro b;rw[hT.wM b];show(tb tm1 b\/_)↔(tb tm0 b\/_);rw[htm b];constructor
     .rintro((h|h)|⟨k,h1,h2⟩)
      .exact .inl h
      .exact .inr ⟨0,by simp,by rw[bi tk tm];exact h⟩
      .exact .inr ⟨k+1,by simpa using h1,by rw[b0 tk tm k];exact h2⟩
     .rintro(h|⟨k,h1,h2⟩)
      .exact .inl (.inl h)
      .cases k with
       |zero=>rw[bi tk tm] at h2;exact .inl (.inr h2)
       |succ k=>rw[b0 tk tm k] at h2;exact .inr ⟨k,by simpa using h1,h2⟩
    .intro b;rw[hT.uv b];show(tb mm1 b\/_)↔(tb mm0 b\/_);rw[hmm b];constructor
     .rintro((h|h)|⟨k,h1,h2⟩)
      .exact .inl h
      .exact .inr ⟨0,by simp,by rw[bi wk mm];exact h⟩
      .exact .inr ⟨k+1,by simpa using h1,by rw[b0 wk mm k];exact h2⟩
     .rintro(h|⟨k,h1,h2⟩)
      .exact .inl (.inl h)
      .cases k with
       |zero=>rw[bi wk mm] at h2;exact .inl (.inr h2)
       |succ k=>rw[b0 wk mm k] at h2;exact .inr ⟨k,by simpa using h1,h2⟩
    .intro k p hk hp
     cases k with
     |zero=>rw[bi tk tm,bi wk mm];exact hnow p hp
     |succ k=>
      rw[b0 tk tm k,b0 wk mm k,e2 k];exact hT.acc k p (by simpa using hk) (hsub p hp)
    .intro k k' hkk hk
     cases k with
     |zero=>omega
     |succ k=>
      cases k' with
      |zero=>
       rw[b0 tk tm k,b0 wk mm k,bi tk tm,bi wk mm,e2 k];rcases hin with hin|⟨rfl,rfl⟩
       .exact hT.acc k _ (by simpa using hk) hin
       .exact .inr ⟨fun b _=>iS,fun b _=>iS⟩
      |succ k'=>
       rw[b0 tk tm k,b0 wk mm k,b0 tk tm k',b0 wk mm k',e2 k,e2 k'];exact hT.pw k k' (by omega) (by simpa using hk)
   cases hz:(Nat.beq tk 0&&Nat.beq wk 0)
   .rw[hz] at h2;simp only[cond_false] at h2;cases hm:((Nat.beq (Nat.land tk wa) 0&&Nat.beq (Nat.land wk ta) 0)||uz ((nth bs i).getD 0) tk wk acc)
    .rw[hm] at h2;simp at h2
    .rw[hm] at h2;simp only[cond_true] at h2;obtain⟨e1,hX⟩:=Cv hO hi hS (l:=l) (acc:=(i,tk,wk)::acc) (fun p hp=>by
      rcases X9.1 hp with rfl|hp
      .exact⟨fun b h=>aM.2 (.inr h),fun b h=>aM.2 (.inr h)⟩
      .exact⟨fun b h=>aM.2 (.inl ((hacc p hp).1 b h)),fun b h=>aM.2 (.inl ((hacc p hp).2 b h))⟩) h2
     refine⟨e1,fin _ _ _ (fun p hp=>ZK _ hp) (fun p hp=>?_) (.inl (zag ..)) (fun b=>aM) (fun b=>aM) hX⟩;rcases YO _ _ |>.mp hm with hm|hm
     .rw[XQ] at hm;exact .inr ⟨fun b hb hb'=>xP hm.1 b hb ((hacc p hp).2 b hb'),fun b hb hb'=>xP hm.2 b hb ((hacc p hp).1 b hb')⟩
     .have:=Hj hm p hp;rw[iV] at this;exact this
   .rw[hz] at h2;simp only[cond_true] at h2;rw[XQ] at hz;have z1:=XT hz.1;have z2:=XT hz.2;subst z1;subst z2;obtain⟨e1,hX⟩:=Cv hO hi hS (l:=l) hacc h2;exact⟨e1,fin _ _ _ (fun p hp=>hp) (fun p hp=>.inr ⟨fun b h=>absurd h iS,fun b h=>absurd h iS⟩) (.inr ⟨rfl,rfl⟩) (fun b=>by simp[iS]) (fun b=>by simp[iS]) hX⟩
  .simp at h2
noncomputable def Gd(X:Nat->St)(mm:Nat->Nat)(L:Nat->Bool):Nat->Nat->Option Bk
 |0,b=>(X 0).2.1.get b
 |k+1,b=>if L k=true/\(mm k).testBit b=true then(X (k+1)).2.1.get b else Gd X mm L k b
noncomputable def Sd(X:Nat->St)(ds:Nat->Option Tmp)(L:Nat->Bool):Nat->Nat->Option CV
 |0,s=>(X 0).1.get s
 |k+1,s=>if L k=true/\ds k=some s then(X (k+1)).1.get s else Sd X ds L k s
section
variable {X:Nat->St}{tm mm:Nat->Nat}{ds:Nat->Option Tmp}{lk:Nat->List Nat}{ord:Nat->Nat->Prop}{n:Nat}{L:Nat->Bool}{i:Nat}
theorem Xl(ia:∀j i,j<i->i<n->ord j i\/((∀b,tb (tm i) b->¬tb (mm j) b)/\∀b,tb (mm i) b->¬tb (tm j) b))(hdc:∀i j,L i=true->ord j i->L j=true)(hi:i<n)(hL:L i=false)
  {b:Nat} (hb:tb (tm i) b) {k k':Nat} (hk:i<=k) (hkk:k<=k') (hkn:k'<=n):Gd X mm L k' b=Gd X mm L k b:=by
 induction k' with
 |zero=>
      have:k=0:=by omega
      subst this;rfl
 |succ m ih=>
  by_cases he:k=m+1
  .rw[he]
  .have hne:¬(L m=true/\(mm m).testBit b=true):=by
    rintro⟨h1,h2⟩;have hmi:m≠i:=fun e=>by rw[e,hL] at h1;simp at h1
    rcases ia i m (by omega) (by omega) with ho|⟨_,ho⟩
    .have:=hdc m i h1 ho;rw[hL] at this;simp at this
    .exact ho b h2 hb
   simp only[Gd,if_neg hne];exact ih (by omega) (by omega)
theorem Xm(ia:∀j i,j<i->i<n->ord j i\/((∀b,tb (tm i) b->¬tb (mm j) b)/\∀b,tb (mm i) b->¬tb (tm j) b))(hdc:∀i j,L i=true->ord j i->L j=true)(hi:i<n)(hL:L i=false)(hpre:∀j,ord j i->L j=true)
  {b:Nat} (hsame:∀k,k<n->¬tb (mm k) b->(X (k+1)).2.1.get b=(X k).2.1.get b) (hb:tb (tm i) b):Gd X mm L n b=(X i).2.1.get b:=by
 rw[Xl ia hdc hi hL hb (XP i) (by omega) (XP n)];have:∀k,k<=i->Gd X mm L k b=(X k).2.1.get b:=by
  intro k
  induction k with
  |zero=>intro _;rfl
  |succ k ih=>
   intro hk;by_cases hm:tb (mm k) b
   .have hLk:L k=true:=by
     rcases ia k i (by omega) hi with ho|⟨ho,_⟩
     .exact hpre k ho
     .exact absurd hm (ho b hb)
    have:L k=true/\(mm k).testBit b=true:=⟨hLk,hm⟩;simp only[Gd,if_pos this]
   .have:¬(L k=true/\(mm k).testBit b=true):=fun h=>hm h.2;simp only[Gd,if_neg this];rw[ih (by omega),hsame k (by omega) hm]
 exact this i (XP i)
theorem Xn(ia:∀j i,j<i->i<n->ord j i\/((∀b,tb (tm i) b->¬tb (mm j) b)/\∀b,tb (mm i) b->¬tb (tm j) b))(hdc:∀i j,L i=true->ord j i->L j=true)(hi:i<n)(hL:L i=false)
  {L':Nat->Bool} (hL':L' i=true) (hne:∀k,k≠i->L' k=L k) (b:Nat) (hmt:tb (mm i) b->tb (tm i) b):(tb (mm i) b->Gd X mm L' n b=(X (i+1)).2.1.get b)/\(¬tb (mm i) b->Gd X mm L' n b=Gd X mm L n b):=by
 constructor
 .intro hm;have hb:=hmt hm;have:∀k',i+1<=k'->k'<=n->Gd X mm L' k' b=(X (i+1)).2.1.get b:=by
   intro k'
   induction k' with
   |zero=>intro h;omega
   |succ m ih=>
    intro h1 h2;by_cases he:m=i
    .subst he;simp only[Gd,if_pos (show L' m=true/\(mm m).testBit b=true from⟨hL',hm⟩)]
    .have hno:¬(L' m=true/\(mm m).testBit b=true):=by
      rintro⟨g1,g2⟩;rw[hne m he] at g1;rcases ia i m (by omega) (by omega) with ho|⟨_,ho⟩
      .have:=hdc m i g1 ho;rw[hL] at this;simp at this
      .exact ho b g2 hb
     simp only[Gd,if_neg hno];exact ih (by omega) (by omega)
  exact this n (by omega) (XP n)
 .intro hm;have:∀k,Gd X mm L' k b=Gd X mm L k b:=by
   intro k
   induction k with
   |zero=>rfl
   |succ k ih=>
    by_cases he:k=i
    .subst he;have n1:¬(L' k=true/\(mm k).testBit b=true):=fun h=>hm h.2;have n2:¬(L k=true/\(mm k).testBit b=true):=fun h=>hm h.2;simp only[Gd,if_neg n1,if_neg n2,ih]
    .simp only[Gd,hne k he,ih]
  exact this n
theorem Xo{b:Nat}(hall:∀k,k<n->L k=true)(hsame:∀k,k<n->¬tb (mm k) b->(X (k+1)).2.1.get b=(X k).2.1.get b):∀k,k<=n->Gd X mm L k b=(X k).2.1.get b:=by
 intro k
 induction k with
 |zero=>intro _;rfl
 |succ k ih=>
  intro hk;by_cases hm:tb (mm k) b
  .simp only[Gd,if_pos (show L k=true/\(mm k).testBit b=true from⟨hall k (by omega),hm⟩)]
  .simp only[Gd,if_neg (show ¬(L k=true/\(mm k).testBit b=true) from fun h=>hm h.2)];rw[ih (by omega),hsame k (by omega) hm]
theorem WE(ia:∀j i,j<i->i<n->ord j i\/((∀d,ds j=some d->d ∉ lk i)/\(∀d,ds j=some d->ds i≠some d)/\∀d,ds i=some d->d ∉ lk j))(hdc:∀i j,L i=true->ord j i->L j=true)(hi:i<n)(hL:L i=false)(hpre:∀j,ord j i->L j=true)
  {s:Nat} (hsame:∀k,k<n->ds k≠some s->(X (k+1)).1.get s=(X k).1.get s) (hs:s∈lk i):Sd X ds L n s=(X i).1.get s:=by
 have h1:∀k,i<=k->k<=n->Sd X ds L k s=Sd X ds L i s:=by
  intro k
  induction k with
  |zero=>
       intro h _;have:i=0:=by omega
       rw[this]
  |succ m ih=>
   intro h1 h2;by_cases he:i=m+1
   .rw[he]
   .have hno:¬(L m=true/\ds m=some s):=by
     rintro⟨g1,g2⟩;have hmi:m≠i:=fun e=>by rw[e,hL] at g1;simp at g1
     rcases ia i m (by omega) (by omega) with ho|⟨_,_,ho⟩
     .have:=hdc m i g1 ho;rw[hL] at this;simp at this
     .exact ho s g2 hs
    simp only[Sd,if_neg hno];exact ih (by omega) (by omega)
 rw[h1 n (by omega) (XP n)];have:∀k,k<=i->Sd X ds L k s=(X k).1.get s:=by
  intro k
  induction k with
  |zero=>intro _;rfl
  |succ k ih=>
   intro hk;by_cases hm:ds k=some s
   .have hLk:L k=true:=by
     rcases ia k i (by omega) hi with ho|⟨ho,_⟩
     .exact hpre k ho
     .exact absurd hs (ho s hm)
    simp only[Sd,if_pos (show L k=true/\ds k=some s from⟨hLk,hm⟩)]
   .simp only[Sd,if_neg (show ¬(L k=true/\ds k=some s) from fun h=>hm h.2)];rw[ih (by omega),hsame k (by omega) hm]
 exact this i (XP i)
theorem WG(ia:∀j i,j<i->i<n->ord j i\/((∀d,ds j=some d->d ∉ lk i)/\(∀d,ds j=some d->ds i≠some d)/\∀d,ds i=some d->d ∉ lk j))(hdc:∀i j,L i=true->ord j i->L j=true)(hi:i<n)(hL:L i=false)
  {L':Nat->Bool} (hL':L' i=true) (hne:∀k,k≠i->L' k=L k) (s:Nat):(ds i=some s->Sd X ds L' n s=(X (i+1)).1.get s)/\(ds i≠some s->Sd X ds L' n s=Sd X ds L n s):=by
 constructor
 .intro hm;have:∀k',i+1<=k'->k'<=n->Sd X ds L' k' s=(X (i+1)).1.get s:=by
   intro k'
   induction k' with
   |zero=>intro h;omega
   |succ m ih=>
    intro h1 h2;by_cases he:m=i
    .subst he;simp only[Sd,if_pos (show L' m=true/\ds m=some s from⟨hL',hm⟩)]
    .have hno:¬(L' m=true/\ds m=some s):=by
      rintro⟨g1,g2⟩;rw[hne m he] at g1;rcases ia i m (by omega) (by omega) with ho|⟨_,ho,_⟩
      .have:=hdc m i g1 ho;rw[hL] at this;simp at this
      .exact ho s hm g2
     simp only[Sd,if_neg hno];exact ih (by omega) (by omega)
  exact this n (by omega) (XP n)
 .intro hm;have:∀k,Sd X ds L' k s=Sd X ds L k s:=by
   intro k
   induction k with
   |zero=>rfl
   |succ k ih=>
    by_cases he:k=i
    .subst he;have n1:¬(L' k=true/\ds k=some s):=fun h=>hm h.2;have n2:¬(L k=true/\ds k=some s):=fun h=>hm h.2;simp only[Sd,if_neg n1,if_neg n2,ih]
    .simp only[Sd,hne k he,ih]
  exact this n
theorem WH{s:Nat}(hall:∀k,k<n->L k=true)(hsame:∀k,k<n->ds k≠some s->(X (k+1)).1.get s=(X k).1.get s):∀k,k<=n->Sd X ds L k s=(X k).1.get s:=by
 intro k
 induction k with
 |zero=>intro _;rfl
 |succ k ih=>
  intro hk;by_cases hm:ds k=some s
  .simp only[Sd,if_pos (show L k=true/\ds k=some s from⟨hall k (by omega),hm⟩)]
  .simp only[Sd,if_neg (show ¬(L k=true/\ds k=some s) from fun h=>hm h.2)];rw[ih (by omega),hsame k (by omega) hm]
end
def qK(L:Nat->Bool)(l:List Nat):Nat:=(l.filter fun i=>!L i).length
theorem Em{L L':Nat->Bool}{i:Nat}(h:L i=false)(h':L' i=true)(hne:∀k,k≠i->L' k=L k):∀{l:List Nat},qK L' l<=qK L l/\(i∈l->qK L' l<qK L l)
 |[]=>⟨XP _,fun h=>by simp at h⟩
 |k::l=>by
  obtain⟨g1,g2⟩:=Em h h' hne (l:=l);unfold qK at *;by_cases he:k=i
  .subst he;simp only[List.filter_cons,h,h',zaL,Bool.not_false,if_true,X8,if_false,X6];exact⟨by omega,fun _=>by omega⟩
  .simp only[List.filter_cons,hne k he];refine⟨?_,fun hm=>?_⟩
   .split <;> (try simp only[X6]) <;> omega
   .have:=g2 (by rcases X9.1 hm with e|e;exact absurd e.symm he;exact e);split <;> (try simp only[X6]) <;> omega
theorem Fv.congr{N mm:Nat->Prop}{M M':Mp}{G G1 G2:Nat->Option Bk}{w w':World}(h:Fv N mm M G w M' G1 w')(he:∀i,i<aR->G1 i=G2 i):Fv N mm M G w M' G2 w':=by
 refine⟨h.ext,h.bI,h.size,h.os,h.tape,h.output,h.kh,h.kP,?_,fun i b hl hb hd=>h.back i b hl (by rw[he i hl];exact hb) hd,fun i hl hi=>by rw[<-he i hl];exact h.same i hl hi⟩;intro i hd hn;obtain⟨a1,a2,a3⟩:=h.g8 i hd hn;refine⟨a1,a2,?_⟩;rcases a3 with a3|⟨j,b,cl,c1,c2,c3,c4,c5⟩
 .exact .inl a3
 .exact .inr ⟨j,b,cl,c1,c2,c3,by rw[<-he j cl];exact c4,c5⟩
structure jf(O:dI)(ih:Rec)(ops:Array Oper)(d:List Nat)(X:Nat->St)(tm mm:Nat->Nat)(ord:Nat->Nat->Prop)(T:Nat->Prop)(MM:Nat->Prop)(N0:Nat):Prop where
 step:∀k o,ops[k]?=some o->nu O ih ops.toList o ⟨(X k).1,d,hs (X k)⟩=some ⟨(X (k+1)).1,d,⟨(X (k+1)).2.1,(X (k+1)).2.2,tm k,mm k⟩⟩
 Uw:∀k o,ops[k]?=some o->∀e∈o.after.toList,Region.binds .any e=true->e.on<k
 PD:∀k o,ops[k]?=some o->∀j,ord j k->∃e∈o.after.toList,Region.binds .any e=true/\(j=e.on\/ord j e.on)
 XF:∀k j,ord j k->k<ops.size
 pw:∀j i,j<i->i<ops.size->ord j i\/((∀b,tb (tm i) b->¬tb (mm j) b)/\∀b,tb (mm i) b->¬tb (tm j) b)
 sl:∀j i x y,j<i->ops[j]?=some x->ops[i]?=some y->ord j i\/ph ops x y=true
 tJ:∀k,k<ops.size->∀b,tb (tm k) b->T b
 Ro:∀k,k<ops.size->∀b,tb (mm k) b->MM b
 aR:∀b,T b->b<aR
 n0:N0<=Ev.aR
 r0:rm (X 0).1 N0
section
variable {O:dI}{ih:Rec}{ops:Array Oper}{d:List Nat}{X:Nat->St}{tm mm:Nat->Nat}{ord:Nat->Nat->Prop}{T MM:Nat->Prop}{N0:Nat}
theorem jf.mn(h:jf O ih ops d X tm mm ord T MM N0)(hS:j4 O ih)(hO:iO O)(hi:iq ih){k:Nat}(hk:k<ops.size):Mn (hs (X k)) ⟨(X (k+1)).2.1,(X (k+1)).2.2,tm k,mm k⟩:=
 (oL hS hO hi (h.step k ops[k] (Yd hk))).2.1
theorem jf.mt(h:jf O ih ops d X tm mm ord T MM N0)(hS:j4 O ih)(hO:iO O)(hi:iq ih){k:Nat}(hk:k<ops.size){b:Nat}(hb:tb (mm k) b):tb (tm k) b:=by
 rcases(h.mn hS hO hi hk).mt b hb with h|h
 .exact absurd h iS
 .exact h
theorem jf.cm(h:jf O ih ops d X tm mm ord T MM N0)(hS:j4 O ih)(hO:iO O)(hi:iq ih):∀{k k':Nat},k<=k'->k'<=ops.size->(X k).2.2<=(X k').2.2:=by
 intro k k'
 induction k' with
 |zero=>
      intro h1 _;have:k=0:=by omega
      rw[this];exact XP _
 |succ m ihm=>
  intro h1 h2;by_cases he:k=m+1
  .rw[he];exact XP _
  .exact XY (ihm (by omega) (by omega)) (h.mn hS hO hi (k:=m) (by omega)).c
theorem jf.AG(h:jf O ih ops d X tm mm ord T MM N0)(hS:j4 O ih)(hO:iO O)(hi:iq ih):∀{k:Nat},k<=ops.size->rm (X k).1 N0:=by
 intro k
 induction k with
 |zero=>intro _;exact h.r0
 |succ m ihm=>
  intro h2;obtain⟨_,_,v,hv,_⟩:=oL hS hO hi (h.step m ops[m] (Yd (by omega)));rw[hv];exact w7 (ihm (by omega)) _ _
theorem jf.Fb(h:jf O ih ops d X tm mm ord T MM N0)(hS:j4 O ih)(hO:iO O)(hi:iq ih){b:Nat}(hb:b<Ev.aR){k:Nat}(hk:k<ops.size)(hm:¬tb (mm k) b):(X (k+1)).2.1.get b=(X k).2.1.get b:=by
 refine(h.mn hS hO hi hk).same b fun i hi' he=>hm ?_;have:=kH (h.aR i (h.tJ k hk i (h.mt hS hO hi hk hi'))) hb he;rw[<-this];exact hi'
theorem jf.Fa(h:jf O ih ops d X tm mm ord T MM N0)(hS:j4 O ih)(hO:iO O)(hi:iq ih){s:Nat}{k:Nat}(hk:k<ops.size)(hm:(ops[k]?).bind (·.dst)≠some s):(X (k+1)).1.get s=(X k).1.get s:=by
 obtain⟨_,_,v,hv,_⟩:=oL hS hO hi (h.step k ops[k] (Yd hk));rw[hv];have hm:ops[k].dst≠some s:=by simpa[Yd hk] using hm
 cases hd:ops[k].dst with
 |none=>rfl
 |some d'=>exact F8 (h.AG hS hO hi (by omega)) h.n0 _ (fun e=>hm (by rw[hd,e]))
theorem VQ(h:jf O ih ops d X tm mm ord T MM N0){listed:Array Bool}(hsz:listed.size=ops.size)(hr:Region.ready .any ops listed=[]):∀i,i<ops.size->listed.getD i false=true:=by
 intro i
 induction i using Nat.strongRecOn with
 |_ i ihs=>
  intro hi
  cases hl:listed.getD i false with
  |true=>rfl
  |false=>
   have:i∈Region.ready .any ops listed:=by
    rw[mem_ready];refine⟨?_,ops[i],Yd hi,fun e he hb=>?_⟩
    .simp[hsz,hi] at hl ⊢;exact hl
    .have hlt:=h.Uw i ops[i] (Yd hi) e (by simpa using he) hb;exact ihs e.on hlt (by omega)
   rw[hr] at this;simp at this
theorem VN(h:jf O ih ops d X tm mm ord T MM N0)(hS:j4 O ih)(hO:iO O)(hi:iq ih){r:Option Nat}{nn:Nat}{Q:Exit->Act->World->Prop}{M0:Mp}{w0:World}{a0:Act}
  (hN0:N0=a0.tmps.size) (hfx:Fx T M0 (X 0).2.2 w0)
  (hQ:∀M w a,Hv T M (fun b=>(X ops.size).2.1.get b) w->Fv (fun k=>(X 0).2.2<=k/\k<(X ops.size).2.2) MM M0 (fun b=>(X 0).2.1.get b) w0 M (fun b=>(X ops.size).2.1.get b) w->sr M w (X ops.size).1 a.tmps->a.tmps.size=a0.tmps.size->a.defers=a0.defers->Q .normal a w) :
  ∀(fuel:Nat) (listed:Array Bool) (a:Act) (w:World) (M:Mp),listed.size=ops.size->qK (fun i=>listed.getD i false) (List.range ops.size)<=fuel →
   (∀i j,listed.getD i false=true->ord j i->listed.getD j false=true) →
   Hv T M (Gd X mm (fun i=>listed.getD i false) ops.size) w->Fv (fun k=>(X 0).2.2<=k/\k<(X ops.size).2.2) MM M0 (fun b=>(X 0).2.1.get b) w0 M (Gd X mm (fun i=>listed.getD i false) ops.size) w →
   (∀s x,Sd X (fun k=>(ops[k]?).bind (·.dst)) (fun i=>listed.getD i false) ops.size s=some x->∃u,a.tmps[s]?=some u/\vr M w x u)->a.tmps.size=a0.tmps.size->a.defers=a0.defers →
   (∀k,M.d k->M0.d k \/ ∃j,j<ops.size/\listed.getD j false=true/\(X j).2.2<=k/\k<(X (j+1)).2.2/\tb (mm j) k) →
   wpAnyIn (Fc r) nn PP .any ops Q fuel listed a w:=by
 have finish:∀(listed:Array Bool) (a:Act) (w:World) (M:Mp),(∀i,i<ops.size->listed.getD i false=true) →
   Hv T M (Gd X mm (fun i=>listed.getD i false) ops.size) w->Fv (fun k=>(X 0).2.2<=k/\k<(X ops.size).2.2) MM M0 (fun b=>(X 0).2.1.get b) w0 M (Gd X mm (fun i=>listed.getD i false) ops.size) w →
   (∀s x,Sd X (fun k=>(ops[k]?).bind (·.dst)) (fun i=>listed.getD i false) ops.size s=some x->∃u,a.tmps[s]?=some u/\vr M w x u)->a.tmps.size=a0.tmps.size->a.defers=a0.defers->Q .normal a w:=by
  intro listed a w M hall hH hF hs hz hdf;have hg:∀b,b<Ev.aR->Gd X mm (fun i=>listed.getD i false) ops.size b=(X ops.size).2.1.get b:=fun b hb=>Xo (fun k hk=>hall k hk) (fun k hk hm=>h.Fb hS hO hi hb hk hm) _ (XP _);refine hQ M w a (hH.less (fun _ h=>h) fun i b hT hb=>?_) (hF.congr fun i hl=>hg i hl) (fun s x hx=>hs s x ?_) hz hdf
  .rw[hg i (h.aR i hT)];exact hb
  .rw[WH (fun k hk=>hall k hk) (fun k hk hm=>h.Fa hS hO hi hk hm) _ (XP _)];exact hx
 intro fuel
 induction fuel with
 |zero=>
  intro listed a w M hsz hun hdc hH hF hs hz hdf hid;have hall:∀i,i<ops.size->listed.getD i false=true:=by
   intro i hi'
   cases hl:listed.getD i false with
   |true=>rfl
   |false=>
    have:i∈(List.range ops.size).filter fun i=>!(listed.getD i false):=List.mem_filter.2 ⟨Y9.2 hi',by rw[hl];rfl⟩;have h0:((List.range ops.size).filter fun i=>!(listed.getD i false)).length=0:=Nat.le_zero.1 hun;rw[ZB.1 h0] at this;simp at this
  refine⟨?_,finish listed a w M hall hH hF hs hz hdf⟩
  cases hr:Region.ready .any ops listed with
  |nil=>rfl
  |cons x xs=>
   have hx:x∈Region.ready .any ops listed:=by rw[hr];simp
   rw[mem_ready] at hx;obtain⟨h1,o,ho,_⟩:=hx;have hlt:=(X4.1 ho).1;have:=hall x hlt;simp[hsz,hlt] at h1 this;rw[h1] at this;simp at this
 |succ fuel ihf=>
  intro listed a w M hsz hun hdc hH hF hs hz hdf hid;refine⟨fun hr=>finish listed a w M (VQ h hsz hr) hH hF hs hz hdf,fun i hri=>?_⟩;rw[mem_ready] at hri;obtain⟨hLt,o,ho,hall⟩:=hri;have hi':i<ops.size:=(X4.1 ho).1;have hL:listed.getD i false=false:=by simp[hsz,hi'] at hLt ⊢;exact hLt
  have hpre:∀j,ord j i->listed.getD j false=true:=by
   intro j hj;obtain⟨e,he,hb,hj⟩:=h.PD i o ho j hj;have hl:=hall e (by simpa using he) hb;rcases hj with rfl|hj
   .exact hl
   .exact hdc e.on j hl hj
  have hpwi:∀j k,j<k->k<ops.size->ord j k\/((∀b,tb (tm k) b->¬tb (mm j) b)/\∀b,tb (mm k) b->¬tb (tm j) b):=fun j k=>h.pw j k;have hsl:∀j k,j<k->k<ops.size->ord j k\/((∀d,(ops[j]?).bind (·.dst)=some d->d ∉ ((ops[k]?).map (·.looksAt ops)).getD [])/\(∀d,(ops[j]?).bind (·.dst)=some d->(ops[k]?).bind (·.dst)≠some d)/\∀d,(ops[k]?).bind (·.dst)=some d->d ∉ ((ops[j]?).map (·.looksAt ops)).getD []):=by
   intro j k hjk hk;have hj:ops[j]?=some ops[j]:=Yd (by omega);have hk':ops[k]?=some ops[k]:=Yd hk;rcases h.sl j k _ _ hjk hj hk' with ho|ho
   .exact .inl ho
   .refine .inr ?_;rw[hj,hk'];exact Nx ho
  have hgn:∀b,tb (tm i) b->Gd X mm (fun i=>listed.getD i false) ops.size b=(X i).2.1.get b:=fun b hb=>
   Xm hpwi hdc hi' hL hpre (fun k hk hm=>h.Fb hS hO hi (h.aR b (h.tJ i hi' b hb)) hk hm) hb
  obtain⟨_,hmn,v,hv,kstep⟩:=oL hS hO hi (h.step i o ho);have hHi:Hr (tb (tm i)) M (Ev.hs (X i)) w:=Hv.hr (hH.less (fun b hb=>h.tJ i hi' b hb) fun b bk hb hg=>by rw[hgn b hb];exact hg);have hFi:Fx (tb (tm i)) M (Ev.hs (X i)).c w:=by
   refine⟨?_,(hfx.fv hF).1,(hfx.fv hF).2⟩;intro k hk hck hd;have hck:(X i).2.2<=k:=hck;rcases hid k hd with hd|⟨j,hj,hLj,hj1,hj2,hj3⟩
   .exact hfx.nw k (h.tJ i hi' k hk) (XY (h.cm hS hO hi (XS _) (by omega)) hck) hd
   .by_cases hji:j<i
    .have:=h.cm hS hO hi (k:=j+1) (k':=i) (by omega) (by omega);omega
    .by_cases hje:j=i
     .subst hje;rw[hL] at hLj;simp at hLj
     .rcases h.pw i j (by omega) hj with ho|⟨_,ho⟩
      .have:=hdc j i hLj ho;rw[hL] at this;simp at this
      .exact ho k hj3 hk
  have hsi:qU (o.looksAt ops) M w (X i).1 a.tmps:=by
   intro s hsin x hx;refine hs s x ?_;rw[WE (lk:=fun k=>((ops[k]?).map (·.looksAt ops)).getD []) hsl hdc hi' hL hpre (fun k hk hm=>h.Fa hS hO hi hk hm) (by rw[ho];exact hsin)];exact hx
  show wpOpIn (Fc r) nn PP ops Q i _ a w;unfold wpOpIn;rw[ho];refine kstep r nn (tb (tm i)) M w a N0 _ Q (h.AG hS hO hi (by omega)) h.n0 hHi hFi hsi (fun _ h=>h) ?_;intro M' u w' hvu hH' hF';have hlen:(listed.setIfInBounds i true).size=ops.size:=by simp[hsz]
  have hLi:(listed.setIfInBounds i true).getD i false=true:=by simp[hsz,hi']
  have hLne:∀k,k≠i->(listed.setIfInBounds i true).getD k false=listed.getD k false:=fun k hk=>getD_set_ne false (Ne.symm hk);have hnx:=fun b=>Xn (X:=X) (L':=fun i'=>(listed.setIfInBounds i true).getD i' false) hpwi hdc hi' hL hLi hLne b (fun hb=>h.mt hS hO hi hi' hb);obtain⟨g1,g2⟩:=Hw (G':=Gd X mm (fun i'=>(listed.setIfInBounds i true).getD i' false) ops.size) hH hH'.hv hF'.fv (fun b hb=>h.tJ i hi' b hb) (fun b hb=>h.mt hS hO hi hi' hb) (fun b bk hb hg=>by rw[hgn b hb];exact hg)
   (fun b bk hb hg=>by rw[(hnx b).1 hb] at hg;exact hg) (fun b _ hb=>(hnx b).2 hb)
  have g2:Fv (fun k=>(X 0).2.2<=k/\k<(X ops.size).2.2) MM M _ w M' _ w':=g2.mono (fun k ⟨h1,h2⟩=>⟨XY (h.cm hS hO hi (XS _) (by omega)) h1,XZ h2 (h.cm hS hO hi (k:=i+1) (by omega) (XP _))⟩) (fun b hb=>h.Ro i hi' b hb);refine ihf _ _ _ M' hlen ?_ ?_ g1 (hF.trans g2) ?_ ((rA _ _ _).trans hz) ((put_defers _ _ _).trans hdf) ?_
  .have:=(Em (L:=fun i=>listed.getD i false) (L':=fun i'=>(listed.setIfInBounds i true).getD i' false) hL hLi hLne (l:=List.range ops.size)).2 (Y9.2 hi');omega
  .intro i1 j1 h1 h2;by_cases hj:j1=i
   .rw[hj];exact hLi
   .rw[hLne j1 hj];by_cases h1i:i1=i
    .subst h1i;exact hpre j1 h2
    .rw[hLne i1 h1i] at h1;exact hdc i1 j1 h1 h2
  .intro s x hx;have hsx:=WG (L':=fun i'=>(listed.setIfInBounds i true).getD i' false) (lk:=fun k=>((ops[k]?).map (·.looksAt ops)).getD []) hsl hdc hi' hL hLi hLne s (X:=X);by_cases hd:(ops[i]?).bind (·.dst)=some s
   .rw[hsx.1 hd] at hx;rw[hv] at hx;have hd:o.dst=some s:=by rw[ho] at hd;exact hd
    rw[hd] at hx ⊢;rcases AZ (h.AG hS hO hi (by omega)) h.n0 hx with⟨_,rfl,hlt⟩|⟨hne,_⟩
    .exact⟨u,KJ (by rw[hz,<-hN0];exact hlt),hvu⟩
    .exact absurd rfl hne
   .rw[hsx.2 hd] at hx;obtain⟨y,h1,h2⟩:=hs s x hx;refine⟨y,?_,qG hF'.ext hF'.bI _ _ h2⟩;have hd:o.dst≠some s:=by rw[ho] at hd;exact hd
    cases hd':o.dst with
    |none=>exact h1
    |some d'=>rw[KL (fun e=>hd (by rw[hd',e]))];exact h1
  .intro k hd;by_cases hM:M.d k
   .rcases hid k hM with h1|⟨j,hj,hLj,h1⟩
    .exact .inl h1
    .refine .inr ⟨j,hj,?_,h1⟩;by_cases hji:j=i
     .rw[hji];exact hLi
     .rw[hLne j hji];exact hLj
   .obtain⟨h1,h2,h3,_⟩:=hF'.g8 k hd hM;exact .inr ⟨i,hi',hLi,h1,h2,h3⟩
end
theorem Uh{O:dI}{ih:Rec}(hS:j4 O ih)(hO:iO O)(hi:iq ih)(hmo:PP.follows .mixedOrders=true){ops:Array Oper}{rid:Nat}{bs:List Nat}{t t':Tr CV}{d d':List Nat}{S S':HS}
  (hreg:AM ops=some bs) (h:vm O ih ops.toList bs 0 ops.toList [] 0 0 ⟨t,d,S⟩=some ⟨t',d',S'⟩) :
  d'=d/\Mn S S'/\(∀N,rm t N->rm t' N)/\∀{r:Option Nat} {n:Nat} {T:Nat->Prop} {Q:Exit->Act->World->Prop} {M:Mp} {w:World} {a:Act},rm t a.tmps.size->a.tmps.size<=aR->Hr T M S w->Fx T M S.c w->sr M w t a.tmps->In T S' →
   (∀M' w' a',wm T M S w a t' S' M' w' a'->a'.defers=a.defers->Q .normal a' w')->(Code.region rid ops true).wpIn (Fc r) n PP Q a w:=by
 unfold AM at hreg;rw[Ud] at hreg;cases hdr:yz ops (jA ops.toList []) 0 [] ops.toList
 .rw[hdr] at hreg;simp at hreg
 .rw[hdr] at hreg;simp only[cond_true,XL] at hreg;subst hreg;obtain⟨e1,X,tm,mm,hT⟩:=Cv hO hi hS (fun p hp=>by simp at hp) h;subst e1;have hlen:ops.toList.length=ops.size:=by simp
  have hx0:X 0=(t,S.h,S.c):=hT.x0;have hx1:X ops.size=(t',S'.h,S'.c):=by have:=hT.x1;rw[hlen,Yk] at this;exact this
  have hstep:∀k o,ops[k]?=some o->nu O ih ops.toList o ⟨(X k).1,d',hs (X k)⟩=some ⟨(X (k+1)).1,d',⟨(X (k+1)).2.1,(X (k+1)).2.2,tm k,mm k⟩⟩:=by
   intro k o ho;have:=hT.step k o (by simpa using ho);simpa only[Yk] using this
  have hmn:∀k,k<ops.size->Mn (hs (X k)) ⟨(X (k+1)).2.1,(X (k+1)).2.2,tm k,mm k⟩:=fun k hk=>(oL hS hO hi (hstep k ops[k] (Yd hk))).2.1;have htm:∀k,k<ops.size->∀b,tb (tm k) b->tb S'.tm b:=fun k hk b hb=>(hT.wM b).2 (.inr ⟨k,by rw[hlen];exact hk,by rw[Yk];exact hb⟩);have hmm:∀k,k<ops.size->∀b,tb (mm k) b->tb S'.mm b:=fun k hk b hb=>(hT.uv b).2 (.inr ⟨k,by rw[hlen];exact hk,by rw[Yk];exact hb⟩);have hmt:∀k,k<ops.size->∀b,tb (mm k) b->tb (tm k) b:=by
   intro k hk b hb;rcases(hmn k hk).mt b hb with h|h
   .exact absurd h iS
   .exact h
  have hmt':∀b,tb S'.mm b->tb S.mm b\/tb S'.tm b:=by
   intro b hb;rcases(hT.uv b).1 hb with hb|⟨k,hk,hb⟩
   .exact .inl hb
   .rw[hlen] at hk;rw[Yk] at hb;exact .inr (htm k hk b (hmt k hk b hb))
  have hc:∀k,k<=ops.size->(X 0).2.2<=(X k).2.2:=by
   intro k
   induction k with
   |zero=>intro _;exact XP _
   |succ k ihk=>intro hk;exact XY (ihk (by omega)) (hmn k (by omega)).c
  have hcS:S.c<=S'.c:=by have:=hc ops.size (XP _);rw[hx0,hx1] at this;exact this
  refine⟨rfl,⟨hcS,fun b hb=>(hT.wM b).2 (.inl hb),fun b hb=>(hT.uv b).2 (.inl hb),hmt',?_⟩,?_,?_⟩
  .intro j hj;have:∀k,k<=ops.size->(X k).2.1.dX (bu j)=(X 0).2.1.dX (bu j):=by
    intro k
    induction k with
    |zero=>intro _;rfl
    |succ k ihk=>intro hk;exact((hmn k (by omega)).same j fun i hi'=>hj i (hmm k (by omega) i hi')).trans (ihk (by omega))
   have:=this ops.size (XP _);rw[hx0,hx1] at this;exact this
  .intro N hN;have:∀k,k<=ops.size->rm (X k).1 N:=by
    intro k
    induction k with
    |zero=>intro _;rw[hx0];exact hN
    |succ k ihk=>
     intro hk;obtain⟨_,_,v,hv,_⟩:=oL hS hO hi (hstep k ops[k] (Yd (by omega)));rw[hv];exact w7 (ihk (by omega)) _ _
   have:=this ops.size (XP _);rw[hx1] at this;exact this
  .intro r n T Q M w a hr hN hH hF hs hI hQ;refine wpIn_region_any hmo ?_
   let w0:World:={ w with drawn:=w.drawn+1 }
   have hk0:kept M.A w w0:=fun k j _=>rfl;have hH0:Hr T M S w0:=⟨fun i b hi hb=>⟨(hH.bO i b hi hb).1,l8 (Mp.ext.refl M) hk0 (hH.bO i b hi hb).1 rfl (hH.bO i b hi hb).2⟩,hH.inj,hH.apart,hH.bc,hH.aR⟩;have hF0:Fr M S w M S w0:=⟨Mp.ext.refl M,hk0,XP _,rfl,rfl,rfl,fun _ _ _=>rfl,fun _ _ h=>.inl h,fun i h h'=>absurd h h',fun i b _ h _=>⟨b,h⟩,fun _ _ _=>rfl,fun _ h=>h,fun _ h=>h,fun _ h=>.inl h,XP _⟩;have hB:∀(k:Nat) (o:Oper),ops[k]?=some o->∃m,(jA ops.toList [])[k]?=some m/\∀j,tb m j->∃e∈o.after.toList,Region.binds .any e=true/\(j=e.on\/tb (((jA ops.toList [])[e.on]?).getD 0) j):=by
    intro k o ho;have:=Kk (l:=ops.toList) (bs:=[]) (k:=k) (o:=o) (by simpa using ho);simpa using this
   have hreg:jf O ih ops d' X tm mm (fun j i=>i<ops.size/\tb (((jA ops.toList [])[i]?).getD 0) j) T (tb S'.mm) a.tmps.size:=by
    refine⟨hstep,?_,?_,fun k j h=>h.1,?_,?_,fun k hk b hb=>hI b (htm k hk b hb),hmm,hH.aR,hN,by rw[hx0];exact hr⟩
    .intro k o ho e he hb;have:=(yy hdr rfl k o (by simpa using ho)).1 e he hb;omega
    .intro k o ho j hj;obtain⟨m,h1,h2⟩:=hB k o ho;have hj2:=hj.2;rw[h1] at hj2;obtain⟨e,he,hb,h3⟩:=h2 j hj2;have hlt:=(yy hdr rfl k o (by simpa using ho)).1 e he hb;refine⟨e,he,hb,h3.imp id fun h3=>⟨by have:=hj.1;omega,h3⟩⟩
    .intro j i hji hi';have:=hT.pw i j hji (by rw[hlen];exact hi');simp only[Yk] at this;exact this.imp (fun h=>⟨hi',h⟩) id
    .intro j i x y hji hx hy;have hi':i<ops.size:=(X4.1 hy).1;have:=(yy hdr rfl i y (by simpa using hy)).2 j x (by omega) (by simpa using hx);rw[Yk] at this;exact this.imp (fun h=>⟨hi',h⟩) id
   have hrep:∀i,(Array.replicate ops.size false).getD i false=false:=by
    intro i;rw[ZI];by_cases hlt:i<ops.size
    .simp[hlt]
    .simp[hlt]
   have hGd0:∀k,Gd X mm (fun i=>(Array.replicate ops.size false).getD i false) k=fun b=>(X 0).2.1.get b:=by
    intro k
    induction k with
    |zero=>rfl
    |succ k ihk=>
     funext b;have hn:¬((Array.replicate ops.size false).getD k false=true/\(mm k).testBit b=true):=fun h=>by rw[hrep] at h;simp at h
     show(if (Array.replicate ops.size false).getD k false=true/\(mm k).testBit b=true then _ else _)=_;rw[if_neg hn,ihk]
   have hSd0:∀k s,Sd X (fun k=>(ops[k]?).bind (·.dst)) (fun i=>(Array.replicate ops.size false).getD i false) k s=(X 0).1.get s:=by
    intro k s
    induction k with
    |zero=>rfl
    |succ k ihk=>
     have hn:¬((Array.replicate ops.size false).getD k false=true/\(ops[k]?).bind (·.dst)=some s):=fun h=>by rw[hrep] at h;simp at h
     show(if (Array.replicate ops.size false).getD k false=true/\(ops[k]?).bind (·.dst)=some s then _ else _)=_;rw[if_neg hn,ihk]
   have hrd:(fun b=>(X 0).2.1.get b)=S.rd:=by rw[hx0];rfl
   have hrd':(fun b=>(X ops.size).2.1.get b)=S'.rd:=by rw[hx1];rfl
   refine VN hreg hS hO hi (M0:=M) (w0:=w0) (a0:=a) rfl (by rw[hx0];exact hF.step hF0) ?_ ops.size (Array.replicate ops.size false) a w0 M (by simp) ?_ ?_ ?_ ?_ ?_ rfl rfl (fun k hk=>.inl hk)
   .intro M' w' a' g1 g2 g3 g4 g5;rw[hrd'] at g1;rw[hrd,hrd'] at g2;rw[hx0,hx1] at g2;rw[hx1] at g3;refine hQ M' w' a' ⟨g1.hr,hF0.trans (Fv.fr g2 (fun b hb=>(hT.wM b).2 (.inl hb)) (fun b hb=>(hT.uv b).2 (.inl hb)) hmt' hcS),g3,g4⟩ g5
   .refine XY (List.length_filter_le _ _) (by simp)
   .intro i j hL;rw[hrep] at hL;simp at hL
   .rw[hGd0,hrd];exact hH0.hv
   .rw[hGd0];exact Fv.refl _ _ _ _ _
   .intro s x hx;rw[hSd0,hx0] at hx;obtain⟨u,h1,h2⟩:=hs s x hx;exact⟨u,h1,qG (Mp.ext.refl M) hk0 _ _ h2⟩
def tg(f:FuncId):Prop:=∃fn,PP.funcs[f]?=some fn/\fn.body.isSome=true/\fn.name ≠ "runtime.NumGoroutine"
def qA(f:FuncId)(args:List CV)(S:HS)(v:CV)(S':HS):Prop:=
 ∀(n:Nat) (T:Nat->Prop) (M:Mp) (w:World) (us:List Value) (R:Ending->World->Prop),Hr T M S w->Fx T M S.c w->aC M w args us->In T S' →
  (∀M' u w',vr M' w' v u->Hr T M' S' w'->Fr M S w M' S' w'->R (.returned u) w')->CallsIn Fence.wide n PP f us.toArray w R
def DW(f:FuncId)(args:List CV)(S:HS)(v:CV)(S':HS):Prop:=
 ∀(T:Nat->Prop) (M:Mp) (w:World) (us:List Value),Hr T M S w->Fx T M S.c w->aC M w args us->In T S' →
  ∃M' u w',(callFunc f us.toArray).run PP w = .ok (.value u) w'/\vr M' w' v u/\Hr T M' S' w'/\Fr M S w M' S' w'
def WI(f:FuncId):Prop:=∃fn,PP.funcs[f]?=some fn/\fn.body=none
def zG(f:FuncId)(args:List CV)(S:HS)(v:CV)(S':HS):Prop:=(tg f/\qA f args S v S')\/(WI f/\DW f args S v S')
structure Told(O:dI):Prop where
 mo:PP.follows .mixedOrders=true
 nm:∀(f:FuncId) (fn:Func),PP.funcs[f]?=some fn->fn.name ≠ "runtime.NumGoroutine"
 pr:∀f g args v,CC.pr f=some g->g args=some v->tg f/\∀S,qA f args S v S
 oc:∀f args S v S',O f args S=some (some (v,S'))->Mn S S'/\tg f/\qA f args S v S'
 mt:∀t m f,CC.mt t m=some f->∀(n:Nat) (v:Value) (w:World),(method (n+Made.depth) t v m).run PP w = .ok (f,v) w
 xt:∀(f:FuncId) (fn:Func) (args:List CV) (S:HS) (v:CV) (S':HS),PP.funcs[f]?=some fn->fn.body=none->ext (CC.xt f) args S=some (v,S')->DW f args S v S'
theorem Told.mn{O:dI}(h:Told O):iO O:=fun f args S v S' ho=>(h.oc f args S v S' ho).1
theorem Fs{f:FuncId}(h:tg f)(us:Array Value)(w:World):(callFunc f us).run PP w = .ok (.enter f us) w:=by
 obtain⟨fn,h1,h2,h3⟩:=h;have hb:¬fn.body=none:=by intro e;rw[e] at h2;simp at h2
 have hn:¬fn.name = "runtime.NumGoroutine":=h3
 simp[callFunc,h1,hn,hb]
def Co:Ex->Exit
 |.norm=>.normal
 |.ret=>.ret
 |.exit i=>.exit i
def lh(M:Mp)(d:List Nat)(ds:List Deferred):Prop:=ds=d.map (fun D=>{ target:=.collected (M.b D),args:=#[] })/\∀D∈d,M.d D
theorem CD{M M':Mp}(h:M.ext M'){d:List Nat}{ds:List Deferred}(hd:lh M d ds):lh M' d ds:=by
 refine⟨?_,fun D hD=>h.d D (hd.2 D hD)⟩;rw[hd.1];apply List.map_congr_left;intro D hD;rw[h.b D (hd.2 D hD)]
def kx(m:Nat)(ih:Rec):Prop:=∀ri c F x F',ih ri c F=some (x,F')->Mn F.s F'.s/\(∀N,rm F.t N->rm F'.t N) ∧
 ∀(n:Nat) (T:Nat->Prop) (M:Mp) (w:World) (a:Act) (Q:Exit->Act->World->Prop),rm F.t a.tmps.size->a.tmps.size<=aR->Hr T M F.s w->Fx T M F.s.c w->sr M w F.t a.tmps->(∀l,ri=some l->M.d l)->lh M F.d a.defers->In T F'.s →
  (∀M' w' a',wm T M F.s w a F'.t F'.s M' w' a'->lh M' F'.d a'.defers->Q (Co x) a' w') →
  c.wpIn (Fc (ri.map M.b)) n PP Q a w/\∀b,c = .loop b->Code.roundsIn (Fc (ri.map M.b)) n PP b Q m a w
theorem kx.mn{m:Nat}{ih:Rec}(h:kx m ih):iq ih:=fun r c F x F' he=>(h r c F x F' he).1
theorem FJ{M M':Mp}{ri:Option Nat}(h:M.ext M')(hr:∀l,ri=some l->M.d l):ri.map M'.b=ri.map M.b:=by
 cases ri with
 |none=>rfl
 |some l=>simp[h.b l (hr l rfl)]
section
variable {T:Nat->Prop}{M:Mp}{S S':HS}{w:World}
theorem R8{t:TypeId}{x v:CV}{u:Value}(h:Hr T M S w)(he:ld S t x=some (v,S'))(hI:In T S')(hx:vr M w x u) :
  (∃ad u',u = .pointer (some ad)/\(loadVar t ad).run PP w = .ok u' w/\vr M w v u')/\(S'=S \/ ∃i,S'=S.bD i):=by
 obtain⟨⟨u',h1,h2⟩,h3⟩:=HJ h he hI hx;refine⟨?_,h3⟩;have hp:∃ad,u = .pointer (some ad):=by
  unfold ld at he;split at he
  .simp only[vr] at hx;exact⟨_,hx.2⟩
  .simp only[vr] at hx;obtain⟨ad,_,hx,_⟩:=hx;exact⟨ad,hx⟩
  .simp only[vr] at hx;exact hx
  .simp at he
 obtain⟨ad,rfl⟩:=hp;refine⟨ad,u',rfl,?_,h2⟩;simpa[Instr.loadAt,Instr.sureAddr] using h1
def ra(tmps:Array Value)(x:ResultVar):Sem Value:=match x with
 |.tmp t=>pure (tmps.getD t undef)
 |.cell a t=>do loadVar t (← asAddr (tmps.getD a undef))
theorem kD(fn:Func)(tmps:Array Value):results fn tmps=(do
  let vs ← fn.results.mapM (ra tmps)
  pure (if h:vs.size=1 then vs[0] else .tuple vs)):=rfl
theorem AH{F:Tr CV}{tmps:Array Value}:∀(l:List ResultVar) {S S':HS} {vs:List CV},Hr T M S w->sr M w F tmps->nZ F S l=some (vs,S')->In T S' →
  ∃us:List Value,(l.mapM (ra tmps)).run PP w = .ok us w/\aC M w vs us/\Hr T M S' w/\Fr M S w M S' w
 |[],S,S',vs,hH,hs,h,hI=>by
  have h:some (([]:List CV),S)=some (vs,S'):=h;cases h;exact⟨[],by simp[pure,Sem.run],by simp[aC],hH,Fr.refl _ _ _⟩
 |.tmp t::l,S,S',vs,hH,hs,h,hI=>by
  have h2:(match F.get t,nZ F S l with|some v,some (vs,S)=>some (v::vs,S)|_,_=>none)=some (vs,S'):=h;split at h2
  .rename_i v vs1 S1 h1 h3;cases h2;obtain⟨us,g1,g2,g3⟩:=AH l hH hs h3 hI;obtain⟨u,k1,k2⟩:=hs t v h1;refine⟨u::us,?_,by simp only[aC];exact⟨k2,g2⟩,g3⟩;have e1:tmps.getD t undef=u:=by rw[ZI,k1];rfl
   have e2:(ra tmps (.tmp t)).run PP w = .ok u w:=by simp[ra,e1]
   rw[zae];simp[XW,e2,g1]
  .simp at h2
 |.cell ad t::l,S,S',vs,hH,hs,h,hI=>by
  have h2:(match F.get ad with
   |some x=>(match ld S t x with
    |some (v,S)=>(match nZ F S l with|some (vs,S)=>some (v::vs,S)|none=>none)
    |none=>none)
   |none=>none)=some (vs,S'):=h
  split at h2
  .rename_i x hx;split at h2
   .rename_i v S1 h1;split at h2
    .rename_i vs1 S2 h3;cases h2;obtain⟨u,k1,k2⟩:=hs ad x hx;have hI1:In T S1:=In.back hI (rL l h3).mono;obtain⟨⟨p,u',e1,e2,e3⟩,hS⟩:=R8 hH h1 hI1 k2;subst e1;obtain⟨q1,q2⟩:=hH.quiet hS;obtain⟨us,g1,g2,g3,g4⟩:=AH l q1 hs h3 hI;refine⟨u'::us,?_,by simp only[aC];exact⟨e3,g2⟩,g3,q2.trans g4⟩;have e4:tmps.getD ad undef = .pointer (some p):=by rw[ZI,k1];rfl
     have e5:(ra tmps (.cell ad t)).run PP w = .ok u' w:=by simp[ra,e4,asAddr,XW,e2]
     rw[zae];simp[XW,e5,g1]
    .simp at h2
   .simp at h2
  .simp at h2
theorem LZ{xs:List CV}{us:List Value}(h:aC M w xs us):vr M w (.t xs) (.tuple us.toArray):=by simp only[vr];exact⟨us,rfl,h⟩
theorem BE{fn:Func}{tmps:Array Value}{n:Nat}{F:Tr CV}{v:CV}{R:Ending->World->Prop}:∀(d:List Nat) {S S1 S':HS} {M:Mp} {w:World} {ds:List Deferred} {vs:List CV},Hr T M S w->sr M w F tmps->lh M d ds->vF d S=some S1->nZ F S1 fn.results.toList=some (vs,S') →
  ((∃x,vs=[x]/\v=x)\/((∀x,vs≠[x])/\v = .t vs))->In T S'->(∀M' u w',vr M' w' v u->Hr T M' S' w'->Fr M S w M' S' w'->R (.returned u) w')->LeavesInM Fence.wide n PP fn tmps R ds .returning w
 |[],S,S1,S',M,w,ds,vs,hH,hs,hd,h1,h2,hv,hI,hR=>by
  have h1:some S=some S1:=h1;cases h1;have hds:ds=[]:=hd.1;subst hds;obtain⟨us,g1,g2,g3,g4⟩:=AH _ hH hs h2 hI;show LeavesIn Fence.wide n PP fn tmps R [] .returning w;have hrun:(results fn tmps).run PP w = .ok (if h:us.toArray.size=1 then us.toArray[0] else .tuple us.toArray) w:=by
   rw[kD,zah];simp only[XW,map_eq_pure_bind,g1,Z3,Sem.run_pure]
  rcases hv with⟨x,rfl,rfl⟩|⟨hne,rfl⟩
  .match us,g2,hrun with
   |[u],g2,hrun=>
    simp only[aC] at g2;exact⟨u,hrun,hR M u w g2.1 g3 g4⟩
   |[],g2,_=>simp[aC] at g2
   |_::_::_,g2,_=>simp[aC] at g2
  .have hl:=fT g2;have hne1:¬us.toArray.size=1:=by
    intro e;have e:us.length=1:=by simpa using e
    rw[hl] at e
    match vs,e with
    |[x],_=>exact hne x rfl
   refine⟨.tuple us.toArray,by rw[hrun,dif_neg hne1],hR M _ w (LZ g2) g3 g4⟩
 |D::d,S,S1,S',M,w,ds,vs,hH,hs,hd,h1,h2,hv,hI,hR=>by
  have h1:(match S.rd D with|some (.d true)=>vF d (S.wr D (some (.d false)))|_=>none)=some S1:=h1;split at h1
  .rename_i hb;have hI1:In T S1:=In.back hI (rL _ h2).mono;have hI2:In T (S.wr D (some (.d false))):=In.back hI1 (xA _ h1).mono;have hTD:T D:=hI2 D (by rw[gW];exact aM.2 (.inr (cn.2 rfl)));obtain⟨hdD,hbr⟩:=hH.bO D _ hTD hb;have hbr:w.heap[M.b D]?=some (.deferred (some [])):=hbr;obtain⟨hds,hdd⟩:=hd;rw[hds];simp only[ZP];have hlt:M.b D<w.heap.size:=(X4.1 hbr).1;obtain⟨w1,w2⟩:=tw (w':=w.putObj (M.b D) (.deferred none)) (ob:=some (.d false)) hH hTD hb (by simp) (fun k hk=>zaD hk) rfl rfl rfl (fun bk' e _=>by cases e;exact zaF hlt);refine⟨by simp,.inl ⟨M.b D,_,rfl,run_takeDeferred hbr,?_⟩⟩;refine BE d w1 (my w2.ext w2.bI hs) ⟨rfl,fun D' hD'=>hdd D' (ZK _ hD')⟩ h1 h2 hv hI ?_;intro M' u w' k1 k2 k3;exact hR M' u w' k1 k2 (w2.trans k3)
  .simp at h1
theorem T9{fn:Func}{n:Nat}{F:FS}{a:Act}{v:CV}{R:Ending->World->Prop}(hH:Hr T M F.s w)(hs:sr M w F.t a.tmps)(hd:lh M F.d a.defers)(h:fin fn F=some (v,S'))(hI:In T S')
  (hR:∀M' u w',vr M' w' v u->Hr T M' S' w'->Fr M F.s w M' S' w'->R (.returned u) w'):LeavesInM Fence.wide n PP fn a.tmps R a.defers .returning w:=by
 unfold fin at h;split at h
 .rename_i S1 h1;split at h
  .rename_i x S2 h2;cases h;exact BE F.d hH hs hd h1 h2 (.inl ⟨v,rfl,rfl⟩) hI hR
  .rename_i vs S2 hne h2;cases h;exact BE F.d hH hs hd h1 h2 (.inr ⟨fun x e=>hne x (by rw[e]),rfl⟩) hI hR
  .simp at h
 .simp at h
theorem Ga:∀(l:List CV) {t:Tr CV} {i N:Nat},rm t N->rm (mS t i l) N
 |[],t,i,N,h=>h
 |v::l,t,i,N,h=>by
  have e:mS t i (v::l)=t.fb (bu i) (some v) fun T=>fN (Nat.add i 1) fun i=>mS T i l:=rfl;rw[e,gM,cd];exact Ga l (w8 h _ _)
theorem Gb:∀(l:List CV) {t:Tr CV} {i N s:Nat} {x:CV},rm t N->N<=aR->(mS t i l).get s=some x->t.get s=some x \/ ∃k,s=i+k/\l[k]?=some x
 |[],t,i,N,s,x,_,_,h=>.inl h
 |v::l,t,i,N,s,x,hr,hN,h=>by
  have e:mS t i (v::l)=t.fb (bu i) (some v) fun T=>fN (Nat.add i 1) fun i=>mS T i l:=rfl;rw[e,gM,cd] at h;rcases Gb l (w8 hr _ _) hN h with h|⟨k,h1,h2⟩
  .rcases AZ hr hN h with⟨rfl,rfl,_⟩|⟨_,h⟩
   .exact .inr ⟨0,rfl,rfl⟩
   .exact .inl h
  .exact .inr ⟨k+1,by rw[h1];show i+1+k=_;omega,by simpa using h2⟩
theorem Nq{args:List CV}{us:List Value}{N:Nat}(hN:N<aR)(hl:args.length<=N)(hv:aC M w args us) :
  sr M w (mS (Tr.upto N) 0 args) (us.toArray++Array.replicate (N-us.toArray.size) undef):=by
 intro s x hx;rcases Gb args (Ek (by exact hN)) (Yn hN) hx with h|⟨k,rfl,h⟩
 .have:(Tr.upto (α:=CV) N).dX (bu s)=none:=Ml 20 N (bu s);rw[show(Tr.upto (α:=CV) N).get s=(Tr.upto (α:=CV) N).dX (bu s) from rfl,this] at h;simp at h
 .obtain⟨u,h1,h2⟩:=wA hv h;refine⟨u,?_,h2⟩;have hlt:k<us.length:=(XN.1 h1).1;rw[Yk,Yj (by simpa using hlt)];simpa using h1
theorem yN{O:dI}{ih:Rec}{m:Nat}(hO:Told O)(hi:kx m ih){f:FuncId}{args:List CV}{v:CV}(h:l7 O ih f args S=some (v,S')):zG f args S v S':=by
 unfold l7 at h;split at h
 .rename_i g hg;split at h
  .rename_i u hu;cases h;obtain⟨h1,h2⟩:=hO.pr f g args v hg hu;exact .inl ⟨h1,h2 S⟩
  .simp at h
 .split at h
  .rename_i r hr;subst h;obtain⟨_,h1,h2⟩:=hO.oc f args S v S' hr;exact .inl ⟨h1,h2⟩
  .split at h
   .rename_i fn hfn;rw[iV] at hfn;have hfn:PP.funcs[f]?=some fn:=by simpa using hfn
    split at h
    .rename_i c hc;refine .inl ⟨⟨fn,hfn,by rw[hc];rfl,hO.nm f fn hfn⟩,?_⟩;cases hb:(Nat.ble (len args) fn.ntmps&&Nat.blt fn.ntmps 1048575)
     .rw[hb] at h;simp at h
     .rw[hb] at h;rw[XQ] at hb;have b1:=XU hb.1;have b2:=jz.1 hb.2;rw[gu] at b1;simp only[cond_true] at h;intro n T M w us R hH hF hv hI hR;have hlu:=fT hv;have hsz:(us.toArray++Array.replicate (fn.ntmps-us.toArray.size) undef).size=fn.ntmps:=by simp;omega
      refine callsIn_of_wp_marks hfn hc trivial ?_;have key:∀x F,ih none c ⟨mS (Tr.upto fn.ntmps) 0 args,[],S⟩=some (x,F)->(x = .norm\/x = .ret)->fin fn F=some (v,S') →
        c.wpIn Fence.wide n PP (bodyPostM Fence.wide n PP fn R) { tmps:=us.toArray++Array.replicate (fn.ntmps-us.toArray.size) undef,defers:=[] } w:=by
       intro x F he hx hfin;obtain⟨_,_,k⟩:=hi none c _ x F he;refine(k n T M w _ _ ?_ ?_ hH hF ?_ (fun l e=>by simp at e) ⟨rfl,fun D hD=>by simp at hD⟩ (In.back hI (Bo hfin).mono) ?_).1
       .rw[hsz];exact Ga _ (Ek b2)
       .rw[hsz];exact Yn b2
       .exact Nq b2 b1 hv
       .intro M' w' a' ha hd;have:LeavesInM Fence.wide n PP fn a'.tmps R a'.defers .returning w':=T9 ha.hr ha.sr hd hfin hI fun M'' u w'' q1 q2 q3=>hR M'' u w'' q1 q2 (ha.fr.trans q3);rcases hx with rfl|rfl <;> exact this
      split at h
      .rename_i F he;exact key _ F he (.inl rfl) h
      .rename_i F he;exact key _ F he (.inr rfl) h
      .simp at h
    .rename_i hc;exact .inr ⟨⟨fn,hfn,hc⟩,hO.xt f fn args S v S' hfn hc h⟩
   .simp at h
end
section
variable {O:dI}{ih:Rec}{m:Nat}{r:Option Nat}{n:Nat}{T:Nat->Prop}{M:Mp}{S S':HS}{w w':World}{a:Act}{o:Oper}{v:CV}{u:Value}{F:Tr CV}
theorem HU{f:FuncId}{args:List CV}{us:List Value}(hd:∀c,o.op≠.defer c)(he:(execOp a.eval o).run PP w=(callFunc f us.toArray).run PP w)(hi:zG f args S v S')
  (hH:Hr T M S w) (hF:Fx T M S.c w) (hv:aC M w args us) (hI:In T S'):dg r n T M S w a o v S':=by
 intro K Q hK;rcases hi with⟨hb,hc⟩|⟨_,hx⟩
 .rw[Fs hb] at he;refine⟨fun _ _=>trivial,?_⟩;rw[zaC (Fc r) a.eval o hd,he,Oper.uponIn_enter];refine⟨fun h=>by simp[Fc,Fence.wide] at h,?_⟩;have:=hc (n-1) T M w us (fun
   |.returned v,w''=>K (a.put o.dst v) w''
   |.panicked chain,w''=>Q (.panic chain) a w''
   |.outgrown,_=>LetsOut Q) hH hF hv hI (fun M' u w' h1 h2 h3=>hK M' u w' h1 h2 h3)
  exact this
 .obtain⟨M',u,w',h1,h2,h3,h4⟩:=hx T M w us hH hF hv hI;exact cT hd (he.trans h1) (hK M' u w' h2 h3 h4)
theorem Qg{c:Call}{g:Operand}{f:FuncId}{fs cs args:List CV}(ho:o.op = .call c)(hc:c.callee = .value g)(hO:Told O)(hi:kx m ih)(hH:Hr T M S w)(hF:Fx T M S.c w)(hT:sr M w F a.tmps)(hg:bM F g=some (.f (.func f) fs cs))(hx:dU F c.args.toList=some args)
  (he:l7 O ih f (app fs (app args cs)) S=some (v,S')) (hI:In T S'):dg r n T M S w a o v S':=by
 have hd:∀c,o.op≠.defer c:=fun c hc=>by rw[ho] at hc;simp at hc
 obtain⟨us,h1,h2⟩:=kJ hT hx;have hgv:=cQ hT hg;simp only[vr] at hgv;obtain⟨fs',cs',hgv,h3,h4⟩:=hgv;rw[jd,jd] at he;refine HU (us:=fs'++(us++cs')) hd ?_ (yN hO hi he) hH hF (ky h3 (ky h2 h4)) hI;have e:(fs'++(us++cs')).toArray=fs'.toArray++us.toArray++cs'.toArray:=by simp
 rw[e];unfold execOp;rw[ho];simp[XW,resolve,hc,hgv,h1,Deferred.ofValue,invoke]
theorem Qf{c:Call}{g:Operand}{mn:String}{t:TypeId}{f:FuncId}{x:CV}{args:List CV}(ho:o.op = .call c)(hc:c.callee = .invoke g mn)(hO:Told O)(hi:kx m ih)(hH:Hr T M S w)(hF:Fx T M S.c w)(hT:sr M w F a.tmps)(hg:bM F g=some (.i t x))(hx:dU F c.args.toList=some args)
  (hm:CC.mt t mn=some f) (he:l7 O ih f (x::args) S=some (v,S')) (hI:In T S'):dg r n T M S w a o v S':=by
 have hd:∀c,o.op≠.defer c:=fun c hc=>by rw[ho] at hc;simp at hc
 obtain⟨us,h1,h2⟩:=kJ hT hx;have hgv:=cQ hT hg;simp only[vr] at hgv;obtain⟨y,hgv,h3⟩:=hgv;refine HU (us:=y::us) hd ?_ (yN hO hi he) hH hF (by simp only[aC];exact⟨h3,h2⟩) hI;have hmt:=hO.mt t mn f hm;have e:(y::us).toArray = #[y]++us.toArray:=by simp
 rw[e];have h0:(#[Value.iface t y]++us.toArray)[0]?=some (.iface t y):=by
  rw[Yj (by simp)];rfl
 have hex:(#[Value.iface t y]++us.toArray).extract 1 (#[Value.iface t y]++us.toArray).size=us.toArray:=by
  apply YC.1;simp
 unfold execOp;rw[ho];simp only[XW,resolve,hc,hgv,h1,invoke,callMethod,Sem.run_pure,Z3];simp only[h0,hex,callMethod,XW];simp[program,Sem.run,hmt]
theorem F9:∀(ps:List Tmp) {args:List CV} {us:List Value} {t:Tr CV} {arr:Array Value},rm t arr.size->arr.size<=aR->sr M w t arr->aC M w args us->ps.length=args.length →
  ∃arr',(ps.zip us).foldl (fun(tmps:Array Value) (p:Tmp×Value)=>tmps.setIfInBounds p.1 p.2) arr=arr'/\sr M w (rB t ps args) arr'/\arr'.size=arr.size/\rm (rB t ps args) arr.size
 |[],[],[],t,arr,hr,hN,hs,_,_=>⟨arr,rfl,hs,rfl,hr⟩
 |p::ps,x::args,u::us,t,arr,hr,hN,hs,hv,hl=>by
  simp only[aC] at hv;have hs1:sr M w (t.eZ (bu p) (some x)) (arr.setIfInBounds p u):=
   EX (a:={ tmps:=arr,defers:=[] }) (d:=some p) hr hN (XP _) hs (Mp.ext.refl M) (kept.refl _ _) hv.1
  have hsz:(arr.setIfInBounds p u).size=arr.size:=by simp
  obtain⟨arr',h1,h2,h3,h4⟩:=F9 ps (t:=t.eZ (bu p) (some x)) (arr:=arr.setIfInBounds p u) (by rw[hsz];exact w8 hr _ _) (by rw[hsz];exact hN) hs1 hv.2 (by simpa using hl);have e:rB t (p::ps) (x::args)=rB (t.eZ (bu p) (some x)) ps args:=by
   show t.fb (bu p) (some x) (fun T=>rB T ps args)=_;rw[gM]
  rw[e];exact⟨arr',h1,h2,h3.trans hsz,by rw[hsz] at h4;exact h4⟩
 |[],_::_,_,_,_,_,_,_,_,h=>by simp at h
 |_::_,[],_,_,_,_,_,_,_,h=>by simp at h
 |[],[],_::_,_,_,_,_,_,h,_=>by simp[aC] at h
 |_::_,_::_,[],_,_,_,_,_,h,_=>by simp[aC] at h
theorem zR{l:Nat}{st st':LoopState}{pd pd':Option Code}{fn:FuncId}{tm:Tr CV}{ps:Array Tmp}{asg body:Code}{df:Nat}(hH:Hr T M S w)(hTl:T l)(hb:S.rd l=some (.l st pd fn tm ps asg body df)) :
  ∃rec:Loop,w.heap[M.b l]?=some (.loop rec)/\rec.state=st/\rec.pending=pd/\rec.body=body/\rec.assign=asg/\rec.params=ps ∧
   Hr T M (S.wr l (some (.l st' pd' fn tm ps asg body df))) (w.putObj (M.b l) (.loop { rec with state:=st',pending:=pd' })) ∧
   Fr M S w M (S.wr l (some (.l st' pd' fn tm ps asg body df))) (w.putObj (M.b l) (.loop { rec with state:=st',pending:=pd' })):=by
 obtain⟨hd,fn',arr,h1,h2,h3,h4,h5⟩:=hH.bO l _ hTl hb;have hlt:M.b l<w.heap.size:=(X4.1 h1).1;obtain⟨w1,w2⟩:=tw (w':=w.putObj (M.b l) (.loop { state:=st',pending:=pd',fn:=fn',tmps:=arr,params:=ps,assign:=asg,body:=body,defers:=M.b df })) (ob:=some (.l st' pd' fn tm ps asg body df)) hH hTl hb (by simp) (fun k hk=>zaD hk) rfl rfl rfl
  (fun bk' e hk=>by cases e;exact⟨fn',arr,zaF hlt,my (Mp.ext.refl M) hk h2,h3,h4,h5⟩)
 exact⟨_,h1,rfl,rfl,rfl,rfl,rfl,w1,w2⟩
theorem PL{c:Call}{g:Operand}{l:Nat}{args:List CV}(ho:o.op = .call c)(hc:c.callee = .value g)(hi:kx m ih)(hH:Hr T M S w)(hF:Fx T M S.c w)(hT:sr M w F a.tmps)(hg:bM F g=some (.y l))(hx:dU F c.args.toList=some args)
  (he:tq ih l args S=some (v,S')) (hI:In T S'):dg r n T M S w a o v S':=by
 have hd:∀c,o.op≠.defer c:=fun c hc=>by rw[ho] at hc;simp at hc
 obtain⟨us,h1,h2⟩:=kJ hT hx;have hgv:=cQ hT hg;simp only[vr] at hgv;obtain⟨hdl,hgv⟩:=hgv;have hlu:=fT h2;have hmn:=GY hi.mn he;unfold tq at he;split at he
 .rename_i pd fn tm ps asg body df hb;cases hn:Nat.beq (len args) ps.size
  .rw[hn] at he;simp at he
  .rw[hn] at he;have hn:=XT hn;rw[gu] at hn;simp only[cond_true] at he;split at he
   .rename_i F1 he1;split at he
    .rename_i pd1 fn1 tm1 ps1 asg1 body1 df1 hb1;split at he
     .rename_i x F2 he2;split at he
      .rename_i pd2 fn2 tm2 ps2 asg2 body2 df2 hb2;simp only[XL,XO] at he;obtain⟨rfl,rfl⟩:=he;obtain⟨m1,r1,k1⟩:=hi _ _ _ _ _ he1;obtain⟨m2,r2,k2⟩:=hi _ _ _ _ _ he2;have hI2:In T F2.s:=In.back hI (ij.wr _ _ _);have hI1b:In T (F1.s.wr l (some (.l .busy pd1 fn1 tm1 ps1 asg1 body1 df1))):=In.back hI2 m2.mono;have hI1:In T F1.s:=In.back hI1b (ij.wr _ _ _);have hI0:In T (S.bD l):=In.back hI1 m1.mono;have hTl:T l:=hI0 l (by rw[fA];exact aM.2 (.inr (cn.2 rfl)));obtain⟨_,fn0,arr,q1,q2,q3,q4,q5⟩:=hH.bO l _ hTl hb;intro K Q hK;refine⟨fun _ _=>trivial,?_⟩;have hrun:(execOp a.eval o).run PP w = .ok (.round (M.b l) fn0 ((ps.zip us.toArray).foldl (fun tmps (t,a)=>tmps.setIfInBounds t a) arr) asg body) w:=by
        have hy:=run_yield (P:=PP) (args:=us.toArray) q1 (by simp;omega);unfold execOp;rw[ho];simp[XW,resolve,hc,hgv,h1,Deferred.ofValue,invoke,hy]
       rw[zaC (Fc r) a.eval o hd,hrun,Oper.uponIn_round];refine⟨fun h=>by simp[Fc,Fence.wide] at h,?_⟩;obtain⟨arr',p1,p2,p3,p4⟩:=F9 ps.toList (args:=args) (us:=us) q4 q5 q2 h2 (by simp;omega);have hz:(ps.zip us.toArray).foldl (fun(tmps:Array Value) (p:Tmp×Value)=>tmps.setIfInBounds p.1 p.2) arr=arr':=by
        rw[<-zaQ,Array.toList_zip];simpa using p1
       refine roundIn_of_wpIn (F:=Fc r) trivial ?_;have hz':(ps.zip us.toArray).foldl (fun tmps (t,a)=>tmps.setIfInBounds t a) arr=arr':=hz;rw[hz'];have hcode:=(k1 (n-1) T M w { tmps:=arr',defers:=[] } (Exit.then (fun a₁ w₁=>∃w₂,(Instr.beginRound (M.b l)).run PP w₁ = .ok () w₂/\body.wpIn ((Fc r).inRound (M.b l)) (n-1) PP (roundPost PP (M.b l) fun
        |.returned v,w''=>K (a.put o.dst v) w''
        |.panicked chain,w''=>Q (.panic chain) a w''
        |.outgrown,_=>LetsOut Q) a₁ w₂) (fun _ _ _=>False)) (by show rm _ arr'.size;rw[p3];exact p4) (by show arr'.size<=_;rw[p3];exact q5) (hH.bD l) (by rw[fA];exact hF) p2 (fun l' e=>by cases e;exact hdl) ⟨rfl,fun D hD=>by simp at hD⟩ hI1 ?_).1
       .exact hcode
       .intro M1 w1 a1 ha1 hd1;have hTl1:=hTl;obtain⟨rec1,s1,s2,s3,s4,s5,s6,s7,s8⟩:=zR (st':=.busy) (pd':=pd1) ha1.hr hTl hb1;have hbl:M1.b l=M.b l:=ha1.fr.ext.b l hdl;have hF1:Fr M S w M1 F1.s w1:=(Fr.bD l).trans ha1.fr;have hrec:({ rec1 with state:=LoopState.busy,pending:=pd1 }:Loop)={ rec1 with state:=LoopState.busy }:=by cases rec1;simp only at s3;subst s3;rfl
        rw[hrec] at s7 s8;refine⟨_,run_beginRound (by rw[<-hbl];exact s1) s2,?_⟩;rw[<-hbl];have hFx1:Fx T M1 F1.s.c w1:=hF.step hF1;have hcode2:=(k2 (n-1) T M1 (w1.putObj (M1.b l) (.loop { rec1 with state:=.busy })) a1 (roundPost PP (M1.b l) fun
         |.returned v,w''=>K (a.put o.dst v) w''
         |.panicked chain,w''=>Q (.panic chain) a w''
         |.outgrown,_=>LetsOut Q) (by rw[ha1.sz];exact r1 _ (by show rm _ arr'.size;rw[p3];exact p4)) (by rw[ha1.sz];show arr'.size<=_;rw[p3];exact q5) s7 (hFx1.step s8) (my s8.ext s8.bI ha1.sr) (fun l' e=>by cases e;exact hF1.ext.d l hdl) hd1 hI2 ?_).1
        .exact hcode2
        .intro M2 w2 a2 ha2 hd2;have hF2:Fr M S w M2 F2.s w2:=(hF1.trans s8).trans ha2.fr;have hbl2:M2.b l=M1.b l:=ha2.fr.ext.b l (hF1.ext.d l hdl);obtain⟨rec2,t1,t2,t3,t4,t5,t6,t7,t8⟩:=zR (st':=bif sI x then .ready else .done) (pd':=Jh x) ha2.hr hTl hb2;rw[<-hbl2]
         cases x with
         |norm=>exact⟨_,_,run_endRound none t1,hK M2 _ _ (by simp[vr,Value.oneCell',sI]) t7 (hF2.trans t8)⟩
         |ret=>exact⟨_,_,run_endRound (some .ret) t1,hK M2 _ _ (by simp[vr,Value.oneCell',sI]) t7 (hF2.trans t8)⟩
         |exit i=>exact⟨_,_,run_endRound (some (.exit i)) t1,hK M2 _ _ (by simp[vr,Value.oneCell',sI]) t7 (hF2.trans t8)⟩
      .simp at he
     .simp at he
    .simp at he
   .simp at he
 .simp at he
end
section
variable {P:Program}{b:Frame}{a:Act}{k:List Item}{cs:List Frame}{w:World}{Q:Exit->Act->World->Prop}{Fe:Fence}{n:Nat}
theorem qS{c:Code}:step P (lone (b.atR a (.code (.scope c)::k)) cs w) = .next (lone (b.atR a (.code c :: .inScope c::k)) cs w):=
 step_lone_go (by simp[stepG,stepG.exec,Frame.atR])
theorem Ni{c:Code}:step P (lone (b.atR a (.inScope c::k)) cs w) = .next (lone (b.atR a k) cs w):=
 step_lone_go (by simp[stepG,stepG.exec,Frame.atR])
theorem LW{c:Code}(h:c.wpIn Fe n P (Exit.noGoto Q) a w):(Code.scope c).wpIn Fe n P Q a w:=by
 intro b k cs hro hb hr;have h0:(lone (b.atR a (.code (.scope c)::k)) cs w).fenced P Fe:=fenced_calm hb hr rfl;obtain⟨e,a₁,w₁,hq,harr⟩:=h b (.inScope c::k) cs hro hb hr
 cases e with
 |normal=>exact⟨.normal,a₁,w₁,hq,.head h0 qS (StepsIn.trans harr (.one (fenced_calm hb hr rfl) Ni))⟩
 |exit id=>
  have hx:exitTo id (.inScope c::k)=exitTo id k:=by simp[exitTo]
  exact⟨.exit id,a₁,w₁,hq,fun k' hk=>.head h0 qS (harr.1 k' (by rw[hx];exact hk)),fun hr' hk=>let ⟨k₁,h1,h2⟩:=harr.2 hr' (by rw[hx];exact hk);⟨k₁,h1,.head h0 qS h2⟩⟩
 |goto l=>exact hq.elim
 |ret=>exact⟨_,a₁,w₁,hq,.of_steps (.one h0 qS) harr⟩
 |panic ch=>exact⟨_,a₁,w₁,hq,.of_steps (.one h0 qS) harr⟩
 |outgrown=>exact⟨_,a₁,w₁,hq,.of_steps (.one h0 qS) harr⟩
end
section
variable {O:dI}{ih:Rec}{m:Nat}
theorem Sk(hO:Told O)(hi:kx m ih){g:Operand}{ps:Array Tmp}{asg body:Code}{ri:Option Nat}{F F':FS}{x:Ex}(h:xS O g ps asg body ih ri F=some (x,F')) :
  Mn F.s F'.s/\(∀N,rm F.t N->rm F'.t N)/\∀(n:Nat) (T:Nat->Prop) (M:Mp) (w:World) (a:Act) (Q:Exit->Act->World->Prop),rm F.t a.tmps.size->a.tmps.size<=aR->Hr T M F.s w->Fx T M F.s.c w->sr M w F.t a.tmps->(∀l,ri=some l->M.d l)->lh M F.d a.defers->In T F'.s →
   (∀M' w' a',wm T M F.s w a F'.t F'.s M' w' a'->lh M' F'.d a'.defers->Q (Co x) a' w')->(Code.rangeFunc g ps asg body).wpIn (Fc (ri.map M.b)) n PP Q a w:=by
 unfold xS at h;split at h
 .rename_i f fs cs hg;cases hB:hasB f
  .rw[hB] at h;simp at h
  rw[hB] at h;simp only[cond_true] at h;split at h
  .rename_i rv S2 hcall;have hmc:=xB hO.mn hi.mn hcall;rw[jd,jd] at hcall;have hmn2:Mn F.s S2:=(Mn.new _ _).trans ((Mn.new _ _).trans hmc);have tail:∀(pd:Option Code) (fn:FuncId) (tm:Tr CV) (ps2:Array Tmp) (asg2 body2:Code) (df:Nat) (st:LoopState),st≠.busy->S2.rd (F.s.new (.d true)).c=some (.l st pd fn tm ps2 asg2 body2 df) →
     (match pd with
     |none=>some (Ex.norm,(⟨F.t,F.s.c::F.d,S2.wr (F.s.new (.d true)).c (some (.l .exhausted pd fn tm ps2 asg2 body2 df))⟩:FS))
     |some c=>ih none c ⟨F.t,F.s.c::F.d,S2.wr (F.s.new (.d true)).c (some (.l .exhausted pd fn tm ps2 asg2 body2 df))⟩)=some (x,F') →
     Mn F.s F'.s/\(∀N,rm F.t N->rm F'.t N)/\∀(n:Nat) (T:Nat->Prop) (M:Mp) (w:World) (a:Act) (Q:Exit->Act->World->Prop),rm F.t a.tmps.size->a.tmps.size<=aR->Hr T M F.s w->Fx T M F.s.c w->sr M w F.t a.tmps->lh M F.d a.defers->In T F'.s →
      (∀M' w' a',wm T M F.s w a F'.t F'.s M' w' a'->lh M' F'.d a'.defers->Q (Co x) a' w')->(Code.rangeFunc g ps asg body).wpIn (Fc none) n PP Q a w:=by
    intro pd fn tm ps2 asg2 body2 df st hst hb2 hend;have hm3:Mn F.s (S2.wr (F.s.new (.d true)).c (some (.l .exhausted pd fn tm ps2 asg2 body2 df))):=hmn2.trans (Mn.wr _ _ _);have hend':Mn (S2.wr (F.s.new (.d true)).c (some (.l .exhausted pd fn tm ps2 asg2 body2 df))) F'.s/\(∀N,rm F.t N->rm F'.t N):=by
     cases pd with
     |none=>simp only[XL,XO] at hend;obtain⟨_,rfl⟩:=hend;exact⟨Mn.refl _,fun _ h=>h⟩
     |some c=>obtain⟨q1,q2,_⟩:=hi _ _ _ _ _ hend;exact⟨q1,q2⟩
    refine⟨hm3.trans hend'.1,hend'.2,?_⟩;intro n T M w a Q hr hN hH hF hs hdf hI hQ;have hI3:In T (S2.wr (F.s.new (.d true)).c (some (.l .exhausted pd fn tm ps2 asg2 body2 df))):=In.back hI hend'.1.mono;have hI2:In T S2:=In.back hI3 (ij.wr _ _ _);have hIb:In T ((F.s.new (.d true)).new (.l .ready none 0 F.t ps asg body F.s.c)):=In.back hI2 hmc.mono;have hIa:In T (F.s.new (.d true)):=In.back hIb (ij.new _ _);have hTD:T F.s.c:=hIa _ (by rw[g9];exact aM.2 (.inr (cn.2 rfl)));have hTl:T (F.s.new (.d true)).c:=hIb _ (by rw[g9 (F.s.new (.d true))];exact aM.2 (.inr (cn.2 rfl)));have hgv:=cQ hs hg;simp only[vr] at hgv;obtain⟨fs',cs',hgv,hfs,hcs⟩:=hgv;refine wpIn_rangeFunc fun fn1 _=>?_;obtain⟨M1,a1,a2,a3,a4,_,_⟩:=xF (bk:=.d true) (ob:=.deferred (some [])) (zV0:=0) (e:=0) hH (hF.here hTD) hTD (fun M' _ _ _ hb _ _ hn=>by show _=_;rw[hb];exact hn);have hF1:=hF.step a2;obtain⟨M2,b1,b2,b3,b4,_,_⟩:=xF (bk:=.l .ready none 0 F.t ps asg body F.s.c) (ob:=.loop { state:=.ready,pending:=none,fn:=fn1,tmps:=a.tmps,params:=ps,assign:=asg,body:=body,defers:=w.heap.size }) (zV0:=0) (e:=0) a1 (hF1.here hTl) hTl
     (fun M' he hk _ hb _ _ hn=>⟨fn1,a.tmps,by rw[hb,he.b _ a3,a4];exact hn,my he hk (my a2.ext a2.bI hs),he.d _ a3,hr,hN⟩)
    have hF2:=hF1.step b2;have hlb:M2.b (F.s.new (.d true)).c=w.heap.size+1:=by rw[b4];simp
    rcases yN hO hi hcall with⟨hbody,hck⟩|⟨hnb,_⟩
    .refine⟨w.heap.size+1,[{ target:=.collected w.heap.size,args:=#[] }],(w.alloc (.deferred (some []))).alloc (.loop { state:=.ready,pending:=none,fn:=fn1,tmps:=a.tmps,params:=ps,assign:=asg,body:=body,defers:=w.heap.size }),{ target:=.fn (.func f) cs'.toArray,args:=fs'.toArray ++ #[.func (.yield (w.heap.size+1)) #[] #[]] },(w.alloc (.deferred (some []))).alloc (.loop { state:=.ready,pending:=none,fn:=fn1,tmps:=a.tmps,params:=ps,assign:=asg,body:=body,defers:=w.heap.size }),f,fs'.toArray ++ #[.func (.yield (w.heap.size+1)) #[] #[]]++cs'.toArray,(w.alloc (.deferred (some []))).alloc (.loop { state:=.ready,pending:=none,fn:=fn1,tmps:=a.tmps,params:=ps,assign:=asg,body:=body,defers:=w.heap.size }),run_enterLoop_outer _ _ _ _ _,?_,fun _ _=>trivial,?_,fun h=>by simp[Fc,Fence.wide] at h,?_⟩
     .have hcv:a.eval (.const (.func (.yield (w.heap.size+1)) #[] #[])) = .func (.yield (w.heap.size+1)) #[] #[]:=rfl;simp[resolve,rangeCall,XW,hgv,hcv,Deferred.ofValue,Sem.run_pure]
     .simp only[invoke];exact Fs hbody _ _
     .have hvs:aC M2 ((w.alloc (.deferred (some []))).alloc (.loop { state:=.ready,pending:=none,fn:=fn1,tmps:=a.tmps,params:=ps,assign:=asg,body:=body,defers:=w.heap.size })) (fs++([CV.y (F.s.new (.d true)).c]++cs)) (fs'++([.func (.yield (w.heap.size+1)) #[] #[]]++cs')):=by
       have hx:=(a2.trans b2).ext;have hk:=(a2.trans b2).bI;refine ky (jG hx hk _ _ hfs) (ky ?_ (jG hx hk _ _ hcs));simp only[aC,vr];exact⟨⟨b3,by rw[hlb]⟩,trivial⟩
      have hcc:=hck (n-1) T M2 _ _ (rangePost (Fc none) n PP (w.heap.size+1) Q { a with defers:=[{ target:=.collected w.heap.size,args:=#[] }]++a.defers }) b1 hF2 hvs hI2 ?_
      .have e:(fs'++([Value.func (.yield (w.heap.size+1)) #[] #[]]++cs')).toArray=fs'.toArray ++ #[.func (.yield (w.heap.size+1)) #[] #[]]++cs'.toArray:=by simp
       rw[<-e];exact hcc
      .intro M3 u w3 c1 c2 c3;obtain⟨rec,t1,t2,t3,t4,t5,t6,t7,t8⟩:=zR (st':=.exhausted) (pd':=pd) c2 hTl hb2;have hb3:M3.b (F.s.new (.d true)).c=w.heap.size+1:=by rw[c3.ext.b _ b3];exact hlb
       have hFr:Fr M F.s w M3 _ _:=((a2.trans b2).trans c3).trans t8;have hdf3:lh M3 (F.s.c::F.d) ([{ target:=.collected w.heap.size,args:=#[] }]++a.defers):=by
        obtain⟨d1,d2⟩:=CD hFr.ext hdf;refine⟨?_,fun D hD=>?_⟩
        .rw[d1];have:M3.b F.s.c=w.heap.size:=by rw[c3.ext.b _ (b2.ext.d _ a3),b2.ext.b _ a3,a4]
         simp[this]
        .rcases X9.1 hD with rfl|hD
         .exact c3.ext.d _ (b2.ext.d _ a3)
         .exact d2 D hD
       refine⟨rec.pending,_,run_endLoop (by rw[<-hb3];exact t1) (by rw[t2];exact hst),?_⟩;rw[<-hb3,t3]
       cases pd with
       |none=>
        simp only[XL,XO] at hend;obtain⟨rfl,rfl⟩:=hend;exact hQ M3 _ { a with defers:=[{ target:=.collected w.heap.size,args:=#[] }]++a.defers } ⟨t7,hFr,my hFr.ext hFr.bI hs,rfl⟩ hdf3
       |some c=>
        obtain⟨_,_,kc⟩:=hi _ _ _ _ _ hend;refine(kc n T M3 _ { a with defers:=[{ target:=.collected w.heap.size,args:=#[] }]++a.defers } Q hr hN t7 (((hF2.step c3)).step t8) (my hFr.ext hFr.bI hs) (fun l e=>by simp at e) hdf3 hI ?_).1;intro M' w' a' ha hd';exact hQ M' w' a' ⟨ha.hr,hFr.trans ha.fr,ha.sr,ha.sz⟩ hd'
    .obtain⟨fn',n1,n2⟩:=hnb;unfold hasB at hB;rw[iV,show PP.funcs.toList[f]?=some fn' by simpa using n1] at hB;simp[n2] at hB
   split at h
   .simp at h
   .rename_i st pd fn tm ps2 asg2 body2 df hne hb2;obtain⟨q1,q2,q3⟩:=tail pd fn tm ps2 asg2 body2 df st (fun e=>hne e) hb2 h;exact⟨q1,q2,fun n T M w a Q hr hN hH hF hs _ hdf hI hQ=>q3 n T M w a Q hr hN hH hF hs hdf hI hQ⟩
   .simp at h
  .simp at h
 .simp at h
theorem Uf(hO:Told O)(hS:j4 O ih)(hi:kx m ih):kx (m+1) (fun ri c F=>vk O c ih ri F):=by
 intro ri c F x F' h
 cases c with
 |skip=>
  have h:some (Ex.norm,F)=some (x,F'):=h;cases h;exact⟨Mn.refl _,fun _ h=>h,fun n T M w a Q hr hN hH hF hs hri hd hI hQ=>⟨wpIn_skip (hQ M w a ⟨hH,Fr.refl _ _ _,hs,rfl⟩ hd),fun b e=>by cases e⟩⟩
 |label l=>
  have h:some (Ex.norm,F)=some (x,F'):=h;cases h;exact⟨Mn.refl _,fun _ h=>h,fun n T M w a Q hr hN hH hF hs hri hd hI hQ=>⟨wpIn_label (hQ M w a ⟨hH,Fr.refl _ _ _,hs,rfl⟩ hd),fun b e=>by cases e⟩⟩
 |ret=>
  have h:some (Ex.ret,F)=some (x,F'):=h;cases h;exact⟨Mn.refl _,fun _ h=>h,fun n T M w a Q hr hN hH hF hs hri hd hI hQ=>⟨wpIn_ret (hQ M w a ⟨hH,Fr.refl _ _ _,hs,rfl⟩ hd),fun b e=>by cases e⟩⟩
 |exit i=>
  have h:some (Ex.exit i,F)=some (x,F'):=h;cases h;exact⟨Mn.refl _,fun _ h=>h,fun n T M w a Q hr hN hH hF hs hri hd hI hQ=>⟨wpIn_exit (hQ M w a ⟨hH,Fr.refl _ _ _,hs,rfl⟩ hd),fun b e=>by cases e⟩⟩
 |goto l=>have h:(none:Option (Ex×FS))=some (x,F'):=h;simp at h
 |refuse s=>have h:(none:Option (Ex×FS))=some (x,F'):=h;simp at h
 |scope b=>
  have h:ih ri b F=some (x,F'):=h;obtain⟨m1,r1,k1⟩:=hi _ _ _ _ _ h;refine⟨m1,r1,fun n T M w a Q hr hN hH hF hs hri hd hI hQ=>⟨LW ?_,fun b e=>by cases e⟩⟩;refine(k1 n T M w a _ hr hN hH hF hs hri hd hI ?_).1;intro M' w' a' ha hd';have:=hQ M' w' a' ha hd'
  cases x with
  |norm=>exact this
  |ret=>exact this
  |exit i=>exact this
 |region id ops draw=>
  have h:(match Cs O ih ops draw F with|some F'=>some (Ex.norm,F')|none=>none)=some (x,F'):=h;split at h
  .rename_i F1 h1;cases h;obtain⟨t,d,S⟩:=F;obtain⟨t',d',S'⟩:=F';unfold Cs at h1
   cases draw with
   |true=>
    simp only[cond_true] at h1;split at h1
    .rename_i bs hbs;obtain⟨e1,e2,e3,e4⟩:=Uh (rid:=id) hS hO.mn hi.mn hO.mo hbs h1;subst e1;refine⟨e2,e3,fun n T M w a Q hr hN hH hF hs hri hd hI hQ=>⟨e4 hr hN hH hF hs hI fun M' w' a' ha hd'=>hQ M' w' a' ha ?_,fun b e=>by cases e⟩⟩;rw[hd'];exact CD ha.fr.ext hd
    .simp at h1
   |false=>
    simp only[cond_false] at h1;obtain⟨e1,e2,e3,e4⟩:=Jn hS hO.mn hi.mn _ h1;subst e1;refine⟨e2,e3,fun n T M w a Q hr hN hH hF hs hri hd hI hQ=>⟨wpIn_region_list (e4 hr hN hH hF hs hI fun M' w' a' ha hd'=>hQ M' w' a' ha ?_),fun b e=>by cases e⟩⟩;rw[hd'];exact CD ha.fr.ext hd
  .simp at h
 |seq c1 c2=>
  have h:(match ih ri c1 F with|some (.norm,F')=>ih ri c2 F'|x=>x)=some (x,F'):=h;split at h
  .rename_i F1 h1;obtain⟨m1,r1,k1⟩:=hi _ _ _ _ _ h1;obtain⟨m2,r2,k2⟩:=hi _ _ _ _ _ h;refine⟨m1.trans m2,fun N hN=>r2 N (r1 N hN),fun n T M w a Q hr hN hH hF hs hri hd hI hQ=>⟨wpIn_seq ?_,fun b e=>by cases e⟩⟩;refine(k1 n T M w a _ hr hN hH hF hs hri hd (In.back hI m2.mono) ?_).1;intro M1 w1 a1 ha1 hd1;show c2.wpIn (Fc (ri.map M.b)) n PP Q a1 w1;rw[<-FJ ha1.fr.ext hri];refine(k2 n T M1 w1 a1 Q (by rw[ha1.sz];exact r1 _ hr) (by rw[ha1.sz];exact hN) ha1.hr (hF.step ha1.fr) ha1.sr (fun l e=>ha1.fr.ext.d l (hri l e)) hd1 hI ?_).1;intro M' w' a' ha hd';exact hQ M' w' a' ⟨ha.hr,ha1.fr.trans ha.fr,ha.sr,ha.sz.trans ha1.sz⟩ hd'
  .rename_i hne;obtain⟨m1,r1,k1⟩:=hi _ _ _ _ _ h;refine⟨m1,r1,fun n T M w a Q hr hN hH hF hs hri hd hI hQ=>⟨wpIn_seq ?_,fun b e=>by cases e⟩⟩;refine(k1 n T M w a _ hr hN hH hF hs hri hd hI ?_).1;intro M' w' a' ha hd';have:=hQ M' w' a' ha hd'
   cases x with
   |norm=>exact absurd h (hne F')
   |ret=>exact this
   |exit i=>exact this
 |cond y c1 c2=>
  have h:(match bM F.t y with|some (.k (.bool true))=>ih ri c1 F|some (.k (.bool false))=>ih ri c2 F|_=>none)=some (x,F'):=h;split at h
  .rename_i hy;obtain⟨m1,r1,k1⟩:=hi _ _ _ _ _ h;refine⟨m1,r1,fun n T M w a Q hr hN hH hF hs hri hd hI hQ=>⟨?_,fun b e=>by cases e⟩⟩;have hb:=cQ hs hy;simp only[vr] at hb;exact wpIn_cond_true hb.1 (k1 n T M w a Q hr hN hH hF hs hri hd hI hQ).1
  .rename_i hy;obtain⟨m1,r1,k1⟩:=hi _ _ _ _ _ h;refine⟨m1,r1,fun n T M w a Q hr hN hH hF hs hri hd hI hQ=>⟨?_,fun b e=>by cases e⟩⟩;have hb:=cQ hs hy;simp only[vr] at hb;exact wpIn_cond_false hb.1 (k1 n T M w a Q hr hN hH hF hs hri hd hI hQ).1
  .simp at h
 |block i b=>
  have h:(match ih ri b F with|some (.exit j,F')=>bif Nat.beq j i then some (Ex.norm,F') else some (.exit j,F')|x=>x)=some (x,F'):=h;split at h
  .rename_i j F1 h1;obtain⟨m1,r1,k1⟩:=hi _ _ _ _ _ h1;have hF:F1=F'/\x=(bif Nat.beq j i then Ex.norm else .exit j):=by
    cases hb:Nat.beq j i <;> rw[hb] at h <;> simp at h <;> exact⟨h.2,h.1.symm⟩
   obtain⟨rfl,hx⟩:=hF;refine⟨m1,r1,fun n T M w a Q hr hN hH hF hs hri hd hI hQ=>⟨wpIn_block ?_,fun b e=>by cases e⟩⟩;refine(k1 n T M w a _ hr hN hH hF hs hri hd hI ?_).1;intro M' w' a' ha hd';have:=hQ M' w' a' ha hd';show(if j=i then Q .normal a' w' else Q (.exit j) a' w');cases hb:Nat.beq j i
   .rw[hb] at hx;simp only[cond_false] at hx;subst hx;rw[if_neg (fun e=>by rw[e] at hb;simp at hb)];exact this
   .rw[hb] at hx;simp only[cond_true] at hx;subst hx;rw[if_pos (XT hb)];exact this
  .rename_i hne;obtain⟨m1,r1,k1⟩:=hi _ _ _ _ _ h;refine⟨m1,r1,fun n T M w a Q hr hN hH hF hs hri hd hI hQ=>⟨wpIn_block ?_,fun b e=>by cases e⟩⟩;refine(k1 n T M w a _ hr hN hH hF hs hri hd hI ?_).1;intro M' w' a' ha hd';have:=hQ M' w' a' ha hd'
   cases x with
   |norm=>exact this
   |ret=>exact this
   |exit j=>exact absurd h (hne j F')
 |loop b=>
  have h:(match ih ri b F with|some (.norm,F')=>ih ri (.loop b) F'|x=>x)=some (x,F'):=h;split at h
  .rename_i F1 h1;obtain⟨m1,r1,k1⟩:=hi _ _ _ _ _ h1;obtain⟨m2,r2,k2⟩:=hi _ _ _ _ _ h;refine⟨m1.trans m2,fun N hN=>r2 N (r1 N hN),fun n T M w a Q hr hN hH hF hs hri hd hI hQ=>?_⟩;have key:Code.roundsIn (Fc (ri.map M.b)) n PP b Q (m+1) a w:=by
    rw[roundsIn_succ];refine(k1 n T M w a _ hr hN hH hF hs hri hd (In.back hI m2.mono) ?_).1;intro M1 w1 a1 ha1 hd1;show Code.roundsIn (Fc (ri.map M.b)) n PP b Q m a1 w1;rw[<-FJ ha1.fr.ext hri];refine(k2 n T M1 w1 a1 Q (by rw[ha1.sz];exact r1 _ hr) (by rw[ha1.sz];exact hN) ha1.hr (hF.step ha1.fr) ha1.sr (fun l e=>ha1.fr.ext.d l (hri l e)) hd1 hI ?_).2 b rfl;intro M' w' a' ha hd';exact hQ M' w' a' ⟨ha.hr,ha1.fr.trans ha.fr,ha.sr,ha.sz.trans ha1.sz⟩ hd'
   exact⟨wpIn_loop_rounds _ key,fun b' e=>by cases e;exact key⟩
  .rename_i hne;obtain⟨m1,r1,k1⟩:=hi _ _ _ _ _ h;refine⟨m1,r1,fun n T M w a Q hr hN hH hF hs hri hd hI hQ=>?_⟩;have key:Code.roundsIn (Fc (ri.map M.b)) n PP b Q (m+1) a w:=by
    rw[roundsIn_succ];refine(k1 n T M w a _ hr hN hH hF hs hri hd hI ?_).1;intro M' w' a' ha hd';have:=hQ M' w' a' ha hd'
    cases x with
    |norm=>exact absurd h (hne F')
    |ret=>exact this
    |exit i=>exact this
   exact⟨wpIn_loop_rounds _ key,fun b' e=>by cases e;exact key⟩
 |rangeFunc g ps asg body=>
  have h:xS O g ps asg body ih ri F=some (x,F'):=h;obtain⟨q1,q2,q3⟩:=Sk hO hi h;exact⟨q1,q2,fun n T M w a Q hr hN hH hF hs hri hd hI hQ=>⟨q3 n T M w a Q hr hN hH hF hs hri hd hI hQ,fun b e=>by cases e⟩⟩
end
end Rc.Ev
