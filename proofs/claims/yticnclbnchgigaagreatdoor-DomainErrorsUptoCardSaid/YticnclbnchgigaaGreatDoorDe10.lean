/- Parts of the proof, 10: the texts Raw, WlV2, WlW2, WkDomainErrors, FactsZ, FactsX, FactsT, Rdq, FactsQ, as far as they are used. -/
import Derived.Test.YticnclbnchgigaaGreatDoorDe09
import Derived.Test.YticnclbnchgigaaGreatDoorProg
import Derived.KernelRfl
import Derived.Test.YticnclbnchgigaaGreatDoorRows
import Derived.LaidMore
import Derived.LaidLaws
import Derived.LaidHandle
import Derived.JoinedOf
import Derived.ChangeSame
import Derived.ChangeVars
import Derived.Stop.Joined
set_option linter.unusedSimpArgs false
set_option linter.unusedVariables false
set_option maxRecDepth 10000
namespace Rc
open Go Go.RowKit Go.ChangeShapes Go.WideShapes
structure Tr where
 v:Int
 c:Qr
structure Ar where
 ts:List Tr
 c:Qr
def trE:El Tr:=⟨fun t=>[Leaf.val (.int .i64 t.v),Leaf.val (.bool t.c.neg),zaf t.c.n,zaf t.c.d],4,fun _=>rfl,fun _=>rfl⟩
@[reducible] def arV(a:Ar):V:=V.agg [trE.row a.ts,Leaf.val (.bool a.c.neg),zaf a.c.n,zaf a.c.d]
def VN(a:Ar)(vars n:Nat):Prop:=∀i t,i<n->a.ts[i]?=some t->isC t.c=true/\t.c.q≠0/\0<=t.v/\t.v<(vars:Int)/\∀u,0<i->a.ts[i-1]?=some u->u.v<t.v
def VR(a:Ar)(vars:Nat):Prop:=VN a vars a.ts.length/\isC a.c=true
noncomputable def vrB(a:Ar)(vars:Nat):Bool:=@decide (VR a vars) (Classical.propDecidable _)
section
variable {a:Ar}{vars:Nat}
theorem vrB_t(h:VR a vars):vrB a vars=true:=@decide_eq_true _ (Classical.propDecidable _) h
theorem zlj(h:¬VR a vars):vrB a vars=false:=@decide_eq_false _ (Classical.propDecidable _) h
theorem zeC:vrB a vars=true↔VR a vars:=@decide_eq_true_iff _ (Classical.propDecidable _)
theorem zmf(h:VN a vars a.ts.length):vrB a vars=isC a.c:=by
 cases hc:isC a.c
 .exact zlj (fun e=>by rw[e.2] at hc;cases hc)
 .exact vrB_t ⟨h,hc⟩
theorem VN.zero:VN a vars 0:=fun i t h=>by omega
theorem VN.step{n:Nat}{t:Tr}(h:VN a vars n)(ht:a.ts[n]?=some t)(h1:isC t.c=true)(h2:t.c.q≠0)(h3:0<=t.v)(h4:t.v<(vars:Int))(h5:∀u,0<n->a.ts[n-1]?=some u->u.v<t.v):VN a vars (n+1):=fun i u hi hu=>by
 by_cases e:i=n
 .subst e;rw[ht] at hu;cases hu;exact⟨h1,h2,h3,h4,h5⟩
 .exact h i u (by omega) hu
theorem VR.get{n:Nat}{t:Tr}(h:VR a vars)(ht:a.ts[n]?=some t):isC t.c=true/\t.c.q≠0/\0<=t.v/\t.v<(vars:Int)/\∀u,0<n->a.ts[n-1]?=some u->u.v<t.v:=h.1 n t (zxc.1 ht).1 ht
theorem zqE{n:Nat}{t:Tr}(ht:a.ts[n]?=some t)(hx:t.v<0):vrB a vars=false:=zlj (fun h=>by have:=(h.get ht).2.2.1;omega)
theorem zqF{n:Nat}{t:Tr}(ht:a.ts[n]?=some t)(hx:(vars:Int)<=t.v):vrB a vars=false:=zlj (fun h=>by have:=(h.get ht).2.2.2.1;omega)
theorem zqD{n:Nat}{t u:Tr}(h0:0<n)(ht:a.ts[n]?=some t)(hu:a.ts[n-1]?=some u)(hx:t.v<=u.v):vrB a vars=false:=zlj (fun h=>by have:=(h.get ht).2.2.2.2 u h0 hu;omega)
theorem zhd{n:Nat}{t:Tr}(ht:a.ts[n]?=some t)(hx:t.c.q=0):vrB a vars=false:=zlj (fun h=>(h.get ht).2.1 hx)
theorem zj5{n:Nat}{t:Tr}(ht:a.ts[n]?=some t)(hx:isC t.c=false):vrB a vars=false:=zlj (fun h=>by rw[(h.get ht).1] at hx;cases hx)
end
def zdo(a:Ar):Af:=⟨a.ts.map fun t=>(t.v.toNat,t.c.q),a.c.q⟩
theorem zqK:∀{l:List Tr},(∀t∈l,isC t.c=true/\0<=t.v)->trE.all l=tmE.all (l.map fun t=>(t.v.toNat,t.c.q))
 |[],_=>rfl
 |t::l,h=>by
  have h1:=h t (by simp);show trE.f t++trE.all l=tmE.f (t.v.toNat,t.c.q)++tmE.all _;rw[zqK (fun u hu=>h u (by simp[hu]))];congr 1;show[Leaf.val (.int .i64 t.v),Leaf.val (.bool t.c.neg),zaf t.c.n,zaf t.c.d]=[Leaf.val (.int .i64 ((t.v.toNat:Nat):Int)),Leaf.val (.bool (zbx t.c.q)),zaf (zab (zaV t.c.q)),zaf (zab (zaW t.c.q))];have e1:((t.v.toNat:Nat):Int)=t.v:=by omega
  have e2:=zf1.1 h1.1;have e3:t.c.neg=zbx t.c.q:=by rw[e2];rw[zao]
  have e4:t.c.n=zab (zaV t.c.q):=by rw[e2];rw[zao]
  have e5:t.c.d=zab (zaW t.c.q):=by rw[e2];rw[zao]
  rw[e1,<-e3,<-e4,<-e5]
theorem zk4{a:Ar}{vars:Nat}(h:VR a vars):arV a=afV (zdo a):=by
 have hall:∀t∈a.ts,isC t.c=true/\0<=t.v:=fun t ht=>by
  obtain⟨i,hi⟩:=zb5 ht;have:=h.get hi;exact⟨this.1,this.2.2.1⟩
 have e2:=zf1.1 h.2;have e3:a.c.neg=zbx a.c.q:=by rw[e2];rw[zao]
 have e4:a.c.n=zab (zaV a.c.q):=by rw[e2];rw[zao]
 have e5:a.c.d=zab (zaW a.c.q):=by rw[e2];rw[zao]
 have e6:trE.row a.ts=tmE.row (zdo a).ts:=by
  unfold El.row;rw[zqK hall];congr 2;simp[zdo]
 show V.agg [trE.row a.ts,Leaf.val (.bool a.c.neg),zaf a.c.n,zaf a.c.d]=V.agg [tmE.row (zdo a).ts,Leaf.val (.bool (zbx a.c.q)),zaf (zab (zaV a.c.q)),zaf (zab (zaW a.c.q))];rw[e6,<-e3,<-e4,<-e5]
theorem ziK{x:Qr}{K:Nat}(h:Fit K x):Hb x.q (32*K):=by
 refine Hb.rq ?_ ?_
 .refine zxj (za6 x.hn) ?_;rw[zcg];exact zxn (by decide) (zxI _ h.n)
 .have h1:=za6 x.hd;have h2:4294967296^x.d.length<=2^(32*K):=by rw[zcg];exact zxn (by decide) (zxI _ h.d)
  unfold dn;split <;> omega
theorem zrk:∀{l:List Tr},(∀t∈l,t.c.q≠0/\0<=t.v)->(∀i t u,l[i]?=some u->l[i+1]?=some t->u.v<t.v)->CanT (l.map fun t=>(t.v.toNat,t.c.q))
 |[],_,_=>trivial
 |x::l,h,ho=>by
  have ih:=zrk (l:=l) (fun t ht=>h t (by simp[ht])) (fun i t u hu ht=>ho (i+1) t u (by simpa using hu) (by simpa using ht));refine⟨(h x (by simp)).1,fun u hu=>?_,ih⟩;obtain⟨t,ht,rfl⟩:=List.mem_map.1 hu;have key:∀(i:Nat) (t:Tr),l[i]?=some t->x.v<t.v:=by
   intro i
   induction i with
   |zero=>intro t ht;exact ho 0 t x rfl (by simpa using ht)
   |succ i ihh=>
    intro t ht;obtain⟨u,hu⟩:∃u,l[i]?=some u:=⟨_,zxa (by have:=(zxc.1 ht).1;omega)⟩;have h1:=ihh u hu;have h2:=ho (i+1) t u (by simpa using hu) (by simpa using ht);omega
  obtain⟨i,hi⟩:=zb5 ht;have h1:=key i t hi;have h2:=(h x (by simp)).2;show x.v.toNat<t.v.toNat;omega
theorem zhh{a:Ar}{vars K:Nat}(h:VR a vars)(hf:∀t∈a.ts,Fit K t.c)(hc:Fit K a.c):FOk (32*K) vars (zdo a):=by
 have hm:∀t∈a.ts,t.c.q≠0/\0<=t.v/\t.v<(vars:Int):=fun t ht=>by
  obtain⟨i,hi⟩:=zb5 ht;have:=h.get hi;exact⟨this.2.1,this.2.2.1,this.2.2.2.1⟩
 refine⟨zrk (fun t ht=>⟨(hm t ht).1,(hm t ht).2.1⟩) (fun i t u hu ht=>(h.get ht).2.2.2.2 u (by omega) (by simpa using hu)),fun t ht=>?_,ziK hc,fun t ht=>?_⟩
 .obtain⟨u,hu,rfl⟩:=List.mem_map.1 ht;exact ziK (hf u hu)
 .obtain⟨u,hu,rfl⟩:=List.mem_map.1 ht;have:=hm u hu;show u.v.toNat<vars;omega
structure Rq where
 inp:Int
 us:List Ar
 os:List Ar
 lo:List Qr
 hi:List Qr
 rows:List Ar
 goal:Ar
def arE:El Ar:=⟨fun a=>[trE.row a.ts,Leaf.val (.bool a.c.neg),zaf a.c.n,zaf a.c.d],4,fun _=>rfl,fun _=>rfl⟩
def qrE:El Qr:=⟨fun q=>[Leaf.val (.bool q.neg),zaf q.n,zaf q.d],3,fun _=>rfl,fun _=>rfl⟩
@[reducible] def rqL(q:Rq):List Leaf:=[Leaf.val (.int .i64 q.inp),arE.row q.us,arE.row q.os,qrE.row q.lo,qrE.row q.hi,arE.row q.rows,trE.row q.goal.ts,Leaf.val (.bool q.goal.c.neg),zaf q.goal.c.n,zaf q.goal.c.d]
@[reducible] def rqV(q:Rq):V:=V.agg (rqL q)
structure VG(q:Rq):Prop where
 i1:1<=q.inp
 i2:q.inp<=256
 o1:1<=q.os.length
 us:∀(j:Nat) (a:Ar),q.us[j]?=some a->VR a (q.inp.toNat+j)
 os:∀a∈q.os,VR a (q.inp.toNat+q.us.length)
structure VQ(q:Rq):Prop where
 g:VG q
 lo:(q.lo.length:Int)=q.inp
 hi:(q.hi.length:Int)=q.inp
 cl:∀x∈q.lo,isC x=true
 ch:∀x∈q.hi,isC x=true
 le:∀(i:Nat) (x y:Qr),q.lo[i]?=some x->q.hi[i]?=some y->x.q<=y.q
 rows:∀a∈q.rows,VR a q.inp.toNat
 goal:VR q.goal (q.inp.toNat+q.us.length)
noncomputable def vqB(q:Rq):Bool:=@decide (VQ q) (Classical.propDecidable _)
theorem zrA{q:Rq}:vqB q=true↔VQ q:=@decide_eq_true_iff _ (Classical.propDecidable _)
theorem zrB{q:Rq}(h:¬VQ q):vqB q=false:=@decide_eq_false _ (Classical.propDecidable _) h
theorem vqB_t{q:Rq}(h:VQ q):vqB q=true:=@decide_eq_true _ (Classical.propDecidable _) h
def zuj(q:Rq):Qu:=⟨⟨q.inp.toNat,q.us.map zdo,q.os.map zdo⟩,⟨q.lo.map Qr.q,q.hi.map Qr.q,q.rows.map zdo⟩,zdo q.goal⟩
theorem zrn:∀{l:List Ar},(∀a∈l,arV a=afV (zdo a))->arE.all l=afE.all (l.map zdo)
 |[],_=>rfl
 |a::l,h=>by
  have h1:=h a (by simp);show arE.f a++arE.all l=afE.f (zdo a)++afE.all (l.map zdo);rw[zrn (fun b hb=>h b (by simp[hb]))];congr 1;injection h1
theorem zod{l:List Ar}(h:∀a∈l,arV a=afV (zdo a)):arE.row l=afE.row (l.map zdo):=by
 unfold El.row;rw[zrn h,List.length_map]
theorem zqY:∀{l:List Qr},(∀x∈l,isC x=true)->qrE.all l=ratE.all (l.map Qr.q)
 |[],_=>rfl
 |x::l,h=>by
  have e2:=zf1.1 (h x (by simp));show qrE.f x++qrE.all l=ratE.f x.q++ratE.all (l.map Qr.q);rw[zqY (fun b hb=>h b (by simp[hb]))];congr 1;have e3:x.neg=zbx x.q:=by rw[e2];rw[zao]
  have e4:x.n=zab (zaV x.q):=by rw[e2];rw[zao]
  have e5:x.d=zab (zaW x.q):=by rw[e2];rw[zao]
  show[Leaf.val (.bool x.neg),zaf x.n,zaf x.d]=[Leaf.val (.bool (zbx x.q)),zaf (zab (zaV x.q)),zaf (zab (zaW x.q))];rw[<-e3,<-e4,<-e5]
theorem zqW{l:List Qr}(h:∀x∈l,isC x=true):qrE.row l=ratE.row (l.map Qr.q):=by
 unfold El.row;rw[zqY h,List.length_map]
theorem VG.usr{q:Rq}(h:VG q):∀a∈q.us,arV a=afV (zdo a):=fun a ha=>by
 obtain⟨j,hj⟩:=zb5 ha;exact zk4 (h.us j a hj)
theorem zur{q:Rq}(h:VQ q):rqV q=quV (zuj q):=by
 have e0:((q.inp.toNat:Nat):Int)=q.inp:=by have:=h.g.i1;omega
 have eg:=zk4 h.goal;have eg:[trE.row q.goal.ts,Leaf.val (.bool q.goal.c.neg),zaf q.goal.c.n,zaf q.goal.c.d]=[tmE.row (zdo q.goal).ts,Leaf.val (.bool (zbx (zdo q.goal).c)),zaf (zab (zaV (zdo q.goal).c)),zaf (zab (zaW (zdo q.goal).c))]:=by
  injection eg
 show V.agg ([Leaf.val (.int .i64 q.inp),arE.row q.us,arE.row q.os,qrE.row q.lo,qrE.row q.hi,arE.row q.rows]++[trE.row q.goal.ts,Leaf.val (.bool q.goal.c.neg),zaf q.goal.c.n,zaf q.goal.c.d])=_;rw[eg,zod h.g.usr,zod (fun a ha=>zk4 (h.g.os a ha)),zqW h.cl,zqW h.ch,zod (fun a ha=>zk4 (h.rows a ha)),<-e0];rfl
def wQ(x:Qr):Nat:=x.n.length+x.d.length+1
def wT:List Tr->Nat
 |[]=>0
 |t::l=>wQ t.c+wT l
def wA(a:Ar):Nat:=wQ a.c+wT a.ts
def wL:List Qr->Nat
 |[]=>0
 |x::l=>wQ x+wL l
def wG:List Ar->Nat
 |[]=>0
 |a::l=>wA a+wG l
theorem zrH(x:Qr):szR x.q<=32*wQ x:=by
 have h:=ziK (x:=x) (K:=x.n.length+x.d.length) ⟨by omega,by omega⟩;have h2:=zkc h;unfold wQ;omega
theorem zuk:∀l:List Tr,szT (l.map fun t=>(t.v.toNat,t.c.q))<=32*wT l
 |[]=>zxe _
 |t::l=>by
  have h1:=zrH t.c;have h2:=zuk l;show szR t.c.q+szT (l.map fun t=>(t.v.toNat,t.c.q))<=32*(wQ t.c+wT l);omega
theorem szF_w(a:Ar):szF (zdo a)<=32*wA a:=by
 have h1:=zrH a.c;have h2:=zuk a.ts;show szR a.c.q+szT (a.ts.map fun t=>(t.v.toNat,t.c.q))<=32*(wQ a.c+wT a.ts);omega
theorem zrI:∀l:List Qr,szL (l.map Qr.q)<=32*wL l
 |[]=>zxe _
 |x::l=>by
  have h1:=zrH x;have h2:=zrI l;show szR x.q+szL (l.map Qr.q)<=32*(wQ x+wL l);omega
theorem zul:∀l:List Ar,szG (l.map zdo)<=32*wG l
 |[]=>zxe _
 |a::l=>by
  have h1:=szF_w a;have h2:=zul l;show szF (zdo a)+szG (l.map zdo)<=32*(wA a+wG l);omega
def zck(a:Ar):Prop:=(∀t∈a.ts,Fit 1048576 t.c)/\Fit 1048576 a.c/\a.ts.length<=1048576
theorem zrD{q:Rq}(h:VQ q)(h8:q.us.length<=8)(ho8:q.os.length<=8)(hr8:q.rows.length<=8)(hw:wL q.lo+wL q.hi+wG q.us<=1048576)
  (fu:∀a∈q.us,zck a) (fo:∀a∈q.os,zck a) (fl:∀x∈q.lo,Fit 1048576 x) (fh:∀x∈q.hi,Fit 1048576 x) (fr:∀a∈q.rows,zck a) (fg:zck q.goal):QOk (zuj q):=by
 have i1:=h.g.i1;have i2:=h.g.i2;have e1:=h.lo;have e2:=h.hi;refine⟨⟨?_,?_,?_,?_,?_,fun j x hx=>?_,fun x hx=>?_⟩,⟨?_,?_,?_,fun j x y hx hy=>?_,fun x hx=>?_⟩,?_,?_⟩
 .show 1<=q.inp.toNat;omega
 .show q.inp.toNat<=256;omega
 .show(q.us.map zdo).length<=8;rw[List.length_map];exact h8
 .show 1<=(q.os.map zdo).length;rw[List.length_map];exact h.g.o1
 .show(q.os.map zdo).length<=8;rw[List.length_map];exact ho8
 .have hx:(q.us.map zdo)[j]?=some x:=hx;rw[List.getElem?_map] at hx
  cases ha:q.us[j]? with
  |none=>rw[ha] at hx;simp at hx
  |some a=>
   rw[ha] at hx;simp only[Option.map_some,zxd] at hx;subst hx;have hm:=zxb ha;exact zhh (h.g.us j a ha) (fu a hm).1 (fu a hm).2.1
 .have hx:x∈q.os.map zdo:=hx;obtain⟨a,ha,rfl⟩:=List.mem_map.1 hx;have:=zhh (h.g.os a ha) (fo a ha).1 (fo a ha).2.1;show FOk 33554432 (q.inp.toNat+(q.us.map zdo).length) (zdo a);rw[List.length_map];exact this
 .show(q.lo.map Qr.q).length=q.inp.toNat;rw[List.length_map];omega
 .show(q.hi.map Qr.q).length=q.inp.toNat;rw[List.length_map];omega
 .show(q.rows.map zdo).length<=8;rw[List.length_map];exact hr8
 .have hx:(q.lo.map Qr.q)[j]?=some x:=hx;have hy:(q.hi.map Qr.q)[j]?=some y:=hy;rw[List.getElem?_map] at hx hy
  cases ha:q.lo[j]? with
  |none=>rw[ha] at hx;simp at hx
  |some a=>
   cases hb:q.hi[j]? with
   |none=>rw[hb] at hy;simp at hy
   |some b=>
    rw[ha] at hx;rw[hb] at hy;simp only[Option.map_some,zxd] at hx hy;subst hx;subst hy;exact⟨ziK (fl a (zxb ha)),ziK (fh b (zxb hb)),h.le j a b ha hb⟩
 .have hx:x∈q.rows.map zdo:=hx;obtain⟨a,ha,rfl⟩:=List.mem_map.1 hx;exact zhh (h.rows a ha) (fr a ha).1 (fr a ha).2.1
 .show FOk 33554432 (q.inp.toNat+(q.us.map zdo).length) (zdo q.goal);rw[List.length_map];exact zhh h.goal fg.1 fg.2.1
 .have z1:=zrI q.lo;have z2:=zrI q.hi;have z3:=zul q.us;show szL (q.lo.map Qr.q)+szL (q.hi.map Qr.q)+szG (q.us.map zdo)<=33554432;omega
theorem zi3{α:Type}{p:α->Bool}{l:List α}{i:Nat}{x:α}(h:l[i]?=some x)(h1:(l.take i).all p=true)(h2:p x=true):(l.take (i+1)).all p=true:=by
 rw[zbK h,List.all_append,h1];simp[h2]
theorem zof{α:Type}{p:α->Bool}{l:List α}{i:Nat}{x:α}(h:l[i]?=some x)(h2:p x=false):l.all p=false:=by
 rw[Bool.eq_false_iff];intro e;have:=List.all_eq_true.1 e x (zxb h);rw[h2] at this;cases this
noncomputable def vaB(l:List Ar)(vars:Nat):Bool:=l.all fun a=>vrB a vars
theorem zfJ{l:List Ar}{vars:Nat}:vaB l vars=true↔∀a∈l,VR a vars:=by
 unfold vaB;rw[List.all_eq_true];exact⟨fun h a ha=>zeC.1 (h a ha),fun h a ha=>zeC.2 (h a ha)⟩
theorem zfB{l:List Qr}:l.all isC=true↔∀x∈l,isC x=true:=List.all_eq_true
noncomputable def vgB(q:Rq):Bool:=@decide (VG q) (Classical.propDecidable _)
theorem zdq{q:Rq}:vgB q=true↔VG q:=@decide_eq_true_iff _ (Classical.propDecidable _)
theorem zhY{q:Rq}(h:¬VG q):vgB q=false:=@decide_eq_false _ (Classical.propDecidable _) h
def UN(q:Rq)(n:Nat):Prop:=∀(j:Nat) (a:Ar),j<n->q.us[j]?=some a->VR a (q.inp.toNat+j)
theorem UN.zero{q:Rq}:UN q 0:=fun j a h=>by omega
theorem UN.step{q:Rq}{i:Nat}{x:Ar}(h:UN q i)(hx:q.us[i]?=some x)(hv:vrB x (q.inp.toNat+i)=true):UN q (i+1):=fun j a hj ha=>by
 by_cases e:j=i
 .subst e;rw[hx] at ha;cases ha;exact zeC.1 hv
 .exact h j a (by omega) ha
theorem zmg{q:Rq}{i:Nat}{x:Ar}(hx:q.us[i]?=some x)(hv:vrB x (q.inp.toNat+i)=false):vgB q=false:=
 zhY fun h=>by rw[zeC.2 (h.us i x hx)] at hv;cases hv
theorem zqG{q:Rq}(h1:1<=q.inp)(h2:q.inp<=256)(h3:1<=q.os.length)(h:UN q q.us.length):vgB q=vaB q.os (q.inp.toNat+q.us.length):=by
 cases hv:vaB q.os (q.inp.toNat+q.us.length)
 .exact zhY fun e=>by rw[zfJ.2 e.os] at hv;cases hv
 .exact zdq.2 ⟨h1,h2,h3,fun j a ha=>h j a (zxc.1 ha).1 ha,zfJ.1 hv⟩
structure VX(q:Rq):Prop where
 i1:1<=q.inp
 i2:q.inp<=256
 lo:(q.lo.length:Int)=q.inp
 hi:(q.hi.length:Int)=q.inp
 cl:∀x∈q.lo,isC x=true
 ch:∀x∈q.hi,isC x=true
 le:∀(i:Nat) (x y:Qr),q.lo[i]?=some x->q.hi[i]?=some y->x.q<=y.q
 rows:∀a∈q.rows,VR a q.inp.toNat
noncomputable def vxB(q:Rq):Bool:=@decide (VX q) (Classical.propDecidable _)
theorem zme{q:Rq}:vxB q=true↔VX q:=@decide_eq_true_iff _ (Classical.propDecidable _)
theorem zdR{q:Rq}(h:¬VX q):vxB q=false:=@decide_eq_false _ (Classical.propDecidable _) h
theorem zt6{q:Rq}(h:VX q):vxB q=true:=zme.2 h
def LN(q:Rq)(n:Nat):Prop:=∀(i:Nat) (x y:Qr),i<n->q.lo[i]?=some x->q.hi[i]?=some y->isC x=true/\isC y=true/\x.q<=y.q
theorem LN.zero{q:Rq}:LN q 0:=fun j x y h=>by omega
theorem LN.step{q:Rq}{i:Nat}{x y:Qr}(h:LN q i)(hx:q.lo[i]?=some x)(hy:q.hi[i]?=some y)(h1:isC x=true)(h2:isC y=true)(h3:x.q<=y.q):LN q (i+1):=fun j a b hj ha hb=>by
 by_cases e:j=i
 .subst e;rw[hx] at ha;rw[hy] at hb;cases ha;cases hb;exact⟨h1,h2,h3⟩
 .exact h j a b (by omega) ha hb
theorem zqC{q:Rq}(h1:1<=q.inp)(h2:q.inp<=256)(h3:(q.lo.length:Int)=q.inp)(h4:(q.hi.length:Int)=q.inp)(h:LN q q.lo.length):vxB q=vaB q.rows q.inp.toNat:=by
 cases hv:vaB q.rows q.inp.toNat
 .exact zdR fun e=>by rw[zfJ.2 e.rows] at hv;cases hv
 .refine zt6 ⟨h1,h2,h3,h4,fun x hx=>?_,fun y hy=>?_,fun i x y hx hy=>(h i x y (zxc.1 hx).1 hx hy).2.2,zfJ.1 hv⟩
  .obtain⟨i,hi⟩:=zb5 hx;have hl:=(zxc.1 hi).1;obtain⟨y,hy⟩:∃y,q.hi[i]?=some y:=⟨_,zxa (by omega)⟩;exact(h i x y hl hi hy).1
  .obtain⟨i,hi⟩:=zb5 hy;have hl:=(zxc.1 hi).1;obtain⟨x,hx⟩:∃x,q.lo[i]?=some x:=⟨_,zxa (by omega)⟩;exact(h i x y (by omega) hx hi).2.1
theorem zlk{q:Rq}:vqB q=(vgB q&&vxB q&&vrB q.goal (q.inp.toNat+q.us.length)):=by
 cases h1:vgB q
 .exact zrB fun h=>by rw[zdq.2 h.g] at h1;cases h1
 .cases h2:vxB q
  .exact zrB fun h=>by rw[zt6 ⟨h.g.i1,h.g.i2,h.lo,h.hi,h.cl,h.ch,h.le,h.rows⟩] at h2;cases h2
  .cases h3:vrB q.goal (q.inp.toNat+q.us.length)
   .exact zrB fun h=>by rw[zeC.2 h.goal] at h3;cases h3
   .have g:=zdq.1 h1;have x:=zme.1 h2;exact vqB_t ⟨g,x.lo,x.hi,x.cl,x.ch,x.le,x.rows,zeC.1 h3⟩
def ziD(g:Ar->Bool):List Ar->Nat->Int
 |[],_=>-1
 |a::l,k=>if g a=true then(k:Int) else ziD g l (k+1)
theorem zjG(g:Ar->Bool):∀(l:List Ar) (k:Nat),decide (0<=ziD g l k)=l.any g
 |[],k=>rfl
 |a::l,k=>by
  have ih:=zjG g l (k+1);rw[List.any_cons];unfold ziD;cases hg:g a
  .rw[if_neg (by decide),ih,Bool.false_or]
  .rw[if_pos rfl,Bool.true_or];exact decide_eq_true (by omega)
theorem zpA{g:Ar->Bool}{l:List Ar}{i:Nat}(h:ziD g l 0=ziD g (l.drop i) i)(hi:l.length<=i):ziD g l 0 = -1:=by
 rw[h,List.drop_eq_nil_of_le hi];rfl
theorem zpz{g:Ar->Bool}{l:List Ar}{i:Nat}{x:Ar}(h:ziD g l 0=ziD g (l.drop i) i)(hx:l[i]?=some x)(hg:g x=true):ziD g l 0=(i:Int):=by
 rw[h,zbs hx];exact if_pos hg
theorem znE{g:Ar->Bool}{l:List Ar}{i:Nat}{x:Ar}(h:ziD g l 0=ziD g (l.drop i) i)(hx:l[i]?=some x)(hg:g x=false):ziD g l 0=ziD g (l.drop (i+1)) (i+1):=by
 rw[h,zbs hx];exact if_neg (by rw[hg];decide)
theorem zoe(l:List Ar)(vars:Nat):(!(l.any fun a=>!vrB a vars))=vaB l vars:=by
 unfold vaB
 induction l with
 |nil=>rfl
 |cons a l ih=>rw[List.any_cons,List.all_cons,Bool.not_or,Bool.not_not,ih]
section
variable {H:Type}{enc:TypeId×Value->H}{P:Program}{w:World}{base:Nat}{held:Bool}
structure Msr(m:DataW H->Nat):Prop where
 el:∀(es sp:List (DataW H)),∀d∈es,m d<=m (.slice es sp)
 len:∀(es sp:List (DataW H)),es.length<=m (.slice es sp)
 part:∀(ps:List (DataW H)),∀d∈ps,m d<=m (.agg ps)
variable {m:DataW H->Nat}
theorem zm7(hm:Msr m){t u:Nat}{cs:List Value}{fuel:Nat}{x:DataW H×List MemPlace}(ht:P.underlying t=some (.slice u))(hu:P.underlying u=some (.int .u32))(hc:P.cellsOf u=1)
  (h:DataW.trod enc P w base (fun _=>true) held fuel t cs=some x):∃c l,cs=[c]/\Small l/\(zaf l).den (zjg w) c w/\l.length<=m x.1:=by
 obtain⟨c,l,e1,e2,e3⟩:=zuz ht hu hc h;refine⟨c,l,e1,e2,e3,?_⟩;obtain⟨a,cap,ev,_⟩:=e3;rcases open_ints ht hu hc h with⟨hcs,_⟩|⟨a',len,cap',zs,hcs,_,hl,_,hz,hx,_⟩
 .rw[e1] at hcs;simp at hcs;rw[hcs] at ev;simp at ev;omega
 .rw[e1] at hcs;simp at hcs;rw[hcs] at ev;simp at ev;rw[hx];refine zxk ?_ (hm.len _ _);simp only[if_true] at hz;unfold lits;rw[List.length_map,zxr];omega
variable {tb tn tu tr ti tt ta ts:Nat}
structure ArTy(P:Program)(tb tn tu tr ti tt ts ta:Nat):Prop where
 n:NumTy P tb tn tu tr
 i:P.underlying ti=some (.int .i64)
 ci:P.cellsOf ti=1
 t:zpK P tt=some [(0,ti),(1,tr)]
 ct:P.cellsOf tt=4
 s:P.underlying ts=some (.slice tt)
 cs:P.cellsOf ts=1
 a:zpK P ta=some [(0,ts),(1,tr)]
 ca:P.cellsOf ta=4
end
end Rc
namespace Go.Proofs.YticnclbnchgigaaGreatDoor
open Go Go.RowKit Rc
theorem zdK(a:Ar)(hfit:∀t∈a.ts,Fit 1048576 t.c)(hfc:Fit 1048576 a.c)(hal:a.ts.length<=1048576)(vars:Nat)(hv:vars<=1000):Ctr Tryz.prog 33 [arV a,V.one (Leaf.val (.int .i64 ((vars:Int))))] (R.one (V.one (Leaf.val (.bool (vrB a vars))))):=by
 refine bd_ Tryz.func33 Tryz.ntmps33 rfl (fun w0 A0=>?_);refine zc 11 rfl (tq_ rfl (jln rfl) (zl 4 rfl ?_));refine zbO (fun m Γ H=>∃(i:Nat),a.ts.length-i=m/\Γ=[(1,some (D.val (.int .i64 (vars:Int)))),(2,some (D.ptr 0 0)),(8,some (D.v (V.one (El.row trE a.ts)))),(9,some (D.val (.int .i64 ((a.ts.length:Nat):Int)))),(10,some (D.val (.int .i64 (i:Int))))]/\H=[hb_ 35 [El.row trE a.ts,Leaf.val (.bool a.c.neg),zaf a.c.n,zaf a.c.d]]/\i<=a.ts.length/\VN a vars i) ⟨0,rfl,rfl,rfl,zxg _,VN.zero⟩ rfl ?_;rintro m Γ H ⟨i,rfl,rfl,rfl,hi0,hN⟩;refine zc 2 rfl ?_;by_cases hi:i<a.ts.length
 .refine tq_ rfl (ltT rfl) (zl 9 rfl ?_);obtain⟨x,hx⟩:∃x,a.ts[i]?=some x:=⟨_,zxa hi⟩;have hxf:=hfit x (zxb hx);refine zc 2 rfl (tq_ rfl (jix i hx rfl) (tq_ rfl (jlr rfl) (zl 6 rfl (dr_ 0 [] [] (dz 2 rfl ?_)))));by_cases h1:x.v<0
  .refine kq_ rfl (ltT rfl) (dz 24 rfl (dz 10 rfl (zad (za 7 rfl ?_))));exact r1_ hq_ rfl (by rw[zqE hx h1])
  .refine kq_ rfl (ltF rfl) (dz 4 rfl ?_);by_cases h2:(vars:Int)<=x.v
   .refine kq_ rfl (geT rfl) (dz 24 rfl (dz 5 rfl (zad (za 7 rfl ?_))));exact r1_ hq_ rfl (by rw[zqF hx h2])
   .refine kq_ rfl (geF rfl) (dz 3 rfl ?_);by_cases hi1:0<i
    .refine kq_ rfl (gtT rfl) (dz 4 rfl ?_);obtain⟨y,hy⟩:∃y,a.ts[i-1]?=some y:=⟨_,zxa (by omega)⟩;refine kq_ rfl (jsb (i-1) rfl) (kq_ rfl (jix (i-1) hy rfl) (kq_ rfl (jfr rfl) (kq_ rfl (jli rfl) (dz 2 rfl ?_))));by_cases h4:x.v<=y.v
     .refine kq_ rfl (geT rfl) (dz 14 rfl (zad (za 7 rfl ?_)));exact r1_ hq_ rfl (by rw[zqD hi1 hx hy h4])
     .refine kq_ rfl (geF rfl) (dz 5 rfl (kc_ zpI rfl (zhp x.c (x.c.q) rfl (hxf.mono (by omega))) ?_));by_cases h5:x.c.q=0
      .refine kq_ rfl (eqT rfl (by rw[h5];rfl)) (dz 7 rfl (zad (za 7 rfl ?_)));exact r1_ hq_ rfl (by rw[zhd hx h5])
      .refine kq_ rfl (eqF rfl (zfi h5)) (dz 4 rfl (kc_ zoM rfl (zdS x.c (x.c.q) rfl (hxf.mono (by omega))) (dz 2 rfl (zad (za 1 rfl ?_)))));refine zaz rfl (fun hcc=>?_) (fun hcc=>?_)
       .refine zc 5 rfl ?_;exact r1_ hq_ rfl (by rw[zj5 hx (by simpa using hcc)])
       .refine zc 4 rfl (tq_ rfl (jad (i+1) rfl) (zl 2 rfl (zan 1 (zbq 1 rfl ?_))));exact nx_ ⟨i+1,rfl,rfl,rfl,hi,hN.step hx (by simpa using hcc) h5 (by omega) (by omega) (fun u _ hu=>by rw[hy] at hu;cases hu;omega)⟩ rfl
    .refine kq_ rfl (gtF rfl) (dz 16 rfl (kc_ zpI rfl (zhp x.c (x.c.q) rfl (hxf.mono (by omega))) ?_));by_cases h5:x.c.q=0
     .refine kq_ rfl (eqT rfl (by rw[h5];rfl)) (dz 7 rfl (zad (za 7 rfl ?_)));exact r1_ hq_ rfl (by rw[zhd hx h5])
     .refine kq_ rfl (eqF rfl (zfi h5)) (dz 4 rfl (kc_ zoM rfl (zdS x.c (x.c.q) rfl (hxf.mono (by omega))) (dz 2 rfl (zad (za 1 rfl ?_)))));refine zaz rfl (fun hcc=>?_) (fun hcc=>?_)
      .refine zc 5 rfl ?_;exact r1_ hq_ rfl (by rw[zj5 hx (by simpa using hcc)])
      .refine zc 4 rfl (tq_ rfl (jad (i+1) rfl) (zl 2 rfl (zan 1 (zbq 1 rfl ?_))));exact nx_ ⟨i+1,rfl,rfl,rfl,hi,hN.step hx (by simpa using hcc) h5 (by omega) (by omega) (fun u h0=>by omega)⟩ rfl
 .refine tq_ rfl (ltF rfl) (zl 13 rfl (tc_ zoM rfl (zdS a.c (a.c.q) rfl (hfc.mono (by omega))) (zl 3 rfl ?_)));exact r1_ hq_ rfl (by rw[zmf (by rw[show a.ts.length=i by omega];exact hN)])
theorem zeI(a:Ar)(hfit:∀t∈a.ts,Fit 1048576 t.c)(hfc:Fit 1048576 a.c)(hal:a.ts.length<=1048576)(vars:Nat)(hv:vars<=1000):Ctr Tryz.prog 24 [arV a,V.one (Leaf.val (.int .i64 ((vars:Int))))] (R.one (V.one (Leaf.val (.bool (vrB a vars))))):=by
 refine bd_ Tryz.func24 Tryz.ntmps24 rfl (fun w0 A0=>?_);refine zc 13 rfl (zbO (fun m Γ H=>∃(i:Nat),a.ts.length-i=m/\Γ=[(1,some (D.val (.int .i64 (vars:Int)))),(2,some (D.ptr 0 0)),(5,some (D.val (.int .i64 (i:Int))))]/\H=[hb_ 35 [El.row trE a.ts,Leaf.val (.bool a.c.neg),zaf a.c.n,zaf a.c.d]]/\i<=a.ts.length/\VN a vars i) ⟨0,rfl,rfl,rfl,zxg _,VN.zero⟩ rfl ?_);rintro m Γ H ⟨i,rfl,rfl,rfl,hi0,hN⟩;refine zc 6 rfl (tq_ rfl (jln rfl) ?_);by_cases hi:i<a.ts.length
 .refine tq_ rfl (ltT rfl) (zl 8 rfl ?_);obtain⟨x,hx⟩:∃x,a.ts[i]?=some x:=⟨_,zxa hi⟩;have hxf:=hfit x (zxb hx);refine zc 4 rfl (tq_ rfl (jix i hx rfl) (tq_ rfl (jlr rfl) (zl 5 rfl (dr_ 0 [] [] (dz 2 rfl ?_)))));by_cases h1:x.v<0
  .refine kq_ rfl (ltT rfl) (dz 24 rfl (dz 10 rfl (zad (za 7 rfl ?_))));exact r1_ hq_ rfl (by rw[zqE hx h1])
  .refine kq_ rfl (ltF rfl) (dz 4 rfl ?_);by_cases h2:(vars:Int)<=x.v
   .refine kq_ rfl (geT rfl) (dz 24 rfl (dz 5 rfl (zad (za 7 rfl ?_))));exact r1_ hq_ rfl (by rw[zqF hx h2])
   .refine kq_ rfl (geF rfl) (dz 3 rfl ?_);by_cases hi1:0<i
    .refine kq_ rfl (gtT rfl) (dz 4 rfl ?_);obtain⟨y,hy⟩:∃y,a.ts[i-1]?=some y:=⟨_,zxa (by omega)⟩;refine kq_ rfl (jsb (i-1) rfl) (kq_ rfl (jix (i-1) hy rfl) (kq_ rfl (jfr rfl) (kq_ rfl (jli rfl) (dz 2 rfl ?_))));by_cases h4:x.v<=y.v
     .refine kq_ rfl (geT rfl) (dz 14 rfl (zad (za 7 rfl ?_)));exact r1_ hq_ rfl (by rw[zqD hi1 hx hy h4])
     .refine kq_ rfl (geF rfl) (dz 5 rfl (kc_ zhU rfl (zb2 x.c (x.c.q) rfl (hxf.mono (by omega))) ?_));by_cases h5:x.c.q=0
      .refine kq_ rfl (eqT rfl (by rw[h5];rfl)) (dz 7 rfl (zad (za 7 rfl ?_)));exact r1_ hq_ rfl (by rw[zhd hx h5])
      .refine kq_ rfl (eqF rfl (zfi h5)) (dz 4 rfl (kc_ znO rfl (zcp x.c (x.c.q) rfl (hxf.mono (by omega))) (dz 2 rfl (zad (za 1 rfl ?_)))));refine zaz rfl (fun hcc=>?_) (fun hcc=>?_)
       .refine zc 5 rfl ?_;exact r1_ hq_ rfl (by rw[zj5 hx (by simpa using hcc)])
       .refine zc 5 rfl (tq_ rfl (jad (i+1) rfl) (zl 2 rfl (zan 1 (zbq 1 rfl ?_))));exact nx_ ⟨i+1,rfl,rfl,rfl,hi,hN.step hx (by simpa using hcc) h5 (by omega) (by omega) (fun u _ hu=>by rw[hy] at hu;cases hu;omega)⟩ rfl
    .refine kq_ rfl (gtF rfl) (dz 16 rfl (kc_ zhU rfl (zb2 x.c (x.c.q) rfl (hxf.mono (by omega))) ?_));by_cases h5:x.c.q=0
     .refine kq_ rfl (eqT rfl (by rw[h5];rfl)) (dz 7 rfl (zad (za 7 rfl ?_)));exact r1_ hq_ rfl (by rw[zhd hx h5])
     .refine kq_ rfl (eqF rfl (zfi h5)) (dz 4 rfl (kc_ znO rfl (zcp x.c (x.c.q) rfl (hxf.mono (by omega))) (dz 2 rfl (zad (za 1 rfl ?_)))));refine zaz rfl (fun hcc=>?_) (fun hcc=>?_)
      .refine zc 5 rfl ?_;exact r1_ hq_ rfl (by rw[zj5 hx (by simpa using hcc)])
      .refine zc 5 rfl (tq_ rfl (jad (i+1) rfl) (zl 2 rfl (zan 1 (zbq 1 rfl ?_))));exact nx_ ⟨i+1,rfl,rfl,rfl,hi,hN.step hx (by simpa using hcc) h5 (by omega) (by omega) (fun u h0=>by omega)⟩ rfl
 .refine tq_ rfl (ltF rfl) (zl 12 rfl (tc_ znO rfl (zcp a.c (a.c.q) rfl (hfc.mono (by omega))) (zl 3 rfl ?_)));exact r1_ hq_ rfl (by rw[zmf (by rw[show a.ts.length=i by omega];exact hN)])
theorem zkw(l:List Qr)(hl:l.length<=1000000)(hf:∀x∈l,Fit 1048576 x):Ctr Tryz.prog 45 [V.one (El.row qrE l)] (R.one (V.one (Leaf.val (.bool (l.all isC))))):=by
 refine bd_ Tryz.func45 Tryz.ntmps45 rfl (fun w0 A0=>?_);refine zc 12 rfl (zbO (fun m Γ H=>∃(i:Nat),l.length-i=m/\Γ=[(0,some (D.v (V.one (El.row qrE l)))),(3,some (D.val (.int .i64 (i:Int))))]/\H=[]/\i<=l.length/\(l.take i).all isC=true) ⟨0,rfl,rfl,rfl,zxg _,rfl⟩ rfl ?_);rintro m Γ H ⟨i,rfl,rfl,rfl,hi0,hall⟩;refine zc 5 rfl (tq_ rfl (jln rfl) ?_);by_cases hi:i<l.length
 .refine tq_ rfl (ltT rfl) (zl 8 rfl ?_);obtain⟨x,hx⟩:∃x,l[i]?=some x:=⟨_,zxa hi⟩;have hf_x:=hf x (zxb hx);refine zc 3 rfl (tq_ rfl (jix i hx rfl) (tq_ rfl (jlr rfl) (tc_ znO rfl (zcp x x.q rfl (hf_x.mono (by omega))) (zl 3 rfl ?_))));refine zaz rfl (fun hc=>?_) (fun hc=>?_)
  .refine zc 5 rfl ?_;exact r1_ hq_ rfl (by rw[zof hx (by simpa using hc)])
  .refine zc 5 rfl (tq_ rfl (jad (i+1) rfl) (zl 2 rfl ?_));exact nx_ ⟨i+1,rfl,rfl,rfl,hi,zi3 hx hall (by simpa using hc)⟩ rfl
 .refine tq_ rfl (ltF rfl) (zl 13 rfl ?_);exact r1_ hq_ rfl (by rw[show l.all isC=true from by have h:=hall;rwa [show i=l.length by omega,zxx] at h])
theorem zk8(l:List Ar)(hl:l.length<=1000000)(hf:∀x∈l,zck x)(vars:Nat)(hv:vars<=1000):Ctr Tryz.prog 44 [V.one (El.row arE l),V.one (Leaf.val (.int .i64 ((vars:Int))))] (R.one (V.one (Leaf.val (.bool (vaB l vars))))):=by
 refine bd_ Tryz.func44 Tryz.ntmps44 rfl (fun w0 A0=>?_);refine zc 12 rfl (zbO (fun m Γ H=>∃(i:Nat),l.length-i=m/\Γ=[(0,some (D.v (V.one (El.row arE l)))),(1,some (D.val (.int .i64 (vars:Int)))),(5,some (D.val (.int .i64 (i:Int))))]/\H=[]/\i<=l.length/\(l.take i).all (fun a=>vrB a vars)=true) ⟨0,rfl,rfl,rfl,zxg _,rfl⟩ rfl ?_);rintro m Γ H ⟨i,rfl,rfl,rfl,hi0,hall⟩;refine zc 5 rfl (tq_ rfl (jln rfl) ?_);by_cases hi:i<l.length
 .refine tq_ rfl (ltT rfl) (zl 8 rfl ?_);obtain⟨x,hx⟩:∃x,l[i]?=some x:=⟨_,zxa hi⟩;obtain⟨hxa,hxc,hxl⟩:=hf x (zxb hx);refine zc 3 rfl (tq_ rfl (jix i hx rfl) (tq_ rfl (jlr rfl) (zl 1 rfl (tc_ zsY rfl (zeI x hxa hxc hxl vars hv) (zl 3 rfl ?_)))));refine zaz rfl (fun hc=>?_) (fun hc=>?_)
  .refine zc 5 rfl ?_;exact r1_ hq_ rfl (by rw[show vaB l vars=false from zof hx (by simpa using hc)])
  .refine zc 5 rfl (tq_ rfl (jad (i+1) rfl) (zl 2 rfl ?_));exact nx_ ⟨i+1,rfl,rfl,rfl,hi,zi3 hx hall (by simpa using hc)⟩ rfl
 .refine tq_ rfl (ltF rfl) (zl 13 rfl ?_);exact r1_ hq_ rfl (by rw[show vaB l vars=true from by have h:=hall;rwa [show i=l.length by omega,zxx] at h])
theorem znH(q:Rq)(h8:q.us.length<=8)(ho8:q.os.length<=8)(hr8:q.rows.length<=8)(fu:∀a∈q.us,zck a)(fo:∀a∈q.os,zck a)(fl:∀x∈q.lo,Fit 1048576 x)(fh:∀x∈q.hi,Fit 1048576 x)(fr:∀a∈q.rows,zck a)(fg:zck q.goal)(hlo:q.lo.length<=1048576)(hhi:q.hi.length<=1048576):Ctr Tryz.prog 22 [V.agg [Leaf.val (.int .i64 q.inp),arE.row q.us,arE.row q.os]] (R.one (V.one (Leaf.val (.bool (vgB q))))):=by
 refine bd_ Tryz.func22 Tryz.ntmps22 rfl (fun w0 A0=>?_);refine zc 11 rfl ?_;by_cases hi1:q.inp<1
 .refine tq_ rfl (ltT rfl) (zl 24 rfl (za 7 rfl ?_));exact r1_ hq_ rfl (by rw[zhY (fun h=>by have:=h.i1;omega)])
 .refine tq_ rfl (ltF rfl) (zl 3 rfl ?_);by_cases hi2:256<q.inp
  .refine tq_ rfl (gtT rfl) (zl 24 rfl (zl 3 rfl ?_));exact r1_ hq_ rfl (by rw[zhY (fun h=>by have:=h.i2;omega)])
  .refine tq_ rfl (gtF rfl) (zl 4 rfl (tq_ rfl (jln rfl) (tq_ rfl (gtF rfl) (zl 4 rfl (tq_ rfl (jln rfl) ?_)))));by_cases ho1:q.os.length<1
   .refine tq_ rfl (ltT rfl) (zl 15 rfl ?_);exact r1_ hq_ rfl (by rw[zhY (fun h=>by have:=h.o1;omega)])
   .refine tq_ rfl (ltF rfl) (zl 4 rfl (tq_ rfl (jln rfl) (tq_ rfl (gtF rfl) (zl 13 rfl (zbO (fun m Γ H=>∃(i:Nat),q.us.length-i=m/\Γ=[(1,some (D.ptr 0 0)),(3,some (D.val (.int .i64 (i:Int))))]/\H=[hb_ 25 [Leaf.val (.int .i64 q.inp),El.row arE q.us,El.row arE q.os]]/\i<=q.us.length/\UN q i) ⟨0,rfl,rfl,rfl,zxg _,UN.zero⟩ rfl ?_)))));rintro m Γ H ⟨i,rfl,rfl,rfl,hi0,hU⟩;refine zc 6 rfl (tq_ rfl (jln rfl) ?_);by_cases hi:i<q.us.length
    .refine tq_ rfl (ltT rfl) (zl 8 rfl ?_);obtain⟨x,hx⟩:∃x,q.us[i]?=some x:=⟨_,zxa hi⟩;obtain⟨hxa,hxc,hxl⟩:=fu x (zxb hx);have e0:((q.inp.toNat:Nat):Int)=q.inp:=by omega
     refine dr_ 0 [] [] (dz 3 rfl (kq_ rfl (jix i hx rfl) (kq_ rfl (jlr rfl) (dz 3 rfl (kq_ rfl (jad (q.inp.toNat+i) rfl) (kc_ zsY rfl (zeI x hxa hxc hxl (q.inp.toNat+i) (by omega)) (dz 1 rfl (zad (za 1 rfl ?_)))))))));refine zaz rfl (fun hc=>?_) (fun hc=>?_)
     .refine zc 5 rfl ?_;exact r1_ hq_ rfl (by rw[zmg hx (by simpa using hc)])
     .refine zc 5 rfl (tq_ rfl (jad (i+1) rfl) (zl 2 rfl ?_));exact nx_ ⟨i+1,rfl,rfl,rfl,hi,hU.step hx (by simpa using hc)⟩ rfl
    .refine tq_ rfl (ltF rfl) (zl 9 rfl ?_);have hie:i=q.us.length:=by omega
     rw[hie] at hU;refine zc 7 rfl (tq_ rfl (jln rfl) (tq_ rfl (jad (q.inp.toNat+q.us.length) rfl) (tc_ zw7 rfl (zk8 q.os (by omega) fo (q.inp.toNat+q.us.length) (by omega)) (zl 3 rfl ?_))));exact r1_ hq_ rfl (by rw[zqG (by omega) (by omega) (by omega) hU])
theorem zr4(q:Rq)(h8:q.us.length<=8)(ho8:q.os.length<=8)(hr8:q.rows.length<=8)(fu:∀a∈q.us,zck a)(fo:∀a∈q.os,zck a)(fl:∀x∈q.lo,Fit 1048576 x)(fh:∀x∈q.hi,Fit 1048576 x)(fr:∀a∈q.rows,zck a)(fg:zck q.goal)(hlo:q.lo.length<=1048576)(hhi:q.hi.length<=1048576):Ctr Tryz.prog 23 [V.agg [qrE.row q.lo,qrE.row q.hi,arE.row q.rows],V.one (Leaf.val (.int .i64 (q.inp)))] (R.one (V.one (Leaf.val (.bool (vxB q))))):=by
 refine bd_ Tryz.func23 Tryz.ntmps23 rfl (fun w0 A0=>?_);refine zc 10 rfl ?_;by_cases hi1:q.inp<1
 .refine tq_ rfl (ltT rfl) (zl 24 rfl (zl 8 rfl ?_));exact r1_ hq_ rfl (by rw[zdR (fun h=>by have:=h.i1;omega)])
 .refine tq_ rfl (ltF rfl) (zl 2 rfl ?_);by_cases hi2:256<q.inp
  .refine tq_ rfl (gtT rfl) (zl 24 rfl (zc 5 rfl ?_));exact r1_ hq_ rfl (by rw[zdR (fun h=>by have:=h.i2;omega)])
  .refine tq_ rfl (gtF rfl) (zl 4 rfl (tq_ rfl (jln rfl) (zl 1 rfl ?_)));by_cases hl1:(q.lo.length:Int)≠q.inp
   .refine tq_ rfl (zdG rfl rfl rfl (b:=true) (bne_iff_ne.2 hl1)) (zl 22 rfl ?_);exact r1_ hq_ rfl (by rw[zdR (fun h=>hl1 h.lo)])
   .refine tq_ rfl (zdG rfl rfl rfl (b:=false) (by rw[Classical.not_not.1 hl1];simp)) (zl 4 rfl (tq_ rfl (jln rfl) (zl 1 rfl ?_)));by_cases hl2:(q.hi.length:Int)≠q.inp
    .refine tq_ rfl (zdG rfl rfl rfl (b:=true) (bne_iff_ne.2 hl2)) (zl 15 rfl ?_);exact r1_ hq_ rfl (by rw[zdR (fun h=>hl2 h.hi)])
    .refine tq_ rfl (zdG rfl rfl rfl (b:=false) (by rw[Classical.not_not.1 hl2];simp)) (zl 4 rfl (tq_ rfl (jln rfl) (tq_ rfl (gtF rfl) (zl 11 rfl (tc_ zw6 rfl (zkw q.lo (by omega) fl) (zl 2 rfl ?_))))));refine zec rfl (fun c1=>?_) (fun c1=>?_)
     .refine zl 2 rfl (tc_ zw6 rfl (zkw q.hi (by omega) fh) (zl 3 rfl ?_));refine zec rfl (fun c2=>?_) (fun c2=>?_)
      .refine zl 3 rfl (eq_ (D.val (.int .i64 ((q.inp.toNat:Nat):Int))) rfl (by rw[Int.toNat_of_nonneg (by omega)]) (tc_ zw7 rfl (zk8 q.rows (by omega) fr q.inp.toNat (by omega)) (zl 4 rfl ?_)));refine zaz rfl (fun c3=>?_) (fun c3=>?_)
       .refine zc 5 rfl ?_;exact r1_ hq_ rfl (by rw[zdR (fun h=>by rw[zfJ.2 h.rows] at c3;cases c3)])
       .refine zc 9 rfl (zbO (fun m Γ H=>∃(i:Nat),q.lo.length-i=m/\Γ=[(1,some (D.val (.int .i64 q.inp))),(2,some (D.ptr 0 0)),(5,some (D.val (.int .i64 (i:Int))))]/\H=[hb_ 28 [El.row qrE q.lo,El.row qrE q.hi,El.row arE q.rows]]/\i<=q.lo.length/\LN q i) ⟨0,rfl,rfl,rfl,zxg _,LN.zero⟩ rfl ?_);rintro m Γ H ⟨i,rfl,rfl,rfl,hi0,hN⟩;refine zc 5 rfl ?_;by_cases hi:i<q.lo.length
        .refine tq_ rfl (ltT rfl) (zl 8 rfl ?_);obtain⟨x,hx⟩:∃x,q.lo[i]?=some x:=⟨_,zxa (by omega)⟩;obtain⟨y,hy⟩:∃y,q.hi[i]?=some y:=⟨_,zxa (by omega)⟩;have hf_x:=fl x (zxb hx);have hf_y:=fh y (zxb hy);refine dr_ 0 [] [] (dz 3 rfl (kq_ rfl (jix i hx rfl) (kq_ rfl (jlr rfl) (dz 3 rfl (kq_ rfl (jix i hy rfl) (kq_ rfl (jlr rfl) (kc_ zw5 rfl (zpc x (x.q) rfl (hf_x.mono (by omega)) y (y.q) rfl (hf_y.mono (by omega))) ?_)))))));by_cases hgt:¬x.q<=y.q
         .refine kq_ rfl (gtT rfl (by have h:¬zgc x.q y.q<=0:=fun e=>hgt (zeX.1 e);omega)) (zad (za 7 rfl ?_));exact r1_ hq_ rfl (by rw[zdR (fun h=>hgt (h.le i x y hx hy))])
         .refine kq_ rfl (gtF rfl (by have:=zeX.2 (Classical.not_not.1 hgt);omega)) (zad (za 7 rfl (tq_ rfl (jad (i+1) rfl) (zl 2 rfl ?_))));exact nx_ ⟨i+1,rfl,rfl,rfl,hi,hN.step hx hy (zfB.1 (by simpa using c1) x (zxb hx)) (zfB.1 (by simpa using c2) y (zxb hy)) (Classical.not_not.1 hgt)⟩ rfl
        .refine tq_ rfl (ltF rfl) (zl 13 rfl ?_);exact r1_ hq_ rfl (by rw[zqC (by omega) (by omega) (by omega) (by omega) (by rw[show q.lo.length=i by omega];exact hN),show vaB q.rows q.inp.toNat=true from by simpa using c3])
      .refine zl 14 rfl ?_;exact r1_ hq_ rfl (by rw[zdR (fun h=>by rw[zfB.2 h.ch] at c2;cases c2)])
     .refine zl 20 rfl ?_;exact r1_ hq_ rfl (by rw[zdR (fun h=>by rw[zfB.2 h.cl] at c1;cases c1)])
theorem zoV(q:Rq)(h8:q.us.length<=8)(ho8:q.os.length<=8)(hr8:q.rows.length<=8)(fu:∀a∈q.us,zck a)(fo:∀a∈q.os,zck a)(fl:∀x∈q.lo,Fit 1048576 x)(fh:∀x∈q.hi,Fit 1048576 x)(fr:∀a∈q.rows,zck a)(fg:zck q.goal)(hlo:q.lo.length<=1048576)(hhi:q.hi.length<=1048576)(hg:vgB q=true):Ctr Tryz.prog 25 [V.agg [Leaf.val (.int .i64 q.inp),arE.row q.us,arE.row q.os]] (R.one (V.one (Leaf.val (.int .i64 (((q.inp.toNat+q.us.length:Nat):Int)))))):=by
 refine bd_ Tryz.func25 Tryz.ntmps25 rfl (fun w0 A0=>?_);have hvg:=zdq.1 hg;have i1:=hvg.i1;have i2:=hvg.i2;have e0:((q.inp.toNat:Nat):Int)=q.inp:=by omega
 refine zc 10 rfl (tc_ zw9 rfl (znH q h8 ho8 hr8 fu fo fl fh fr fg hlo hhi) (is_ true rfl (hg) (zl 12 rfl (tq_ rfl (jln rfl) (tq_ rfl (jad (q.inp.toNat+q.us.length) rfl) (zl 3 rfl ?_))))));exact r1_ hq_ rfl rfl
theorem zeL(q:Rq)(h8:q.us.length<=8)(ho8:q.os.length<=8)(hr8:q.rows.length<=8)(fu:∀a∈q.us,zck a)(fo:∀a∈q.os,zck a)(fl:∀x∈q.lo,Fit 1048576 x)(fh:∀x∈q.hi,Fit 1048576 x)(fr:∀a∈q.rows,zck a)(fg:zck q.goal)(hlo:q.lo.length<=1048576)(hhi:q.hi.length<=1048576):Ctr Tryz.prog 7 [rqV q] (R.one (V.one (Leaf.val (.bool (vqB q))))):=by
 refine bd_ Tryz.func7 Tryz.ntmps7 rfl (fun w0 A0=>?_);refine zc 7 rfl (dr_ 0 [] [] (dz 2 rfl (kc_ zw9 rfl (znH q h8 ho8 hr8 fu fo fl fh fr fg hlo hhi) (dz 1 rfl ?_))));refine zkG rfl (fun g1=>?_) (fun g1=>?_)
 .refine dz 16 rfl (zad (za 1 rfl ?_));exact r1_ hq_ rfl (by rw[zlk,g1] <;> rfl)
 .refine dz 5 rfl (kc_ fn23 rfl (zr4 q h8 ho8 hr8 fu fo fl fh fr fg hlo hhi) (dz 2 rfl ?_));refine zkG rfl (fun x1=>?_) (fun x1=>?_)
  .refine dz 4 rfl ?_;have hvg:=zdq.1 g1;have i1:=hvg.i1;have i2:=hvg.i2;refine dz 4 rfl (zad (za 1 rfl ?_));exact r1_ hq_ rfl (by rw[zlk,g1,x1] <;> rfl)
  .refine dz 4 rfl ?_;have hvg:=zdq.1 g1;have i1:=hvg.i1;have i2:=hvg.i2;refine kc_ fn25 rfl (zoV q h8 ho8 hr8 fu fo fl fh fr fg hlo hhi g1) (kc_ zsY rfl (zeI q.goal fg.1 fg.2.1 fg.2.2 (q.inp.toNat+q.us.length) (by omega)) (dz 2 rfl (zad (za 1 rfl ?_))));exact r1_ hq_ rfl (by rw[zlk,g1,x1] <;> rfl)
theorem zsB(l:List Ar)(f:Nat)(ls:List Leaf)(g:Ar->Bool)(hl:l.length<=1000000)(hff:∀x∈l,zck x)(hf:zay Tryz.prog f)(hp:∀x∈l,Ctr Tryz.prog f ([arV x]++zpq ls) (R.one (V.one (Leaf.val (.bool (g x)))))):Ctr Tryz.prog 88 [V.one (El.row arE l),V.one (Leaf.rep (zdA f ls))] (R.one (V.one (Leaf.val (.int .i64 ((ziD g l 0)))))):=by
 refine bd_ Tryz.func88 Tryz.ntmps88 rfl (fun w0 A0=>?_);refine zc 9 rfl (tq_ rfl (jln rfl) (zl 4 rfl (zbO (fun m Γ H=>∃(i:Nat),l.length-i=m/\Γ=[(0,some (D.v (V.one (El.row arE l)))),(1,some (D.rep (zdA f ls))),(7,some (D.val (.int .i64 ((l.length:Nat):Int)))),(8,some (D.val (.int .i64 (i:Int))))]/\H=[]/\i<=l.length/\ziD g l 0=ziD g (l.drop i) i) ⟨0,rfl,rfl,rfl,zxg _,rfl⟩ rfl ?_)));rintro m Γ H ⟨i,rfl,rfl,rfl,hi0,ho⟩;refine zc 2 rfl ?_;by_cases hi:i<l.length
 .refine tq_ rfl (ltT rfl) (zl 15 rfl ?_);obtain⟨x,hx⟩:∃x,l[i]?=some x:=⟨_,zxa hi⟩;obtain⟨hxa,hxc,hxl⟩:=hff x (zxb hx);refine zc 4 rfl (tq_ rfl (jix i hx rfl) (tq_ rfl (jlr rfl) (te_ rfl (zjd rfl rfl hf rfl (hp x (zxb hx))) (zl 2 rfl ?_))));refine zaz rfl (fun hc=>?_) (fun hc=>?_)
  .refine zc 6 rfl ?_;exact r1_ hq_ rfl (by rw[zpz ho hx (by simpa using hc)])
  .refine zc 4 rfl (tq_ rfl (jad (i+1) rfl) (zl 2 rfl ?_));exact nx_ ⟨i+1,rfl,rfl,rfl,hi,znE ho hx (by simpa using hc)⟩ rfl
 .refine tq_ rfl (ltF rfl) (zl 14 rfl ?_);exact r1_ hq_ rfl (by rw[zpA ho (by omega)])
theorem znG(l:List Ar)(f:Nat)(ls:List Leaf)(g:Ar->Bool)(hl:l.length<=1000000)(hff:∀x∈l,zck x)(hf:zay Tryz.prog f)(hp:∀x∈l,Ctr Tryz.prog f ([arV x]++zpq ls) (R.one (V.one (Leaf.val (.bool (g x)))))):Ctr Tryz.prog 59 [V.one (El.row arE l),V.one (Leaf.rep (zdA f ls))] (R.one (V.one (Leaf.val (.bool (l.any g))))):=by
 refine bd_ Tryz.func59 Tryz.ntmps59 rfl (fun w0 A0=>?_);refine zc 9 rfl (tc_ fn88 rfl (zsB l f ls g hl hff hf hp) ?_);by_cases h0:0<=ziD g l 0
 .refine tq_ rfl (geT rfl) (zl 3 rfl ?_);exact r1_ hq_ rfl (by rw[<-zjG g l 0,decide_eq_true h0])
 .refine tq_ rfl (geF rfl) (zl 3 rfl ?_);exact r1_ hq_ rfl (by rw[<-zjG g l 0,decide_eq_false h0])
theorem zmI(a:Ar)(hfit:∀t∈a.ts,Fit 1048576 t.c)(hfc:Fit 1048576 a.c)(hal:a.ts.length<=1048576)(vars:Nat)(hv:vars<=1000)(n:Int)(hn:n=(vars:Int)):Ctr Tryz.prog 60 [arV a,V.one (Leaf.rep (zbf [Leaf.val (.int .i64 n)]))] (R.one (V.one (Leaf.val (.bool ((!vrB a vars)))))):=by
 refine bd_ Tryz.func60 Tryz.ntmps60 rfl (fun w0 A0=>?_);refine zc 9 rfl (tq_ rfl (jli rfl) (eq_ (D.val (.int .i64 (vars:Int))) rfl (by rw[hn]) (tc_ zre rfl (zdK a hfit hfc hal vars hv) (zl 4 rfl ?_))));exact r1_ hq_ rfl rfl
theorem znJ(a:Ar)(hfit:∀t∈a.ts,Fit 1048576 t.c)(hfc:Fit 1048576 a.c)(hal:a.ts.length<=1048576)(vars:Nat)(hv:vars<=1000):Ctr Tryz.prog 86 [arV a,V.one (Leaf.rep (zbf [Leaf.val (.int .i64 (vars:Int))]))] (R.one (V.one (Leaf.val (.bool ((!vrB a vars)))))):=by
 refine bd_ Tryz.func86 Tryz.ntmps86 rfl (fun w0 A0=>?_);refine zc 9 rfl (tq_ rfl (jli rfl) (tc_ zre rfl (zdK a hfit hfc hal vars hv) (zl 4 rfl ?_)));exact r1_ hq_ rfl rfl
theorem znI(l:List Ar)(hl:l.length<=1000000)(hf:∀x∈l,zck x)(vars:Nat)(hv:vars<=1000):Ctr Tryz.prog 57 [V.one (El.row arE l),V.one (Leaf.val (.int .i64 ((vars:Int))))] (R.one (V.one (Leaf.val (.bool (vaB l vars))))):=by
 refine bd_ Tryz.func57 Tryz.ntmps57 rfl (fun w0 A0=>?_);refine zc 9 rfl (zeu 3 rfl rfl rfl (te_ rfl (zcP [Leaf.rep (zbf [Leaf.val (.int .i64 (vars:Int))])] rfl rfl) (tc_ zw2 rfl (znG l 86 _ (fun a=>!vrB a vars) (by omega) hf fn86 (fun x hx=>znJ x (hf x hx).1 (hf x hx).2.1 (hf x hx).2.2 vars hv)) (zl 4 rfl ?_))));exact r1_ hq_ rfl (by rw[<-zoe])
theorem zsC(q:Rq)(h8:q.us.length<=8)(ho8:q.os.length<=8)(hr8:q.rows.length<=8)(fu:∀a∈q.us,zck a)(fo:∀a∈q.os,zck a)(fl:∀x∈q.lo,Fit 1048576 x)(fh:∀x∈q.hi,Fit 1048576 x)(fr:∀a∈q.rows,zck a)(fg:zck q.goal)(hlo:q.lo.length<=1048576)(hhi:q.hi.length<=1048576):Ctr Tryz.prog 31 [V.agg [Leaf.val (.int .i64 q.inp),arE.row q.us,arE.row q.os]] (R.one (V.one (Leaf.val (.bool (vgB q))))):=by
 refine bd_ Tryz.func31 Tryz.ntmps31 rfl (fun w0 A0=>?_);refine zc 11 rfl ?_;by_cases hi1:q.inp<1
 .refine tq_ rfl (ltT rfl) (zl 24 rfl (za 7 rfl ?_));exact r1_ hq_ rfl (by rw[zhY (fun h=>by have:=h.i1;omega)])
 .refine tq_ rfl (ltF rfl) (zl 3 rfl ?_);by_cases hi2:256<q.inp
  .refine tq_ rfl (gtT rfl) (zl 24 rfl (zl 3 rfl ?_));exact r1_ hq_ rfl (by rw[zhY (fun h=>by have:=h.i2;omega)])
  .refine tq_ rfl (gtF rfl) (zl 4 rfl (tq_ rfl (jln rfl) (tq_ rfl (gtF rfl) (zl 4 rfl (tq_ rfl (jln rfl) ?_)))));by_cases ho1:q.os.length<1
   .refine tq_ rfl (ltT rfl) (zl 15 rfl ?_);exact r1_ hq_ rfl (by rw[zhY (fun h=>by have:=h.o1;omega)])
   .refine tq_ rfl (ltF rfl) (zl 4 rfl (tq_ rfl (jln rfl) (tq_ rfl (gtF rfl) (zl 11 rfl (tq_ rfl (jln rfl) (zl 4 rfl ?_))))));refine zbO (fun m Γ H=>∃(i:Nat),q.us.length-i=m/\Γ=[(1,some (D.ptr 0 0)),(32,some (D.v (V.one (El.row arE q.us)))),(33,some (D.val (.int .i64 ((q.us.length:Nat):Int)))),(34,some (D.val (.int .i64 (i:Int))))]/\H=[hb_ 25 [Leaf.val (.int .i64 q.inp),El.row arE q.us,El.row arE q.os]]/\i<=q.us.length/\UN q i) ⟨0,rfl,rfl,rfl,zxg _,UN.zero⟩ rfl ?_;rintro m Γ H ⟨i,rfl,rfl,rfl,hi0,hU⟩;refine zc 2 rfl ?_;by_cases hi:i<q.us.length
    .refine tq_ rfl (ltT rfl) (zl 9 rfl ?_);obtain⟨x,hx⟩:∃x,q.us[i]?=some x:=⟨_,zxa hi⟩;obtain⟨hxa,hxc,hxl⟩:=fu x (zxb hx);have e0:((q.inp.toNat:Nat):Int)=q.inp:=by omega
     refine zc 2 rfl (tq_ rfl (jix i hx rfl) (tq_ rfl (jlr rfl) (zl 11 rfl (tq_ rfl (jad (q.inp.toNat+i) rfl) (tc_ zre rfl (zdK x hxa hxc hxl (q.inp.toNat+i) (by omega)) (zl 3 rfl ?_))))));refine zaz rfl (fun hc=>?_) (fun hc=>?_)
     .refine zc 5 rfl ?_;exact r1_ hq_ rfl (by rw[zmg hx (by simpa using hc)])
     .refine zc 4 rfl (tq_ rfl (jad (i+1) rfl) (zl 2 rfl (zan 1 (zbq 1 rfl ?_))));exact nx_ ⟨i+1,rfl,rfl,rfl,hi,hU.step hx (by simpa using hc)⟩ rfl
    .refine tq_ rfl (ltF rfl) (zl 10 rfl ?_);have hie:i=q.us.length:=by omega
     rw[hie] at hU;refine zc 7 rfl (tq_ rfl (jln rfl) (tq_ rfl (jad (q.inp.toNat+q.us.length) rfl) (tc_ fn57 rfl (znI q.os (by omega) fo (q.inp.toNat+q.us.length) (by omega)) (zl 3 rfl ?_))));exact r1_ hq_ rfl (by rw[zqG (by omega) (by omega) (by omega) hU])
theorem zr5(q:Rq)(h8:q.us.length<=8)(ho8:q.os.length<=8)(hr8:q.rows.length<=8)(fu:∀a∈q.us,zck a)(fo:∀a∈q.os,zck a)(fl:∀x∈q.lo,Fit 1048576 x)(fh:∀x∈q.hi,Fit 1048576 x)(fr:∀a∈q.rows,zck a)(fg:zck q.goal)(hlo:q.lo.length<=1048576)(hhi:q.hi.length<=1048576):Ctr Tryz.prog 32 [V.agg [qrE.row q.lo,qrE.row q.hi,arE.row q.rows],V.one (Leaf.val (.int .i64 (q.inp)))] (R.one (V.one (Leaf.val (.bool (vxB q))))):=by
 refine bd_ Tryz.func32 Tryz.ntmps32 rfl (fun w0 A0=>?_);refine zc 11 rfl ?_;by_cases hi1:q.inp<1
 .refine tq_ rfl (ltT rfl) (zl 24 rfl (zl 8 rfl ?_));exact r1_ hq_ rfl (by rw[zdR (fun h=>by have:=h.i1;omega)])
 .refine tq_ rfl (ltF rfl) (zl 2 rfl ?_);by_cases hi2:256<q.inp
  .refine tq_ rfl (gtT rfl) (zl 24 rfl (zc 5 rfl ?_));exact r1_ hq_ rfl (by rw[zdR (fun h=>by have:=h.i2;omega)])
  .refine tq_ rfl (gtF rfl) (zl 4 rfl (tq_ rfl (jln rfl) (zl 1 rfl ?_)));by_cases hl1:(q.lo.length:Int)≠q.inp
   .refine tq_ rfl (zdG rfl rfl rfl (b:=true) (bne_iff_ne.2 hl1)) (zl 22 rfl ?_);exact r1_ hq_ rfl (by rw[zdR (fun h=>hl1 h.lo)])
   .refine tq_ rfl (zdG rfl rfl rfl (b:=false) (by rw[Classical.not_not.1 hl1];simp)) (zl 4 rfl (tq_ rfl (jln rfl) (zl 1 rfl ?_)));by_cases hl2:(q.hi.length:Int)≠q.inp
    .refine tq_ rfl (zdG rfl rfl rfl (b:=true) (bne_iff_ne.2 hl2)) (zl 15 rfl ?_);exact r1_ hq_ rfl (by rw[zdR (fun h=>hl2 h.hi)])
    .refine tq_ rfl (zdG rfl rfl rfl (b:=false) (by rw[Classical.not_not.1 hl2];simp)) (zl 4 rfl (tq_ rfl (jln rfl) (tq_ rfl (gtF rfl) (zl 11 rfl (tq_ rfl (jln rfl) (zl 4 rfl ?_))))));refine zbO (fun m Γ H=>∃(i:Nat),q.lo.length-i=m/\Γ=[(2,some (D.ptr 0 0)),(3,some (D.ptr 1 0)),(34,some (D.v (V.one (El.row qrE q.lo)))),(35,some (D.val (.int .i64 ((q.lo.length:Nat):Int)))),(36,some (D.val (.int .i64 (i:Int))))]/\H=[hb_ 28 [El.row qrE q.lo,El.row qrE q.hi,El.row arE q.rows],hb_ 3 [Leaf.val (.int .i64 q.inp)]]/\i<=q.lo.length/\LN q i) ⟨0,rfl,rfl,rfl,zxg _,LN.zero⟩ rfl ?_;rintro m Γ H ⟨i,rfl,rfl,rfl,hi0,hN⟩;refine zc 2 rfl ?_;by_cases hi:i<q.lo.length
     .refine tq_ rfl (ltT rfl) (zl 9 rfl ?_);obtain⟨x,hx⟩:∃x,q.lo[i]?=some x:=⟨_,zxa (by omega)⟩;obtain⟨y,hy⟩:∃y,q.hi[i]?=some y:=⟨_,zxa (by omega)⟩;have hf_x:=fl x (zxb hx);have hf_y:=fh y (zxb hy);refine zc 2 rfl (tq_ rfl (jix i hx rfl) (tq_ rfl (jlr rfl) (zl 6 rfl (dr_ 0 [] [] (dz 1 rfl (kc_ zoM rfl (zdS x (x.q) rfl (hf_x.mono (by omega))) (dz 2 rfl ?_)))))));refine zkG rfl (fun c1=>?_) (fun c1=>?_)
      .refine dz 3 rfl (kq_ rfl (jix i hy rfl) (kq_ rfl (jlr rfl) (kc_ zoM rfl (zdS y (y.q) rfl (hf_y.mono (by omega))) (dz 3 rfl ?_))));refine zkG rfl (fun c2=>?_) (fun c2=>?_)
       .refine dz 4 rfl (kq_ rfl (jix i hy rfl) (kq_ rfl (jlr rfl) (kc_ zt1 rfl (ztS x (x.q) rfl (hf_x.mono (by omega)) y (y.q) rfl (hf_y.mono (by omega))) ?_)));by_cases hgt:¬x.q<=y.q
        .refine kq_ rfl (gtT rfl (by have h:¬zgc x.q y.q<=0:=fun e=>hgt (zeX.1 e);omega)) (dz 1 rfl (zad (za 7 rfl ?_)));exact r1_ hq_ rfl (by rw[zdR (fun h=>hgt (h.le i x y hx hy))])
        .refine kq_ rfl (gtF rfl (by have:=zeX.2 (Classical.not_not.1 hgt);omega)) (dz 1 rfl (zad (za 6 rfl (tq_ rfl (jad (i+1) rfl) (zl 2 rfl (zan 2 (zbq 2 rfl ?_)))))));exact nx_ ⟨i+1,rfl,rfl,rfl,hi,hN.step hx hy (by simpa using c1) (by simpa using c2) (Classical.not_not.1 hgt)⟩ rfl
       .refine dz 9 rfl (zad (za 7 rfl ?_));exact r1_ hq_ rfl (by rw[zdR (fun h=>by rw[h.ch y (zxb hy)] at c2;cases c2)])
      .refine dz 18 rfl (zad (za 7 rfl ?_));exact r1_ hq_ rfl (by rw[zdR (fun h=>by rw[h.cl x (zxb hx)] at c1;cases c1)])
     .refine tq_ rfl (ltF rfl) (zl 10 rfl ?_);have e0:((q.inp.toNat:Nat):Int)=q.inp:=by omega
      refine zc 3 rfl (zeu 3 rfl rfl rfl (te_ rfl (zcP [Leaf.rep (zbf [Leaf.val (.int .i64 q.inp)])] rfl rfl) (tc_ zw2 rfl (znG q.rows 60 _ (fun a=>!vrB a q.inp.toNat) (by omega) fr fn60 (fun x hx=>zmI x (fr x hx).1 (fr x hx).2.1 (fr x hx).2.2 q.inp.toNat (by omega) q.inp (by omega))) (zl 4 rfl ?_))));exact r1_ hq_ rfl (by rw[zoe,zqC (by omega) (by omega) (by omega) (by omega) (by rw[show q.lo.length=i by omega];exact hN)])
theorem zsa(q:Rq)(h8:q.us.length<=8)(ho8:q.os.length<=8)(hr8:q.rows.length<=8)(fu:∀a∈q.us,zck a)(fo:∀a∈q.os,zck a)(fl:∀x∈q.lo,Fit 1048576 x)(fh:∀x∈q.hi,Fit 1048576 x)(fr:∀a∈q.rows,zck a)(fg:zck q.goal)(hlo:q.lo.length<=1048576)(hhi:q.hi.length<=1048576):Ctr Tryz.prog 12 [rqV q] (R.one (V.one (Leaf.val (.bool (vqB q))))):=by
 refine bd_ Tryz.func12 Tryz.ntmps12 rfl (fun w0 A0=>?_);refine zc 10 rfl (tc_ fn31 rfl (zsC q h8 ho8 hr8 fu fo fl fh fr fg hlo hhi) (zl 1 rfl ?_));refine zec rfl (fun g1=>?_) (fun g1=>?_)
 .refine zl 23 rfl ?_;exact r1_ hq_ rfl (by rw[zlk,g1] <;> rfl)
 .refine zl 5 rfl (tc_ fn32 rfl (zr5 q h8 ho8 hr8 fu fo fl fh fr fg hlo hhi) (zl 2 rfl ?_));refine zec rfl (fun x1=>?_) (fun x1=>?_)
  .have hvg:=zdq.1 g1;have i1:=hvg.i1;have i2:=hvg.i2;have e0:((q.inp.toNat:Nat):Int)=q.inp:=by omega
   refine zl 15 rfl ?_;exact r1_ hq_ rfl (by rw[zlk,g1,x1] <;> rfl)
  .have hvg:=zdq.1 g1;have i1:=hvg.i1;have i2:=hvg.i2;have e0:((q.inp.toNat:Nat):Int)=q.inp:=by omega
   refine zl 8 rfl (tq_ rfl (jln rfl) (tq_ rfl (jad (q.inp.toNat+q.us.length) rfl) (tc_ zre rfl (zdK q.goal fg.1 fg.2.1 fg.2.2 (q.inp.toNat+q.us.length) (by omega)) (zl 4 rfl ?_))));exact r1_ hq_ rfl (by rw[zlk,g1,x1] <;> rfl)
theorem zpL(s:Sc):Ctr Tryz.prog 6 [V.one (Leaf.val .nilIface),scV s,V.one (Leaf.val (.int .i64 (0)))] (R.tup [V.agg [Leaf.val (.int .i64 0),nilL,nilL,nilL,nilL,nilL,nilL,Leaf.val (.bool false),nilL,nilL,nilL,nilL],V.one (Leaf.val (.int .i64 1))]):=by
 refine bd_ Tryz.func6 Tryz.ntmps6 rfl (fun w0 A0=>?_);refine zc 13 rfl (tq_ rfl (zl2 rfl rfl rfl (by kernel_rfl)) (zl 24 rfl ?_));exact r2_ hq_ rfl rfl
theorem zkQ(q:Rq)(h8:q.us.length<=8)(ho8:q.os.length<=8)(hr8:q.rows.length<=8)(fu:∀a∈q.us,zck a)(fo:∀a∈q.os,zck a)(fl:∀x∈q.lo,Fit 1048576 x)(fh:∀x∈q.hi,Fit 1048576 x)(fr:∀a∈q.rows,zck a)(fg:zck q.goal)(hlo:q.lo.length<=1048576)(hhi:q.hi.length<=1048576)(hv:vqB q=false):Ctr Tryz.prog 6 [V.one (Leaf.val (ifV 48 [.string ⟨#[]⟩,.int .i64 0])),V.agg (rqL q++[El.row dcE [],El.row lmE []]),V.one (Leaf.val (.int .i64 (0)))] (R.tup [V.agg [Leaf.val (.int .i64 0),nilL,nilL,nilL,nilL,nilL,nilL,Leaf.val (.bool false),nilL,nilL,nilL,nilL],V.one (Leaf.val (.int .i64 1))]):=by
 refine bd_ Tryz.func6 Tryz.ntmps6 rfl (fun w0 A0=>?_);refine zc 13 rfl (tq_ rfl (zgx rfl rfl rfl (by kernel_rfl)) (zl 3 rfl (tc_ fn12 rfl (zsa q h8 ho8 hr8 fu fo fl fh fr fg hlo hhi) (is_ false rfl (hv) (zl 20 rfl ?_)))));exact r2_ hq_ rfl rfl
theorem zmK(q:Rq)(h8:q.us.length<=8)(ho8:q.os.length<=8)(hr8:q.rows.length<=8)(fu:∀a∈q.us,zck a)(fo:∀a∈q.os,zck a)(fl:∀x∈q.lo,Fit 1048576 x)(fh:∀x∈q.hi,Fit 1048576 x)(fr:∀a∈q.rows,zck a)(fg:zck q.goal)(hlo:q.lo.length<=1048576)(hhi:q.hi.length<=1048576)(hw:wL q.lo+wL q.hi+wG q.us<=1048576)(hv:vqB q=true):Ctr Tryz.prog 6 [V.one (Leaf.val (ifV 48 [.string ⟨#[]⟩,.int .i64 0])),V.agg (rqL q++[El.row dcE [],El.row lmE []]),V.one (Leaf.val (.int .i64 (0)))] (R.tup [scV (zdI za9 ⟨zuj q,[],[]⟩ 0),V.one (Leaf.val (.int .i64 0))]):=by
 have h:=zrA.1 hv;have hq:=zrD h h8 ho8 hr8 hw fu fo fl fh fr fg;have e:rqL q=quL (zuj q):=by have e:=zur h;injection e
 rw[e];exact zdH ⟨zuj q,[],[]⟩ ⟨hq,fun d hd=>by simp at hd,by simp,fun m hm=>by simp at hm,by simp⟩ (by simp) 0 (by decide) (by decide) (.inl rfl)
set_option maxHeartbeats 2000000 in
theorem zlF(l:List Nat)(hb:∀x∈l,x<256)(bits:Int)(q:Rq)(fu:∀a∈q.us,zck a)(fo:∀a∈q.os,zck a)(fl:∀x∈q.lo,Fit 1048576 x)(fh:∀x∈q.hi,Fit 1048576 x)(fr:∀a∈q.rows,zck a)(fg:zck q.goal)(hlo:q.lo.length<=1048576)(hhi:q.hi.length<=1048576)(hw:wL q.lo+wL q.hi+wG q.us<=1048576):Ctr Tryz.prog 3 [V.one (El.row u8E l),V.one (Leaf.val (.int .i64 (bits))),rqV q] (R.one (V.one (Leaf.val (.bool true)))):=by
 refine bd_ Tryz.func3 Tryz.ntmps3 rfl (fun w0 A0=>?_);refine zc 9 rfl (tc_ fn4 rfl (ztn) (zl 10 rfl (tq_ rfl (jln rfl) ?_)));by_cases hl3:300<l.length
 .refine tq_ rfl (gtT rfl) (zl 24 rfl (zc 5 rfl ?_));exact r1_ hq_ rfl rfl
 .refine tq_ rfl (gtF rfl) (zl 4 rfl (tq_ rfl (jln rfl) ?_));by_cases hq2:8<q.us.length
  .refine tq_ rfl (gtT rfl) (zl 23 rfl ?_);exact r1_ hq_ rfl rfl
  .refine tq_ rfl (gtF rfl) (zl 5 rfl (tq_ rfl (jln rfl) ?_));by_cases hq3:8<q.rows.length
   .refine tq_ rfl (gtT rfl) (zl 16 rfl ?_);exact r1_ hq_ rfl rfl
   .refine tq_ rfl (gtF rfl) (zl 5 rfl (tq_ rfl (jln rfl) ?_));by_cases hq4:8<q.os.length
    .refine tq_ rfl (gtT rfl) (zl 9 rfl ?_);exact r1_ hq_ rfl rfl
    .refine tq_ rfl (gtF rfl) (zl 7 rfl ?_);have hl:l.length<=1000000:=by omega
     have h8:q.us.length<=8:=by omega
     have ho8:q.os.length<=8:=by omega
     have hr8:q.rows.length<=8:=by omega
     have hsm:=zgW l 0;have hs:SOk (⟨(zdl l 0).1,[],[]⟩:Sc):=⟨znb l 0,fun d hd=>by simp at hd,by simp,fun m hm=>by simp at hm,by simp⟩;refine nz_ [so 0 (D.v (V.one (El.row u8E l))),so 1 (D.val (.int .i64 bits)),so 5 (D.ptr 0 0)] [hb_ 37 [Leaf.val (.int .i64 q.inp),El.row arE q.us,El.row arE q.os,El.row qrE q.lo,El.row qrE q.hi,El.row arE q.rows,El.row trE q.goal.ts,Leaf.val (.bool q.goal.c.neg),zaf q.goal.c.n,zaf q.goal.c.d]] rfl rfl (zc 2 rfl (tc_ fn5 rfl (zhv l (by omega) hb) (zl 8 rfl ?_)));refine tc_ fn6 rfl (zpL (⟨(zdl l 0).1,[],[]⟩:Sc)) (zl 9 rfl ?_);by_cases hbad:bits<0\/4096<bits
     .refine nf_ [2] [so 1 _,so 5 _,so 7 (D.ptr 1 0),so 9 (D.val (.int .i64 1))] [_,hb_ 43 (quL ((zdl l 0).1)++[El.row dcE ([]),El.row lmE ([])]),none] rfl rfl rfl (zc 2 rfl (tq_ rfl (zcO (vs:=[.string ⟨#[]⟩,.int .i64 0]) rfl rfl (by kernel_rfl)) (zl 2 rfl (tc_ fn6 rfl (zgC (⟨(zdl l 0).1,[],[]⟩:Sc) hs bits hbad) (zl 9 rfl ?_)))));by_cases hv:vqB q=true
      .refine nf_ [1,3] [so 1 _,so 5 _,so 9 _,so 11 (D.val (.int .i64 1))] [_,none,none,none] rfl rfl rfl (zc 2 rfl (tq_ rfl (zcO (vs:=[.string ⟨#[]⟩,.int .i64 0]) rfl rfl (by kernel_rfl)) (zl 2 rfl (tc_ fn6 rfl (zmK q h8 ho8 hr8 fu fo fl fh fr fg hlo hhi hw hv) (zl 9 rfl ?_)))));refine nf_ [4] [so 1 _,so 5 _,so 9 _,so 11 _,so 13 (D.val (.int .i64 0))] [_,none,none,none,none] rfl rfl rfl (zc 2 rfl (tq_ rfl (eqT rfl rfl) (zl 2 rfl (tq_ rfl (eqT rfl rfl) (zl 1 rfl ?_)))));by_cases hb0:bits<0
       .refine tq_ rfl (ltT rfl) (zl 4 rfl (tq_ rfl (zaF rfl rfl rfl un4 (d:=true) (by simp)) (zl 3 rfl (tq_ rfl (eqF rfl (by decide)) (zl 1 rfl (tc_ fn7 rfl (zeL q h8 ho8 hr8 fu fo fl fh fr fg hlo hhi) (is_ true rfl (hv) (zl 1 rfl (tq_ rfl (zaF rfl rfl rfl un4 (d:=true) (by simp)) ?_)))))))));refine zl 4 rfl ?_;exact r1_ hq_ rfl rfl
       .refine tq_ rfl (ltF rfl) (zl 2 rfl (tq_ rfl (gtT rfl) (zl 1 rfl (tq_ rfl (zaF rfl rfl rfl un4 (d:=true) (by simp)) (zl 3 rfl (tq_ rfl (eqF rfl (by decide)) (zl 1 rfl (tc_ fn7 rfl (zeL q h8 ho8 hr8 fu fo fl fh fr fg hlo hhi) (is_ true rfl (hv) ?_)))))))));refine zl 1 rfl (tq_ rfl (zaF rfl rfl rfl un4 (d:=true) (by simp)) (zl 4 rfl ?_));exact r1_ hq_ rfl rfl
      .refine nf_ [1,3] [so 1 _,so 5 _,so 9 _,so 11 (D.val (.int .i64 1))] [_,none,none,none] rfl rfl rfl (zc 2 rfl (tq_ rfl (zcO (vs:=[.string ⟨#[]⟩,.int .i64 0]) rfl rfl (by kernel_rfl)) (zl 2 rfl (tc_ fn6 rfl (zkQ q h8 ho8 hr8 fu fo fl fh fr fg hlo hhi (by simpa using hv)) (zl 9 rfl ?_)))));refine nf_ [4] [so 1 _,so 5 _,so 9 _,so 11 _,so 13 (D.val (.int .i64 1))] [_,none,none,none,none] rfl rfl rfl (zc 2 rfl (tq_ rfl (eqT rfl rfl) (zl 2 rfl (tq_ rfl (eqT rfl rfl) (zl 1 rfl ?_)))));by_cases hb0:bits<0
       .refine tq_ rfl (ltT rfl) (zl 4 rfl (tq_ rfl (zaF rfl rfl rfl un4 (d:=true) (by simp)) (zl 3 rfl (tq_ rfl (eqT rfl rfl) (zl 1 rfl (tc_ fn7 rfl (zeL q h8 ho8 hr8 fu fo fl fh fr fg hlo hhi) (is_ false rfl (by simpa using hv) (zl 1 rfl (tq_ rfl (zaF rfl rfl rfl un4 (d:=true) (by simp)) ?_)))))))));refine zl 4 rfl ?_;exact r1_ hq_ rfl rfl
       .refine tq_ rfl (ltF rfl) (zl 2 rfl (tq_ rfl (gtT rfl) (zl 1 rfl (tq_ rfl (zaF rfl rfl rfl un4 (d:=true) (by simp)) (zl 3 rfl (tq_ rfl (eqT rfl rfl) (zl 1 rfl (tc_ fn7 rfl (zeL q h8 ho8 hr8 fu fo fl fh fr fg hlo hhi) (is_ false rfl (by simpa using hv) ?_)))))))));refine zl 1 rfl (tq_ rfl (zaF rfl rfl rfl un4 (d:=true) (by simp)) (zl 4 rfl ?_));exact r1_ hq_ rfl rfl
     .refine nf_ [2] [so 1 _,so 5 _,so 7 (D.ptr 1 0),so 9 (D.val (.int .i64 1))] [_,hb_ 43 (quL ((zdl l 0).1)++[El.row dcE ([]),El.row lmE ([])]),none] rfl rfl rfl (zc 2 rfl (tq_ rfl (zcO (vs:=[.string ⟨#[]⟩,.int .i64 0]) rfl rfl (by kernel_rfl)) (zl 2 rfl (tc_ fn6 rfl (zdH (⟨(zdl l 0).1,[],[]⟩:Sc) hs (by simp) bits (by omega) (by omega) (.inr hsm)) ?_))));refine zl 9 rfl ?_;by_cases hv:vqB q=true
      .refine nf_ [1,3] [so 1 _,so 5 _,so 9 _,so 11 (D.val (.int .i64 0))] [_,none,none,none] rfl rfl rfl (zc 2 rfl (tq_ rfl (zcO (vs:=[.string ⟨#[]⟩,.int .i64 0]) rfl rfl (by kernel_rfl)) (zl 2 rfl (tc_ fn6 rfl (zmK q h8 ho8 hr8 fu fo fl fh fr fg hlo hhi hw hv) (zl 9 rfl ?_)))));refine nf_ [4] [so 1 _,so 5 _,so 9 _,so 11 _,so 13 (D.val (.int .i64 0))] [_,none,none,none,none] rfl rfl rfl (zc 2 rfl (tq_ rfl (eqT rfl rfl) (zl 2 rfl (tq_ rfl (eqF rfl (by decide)) (zl 1 rfl (tq_ rfl (ltF rfl) (zl 2 rfl (tq_ rfl (gtF rfl) (zl 1 rfl ?_)))))))));refine tq_ rfl (zaF rfl rfl rfl un4 (d:=true) (by simp)) (zl 3 rfl (tq_ rfl (eqF rfl (by decide)) (zl 1 rfl (tc_ fn7 rfl (zeL q h8 ho8 hr8 fu fo fl fh fr fg hlo hhi) (is_ true rfl (hv) (zl 1 rfl (tq_ rfl (zaF rfl rfl rfl un4 (d:=true) (by simp)) (zl 4 rfl ?_))))))));exact r1_ hq_ rfl rfl
      .refine nf_ [1,3] [so 1 _,so 5 _,so 9 _,so 11 (D.val (.int .i64 0))] [_,none,none,none] rfl rfl rfl (zc 2 rfl (tq_ rfl (zcO (vs:=[.string ⟨#[]⟩,.int .i64 0]) rfl rfl (by kernel_rfl)) (zl 2 rfl (tc_ fn6 rfl (zkQ q h8 ho8 hr8 fu fo fl fh fr fg hlo hhi (by simpa using hv)) (zl 9 rfl ?_)))));refine nf_ [4] [so 1 _,so 5 _,so 9 _,so 11 _,so 13 (D.val (.int .i64 1))] [_,none,none,none,none] rfl rfl rfl (zc 2 rfl (tq_ rfl (eqT rfl rfl) (zl 2 rfl (tq_ rfl (eqF rfl (by decide)) (zl 1 rfl (tq_ rfl (ltF rfl) (zl 2 rfl (tq_ rfl (gtF rfl) (zl 1 rfl ?_)))))))));refine tq_ rfl (zaF rfl rfl rfl un4 (d:=true) (by simp)) (zl 3 rfl (tq_ rfl (eqT rfl rfl) (zl 1 rfl (tc_ fn7 rfl (zeL q h8 ho8 hr8 fu fo fl fh fr fg hlo hhi) (is_ false rfl (by simpa using hv) (zl 1 rfl (tq_ rfl (zaF rfl rfl rfl un4 (d:=true) (by simp)) (zl 4 rfl ?_))))))));exact r1_ hq_ rfl rfl
theorem own:ownKnob Tryz.prog.godebug=none:=by kernel_rfl
theorem zjE:laidOutB Tryz.prog=true:=by kernel_rfl
theorem numTy:NumTy Tryz.prog 4 31 106 33:=⟨by kernel_rfl,by kernel_rfl,by kernel_rfl,by kernel_rfl,by kernel_rfl,by kernel_rfl,by kernel_rfl,by kernel_rfl⟩
theorem und3:Tryz.prog.underlying 3=some (.int .i64):=by kernel_rfl
theorem undBs:Tryz.prog.underlying 22=some (.slice 5):=by kernel_rfl
theorem undU8:Tryz.prog.underlying 5=some (.int .u8):=by kernel_rfl
theorem ztf:Tryz.prog.cellsOf 5=1:=by kernel_rfl
theorem gTab : Tryz.prog.globalNamed "math/bits.deBruijn32tab" = some 0:=by kernel_rfl
theorem tTab:(Tryz.prog.globals[0]?).map (·.type)=some 152:=by kernel_rfl
theorem uTab:Tryz.prog.underlying 152=some (.array 32 5):=by kernel_rfl
theorem uEl:Tryz.prog.underlying 5=some (.int .u8):=by kernel_rfl
theorem cEl:Tryz.prog.cellsOf 5=1:=by kernel_rfl
theorem cTab:Tryz.prog.cellsOf 152=32:=by kernel_rfl
theorem undI:Tryz.prog.underlying 3=some (.int .i64):=by kernel_rfl
theorem zpZ:Tryz.prog.cellsOf 3=1:=by kernel_rfl
open Go.ChangeShapes Go.WideShapes
@[reducible] def zsw:List (String×DataW Unit):=[("math/bits.deBruijn32tab",Rows.laid_math_bits_deBruijn32tab)]
theorem zpP(os:Os)(args:Array Value):laidMetH Tryz.prog zsw ((World.doorLaid Tryz.prog 400 os).forCall (fun _ _=>0) ⟨#[],args,[]⟩).memory:=
 laidMetH_of_parts3 (fuel:=8) (laidMet_of_run' 8 (by kernel_rfl) (by kernel_rfl)) (by kernel_rfl) (by kernel_rfl)
theorem zo0:(Rows.laid_math_bits_deBruijn32tab:DataW Unit) = .agg (bruijn.map fun n:Nat=>.lit (.int .u8 (n:Int))):=by kernel_rfl
theorem ziF{W:World}(h:laidMetH Tryz.prog zsw W):zoP W:=by
 rw[MakeChecks.laidMetH_plain _ _ _ (by kernel_rfl)] at h;obtain⟨ps,⟨g0,t0,cs0,f0,p0,q0,hg0,ht0,hv0,hd0,_,_⟩,_⟩:=h;obtain rfl:=Option.some.inj (gTab.symm.trans hg0);obtain rfl:=Option.some.inj (tTab.symm.trans ht0);obtain⟨xs,m,_,hx,hlen,hxs,hel⟩:=DataW.trod_array uTab hd0;rw[zo0] at hx;have hd:=congrArg Prod.fst hx;simp only[DataW.agg.injEq] at hd;rw[cTab] at hlen;have key:∀(i:Nat) (k:Nat),bruijn[i]?=some k->cs0[i]?=some (.int .u8 (k:Int)):=by
  intro i k hk;have hi:i<32:=(zxc.1 hk).1;have h1:=hel i hi;rw[zxa (by omega)] at h1;obtain⟨n,hc,hxn,_⟩:=DataW.trod_int uEl h1;have h2:=congrArg (fun l=>l[i]?) hd;simp only[List.getElem?_map,hk,zxa (show i<xs.length by omega),Option.map_some,hxn] at h2;have h3:n=(k:Int):=by
   have:=Option.some.inj h2;simp only[DataW.lit.injEq,Lit.int.injEq,true_and] at this;exact this.symm
  subst h3;rw[cEl,Nat.mul_one] at hc;have h4:=congrArg (fun l=>l[0]?) hc;simp only[List.getElem?_take,List.getElem?_drop,Nat.add_zero,Nat.zero_lt_one,if_true,List.getElem?_cons_zero] at h4;rw[<-Array.getElem?_toList];exact h4
 intro p hp;have hp':p=(0,bruijn.map fun n:Nat=>Value.int .u8 (n:Int)):=by simpa[tab,bruijn] using hp
 subst hp';have hcell:=fun i:Nat=>World.var?_cell hg0 hv0 i;refine⟨?_,fun i v hv=>?_⟩
 .have h0:=hcell 0;rw[key 0 0 rfl] at h0;unfold World.cell? at h0
  cases hh:W.heap[0]? with
  |none=>simp[hh] at h0
  |some o=>exact(zxz.1 hh).1
 .simp only[List.getElem?_map] at hv
  cases hk:bruijn[i]? with
  |none=>rw[hk] at hv;simp at hv
  |some k=>
   rw[hk] at hv;simp only[Option.map_some,zxd] at hv;rw[hcell i,key i k hk,hv]
end Go.Proofs.YticnclbnchgigaaGreatDoor
namespace Rc
open Go Go.RowKit Go.ChangeShapes Go.WideShapes
section
variable {H:Type}{enc:TypeId×Value->H}{P:Program}{w:World}{base:Nat}{held:Bool}
structure Msa(m:DataW H->Nat):Prop where
 ms:Msr m
 el:∀es sp:List (DataW H),(es.map m).sum+1<=m (.slice es sp)
 part:∀ps:List (DataW H),(ps.map m).sum+1<=m (.agg ps)
variable {m:DataW H->Nat}
theorem zcl(hm:Msa m){t:Nat}{l:List (Nat×Nat)}{cs:List Value}{fuel:Nat}{x:DataW H×List MemPlace}(hf:zpK P t=some l)(h:DataW.trod enc P w base (fun _=>true) held fuel t cs=some x) :
  cs.length=P.cellsOf t/\∃(n:Nat) (ys:List (DataW H×List MemPlace)),ys.length=l.length/\(ys.map fun y=>m y.1).sum+1<=m x.1 ∧
   ∀(i off ty:Nat),l[i]?=some (off,ty)->∃y,ys[i]?=some y/\DataW.trod enc P w base (fun _=>true) held n ty ((cs.drop off).take (P.cellsOf ty))=some y:=by
 obtain⟨fs,hu,hl⟩:=ziJ hf;obtain⟨xs,n,_,hx,hlen,hxs,hall⟩:=DataW.trod_struct hu h;refine⟨hlen,n,xs,by rw[<-hl,List.length_map,hxs,Array.length_toList],?_,fun i off ty hi=>?_⟩
 .rw[hx];have:=hm.part (xs.map (·.1));rw[List.map_map] at this;exact this
 .rw[<-hl,List.getElem?_map] at hi
  cases hfi:fs.toList[i]? with
  |none=>rw[hfi] at hi;simp at hi
  |some f=>
   rw[hfi] at hi;simp only[Option.map_some,zxd,zxf] at hi;obtain⟨rfl,rfl⟩:=hi;have hfi':fs[i]?=some f:=by simpa using hfi
   have:=hall i f hfi';have hlt:i<xs.length:=by rw[hxs];exact(zxz.1 hfi').1
   exact⟨xs[i],zxa hlt,by rw[this,zxa hlt]⟩
variable {tb tn tu tr ti tt ta ts:Nat}
theorem zjr(hm:Msa m)(hT:NumTy P tb tn tu tr){cs:List Value}{fuel:Nat}{x:DataW H×List MemPlace}(h:DataW.trod enc P w base (fun _=>true) held fuel tr cs=some x) :
  ∃q:Qr,denL (zjg w) (qV q).leaves cs w/\wQ q<=m x.1:=by
 obtain⟨hlen,n,ys,hyl,hys,hall⟩:=zcl hm hT.r h;rw[hT.cr] at hlen
 match cs,hlen with
 |[c0,c1,c2],_=>
  obtain⟨y0,p0,h0⟩:=hall 0 _ _ rfl;obtain⟨y1,p1,h1⟩:=hall 1 _ _ rfl;obtain⟨y2,p2,h2⟩:=hall 2 _ _ rfl;rw[hT.cb] at h0;rw[hT.cn] at h1 h2;obtain⟨b,e0⟩:=zr9 hT.b h0;obtain⟨k1,l1,e1,s1,d1,f1⟩:=zm7 hm.ms hT.n hT.u hT.cu h1;obtain⟨k2,l2,e2,s2,d2,f2⟩:=zm7 hm.ms hT.n hT.u hT.cu h2;simp at e0 e1 e2;subst e0;subst e1;subst e2;refine⟨⟨b,l1,l2,s1,s2⟩,⟨⟨rfl,rfl⟩,d1,d2,trivial⟩,?_⟩
  match ys,hyl,p0,p1,p2,hys with
  |[z0,z1,z2],_,p0,p1,p2,hys=>
   simp at p0 p1 p2 hys;subst p0;subst p1;subst p2;show l1.length+l2.length+1<=_;omega
theorem zmd{q:Qr}{k:Nat}(h:wQ q<=k):Fit k q:=by unfold wQ at h;exact⟨by omega,by omega⟩
theorem zjq(hm:Msa m){α:Type}(E:El α)(sz:α->Nat)(Pr:Nat->α->Prop)(hmono:∀j k a,j<=k->Pr j a->Pr k a){t e:Nat}(ht:P.underlying t=some (.slice e))(hc:P.cellsOf e=E.sz)(hsz:0<E.sz)
  (hel:∀(cs:List Value) (fuel:Nat) (x:DataW H×List MemPlace),DataW.trod enc P w base (fun _=>true) held fuel e cs=some x->∃a,denL (zjg w) (E.f a) cs w/\sz a<=m x.1/\Pr (m x.1) a)
  {cs:List Value} {fuel:Nat} {x:DataW H×List MemPlace} (h:DataW.trod enc P w base (fun _=>true) held fuel t cs=some x) :
  ∃c l,cs=[c]/\l.length<=m x.1/\(l.map sz).sum<=m x.1/\(∀a∈l,Pr (m x.1) a)/\(E.row l).den (zjg w) c w:=by
 rcases DataW.trod_slice ht h with⟨rfl,_⟩|⟨a,len,cap,elems,rest,n,hfu,hcs,hxx,hb,hl,hm',hlen,hget,hsp,hns⟩
 .exact⟨_,[],rfl,zxg _,zxg _,fun a h=>by simp at h,zca _ _⟩
 subst hcs;obtain⟨hrl,hrest⟩:=hsp rfl;have each:∀i,i<len->∃cs' y,w.cells? base (a.add (i*E.sz)) E.sz=some cs'/\DataW.trod enc P w base (fun _=>true) held n e cs'=some y/\elems[i]?=some y:=by
  intro i hi;have hb2:=hget i hi;have hil:i<elems.length:=by omega
  rw[zxa hil,hc,Option.bind_eq_some_iff] at hb2;obtain⟨cs',h1,h2⟩:=hb2;exact⟨cs',elems[i],h1,h2,zxa hil⟩
 have tail:∀i,i<cap->∃cs',w.cells? base (a.add (i*E.sz)) E.sz=some cs':=by
  intro i hi;by_cases hil:i<len
  .obtain⟨cs',y,h1,_⟩:=each i hil;exact⟨cs',h1⟩
  .have h1:=hrest (i-len) (by omega);rw[show len+(i-len)=i by omega] at h1;rw[zxa (by omega),hc,Option.bind_eq_some_iff] at h1;obtain⟨cs',h2,_⟩:=h1;exact⟨cs',h2⟩
 obtain⟨l,hll,hlp⟩:=zit (p:=fun i b=>∃(cs':List Value) (y:DataW H×List MemPlace),w.cells? base (a.add (i*E.sz)) E.sz=some cs'/\denL (zjg w) (E.f b) cs' w/\elems[i]?=some y/\sz b<=m y.1/\Pr (m y.1) b) len (fun i hi=>by
  obtain⟨cs',y,h1,h2,h3⟩:=each i hi;obtain⟨b,h4,h5,h6⟩:=hel cs' n y h2;exact⟨b,cs',y,h1,h4,h3,h5,h6⟩)
 have hsum:∀(k:Nat) (l:List α) (es:List (DataW H×List MemPlace)),l.length=es.length->(∀(i:Nat) (b:α),l[i]?=some b->∃y:DataW H×List MemPlace,es[i]?=some y/\sz b<=m y.1)->(l.map sz).sum<=(es.map fun y=>m y.1).sum:=by
  intro _ l
  induction l with
  |nil=>intro es _ _;exact zxg _
  |cons b l ih=>
   intro es hle hp
   cases es with
   |nil=>simp at hle
   |cons y es=>
    obtain⟨y',hy',hb'⟩:=hp 0 b rfl;simp at hy';subst hy';have:=ih es (by simpa using hle) (fun i c hc=>hp (i+1) c (by simpa using hc));simp only[List.map_cons,List.sum_cons];omega
 have htot:(elems.map fun y=>m y.1).sum+1<=m x.1:=by
  rw[hxx];have:=hm.el (elems.map (·.1)) (rest.map (·.1));rw[List.map_map] at this;exact this
 refine⟨_,l,rfl,?_,?_,fun b hb=>?_,?_⟩
 .rw[hxx,hll,<-hlen];have:=hm.ms.len (elems.map (·.1)) (rest.map (·.1))
  rwa [List.length_map] at this
 .have:=hsum 0 l elems (by omega) (fun i b hb=>by obtain⟨_,y,_,_,h3,h4,_⟩:=hlp i b hb;exact⟨y,h3,h4⟩);omega
 .obtain⟨i,hi⟩:=List.mem_iff_getElem?.1 hb;obtain⟨_,y,_,_,h3,_,h5⟩:=hlp i b hi;refine hmono _ _ _ ?_ h5;rw[hxx];exact hm.ms.el _ _ _ (List.mem_map.2 ⟨y,zxb h3,rfl⟩)
 show(zal l.length (E.all l)).P _ _ _;rw[hll];have hspot:0<cap->a.spot=none:=fun h0=>by
  obtain⟨cs',h1⟩:=tail 0 h0;have h3:=(World.cells?_some h1).2.2 0 hsz;have hcl:=(World.cells?_some h1).2.1;rw[zxa (by omega)] at h3;simpa[Addr.add] using World.cell?_spot h3
 refine⟨some a,cap,rfl,hl,hm',fun h=>by simp at h,fun ad had=>?_⟩;cases had;refine⟨hspot,fun i lf hi=>?_⟩;have hi0:i<l.length*E.sz:=by have:=(zxc.1 hi).1;rwa [El.all_length] at this
 have hq:i/E.sz<l.length:=(Nat.div_lt_iff_lt_mul hsz).2 hi0;have hr:i%E.sz<E.sz:=Nat.mod_lt _ hsz;have hqr:i/E.sz*E.sz+i%E.sz=i:=by rw[zxF];exact Nat.div_add_mod i E.sz
 obtain⟨cs',_,h1,h2,_⟩:=hlp (i/E.sz) _ (zxa hq);have hlf:(E.f l[i/E.sz])[i%E.sz]?=some lf:=by
  rw[<-El.all_get E hq,List.getElem?_take,if_pos hr,List.getElem?_drop,hqr];exact hi
 obtain⟨v,hv,hd⟩:=h2.get hlf;have h3:=(World.cells?_some h1).2.2 (i%E.sz) hr;rw[hv] at h3;have hsp0:=hspot (zxj (zxB (zxg _) hq) (by omega));obtain⟨b,off,spot⟩:=a;subst hsp0;rw[Go.WideShapes.add_plain,Go.WideShapes.add_plain,Nat.add_assoc,hqr] at h3;have hlt:b<w.heap.size:=zjN h3;exact⟨hlt,v,h3,hd⟩
theorem zqy:∀l:List Tr,wT l=(l.map fun t=>wQ t.c).sum
 |[]=>rfl
 |t::l=>by simp only[wT,List.map_cons,List.sum_cons,zqy l]
theorem zqA:∀l:List Qr,wL l=(l.map wQ).sum
 |[]=>rfl
 |t::l=>by simp only[wL,List.map_cons,List.sum_cons,zqA l]
theorem zqB:∀l:List Ar,wG l=(l.map wA).sum
 |[]=>rfl
 |t::l=>by simp only[wG,List.map_cons,List.sum_cons,zqB l]
def FitK(k:Nat)(a:Ar):Prop:=(∀t∈a.ts,Fit k t.c)/\Fit k a.c/\a.ts.length<=k
theorem FitK.mono{j k:Nat}{a:Ar}(h:FitK j a)(hjk:j<=k):FitK k a:=⟨fun t ht=>(h.1 t ht).mono hjk,h.2.1.mono hjk,zxk h.2.2 hjk⟩
theorem FitK.a{k:Nat}{a:Ar}(h:FitK k a)(hk:k<=1048576):zck a:=h.mono hk
theorem zpi(hm:Msa m)(hT:ArTy P tb tn tu tr ti tt ts ta){cs:List Value}{fuel:Nat}{x:DataW H×List MemPlace}(h:DataW.trod enc P w base (fun _=>true) held fuel tt cs=some x) :
  ∃t:Tr,denL (zjg w) (trE.f t) cs w/\wQ t.c<=m x.1:=by
 obtain⟨hlen,n,ys,hyl,hys,hall⟩:=zcl hm hT.t h;rw[hT.ct] at hlen;obtain⟨z0,p0,k0⟩:=hall 0 _ _ rfl;obtain⟨z1,p1,k1⟩:=hall 1 _ _ rfl;rw[hT.ci] at k0;rw[hT.n.cr] at k1;obtain⟨iv,ei,_⟩:=zqU hT.i k0;obtain⟨q,hq,hw⟩:=zjr hm hT.n k1;refine⟨⟨iv,q⟩,?_,?_⟩
 .have:=zg2 (w:=w) (A:=zjg w) (l1:=[Leaf.val (.int .i64 iv)]) (l2:=(qV q).leaves) (cs:=cs) 1 (by
   rw[List.drop_zero] at ei;rw[ei];exact⟨⟨rfl,rfl⟩,trivial⟩) (by rw[zxJ (by simp;omega)] at hq;exact hq)
  exact this
 .match ys,hyl,p0,p1,hys with
  |[y0,y1],_,p0,p1,hys=>
   simp at p0 p1 hys;subst p0;subst p1;show wQ q<=_;omega
theorem zqV(hm:Msa m)(hT:ArTy P tb tn tu tr ti tt ts ta){cs:List Value}{fuel:Nat}{x:DataW H×List MemPlace}(h:DataW.trod enc P w base (fun _=>true) held fuel ta cs=some x) :
  ∃a:Ar,denL (zjg w) (arE.f a) cs w/\wA a<=m x.1/\FitK (m x.1) a:=by
 obtain⟨hlen,n,ys,hyl,hys,hall⟩:=zcl hm hT.a h;rw[hT.ca] at hlen;obtain⟨z0,p0,k0⟩:=hall 0 _ _ rfl;obtain⟨z1,p1,k1⟩:=hall 1 _ _ rfl;rw[hT.cs] at k0;rw[hT.n.cr] at k1;obtain⟨c,l,e0,hl,hs,hf,hd0⟩:=zjq hm trE (fun t=>wQ t.c) (fun k t=>Fit k t.c) (fun j k a hjk hh=>hh.mono hjk) hT.s hT.ct (by decide) (fun cs' fuel' x' h'=>by
  obtain⟨t,h1,h2⟩:=zpi hm hT h';exact⟨t,h1,h2,zmd h2⟩) k0
 obtain⟨q,hq,hw⟩:=zjr hm hT.n k1;have hb:m z0.1+m z1.1+1<=m x.1:=by
  match ys,hyl,p0,p1,hys with
  |[y0,y1],_,p0,p1,hys=>
   simp at p0 p1 hys;subst p0;subst p1;omega
 refine⟨⟨l,q⟩,?_,?_,fun t ht=>(hf t ht).mono (by omega),(zmd hw).mono (by omega),zxk hl (by omega)⟩
 .have:=zg2 (w:=w) (A:=zjg w) (l1:=[trE.row l]) (l2:=(qV q).leaves) (cs:=cs) 1 (by
   rw[List.drop_zero] at e0;rw[e0];exact⟨hd0,trivial⟩) (by rw[zxJ (by rw[zxA];omega)] at hq;exact hq)
  exact this
 .show wQ q+wT l<=_;rw[zqy];omega
structure QrTy(P:Program)(tb tn tu tr ti tt ts ta tas trs tg to tq:Nat):Prop where
 a:ArTy P tb tn tu tr ti tt ts ta
 uas:P.underlying tas=some (.slice ta)
 cas:P.cellsOf tas=1
 rs:P.underlying trs=some (.slice tr)
 crs:P.cellsOf trs=1
 g:zpK P tg=some [(0,ti),(1,tas),(2,tas)]
 cg:P.cellsOf tg=3
 o:zpK P to=some [(0,trs),(1,trs),(2,tas)]
 co:P.cellsOf to=3
 q:zpK P tq=some [(0,tg),(3,to),(6,ta)]
 cq:P.cellsOf tq=10
variable {tas trs tg to tq:Nat}
theorem zjs(hm:Msa m)(hT:QrTy P tb tn tu tr ti tt ts ta tas trs tg to tq){cs:List Value}{fuel:Nat}{x:DataW H×List MemPlace}(h:DataW.trod enc P w base (fun _=>true) held fuel tas cs=some x) :
  ∃c l,cs=[c]/\l.length<=m x.1/\wG l<=m x.1/\(∀a∈l,FitK (m x.1) a)/\(arE.row l).den (zjg w) c w:=by
 obtain⟨c,l,h1,h2,h3,h4,h5⟩:=zjq hm arE wA FitK (fun j k a hjk hh=>hh.mono hjk) hT.uas hT.a.ca (by decide) (fun cs' fuel' x' h'=>zqV hm hT.a h') h;exact⟨c,l,h1,h2,by rw[zqB];exact h3,h4,h5⟩
theorem zks(hm:Msa m)(hT:QrTy P tb tn tu tr ti tt ts ta tas trs tg to tq){cs:List Value}{fuel:Nat}{x:DataW H×List MemPlace}(h:DataW.trod enc P w base (fun _=>true) held fuel trs cs=some x) :
  ∃c l,cs=[c]/\l.length<=m x.1/\wL l<=m x.1/\(∀a∈l,Fit (m x.1) a)/\(qrE.row l).den (zjg w) c w:=by
 obtain⟨c,l,h1,h2,h3,h4,h5⟩:=zjq hm qrE wQ Fit (fun j k a hjk hh=>hh.mono hjk) hT.rs hT.a.n.cr (by decide) (fun cs' fuel' x' h'=>by
  obtain⟨q,h1,h2⟩:=zjr hm hT.a.n h';exact⟨q,h1,h2,zmd h2⟩) h
 exact⟨c,l,h1,h2,by rw[zqA];exact h3,h4,h5⟩
theorem zrE{ys:List (DataW H×List MemPlace)}{z0 z1 z2:DataW H×List MemPlace}{k:Nat}(hl:ys.length=3)(h0:ys[0]?=some z0)(h1:ys[1]?=some z1)(h2:ys[2]?=some z2)(h:(ys.map fun y=>m y.1).sum+1<=k):m z0.1+m z1.1+m z2.1+1<=k:=by
 match ys,hl,h0,h1,h2,h with
 |[y0,y1,y2],_,h0,h1,h2,h=>
  simp at h0 h1 h2 h;subst h0;subst h1;subst h2;omega
theorem zm5(hm:Msa m)(hT:QrTy P tb tn tu tr ti tt ts ta tas trs tg to tq){r:Reach}{b0:Nat}{v:Value}{d:DataW H}{p:List MemPlace}(hv:Value.okWide P w r b0 tq v)(h:DataW.Trod enc P w base (fun _=>true) held tq v d p) :
  ∃q:Rq,(∀a∈q.us,FitK (m d) a)/\(∀a∈q.os,FitK (m d) a)/\(∀x∈q.lo,Fit (m d) x)/\(∀x∈q.hi,Fit (m d) x)/\(∀a∈q.rows,FitK (m d) a)/\FitK (m d) q.goal/\q.lo.length<=m d/\q.hi.length<=m d/\wL q.lo+wL q.hi+wG q.us<=m d/\(rqV q).den (zjg w) v w:=by
 obtain⟨f,hu,_⟩:=ziJ hT.q;obtain⟨cs,rfl,_⟩:=okWide_struct hu hv;obtain⟨fuel,hf⟩:=h;have hf:DataW.trod enc P w base (fun _=>true) held fuel tq cs.toList=some (d,p):=by simpa[Value.cells] using hf
 obtain⟨hlen,n,ys,hyl,hys,hall⟩:=zcl hm hT.q hf;rw[hT.cq] at hlen;obtain⟨y0,p0,h0⟩:=hall 0 _ _ rfl;obtain⟨y1,p1,h1⟩:=hall 1 _ _ rfl;obtain⟨y2,p2,h2⟩:=hall 2 _ _ rfl;have hy:=zrE hyl p0 p1 p2 hys;clear hall hys p0 p1 p2 hyl;rw[hT.cg] at h0;rw[hT.co] at h1;rw[hT.a.ca] at h2;obtain⟨lg,ng,gs,hgl,hgs,hallg⟩:=zcl hm hT.g h0;obtain⟨g0,p0,i0⟩:=hallg 0 _ _ rfl;obtain⟨g1,p1,i1⟩:=hallg 1 _ _ rfl;obtain⟨g2,p2,i2⟩:=hallg 2 _ _ rfl;have hg:=zrE hgl p0 p1 p2 hgs;clear hallg hgs p0 p1 p2 hgl;obtain⟨lo,no,os,hol,hos,hallo⟩:=zcl hm hT.o h1;obtain⟨o0,p0,j0⟩:=hallo 0 _ _ rfl;obtain⟨o1,p1,j1⟩:=hallo 1 _ _ rfl;obtain⟨o2,p2,j2⟩:=hallo 2 _ _ rfl;have ho:=zrE hol p0 p1 p2 hos;clear hallo hos p0 p1 p2 hol;rw[hT.a.ci] at i0;rw[hT.cas] at i1 i2 j2;rw[hT.crs] at j0 j1;obtain⟨iv,ei,_⟩:=zqU hT.a.i i0;obtain⟨cu,us,eu,_,wu,fu,du⟩:=zjs hm hT i1;obtain⟨co,os,eo,_,_,fo,do_⟩:=zjs hm hT i2;obtain⟨cl,los,el,nl,wl,fl,dl⟩:=zks hm hT j0;obtain⟨ch,his,eh,nh,wh,fh,dh⟩:=zks hm hT j1;obtain⟨cr,rows,er,_,_,fr,dr⟩:=zjs hm hT j2;obtain⟨goal,dg,_,fg⟩:=zqV hm hT.a h2;simp only at hy hg ho;refine⟨⟨iv,us,os,los,his,rows,goal⟩,fun a ha=>(fu a ha).mono (by omega),fun a ha=>(fo a ha).mono (by omega),fun a ha=>(fl a ha).mono (by omega),fun a ha=>(fh a ha).mono (by omega),fun a ha=>(fr a ha).mono (by omega),fg.mono (by omega),by show los.length<=_;omega,by show his.length<=_;omega,by show wL los+wL his+wG us<=_;omega,cs.toList,by simp,?_⟩;obtain⟨cs⟩:=cs;simp only at *
 match cs,hlen with
 |[c0,c1,c2,c3,c4,c5,c6,c7,c8,c9],_=>
  simp at ei eu eo el eh er;subst ei;subst eu;subst eo;subst el;subst eh;subst er;exact⟨⟨rfl,rfl⟩,du,do_,dl,dh,dr,dg⟩
end
end Rc
namespace Go.Proofs.YticnclbnchgigaaGreatDoor
open Go Go.RowKit Rc
theorem qrTy:QrTy Tryz.prog 4 31 106 33 3 53 29 35 23 26 25 28 37:=⟨⟨numTy,undI,zpZ,by kernel_rfl,by kernel_rfl,by kernel_rfl,by kernel_rfl,by kernel_rfl,by kernel_rfl⟩,by kernel_rfl,by kernel_rfl,by kernel_rfl,by kernel_rfl,by kernel_rfl,by kernel_rfl,by kernel_rfl,by kernel_rfl,by kernel_rfl,by kernel_rfl⟩
end Go.Proofs.YticnclbnchgigaaGreatDoor
