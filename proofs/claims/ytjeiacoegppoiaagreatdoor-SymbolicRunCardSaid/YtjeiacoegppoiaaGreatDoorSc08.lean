/- Parts of the proof, 8: the texts WkV, WkW, Mod, FactsE, WlA, WlB, WlC, WlD, WkX, WlE, WlF, Row, WlG, WlH, WlI, Form, WlJ, as far as they are used. -/
import Derived.Test.YtjeiacoegppoiaaGreatDoorSc07
set_option linter.unusedSimpArgs false
set_option linter.unusedVariables false
set_option maxRecDepth 10000
namespace Go.Proofs.YtjeiacoegppoiaaGreatDoor
open Go Go.RowKit Rc
theorem zcM(l:List Nat)(k:Nat)(hl:l.length<=1000000)(hk:k<=l.length)(hb:∀x∈l,x<256):CtrP Tryz.prog 99 158 [El.row u8E l,Leaf.val (.int .i64 (k:Int))] [El.row u8E l,Leaf.val (.int .i64 ((nk l (nk l k):Nat):Int))] [] (R.one (V.agg (qL (zfD l k)))):=by
 refine CtrP.of_body Tryz.func99 rfl Tryz.ntmps99 (zEw rfl) (fun w0 A0 bk hX=>?_);refine qc_ ?_;have h9:nx l k 9<9:=zdj (by decide);have hd1:=zrP (nx l (nk l k) 4);refine zc 8 rfl (te_ rfl (zaB rfl zhD rfl rfl rfl rfl (zbU l k 9 (by first|decide|omega) (by first|decide|omega) hl (by first|assumption|exact za3 (by assumption)) hb)) (tq_ rfl (zaN rfl rfl rfl (r:=((nx l k 9:Nat):Int)-4) (w64 (by omega) (by omega) (by omega))) (tq_ rfl (znN rfl zAR rfl zAM ty3 rfl) (zl 1 rfl ?_))));refine te_ rfl (zaB rfl zhD rfl rfl rfl rfl (zbU l (nk l k) 4 (by first|decide|omega) (by first|decide|omega) hl (by first|assumption|exact za3 (by assumption)) hb)) (tq_ rfl (ztF (nx l (nk l k) 4) rfl rfl rfl zAM ty3 (zdj (by decide)) (zBy (zdj (by decide)))) ?_);refine tc_ fn65 rfl (zA4 (((nx l k 9:Nat):Int)-4) ((nd (nx l (nk l k) 4):Nat):Int) (by omega) (by omega) (by omega) (by omega) (by omega)) (zl 14 rfl ?_);exact zf0 (fun _ _ h=>h) rfl (⟨_,_,rfl,rfl,.inl ⟨zmV,zEw rfl,rfl⟩⟩) rfl rfl rfl hX
theorem ze3(l:List Nat)(k n:Nat)(hn:n<=100)(hl:l.length<=1000000)(hk:k<=l.length)(hb:∀x∈l,x<256):CtrP Tryz.prog 46 158 [El.row u8E l,Leaf.val (.int .i64 (k:Int))] [El.row u8E l,Leaf.val (.int .i64 (((zbn l k n).2:Nat):Int))] [V.one (Leaf.val (.int .i64 ((n:Int))))] (R.one (afV (zbn l k n).1)):=by
 refine CtrP.of_body Tryz.func46 rfl Tryz.ntmps46 (zEw rfl) (fun w0 A0 bk hX=>?_);refine qc_ (zc 8 rfl (te_ rfl (zaB rfl zAw rfl rfl rfl rfl (zcM l k hl (by first|assumption|exact za3 (by assumption)) hb)) (zl 12 rfl ?_)));refine zbv (fun m Γ H=>∃(i:Nat) (out:Af) (q:Nat),n-i=m/\Γ=[(0,some (D.ptr 0 0)),(1,some (D.val (.int .i64 (n:Int)))),(4,some (D.ptr 1 0)),(5,some (D.ptr 2 0)),(6,some (D.val (.int .i64 (i:Int))))]/\H=[hbq 158 [El.row u8E l,Leaf.val (.int .i64 (q:Int))] bk,hb_ 38 [El.row tmE ([]),Leaf.val (.bool false),zaf ([]),zaf ([])],hb_ 38 (afL out)]/\i<=n/\(out,q)=zbn l k i) ⟨0,⟨[],zfD l k⟩,_,rfl,rfl,rfl,zEv _,rfl⟩ rfl ?_;rintro m Γ H ⟨i,out,q,rfl,rfl,rfl,hi0,hs⟩;refine zc 5 rfl ?_;by_cases hi:i<n
 .refine tq_ rfl (ltT rfl) (zl 8 rfl ?_);have hok:=zkx l k hk i (by omega);rw[<-hs] at hok;obtain⟨hfm,hfc,hq⟩:=hok;haveI:Fm out.ts (20*i) i:=hfm;haveI:Br out.c (20*i+6):=hfc;have hk:q<=l.length:=hq;haveI:=ziy l (nk l q);haveI:Br ((1:Int):Rat) 2:=Br.int2 (by decide) (by decide);haveI:=Fm.one (v:=i) (c:=((1:Int):Rat)) (by omega) (by decide);refine zc 2 rfl (te_ rfl (zaB rfl zhD rfl rfl rfl rfl (zbU l q 3 (by first|decide|omega) (by first|decide|omega) hl (by first|assumption|exact za3 (by assumption)) hb)) ?_);by_cases hx:0<nx l q 3
  .refine tq_ rfl (gtT rfl) (zl 3 rfl (dr_ 0 [(4,0),(7,2)] [0,2] (kp_ [0] rfl (zaI rfl rfl rfl (by decide) zjz (by decide) (zEw rfl) rfl) (dz 1 rfl (kc_ zss rfl (zAY i (by omega)) (dz 1 rfl (ki_ 0 rfl (zdF rfl zAw rfl rfl rfl rfl (zcM l (nk l q) hl (by first|assumption|exact za3 (by assumption)) hb)) ?_)))))));refine kc_ zpY rfl (zb9 ⟨[(i,((1:Int):Rat))],0⟩ (zfD l (nk l q)) (by omega) (by omega)) (kc_ zCH rfl (zit ⟨out.ts,out.c⟩ ⟨scT ([(i,((1:Int):Rat))]) (zfD l (nk l q)),0*(zfD l (nk l q))⟩ (by omega) (by omega) (by omega)) (dz 1 rfl (zae (za 4 rfl (tq_ rfl (jad (i+1) rfl) (zl 2 rfl ?_))))));exact nx_ ⟨i+1,⟨_,_⟩,_,rfl,rfl,rfl,by omega,by rw[zfs,<-hs];exact(if_pos hx).symm⟩ rfl
  .refine tq_ rfl (gtF rfl) (zl 8 rfl (tq_ rfl (jad (i+1) rfl) (zl 2 rfl ?_)));exact nx_ ⟨i+1,_,_,rfl,rfl,rfl,by omega,by rw[zfs,<-hs];exact(if_neg hx).symm⟩ rfl
 .refine tq_ rfl (ltF rfl) (zl 9 rfl ?_);have hie:i=n:=by omega
  subst hie;refine zc 5 rfl ?_;exact zf0 (fun _ _ h=>h) rfl (⟨_,_,rfl,rfl,.inl ⟨zjz,zEw rfl,rfl⟩⟩) (by rw[<-hs] <;> rfl) rfl (by rw[<-hs]) hX
end Go.Proofs.YtjeiacoegppoiaaGreatDoor
namespace Rc
open Go Go.RowKit
structure Gr where
 inp:Nat
 us:List Af
 os:List Af
structure Rg where
 lo:List Rat
 hi:List Rat
 rows:List Af
structure Qu where
 g:Gr
 r:Rg
 goal:Af
structure Dc where
 kind:Nat
 idx:Nat
 pt:Rat
structure Rw where
 kind:Int
 idx:Int
 lo:Int
 hi:Int
theorem Rw.ext'{a b:Rw}(h1:a.kind=b.kind)(h2:a.idx=b.idx)(h3:a.lo=b.lo)(h4:a.hi=b.hi):a=b:=by
 cases a;cases b;simp at *;exact⟨h1,h2,h3,h4⟩
instance : DecidableEq Rw := fun a b =>
 if h:a.kind=b.kind/\a.idx=b.idx/\a.lo=b.lo/\a.hi=b.hi then .isTrue (Rw.ext' h.1 h.2.1 h.2.2.1 h.2.2.2)
 else .isFalse (fun e=>h (by subst e;exact⟨rfl,rfl,rfl,rfl⟩))
structure Mu where
 r:Rw
 c:Qr
structure Lm where
 unit:Int
 up:Bool
 v:Qr
 pf:List Mu
structure Sc where
 q:Qu
 path:List Dc
 lems:List Lm
def ratE:El Rat:=⟨fun x=>qL x,3,fun _=>rfl,fun _=>rfl⟩
def muE:El Mu:=⟨fun m=>[Leaf.val (.int .i64 m.r.kind),Leaf.val (.int .i64 m.r.idx),Leaf.val (.int .i64 m.r.lo),Leaf.val (.int .i64 m.r.hi),Leaf.val (.bool m.c.neg),zaf m.c.n,zaf m.c.d],7,fun _=>rfl,fun _=>rfl⟩
def lmE:El Lm:=⟨fun m=>[Leaf.val (.int .i64 m.unit),Leaf.val (.bool m.up),Leaf.val (.bool m.v.neg),zaf m.v.n,zaf m.v.d,muE.row m.pf],6,fun _=>rfl,fun _=>rfl⟩
def dcE:El Dc:=⟨fun d=>[Leaf.val (.int .i64 (d.kind:Int)),Leaf.val (.int .i64 (d.idx:Int)),Leaf.val (.bool (zaQ d.pt)),zaf (zaa (zaw d.pt)),zaf (zaa (zaE d.pt))],5,fun _=>rfl,fun _=>rfl⟩
@[reducible] def grV(g:Gr):V:=V.agg [Leaf.val (.int .i64 (g.inp:Int)),afE.row g.us,afE.row g.os]
@[reducible] def rgV(r:Rg):V:=V.agg [ratE.row r.lo,ratE.row r.hi,afE.row r.rows]
@[reducible] def quV(q:Qu):V:=V.agg [Leaf.val (.int .i64 (q.g.inp:Int)),afE.row q.g.us,afE.row q.g.os,ratE.row q.r.lo,ratE.row q.r.hi,afE.row q.r.rows,tmE.row q.goal.ts,Leaf.val (.bool (zaQ q.goal.c)),zaf (zaa (zaw q.goal.c)),zaf (zaa (zaE q.goal.c))]
@[reducible] def scV(s:Sc):V:=V.agg [Leaf.val (.int .i64 (s.q.g.inp:Int)),afE.row s.q.g.us,afE.row s.q.g.os,ratE.row s.q.r.lo,ratE.row s.q.r.hi,afE.row s.q.r.rows,tmE.row s.q.goal.ts,Leaf.val (.bool (zaQ s.q.goal.c)),zaf (zaa (zaw s.q.goal.c)),zaf (zaa (zaE s.q.goal.c)),dcE.row s.path,lmE.row s.lems]
@[reducible] def quL(q:Qu):List Leaf:=[Leaf.val (.int .i64 (q.g.inp:Int)),afE.row q.g.us,afE.row q.g.os,ratE.row q.r.lo,ratE.row q.r.hi,afE.row q.r.rows,tmE.row q.goal.ts,Leaf.val (.bool (zaQ q.goal.c)),zaf (zaa (zaw q.goal.c)),zaf (zaa (zaE q.goal.c))]
@[reducible] def scL(s:Sc):List Leaf:=[Leaf.val (.int .i64 (s.q.g.inp:Int)),afE.row s.q.g.us,afE.row s.q.g.os,ratE.row s.q.r.lo,ratE.row s.q.r.hi,afE.row s.q.r.rows,tmE.row s.q.goal.ts,Leaf.val (.bool (zaQ s.q.goal.c)),zaf (zaa (zaw s.q.goal.c)),zaf (zaa (zaE s.q.goal.c)),dcE.row s.path,lmE.row s.lems]
@[reducible] def scZ:List Leaf:=[Leaf.val (.int .i64 0),afE.row [],afE.row [],ratE.row [],ratE.row [],afE.row [],tmE.row [],Leaf.val (.bool false),zaf [],zaf [],dcE.row [],lmE.row []]
@[reducible] def rwV(r:Rw):V:=V.agg [Leaf.val (.int .i64 r.kind),Leaf.val (.int .i64 r.idx),Leaf.val (.int .i64 r.lo),Leaf.val (.int .i64 r.hi)]
@[reducible] def dcV(d:Dc):V:=V.agg [Leaf.val (.int .i64 (d.kind:Int)),Leaf.val (.int .i64 (d.idx:Int)),Leaf.val (.bool (zaQ d.pt)),zaf (zaa (zaw d.pt)),zaf (zaa (zaE d.pt))]
@[reducible] def muV(m:Mu):V:=V.agg [Leaf.val (.int .i64 m.r.kind),Leaf.val (.int .i64 m.r.idx),Leaf.val (.int .i64 m.r.lo),Leaf.val (.int .i64 m.r.hi),Leaf.val (.bool m.c.neg),zaf m.c.n,zaf m.c.d]
@[reducible] def lmV(m:Lm):V:=V.agg [Leaf.val (.int .i64 m.unit),Leaf.val (.bool m.up),Leaf.val (.bool m.v.neg),zaf m.v.n,zaf m.v.d,muE.row m.pf]
class Hb (r:Rat) (n:outParam Nat):Prop where
 num:r.num.natAbs<2^n
 den:r.den<=2^n
theorem Hb.mono{r:Rat}{n m:Nat}(h:Hb r n)(hn:n<=m):Hb r m:=
 ⟨zEy h.num (zEC (by decide) hn),zEz h.den (zEC (by decide) hn)⟩
theorem zux(n:Nat):2^n<=4294967296^n:=Nat.pow_le_pow_left (by decide) n
theorem Hb.br{r:Rat}{n:Nat}(h:Hb r n):Br r (n+1):=by
 have h1:=zux n;have h2:4294967296^n<4294967296^(n+1):=zEV (by decide) (by omega);have h3:=h.num;have h4:=h.den;exact Br.of (by omega) (by omega)
theorem Hb.rq{b:Bool}{n d k:Nat}(h1:n<2^k)(h2:dn d<=2^k):Hb (rq b n d) k:=
 ⟨by have:=ziU b n d;unfold zaw at this;rw[this];exact zEQ (Nat.div_le_self _ _) h1,by rw[zmt];exact zEz (Nat.div_le_self _ _) h2⟩
instance Hb.mul{r s:Rat}{i j:Nat}[hr:Hb r i][hs:Hb s j]:Hb (r*s) (i+j):=by
 rw[<-zkd r,<-zkd s,<-zga,zc1 (Nat.ne_of_gt r.den_pos),zc1 (Nat.ne_of_gt s.den_pos)];refine Hb.rq ?_ ?_
 .rw[zEJ];exact Nat.mul_lt_mul'' hr.num hs.num
 .rw[zc1 (Nat.mul_ne_zero (Nat.ne_of_gt r.den_pos) (Nat.ne_of_gt s.den_pos)),zEJ];exact Nat.mul_le_mul hr.den hs.den
theorem zni(a b:Bool)(m n:Nat):(sgn a m+sgn b n).natAbs<=m+n:=by cases a <;> cases b <;> simp[sgn] <;> omega
instance Hb.add{r s:Rat}{i j:Nat}[hr:Hb r i][hs:Hb s j]:Hb (r+s) (i+j+1):=by
 rw[<-zkd r,<-zkd s,<-zog _ _ _ _ _ _ _ rfl,zc1 (Nat.ne_of_gt r.den_pos),zc1 (Nat.ne_of_gt s.den_pos)];refine Hb.rq ?_ ?_
 .refine zEQ (zni _ _ _ _) ?_;have h1:zaw r*s.den<2^(i+j):=by
   rw[zEJ];exact Nat.mul_lt_mul_of_lt_of_le hr.num hs.den (Nat.pow_pos (by decide))
  have h2:zaw s*r.den<2^(i+j):=by
   rw[zEJ,zEU (2^i)];exact Nat.mul_lt_mul_of_lt_of_le hs.num hr.den (Nat.pow_pos (by decide))
  rw[zEI];omega
 .rw[zc1 (Nat.mul_ne_zero (Nat.ne_of_gt r.den_pos) (Nat.ne_of_gt s.den_pos))];refine zEz (?_:_<=2^(i+j)) (zEC (by decide) (by omega));rw[zEJ];exact Nat.mul_le_mul hr.den hs.den
instance Hb.neg{r:Rat}{i:Nat}[hr:Hb r i]:Hb (-r) i:=⟨by rw[show(-r).num = -r.num from rfl,Int.natAbs_neg];exact hr.num,hr.den⟩
instance Hb.sub{r s:Rat}{i j:Nat}[hr:Hb r i][hs:Hb s j]:Hb (r-s) (i+j+1):=by
 rw[Rat.sub_eq_add_neg];exact Hb.add
instance Hb.abs{r:Rat}{i:Nat}[hr:Hb r i]:Hb (Rc.rq false (zaw r) (zaE r)) i:=
 Hb.rq hr.num (by rw[ziR];exact hr.den)
instance Br.abs{r:Rat}{i:Nat}[hr:Br r i]:Br (Rc.rq false (zaw r) (zaE r)) (i+1):=by
 have h1:=hr.num;have h2:=hr.den;have h3:4294967296^i<4294967296^(i+1):=zEV (by decide) (by omega);refine Br.rq (by omega) ?_;unfold zaE;split <;> omega
theorem Hb.zero:Hb 0 0:=⟨by decide,by decide⟩
theorem Hb.int{z:Int}{n:Nat}(h:z.natAbs<2^n):Hb (z:Rat) n:=⟨by rw[Rat.num_intCast];exact h,by rw[Rat.den_intCast];exact Nat.one_le_two_pow⟩
theorem zxI(z:Int):rq (decide (z<0)) z.natAbs 1=(z:Rat):=by
 have h:=zof (decide (z<0)) false z.natAbs 1 (by omega);rw[zdn] at h;have h1:(z:Rat)/((1:Int):Rat)=z:=by grind
 rw[<-h1];simpa[sgn] using h
theorem zeo(r:Rat):0<=rq false (zaw r) (zaE r):=by
 have h:=zgU false (zaw r) (zaE r);have h2:¬sgn false (zaw r)<0:=by simp[sgn]
 exact Rat.not_lt.1 (fun e=>h2 (h.1 e))
theorem zjX(r:Rat):rq false (zaw r) (zaE r)=if r<0 then -r else r:=by
 have h:=zhM r;split
 .rename_i hr;have hn:zaQ r=true:=by unfold zaQ;exact decide_eq_true (Int.not_le.1 (fun e=>Rat.not_le.2 hr (Rat.num_nonneg.1 e)))
  rw[hn] at h;rw[show(false:Bool) = !true from rfl,zrm,h]
 .rename_i hr;have hn:zaQ r=false:=by unfold zaQ;exact decide_eq_false (Int.not_lt.2 (Rat.num_nonneg.2 (Rat.not_lt.1 hr)))
  rw[hn] at h;exact h
instance numq_hb(l:List Nat)(k:Nat):Hb (zfD l k) 3:=by
 unfold zfD;have h9:nx l k 9<9:=zdj (by decide);have hd:=zrP (nx l (nk l k) 4);have e1:(((((nx l k 9:Nat):Int)-4:Int)):Rat)/((((nd (nx l (nk l k) 4):Nat):Int)):Rat)=rq (decide (((nx l k 9:Nat):Int)-4<0)) (((nx l k 9:Nat):Int)-4).natAbs (nd (nx l (nk l k) 4)):=by
  have h:=zof (decide (((nx l k 9:Nat):Int)-4<0)) false (((nx l k 9:Nat):Int)-4).natAbs (nd (nx l (nk l k) 4)) (by omega);rw[zdn] at h;simpa[sgn] using h.symm
 rw[e1];exact Hb.rq (by omega) (by rw[zc1 (by omega)];omega)
structure FOk(b n:Nat)(f:Af):Prop where
 can:CanT f.ts
 bd:∀t∈f.ts,Hb t.2 b
 cb:Hb f.c b
 var:∀t∈f.ts,t.1<n
theorem FOk.mono{b c n m:Nat}{f:Af}(h:FOk b n f)(h1:b<=c)(h2:n<=m):FOk c m f:=
 ⟨h.can,fun t ht=>(h.bd t ht).mono h1,h.cb.mono h1,fun t ht=>zEy (h.var t ht) h2⟩
theorem zkR:∀{ts:List Tm} {a n:Nat},CanT ts->(∀t∈ts,a<=t.1/\t.1<n)->ts.length<=n-a
 |[],a,n,_,_=>zEv _
 |(w,d)::ts,a,n,h,hv=>by
  obtain⟨h1,h2,h3⟩:=h;have h4:=hv (w,d) (by simp);have:=zkR (a:=w+1) (n:=n) h3 (fun t ht=>⟨h2 t ht,(hv t (by simp[ht])).2⟩);simp only[List.length_cons];simp at h4;omega
theorem FOk.len{b n:Nat}{f:Af}(h:FOk b n f):f.ts.length<=n:=by
 have:=zkR (a:=0) h.can (fun t ht=>⟨zEv _,h.var t ht⟩);omega
theorem FOk.fm{b n:Nat}{f:Af}(h:FOk b n f)(hn:n<=1000000):Fm f.ts (b+1) n:=
 ⟨h.can,fun t ht=>(h.bd t ht).br,h.len,fun t ht=>zEy (h.var t ht) hn⟩
theorem FOk.br{b n:Nat}{f:Af}(h:FOk b n f):Br f.c (b+1):=h.cb.br
theorem zvC{ts:List Tm}{v:Nat}{c:Rat}(h:∀t∈ts,t.1<v):zd7 ts v c=ts++(if c=0 then[] else[(v,c)]):=by
 have:=zi5 (a:=ts) (b:=[]) (v:=v) (c:=c) h;rw[zEN] at this;exact this
theorem sum1{ts:List Tm}{v:Nat}{c:Rat}(h:∀t∈ts,t.1<v):zgQ ts (scT [(v,((1:Int):Rat))] c)=ts++(if c=0 then[] else[(v,c)]):=by
 have e:scT [(v,((1:Int):Rat))] c=if c=0 then[] else[(v,c)]:=by
  show nz [] (v,((1:Int):Rat)*c)=_;have h1:((1:Int):Rat)*c=c:=by simp[Rat.one_mul]
  rw[h1];by_cases h0:c=0
  .rw[zhj h0,if_pos h0]
  .rw[ze0 h0,if_neg h0];rfl
 rw[e];by_cases h0:c=0
 .rw[if_pos h0,zEN];rfl
 .rw[if_neg h0];show zd7 ts v c=_;rw[zvC h,if_neg h0]
theorem zmA:∀{ts:List Tm} {v:Nat} {c:Rat},CanT ts->(∀t∈ts,t.1<v)->c≠0->CanT (ts++[(v,c)])
 |[],v,c,_,_,h=>⟨h,fun t ht=>by simp at ht,trivial⟩
 |(w,d)::ts,v,c,h,hv,hc=>by
  refine⟨h.1,fun t ht=>?_,zmA h.2.2 (fun t ht=>hv t (by simp[ht])) hc⟩;rcases zEK.1 ht with ht|ht
  .exact h.2.1 t ht
  .simp at ht;subst ht;exact hv (w,d) (by simp)
theorem zgs(l:List Nat)(k:Nat):∀n,FOk 3 n (zbn l k n).1
 |0=>⟨trivial,fun t ht=>by simp[zbn] at ht,numq_hb l k,fun t ht=>by simp[zbn] at ht⟩
 |n+1=>by
  have h:=zgs l k n;rw[zfs];unfold zuO;split
  .refine⟨?_,?_,?_,?_⟩ <;> simp only[] <;> try rw[sum1 h.var]
   .split
    .rw[zEN];exact h.can
    .rename_i h0;exact zmA h.can h.var h0
   .intro t ht;rcases zEK.1 ht with ht|ht
    .exact h.bd t ht
    .split at ht
     .simp at ht
     .simp at ht;subst ht;exact numq_hb _ _
   .rw[Rat.zero_mul,Rat.add_zero];exact h.cb
   .intro t ht;rcases zEK.1 ht with ht|ht
    .have:=h.var t ht;omega
    .split at ht
     .simp at ht
     .simp at ht;subst ht;simp
  .exact h.mono (zEt _) (by omega)
theorem zoK{l:List Nat}{k n:Nat}(hk:k<=l.length)(hn:n<=1000000):(zbn l k n).2<=l.length:=(zkx l k hk n hn).2.2
def zbL(l:List Nat)(f:Nat->Nat)(k n:Nat):List Af×Nat:=(List.range n).foldl (fun s j=>(s.1++[(zbn l s.2 (f j)).1],(zbn l s.2 (f j)).2)) ([],k)
theorem zcQ(l:List Nat)(f:Nat->Nat)(k n:Nat):zbL l f k (n+1)=((zbL l f k n).1++[(zbn l (zbL l f k n).2 (f n)).1],(zbn l (zbL l f k n).2 (f n)).2):=by
 unfold zbL;rw[List.range_succ,zER];rfl
theorem zbK(l:List Nat)(f:Nat->Nat)(k:Nat):∀n,(zbL l f k n).1.length=n
 |0=>rfl
 |n+1=>by rw[zcQ];simp[zbK l f k n]
theorem zc0{l:List Nat}{f:Nat->Nat}{k:Nat}(hk:k<=l.length)(hf:∀j,f j<=1000000\/True)(hf2:∀j,j<100->f j<=1000000):∀n,n<=100->(zbL l f k n).2<=l.length
 |0,_=>hk
 |n+1,hn=>by rw[zcQ];exact zoK (zc0 hk hf hf2 n (by omega)) (hf2 n (by omega))
theorem zfr(l:List Nat)(f:Nat->Nat)(k:Nat):∀(n j:Nat) (x:Af),(zbL l f k n).1[j]?=some x->FOk 3 (f j) x
 |0,j,x,h=>by simp[zbL] at h
 |n+1,j,x,h=>by
  rw[zcQ] at h;by_cases hj:j<(zbL l f k n).1.length
  .rw[zEx hj] at h;exact zfr l f k n j x h
  .rw[List.getElem?_append_right (by omega),zbK] at h;have h1:j-n=0:=by have:=(zEr.1 h).1;simp at this;omega
   rw[zbK] at hj;have h2:j=n:=by omega
   rw[h1] at h;simp at h;rw[<-h,h2];exact zgs _ _ _
theorem zfQ{α:Type}{l:List α}{x:α}(h:x∈l):∃j:Nat,l[j]?=some x:=List.getElem?_of_mem h
def zbO(l:List Nat)(k:Nat):Gr×Nat:=
 (⟨1+nx l k 3,(zbL l (fun j=>1+nx l k 3+j) (nk l (nk l (nk l k))) (nx l (nk l k) 5)).1,
  (zbL l (fun _=>1+nx l k 3+nx l (nk l k) 5) (zbL l (fun j=>1+nx l k 3+j) (nk l (nk l (nk l k))) (nx l (nk l k) 5)).2 (1+nx l (nk l (nk l k)) 3)).1⟩,
  (zbL l (fun _=>1+nx l k 3+nx l (nk l k) 5) (zbL l (fun j=>1+nx l k 3+j) (nk l (nk l (nk l k))) (nx l (nk l k) 5)).2 (1+nx l (nk l (nk l k)) 3)).2)
def zvk(l:List Nat)(s:(List Rat×List Rat)×Nat):(List Rat×List Rat)×Nat:=
 ((s.1.1++[zfD l s.2],s.1.2++[zfD l s.2+rq false (zaw (zfD l (nk l (nk l s.2)))) (zaE (zfD l (nk l (nk l s.2))))]),nk l (nk l (nk l (nk l s.2))))
def zkV(l:List Nat)(k n:Nat):(List Rat×List Rat)×Nat:=(List.range n).foldl (fun s _=>zvk l s) (([],[]),k)
theorem zgy(l:List Nat)(k n:Nat):zkV l k (n+1)=zvk l (zkV l k n):=by
 unfold zkV;rw[List.range_succ,zER];rfl
theorem zgz(l:List Nat)(k:Nat):∀n,(zkV l k n).1.1.length=n/\(zkV l k n).1.2.length=n
 |0=>⟨rfl,rfl⟩
 |n+1=>by rw[zgy];unfold zvk;simp[zgz l k n]
theorem zkU{l:List Nat}{k:Nat}(hk:k<=l.length):∀n,(zkV l k n).2<=l.length
 |0=>hk
 |n+1=>by rw[zgy];exact za3 (za3 (za3 (za3 (zkU hk n))))
theorem zo3(l:List Nat)(k:Nat):∀(n j:Nat) (x y:Rat),(zkV l k n).1.1[j]?=some x->(zkV l k n).1.2[j]?=some y->Hb x 3/\Hb y 7/\x<=y
 |0,j,x,y,h,_=>by simp[zkV] at h
 |n+1,j,x,y,h,h'=>by
  rw[zgy] at h h';unfold zvk at h h';simp only[] at h h';obtain⟨e1,e2⟩:=zgz l k n;by_cases hj:j<n
  .rw[zEx (by omega)] at h h';exact zo3 l k n j x y h h'
  .rw[List.getElem?_append_right (by omega)] at h h';have h1:j-n=0:=by have:=(zEr.1 h).1;simp at this;omega
   rw[e1,h1] at h;rw[e2,h1] at h';simp at h h';subst h;subst h';refine⟨numq_hb _ _,Hb.add.mono (by omega),?_⟩;have:=zeo (zfD l (nk l (nk l (zkV l k n).2)));grind
def ztS(l:List Nat)(k inp:Nat):Rg×Nat:=
 (⟨(zkV l k inp).1.1,(zkV l k inp).1.2,(zbL l (fun _=>inp) (nk l (zkV l k inp).2) (nx l (zkV l k inp).2 3)).1⟩,
  (zbL l (fun _=>inp) (nk l (zkV l k inp).2) (nx l (zkV l k inp).2 3)).2)
def zax(l:List Nat)(k:Nat):Qu×Nat:=
 (⟨(zbO l k).1,(ztS l (zbO l k).2 (zbO l k).1.inp).1,(zbn l (ztS l (zbO l k).2 (zbO l k).1.inp).2 ((zbO l k).1.inp+(zbO l k).1.us.length)).1⟩,
  (zbn l (ztS l (zbO l k).2 (zbO l k).1.inp).2 ((zbO l k).1.inp+(zbO l k).1.us.length)).2)
structure GOk(g:Gr):Prop where
 i1:1<=g.inp
 i3:g.inp<=3
 u4:g.us.length<=4
 o1:1<=g.os.length
 o3:g.os.length<=3
 us:∀(j:Nat) (x:Af),g.us[j]?=some x->FOk 3 (g.inp+j) x
 os:∀x∈g.os,FOk 3 (g.inp+g.us.length) x
structure ROk(n:Nat)(r:Rg):Prop where
 lo:r.lo.length=n
 hi:r.hi.length=n
 r2:r.rows.length<=2
 bd:∀(j:Nat) (x y:Rat),r.lo[j]?=some x->r.hi[j]?=some y->Hb x 3/\Hb y 7/\x<=y
 rows:∀x∈r.rows,FOk 3 n x
structure QOk(q:Qu):Prop where
 g:GOk q.g
 r:ROk q.g.inp q.r
 goal:FOk 3 (q.g.inp+q.g.us.length) q.goal
theorem ziL(l:List Nat)(k:Nat):GOk (zbO l k).1:=by
 have h1:nx l k 3<3:=zdj (by decide);have h2:nx l (nk l k) 5<5:=zdj (by decide);have h3:nx l (nk l (nk l k)) 3<3:=zdj (by decide);refine⟨?_,?_,?_,?_,?_,fun j x h=>zfr _ _ _ _ _ _ h,fun x hx=>?_⟩
 .show 1<=1+nx l k 3;omega
 .show 1+nx l k 3<=3;omega
 .show(zbL _ _ _ _).1.length<=4;rw[zbK];omega
 .show 1<=(zbL _ _ _ _).1.length;rw[zbK];omega
 .show(zbL _ _ _ _).1.length<=3;rw[zbK];omega
 .obtain⟨j,hj⟩:=zfQ hx;have:=zfr _ _ _ _ _ _ hj;show FOk 3 (1+nx l k 3+(zbL _ _ _ _).1.length) x;rw[zbK];exact this
theorem zmi{l:List Nat}{k:Nat}(hk:k<=l.length):(zbO l k).2<=l.length:=by
 have h1:nx l k 3<3:=zdj (by decide);have h2:nx l (nk l k) 5<5:=zdj (by decide);have h3:nx l (nk l (nk l k)) 3<3:=zdj (by decide);exact zc0 (zc0 (za3 (za3 (za3 hk))) (fun _=>.inr trivial) (fun j hj=>by omega) _ (by omega)) (fun _=>.inr trivial) (fun j hj=>by omega) _ (by omega)
theorem zxK(l:List Nat)(k n:Nat):ROk n (ztS l k n).1:=by
 have h3:nx l (zkV l k n).2 3<3:=zdj (by decide);refine⟨(zgz l k n).1,(zgz l k n).2,?_,zo3 l k n,fun x hx=>?_⟩
 .show(zbL _ _ _ _).1.length<=2;rw[zbK];omega
 .obtain⟨j,hj⟩:=zfQ hx;exact zfr _ _ _ _ _ _ hj
theorem zry{l:List Nat}{k n:Nat}(hk:k<=l.length)(hn:n<=1000):(ztS l k n).2<=l.length:=by
 have h3:nx l (zkV l k n).2 3<3:=zdj (by decide);exact zc0 (za3 (zkU hk n)) (fun _=>.inr trivial) (fun j hj=>by omega) _ (by omega)
theorem zlY(l:List Nat)(k:Nat):QOk (zax l k).1:=⟨ziL l k,zxK l _ _,zgs l _ _⟩
theorem zlZ{l:List Nat}{k:Nat}(hk:k<=l.length):(zax l k).2<=l.length:=by
 have h:=ziL l k;exact zoK (zry (zmi hk) (by have:=h.i3;omega)) (by have:=h.i3;have:=h.u4;omega)
end Rc

namespace Go.Proofs.YtjeiacoegppoiaaGreatDoor
open Go Go.RowKit Rc
theorem zpW(l:List Nat)(k:Nat)(hl:l.length<=1000000)(hk:k<=l.length)(hb:∀x∈l,x<256):CtrP Tryz.prog 205 158 [El.row u8E l,Leaf.val (.int .i64 (k:Int))] [El.row u8E l,Leaf.val (.int .i64 (((zbO l k).2:Nat):Int))] [] (R.one (grV (zbO l k).1)):=by
 refine CtrP.of_body Tryz.func205 rfl Tryz.ntmps205 (zEw rfl) (fun w0 A0 bk hX=>?_);refine qc_ ?_;have h1:nx l k 3<3:=zdj (by decide);have h2:nx l (nk l k) 5<5:=zdj (by decide);have h3:nx l (nk l (nk l k)) 3<3:=zdj (by decide);have hk1:=za3 hk;have hk2:=za3 hk1;have hk3:=za3 hk2;refine zc 2 rfl (te_ rfl (zdZ (n:=1) rfl tx28 rfl) (zl 5 rfl (te_ rfl (zaB rfl zhD rfl rfl rfl rfl (zbU l k 3 (by first|decide|omega) (by first|decide|omega) hl (by first|assumption|exact za3 (by assumption)) hb)) (tq_ rfl (jad (1+nx l k 3) rfl) (tq_ rfl (zeD rfl tx28 rfl pl28 rfl) (te_ rfl (zdZ (n:=2) rfl tx28 rfl) (zl 6 rfl ?_)))))));refine te_ rfl (zaB rfl zhD rfl rfl rfl rfl (zbU l (nk l k) 5 (by first|decide|omega) (by first|decide|omega) hl (by first|assumption|exact za3 (by assumption)) hb)) (zl 1 rfl ?_);refine te_ rfl (zaB rfl zhD rfl rfl rfl rfl (zbU l (nk l (nk l k)) 3 (by first|decide|omega) (by first|decide|omega) hl (by first|assumption|exact za3 (by assumption)) hb)) (tq_ rfl (jad (1+nx l (nk l (nk l k)) 3) rfl) (zl 6 rfl ?_));refine zcX 2 38 4 (ls':=[Leaf.val (.int .i64 ((1+nx l k 3:Nat):Int)),Leaf.own 3 0,Leaf.val (.slice none 0 0)]) rfl rfl rfl ⟨.inl rfl,.inr ⟨rfl,rfl⟩,.inl rfl,trivial⟩ (zc 5 rfl ?_);refine zbv (fun m Γ H=>∃(i:Nat) (n:Nat) (out:List Af) (q:Nat),(nx l (nk l k) 5)-i=m/\Γ=[(0,some (D.ptr 0 0)),(2,some (D.ptr 1 0)),(3,some (D.ptr 2 0)),(4,some (D.val (.int .i64 ((nx l (nk l k) 5:Nat):Int)))),(5,some (D.val (.int .i64 ((1+nx l (nk l (nk l k)) 3:Nat):Int)))),(6,some (D.val (.int .i64 (i:Int))))]/\H=[hbq 158 [El.row u8E l,Leaf.val (.int .i64 (q:Int))] bk,hb_ 28 [Leaf.val (.int .i64 0),Leaf.val (.slice none 0 0),Leaf.val (.slice none 0 0)],hb_ 28 [Leaf.val (.int .i64 (((1+nx l k 3):Nat):Int)),Leaf.own 3 n,Leaf.val (.slice none 0 0)],hgr 38 4 afE out n]/\i<=(nx l (nk l k) 5)/\(out,q)=zbL l (fun j=>1+nx l k 3+j) (nk l (nk l (nk l k))) i) ⟨0,0,[],_,rfl,rfl,rfl,zEv _,rfl⟩ rfl ?_;rintro m Γ H ⟨i,n,out,q,rfl,rfl,rfl,hi0,hs⟩;refine zc 5 rfl ?_;by_cases hi:i<(nx l (nk l k) 5)
 .refine tq_ rfl (ltT rfl) (zl 7 rfl ?_);have hol:=congrArg (fun p=>p.1.length) hs;simp only[zbK] at hol;have hq:q<=l.length:=by have:=zc0 (l:=l) (f:=(fun j=>1+nx l k 3+j)) (k:=(nk l (nk l (nk l k)))) (za3 (za3 (za3 hk))) (fun _=>.inr trivial) (fun j hj=>by omega) i (by omega);rw[<-hs] at this;exact this
  refine dr_ 0 [(7,0),(9,3),(11,2)] [0,3,2] (dz 1 rfl (kp_ [0,3] rfl (jld rfl) (dz 2 rfl (kp_ [0,3] rfl (jld rfl) (dz 1 rfl (kq_ rfl (jad (1+nx l k 3+i) rfl) (ki_ 0 rfl (zdF rfl zCJ rfl rfl rfl rfl (ze3 l q (1+nx l k 3+i) (by omega) hl (by assumption) hb)) ?_)))))));refine ke_ rfl (fun _=>zad rfl zAo zjz zAp rfl (by decide) (by decide) rfl (by decide) rfl) (ki_ 3 rfl (dap (e:=afE) (⟨(zbn l q (1+nx l k 3+i)).1.ts,(zbn l q (1+nx l k 3+i)).1.c⟩) rfl rfl) (dz 2 rfl (zae (za 4 rfl (tq_ rfl (jad (i+1) rfl) (zl 2 rfl ?_))))));exact nx_ ⟨i+1,_,_,_,rfl,rfl,rfl,hi,by rw[zcQ,<-hs]⟩ rfl
 .refine tq_ rfl (ltF rfl) (zl 10 rfl ?_);have hie:i=(nx l (nk l k) 5):=by omega
  subst hie;refine zcX 2 38 4 (ls':=[Leaf.val (.int .i64 (((1+nx l k 3):Nat):Int)),Leaf.own 3 n,Leaf.own 4 0]) rfl rfl rfl ⟨.inl rfl,.inl rfl,.inr ⟨rfl,rfl⟩,trivial⟩ (zc 5 rfl ?_);refine zbv (fun m Γ H=>∃(i:Nat) (n2:Nat) (out2:List Af) (q2:Nat),(1+nx l (nk l (nk l k)) 3)-i=m/\Γ=[(0,some (D.ptr 0 0)),(2,some (D.ptr 1 0)),(3,some (D.ptr 2 0)),(4,some (D.val (.int .i64 ((nx l (nk l k) 5:Nat):Int)))),(5,some (D.val (.int .i64 ((1+nx l (nk l (nk l k)) 3:Nat):Int)))),(7,some (D.val (.int .i64 (i:Int))))]/\H=[hbq 158 [El.row u8E l,Leaf.val (.int .i64 (q2:Int))] bk,hb_ 28 [Leaf.val (.int .i64 0),Leaf.val (.slice none 0 0),Leaf.val (.slice none 0 0)],hb_ 28 [Leaf.val (.int .i64 (((1+nx l k 3):Nat):Int)),Leaf.own 3 n,Leaf.own 4 n2],hgr 38 4 afE out n,hgr 38 4 afE out2 n2]/\i<=(1+nx l (nk l (nk l k)) 3)/\(out2,q2)=zbL l (fun _=>1+nx l k 3+(nx l (nk l k) 5)) (zbL l (fun j=>1+nx l k 3+j) (nk l (nk l (nk l k))) (nx l (nk l k) 5)).2 i) ⟨0,0,[],_,rfl,rfl,rfl,zEv _,(by rw[<-hs];rfl)⟩ rfl ?_;rintro m Γ H ⟨i,n2,out2,q2,rfl,rfl,rfl,hj0,hs2⟩;refine zc 5 rfl ?_;by_cases hj:i<(1+nx l (nk l (nk l k)) 3)
  .refine tq_ rfl (ltT rfl) (zl 7 rfl ?_);have hol2:=congrArg (fun p=>p.1.length) hs2;simp only[zbK] at hol2;have hq2:q2<=l.length:=by have:=zc0 (l:=l) (f:=(fun _=>1+nx l k 3+(nx l (nk l k) 5))) (k:=(zbL l (fun j=>1+nx l k 3+j) (nk l (nk l (nk l k))) (nx l (nk l k) 5)).2) (zc0 (za3 (za3 (za3 hk))) (fun _=>.inr trivial) (fun j hj=>by omega) _ (by omega)) (fun _=>.inr trivial) (fun j hj=>by omega) i (by omega);rw[<-hs2] at this;exact this
   refine dr_ 0 [(7,0),(9,4),(11,2)] [0,4,2] (dz 1 rfl (kp_ [0,4] rfl (jld rfl) (dz 2 rfl (kp_ [0,4] rfl (jld rfl) (dz 1 rfl (kq_ rfl (jad ((1+nx l k 3)+(nx l (nk l k) 5)) rfl) (ki_ 0 rfl (zdF rfl zCJ rfl rfl rfl rfl (ze3 l q2 ((1+nx l k 3)+(nx l (nk l k) 5)) (by omega) hl (by assumption) hb)) ?_)))))));refine ke_ rfl (fun _=>zad rfl zAo zjz zAp rfl (by decide) (by decide) rfl (by decide) rfl) (ki_ 4 rfl (dap (e:=afE) (⟨(zbn l q2 ((1+nx l k 3)+(nx l (nk l k) 5))).1.ts,(zbn l q2 ((1+nx l k 3)+(nx l (nk l k) 5))).1.c⟩) rfl rfl) (dz 2 rfl (zae (za 4 rfl (tq_ rfl (jad (i+1) rfl) (zl 2 rfl ?_))))));exact nx_ ⟨i+1,_,_,_,rfl,rfl,rfl,hj,by rw[zcQ,<-hs2]⟩ rfl
  .refine tq_ rfl (ltF rfl) (zl 9 rfl ?_);have hie:i=(1+nx l (nk l (nk l k)) 3):=by omega
   subst hie;refine zc 5 rfl (zcW 1 (ls':=[Leaf.val (.int .i64 (((1+nx l k 3):Nat):Int)),El.row afE out,Leaf.own 4 n2]) rfl rfl (RowAt.ofE afE out rfl (by decide)) ⟨.inl rfl,.inr ⟨rfl,rfl⟩,.inl rfl,trivial⟩ ?_);refine zcW 1 (ls':=[Leaf.val (.int .i64 (((1+nx l k 3):Nat):Int)),El.row afE out,El.row afE out2]) rfl rfl (RowAt.ofE afE out2 rfl (by decide)) ⟨.inl rfl,.inl rfl,.inr ⟨rfl,rfl⟩,trivial⟩ ?_;exact zf0 (fun _ _ h=>h) rfl (⟨_,_,rfl,rfl,.inl ⟨ty28,zEw rfl,rfl⟩⟩) (by unfold zbO;rw[<-hs2,<-hs]) rfl (by unfold zbO;rw[<-hs2]) hX
theorem zpz(l:List Nat)(k inp:Nat)(hn:inp<=100)(hl:l.length<=1000000)(hk:k<=l.length)(hb:∀x∈l,x<256):CtrP Tryz.prog 206 158 [El.row u8E l,Leaf.val (.int .i64 (k:Int))] [El.row u8E l,Leaf.val (.int .i64 (((ztS l k inp).2:Nat):Int))] [V.one (Leaf.val (.int .i64 ((inp:Int))))] (R.one (rgV (ztS l k inp).1)):=by
 refine CtrP.of_body Tryz.func206 rfl Tryz.ntmps206 (zEw rfl) (fun w0 A0 bk hX=>?_);refine qc_ (zc 2 rfl (te_ rfl (zdZ (n:=1) rfl tx31 rfl) (zl 4 rfl (te_ rfl (zdZ (n:=2) rfl tx31 rfl) (zl 4 rfl (zcX 2 36 3 (ls':=[Leaf.own 3 0,Leaf.val (.slice none 0 0),Leaf.val (.slice none 0 0)]) rfl rfl rfl ⟨.inr ⟨rfl,rfl⟩,.inl rfl,.inl rfl,trivial⟩ ?_))))));refine zcX 2 36 3 (ls':=[Leaf.own 3 0,Leaf.own 4 0,Leaf.val (.slice none 0 0)]) rfl rfl rfl ⟨.inl rfl,.inr ⟨rfl,rfl⟩,.inl rfl,trivial⟩ (zc 5 rfl ?_);refine zbv (fun m Γ H=>∃(i:Nat) (n1 n2:Nat) (lo up:List Rat) (q:Nat),inp-i=m/\Γ=[(0,some (D.ptr 0 0)),(1,some (D.val (.int .i64 (inp:Int)))),(4,some (D.ptr 1 0)),(5,some (D.ptr 2 0)),(6,some (D.val (.int .i64 (i:Int))))]/\H=[hbq 158 [El.row u8E l,Leaf.val (.int .i64 (q:Int))] bk,hb_ 31 [Leaf.val (.slice none 0 0),Leaf.val (.slice none 0 0),Leaf.val (.slice none 0 0)],hb_ 31 [Leaf.own 3 n1,Leaf.own 4 n2,Leaf.val (.slice none 0 0)],hgr 36 3 ratE lo n1,hgr 36 3 ratE up n2]/\i<=inp/\((lo,up),q)=zkV l k i) ⟨0,0,0,[],[],_,rfl,rfl,rfl,zEv _,rfl⟩ rfl ?_;rintro m Γ H ⟨i,n1,n2,lo,up,q,rfl,rfl,rfl,hi0,hs⟩;refine zc 5 rfl ?_;by_cases hi:i<inp
 .refine tq_ rfl (ltT rfl) (zl 8 rfl ?_);obtain⟨e1,e2⟩:=zgz l k i;have hq:=zkU hk i;rw[<-hs] at e1 e2 hq;simp only[] at e1 e2 hq;have hq1:=za3 hq;have hq2:=za3 hq1;haveI:=ziy l q;haveI:=ziy l (nk l (nk l q));refine zc 2 rfl (te_ rfl (zaB rfl zAw rfl rfl rfl rfl (zcM l q hl (by first|assumption|exact za3 (by assumption)) hb)) (zl 1 rfl (te_ rfl (zaB rfl zAw rfl rfl rfl rfl (zcM l (nk l (nk l q)) hl (by first|assumption|exact za3 (by assumption)) hb)) (zl 12 rfl (dr_ 0 [(4,3),(11,4),(13,2),(15,2)] [3,4,2] (dz 1 rfl ?_))))));refine kp_ [3,4] rfl (jld rfl) (dz 1 rfl (ke_ rfl (fun _=>zad rfl zAJ zmV zAQ rfl (by decide) (by decide) rfl (by decide) rfl) (ki_ 3 rfl (dap (zfD l q) rfl rfl) (dz 1 rfl (kp_ [3,4] rfl (jld rfl) (dz 2 rfl ?_))))));refine kc_ zzg rfl (zna (qOf (zfD l q)) (zfD l q) (zaj _) (Br.use (by omega)) (Qr.mk false (zaa (zaw (zfD l (nk l (nk l q))))) (zaa (zaE (zfD l (nk l (nk l q))))) (zab _) (zab _)) (rq false (zaw (zfD l (nk l (nk l q)))) (zaE (zfD l (nk l (nk l q))))) (zpK (zac _) (zac _)) (Fit.mk (Br.use (r:=zfD l (nk l (nk l q))) (by omega)).n (Br.use (r:=zfD l (nk l (nk l q))) (by omega)).d)) ?_;refine ke_ rfl (fun _=>zad rfl zAJ zmV zAQ rfl (by decide) (by decide) rfl (by decide) rfl) (ki_ 4 rfl (dap ((zfD l q)+(rq false (zaw (zfD l (nk l (nk l q)))) (zaE (zfD l (nk l (nk l q)))))) rfl rfl) (dz 4 rfl (zae (za 4 rfl (tq_ rfl (jad (i+1) rfl) (zl 2 rfl (zal 5 (zal 6 (zaM 5 rfl ?_)))))))));exact nx_ ⟨i+1,_,_,_,_,_,rfl,rfl,rfl,hi,by rw[zgy,<-hs];rfl⟩ rfl
 .refine tq_ rfl (ltF rfl) (zl 10 rfl ?_);have hie:inp=i:=by omega
  subst hie;have hq:=zkU hk inp;rw[<-hs] at hq;have hq:q<=l.length:=hq;have hm3:nx l q 3<3:=zdj (by decide);have hqk:=za3 hq;refine zcX 2 38 4 (ls':=[Leaf.own 3 n1,Leaf.own 4 n2,Leaf.own 5 0]) rfl rfl rfl ⟨.inl rfl,.inl rfl,.inr ⟨rfl,rfl⟩,trivial⟩ (zc 2 rfl (te_ rfl (zaB rfl zhD rfl rfl rfl rfl (zbU l q 3 (by first|decide|omega) (by first|decide|omega) hl (by first|assumption|exact za3 (by assumption)) hb)) (zl 4 rfl ?_)));refine zbv (fun m Γ H=>∃(i:Nat) (n3:Nat) (out:List Af) (q2:Nat),(nx l q 3)-i=m/\Γ=[(0,some (D.ptr 0 0)),(1,some (D.val (.int .i64 (inp:Int)))),(4,some (D.ptr 1 0)),(5,some (D.ptr 2 0)),(9,some (D.val (.int .i64 ((((nx l q 3)-i):Nat):Int))))]/\H=[hbq 158 [El.row u8E l,Leaf.val (.int .i64 (q2:Int))] bk,hb_ 31 [Leaf.val (.slice none 0 0),Leaf.val (.slice none 0 0),Leaf.val (.slice none 0 0)],hb_ 31 [Leaf.own 3 n1,Leaf.own 4 n2,Leaf.own 5 n3],hgr 36 3 ratE lo n1,hgr 36 3 ratE up n2,hgr 38 4 afE out n3]/\i<=(nx l q 3)/\(out,q2)=zbL l (fun _=>inp) (nk l q) i) ⟨0,0,[],_,rfl,rfl,rfl,zEv _,rfl⟩ rfl ?_;rintro m Γ H ⟨i,n3,out,q2,rfl,rfl,rfl,hj0,hs2⟩;refine zc 4 rfl ?_;by_cases hj:i<(nx l q 3)
  .refine tq_ rfl (gtT rfl) (zl 7 rfl ?_);have hol:=congrArg (fun p=>p.1.length) hs2;simp only[zbK] at hol;have hq2:q2<=l.length:=by have:=zc0 (l:=l) (f:=(fun _=>inp)) (k:=(nk l q)) hqk (fun _=>.inr trivial) (fun j hj=>by omega) i (by omega);rw[<-hs2] at this;exact this
   refine dr_ 0 [(4,0),(6,5),(8,2)] [0,5,2] (dz 1 rfl (kp_ [0,5] rfl (jld rfl) (dz 2 rfl (ki_ 0 rfl (zdF rfl zCJ rfl rfl rfl rfl (ze3 l q2 inp (by omega) hl (by assumption) hb)) (ke_ rfl (fun _=>zad rfl zAo zjz zAp rfl (by decide) (by decide) rfl (by decide) rfl) (ki_ 5 rfl (dap (e:=afE) (⟨(zbn l q2 inp).1.ts,(zbn l q2 inp).1.c⟩) rfl rfl) ?_))))));refine dz 2 rfl (zae (za 4 rfl (tq_ rfl (jsb ((nx l q 3)-(i+1)) rfl) (zl 2 rfl ?_))));exact nx_ ⟨i+1,_,_,_,rfl,rfl,rfl,(by omega),by rw[zcQ,<-hs2]⟩ rfl
  .refine tq_ rfl (gtF rfl) (zl 9 rfl ?_);have hie:i=(nx l q 3):=by omega
   subst hie;refine zc 5 rfl (zcW 1 (ls':=[El.row ratE lo,Leaf.own 4 n2,Leaf.own 5 n3]) rfl rfl (RowAt.ofE ratE lo rfl (by decide)) ⟨.inr ⟨rfl,rfl⟩,.inl rfl,.inl rfl,trivial⟩ (zcW 1 (ls':=[El.row ratE lo,El.row ratE up,Leaf.own 5 n3]) rfl rfl (RowAt.ofE ratE up rfl (by decide)) ⟨.inl rfl,.inr ⟨rfl,rfl⟩,.inl rfl,trivial⟩ ?_));refine zcW 1 (ls':=[El.row ratE lo,El.row ratE up,El.row afE out]) rfl rfl (RowAt.ofE afE out rfl (by decide)) ⟨.inl rfl,.inl rfl,.inr ⟨rfl,rfl⟩,trivial⟩ ?_;exact zf0 (fun _ _ h=>h) rfl (⟨_,_,rfl,rfl,.inl ⟨ty31,zEw rfl,rfl⟩⟩) (by unfold ztS;rw[<-hs,<-hs2]) rfl (by unfold ztS;rw[<-hs,<-hs2]) hX
theorem zpJ(l:List Nat)(k:Nat)(hl:l.length<=1000000)(hk:k<=l.length)(hb:∀x∈l,x<256):CtrP Tryz.prog 149 158 [El.row u8E l,Leaf.val (.int .i64 (k:Int))] [El.row u8E l,Leaf.val (.int .i64 (((zax l k).2:Nat):Int))] [] (R.one (quV (zax l k).1)):=by
 refine CtrP.of_body Tryz.func149 rfl Tryz.ntmps149 (zEw rfl) (fun w0 A0 bk hX=>?_);refine qc_ ?_;have hg:=ziL l k;have h1:=hg.i1;have h2:=hg.i3;have h3:=hg.u4;have hk1:=zmi hk;have hk2:=zry (n:=(zbO l k).1.inp) hk1 (by omega);refine zc 8 rfl (te_ rfl (zaB rfl fn205 rfl rfl rfl rfl (zpW l k hl (by assumption) hb)) (zl 9 rfl (te_ rfl (zaB rfl fn206 rfl rfl rfl rfl (zpz l ((zbO l k).2) ((zbO l k).1.inp) (by omega) hl (by assumption) hb)) (zl 5 rfl (dr_ 0 [(9,0),(11,1)] [0,1] (dz 7 rfl (kq_ rfl (jln rfl) ?_)))))));refine kq_ rfl (jad (((zbO l k).1.inp)+(((zbO l k).1.us).length)) rfl) (ki_ 0 rfl (zdF rfl zCJ rfl rfl rfl rfl (ze3 l ((ztS l ((zbO l k).2) ((zbO l k).1.inp)).2) (((zbO l k).1.inp)+(((zbO l k).1.us).length)) (by omega) hl (by assumption) hb)) (dz 2 rfl (zae (za 1 rfl ?_))));exact zf0 (fun _ _ h=>h) rfl (⟨_,_,rfl,rfl,.inl ⟨ty40,zEw rfl,rfl⟩⟩) rfl rfl rfl hX
theorem zq5(l:List Af)(vars:Nat){B n:Nat}(hA:∀f∈l,Fm f.ts B n/\Br f.c B)(hB:B<=300000000000)(hn:n<=1000)(hl:l.length<=1000)(hv:vars<=1000000):Ctr Tryz.prog 146 [V.one (El.row afE l),V.one (Leaf.val (.int .i64 ((vars:Int))))] (R.one (V.one (Leaf.val (.bool (decide (∀f∈l,∀t∈f.ts,t.1<vars)))))):=by
 refine bd_ Tryz.func146 Tryz.ntmps146 rfl (fun w0 A0=>?_);refine zc 12 rfl (zbv (fun m Γ H=>∃(i:Nat),l.length-i=m/\Γ=[(0,some (D.v (V.one (El.row afE l)))),(1,some (D.val (.int .i64 (vars:Int)))),(5,some (D.val (.int .i64 (i:Int))))]/\H=[]/\i<=l.length/\∀f∈l.take i,∀t∈f.ts,t.1<vars) ⟨0,rfl,rfl,rfl,zEv _,by simp⟩ rfl ?_);rintro m Γ H ⟨i,rfl,rfl,rfl,hi0,hall⟩;refine zc 5 rfl (tq_ rfl (jln rfl) ?_);by_cases hi:i<l.length
 .refine tq_ rfl (ltT rfl) (zl 8 rfl ?_);obtain⟨x,hx⟩:∃x,l[i]?=some x:=⟨_,zEp hi⟩;obtain⟨hxm,hxc⟩:=hA x (zEq hx);refine zc 3 rfl (tq_ rfl (jix i hx rfl) (tq_ rfl (jlr rfl) (zl 1 rfl (tc_ zAz rfl (zq6 x vars hxm.can hxm.bd hB (zEz hxm.len hn) hv) (zl 3 rfl ?_)))));refine zao rfl (fun hc18=>?_) (fun hc18=>?_)
  .refine zc 5 rfl ?_;exact r1_ hq_ rfl (by rw[badA hx (by simpa using hc18)])
  .refine zc 5 rfl (tq_ rfl (jad (i+1) rfl) (zl 2 rfl ?_));exact nx_ ⟨i+1,rfl,rfl,rfl,hi,takeA hx hall (by simpa using hc18)⟩ rfl
 .refine tq_ rfl (ltF rfl) (zl 13 rfl ?_);exact r1_ hq_ rfl (by rw[decide_eq_true (show ∀f∈l,∀t∈f.ts,t.1<vars from by rw[show i=l.length by omega,zEM] at hall;exact hall)])
theorem zf9(f:Af){b n:Nat}(h:FOk b n f)(hb:b<=1000000000)(vars:Nat)(hv:n<=vars)(hv2:vars<=1000):Ctr Tryz.prog 31 [afV f,V.one (Leaf.val (.int .i64 ((vars:Int))))] (R.one (V.one (Leaf.val (.bool true)))):=by
 haveI:=h.br;have e:=zq6 f vars (B:=b+1) h.can (fun t ht=>(h.bd t ht).br) (by omega) (zEz h.len (by omega)) (by omega)
 rwa [decide_eq_true (fun t ht=>zEy (h.var t ht) hv)] at e
theorem zhf(l:List Af){b n:Nat}(h:∀f∈l,FOk b n f)(hb:b<=1000000000)(hl:l.length<=1000)(vars:Nat)(hv:n<=vars)(hv2:vars<=1000):Ctr Tryz.prog 146 [V.one (El.row afE l),V.one (Leaf.val (.int .i64 ((vars:Int))))] (R.one (V.one (Leaf.val (.bool true)))):=by
 have e:=zq5 l vars (B:=b+1) (n:=n) (fun f hf=>⟨(h f hf).fm (by omega),(h f hf).br⟩) (by omega) (by omega) hl (by omega)
 rwa [decide_eq_true (fun f hf t ht=>zEy ((h f hf).var t ht) hv)] at e
theorem zjE(l:List Rat){B:Nat}(h:∀x∈l,Br x B)(hB:B<=100000)(hl:l.length<=1000):Ctr Tryz.prog 189 [V.one (El.row ratE l)] (R.one (V.one (Leaf.val (.bool true)))):=by
 refine bd_ Tryz.func189 Tryz.ntmps189 rfl (fun w0 A0=>?_);refine zc 12 rfl (zbv (fun m Γ H=>∃(i:Nat),l.length-i=m/\Γ=[(0,some (D.v (V.one (El.row ratE l)))),(3,some (D.val (.int .i64 (i:Int))))]/\H=[]/\i<=l.length) ⟨0,rfl,rfl,rfl,zEv _⟩ rfl ?_);rintro m Γ H ⟨i,rfl,rfl,rfl,hi0⟩;refine zc 5 rfl (tq_ rfl (jln rfl) ?_);by_cases hi:i<l.length
 .refine tq_ rfl (ltT rfl) (zl 8 rfl ?_);obtain⟨x,hx⟩:∃x,l[i]?=some x:=⟨_,zEp hi⟩;haveI hbx:=h x (zEq hx);refine zc 3 rfl (tq_ rfl (jix i hx rfl) (tq_ rfl (jlr rfl) (tc_ zsk rfl (zdt (qOf x) x (zaj _) (Br.use (by omega))) (is_ true rfl (zde _) (zl 9 rfl (tq_ rfl (jad (i+1) rfl) (zl 2 rfl ?_)))))));exact nx_ ⟨i+1,rfl,rfl,rfl,hi⟩ rfl
 .refine tq_ rfl (ltF rfl) (zl 13 rfl ?_);exact r1_ hq_ rfl rfl
theorem zoH(g:Gr)(hg:GOk g):Ctr Tryz.prog 71 [grV g] (R.one (V.one (Leaf.val (.bool true)))):=by
 refine bd_ Tryz.func71 Tryz.ntmps71 rfl (fun w0 A0=>?_);have h1:=hg.i1;have h2:=hg.i3;have h3:=hg.u4;have h4:=hg.o1;have h5:=hg.o3;refine zc 11 rfl (tq_ rfl (ltF rfl) (zl 3 rfl (tq_ rfl (gtF rfl) (zl 4 rfl (tq_ rfl (jln rfl) (tq_ rfl (gtF rfl) (zl 4 rfl (tq_ rfl (jln rfl) (tq_ rfl (ltF rfl) ?_)))))))));refine zl 4 rfl (tq_ rfl (jln rfl) (tq_ rfl (gtF rfl) (zl 13 rfl (zbv (fun m Γ H=>∃(i:Nat),g.us.length-i=m/\Γ=[(1,some (D.ptr 0 0)),(3,some (D.val (.int .i64 (i:Int))))]/\H=[hb_ 28 [Leaf.val (.int .i64 ((g.inp:Nat):Int)),El.row afE g.us,El.row afE g.os]]/\i<=g.us.length) ⟨0,rfl,rfl,rfl,zEv _⟩ rfl ?_))));rintro m Γ H ⟨i,rfl,rfl,rfl,hi0⟩;refine zc 6 rfl (tq_ rfl (jln rfl) ?_);by_cases hi:i<g.us.length
 .refine tq_ rfl (ltT rfl) (zl 8 rfl ?_);obtain⟨x,hx⟩:∃x,g.us[i]?=some x:=⟨_,zEp hi⟩;have hxo:=hg.us i x hx;refine dr_ 0 [] [] (dz 3 rfl (kq_ rfl (jix i hx rfl) (kq_ rfl (jlr rfl) (dz 3 rfl (kq_ rfl (jad (g.inp+i) rfl) (kc_ zAz rfl (zf9 x hxo (by omega) (g.inp+i) (zEt _) (by omega)) (dz 1 rfl (zae (za 7 rfl ?_)))))))));refine tq_ rfl (jad (i+1) rfl) (zl 2 rfl ?_);exact nx_ ⟨i+1,rfl,rfl,rfl,hi⟩ rfl
 .refine tq_ rfl (ltF rfl) (zl 16 rfl (tq_ rfl (jln rfl) (tq_ rfl (jad (g.inp+g.us.length) rfl) (tc_ zC9 rfl (zhf g.os hg.os (by omega) (by omega) (g.inp+g.us.length) (zEt _) (by omega)) (zl 3 rfl ?_)))));exact r1_ hq_ rfl rfl
theorem zlm(g:Gr)(hg:GOk g):Ctr Tryz.prog 47 [grV g] (R.one (V.one (Leaf.val (.int .i64 (((g.inp+g.us.length:Nat):Int)))))):=by
 refine bd_ Tryz.func47 Tryz.ntmps47 rfl (fun w0 A0=>?_);have h1:=hg.i1;have h2:=hg.i3;have h3:=hg.u4;have h4:=hg.o1;have h5:=hg.o3;refine zc 10 rfl (tc_ fn71 rfl (zoH g (by assumption)) (zl 12 rfl (tq_ rfl (jln rfl) (tq_ rfl (jad (g.inp+g.us.length) rfl) (zl 3 rfl ?_)))));exact r1_ hq_ rfl rfl
theorem zru(r:Rg)(n:Nat)(hr:ROk n r)(hn1:1<=n)(hn3:n<=3):Ctr Tryz.prog 123 [rgV r,V.one (Leaf.val (.int .i64 ((n:Int))))] (R.one (V.one (Leaf.val (.bool true)))):=by
 refine bd_ Tryz.func123 Tryz.ntmps123 rfl (fun w0 A0=>?_);have h1:=hr.lo;have h2:=hr.hi;have h3:=hr.r2;refine zc 10 rfl (tq_ rfl (ltF rfl) (zl 2 rfl (tq_ rfl (gtF rfl) (zl 4 rfl (tq_ rfl (jln rfl) (zl 1 rfl (tq_ rfl (neF rfl) (zl 4 rfl (tq_ rfl (jln rfl) ?_)))))))));refine zl 1 rfl (tq_ rfl (neF rfl) (zl 4 rfl (tq_ rfl (jln rfl) (tq_ rfl (gtF rfl) (zl 11 rfl ?_)))));refine tc_ zCZ rfl (zjE r.lo (B:=4) (fun x hx=>by obtain⟨j,hj⟩:=zfQ hx;obtain⟨y,hy⟩:∃y,r.hi[j]?=some y:=⟨_,zEp (by have:=(zEr.1 hj).1;omega)⟩;exact(hr.bd j _ _ hj hy).1.br) (by omega) (by omega)) ?_;refine zl 4 rfl ?_;refine tc_ zCZ rfl (zjE r.hi (B:=8) (fun x hx=>by obtain⟨j,hj⟩:=zfQ hx;obtain⟨y,hy⟩:∃y,r.lo[j]?=some y:=⟨_,zEp (by have:=(zEr.1 hj).1;omega)⟩;exact(hr.bd j _ _ hy hj).2.1.br) (by omega) (by omega)) ?_;refine zl 6 rfl (tc_ zC9 rfl (zhf r.rows hr.rows (by omega) (by omega) n (zEt _) (by omega)) (zl 14 rfl ?_));refine zbv (fun m Γ H=>∃(i:Nat),n-i=m/\Γ=[(1,some (D.val (.int .i64 (n:Int)))),(2,some (D.ptr 0 0)),(5,some (D.val (.int .i64 (i:Int))))]/\H=[hb_ 31 [El.row ratE r.lo,El.row ratE r.hi,El.row afE r.rows]]/\i<=n) ⟨0,rfl,rfl,rfl,zEv _⟩ rfl ?_;rintro m Γ H ⟨i,rfl,rfl,rfl,hi0⟩;refine zc 5 rfl ?_;by_cases hi:i<n
 .refine tq_ rfl (ltT rfl) (zl 8 rfl ?_);obtain⟨x,hx⟩:∃x,r.lo[i]?=some x:=⟨_,zEp (by omega)⟩;obtain⟨y,hy⟩:∃y,r.hi[i]?=some y:=⟨_,zEp (by omega)⟩;obtain⟨hb1,hb2,hxy⟩:=hr.bd i x y hx hy;haveI:=hb1.br;haveI:=hb2.br;refine dr_ 0 [] [] (dz 3 rfl (kq_ rfl (jix i hx rfl) (kq_ rfl (jlr rfl) (dz 3 rfl (kq_ rfl (jix i hy rfl) (kq_ rfl (jlr rfl) (kc_ zuR rfl (zkc (qOf (x)) (x) (zaj _) (Br.use (by omega)) (qOf (y)) (y) (zaj _) (Br.use (by omega))) (kq_ rfl (gtF rfl (by have:=zsK.2 hxy;omega)) (zae ?_)))))))));refine za 7 rfl (tq_ rfl (jad (i+1) rfl) (zl 2 rfl ?_));exact nx_ ⟨i+1,rfl,rfl,rfl,hi⟩ rfl
 .refine tq_ rfl (ltF rfl) (zl 13 rfl ?_);exact r1_ hq_ rfl rfl
theorem zdQ(q:Qu)(hq:QOk q):Ctr Tryz.prog 56 [quV q] (R.one (V.one (Leaf.val (.bool true)))):=by
 refine bd_ Tryz.func56 Tryz.ntmps56 rfl (fun w0 A0=>?_);have hg:=hq.g;have hr:=hq.r;have h1:=hg.i1;have h2:=hg.i3;have h3:=hg.u4;have h4:=hg.o1;have h5:=hg.o3;refine zc 7 rfl (dr_ 0 [] [] (dz 2 rfl (kc_ fn71 rfl (zoH q.g (by assumption)) (dz 6 rfl (kc_ fn123 rfl (zru q.r q.g.inp (by assumption) (by omega) (by omega)) (dz 6 rfl (kc_ zCI rfl (zlm q.g (by assumption)) (kc_ zAz rfl (zf9 q.goal hq.goal (by omega) (q.g.inp+q.g.us.length) (zEt _) (by omega)) (dz 2 rfl ?_)))))))));refine zae (za 1 rfl ?_);exact r1_ hq_ rfl rfl
theorem iof_z(z:Int)(h1:-9223372036854775808<=z)(h2:z<=9223372036854775807):Ctr Tryz.prog 152 [V.one (Leaf.val (.int .i64 z))] (R.one (zV (zOf z))):=by
 refine bd_ Tryz.func152 Tryz.ntmps152 rfl (fun w0 A0=>?_);refine zc 9 rfl ?_;by_cases hz0:z<0
 .refine tq_ rfl (ltT rfl) (zl 6 rfl (tq_ rfl (jc6 (18446744073709551616-z.natAbs) rfl) (tq_ rfl (zhs rfl rfl (r:=((z.natAbs:Nat):Int)) (zdG (by omega))) (tc_ znr rfl (zfO z.natAbs (by omega)) (zl 4 rfl ?_)))));exact r1_ hq_ rfl (by show R.one (V.agg [Leaf.val (.bool true),zaf (zaa z.natAbs)])=R.one (V.agg [Leaf.val (.bool (decide (z<0))),zaf (zaa z.natAbs)]);rw[decide_eq_true hz0])
 .refine tq_ rfl (ltF rfl) (zl 8 rfl (tq_ rfl (jc6 z.natAbs rfl) (tc_ znr rfl (zfO z.natAbs (by omega)) (zl 4 rfl ?_))));exact r1_ hq_ rfl (by show R.one (V.agg [Leaf.val (.bool false),zaf (zaa z.natAbs)])=R.one (V.agg [Leaf.val (.bool (decide (z<0))),zaf (zaa z.natAbs)]);rw[decide_eq_false hz0])
theorem zBf(z:Int){B:Nat}[Bz z B](hB:B<=1000):Ctr Tryz.prog 151 [zV (zOf z)] (R.one (qV (qOf (z:Rat)))):=by
 refine bd_ Tryz.func151 Tryz.ntmps151 rfl (fun w0 A0=>?_);refine zc 7 rfl (dr_ 0 [(6,1)] [1] (dz 4 rfl (kc_ zCV rfl (qone) (kc_ zso rfl (zrI (decide (z<0)) (zaa (Int.natAbs (z))) [1] (zab _) (Small.cons (by decide) Small.nil) (Bz.use (z:=z) (by omega)) (by simp) (Int.natAbs (z)) (1) (zac _) rfl (by decide)) (dz 1 rfl (zae (za 1 rfl ?_)))))));exact r1_ hq_ rfl (by rw[zxI] <;> rfl)
theorem zgf(z:Int)(h1:-9223372036854775808<=z)(h2:z<=9223372036854775807):Ctr Tryz.prog 86 [V.one (Leaf.val (.int .i64 z))] (R.one (qV (qOf (z:Rat)))):=by
 refine bd_ Tryz.func86 Tryz.ntmps86 rfl (fun w0 A0=>?_);haveI:Bz z 2:=⟨Bn.of_lt (by omega) (by omega)⟩;refine zc 8 rfl (tc_ fn152 rfl (iof_z z (by omega) (by omega)) (tc_ fn151 rfl (zBf z (by omega)) (zl 3 rfl ?_)));exact r1_ hq_ rfl rfl
theorem zjJ(f:Af){b n:Nat}(h:FOk b n f)(hb:b<=1000000000)(vars:Nat)(hv:n<=vars)(hv2:vars<=1000):Ctr Tryz.prog 49 [afV f,V.one (Leaf.val (.int .i64 ((vars:Int))))] (R.one (V.one (Leaf.val (.bool true)))):=by
 refine bd_ Tryz.func49 Tryz.ntmps49 rfl (fun w0 A0=>?_);haveI:=h.br;have hln:=h.len;refine zc 11 rfl (tq_ rfl (jln rfl) (zl 4 rfl ?_));refine zbv (fun m Γ H=>∃(i:Nat),f.ts.length-i=m/\Γ=[(1,some (D.val (.int .i64 (vars:Int)))),(2,some (D.ptr 0 0)),(8,some (D.v (V.one (El.row tmE f.ts)))),(9,some (D.val (.int .i64 ((f.ts.length:Nat):Int)))),(10,some (D.val (.int .i64 (i:Int))))]/\H=[hb_ 38 (afL f)]/\i<=f.ts.length) ⟨0,rfl,rfl,rfl,zEv _⟩ rfl ?_;rintro m Γ H ⟨i,rfl,rfl,rfl,hi0⟩;refine zc 2 rfl ?_;by_cases hi:i<f.ts.length
 .refine tq_ rfl (ltT rfl) (zl 9 rfl ?_);obtain⟨x,hx⟩:∃x,f.ts[i]?=some x:=⟨_,zEp hi⟩;have hxm:=zEq hx;haveI hbx:=(h.bd x hxm).br;obtain⟨hn0,hgt,hlt⟩:=h.can.get hx;have hxv:=h.var x hxm;refine zc 2 rfl (tq_ rfl (jix i hx rfl) (tq_ rfl (jlr rfl) (zl 6 rfl (dr_ 0 [] [] (dz 2 rfl (kq_ rfl (ltF rfl) (dz 4 rfl (kq_ rfl (geF rfl) (dz 3 rfl ?_)))))))));by_cases hi1:0<i
  .refine kq_ rfl (gtT rfl) (dz 4 rfl ?_);obtain⟨y,hy⟩:∃y,f.ts[i-1]?=some y:=⟨_,zEp (by omega)⟩;have hyx:=h.can.prev hi1 hx hy;refine kq_ rfl (jsb (i-1) rfl) (kq_ rfl (jix (i-1) hy rfl) (kq_ rfl (jfr rfl) (kq_ rfl (jli rfl) (dz 2 rfl (kq_ rfl (geF rfl) (dz 5 rfl (kc_ zjp rfl (zd5 (qOf (x.2)) (x.2) (zaj _) (Br.use (by omega))) (kq_ rfl (eqF rfl (zgR hn0)) (dz 4 rfl ?_)))))))));refine kc_ znt rfl (ziu (qOf (x.2)) (x.2) (zaj _) (Br.use (by omega))) (zg2 true rfl (zde _) (dz 2 rfl (zae (za 6 rfl (tq_ rfl (jad (i+1) rfl) (zl 2 rfl (zal 1 (zaM 1 rfl ?_))))))));exact nx_ ⟨i+1,rfl,rfl,rfl,hi⟩ rfl
  .refine kq_ rfl (gtF rfl) (dz 16 rfl (kc_ zjp rfl (zd5 (qOf (x.2)) (x.2) (zaj _) (Br.use (by omega))) (kq_ rfl (eqF rfl (zgR hn0)) (dz 4 rfl (kc_ znt rfl (ziu (qOf (x.2)) (x.2) (zaj _) (Br.use (by omega))) (zg2 true rfl (zde _) (dz 2 rfl (zae (za 6 rfl ?_)))))))));refine tq_ rfl (jad (i+1) rfl) (zl 2 rfl (zal 1 (zaM 1 rfl ?_)));exact nx_ ⟨i+1,rfl,rfl,rfl,hi⟩ rfl
 .refine tq_ rfl (ltF rfl) (zl 13 rfl (tc_ znt rfl (ziu (qOf (f.c)) (f.c) (zaj _) (Br.use (by omega))) (is_ true rfl (zde _) (zl 3 rfl ?_))));exact r1_ hq_ rfl rfl
theorem zye(l:List Af)(f:Nat)(ls:List Leaf)(hl:l.length<=1000000)(hf:zaq Tryz.prog f)(hp:∀x∈l,Ctr Tryz.prog f ([afV x]++zxO ls) (R.one (V.one (Leaf.val (.bool false))))):Ctr Tryz.prog 218 [V.one (El.row afE l),V.one (Leaf.rep (ziN f ls))] (R.one (V.one (Leaf.val (.int .i64 (-1))))):=by
 refine bd_ Tryz.func218 Tryz.ntmps218 rfl (fun w0 A0=>?_);refine zc 9 rfl (tq_ rfl (jln rfl) (zl 4 rfl (zbv (fun m Γ H=>∃(i:Nat),l.length-i=m/\Γ=[(0,some (D.v (V.one (El.row afE l)))),(1,some (D.rep (ziN f ls))),(7,some (D.val (.int .i64 ((l.length:Nat):Int)))),(8,some (D.val (.int .i64 (i:Int))))]/\H=[]/\i<=l.length) ⟨0,rfl,rfl,rfl,zEv _⟩ rfl ?_)));rintro m Γ H ⟨i,rfl,rfl,rfl,hi0⟩;refine zc 2 rfl ?_;by_cases hi:i<l.length
 .refine tq_ rfl (ltT rfl) (zl 15 rfl ?_);obtain⟨x,hx⟩:∃x,l[i]?=some x:=⟨_,zEp hi⟩;refine zc 4 rfl (tq_ rfl (jix i hx rfl) (tq_ rfl (jlr rfl) (te_ rfl (ztK rfl rfl hf rfl (hp x (zEq hx))) (zl 7 rfl (tq_ rfl (jad (i+1) rfl) (zl 2 rfl ?_))))));exact nx_ ⟨i+1,rfl,rfl,rfl,hi⟩ rfl
 .refine tq_ rfl (ltF rfl) (zl 14 rfl ?_);exact r1_ hq_ rfl rfl
theorem zsf(l:List Af)(f:Nat)(ls:List Leaf)(hl:l.length<=1000000)(hf:zaq Tryz.prog f)(hp:∀x∈l,Ctr Tryz.prog f ([afV x]++zxO ls) (R.one (V.one (Leaf.val (.bool false))))):Ctr Tryz.prog 169 [V.one (El.row afE l),V.one (Leaf.rep (ziN f ls))] (R.one (V.one (Leaf.val (.bool false)))):=by
 refine bd_ Tryz.func169 Tryz.ntmps169 rfl (fun w0 A0=>?_);refine zc 9 rfl (tc_ fn218 rfl (zye l f ls hl hf hp) (zl 4 rfl ?_));exact r1_ hq_ rfl rfl
theorem zyg(f:Af){b n:Nat}(h:FOk b n f)(hb:b<=1000000000)(vars:Nat)(hv:n<=vars)(hv2:vars<=1000):Ctr Tryz.prog 217 [afV f,V.one (Leaf.rep (zaT [Leaf.val (.int .i64 (vars:Int))]))] (R.one (V.one (Leaf.val (.bool false)))):=by
 refine bd_ Tryz.func217 Tryz.ntmps217 rfl (fun w0 A0=>?_);refine zc 9 rfl (tq_ rfl (jli rfl) (tc_ zAy rfl (zjJ f h hb vars hv hv2) (zl 4 rfl ?_)));exact r1_ hq_ rfl rfl
theorem zxD(f:Af){b n:Nat}(h:FOk b n f)(hb:b<=1000000000)(vars:Nat)(hv:n<=vars)(hv2:vars<=1000):Ctr Tryz.prog 170 [afV f,V.one (Leaf.rep (zaT [Leaf.val (.int .i64 (vars:Int))]))] (R.one (V.one (Leaf.val (.bool false)))):=by
 refine bd_ Tryz.func170 Tryz.ntmps170 rfl (fun w0 A0=>?_);refine zc 9 rfl (tq_ rfl (jli rfl) (tc_ zAy rfl (zjJ f h hb vars hv hv2) (zl 4 rfl ?_)));exact r1_ hq_ rfl rfl
theorem gvall(l:List Af){b n:Nat}(h:∀f∈l,FOk b n f)(hb:b<=1000000000)(hl:l.length<=1000)(vars:Nat)(hv:n<=vars)(hv2:vars<=1000):Ctr Tryz.prog 168 [V.one (El.row afE l),V.one (Leaf.val (.int .i64 ((vars:Int))))] (R.one (V.one (Leaf.val (.bool true)))):=by
 refine bd_ Tryz.func168 Tryz.ntmps168 rfl (fun w0 A0=>?_);refine zc 9 rfl (zi8 3 rfl rfl rfl (te_ rfl (zht [Leaf.rep (zaT [Leaf.val (.int .i64 (vars:Int))])] rfl rfl) (tc_ zC2 rfl (zsf l 217 _ (by omega) fn217 (fun x hx=>zyg x (h x hx) hb vars hv hv2)) (zl 4 rfl ?_))));exact r1_ hq_ rfl rfl
theorem zoI(g:Gr)(hg:GOk g):Ctr Tryz.prog 102 [grV g] (R.one (V.one (Leaf.val (.bool true)))):=by
 refine bd_ Tryz.func102 Tryz.ntmps102 rfl (fun w0 A0=>?_);have h1:=hg.i1;have h2:=hg.i3;have h3:=hg.u4;have h4:=hg.o1;have h5:=hg.o3;refine zc 11 rfl (tq_ rfl (ltF rfl) (zl 3 rfl (tq_ rfl (gtF rfl) (zl 4 rfl (tq_ rfl (jln rfl) (tq_ rfl (gtF rfl) (zl 4 rfl (tq_ rfl (jln rfl) (tq_ rfl (ltF rfl) ?_)))))))));refine zl 4 rfl (tq_ rfl (jln rfl) (tq_ rfl (gtF rfl) (zl 11 rfl (tq_ rfl (jln rfl) (zl 4 rfl ?_)))));refine zbv (fun m Γ H=>∃(i:Nat),g.us.length-i=m/\Γ=[(1,some (D.ptr 0 0)),(32,some (D.v (V.one (El.row afE g.us)))),(33,some (D.val (.int .i64 ((g.us.length:Nat):Int)))),(34,some (D.val (.int .i64 (i:Int))))]/\H=[hb_ 28 [Leaf.val (.int .i64 ((g.inp:Nat):Int)),El.row afE g.us,El.row afE g.os]]/\i<=g.us.length) ⟨0,rfl,rfl,rfl,zEv _⟩ rfl ?_;rintro m Γ H ⟨i,rfl,rfl,rfl,hi0⟩;refine zc 2 rfl ?_;by_cases hi:i<g.us.length
 .refine tq_ rfl (ltT rfl) (zl 9 rfl ?_);obtain⟨x,hx⟩:∃x,g.us[i]?=some x:=⟨_,zEp hi⟩;have hxo:=hg.us i x hx;refine zc 2 rfl (tq_ rfl (jix i hx rfl) (tq_ rfl (jlr rfl) (zl 11 rfl (tq_ rfl (jad (g.inp+i) rfl) (tc_ zAy rfl (zjJ x hxo (by omega) (g.inp+i) (zEt _) (by omega)) (zl 8 rfl (tq_ rfl (jad (i+1) rfl) (zl 2 rfl (zal 1 ?_)))))))));refine zaM 1 rfl ?_;exact nx_ ⟨i+1,rfl,rfl,rfl,hi⟩ rfl
 .refine tq_ rfl (ltF rfl) (zl 17 rfl (tq_ rfl (jln rfl) (tq_ rfl (jad (g.inp+g.us.length) rfl) (tc_ fn168 rfl (gvall g.os hg.os (by omega) (by omega) (g.inp+g.us.length) (zEt _) (by omega)) (zl 3 rfl ?_)))));exact r1_ hq_ rfl rfl
theorem zrv(r:Rg)(n:Nat)(hr:ROk n r)(hn1:1<=n)(hn3:n<=3):Ctr Tryz.prog 103 [rgV r,V.one (Leaf.val (.int .i64 ((n:Int))))] (R.one (V.one (Leaf.val (.bool true)))):=by
 refine bd_ Tryz.func103 Tryz.ntmps103 rfl (fun w0 A0=>?_);have h1:=hr.lo;have h2:=hr.hi;have h3:=hr.r2;refine zc 11 rfl (tq_ rfl (ltF rfl) (zl 2 rfl (tq_ rfl (gtF rfl) (zl 4 rfl (tq_ rfl (jln rfl) (zl 1 rfl (tq_ rfl (neF rfl) (zl 4 rfl (tq_ rfl (jln rfl) ?_)))))))));refine zl 1 rfl (tq_ rfl (neF rfl) (zl 4 rfl (tq_ rfl (jln rfl) (tq_ rfl (gtF rfl) (zl 11 rfl (tq_ rfl (jln rfl) (zl 4 rfl ?_)))))));refine zbv (fun m Γ H=>∃(i:Nat),n-i=m/\Γ=[(2,some (D.ptr 0 0)),(3,some (D.ptr 1 0)),(34,some (D.v (V.one (El.row ratE r.lo)))),(35,some (D.val (.int .i64 ((r.lo.length:Nat):Int)))),(36,some (D.val (.int .i64 (i:Int))))]/\H=[hb_ 31 [El.row ratE r.lo,El.row ratE r.hi,El.row afE r.rows],hb_ 3 [Leaf.val (.int .i64 (n:Int))]]/\i<=n) ⟨0,rfl,rfl,rfl,zEv _⟩ rfl ?_;rintro m Γ H ⟨i,rfl,rfl,rfl,hi0⟩;refine zc 2 rfl ?_;by_cases hi:i<r.lo.length
 .refine tq_ rfl (ltT rfl) (zl 9 rfl ?_);obtain⟨x,hx⟩:∃x,r.lo[i]?=some x:=⟨_,zEp (by omega)⟩;obtain⟨y,hy⟩:∃y,r.hi[i]?=some y:=⟨_,zEp (by omega)⟩;obtain⟨hb1,hb2,hxy⟩:=hr.bd i x y hx hy;haveI:=hb1.br;haveI:=hb2.br;refine zc 2 rfl (tq_ rfl (jix i hx rfl) (tq_ rfl (jlr rfl) (zl 6 rfl (dr_ 0 [] [] (dz 1 rfl (kc_ znt rfl (ziu (qOf (x)) (x) (zaj _) (Br.use (by omega))) (zg2 true rfl (zde _) (dz 5 rfl (kq_ rfl (jix i hy rfl) ?_)))))))));refine kq_ rfl (jlr rfl) (kc_ znt rfl (ziu (qOf (y)) (y) (zaj _) (Br.use (by omega))) (zg2 true rfl (zde _) (dz 7 rfl (kq_ rfl (jix i hy rfl) (kq_ rfl (jlr rfl) (kc_ zuQ rfl (zuv (qOf (x)) (x) (zaj _) (Br.use (by omega)) (qOf (y)) (y) (zaj _) (Br.use (by omega))) (kq_ rfl (gtF rfl (by have:=zsK.2 hxy;omega)) (dz 1 rfl (zae ?_)))))))));refine za 6 rfl (tq_ rfl (jad (i+1) rfl) (zl 2 rfl (zal 2 (zaM 2 rfl ?_))));exact nx_ ⟨i+1,rfl,rfl,rfl,(by omega)⟩ rfl
 .refine tq_ rfl (ltF rfl) (zl 13 rfl (zi8 3 rfl rfl rfl (te_ rfl (zht [Leaf.rep (zaT [Leaf.val (.int .i64 (n:Int))])] rfl rfl) (tc_ zC2 rfl (zsf r.rows 170 _ (by omega) fn170 (fun x hx=>zxD x (hr.rows x hx) (by omega) n (zEt _) (by omega))) (zl 4 rfl ?_)))));exact r1_ hq_ rfl rfl
theorem zhO(q:Qu)(hq:QOk q):Ctr Tryz.prog 48 [quV q] (R.one (V.one (Leaf.val (.bool true)))):=by
 refine bd_ Tryz.func48 Tryz.ntmps48 rfl (fun w0 A0=>?_);have hg:=hq.g;have hr:=hq.r;have h1:=hg.i1;have h2:=hg.i3;have h3:=hg.u4;have h4:=hg.o1;have h5:=hg.o3;refine zc 10 rfl (tc_ zDj rfl (zoI q.g (by assumption)) (zl 6 rfl (tc_ fn103 rfl (zrv q.r q.g.inp (by assumption) (by omega) (by omega)) (zl 10 rfl (tq_ rfl (jln rfl) (tq_ rfl (jad (q.g.inp+q.g.us.length) rfl) (tc_ zAy rfl (zjJ q.goal hq.goal (by omega) (q.g.inp+q.g.us.length) (zEt _) (by omega)) (zl 4 rfl ?_))))))));exact r1_ hq_ rfl rfl
end Go.Proofs.YtjeiacoegppoiaaGreatDoor
namespace Rc
open Go Go.RowKit
class Fq (x:Qr) (k:outParam Nat):Prop where
 fit:Fit k x
theorem Fq.use{x:Qr}{k k':Nat}[h:Fq x k](hk:k<=k'):Fit k' x:=h.fit.mono hk
instance Fq.of{r:Rat}{k:Nat}[h:Br r k]:Fq (qOf r) k:=⟨h.fit⟩
instance Fq.br{x:Qr}{k:Nat}[h:Fq x k]:Br x.q k:=Br.q h.fit
theorem Fq.mono{x:Qr}{k k':Nat}(h:Fq x k)(hk:k<=k'):Fq x k':=⟨h.fit.mono hk⟩
instance Br.one:Br ((1:Int):Rat) 2:=Br.int2 (by decide) (by decide)
instance Br.mone:Br ((-1:Int):Rat) 2:=Br.int2 (by decide) (by decide)
def lv(l:List Lm)(n:Nat):Rat:=match l[n-1]? with|some m=>m.v.q|none=>0
theorem zgm{l:List Lm}{n:Nat}{m:Lm}(h:l[n-1]?=some m):lv l n=m.v.q:=by unfold lv;rw[h]
def zo2(l:List Lm)(u:Int)(s:Nat×Nat)(n:Nat):Nat×Nat:=
 match l[n]? with
 |none=>s
 |some m=>if m.unit=u then(if m.up=true then(if s.2=0\/m.v.q<lv l s.2 then(s.1,n+1) else s) else(if s.1=0\/lv l s.1<m.v.q then(n+1,s.2) else s)) else s
def zcH(l:List Lm)(u:Int)(n:Nat):Nat×Nat:=(List.range n).foldl (zo2 l u) (0,0)
def zak(l:List Lm)(u:Int):Nat×Nat:=zcH l u l.length
theorem za1(l:List Lm)(u:Int)(n:Nat):zcH l u (n+1)=zo2 l u (zcH l u n) n:=by
 unfold zcH;rw[List.range_succ,zER];rfl
section
variable {l:List Lm}{u:Int}{s:Nat×Nat}{n:Nat}{x:Lm}(hx:l[n]?=some x)
include hx
theorem zkT(h:x.unit≠u):zo2 l u s n=s:=by unfold zo2;simp only[hx];rw[if_neg h]
theorem zfW(h:x.unit=u)(hu:x.up=true)(hc:s.2=0\/x.v.q<lv l s.2):zo2 l u s n=(s.1,n+1):=by unfold zo2;simp only[hx];rw[if_pos h,if_pos hu,if_pos hc]
theorem ziY(h:x.unit=u)(hu:x.up=true)(hc:¬(s.2=0\/x.v.q<lv l s.2)):zo2 l u s n=s:=by unfold zo2;simp only[hx];rw[if_pos h,if_pos hu,if_neg hc]
theorem zfX(h:x.unit=u)(hu:x.up=false)(hc:s.1=0\/lv l s.1<x.v.q):zo2 l u s n=(n+1,s.2):=by unfold zo2;simp only[hx];rw[if_pos h,if_neg (by rw[hu];decide),if_pos hc]
theorem ziZ(h:x.unit=u)(hu:x.up=false)(hc:¬(s.1=0\/lv l s.1<x.v.q)):zo2 l u s n=s:=by unfold zo2;simp only[hx];rw[if_pos h,if_neg (by rw[hu];decide),if_neg hc]
end
def isLm(l:List Lm)(u:Int)(up:Bool)(n:Nat):Prop:=n=0 \/ ∃m,l[n-1]?=some m/\0<n/\m.unit=u/\m.up=up
theorem zgC(l:List Lm)(u:Int):∀n,(zcH l u n).1<=n/\(zcH l u n).2<=n/\isLm l u false (zcH l u n).1/\isLm l u true (zcH l u n).2
 |0=>⟨zEt _,zEt _,.inl rfl,.inl rfl⟩
 |n+1=>by
  obtain⟨h1,h2,h3,h4⟩:=zgC l u n;rw[za1]
  cases hx:l[n]? with
  |none=>unfold zo2;simp only[hx];exact⟨by omega,by omega,h3,h4⟩
  |some x=>
   by_cases hu:x.unit=u
   .cases hup:x.up
    .by_cases hc:(zcH l u n).1=0\/lv l (zcH l u n).1<x.v.q
     .rw[zfX hx hu hup hc];exact⟨zEt _,by show(zcH l u n).2<=n+1;omega,.inr ⟨x,by simpa using hx,by simp,hu,hup⟩,h4⟩
     .rw[ziZ hx hu hup hc];exact⟨by omega,by omega,h3,h4⟩
    .by_cases hc:(zcH l u n).2=0\/x.v.q<lv l (zcH l u n).2
     .rw[zfW hx hu hup hc];exact⟨by show(zcH l u n).1<=n+1;omega,zEt _,h3,.inr ⟨x,by simpa using hx,by simp,hu,hup⟩⟩
     .rw[ziY hx hu hup hc];exact⟨by omega,by omega,h3,h4⟩
   .rw[zkT hx hu];exact⟨by omega,by omega,h3,h4⟩
theorem zbj{l:List Lm}{u:Int}(h:(zak l u).1≠0):∃m,l[(zak l u).1-1]?=some m/\m.unit=u/\m.up=false/\lv l (zak l u).1=m.v.q/\0<(zak l u).1/\(zak l u).1<=l.length:=by
 obtain⟨h1,h2,h3,h4⟩:=zgC l u l.length;rcases h3 with h3|⟨m,q1,q2,q3,q4⟩
 .exact absurd h3 h
 .exact⟨m,q1,q3,q4,zgm q1,q2,h1⟩
theorem zbu{l:List Lm}{u:Int}(h:(zak l u).2≠0):∃m,l[(zak l u).2-1]?=some m/\m.unit=u/\m.up=true/\lv l (zak l u).2=m.v.q/\0<(zak l u).2/\(zak l u).2<=l.length:=by
 obtain⟨h1,h2,h3,h4⟩:=zgC l u l.length;rcases h4 with h3|⟨m,q1,q2,q3,q4⟩
 .exact absurd h3 h
 .exact⟨m,q1,q3,q4,zgm q1,q2,h2⟩
def zbd(a b:Rw):Bool:=if a.kind≠b.kind then decide (a.kind<b.kind) else if a.idx≠b.idx then decide (a.idx<b.idx) else if a.lo≠b.lo then decide (a.lo<b.lo) else decide (a.hi<b.hi)
theorem zgp{a b:Rw}:zbd a b=true↔a.kind<b.kind\/(a.kind=b.kind/\(a.idx<b.idx\/(a.idx=b.idx/\(a.lo<b.lo\/(a.lo=b.lo/\a.hi<b.hi))))):=by
 unfold zbd;split
 .simp;omega
 .split
  .simp;omega
  .split <;> simp <;> omega
theorem zcO{a b c:Rw}(h:zbd a b=true)(h':zbd b c=true):zbd a c=true:=by
 rw[zgp] at *;omega
theorem ze1(a:Rw):zbd a a=false:=by
 cases h:zbd a a
 .rfl
 .rw[zgp] at h;omega
theorem zdx{a b:Rw}(h:zbd a b=false)(hne:a≠b):zbd b a=true:=by
 cases h':zbd b a
 .exfalso;have h1:¬zbd a b=true:=by rw[h];decide
  have h2:¬zbd b a=true:=by rw[h'];decide
  rw[zgp] at h1 h2;exact hne (Rw.ext' (by omega) (by omega) (by omega) (by omega))
 .rfl
theorem zzq{a b:Rw}(h:a=b):eq4 a.kind a.idx a.lo a.hi b.kind b.idx b.lo b.hi=true:=by subst h;simp[eq4]
theorem zDp{a b:Rw}(h:a≠b):eq4 a.kind a.idx a.lo a.hi b.kind b.idx b.lo b.hi=false:=by
 cases h':eq4 a.kind a.idx a.lo a.hi b.kind b.idx b.lo b.hi
 .rfl
 .exfalso;simp[eq4] at h';exact h (Rw.ext' h'.1 h'.2.1 h'.2.2.1 h'.2.2.2)
def zjg:List Mu->Rw->Rat->List Mu
 |[],r,c=>[⟨r,qOf c⟩]
 |m::l,r,c=>if zbd m.r r=true then m::zjg l r c else if m.r=r then⟨r,qOf (m.c.q+c)⟩::l else⟨r,qOf c⟩::m::l
def zbZ(l:List Mu)(r:Rw)(c:Rat):List Mu:=if c=0 then l else zjg l r c
def zaU(a b:List Mu)(c:Rat):List Mu:=b.foldl (fun a m=>zbZ a m.r (m.c.q*c)) a
theorem zku:∀{l:List Mu} {r:Rw} {c:Rat} {k:Nat},(∀(i:Nat) (m:Mu),i<k->l[i]?=some m->zbd m.r r=true)->k<=l.length->zjg l r c=l.take k++zjg (l.drop k) r c
 |l,r,c,0,_,_=>by simp
 |[],r,c,k+1,_,h=>by simp at h
 |m::l,r,c,k+1,h,hk=>by
  have h0:=h 0 m (by omega) rfl;have ih:=zku (l:=l) (r:=r) (c:=c) (k:=k) (fun i m' hi hm=>h (i+1) m' (by omega) (by simpa using hm)) (by simpa using hk);show(if zbd m.r r=true then m::zjg l r c else _)=_;rw[if_pos h0,ih];rfl
theorem zuH{l:List Mu}{r:Rw}{c:Rat}(h:∀(i:Nat) (m:Mu),i<l.length->l[i]?=some m->zbd m.r r=true):zjg l r c=l++[⟨r,qOf c⟩]:=by
 rw[zku h (zEt _),zEM,List.drop_length];rfl
theorem zmq{α:Type}{l:List α}{k:Nat}{x:α}(h:l[k]?=some x):l.drop k=x::l.drop (k+1):=zbb h
theorem zyc{l:List Mu}{r:Rw}{c:Rat}{k:Nat}{x:Mu}(h:∀(i:Nat) (m:Mu),i<k->l[i]?=some m->zbd m.r r=true)(hx:l[k]?=some x)(hr:x.r=r):zjg l r c=l.take k++[⟨r,qOf (x.c.q+c)⟩]++l.drop (k+1):=by
 rw[zku h (Nat.le_of_lt (zEr.1 hx).1),zmq hx];show _++(if zbd x.r r=true then _ else if x.r=r then _ else _)=_;rw[if_neg (by rw[hr,ze1];decide),if_pos hr,zES];rfl
theorem zyb{l:List Mu}{r:Rw}{c:Rat}{k:Nat}{x:Mu}(h:∀(i:Nat) (m:Mu),i<k->l[i]?=some m->zbd m.r r=true)(hx:l[k]?=some x)(hl:zbd x.r r=false)(hr:x.r≠r):zjg l r c=l.take k++[⟨r,qOf c⟩]++l.drop k:=by
 rw[zku h (Nat.le_of_lt (zEr.1 hx).1),zmq hx];show _++(if zbd x.r r=true then _ else if x.r=r then _ else _)=_;rw[if_neg (by rw[hl];decide),if_neg hr,zES];rfl
theorem zoA:∀(l:List Mu) (r:Rw) (c:Rat),(zjg l r c).length<=l.length+1
 |[],_,_=>by simp[zjg]
 |m::l,r,c=>by
  have:=zoA l r c;unfold zjg;split
  .simp;omega
  .split <;> simp
theorem zl2(l:List Mu)(r:Rw)(c:Rat):(zbZ l r c).length<=l.length+1:=by
 unfold zbZ;split
 .omega
 .exact zoA l r c
theorem zdo:∀(b a:List Mu) (c:Rat),(zaU a b c).length<=a.length+b.length
 |[],a,c=>by simp[zaU]
 |m::b,a,c=>by
  have h1:=zl2 a m.r (m.c.q*c);have h2:=zdo b (zbZ a m.r (m.c.q*c)) c;have:zaU a (m::b) c=zaU (zbZ a m.r (m.c.q*c)) b c:=rfl;rw[this];simp;omega
theorem znk(a b:List Mu)(m:Mu)(c:Rat):zaU a (b++[m]) c=zbZ (zaU a b c) m.r (m.c.q*c):=by unfold zaU;rw[zER];rfl
theorem ziB{a b:List Mu}{i:Nat}{m:Mu}{c:Rat}(h:b[i]?=some m):zaU a (b.take (i+1)) c=zbZ (zaU a (b.take i) c) m.r (m.c.q*c):=by rw[zaO h,znk]
def MB(B:Nat)(l:List Mu):Prop:=∀m∈l,Fq m.c B
theorem MB.mono{B C:Nat}{l:List Mu}(h:MB B l)(hBC:B<=C):MB C l:=fun m hm=>(h m hm).mono hBC
theorem zr8{B C:Nat}{r:Rw}{c:Rat}[hc:Br c C]:∀{l:List Mu},MB B l->MB (B+C+1) (zjg l r c)
 |[],_=>fun m hm=>by
  simp[zjg] at hm;subst hm;exact(Fq.of (r:=c)).mono (by omega)
 |x::l,h=>by
  have hx:=h x (by simp);intro m hm;unfold zjg at hm;split at hm
  .rcases zET.1 hm with rfl|hm
   .exact hx.mono (by omega)
   .exact zr8 (l:=l) (fun m hm=>h m (by simp[hm])) m hm
  .split at hm
   .rcases zET.1 hm with rfl|hm
    .exact Fq.of (r:=x.c.q+c)
    .exact(h m (by simp[hm])).mono (by omega)
   .rcases zET.1 hm with rfl|hm
    .exact(Fq.of (r:=c)).mono (by omega)
    .exact(h m hm).mono (by omega)
theorem zol{B C:Nat}{l:List Mu}{r:Rw}{c:Rat}[hc:Br c C](h:MB B l):MB (B+C+1) (zbZ l r c):=by
 unfold zbZ;split
 .exact h.mono (by omega)
 .exact zr8 h
theorem zei{B C D:Nat}{c:Rat}[hc:Br c D]:∀{b a:List Mu},MB B a->MB C b->MB (B+b.length*(C+D+2)) (zaU a b c)
 |[],a,h,_=>h.mono (by omega)
 |m::b,a,h,hb=>by
  haveI:=hb m (by simp);have h1:=zol (r:=m.r) (c:=m.c.q*c) h;have h2:=zei (b:=b) h1 (fun m hm=>hb m (by simp[hm])) (c:=c);have e:zaU a (m::b) c=zaU (zbZ a m.r (m.c.q*c)) b c:=rfl;rw[e];refine h2.mono ?_;simp only[List.length_cons,Nat.add_mul];omega
def CanM:List Mu->Prop
 |[]=>True
 |m::l=>(m.c=qOf m.c.q/\0<m.c.q)/\(∀x∈l,zbd m.r x.r=true)/\CanM l
theorem zkt{r:Rw}{c:Rat}:∀{l:List Mu} {x:Mu},x∈zjg l r c->x.r=r\/x∈l
 |[],x,h=>by simp[zjg] at h;subst h;exact .inl rfl
 |m::l,x,h=>by
  unfold zjg at h;split at h
  .rcases zET.1 h with rfl|h
   .exact .inr (by simp)
   .rcases zkt h with h|h
    .exact .inl h
    .exact .inr (by simp[h])
  .split at h
   .rcases zET.1 h with rfl|h
    .exact .inl rfl
    .exact .inr (by simp[h])
   .rcases zET.1 h with rfl|h
    .exact .inl rfl
    .exact .inr h
theorem zoB{r:Rw}{c:Rat}(hc:0<c):∀{l:List Mu},CanM l->CanM (zjg l r c)
 |[],_=>⟨⟨by rw[zaj],by rw[zaj];exact hc⟩,fun x hx=>by simp at hx,trivial⟩
 |m::l,h=>by
  obtain⟨h1,h2,h3⟩:=h;unfold zjg;split
  .rename_i hlt;refine⟨h1,fun x hx=>?_,zoB hc h3⟩;rcases zkt hx with e|hx
   .rw[e];exact hlt
   .exact h2 x hx
  .rename_i hlt;split
   .rename_i he;refine⟨⟨by rw[zaj],?_⟩,fun x hx=>?_,h3⟩
    .rw[zaj];have:=h1.2;grind
    .rw[<-he];exact h2 x hx
   .rename_i hne;have hl:=zdx (by simpa using hlt) hne;refine⟨⟨by rw[zaj],by rw[zaj];exact hc⟩,fun x hx=>?_,h1,h2,h3⟩;rcases zET.1 hx with rfl|hx
    .exact hl
    .exact zcO hl (h2 x hx)
theorem ziv{r:Rw}{c:Rat}(hc:0<=c){l:List Mu}(h:CanM l):CanM (zbZ l r c):=by
 unfold zbZ;split
 .exact h
 .rename_i h0;exact zoB (by grind) h
theorem CanM.pos:∀{l:List Mu},CanM l->∀m∈l,0<m.c.q/\m.c=qOf m.c.q
 |x::l,h,m,hm=>by
  rcases zET.1 hm with rfl|hm
  .exact⟨h.1.2,h.1.1⟩
  .exact CanM.pos h.2.2 m hm
theorem CanM.lt{l:List Mu}(h:CanM l):∀{i j:Nat} {x y:Mu},i<j->l[i]?=some y->l[j]?=some x->zbd y.r x.r=true:=by
 induction l with
 |nil=>intro i j x y _ hy;simp at hy
 |cons m l ih=>
  intro i j x y hij hy hx;obtain⟨j,rfl⟩:∃j',j=j'+1:=⟨j-1,by omega⟩;rw[List.getElem?_cons_succ] at hx
  cases i with
  |zero=>simp at hy;subst hy;exact h.2.1 x (zEq hx)
  |succ i=>rw[List.getElem?_cons_succ] at hy;exact ih h.2.2 (by omega) hy hx
theorem CanM.prev{l:List Mu}{i:Nat}{x y:Mu}(h:CanM l)(hi:0<i)(hx:l[i]?=some x)(hy:l[i-1]?=some y):zbd y.r x.r=true:=h.lt (by omega) hy hx
theorem zfk{c:Rat}(hc:0<=c):∀{b a:List Mu},CanM a->(∀m∈b,0<m.c.q)->CanM (zaU a b c)
 |[],a,h,_=>h
 |m::b,a,h,hb=>zfk (b:=b) hc (ziv (Rat.mul_nonneg (Rat.le_of_lt (hb m (by simp))) hc) h) (fun m hm=>hb m (by simp[hm]))
theorem zxH:rq false 1 1=1:=by decide +kernel
theorem zwj(a b:Bool)(m n d e:Nat)(hn:n≠0):rq (a != b) (m*dn e) (dn d*n)=rq a m d/rq b n e:=by
 have h1:=zga a b m (dn e) d n;have h2:=zga b b n (dn e) e n;rw[zc1 hn] at h1 h2;rw[h1];have h3:rq (b != b) (n*dn e) (dn e*n)=1:=by
  rw[<-zxH,zA6,zc1 (Nat.mul_ne_zero (zdI e) hn)];simp[sgn,dn,zEU]
 rw[h3] at h2;have h4:rq b n e≠0:=fun h=>by rw[h] at h2;grind
 rw[Rat.div_def];congr 1;have h5:rq b n e*(rq b n e)⁻¹=1:=Rat.mul_inv_cancel _ h4;generalize rq b n e=p at *;generalize rq b (dn e) n=q at *;generalize p⁻¹=w at *;grind
theorem zih{p:Rat}:sg p<=0↔p<=0:=by unfold sg;grind
theorem zii{p:Rat}:0<=sg p↔0<=p:=by unfold sg;grind
theorem zd3{p:Rat}:0<sg p↔0<p:=by unfold sg;grind
def zcB(inp v:Nat):List Mu:=if v<inp then[⟨⟨1,(v:Int),0,0⟩,qOf ((1:Int):Rat)⟩] else[⟨⟨5,((v-inp:Nat):Int),0,0⟩,qOf ((1:Int):Rat)⟩]
def zbY(inp:Nat)(l:List Lm)(v:Nat):Option (List Mu):=
 if v<inp then some [⟨⟨2,(v:Int),0,0⟩,qOf ((1:Int):Rat)⟩]
 else if (zak l ((v-inp:Nat):Int)).1=0\/(zak l ((v-inp:Nat):Int)).2=0 then none
 else if lv l (zak l ((v-inp:Nat):Int)).2<=0 then some [⟨⟨10,((v-inp:Nat):Int),0,((zak l ((v-inp:Nat):Int)).2:Int)⟩,qOf ((1:Int):Rat)⟩]
 else if 0<=lv l (zak l ((v-inp:Nat):Int)).1 then some [⟨⟨8,((v-inp:Nat):Int),((zak l ((v-inp:Nat):Int)).1:Int),0⟩,qOf ((1:Int):Rat)⟩,⟨⟨12,((v-inp:Nat):Int),0,((zak l ((v-inp:Nat):Int)).2:Int)⟩,qOf ((1:Int):Rat)⟩]
 else some [⟨⟨12,((v-inp:Nat):Int),0,((zak l ((v-inp:Nat):Int)).2:Int)⟩,qOf (((1:Int):Rat)/(lv l (zak l ((v-inp:Nat):Int)).2-lv l (zak l ((v-inp:Nat):Int)).1)*lv l (zak l ((v-inp:Nat):Int)).2)⟩,
   ⟨⟨13,((v-inp:Nat):Int),((zak l ((v-inp:Nat):Int)).1:Int),((zak l ((v-inp:Nat):Int)).2:Int)⟩,qOf (((1:Int):Rat)/(lv l (zak l ((v-inp:Nat):Int)).2-lv l (zak l ((v-inp:Nat):Int)).1))⟩]
end Rc
namespace Go.Proofs.YtjeiacoegppoiaaGreatDoor
open Go Go.RowKit Rc
theorem zlO:Ints4 Tryz.prog 107 3:=⟨by kernel_rfl,by kernel_rfl,ty3,by kernel_rfl,by kernel_rfl⟩
theorem zmH(s:Sc){B:Nat}(hB:∀m∈s.lems,Fq m.v B)(hB2:B<=100000000000)(hl:s.lems.length<=1000000)(u:Int):Ctr Tryz.prog 87 [scV s,V.one (Leaf.val (.int .i64 (u)))] (R.tup [V.one (Leaf.val (.int .i64 (((zak s.lems u).1:Nat):Int))),V.one (Leaf.val (.int .i64 (((zak s.lems u).2:Nat):Int)))]):=by
 refine bd_ Tryz.func87 Tryz.ntmps87 rfl (fun w0 A0=>?_);refine zc 18 rfl (tq_ rfl (jln rfl) (zl 4 rfl ?_));refine zbv (fun m Γ H=>∃(i:Nat) (lo hi:Nat),s.lems.length-i=m/\Γ=[(1,some (D.val (.int .i64 u))),(2,some (D.ptr 0 0)),(6,some (D.val (.int .i64 (lo:Int)))),(7,some (D.val (.int .i64 (hi:Int)))),(11,some (D.v (V.one (El.row lmE s.lems)))),(12,some (D.val (.int .i64 ((s.lems.length:Nat):Int)))),(13,some (D.val (.int .i64 (i:Int))))]/\H=[hb_ 43 (scL s)]/\i<=s.lems.length/\(lo,hi)=zcH s.lems u i) ⟨0,0,0,rfl,rfl,rfl,zEv _,rfl⟩ rfl ?_;rintro m Γ H ⟨i,lo,hi,rfl,rfl,rfl,hi0,hs⟩;refine zc 2 rfl ?_;by_cases hi_:i<s.lems.length
 .refine tq_ rfl (ltT rfl) (zl 9 rfl ?_);obtain⟨x,hx⟩:∃x,s.lems[i]?=some x:=⟨_,zEp (by omega)⟩;haveI hxb:=hB x (zEq hx);have hbn:=zgC s.lems u i;rw[<-hs] at hbn;obtain⟨hlo,hhi,_,_⟩:=hbn;refine zc 2 rfl (tq_ rfl (jix i hx rfl) (tq_ rfl (jlr rfl) (zl 11 rfl ?_)));by_cases hne:x.unit≠u
  .refine tq_ rfl (neT rfl) (zl 8 rfl (tq_ rfl (jad (i+1) rfl) (zl 2 rfl (zal 1 (zaM 1 rfl ?_)))));exact nx_ ⟨i+1,_,_,rfl,rfl,rfl,(by omega),by rw[za1,<-hs];exact(zkT hx hne).symm⟩ rfl
  .refine tq_ rfl (neF rfl) (zl 6 rfl ?_);have hu:x.unit=u:=Classical.not_not.1 hne;refine zc 5 rfl ?_;refine zao rfl (fun hup=>?_) (fun hup=>?_)
   .refine zc 1 rfl (dr_ 0 [] [] (dz 1 rfl ?_));by_cases hv:hi=0
    .refine kq_ rfl (eqT rfl) (dz 13 rfl (zae (za 4 rfl (tq_ rfl (jad (i+1) rfl) (zl 5 rfl (tq_ rfl (jad (i+1) rfl) (zl 2 rfl (zal 1 (zaM 1 rfl ?_)))))))));exact nx_ ⟨i+1,_,_,rfl,rfl,rfl,(by omega),by rw[za1,<-hs];exact(zfW (s:=(lo,hi)) hx hu hup (.inl hv)).symm⟩ rfl
    .refine kq_ rfl (eqF rfl) (dz 6 rfl ?_);obtain⟨y,hy⟩:∃y,s.lems[hi-1]?=some y:=⟨_,zEp (by omega)⟩;haveI hyb:=hB y (zEq hy);have hly:=zgm hy;refine kq_ rfl (jsb (hi-1) rfl) (kq_ rfl (jix (hi-1) hy rfl) (kq_ rfl (jft rfl) (kq_ rfl (jlr rfl) (kc_ zuQ rfl (zuv x.v (x.v.q) rfl (Fq.use (x:=x.v) (by omega)) y.v (y.v.q) rfl (Fq.use (x:=y.v) (by omega))) ?_))));by_cases hc:x.v.q<lv s.lems hi
     .refine kq_ rfl (ltT rfl (by rw[zfV,<-hly];exact hc)) (dz 1 rfl (zae (za 4 rfl (tq_ rfl (jad (i+1) rfl) (zl 5 rfl (tq_ rfl (jad (i+1) rfl) (zl 2 rfl (zal 1 (zaM 1 rfl ?_)))))))));exact nx_ ⟨i+1,_,_,rfl,rfl,rfl,(by omega),by rw[za1,<-hs];exact(zfW (s:=(lo,hi)) hx hu hup (.inr hc)).symm⟩ rfl
     .refine kq_ rfl (ltF rfl (by rw[zfV,<-hly];exact hc)) (dz 1 rfl (zae (za 6 rfl (tq_ rfl (jad (i+1) rfl) (zl 2 rfl (zal 1 (zaM 1 rfl ?_)))))));exact nx_ ⟨i+1,_,_,rfl,rfl,rfl,(by omega),by rw[za1,<-hs];exact(ziY (s:=(lo,hi)) hx hu hup (fun h=>h.elim hv hc)).symm⟩ rfl
   .refine zc 1 rfl (dr_ 0 [] [] (dz 1 rfl ?_));by_cases hv:lo=0
    .refine kq_ rfl (eqT rfl) (dz 13 rfl (zae (za 4 rfl (tq_ rfl (jad (i+1) rfl) (zl 5 rfl (tq_ rfl (jad (i+1) rfl) (zl 2 rfl (zal 1 (zaM 1 rfl ?_)))))))));exact nx_ ⟨i+1,_,_,rfl,rfl,rfl,(by omega),by rw[za1,<-hs];exact(zfX (s:=(lo,hi)) hx hu hup (.inl hv)).symm⟩ rfl
    .refine kq_ rfl (eqF rfl) (dz 6 rfl ?_);obtain⟨y,hy⟩:∃y,s.lems[lo-1]?=some y:=⟨_,zEp (by omega)⟩;haveI hyb:=hB y (zEq hy);have hly:=zgm hy;refine kq_ rfl (jsb (lo-1) rfl) (kq_ rfl (jix (lo-1) hy rfl) (kq_ rfl (jft rfl) (kq_ rfl (jlr rfl) (kc_ zuQ rfl (zuv x.v (x.v.q) rfl (Fq.use (x:=x.v) (by omega)) y.v (y.v.q) rfl (Fq.use (x:=y.v) (by omega))) ?_))));by_cases hc:lv s.lems lo<x.v.q
     .refine kq_ rfl (gtT rfl (by rw[zdB,<-hly];exact hc)) (dz 1 rfl (zae (za 4 rfl (tq_ rfl (jad (i+1) rfl) (zl 5 rfl (tq_ rfl (jad (i+1) rfl) (zl 2 rfl (zal 1 (zaM 1 rfl ?_)))))))));exact nx_ ⟨i+1,_,_,rfl,rfl,rfl,(by omega),by rw[za1,<-hs];exact(zfX (s:=(lo,hi)) hx hu hup (.inr hc)).symm⟩ rfl
     .refine kq_ rfl (gtF rfl (by rw[zdB,<-hly];exact hc)) (dz 1 rfl (zae (za 6 rfl (tq_ rfl (jad (i+1) rfl) (zl 2 rfl (zal 1 (zaM 1 rfl ?_)))))));exact nx_ ⟨i+1,_,_,rfl,rfl,rfl,(by omega),by rw[za1,<-hs];exact(ziZ (s:=(lo,hi)) hx hu hup (fun h=>h.elim hv hc)).symm⟩ rfl
 .refine tq_ rfl (ltF rfl) (zl 10 rfl ?_);have hie:i=s.lems.length:=by omega
  rw[hie] at hs;refine zc 7 rfl ?_;exact r2_ hq_ rfl (by unfold zak;rw[<-hs])
theorem zhq(s:Sc){B:Nat}(hB:∀m∈s.lems,Fq m.v B)(hB2:B<=100000000000)(hl:s.lems.length<=1000000)(u:Int):Ctr Tryz.prog 40 [scV s,V.one (Leaf.val (.int .i64 (u)))] (R.tup [V.one (Leaf.val (.int .i64 (((zak s.lems u).1:Nat):Int))),V.one (Leaf.val (.int .i64 (((zak s.lems u).2:Nat):Int)))]):=by
 refine bd_ Tryz.func40 Tryz.ntmps40 rfl (fun w0 A0=>?_);refine zc 20 rfl ?_;refine zbv (fun m Γ H=>∃(i:Nat) (lo hi:Nat),s.lems.length-i=m/\Γ=[(1,some (D.val (.int .i64 u))),(2,some (D.ptr 0 0)),(6,some (D.val (.int .i64 (lo:Int)))),(7,some (D.val (.int .i64 (hi:Int)))),(8,some (D.val (.int .i64 (((i+1):Nat):Int))))]/\H=[hb_ 43 (scL s)]/\i<=s.lems.length/\(lo,hi)=zcH s.lems u i) ⟨0,0,0,rfl,rfl,rfl,zEv _,rfl⟩ rfl ?_;rintro m Γ H ⟨i,lo,hi,rfl,rfl,rfl,hi0,hs⟩;refine zc 6 rfl (tq_ rfl (jln rfl) ?_);by_cases hi_:i<s.lems.length
 .refine tq_ rfl (leT rfl) (zl 8 rfl ?_);obtain⟨x,hx⟩:∃x,s.lems[i]?=some x:=⟨_,zEp (by omega)⟩;haveI hxb:=hB x (zEq hx);have hbn:=zgC s.lems u i;rw[<-hs] at hbn;obtain⟨hlo,hhi,_,_⟩:=hbn;refine zc 4 rfl (tq_ rfl (jsb i rfl) (tq_ rfl (jix i hx rfl) (tq_ rfl (jlr rfl) (zl 10 rfl ?_))));by_cases hne:x.unit≠u
  .refine tq_ rfl (neT rfl) (zl 9 rfl (tq_ rfl (jad ((i+1)+1) rfl) (zl 2 rfl (zal 1 (zaM 1 rfl ?_)))));exact nx_ ⟨i+1,_,_,rfl,rfl,rfl,(by omega),by rw[za1,<-hs];exact(zkT hx hne).symm⟩ rfl
  .refine tq_ rfl (neF rfl) (zl 7 rfl ?_);have hu:x.unit=u:=Classical.not_not.1 hne;refine dr_ 0 [] [] (dz 3 rfl ?_);refine zqt rfl (fun hup=>?_) (fun hup=>?_)
   .refine dz 16 rfl (zae (za 5 rfl (dr_ 0 [] [] (dz 2 rfl (zg2 false rfl (hup) (dz 3 rfl ?_))))));by_cases hv:lo=0
    .refine kq_ rfl (eqT rfl) (dz 14 rfl (zae (za 10 rfl (tq_ rfl (jad ((i+1)+1) rfl) (zl 2 rfl (zal 1 (zaM 1 rfl ?_)))))));exact nx_ ⟨i+1,_,_,rfl,rfl,rfl,(by omega),by rw[za1,<-hs];exact(zfX (s:=(lo,hi)) hx hu hup (.inl hv)).symm⟩ rfl
    .refine kq_ rfl (eqF rfl) (dz 6 rfl ?_);obtain⟨y,hy⟩:∃y,s.lems[lo-1]?=some y:=⟨_,zEp (by omega)⟩;haveI hyb:=hB y (zEq hy);have hly:=zgm hy;refine kq_ rfl (jsb (lo-1) rfl) (kq_ rfl (jix (lo-1) hy rfl) (kq_ rfl (jft rfl) (kq_ rfl (jlr rfl) (kc_ zuR rfl (zkc x.v (x.v.q) rfl (Fq.use (x:=x.v) (by omega)) y.v (y.v.q) rfl (Fq.use (x:=y.v) (by omega))) ?_))));by_cases hc:lv s.lems lo<x.v.q
     .refine kq_ rfl (gtT rfl (by rw[zdB,<-hly];exact hc)) (dz 2 rfl (zae (za 10 rfl (tq_ rfl (jad ((i+1)+1) rfl) (zl 2 rfl (zal 1 (zaM 1 rfl ?_)))))));exact nx_ ⟨i+1,_,_,rfl,rfl,rfl,(by omega),by rw[za1,<-hs];exact(zfX (s:=(lo,hi)) hx hu hup (.inr hc)).symm⟩ rfl
     .refine kq_ rfl (gtF rfl (by rw[zdB,<-hly];exact hc)) (dz 2 rfl (zae (za 7 rfl (tq_ rfl (jad ((i+1)+1) rfl) (zl 2 rfl (zal 1 (zaM 1 rfl ?_)))))));exact nx_ ⟨i+1,_,_,rfl,rfl,rfl,(by omega),by rw[za1,<-hs];exact(ziZ (s:=(lo,hi)) hx hu hup (fun h=>h.elim hv hc)).symm⟩ rfl
   .refine dz 1 rfl ?_;by_cases hv:hi=0
    .refine kq_ rfl (eqT rfl) (dz 14 rfl (zae (za 8 rfl (dr_ 0 [] [] (dz 2 rfl (zg2 true rfl (hup) (dz 18 rfl (zae (za 7 rfl ?_)))))))));refine tq_ rfl (jad ((i+1)+1) rfl) (zl 2 rfl (zal 1 (zaM 1 rfl ?_)));exact nx_ ⟨i+1,_,_,rfl,rfl,rfl,(by omega),by rw[za1,<-hs];exact(zfW (s:=(lo,hi)) hx hu hup (.inl hv)).symm⟩ rfl
    .refine kq_ rfl (eqF rfl) (dz 6 rfl ?_);obtain⟨y,hy⟩:∃y,s.lems[hi-1]?=some y:=⟨_,zEp (by omega)⟩;haveI hyb:=hB y (zEq hy);have hly:=zgm hy;refine kq_ rfl (jsb (hi-1) rfl) (kq_ rfl (jix (hi-1) hy rfl) (kq_ rfl (jft rfl) (kq_ rfl (jlr rfl) (kc_ zuR rfl (zkc x.v (x.v.q) rfl (Fq.use (x:=x.v) (by omega)) y.v (y.v.q) rfl (Fq.use (x:=y.v) (by omega))) ?_))));by_cases hc:x.v.q<lv s.lems hi
     .refine kq_ rfl (ltT rfl (by rw[zfV,<-hly];exact hc)) (dz 2 rfl (zae (za 8 rfl (dr_ 0 [] [] (dz 2 rfl (zg2 true rfl (hup) (dz 18 rfl (zae (za 7 rfl ?_)))))))));refine tq_ rfl (jad ((i+1)+1) rfl) (zl 2 rfl (zal 1 (zaM 1 rfl ?_)));exact nx_ ⟨i+1,_,_,rfl,rfl,rfl,(by omega),by rw[za1,<-hs];exact(zfW (s:=(lo,hi)) hx hu hup (.inr hc)).symm⟩ rfl
     .refine kq_ rfl (ltF rfl (by rw[zfV,<-hly];exact hc)) (dz 2 rfl (zae (za 5 rfl (dr_ 0 [] [] (dz 2 rfl (zg2 true rfl (hup) (dz 18 rfl (zae (za 7 rfl ?_)))))))));refine tq_ rfl (jad ((i+1)+1) rfl) (zl 2 rfl (zal 1 (zaM 1 rfl ?_)));exact nx_ ⟨i+1,_,_,rfl,rfl,rfl,(by omega),by rw[za1,<-hs];exact(ziY (s:=(lo,hi)) hx hu hup (fun h=>h.elim hv hc)).symm⟩ rfl
 .refine tq_ rfl (leF rfl) (zl 9 rfl ?_);have hie:i=s.lems.length:=by omega
  rw[hie] at hs;refine zc 7 rfl ?_;exact r2_ hq_ rfl (by unfold zak;rw[<-hs])
theorem zwC(a b:Rw):Ctr Tryz.prog 135 [rwV a,rwV b] (R.one (V.one (Leaf.val (.bool (zbd a b))))):=by
 refine bd_ Tryz.func135 Tryz.ntmps135 rfl (fun w0 A0=>?_);refine zc 15 rfl ?_;by_cases h1:a.kind≠b.kind
 .refine tq_ rfl (neT rfl) (zl 14 rfl ?_);exact r1_ hq_ rfl (by unfold zbd;rw[if_pos h1])
 .refine tq_ rfl (neF rfl) (zl 10 rfl ?_);by_cases h2:a.idx≠b.idx
  .refine tq_ rfl (neT rfl) (zl 14 rfl ?_);exact r1_ hq_ rfl (by unfold zbd;rw[if_neg h1,if_pos h2])
  .refine tq_ rfl (neF rfl) (zl 10 rfl ?_);by_cases h3:a.lo≠b.lo
   .refine tq_ rfl (neT rfl) (zl 14 rfl ?_);exact r1_ hq_ rfl (by unfold zbd;rw[if_neg h1,if_neg h2,if_pos h3])
   .refine tq_ rfl (neF rfl) (zl 17 rfl ?_);exact r1_ hq_ rfl (by unfold zbd;rw[if_neg h1,if_neg h2,if_neg h3])
theorem zeX(l:List Mu)(r:Rw)(c:Rat){B C:Nat}(hB:MB B l)[Br c C](hBC:B+C<=300000000000)(hl:l.length<=100000):Ctr Tryz.prog 95 [V.one (El.row muE l),rwV r,V.agg (qL (c))] (R.one (V.one (El.row muE (zbZ l r c)))):=by
 refine bd_ Tryz.func95 Tryz.ntmps95 rfl (fun w0 A0=>?_);refine zc 11 rfl (tc_ zg4 rfl (zbH (qOf (c)) (c) (zaj _) (Br.use (by omega))) ?_);by_cases hc0:c=0
 .refine tq_ rfl (eqT rfl (by rw[hc0];rfl)) (zl 9 rfl ?_);exact r1_ hq_ rfl (by unfold zbZ;rw[if_pos hc0])
 .refine tq_ rfl (eqF rfl (zgR hc0)) (zl 12 rfl ?_);refine zbv (fun m Γ H=>∃(k:Nat),l.length-k=m/\Γ=[(0,some (D.v (V.one (El.row muE l)))),(4,some (D.ptr 0 0)),(5,some (D.ptr 1 0)),(7,some (D.val (.int .i64 (k:Int))))]/\H=[hb_ 107 [Leaf.val (.int .i64 r.kind),Leaf.val (.int .i64 r.idx),Leaf.val (.int .i64 r.lo),Leaf.val (.int .i64 r.hi)],hb_ 36 (qL c)]/\k<=l.length/\∀(i:Nat) (m:Mu),i<k->l[i]?=some m->zbd m.r r=true) ⟨0,rfl,rfl,rfl,zEv _,fun i m hi=>by omega⟩ rfl ?_;rintro m Γ H ⟨k,rfl,rfl,rfl,hk0,hlt⟩;refine zc 2 rfl (dr_ 0 [] [] (dz 2 rfl (kq_ rfl (jln rfl) ?_)));by_cases hk:k<l.length
  .refine kq_ rfl (ltT rfl) (dz 1 rfl ?_);obtain⟨x,hx⟩:∃x,l[k]?=some x:=⟨_,zEp hk⟩;haveI hxb:=hB x (zEq hx);refine dz 2 rfl (kq_ rfl (jix k hx rfl) (kq_ rfl (jft rfl) (kq_ rfl (jlr rfl) (dz 1 rfl (kc_ zDb rfl (zwC x.r r) (dz 1 rfl (zae (za 1 rfl ?_))))))));refine zao rfl (fun hls=>?_) (fun hls=>?_)
   .refine zc 5 rfl (tq_ rfl (jad (k+1) rfl) (zl 3 rfl ?_));exact nx_ ⟨k+1,rfl,rfl,rfl,hk,fun i m hi hm=>if e:i=k then(by subst e;rw[hx] at hm;cases hm;exact hls) else hlt i m (by omega) hm⟩ rfl
   .refine zc 7 rfl (zce rfl rfl rfl rfl zcJ zbh rfl (znJ 28 2 rfl rfl (zl 2 rfl (tq_ rfl (ze9 muE l (k) rfl rfl rfl zcJ zbh rfl (by omega)) (te_ rfl (jal (e:=muE) (l:=[]) rfl rfl) (zl 5 rfl (dr_ 0 [] [] (dz 2 rfl (kq_ rfl (jln rfl) ?_)))))))));refine kq_ rfl (ltT rfl) (dz 3 rfl (kq_ rfl (jix k hx rfl) (kq_ rfl (jft rfl) (kq_ rfl (jlr rfl) (dz 1 rfl ?_)))));by_cases heq:x.r=r
    .refine kq_ rfl (zlc rfl rfl rfl zlO (d:=true) (zzq heq)) (dz 1 rfl (zae (za 3 rfl (dr_ 0 [(11,2)] [2] (dz 4 rfl (kq_ rfl (jix k hx rfl) (kq_ rfl (jfr rfl) (kq_ rfl (jlr rfl) (dz 1 rfl ?_)))))))));refine kc_ zzg rfl (zna x.c (x.c.q) rfl (Fq.use (x:=x.c) (by omega)) (qOf (c)) (c) (zaj _) (Br.use (by omega))) (dz 1 rfl (ke_ rfl (fun _=>zad rfl zcJ zbh zcZ rfl (by decide) (by decide) rfl (by decide) rfl) (ki_ 2 rfl (dap (e:=muE) (⟨⟨r.kind,r.idx,r.lo,r.hi⟩,(qOf ((x.c.q)+(c)))⟩) rfl rfl) (dz 1 rfl (zae (za 3 rfl (tq_ rfl (jad (k+1) rfl) ?_)))))));refine zl 8 rfl (tq_ rfl (zbz muE l (k+1) rfl rfl rfl zcJ zbh rfl (by omega)) (te_ rfl (jal rfl rfl) (zl 3 rfl ?_)));refine zgI 6 (x':=V.one (El.row muE ([]++(l.take (k))++[⟨⟨r.kind,r.idx,r.lo,r.hi⟩,(qOf ((x.c.q)+(c)))⟩]++(l.drop (k+1))))) rfl (RowAt.ofE muE ([]++(l.take (k))++[⟨⟨r.kind,r.idx,r.lo,r.hi⟩,(qOf ((x.c.q)+(c)))⟩]++(l.drop (k+1))) rfl (by decide)) (.inr ⟨rfl,rfl⟩) ?_;exact r1_ hq_ rfl (by unfold zbZ;rw[if_neg hc0,zyc hlt hx heq] <;> rfl)
    .refine kq_ rfl (zlc rfl rfl rfl zlO (d:=false) (zDp heq)) (dz 1 rfl (zae (za 2 rfl (dr_ 0 [(6,2)] [2] (dz 3 rfl (kc_ zmW rfl (zca (qOf (c)) (c) (zaj _) (Br.use (by omega))) (dz 1 rfl (ke_ rfl (fun _=>zad rfl zcJ zbh zcZ rfl (by decide) (by decide) rfl (by decide) rfl) ?_))))))));refine ki_ 2 rfl (dap (e:=muE) (⟨⟨r.kind,r.idx,r.lo,r.hi⟩,(qOf (c))⟩) rfl rfl) (dz 1 rfl (zae (za 6 rfl (tq_ rfl (zbz muE l (k) rfl rfl rfl zcJ zbh rfl (by omega)) (te_ rfl (jal rfl rfl) (zl 3 rfl ?_))))));refine zgI 6 (x':=V.one (El.row muE ([]++(l.take (k))++[⟨⟨r.kind,r.idx,r.lo,r.hi⟩,(qOf (c))⟩]++(l.drop (k))))) rfl (RowAt.ofE muE ([]++(l.take (k))++[⟨⟨r.kind,r.idx,r.lo,r.hi⟩,(qOf (c))⟩]++(l.drop (k))) rfl (by decide)) (.inr ⟨rfl,rfl⟩) ?_;exact r1_ hq_ rfl (by unfold zbZ;rw[if_neg hc0,zyb hlt hx hls heq] <;> rfl)
  .refine kq_ rfl (ltF rfl) (dz 9 rfl (zae (za 8 rfl ?_)));have hke:k=l.length:=by omega
   refine zc 1 rfl (zce rfl rfl rfl rfl zcJ zbh rfl (znJ 28 2 rfl rfl (zl 2 rfl (tq_ rfl (ze9 muE l (k) rfl rfl rfl zcJ zbh rfl (by omega)) (te_ rfl (jal (e:=muE) (l:=[]) rfl rfl) (zl 5 rfl (dr_ 0 [] [] (dz 2 rfl (kq_ rfl (jln rfl) ?_)))))))));refine kq_ rfl (ltF rfl) (dz 9 rfl (zae (za 2 rfl (dr_ 0 [(6,2)] [2] (dz 3 rfl (kc_ zmW rfl (zca (qOf (c)) (c) (zaj _) (Br.use (by omega))) (dz 1 rfl (ke_ rfl (fun _=>zad rfl zcJ zbh zcZ rfl (by decide) (by decide) rfl (by decide) rfl) (ki_ 2 rfl (dap (e:=muE) (⟨⟨r.kind,r.idx,r.lo,r.hi⟩,(qOf (c))⟩) rfl rfl) ?_)))))))));refine dz 1 rfl (zae (za 6 rfl (tq_ rfl (zbz muE l (k) rfl rfl rfl zcJ zbh rfl (by omega)) (te_ rfl (jal rfl rfl) (zl 3 rfl ?_)))));refine zgI 6 (x':=V.one (El.row muE ([]++(l.take (k))++[⟨⟨r.kind,r.idx,r.lo,r.hi⟩,(qOf (c))⟩]++(l.drop (k))))) rfl (RowAt.ofE muE ([]++(l.take (k))++[⟨⟨r.kind,r.idx,r.lo,r.hi⟩,(qOf (c))⟩]++(l.drop (k))) rfl (by decide)) (.inr ⟨rfl,rfl⟩) ?_;exact r1_ hq_ rfl (by unfold zbZ;rw[if_neg hc0,zuH (fun i m hi=>hlt i m (by omega)),hke,zEM,List.drop_length,zEN] <;> rfl)
theorem zrW(a b:List Mu)(c:Rat){B C K:Nat}(hA:MB B a)(hB:MB C b)[Br c K](hBC:B+b.length*(C+K+2)+C+K<=200000000000)(hl:a.length<=10000)(hlb:b.length<=10000):Ctr Tryz.prog 59 [V.one (El.row muE a),V.one (El.row muE b),V.agg (qL (c))] (R.one (V.one (El.row muE (zaU a b c)))):=by
 refine bd_ Tryz.func59 Tryz.ntmps59 rfl (fun w0 A0=>?_);refine zc 13 rfl (zbv (fun m Γ H=>∃(i:Nat) (out:List Mu),b.length-i=m/\Γ=[(0,some (D.v (V.one (El.row muE out)))),(1,some (D.v (V.one (El.row muE b)))),(5,some (D.ptr 0 0)),(7,some (D.val (.int .i64 (i:Int))))]/\H=[hb_ 36 (qL c)]/\i<=b.length/\out=zaU a (b.take i) c) ⟨0,a,rfl,rfl,rfl,zEv _,rfl⟩ rfl ?_);rintro m Γ H ⟨i,out,rfl,rfl,rfl,hi0,hout⟩;refine zc 5 rfl (tq_ rfl (jln rfl) ?_);by_cases hi:i<b.length
 .refine tq_ rfl (ltT rfl) (zl 7 rfl ?_);obtain⟨x,hx⟩:∃x,b[i]?=some x:=⟨_,zEp hi⟩;haveI hxb:=hB x (zEq hx);have hol:out.length<=20000:=by rw[hout];refine zEz (zdo _ _ _) ?_;rw[zEG];omega
  have hMB:MB (B+b.length*(C+K+2)) out:=by
   rw[hout];refine(zei (c:=c) hA (fun m hm=>hB m (List.mem_of_mem_take hm))).mono ?_;have:=zEA (C+K+2) (show(b.take i).length<=b.length by rw[zEG];omega);omega
  refine dr_ 0 [] [] (dz 3 rfl (kq_ rfl (jix i hx rfl) (kq_ rfl (jft rfl) (kq_ rfl (jlr rfl) (dz 2 rfl (kq_ rfl (jix i hx rfl) (kq_ rfl (jfr rfl) (kq_ rfl (jlr rfl) (dz 1 rfl ?_)))))))));refine kc_ zwK rfl (zlM x.c (x.c.q) rfl (Fq.use (x:=x.c) (by omega)) (qOf (c)) (c) (zaj _) (Br.use (by omega))) (kc_ zsj rfl (zeX out x.r ((x.c.q)*(c)) (by assumption) (by omega) (by omega)) (dz 1 rfl (zae (za 4 rfl (tq_ rfl (jad (i+1) rfl) (zl 2 rfl ?_))))));exact nx_ ⟨i+1,_,rfl,rfl,rfl,hi,by rw[hout,ziB hx]⟩ rfl
 .refine tq_ rfl (ltF rfl) (zl 14 rfl ?_);exact r1_ hq_ rfl (by rw[hout,show i=b.length by omega,zEM])
theorem zul(x:Qr)(r:Rat)(hr:x.q=r)(hfx:Fit 1000000000000 x)(y:Qr)(s:Rat)(hs:y.q=s)(hfy:Fit 1000000000000 y)(hs0:s≠0):Ctr Tryz.prog 129 [qV x,qV y] (R.tup [qV (qOf (r/s)),V.one (Leaf.val (.int .i64 0))]):=by
 refine bd_ Tryz.func129 Tryz.ntmps129 rfl (fun w0 A0=>?_);haveI ixn:Bn (val x.n) 1000000000000:=Bn.val x.hn hfx.n;haveI ixd:Bn (val x.d) 1000000000000:=Bn.val x.hd hfx.d;haveI iyn:Bn (val y.n) 1000000000000:=Bn.val y.hn hfy.n;haveI iyd:Bn (val y.d) 1000000000000:=Bn.val y.hd hfy.d;have hyn:val y.n≠0:=fun e=>hs0 (by rw[<-hs];unfold Qr.q;rw[zfh];exact e);refine zc 12 rfl (tc_ zg4 rfl (zbH y (s) hs (hfy.mono (by omega))) (tq_ rfl (eqF rfl (zgR hs0)) (zl 6 rfl (dr_ 0 [(18,2)] [2] (dz 4 rfl (kq_ rfl (zbC rfl rfl rfl un4 (d:=_) (rfl)) (dz 4 rfl (kc_ zjt rfl ((zev y.d y.hd (hfy.mono (by omega)).d (val y.d) rfl)) ?_))))))));refine kc_ zkD rfl (zgd x.n (zaa (dn (val y.d))) x.hn (zab _) (hfx.mono (by omega)).n (Bn.use (by omega)) (val x.n) (dn (val y.d)) rfl (zac _)) (dz 2 rfl (kc_ zjt rfl ((zev x.d x.hd (hfx.mono (by omega)).d (val x.d) rfl)) (dz 2 rfl ?_)));refine kc_ zkD rfl (zgd (zaa (dn (val x.d))) y.n (zab _) y.hn (Bn.use (by omega)) (hfy.mono (by omega)).n (dn (val x.d)) (val y.n) (zac _) rfl) ?_;refine kc_ zsq rfl (zlK (x.neg != y.neg) (zaa ((val x.n)*(dn (val y.d)))) (zaa ((dn (val x.d))*(val y.n))) (zab _) (zab _) (Bn.use (by omega)) (Bn.use (by omega)) ((val x.n)*(dn (val y.d))) ((dn (val x.d))*(val y.n)) (zac _) (zac _) (Nat.mul_ne_zero (zdI _) hyn)) (dz 2 rfl (zae (za 1 rfl ?_)));exact r2_ hq_ rfl (by subst hr;subst hs;rw[zwj _ _ _ _ _ _ hyn] <;> rfl)
theorem ztl(s:Sc)(hi3:s.q.g.inp<=1000)(v:Nat)(hv:v<=1000):Ctr Tryz.prog 208 [scV s,V.one (Leaf.val (.int .i64 ((v:Int))))] (R.one (V.one (El.row muE (zcB s.q.g.inp v)))):=by
 refine bd_ Tryz.func208 Tryz.ntmps208 rfl (fun w0 A0=>?_);refine zc 14 rfl ?_;by_cases h1:v<s.q.g.inp
 .refine tq_ rfl (ltT rfl) (zl 7 rfl (tc_ zmm rfl (zlL 1 (by decide) (by decide)) (zl 1 rfl (te_ rfl (zad rfl zcJ zbh zcZ rfl (by decide) (by decide) rfl (by decide) rfl) (zl 3 rfl ?_)))));exact r1_ hq_ rfl (by unfold zcB;rw[if_pos h1] <;> rfl)
 .refine tq_ rfl (ltF rfl) (zl 6 rfl (dr_ 0 [] [] (dz 5 rfl (kq_ rfl (jsb (v-s.q.g.inp) rfl) (dz 1 rfl (kc_ zmm rfl (zlL 1 (by decide) (by decide)) (dz 1 rfl (ke_ rfl (fun _=>zad rfl zcJ zbh zcZ rfl (by decide) (by decide) rfl (by decide) rfl) (dz 1 rfl ?_)))))))));refine zae (za 1 rfl ?_);exact r1_ hq_ rfl (by unfold zcB;rw[if_neg h1] <;> rfl)
set_option maxHeartbeats 2000000 in
theorem zvw(s:Sc){B:Nat}(hB:∀m∈s.lems,Fq m.v B)(hB2:B<=100000000000)(hl:s.lems.length<=1000000)(hi3:s.q.g.inp<=1000)(v:Nat)(hv:v<=1000):Ctr Tryz.prog 207 [scV s,V.one (Leaf.val (.int .i64 ((v:Int))))] (R.tup [V.one (El.row muE ((zbY s.q.g.inp s.lems v).getD [])),V.one (Leaf.val (.bool (zbY s.q.g.inp s.lems v).isSome))]):=by
 refine bd_ Tryz.func207 Tryz.ntmps207 rfl (fun w0 A0=>?_);refine zc 9 rfl (tc_ zmm rfl (zlL 1 (by decide) (by decide)) (zl 12 rfl ?_));by_cases hv1:v<s.q.g.inp
 .refine tq_ rfl (ltT rfl) (zl 9 rfl (te_ rfl (zad rfl zcJ zbh zcZ rfl (by decide) (by decide) rfl (by decide) rfl) (zl 4 rfl ?_)));exact r2_ hq_ rfl (by unfold zbY;rw[if_pos hv1] <;> rfl)
 .refine tq_ rfl (ltF rfl) (zl 12 rfl (tq_ rfl (jsb (v-s.q.g.inp) rfl) (zl 7 rfl (tc_ zwM rfl (zhq s (by assumption) (by omega) (by omega) ((v-s.q.g.inp:Nat):Int)) (zl 11 rfl ?_)))));by_cases hb1:(zak s.lems ((v-s.q.g.inp:Nat):Int)).1=0
  .refine tq_ rfl (eqT rfl) (zl 8 rfl ?_);have hb:(zak s.lems ((v-s.q.g.inp:Nat):Int)).1=0\/(zak s.lems ((v-s.q.g.inp:Nat):Int)).2=0:=.inl hb1;refine zc 5 rfl ?_;exact r2_ hq_ rfl (by unfold zbY;rw[if_neg hv1,if_pos hb] <;> rfl)
  .refine tq_ rfl (eqF rfl) (zl 2 rfl ?_);by_cases hb2:(zak s.lems ((v-s.q.g.inp:Nat):Int)).2=0
   .refine tq_ rfl (eqT rfl) (zl 5 rfl ?_);have hb:(zak s.lems ((v-s.q.g.inp:Nat):Int)).1=0\/(zak s.lems ((v-s.q.g.inp:Nat):Int)).2=0:=.inr hb2;refine zc 5 rfl ?_;exact r2_ hq_ rfl (by unfold zbY;rw[if_neg hv1,if_pos hb] <;> rfl)
   .refine tq_ rfl (eqF rfl) (zl 7 rfl ?_);have hb:¬((zak s.lems ((v-s.q.g.inp:Nat):Int)).1=0\/(zak s.lems ((v-s.q.g.inp:Nat):Int)).2=0):=fun h=>h.elim hb1 hb2;obtain⟨y,hy,_,_,hly,hy0,hyl⟩:=zbj hb1;obtain⟨z,hz,_,_,hlz,hz0,hzl⟩:=zbu hb2;haveI hyB:=hB y (zEq hy);haveI hzB:=hB z (zEq hz);refine dr_ 2 [(14,2),(15,3),(16,2),(17,3)] [2,3] (dz 3 rfl (kq_ rfl (jsb (((zak s.lems ((v-s.q.g.inp:Nat):Int)).1)-1) rfl) (kq_ rfl (jix ((zak s.lems ((v-s.q.g.inp:Nat):Int)).1-1) hy rfl) (kq_ rfl (jft rfl) (kq_ rfl (jlr rfl) (dz 3 rfl (kq_ rfl (jsb (((zak s.lems ((v-s.q.g.inp:Nat):Int)).2)-1) rfl) ?_)))))));refine kq_ rfl (jix ((zak s.lems ((v-s.q.g.inp:Nat):Int)).2-1) hz rfl) (kq_ rfl (jft rfl) (kq_ rfl (jlr rfl) (dz 4 rfl (zae (za 6 rfl (tc_ zg4 rfl (zbH z.v (z.v.q) rfl (Fq.use (x:=z.v) (by omega))) ?_))))));by_cases hu0:lv s.lems (zak s.lems ((v-s.q.g.inp:Nat):Int)).2<=0
    .refine tq_ rfl (leT rfl (by rw[<-hlz];exact zih.2 hu0)) (zl 11 rfl (te_ rfl (zad rfl zcJ zbh zcZ rfl (by decide) (by decide) rfl (by decide) rfl) (zl 4 rfl ?_)));exact r2_ hq_ rfl (by unfold zbY;rw[if_neg hv1,if_neg hb,if_pos hu0] <;> rfl)
    .refine tq_ rfl (leF rfl (by rw[<-hlz];exact fun e=>hu0 (zih.1 e))) (zl 7 rfl (tc_ zg4 rfl (zbH y.v (y.v.q) rfl (Fq.use (x:=y.v) (by omega))) ?_));by_cases hl0:0<=lv s.lems (zak s.lems ((v-s.q.g.inp:Nat):Int)).1
     .refine tq_ rfl (geT rfl (by rw[<-hly];exact zii.2 hl0)) (zl 16 rfl (te_ rfl (zad rfl zcJ zbh zcZ rfl (by decide) (by decide) rfl (by decide) rfl) (zl 4 rfl ?_)));exact r2_ hq_ rfl (by unfold zbY;rw[if_neg hv1,if_neg hb,if_neg hu0,if_pos hl0] <;> rfl)
     .refine tq_ rfl (geF rfl (by rw[<-hly];exact fun e=>hl0 (zii.1 e))) (zl 8 rfl ?_);rw[hlz] at hu0;rw[hly] at hl0;have hne:z.v.q-y.v.q≠0:=by grind
      refine dr_ 1 [(8,4),(9,4)] [4] (dz 3 rfl (kc_ zzf rfl (zm9 z.v (z.v.q) rfl (Fq.use (x:=z.v) (by omega)) y.v (y.v.q) rfl (Fq.use (x:=y.v) (by omega))) (kc_ zuZ rfl (zul (qOf (((1:Int):Rat))) (((1:Int):Rat)) (zaj _) (Br.use (by omega)) (qOf ((z.v.q)-(y.v.q))) ((z.v.q)-(y.v.q)) (zaj _) (Br.use (by omega)) (by assumption)) (dz 6 rfl (zae (za 2 rfl ?_))))));refine dr_ 0 [] [] (dz 5 rfl (kc_ zwK rfl (zlM (qOf ((((1:Int):Rat))/((z.v.q)-(y.v.q)))) ((((1:Int):Rat))/((z.v.q)-(y.v.q))) (zaj _) (Br.use (by omega)) z.v (z.v.q) rfl (Fq.use (x:=z.v) (by omega))) (dz 7 rfl (ke_ rfl (fun _=>zad rfl zcJ zbh zcZ rfl (by decide) (by decide) rfl (by decide) rfl) (dz 2 rfl (zae (za 1 rfl ?_)))))));exact r2_ hq_ rfl (by unfold zbY;rw[if_neg hv1,if_neg hb,if_neg (by rw[hlz];exact hu0),if_neg (by rw[hly];exact hl0),hlz,hly] <;> rfl)
end Go.Proofs.YtjeiacoegppoiaaGreatDoor
namespace Rc
open Go Go.RowKit
structure FL(B n:Nat)(f:Af):Prop where
 can:CanT f.ts
 bd:∀t∈f.ts,Br t.2 B
 cb:Br f.c B
 var:∀t∈f.ts,t.1<n
theorem FL.mono{B C n m:Nat}{f:Af}(h:FL B n f)(h1:B<=C)(h2:n<=m):FL C m f:=
 ⟨h.can,fun t ht=>(h.bd t ht).mono h1,h.cb.mono h1,fun t ht=>zEy (h.var t ht) h2⟩
theorem FOk.fl{b n:Nat}{f:Af}(h:FOk b n f):FL (b+1) n f:=⟨h.can,fun t ht=>(h.bd t ht).br,h.br,h.var⟩
theorem FL.fm{B n:Nat}{f:Af}(h:FL B n f)(hn:n<=1000000):Fm f.ts B n:=
 ⟨h.can,h.bd,by have:=zkR (a:=0) h.can (fun t ht=>⟨zEv _,h.var t ht⟩);omega,fun t ht=>zEy (h.var t ht) hn⟩
def fV(v:Nat):Af:=⟨[(v,((1:Int):Rat))],0⟩
def fN(c:Rat):Af:=⟨[],c⟩
def zfz(f g:Af):Af:=⟨zgQ f.ts g.ts,f.c+g.c⟩
def fSc(f:Af)(c:Rat):Af:=⟨scT f.ts c,f.c*c⟩
def zbQ(f g:Af):Af:=⟨zgQ f.ts (scT g.ts ((-1:Int):Rat)),f.c+g.c*((-1:Int):Rat)⟩
def fZ:Af:=⟨[],0⟩
theorem FL.v{v n:Nat}(h:v<n):FL 2 n (fV v):=
 ⟨⟨by decide,fun t ht=>by simp at ht,trivial⟩,fun t ht=>by simp[fV] at ht;subst ht;exact Br.one,Br.zero.mono (by omega),fun t ht=>by simp[fV] at ht;subst ht;exact h⟩
theorem FL.n{c:Rat}{B n:Nat}(h:Br c B):FL B n (fN c):=⟨trivial,fun t ht=>by simp[fN] at ht,h,fun t ht=>by simp[fN] at ht⟩
theorem FL.z{n:Nat}:FL 0 n fZ:=⟨trivial,fun t ht=>by simp[fZ] at ht,Br.zero,fun t ht=>by simp[fZ] at ht⟩
theorem FL.add{f g:Af}{B C n:Nat}(hf:FL B n f)(hg:FL C n g):FL (B+C+1) n (zfz f g):=by
 haveI:=hf.cb;haveI:=hg.cb;exact⟨zch hf.can,zm0 hf.can hg.can hf.bd hg.bd,Br.add,zfd hf.var hg.var⟩
theorem FL.sc{f:Af}{c:Rat}{B C n:Nat}(hf:FL B n f)[hc:Br c C]:FL (B+C+1) n (fSc f c):=by
 haveI:=hf.cb;refine⟨by show CanT (scT f.ts c);rw[zed];exact zfK hf.can,fun t ht=>?_,Br.mul,fun t ht=>?_⟩
 .have ht:t∈scT f.ts c:=ht;rw[zed] at ht;obtain⟨u,h1,h2,h3,_⟩:=zeu ht;rw[h3];haveI:=hf.bd u h1;exact Br.mul
 .have ht:t∈scT f.ts c:=ht;rw[zed] at ht;obtain⟨u,h1,h2,_⟩:=zeu ht;rw[<-h2];exact hf.var u h1
theorem FL.sub{f g:Af}{B C n:Nat}(hf:FL B n f)(hg:FL C n g):FL (B+C+4) n (zbQ f g):=by
 have:=hf.add (FL.sc (c:=((-1:Int):Rat)) hg);exact this.mono (by omega) (zEt _)
def DOk(b:Nat)(q:Qu)(d:Dc):Prop:=(((d.kind=1\/d.kind=2)/\d.idx<q.g.us.length/\d.pt=0)\/((d.kind=3\/d.kind=4)/\d.idx<q.g.inp))/\Hb d.pt b
def zeM(path:List Dc)(k:Nat)(j:Int):Bool:=path.any (fun d=>((d.kind:Int) == (k:Int))&&((d.idx:Int) == j))
def zu7(path:List Dc)(k:Nat)(j:Int)(n:Nat):Bool:=(path.take n).any (fun d=>((d.kind:Int) == (k:Int))&&((d.idx:Int) == j))
theorem zc2{path:List Dc}{k n:Nat}{j:Int}{d:Dc}(h:path[n]?=some d):zu7 path k j (n+1)=(zu7 path k j n||(((d.kind:Int) == (k:Int))&&((d.idx:Int) == j))):=by
 unfold zu7;rw[zaO h,List.any_append];simp
theorem zh1{path:List Dc}{k:Nat}{j:Int}:zu7 path k j path.length=zeM path k j:=by unfold zu7 zeM;rw[zEM]
theorem zoU{path:List Dc}{k n:Nat}{j:Int}{d:Dc}(h:path[n]?=some d)(h1:((d.kind:Int) == (k:Int))=true)(h2:((d.idx:Int) == j)=true):zeM path k j=true:=by
 unfold zeM;rw[List.any_eq_true];exact⟨d,zEq h,by rw[h1,h2];rfl⟩
def lem(l:List Lm)(n unit:Int)(up:Bool):Rat×Bool:=
 if n<1 then(0,false) else match l[(n-1).toNat]? with
 |none=>(0,false)
 |some m=>if m.unit=unit/\m.up=up then(m.v.q,true) else(0,false)
theorem zBL{l:List Lm}{n unit:Int}{up:Bool}(h:n<1):lem l n unit up=(0,false):=if_pos h
theorem zBM{l:List Lm}{n unit:Int}{up:Bool}(h:(l.length:Int)<n):lem l n unit up=(0,false):=by
 unfold lem;rw[if_neg (by omega),List.getElem?_eq_none (by omega)]
theorem zwD{l:List Lm}{n unit:Int}{up:Bool}{m:Lm}(h:¬n<1)(hm:l[(n-1).toNat]?=some m)(hn:¬(m.unit=unit/\m.up=up)):lem l n unit up=(0,false):=by
 unfold lem;rw[if_neg h,hm];simp only[];rw[if_neg hn]
theorem zr4{l:List Lm}{n unit:Int}{up:Bool}{m:Lm}(h:¬n<1)(hm:l[(n-1).toNat]?=some m)(hn:m.unit=unit/\m.up=up):lem l n unit up=(m.v.q,true):=by
 unfold lem;rw[if_neg h,hm];simp only[];rw[if_pos hn]
theorem zoy{l:List Lm}{n unit:Int}{up:Bool}{B:Nat}(hB:∀m∈l,Fq m.v B):Br (lem l n unit up).1 B:=by
 unfold lem;split
 .exact Br.zero.mono (zEv _)
 .split
  .exact Br.zero.mono (zEv _)
  .rename_i m hm;split
   .haveI:=hB m (zEq hm);exact Fq.br
   .exact Br.zero.mono (zEv _)
section
variable (s:Sc)(r:Rw)
@[reducible] def zdk:Rat:=(lem s.lems r.lo r.idx false).1
@[reducible] def zpR:Bool:=(lem s.lems r.lo r.idx false).2
@[reducible] def zdd:Rat:=(lem s.lems r.hi r.idx true).1
@[reducible] def zpw:Bool:=(lem s.lems r.hi r.idx true).2
def onB:Bool:=(r.hi == 0)&&(((r.lo == 0)&&zeM s.path 1 r.idx)||(zpR s r&&decide (0<=sg (zdk s r))))
def zhy:Bool:=(r.lo == 0)&&(((r.hi == 0)&&zeM s.path 2 r.idx)||(zpw s r&&decide (sg (zdd s r)<=0)))
def za5(p:Af):Af×Bool:=
 if r.kind=5 then(fV (s.q.g.inp+r.idx.toNat),(r.lo == 0)&&(r.hi == 0))
 else if r.kind=6 then(zbQ (fV (s.q.g.inp+r.idx.toNat)) p,(r.lo == 0)&&(r.hi == 0))
 else if r.kind=7 then(p,onB s r)
 else if r.kind=8 then(zbQ p (fV (s.q.g.inp+r.idx.toNat)),onB s r)
 else if r.kind=9 then(fSc p ((-1:Int):Rat),zhy s r)
 else if r.kind=10 then(fSc (fV (s.q.g.inp+r.idx.toNat)) ((-1:Int):Rat),zhy s r)
 else if r.kind=11 then(zbQ p (fN (zdk s r)),zpR s r&&(r.hi == 0))
 else if r.kind=12 then(zbQ (fN (zdd s r)) p,zpw s r&&(r.lo == 0))
 else if r.kind=13 then(zbQ (fSc (zbQ p (fN (zdk s r))) (zdd s r)) (fSc (fV (s.q.g.inp+r.idx.toNat)) (zdd s r-zdk s r)),zpR s r&&zpw s r&&decide (sg (zdk s r)<0)&&decide (0<sg (zdd s r)))
 else(fZ,false)
def orZ(x:Af×Bool):Af×Bool:=if x.2=true then x else(fZ,false)
def zhv:Af×Bool:=if r.idx<0 then(fZ,false) else match s.q.g.us[r.idx.toNat]? with
 |none=>(fZ,false)
 |some p=>orZ (za5 s r p)
def zeZ(d:Dc):Af:=if d.kind=3 then zbQ (fV d.idx) (fN d.pt) else fSc (zbQ (fV d.idx) (fN d.pt)) ((-1:Int):Rat)
def zaz:Af×Bool:=
 if 5<=r.kind then zhv s r
 else if r.lo≠0\/r.hi≠0\/r.idx<0 then(fZ,false)
 else if r.kind=1 then(match s.q.r.lo[r.idx.toNat]? with|some c=>(zbQ (fV r.idx.toNat) (fN c),true)|none=>(fZ,false))
 else if r.kind=2 then(match s.q.r.hi[r.idx.toNat]? with|some c=>(zbQ (fN c) (fV r.idx.toNat),true)|none=>(fZ,false))
 else if r.kind=3 then(match s.q.r.rows[r.idx.toNat]? with|some f=>(f,true)|none=>(fZ,false))
 else if r.kind=4 then(match s.path[r.idx.toNat]? with|some d=>if 3<=d.kind then(zeZ d,true) else(fZ,false)|none=>(fZ,false))
 else(fZ,false)
end
theorem zd0{s:Sc}{r:Rw}{p f:Af}(h1:¬r.idx<0)(hp:s.q.g.us[r.idx.toNat]?=some p)(h:za5 s r p=(f,true)):zhv s r=(f,true):=by
 unfold zhv;rw[if_neg h1,hp];simp only[h,orZ,if_true]
theorem zb2{s:Sc}{r:Rw}{p:Af}(h1:¬r.idx<0)(hp:s.q.g.us[r.idx.toNat]?=some p)(h:(za5 s r p).2=false):zhv s r=(fZ,false):=by
 unfold zhv;rw[if_neg h1,hp];simp only[orZ];rw[if_neg (by rw[h];decide)]
theorem zbE(b:Bool)(ls:List Leaf)(h:ls=[tmE.row [],Leaf.val (.bool false),nilL,nilL]):R.tup [V.agg ls,V.one (Leaf.val (.bool b))]=R.tup [afV fZ,V.one (Leaf.val (.bool b))]:=by
 subst h;show _=R.tup [afV ⟨[],0⟩,_];rw[af0]
theorem qOf0:qOf 0=qZero:=by
 show Qr.mk (zaQ 0) (zaa (zaw 0)) (zaa (zaE 0)) _ _=Qr.mk false [] [] _ _;simp only[Qr.mk.injEq,zbp,zbq,zah,and_true];decide
theorem ztZ{s:Sc}{r:Rw}{p:Af}{B n:Nat}(hB:∀m∈s.lems,Fq m.v B)(hp:FL 4 n p)(hv:s.q.g.inp+r.idx.toNat<n):FL (4*B+40) n (za5 s r p).1:=by
 haveI hl:Br (zdk s r) B:=zoy hB;haveI ht:Br (zdd s r) B:=zoy hB;have h1:=FL.v hv;have m:∀{C:Nat} {f:Af},FL C n f->C<=4*B+40->FL (4*B+40) n f:=fun h hc=>h.mono hc (zEt _);unfold za5;split;· exact m h1 (by omega)
 split;· exact m (h1.sub hp) (by omega)
 split;· exact m hp (by omega)
 split;· exact m (hp.sub h1) (by omega)
 split;· exact m (FL.sc (c:=((-1:Int):Rat)) hp) (by omega)
 split;· exact m (FL.sc (c:=((-1:Int):Rat)) h1) (by omega)
 split;· exact m (hp.sub (FL.n hl)) (by omega)
 split;· exact m ((FL.n ht).sub hp) (by omega)
 split;· exact m ((FL.sc (c:=zdd s r) (hp.sub (FL.n hl))).sub (FL.sc (c:=zdd s r-zdk s r) h1)) (by omega)
 exact m FL.z (by omega)
theorem ztY{s:Sc}{r:Rw}{B:Nat}(hq:QOk s.q)(hB:∀m∈s.lems,Fq m.v B):FL (4*B+40) (s.q.g.inp+s.q.g.us.length) (zhv s r).1:=by
 unfold zhv;split
 .exact FL.z.mono (by omega) (zEt _)
 .split
  .exact FL.z.mono (by omega) (zEt _)
  .rename_i p hp;have hj:=(zEr.1 hp).1;unfold orZ;split
   .exact ztZ hB ((hq.g.us _ p hp).fl.mono (by omega) (by omega)) (by omega)
   .exact FL.z.mono (by omega) (zEt _)
theorem zhW{s:Sc}{r:Rw}{B b:Nat}(hq:QOk s.q)(hd:∀d∈s.path,DOk b s.q d)(hB:∀m∈s.lems,Fq m.v B):FL (4*B+b+40) (s.q.g.inp+s.q.g.us.length) (zaz s r).1:=by
 have z:FL (4*B+b+40) (s.q.g.inp+s.q.g.us.length) fZ:=FL.z.mono (by omega) (zEt _);have m:∀{C:Nat} {f:Af},FL C (s.q.g.inp+s.q.g.us.length) f->C<=4*B+b+40->FL (4*B+b+40) (s.q.g.inp+s.q.g.us.length) f:=fun h hc=>h.mono hc (zEt _);unfold zaz;split
 .exact m (ztY hq hB) (by omega)
 split
 .exact z
 split
 .split
  .rename_i c hc;have hj:=(zEr.1 hc).1;have hl:=hq.r.lo;have hh:=hq.r.hi;obtain⟨y,hy⟩:∃y,s.q.r.hi[r.idx.toNat]?=some y:=⟨_,zEp (by omega)⟩;exact m ((FL.v (by omega)).sub (FL.n (hq.r.bd _ _ _ hc hy).1.br)) (by omega)
  .exact z
 split
 .split
  .rename_i c hc;have hj:=(zEr.1 hc).1;have hl:=hq.r.lo;have hh:=hq.r.hi;obtain⟨y,hy⟩:∃y,s.q.r.lo[r.idx.toNat]?=some y:=⟨_,zEp (by omega)⟩;exact m ((FL.n (hq.r.bd _ _ _ hy hc).2.1.br).sub (FL.v (by omega))) (by omega)
  .exact z
 split
 .split
  .rename_i f hf;exact(hq.r.rows f (zEq hf)).fl.mono (by omega) (by omega)
  .exact z
 split
 .split
  .rename_i d hdd;have hok:=hd d (zEq hdd);split
   .rename_i h3;have hv:d.idx<s.q.g.inp+s.q.g.us.length:=by rcases hok.1 with⟨h,_⟩|⟨_,h⟩ <;> omega
    unfold zeZ;split
    .exact m ((FL.v hv).sub (FL.n hok.2.br)) (by omega)
    .exact m (FL.sc (c:=((-1:Int):Rat)) ((FL.v hv).sub (FL.n hok.2.br))) (by omega)
   .exact z
  .exact z
 exact z
def zeR(s:Sc)(l:List Mu):Af:=l.foldl (fun a m=>zfz a (fSc (zaz s m.r).1 m.c.q)) fZ
theorem zqP(s:Sc)(l:List Mu)(m:Mu):zeR s (l++[m])=zfz (zeR s l) (fSc (zaz s m.r).1 m.c.q):=by unfold zeR;rw[zER];rfl
theorem zqO{s:Sc}{l:List Mu}{i:Nat}{m:Mu}(h:l[i]?=some m):zeR s (l.take (i+1))=zfz (zeR s (l.take i)) (fSc (zaz s m.r).1 m.c.q):=by rw[zaO h,zqP]
theorem zoM{s:Sc}{B b C:Nat}(hq:QOk s.q)(hd:∀d∈s.path,DOk b s.q d)(hB:∀m∈s.lems,Fq m.v B):∀(l:List Mu) (a:Af) (K:Nat),FL K (s.q.g.inp+s.q.g.us.length) a->MB C l →
  FL (K+l.length*(4*B+b+C+42)) (s.q.g.inp+s.q.g.us.length) (l.foldl (fun a m=>zfz a (fSc (zaz s m.r).1 m.c.q)) a)
 |[],a,K,h,_=>h.mono (by omega) (zEt _)
 |m::l,a,K,h,hm=>by
  haveI:=hm m (by simp);have h1:=h.add (FL.sc (c:=m.c.q) (zhW (r:=m.r) hq hd hB));have h2:=zoM hq hd hB l _ _ h1 (fun x hx=>hm x (by simp[hx]));refine h2.mono ?_ (zEt _);simp only[List.length_cons,Nat.add_mul];omega
theorem zm1{s:Sc}{l:List Mu}{B b C:Nat}(hq:QOk s.q)(hd:∀d∈s.path,DOk b s.q d)(hB:∀m∈s.lems,Fq m.v B)(hm:MB C l):FL (l.length*(4*B+b+C+42)) (s.q.g.inp+s.q.g.us.length) (zeR s l):=
 (zoM hq hd hB l fZ 0 FL.z hm).mono (by omega) (zEt _)
theorem MB.take{C n:Nat}{l:List Mu}(h:MB C l):MB C (l.take n):=fun m hm=>h m (List.mem_of_mem_take hm)
def zfG(inp:Nat)(lems:List Lm)(a:List Mu×Bool)(t:Tm):List Mu×Bool:=
 if a.2=true then
  if 0<t.2 then(zaU a.1 (zcB inp t.1) (rq false (zaw t.2) (zaE t.2)),true)
  else match zbY inp lems t.1 with
   |some m=>(zaU a.1 m (rq false (zaw t.2) (zaE t.2)),true)
   |none=>([],false)
 else a
def znG(inp:Nat)(lems:List Lm)(ts:List Tm):List Mu×Bool:=ts.foldl (zfG inp lems) ([],true)
theorem ztq(inp:Nat)(lems:List Lm)(ts:List Tm)(t:Tm):znG inp lems (ts++[t])=zfG inp lems (znG inp lems ts) t:=by unfold znG;rw[zER];rfl
theorem zi6{inp:Nat}{lems:List Lm}{ts:List Tm}{i:Nat}{t:Tm}(h:ts[i]?=some t):znG inp lems (ts.take (i+1))=zfG inp lems (znG inp lems (ts.take i)) t:=by rw[zaO h,ztq]
theorem zk4{inp:Nat}{lems:List Lm}:∀(ts:List Tm) (a:List Mu×Bool),a.2=false->(ts.foldl (zfG inp lems) a).2=false
 |[],a,h=>h
 |t::ts,a,h=>zk4 ts _ (by unfold zfG;rw[if_neg (by rw[h];decide)];exact h)
theorem zvE{inp:Nat}{lems:List Lm}{ts:List Tm}{i:Nat}(h:(znG inp lems (ts.take i)).2=false):(znG inp lems ts).2=false:=by
 have e:znG inp lems ts=(ts.drop i).foldl (zfG inp lems) (znG inp lems (ts.take i)):=by
  unfold znG;rw[<-zER,List.take_append_drop]
 rw[e];exact zk4 _ _ h
end Rc
namespace Go.Proofs.YtjeiacoegppoiaaGreatDoor
open Go Go.RowKit Rc
set_option maxHeartbeats 2000000 in
theorem zr3(s:Sc){B:Nat}(hB:∀m∈s.lems,Fq m.v B)(hB2:B<=100000000000)(hl:s.lems.length<=1000000)(n u:Int)(up:Bool):Ctr Tryz.prog 197 [scV s,V.one (Leaf.val (.int .i64 (n))),V.one (Leaf.val (.int .i64 (u))),V.one (Leaf.val (.bool up))] (R.tup [qV (qOf (lem s.lems n u up).1),V.one (Leaf.val (.bool (lem s.lems n u up).2))]):=by
 refine bd_ Tryz.func197 Tryz.ntmps197 rfl (fun w0 A0=>?_);refine zc 11 rfl ?_;by_cases h1:n<1
 .refine tq_ rfl (ltT rfl) (zl 24 rfl (zl 15 rfl ?_));exact r2_ hq_ rfl (by rw[zBL h1];show _=R.tup [qV (qOf 0),V.one (Leaf.val (.bool false))];rw[<-zc8] <;> rfl)
 .refine tq_ rfl (ltF rfl) (zl 4 rfl (tq_ rfl (jln rfl) ?_));by_cases h2:(s.lems.length:Int)<n
  .refine tq_ rfl (gtT rfl) (zl 24 rfl (za 9 rfl ?_));exact r2_ hq_ rfl (by rw[zBM h2];show _=R.tup [qV (qOf 0),V.one (Leaf.val (.bool false))];rw[<-zc8] <;> rfl)
  .refine tq_ rfl (gtF rfl) (zl 2 rfl ?_);obtain⟨x,hx⟩:∃x,s.lems[(n-1).toNat]?=some x:=⟨_,zEp (by omega)⟩;haveI hxB:=hB x (zEq hx);refine zl 3 rfl (tq_ rfl (zaN rfl rfl rfl (r:=(n-1)) (w64 (by omega) (by omega) (by omega))) (tq_ rfl (jix ((n-1).toNat) hx rfl (by omega)) (tq_ rfl (jfr rfl) (tq_ rfl (jli rfl) (zl 1 rfl ?_)))));by_cases h3:x.unit≠u
   .refine tq_ rfl (neT rfl) (zl 22 rfl ?_);exact r2_ hq_ rfl (by rw[zwD h1 hx (fun e=>h3 e.1)];show _=R.tup [qV (qOf 0),V.one (Leaf.val (.bool false))];rw[<-zc8] <;> rfl)
   .refine tq_ rfl (neF rfl) (zl 5 rfl (tq_ rfl (zaN rfl rfl rfl (r:=(n-1)) (w64 (by omega) (by omega) (by omega))) (tq_ rfl (jix ((n-1).toNat) hx rfl (by omega)) (tq_ rfl (jfr rfl) (tq_ rfl (jli rfl) (zl 1 rfl ?_))))));by_cases h4:x.up≠up
    .refine tq_ rfl (zbC rfl rfl rfl un4 (d:=true) (bne_iff_ne.2 h4)) (zl 11 rfl ?_);exact r2_ hq_ rfl (by rw[zwD h1 hx (fun e=>h4 e.2)];show _=R.tup [qV (qOf 0),V.one (Leaf.val (.bool false))];rw[<-zc8] <;> rfl)
    .refine tq_ rfl (zbC rfl rfl rfl un4 (d:=false) (by rw[Classical.not_not.1 h4];simp)) (zl 11 rfl (tq_ rfl (zaN rfl rfl rfl (r:=(n-1)) (w64 (by omega) (by omega) (by omega))) (tq_ rfl (jix ((n-1).toNat) hx rfl (by omega)) (tq_ rfl (jft rfl) (tq_ rfl (jlr rfl) (tc_ zmW rfl (zca x.v (x.v.q) rfl (Fq.use (x:=x.v) (by omega))) (zl 4 rfl ?_)))))));exact r2_ hq_ rfl (by rw[zr4 h1 hx ⟨Classical.not_not.1 h3,Classical.not_not.1 h4⟩] <;> rfl)
theorem zst(q:Qu)(d:Dc){b:Nat}(hd:DOk b q d)(hb:b<=1000000):Ctr Tryz.prog 137 [quV q,dcV d] (R.one (V.one (Leaf.val (.bool true)))):=by
 refine bd_ Tryz.func137 Tryz.ntmps137 rfl (fun w0 A0=>?_);obtain⟨hk,hbt⟩:=hd;haveI:=hbt.br;have hkk:d.kind=1\/d.kind=2\/d.kind=3\/d.kind=4:=by rcases hk with⟨h,_⟩|⟨h,_⟩ <;> omega
 refine zc 18 rfl ?_;by_cases h1:d.kind=1
 .refine tq_ rfl (eqT rfl) (zl 8 rfl ?_);have hp0:d.idx<q.g.us.length/\d.pt=0:=by rcases hk with⟨_,h⟩|⟨h,_⟩ <;> first|exact h|omega
  refine zc 3 rfl (tq_ rfl (geT rfl) (zl 6 rfl (tq_ rfl (jln rfl) (tq_ rfl (ltT rfl) (zl 5 rfl (tc_ zzj rfl (zil (qOf (d.pt)) qZero) (is_ true rfl (by rw[hp0.2,qOf0];rfl) (zl 4 rfl ?_))))))));exact r1_ hq_ rfl rfl
 .refine tq_ rfl (eqF rfl) (zl 5 rfl ?_);by_cases h2:d.kind=2
  .refine tq_ rfl (eqT rfl) (zl 5 rfl ?_);have hp0:d.idx<q.g.us.length/\d.pt=0:=by rcases hk with⟨_,h⟩|⟨h,_⟩ <;> first|exact h|omega
   refine zc 3 rfl (tq_ rfl (geT rfl) (zl 6 rfl (tq_ rfl (jln rfl) (tq_ rfl (ltT rfl) (zl 5 rfl (tc_ zzj rfl (zil (qOf (d.pt)) qZero) (is_ true rfl (by rw[hp0.2,qOf0];rfl) (zl 4 rfl ?_))))))));exact r1_ hq_ rfl rfl
  .refine tq_ rfl (eqF rfl) (zl 7 rfl ?_);by_cases h3:d.kind=3
   .refine tq_ rfl (eqT rfl) (zl 8 rfl ?_);have hp0:d.idx<q.g.inp:=by rcases hk with⟨h,_⟩|⟨_,h⟩ <;> first|exact h|omega
    refine zc 3 rfl (tq_ rfl (geT rfl) (zl 6 rfl (tq_ rfl (ltT rfl) (zl 4 rfl (tc_ zsk rfl (zdt (qOf (d.pt)) (d.pt) (zaj _) (Br.use (by omega))) (is_ true rfl (zde _) (zl 4 rfl ?_)))))));exact r1_ hq_ rfl rfl
   .refine tq_ rfl (eqF rfl) (zl 5 rfl (tq_ rfl (eqT rfl) (zl 5 rfl ?_)));have hp0:d.idx<q.g.inp:=by rcases hk with⟨h,_⟩|⟨_,h⟩ <;> first|exact h|omega
    refine zc 3 rfl (tq_ rfl (geT rfl) (zl 6 rfl (tq_ rfl (ltT rfl) (zl 4 rfl (tc_ zsk rfl (zdt (qOf (d.pt)) (d.pt) (zaj _) (Br.use (by omega))) (is_ true rfl (zde _) (zl 4 rfl ?_)))))));exact r1_ hq_ rfl rfl
theorem zgw(s:Sc){b:Nat}(hq:QOk s.q)(hd:∀d∈s.path,DOk b s.q d)(hb:b<=1000000)(hpl:s.path.length<=1000)(k:Nat)(j:Int):Ctr Tryz.prog 148 [scV s,V.one (Leaf.val (.int .i64 ((k:Int)))),V.one (Leaf.val (.int .i64 (j)))] (R.one (V.one (Leaf.val (.bool (zeM s.path k j))))):=by
 refine bd_ Tryz.func148 Tryz.ntmps148 rfl (fun w0 A0=>?_);refine zc 13 rfl (zbv (fun m Γ H=>∃(i:Nat),s.path.length-i=m/\Γ=[(1,some (D.val (.int .i64 (k:Int)))),(2,some (D.val (.int .i64 j))),(3,some (D.ptr 0 0)),(7,some (D.val (.int .i64 (i:Int))))]/\H=[hb_ 43 (scL s)]/\i<=s.path.length/\zu7 s.path k j i=false) ⟨0,rfl,rfl,rfl,zEv _,rfl⟩ rfl ?_);rintro m Γ H ⟨i,rfl,rfl,rfl,hi0,hno⟩;refine zc 6 rfl (tq_ rfl (jln rfl) ?_);by_cases hi:i<s.path.length
 .refine tq_ rfl (ltT rfl) (zl 8 rfl ?_);obtain⟨x,hx⟩:∃x,s.path[i]?=some x:=⟨_,zEp hi⟩;have hxd:=hd x (zEq hx);refine dr_ 0 [] [] (dz 3 rfl (kq_ rfl (jix i hx rfl) (kq_ rfl (jfr rfl) (kq_ rfl (jli rfl) (dz 3 rfl ?_)))));refine zqt rfl (fun hk1=>?_) (fun hk1=>?_)
  .refine dz 19 rfl (zae (za 7 rfl (tq_ rfl (jad (i+1) rfl) (zl 2 rfl ?_))));exact nx_ ⟨i+1,rfl,rfl,rfl,hi,by rw[zc2 hx,hno,hk1];rfl⟩ rfl
  .refine dz 3 rfl (kq_ rfl (jix i hx rfl) (kq_ rfl (jfr rfl) (kq_ rfl (jli rfl) (dz 4 rfl ?_))));refine zqt rfl (fun hk2=>?_) (fun hk2=>?_)
   .refine dz 9 rfl (zae (za 7 rfl (tq_ rfl (jad (i+1) rfl) (zl 2 rfl ?_))));exact nx_ ⟨i+1,rfl,rfl,rfl,hi,by rw[zc2 hx,hno,hk1,hk2];rfl⟩ rfl
   .refine dz 5 rfl (kq_ rfl (jix i hx rfl) (kq_ rfl (jlr rfl) (kc_ zzk rfl (zst s.q x (by assumption) (by omega)) (dz 1 rfl (zae (za 7 rfl ?_))))));exact r1_ hq_ rfl (by rw[zoU hx hk1 hk2])
 .refine tq_ rfl (ltF rfl) (zl 13 rfl ?_);exact r1_ hq_ rfl (by rw[<-zh1,<-show i=s.path.length by omega,hno])
end Go.Proofs.YtjeiacoegppoiaaGreatDoor
