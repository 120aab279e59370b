/- Parts of the proof, 8: the texts WkU, WkV, WkW, Mod, FactsE, WlA, WlB, WlC, WlD, WkX, WlE, WlF, Row, WlG, WlH, WlI, Form, WlJ, as far as they are used. -/
import Derived.Test.YtjeiacoegppoiaaGreatDoorSb07
set_option linter.unusedSimpArgs false
set_option linter.unusedVariables false
set_option maxRecDepth 10000
namespace Go.Proofs.YtjeiacoegppoiaaGreatDoor
open Go Go.RowKit Rc
theorem zbU(l:List Nat)(k n:Nat)(hn:0<n)(hn2:n<=1000)(hl:l.length<=1000000)(hk:k<=l.length)(hb:∀x∈l,x<256):CtrP Tryz.prog 100 158 [El.row u8E l,Leaf.val (.int .i64 (k:Int))] [El.row u8E l,Leaf.val (.int .i64 ((nk l k:Nat):Int))] [V.one (Leaf.val (.int .i64 ((n:Int))))] (R.one (V.one (Leaf.val (.int .i64 ((nx l k n:Int)))))):=by
 refine CtrP.of_body Tryz.func100 rfl Tryz.ntmps100 (zFo rfl) (fun w0 A0 bk hX=>?_);refine qc_ (zc 7 rfl (dr_ 0 [] [] (dz 8 rfl (kq_ rfl (jln rfl) ?_))));by_cases hlk:l.length<=k
 .refine kq_ rfl (geT rfl) (zae (za 7 rfl ?_));exact zf5 (fun _ _ h=>h) rfl rfl (by rw[zyM hlk] <;> rfl) rfl (by rw[zyQ hlk]) hX
 .refine kq_ rfl (geF rfl) (zae (za 5 rfl ?_));obtain⟨x,hx⟩:∃x,l[k]?=some x:=⟨_,zFh (by omega)⟩;have hx2:=hb x (zFi hx);refine zc 5 rfl (tq_ rfl (jad (k+1) rfl) (zl 6 rfl (dr_ 0 [] [] (dz 8 rfl (kq_ rfl (jsb k rfl) (kq_ rfl (jix k hx rfl) (kq_ rfl (jli rfl) (kq_ rfl (jci x rfl) (dz 1 rfl ?_)))))))));refine kq_ rfl (zcg rfl rfl rfl (by omega) (r:=((x%n:Nat):Int)) (zd2 _ _)) (dz 1 rfl (zae (za 1 rfl ?_)));exact zf5 (fun _ _ h=>h) rfl rfl (by rw[zyL hx]) rfl (by rw[zyP (by omega)] <;> rfl) hX
theorem zcL(l:List Nat)(k:Nat)(hl:l.length<=1000000)(hk:k<=l.length)(hb:∀x∈l,x<256):CtrP Tryz.prog 99 158 [El.row u8E l,Leaf.val (.int .i64 (k:Int))] [El.row u8E l,Leaf.val (.int .i64 ((nk l (nk l k):Nat):Int))] [] (R.one (V.agg (qL (zfG l k)))):=by
 refine CtrP.of_body Tryz.func99 rfl Tryz.ntmps99 (zFo rfl) (fun w0 A0 bk hX=>?_);refine qc_ ?_;have h9:nx l k 9<9:=zda (by decide);have hd1:=zsh (nx l (nk l k) 4);refine zc 8 rfl (te_ rfl (zaD rfl zhH rfl rfl rfl rfl (zbU l k 9 (by first|decide|omega) (by first|decide|omega) hl (by first|assumption|exact za3 (by assumption)) hb)) (tq_ rfl (zaQ rfl rfl rfl (r:=((nx l k 9:Nat):Int)-4) (w64 (by omega) (by omega) (by omega))) (tq_ rfl (zn3 rfl zBE rfl zBB ty3 rfl) (zl 1 rfl ?_))));refine te_ rfl (zaD rfl zhH rfl rfl rfl rfl (zbU l (nk l k) 4 (by first|decide|omega) (by first|decide|omega) hl (by first|assumption|exact za3 (by assumption)) hb)) (tq_ rfl (zua (nx l (nk l k) 4) rfl rfl rfl zBB ty3 (zda (by decide)) (zCn (zda (by decide)))) ?_);refine tc_ fn65 rfl (zrJ (((nx l k 9:Nat):Int)-4) ((nd (nx l (nk l k) 4):Nat):Int) (by omega) (by omega) (by omega) (by omega) (by omega)) (zl 14 rfl ?_);exact zf5 (fun _ _ h=>h) rfl (⟨_,_,rfl,rfl,.inl ⟨zhM,zFo rfl,rfl⟩⟩) rfl rfl rfl hX
theorem ze3(l:List Nat)(k n:Nat)(hn:n<=100)(hl:l.length<=1000000)(hk:k<=l.length)(hb:∀x∈l,x<256):CtrP Tryz.prog 46 158 [El.row u8E l,Leaf.val (.int .i64 (k:Int))] [El.row u8E l,Leaf.val (.int .i64 (((zaA l k n).2:Nat):Int))] [V.one (Leaf.val (.int .i64 ((n:Int))))] (R.one (afV (zaA l k n).1)):=by
 refine CtrP.of_body Tryz.func46 rfl Tryz.ntmps46 (zFo rfl) (fun w0 A0 bk hX=>?_);refine qc_ (zc 8 rfl (te_ rfl (zaD rfl zBo rfl rfl rfl rfl (zcL l k hl (by first|assumption|exact za3 (by assumption)) hb)) (zl 12 rfl ?_)));refine zbo (fun m Γ H=>∃(i:Nat) (out:Af) (q:Nat),n-i=m/\Γ=[(0,some (D.ptr 0 0)),(1,some (D.val (.int .i64 (n:Int)))),(4,some (D.ptr 1 0)),(5,some (D.ptr 2 0)),(6,some (D.val (.int .i64 (i:Int))))]/\H=[hbq 158 [El.row u8E l,Leaf.val (.int .i64 (q:Int))] bk,hb_ 38 [El.row tmE ([]),Leaf.val (.bool false),zaf ([]),zaf ([])],hb_ 38 (afL out)]/\i<=n/\(out,q)=zaA l k i) ⟨0,⟨[],zfG l k⟩,_,rfl,rfl,rfl,zFn _,rfl⟩ rfl ?_;rintro m Γ H ⟨i,out,q,rfl,rfl,rfl,hi0,hs⟩;refine zc 5 rfl ?_;by_cases hi:i<n
 .refine tq_ rfl (ltT rfl) (zl 8 rfl ?_);have hok:=zkQ l k hk i (by omega);rw[<-hs] at hok;obtain⟨hfm,hfc,hq⟩:=hok;haveI:Fm out.ts (20*i) i:=hfm;haveI:Br out.c (20*i+6):=hfc;have hk:q<=l.length:=hq;haveI:=ziL l (nk l q);haveI:Br ((1:Int):Rat) 2:=Br.int2 (by decide) (by decide);haveI:=Fm.one (v:=i) (c:=((1:Int):Rat)) (by omega) (by decide);refine zc 2 rfl (te_ rfl (zaD rfl zhH rfl rfl rfl rfl (zbU l q 3 (by first|decide|omega) (by first|decide|omega) hl (by first|assumption|exact za3 (by assumption)) hb)) ?_);by_cases hx:0<nx l q 3
  .refine tq_ rfl (gtT rfl) (zl 3 rfl (dr_ 0 [(4,0),(7,2)] [0,2] (kp_ [0] rfl (zaC rfl rfl rfl (by decide) zkr (by decide) (zFo rfl) rfl) (dz 1 rfl (kc_ zsZ rfl (zBL i (by omega)) (dz 1 rfl (ki_ 0 rfl (zdG rfl zBo rfl rfl rfl rfl (zcL l (nk l q) hl (by first|assumption|exact za3 (by assumption)) hb)) ?_)))))));refine kc_ zqQ rfl (zci ⟨[(i,((1:Int):Rat))],0⟩ (zfG l (nk l q)) (by omega) (by omega)) (kc_ zDz rfl (ziE ⟨out.ts,out.c⟩ ⟨scT ([(i,((1:Int):Rat))]) (zfG l (nk l q)),0*(zfG l (nk l q))⟩ (by omega) (by omega) (by omega)) (dz 1 rfl (zae (za 4 rfl (tq_ rfl (jad (i+1) rfl) (zl 2 rfl ?_))))));exact nx_ ⟨i+1,⟨_,_⟩,_,rfl,rfl,rfl,by omega,by rw[zfq,<-hs];exact(if_pos hx).symm⟩ rfl
  .refine tq_ rfl (gtF rfl) (zl 8 rfl (tq_ rfl (jad (i+1) rfl) (zl 2 rfl ?_)));exact nx_ ⟨i+1,_,_,rfl,rfl,rfl,by omega,by rw[zfq,<-hs];exact(if_neg hx).symm⟩ rfl
 .refine tq_ rfl (ltF rfl) (zl 9 rfl ?_);have hie:i=n:=by omega
  subst hie;refine zc 5 rfl ?_;exact zf5 (fun _ _ h=>h) rfl (⟨_,_,rfl,rfl,.inl ⟨zkr,zFo rfl,rfl⟩⟩) (by rw[<-hs] <;> rfl) rfl (by rw[<-hs]) hX
end Go.Proofs.YtjeiacoegppoiaaGreatDoor
namespace Rc
open Go Go.RowKit
structure Gr where
 inp:Nat
 us:List Af
 os:List Af
structure Rg where
 lo:List Rat
 hi:List Rat
 rows:List Af
structure Qu where
 g:Gr
 r:Rg
 goal:Af
structure Dc where
 kind:Nat
 idx:Nat
 pt:Rat
structure Rw where
 kind:Int
 idx:Int
 lo:Int
 hi:Int
theorem Rw.ext'{a b:Rw}(h1:a.kind=b.kind)(h2:a.idx=b.idx)(h3:a.lo=b.lo)(h4:a.hi=b.hi):a=b:=by
 cases a;cases b;simp at *;exact⟨h1,h2,h3,h4⟩
instance : DecidableEq Rw := fun a b =>
 if h:a.kind=b.kind/\a.idx=b.idx/\a.lo=b.lo/\a.hi=b.hi then .isTrue (Rw.ext' h.1 h.2.1 h.2.2.1 h.2.2.2)
 else .isFalse (fun e=>h (by subst e;exact⟨rfl,rfl,rfl,rfl⟩))
structure Mu where
 r:Rw
 c:Qr
structure Lm where
 unit:Int
 up:Bool
 v:Qr
 pf:List Mu
structure Sc where
 q:Qu
 path:List Dc
 lems:List Lm
def ratE:El Rat:=⟨fun x=>qL x,3,fun _=>rfl,fun _=>rfl⟩
def muE:El Mu:=⟨fun m=>[Leaf.val (.int .i64 m.r.kind),Leaf.val (.int .i64 m.r.idx),Leaf.val (.int .i64 m.r.lo),Leaf.val (.int .i64 m.r.hi),Leaf.val (.bool m.c.neg),zaf m.c.n,zaf m.c.d],7,fun _=>rfl,fun _=>rfl⟩
def lmE:El Lm:=⟨fun m=>[Leaf.val (.int .i64 m.unit),Leaf.val (.bool m.up),Leaf.val (.bool m.v.neg),zaf m.v.n,zaf m.v.d,muE.row m.pf],6,fun _=>rfl,fun _=>rfl⟩
def dcE:El Dc:=⟨fun d=>[Leaf.val (.int .i64 (d.kind:Int)),Leaf.val (.int .i64 (d.idx:Int)),Leaf.val (.bool (zaP d.pt)),zaf (zaa (zav d.pt)),zaf (zaa (zaz d.pt))],5,fun _=>rfl,fun _=>rfl⟩
@[reducible] def grV(g:Gr):V:=V.agg [Leaf.val (.int .i64 (g.inp:Int)),afE.row g.us,afE.row g.os]
@[reducible] def rgV(r:Rg):V:=V.agg [ratE.row r.lo,ratE.row r.hi,afE.row r.rows]
@[reducible] def quV(q:Qu):V:=V.agg [Leaf.val (.int .i64 (q.g.inp:Int)),afE.row q.g.us,afE.row q.g.os,ratE.row q.r.lo,ratE.row q.r.hi,afE.row q.r.rows,tmE.row q.goal.ts,Leaf.val (.bool (zaP q.goal.c)),zaf (zaa (zav q.goal.c)),zaf (zaa (zaz q.goal.c))]
@[reducible] def scV(s:Sc):V:=V.agg [Leaf.val (.int .i64 (s.q.g.inp:Int)),afE.row s.q.g.us,afE.row s.q.g.os,ratE.row s.q.r.lo,ratE.row s.q.r.hi,afE.row s.q.r.rows,tmE.row s.q.goal.ts,Leaf.val (.bool (zaP s.q.goal.c)),zaf (zaa (zav s.q.goal.c)),zaf (zaa (zaz s.q.goal.c)),dcE.row s.path,lmE.row s.lems]
@[reducible] def quL(q:Qu):List Leaf:=[Leaf.val (.int .i64 (q.g.inp:Int)),afE.row q.g.us,afE.row q.g.os,ratE.row q.r.lo,ratE.row q.r.hi,afE.row q.r.rows,tmE.row q.goal.ts,Leaf.val (.bool (zaP q.goal.c)),zaf (zaa (zav q.goal.c)),zaf (zaa (zaz q.goal.c))]
@[reducible] def scL(s:Sc):List Leaf:=[Leaf.val (.int .i64 (s.q.g.inp:Int)),afE.row s.q.g.us,afE.row s.q.g.os,ratE.row s.q.r.lo,ratE.row s.q.r.hi,afE.row s.q.r.rows,tmE.row s.q.goal.ts,Leaf.val (.bool (zaP s.q.goal.c)),zaf (zaa (zav s.q.goal.c)),zaf (zaa (zaz s.q.goal.c)),dcE.row s.path,lmE.row s.lems]
@[reducible] def scZ:List Leaf:=[Leaf.val (.int .i64 0),afE.row [],afE.row [],ratE.row [],ratE.row [],afE.row [],tmE.row [],Leaf.val (.bool false),zaf [],zaf [],dcE.row [],lmE.row []]
@[reducible] def rwV(r:Rw):V:=V.agg [Leaf.val (.int .i64 r.kind),Leaf.val (.int .i64 r.idx),Leaf.val (.int .i64 r.lo),Leaf.val (.int .i64 r.hi)]
@[reducible] def dcV(d:Dc):V:=V.agg [Leaf.val (.int .i64 (d.kind:Int)),Leaf.val (.int .i64 (d.idx:Int)),Leaf.val (.bool (zaP d.pt)),zaf (zaa (zav d.pt)),zaf (zaa (zaz d.pt))]
@[reducible] def muV(m:Mu):V:=V.agg [Leaf.val (.int .i64 m.r.kind),Leaf.val (.int .i64 m.r.idx),Leaf.val (.int .i64 m.r.lo),Leaf.val (.int .i64 m.r.hi),Leaf.val (.bool m.c.neg),zaf m.c.n,zaf m.c.d]
@[reducible] def lmV(m:Lm):V:=V.agg [Leaf.val (.int .i64 m.unit),Leaf.val (.bool m.up),Leaf.val (.bool m.v.neg),zaf m.v.n,zaf m.v.d,muE.row m.pf]
class Hb (r:Rat) (n:outParam Nat):Prop where
 num:r.num.natAbs<2^n
 den:r.den<=2^n
theorem Hb.mono{r:Rat}{n m:Nat}(h:Hb r n)(hn:n<=m):Hb r m:=
 ⟨zFq h.num (zFu (by decide) hn),zFr h.den (zFu (by decide) hn)⟩
theorem zvb(n:Nat):2^n<=4294967296^n:=Nat.pow_le_pow_left (by decide) n
theorem Hb.br{r:Rat}{n:Nat}(h:Hb r n):Br r (n+1):=by
 have h1:=zvb n;have h2:4294967296^n<4294967296^(n+1):=zFN (by decide) (by omega);have h3:=h.num;have h4:=h.den;exact Br.of (by omega) (by omega)
theorem Hb.rq{b:Bool}{n d k:Nat}(h1:n<2^k)(h2:dn d<=2^k):Hb (rq b n d) k:=
 ⟨by have:=zjb b n d;unfold zav at this;rw[this];exact zFI (Nat.div_le_self _ _) h1,by rw[zmu];exact zFr (Nat.div_le_self _ _) h2⟩
instance Hb.mul{r s:Rat}{i j:Nat}[hr:Hb r i][hs:Hb s j]:Hb (r*s) (i+j):=by
 rw[<-zkz r,<-zkz s,<-zge,zc2 (Nat.ne_of_gt r.den_pos),zc2 (Nat.ne_of_gt s.den_pos)];refine Hb.rq ?_ ?_
 .rw[zFB];exact Nat.mul_lt_mul'' hr.num hs.num
 .rw[zc2 (Nat.mul_ne_zero (Nat.ne_of_gt r.den_pos) (Nat.ne_of_gt s.den_pos)),zFB];exact Nat.mul_le_mul hr.den hs.den
theorem znm(a b:Bool)(m n:Nat):(sgn a m+sgn b n).natAbs<=m+n:=by cases a <;> cases b <;> simp[sgn] <;> omega
instance Hb.add{r s:Rat}{i j:Nat}[hr:Hb r i][hs:Hb s j]:Hb (r+s) (i+j+1):=by
 rw[<-zkz r,<-zkz s,<-zoy _ _ _ _ _ _ _ rfl,zc2 (Nat.ne_of_gt r.den_pos),zc2 (Nat.ne_of_gt s.den_pos)];refine Hb.rq ?_ ?_
 .refine zFI (znm _ _ _ _) ?_;have h1:zav r*s.den<2^(i+j):=by
   rw[zFB];exact Nat.mul_lt_mul_of_lt_of_le hr.num hs.den (Nat.pow_pos (by decide))
  have h2:zav s*r.den<2^(i+j):=by
   rw[zFB,zFM (2^i)];exact Nat.mul_lt_mul_of_lt_of_le hs.num hr.den (Nat.pow_pos (by decide))
  rw[zFA];omega
 .rw[zc2 (Nat.mul_ne_zero (Nat.ne_of_gt r.den_pos) (Nat.ne_of_gt s.den_pos))];refine zFr (?_:_<=2^(i+j)) (zFu (by decide) (by omega));rw[zFB];exact Nat.mul_le_mul hr.den hs.den
instance Hb.neg{r:Rat}{i:Nat}[hr:Hb r i]:Hb (-r) i:=⟨by rw[show(-r).num = -r.num from rfl,Int.natAbs_neg];exact hr.num,hr.den⟩
instance Hb.sub{r s:Rat}{i j:Nat}[hr:Hb r i][hs:Hb s j]:Hb (r-s) (i+j+1):=by
 rw[Rat.sub_eq_add_neg];exact Hb.add
instance Hb.abs{r:Rat}{i:Nat}[hr:Hb r i]:Hb (Rc.rq false (zav r) (zaz r)) i:=
 Hb.rq hr.num (by rw[zi9];exact hr.den)
instance Br.abs{r:Rat}{i:Nat}[hr:Br r i]:Br (Rc.rq false (zav r) (zaz r)) (i+1):=by
 have h1:=hr.num;have h2:=hr.den;have h3:4294967296^i<4294967296^(i+1):=zFN (by decide) (by omega);refine Br.rq (by omega) ?_;unfold zaz;split <;> omega
theorem Hb.zero:Hb 0 0:=⟨by decide,by decide⟩
theorem Hb.int{z:Int}{n:Nat}(h:z.natAbs<2^n):Hb (z:Rat) n:=⟨by rw[Rat.num_intCast];exact h,by rw[Rat.den_intCast];exact Nat.one_le_two_pow⟩
theorem zyA(z:Int):rq (decide (z<0)) z.natAbs 1=(z:Rat):=by
 have h:=zox (decide (z<0)) false z.natAbs 1 (by omega);rw[zdn] at h;have h1:(z:Rat)/((1:Int):Rat)=z:=by grind
 rw[<-h1];simpa[sgn] using h
theorem zeq(r:Rat):0<=rq false (zav r) (zaz r):=by
 have h:=zgV false (zav r) (zaz r);have h2:¬sgn false (zav r)<0:=by simp[sgn]
 exact Rat.not_lt.1 (fun e=>h2 (h.1 e))
theorem zpy(r:Rat):rq false (zav r) (zaz r)=if r<0 then -r else r:=by
 have h:=zhR r;split
 .rename_i hr;have hn:zaP r=true:=by unfold zaP;exact decide_eq_true (Int.not_le.1 (fun e=>Rat.not_le.2 hr (Rat.num_nonneg.1 e)))
  rw[hn] at h;rw[show(false:Bool) = !true from rfl,zrL,h]
 .rename_i hr;have hn:zaP r=false:=by unfold zaP;exact decide_eq_false (Int.not_lt.2 (Rat.num_nonneg.2 (Rat.not_lt.1 hr)))
  rw[hn] at h;exact h
instance numq_hb(l:List Nat)(k:Nat):Hb (zfG l k) 3:=by
 unfold zfG;have h9:nx l k 9<9:=zda (by decide);have hd:=zsh (nx l (nk l k) 4);have e1:(((((nx l k 9:Nat):Int)-4:Int)):Rat)/((((nd (nx l (nk l k) 4):Nat):Int)):Rat)=rq (decide (((nx l k 9:Nat):Int)-4<0)) (((nx l k 9:Nat):Int)-4).natAbs (nd (nx l (nk l k) 4)):=by
  have h:=zox (decide (((nx l k 9:Nat):Int)-4<0)) false (((nx l k 9:Nat):Int)-4).natAbs (nd (nx l (nk l k) 4)) (by omega);rw[zdn] at h;simpa[sgn] using h.symm
 rw[e1];exact Hb.rq (by omega) (by rw[zc2 (by omega)];omega)
structure FOk(b n:Nat)(f:Af):Prop where
 can:CanT f.ts
 bd:∀t∈f.ts,Hb t.2 b
 cb:Hb f.c b
 var:∀t∈f.ts,t.1<n
theorem FOk.mono{b c n m:Nat}{f:Af}(h:FOk b n f)(h1:b<=c)(h2:n<=m):FOk c m f:=
 ⟨h.can,fun t ht=>(h.bd t ht).mono h1,h.cb.mono h1,fun t ht=>zFq (h.var t ht) h2⟩
theorem zlb:∀{ts:List Tm} {a n:Nat},CanT ts->(∀t∈ts,a<=t.1/\t.1<n)->ts.length<=n-a
 |[],a,n,_,_=>zFn _
 |(w,d)::ts,a,n,h,hv=>by
  obtain⟨h1,h2,h3⟩:=h;have h4:=hv (w,d) (by simp);have:=zlb (a:=w+1) (n:=n) h3 (fun t ht=>⟨h2 t ht,(hv t (by simp[ht])).2⟩);simp only[List.length_cons];simp at h4;omega
theorem FOk.len{b n:Nat}{f:Af}(h:FOk b n f):f.ts.length<=n:=by
 have:=zlb (a:=0) h.can (fun t ht=>⟨zFn _,h.var t ht⟩);omega
theorem FOk.fm{b n:Nat}{f:Af}(h:FOk b n f)(hn:n<=1000000):Fm f.ts (b+1) n:=
 ⟨h.can,fun t ht=>(h.bd t ht).br,h.len,fun t ht=>zFq (h.var t ht) hn⟩
theorem FOk.br{b n:Nat}{f:Af}(h:FOk b n f):Br f.c (b+1):=h.cb.br
theorem zwj{ts:List Tm}{v:Nat}{c:Rat}(h:∀t∈ts,t.1<v):zd7 ts v c=ts++(if c=0 then[] else[(v,c)]):=by
 have:=zjk (a:=ts) (b:=[]) (v:=v) (c:=c) h;rw[zFF] at this;exact this
theorem sum1{ts:List Tm}{v:Nat}{c:Rat}(h:∀t∈ts,t.1<v):zgQ ts (scT [(v,((1:Int):Rat))] c)=ts++(if c=0 then[] else[(v,c)]):=by
 have e:scT [(v,((1:Int):Rat))] c=if c=0 then[] else[(v,c)]:=by
  show nz [] (v,((1:Int):Rat)*c)=_;have h1:((1:Int):Rat)*c=c:=by simp[Rat.one_mul]
  rw[h1];by_cases h0:c=0
  .rw[zhn h0,if_pos h0]
  .rw[zeY h0,if_neg h0];rfl
 rw[e];by_cases h0:c=0
 .rw[if_pos h0,zFF];rfl
 .rw[if_neg h0];show zd7 ts v c=_;rw[zwj h,if_neg h0]
theorem zmB:∀{ts:List Tm} {v:Nat} {c:Rat},CanT ts->(∀t∈ts,t.1<v)->c≠0->CanT (ts++[(v,c)])
 |[],v,c,_,_,h=>⟨h,fun t ht=>by simp at ht,trivial⟩
 |(w,d)::ts,v,c,h,hv,hc=>by
  refine⟨h.1,fun t ht=>?_,zmB h.2.2 (fun t ht=>hv t (by simp[ht])) hc⟩;rcases zFC.1 ht with ht|ht
  .exact h.2.1 t ht
  .simp at ht;subst ht;exact hv (w,d) (by simp)
theorem ze2(l:List Nat)(k:Nat):∀n,FOk 3 n (zaA l k n).1
 |0=>⟨trivial,fun t ht=>by simp[zaA] at ht,numq_hb l k,fun t ht=>by simp[zaA] at ht⟩
 |n+1=>by
  have h:=ze2 l k n;rw[zfq];unfold zvy;split
  .refine⟨?_,?_,?_,?_⟩ <;> simp only[] <;> try rw[sum1 h.var]
   .split
    .rw[zFF];exact h.can
    .rename_i h0;exact zmB h.can h.var h0
   .intro t ht;rcases zFC.1 ht with ht|ht
    .exact h.bd t ht
    .split at ht
     .simp at ht
     .simp at ht;subst ht;exact numq_hb _ _
   .rw[Rat.zero_mul,Rat.add_zero];exact h.cb
   .intro t ht;rcases zFC.1 ht with ht|ht
    .have:=h.var t ht;omega
    .split at ht
     .simp at ht
     .simp at ht;subst ht;simp
  .exact h.mono (zFl _) (by omega)
theorem zo3{l:List Nat}{k n:Nat}(hk:k<=l.length)(hn:n<=1000000):(zaA l k n).2<=l.length:=(zkQ l k hk n hn).2.2
def zbL(l:List Nat)(f:Nat->Nat)(k n:Nat):List Af×Nat:=(List.range n).foldl (fun s j=>(s.1++[(zaA l s.2 (f j)).1],(zaA l s.2 (f j)).2)) ([],k)
theorem zcQ(l:List Nat)(f:Nat->Nat)(k n:Nat):zbL l f k (n+1)=((zbL l f k n).1++[(zaA l (zbL l f k n).2 (f n)).1],(zaA l (zbL l f k n).2 (f n)).2):=by
 unfold zbL;rw[List.range_succ,zFJ];rfl
theorem zbK(l:List Nat)(f:Nat->Nat)(k:Nat):∀n,(zbL l f k n).1.length=n
 |0=>rfl
 |n+1=>by rw[zcQ];simp[zbK l f k n]
theorem zc1{l:List Nat}{f:Nat->Nat}{k:Nat}(hk:k<=l.length)(hf:∀j,f j<=1000000\/True)(hf2:∀j,j<100->f j<=1000000):∀n,n<=100->(zbL l f k n).2<=l.length
 |0,_=>hk
 |n+1,hn=>by rw[zcQ];exact zo3 (zc1 hk hf hf2 n (by omega)) (hf2 n (by omega))
theorem zfp(l:List Nat)(f:Nat->Nat)(k:Nat):∀(n j:Nat) (x:Af),(zbL l f k n).1[j]?=some x->FOk 3 (f j) x
 |0,j,x,h=>by simp[zbL] at h
 |n+1,j,x,h=>by
  rw[zcQ] at h;by_cases hj:j<(zbL l f k n).1.length
  .rw[zFp hj] at h;exact zfp l f k n j x h
  .rw[List.getElem?_append_right (by omega),zbK] at h;have h1:j-n=0:=by have:=(zFj.1 h).1;simp at this;omega
   rw[zbK] at hj;have h2:j=n:=by omega
   rw[h1] at h;simp at h;rw[<-h,h2];exact ze2 _ _ _
theorem zfW{α:Type}{l:List α}{x:α}(h:x∈l):∃j:Nat,l[j]?=some x:=List.getElem?_of_mem h
def zbN(l:List Nat)(k:Nat):Gr×Nat:=
 (⟨1+nx l k 3,(zbL l (fun j=>1+nx l k 3+j) (nk l (nk l (nk l k))) (nx l (nk l k) 5)).1,
  (zbL l (fun _=>1+nx l k 3+nx l (nk l k) 5) (zbL l (fun j=>1+nx l k 3+j) (nk l (nk l (nk l k))) (nx l (nk l k) 5)).2 (1+nx l (nk l (nk l k)) 3)).1⟩,
  (zbL l (fun _=>1+nx l k 3+nx l (nk l k) 5) (zbL l (fun j=>1+nx l k 3+j) (nk l (nk l (nk l k))) (nx l (nk l k) 5)).2 (1+nx l (nk l (nk l k)) 3)).2)
def zv3(l:List Nat)(s:(List Rat×List Rat)×Nat):(List Rat×List Rat)×Nat:=
 ((s.1.1++[zfG l s.2],s.1.2++[zfG l s.2+rq false (zav (zfG l (nk l (nk l s.2)))) (zaz (zfG l (nk l (nk l s.2))))]),nk l (nk l (nk l (nk l s.2))))
def zle(l:List Nat)(k n:Nat):(List Rat×List Rat)×Nat:=(List.range n).foldl (fun s _=>zv3 l s) (([],[]),k)
theorem zgw(l:List Nat)(k n:Nat):zle l k (n+1)=zv3 l (zle l k n):=by
 unfold zle;rw[List.range_succ,zFJ];rfl
theorem zgx(l:List Nat)(k:Nat):∀n,(zle l k n).1.1.length=n/\(zle l k n).1.2.length=n
 |0=>⟨rfl,rfl⟩
 |n+1=>by rw[zgw];unfold zv3;simp[zgx l k n]
theorem zld{l:List Nat}{k:Nat}(hk:k<=l.length):∀n,(zle l k n).2<=l.length
 |0=>hk
 |n+1=>by rw[zgw];exact za3 (za3 (za3 (za3 (zld hk n))))
theorem zpn(l:List Nat)(k:Nat):∀(n j:Nat) (x y:Rat),(zle l k n).1.1[j]?=some x->(zle l k n).1.2[j]?=some y->Hb x 3/\Hb y 7/\x<=y
 |0,j,x,y,h,_=>by simp[zle] at h
 |n+1,j,x,y,h,h'=>by
  rw[zgw] at h h';unfold zv3 at h h';simp only[] at h h';obtain⟨e1,e2⟩:=zgx l k n;by_cases hj:j<n
  .rw[zFp (by omega)] at h h';exact zpn l k n j x y h h'
  .rw[List.getElem?_append_right (by omega)] at h h';have h1:j-n=0:=by have:=(zFj.1 h).1;simp at this;omega
   rw[e1,h1] at h;rw[e2,h1] at h';simp at h h';subst h;subst h';refine⟨numq_hb _ _,Hb.add.mono (by omega),?_⟩;have:=zeq (zfG l (nk l (nk l (zle l k n).2)));grind
def zuq(l:List Nat)(k inp:Nat):Rg×Nat:=
 (⟨(zle l k inp).1.1,(zle l k inp).1.2,(zbL l (fun _=>inp) (nk l (zle l k inp).2) (nx l (zle l k inp).2 3)).1⟩,
  (zbL l (fun _=>inp) (nk l (zle l k inp).2) (nx l (zle l k inp).2 3)).2)
def zaw(l:List Nat)(k:Nat):Qu×Nat:=
 (⟨(zbN l k).1,(zuq l (zbN l k).2 (zbN l k).1.inp).1,(zaA l (zuq l (zbN l k).2 (zbN l k).1.inp).2 ((zbN l k).1.inp+(zbN l k).1.us.length)).1⟩,
  (zaA l (zuq l (zbN l k).2 (zbN l k).1.inp).2 ((zbN l k).1.inp+(zbN l k).1.us.length)).2)
structure GOk(g:Gr):Prop where
 i1:1<=g.inp
 i3:g.inp<=3
 u4:g.us.length<=4
 o1:1<=g.os.length
 o3:g.os.length<=3
 us:∀(j:Nat) (x:Af),g.us[j]?=some x->FOk 3 (g.inp+j) x
 os:∀x∈g.os,FOk 3 (g.inp+g.us.length) x
structure ROk(n:Nat)(r:Rg):Prop where
 lo:r.lo.length=n
 hi:r.hi.length=n
 r2:r.rows.length<=2
 bd:∀(j:Nat) (x y:Rat),r.lo[j]?=some x->r.hi[j]?=some y->Hb x 3/\Hb y 7/\x<=y
 rows:∀x∈r.rows,FOk 3 n x
structure QOk(q:Qu):Prop where
 g:GOk q.g
 r:ROk q.g.inp q.r
 goal:FOk 3 (q.g.inp+q.g.us.length) q.goal
theorem zi2(l:List Nat)(k:Nat):GOk (zbN l k).1:=by
 have h1:nx l k 3<3:=zda (by decide);have h2:nx l (nk l k) 5<5:=zda (by decide);have h3:nx l (nk l (nk l k)) 3<3:=zda (by decide);refine⟨?_,?_,?_,?_,?_,fun j x h=>zfp _ _ _ _ _ _ h,fun x hx=>?_⟩
 .show 1<=1+nx l k 3;omega
 .show 1+nx l k 3<=3;omega
 .show(zbL _ _ _ _).1.length<=4;rw[zbK];omega
 .show 1<=(zbL _ _ _ _).1.length;rw[zbK];omega
 .show(zbL _ _ _ _).1.length<=3;rw[zbK];omega
 .obtain⟨j,hj⟩:=zfW hx;have:=zfp _ _ _ _ _ _ hj;show FOk 3 (1+nx l k 3+(zbL _ _ _ _).1.length) x;rw[zbK];exact this
theorem zmk{l:List Nat}{k:Nat}(hk:k<=l.length):(zbN l k).2<=l.length:=by
 have h1:nx l k 3<3:=zda (by decide);have h2:nx l (nk l k) 5<5:=zda (by decide);have h3:nx l (nk l (nk l k)) 3<3:=zda (by decide);exact zc1 (zc1 (za3 (za3 (za3 hk))) (fun _=>.inr trivial) (fun j hj=>by omega) _ (by omega)) (fun _=>.inr trivial) (fun j hj=>by omega) _ (by omega)
theorem zyC(l:List Nat)(k n:Nat):ROk n (zuq l k n).1:=by
 have h3:nx l (zle l k n).2 3<3:=zda (by decide);refine⟨(zgx l k n).1,(zgx l k n).2,?_,zpn l k n,fun x hx=>?_⟩
 .show(zbL _ _ _ _).1.length<=2;rw[zbK];omega
 .obtain⟨j,hj⟩:=zfW hx;exact zfp _ _ _ _ _ _ hj
theorem zrY{l:List Nat}{k n:Nat}(hk:k<=l.length)(hn:n<=1000):(zuq l k n).2<=l.length:=by
 have h3:nx l (zle l k n).2 3<3:=zda (by decide);exact zc1 (za3 (zld hk n)) (fun _=>.inr trivial) (fun j hj=>by omega) _ (by omega)
theorem ziG(l:List Nat)(k:Nat):QOk (zaw l k).1:=⟨zi2 l k,zyC l _ _,ze2 l _ _⟩
theorem ziH{l:List Nat}{k:Nat}(hk:k<=l.length):(zaw l k).2<=l.length:=by
 have h:=zi2 l k;exact zo3 (zrY (zmk hk) (by have:=h.i3;omega)) (by have:=h.i3;have:=h.u4;omega)
end Rc

namespace Go.Proofs.YtjeiacoegppoiaaGreatDoor
open Go Go.RowKit Rc
theorem zqd(l:List Nat)(k:Nat)(hl:l.length<=1000000)(hk:k<=l.length)(hb:∀x∈l,x<256):CtrP Tryz.prog 205 158 [El.row u8E l,Leaf.val (.int .i64 (k:Int))] [El.row u8E l,Leaf.val (.int .i64 (((zbN l k).2:Nat):Int))] [] (R.one (grV (zbN l k).1)):=by
 refine CtrP.of_body Tryz.func205 rfl Tryz.ntmps205 (zFo rfl) (fun w0 A0 bk hX=>?_);refine qc_ ?_;have h1:nx l k 3<3:=zda (by decide);have h2:nx l (nk l k) 5<5:=zda (by decide);have h3:nx l (nk l (nk l k)) 3<3:=zda (by decide);have hk1:=za3 hk;have hk2:=za3 hk1;have hk3:=za3 hk2;refine zc 2 rfl (te_ rfl (zdZ (n:=1) rfl tx28 rfl) (zl 5 rfl (te_ rfl (zaD rfl zhH rfl rfl rfl rfl (zbU l k 3 (by first|decide|omega) (by first|decide|omega) hl (by first|assumption|exact za3 (by assumption)) hb)) (tq_ rfl (jad (1+nx l k 3) rfl) (tq_ rfl (zeG rfl tx28 rfl pl28 rfl) (te_ rfl (zdZ (n:=2) rfl tx28 rfl) (zl 6 rfl ?_)))))));refine te_ rfl (zaD rfl zhH rfl rfl rfl rfl (zbU l (nk l k) 5 (by first|decide|omega) (by first|decide|omega) hl (by first|assumption|exact za3 (by assumption)) hb)) (zl 1 rfl ?_);refine te_ rfl (zaD rfl zhH rfl rfl rfl rfl (zbU l (nk l (nk l k)) 3 (by first|decide|omega) (by first|decide|omega) hl (by first|assumption|exact za3 (by assumption)) hb)) (tq_ rfl (jad (1+nx l (nk l (nk l k)) 3) rfl) (zl 6 rfl ?_));refine zcW 2 38 4 (ls':=[Leaf.val (.int .i64 ((1+nx l k 3:Nat):Int)),Leaf.own 3 0,Leaf.val (.slice none 0 0)]) rfl rfl rfl ⟨.inl rfl,.inr ⟨rfl,rfl⟩,.inl rfl,trivial⟩ (zc 5 rfl ?_);refine zbo (fun m Γ H=>∃(i:Nat) (n:Nat) (out:List Af) (q:Nat),(nx l (nk l k) 5)-i=m/\Γ=[(0,some (D.ptr 0 0)),(2,some (D.ptr 1 0)),(3,some (D.ptr 2 0)),(4,some (D.val (.int .i64 ((nx l (nk l k) 5:Nat):Int)))),(5,some (D.val (.int .i64 ((1+nx l (nk l (nk l k)) 3:Nat):Int)))),(6,some (D.val (.int .i64 (i:Int))))]/\H=[hbq 158 [El.row u8E l,Leaf.val (.int .i64 (q:Int))] bk,hb_ 28 [Leaf.val (.int .i64 0),Leaf.val (.slice none 0 0),Leaf.val (.slice none 0 0)],hb_ 28 [Leaf.val (.int .i64 (((1+nx l k 3):Nat):Int)),Leaf.own 3 n,Leaf.val (.slice none 0 0)],hgr 38 4 afE out n]/\i<=(nx l (nk l k) 5)/\(out,q)=zbL l (fun j=>1+nx l k 3+j) (nk l (nk l (nk l k))) i) ⟨0,0,[],_,rfl,rfl,rfl,zFn _,rfl⟩ rfl ?_;rintro m Γ H ⟨i,n,out,q,rfl,rfl,rfl,hi0,hs⟩;refine zc 5 rfl ?_;by_cases hi:i<(nx l (nk l k) 5)
 .refine tq_ rfl (ltT rfl) (zl 7 rfl ?_);have hol:=congrArg (fun p=>p.1.length) hs;simp only[zbK] at hol;have hq:q<=l.length:=by have:=zc1 (l:=l) (f:=(fun j=>1+nx l k 3+j)) (k:=(nk l (nk l (nk l k)))) (za3 (za3 (za3 hk))) (fun _=>.inr trivial) (fun j hj=>by omega) i (by omega);rw[<-hs] at this;exact this
  refine dr_ 0 [(7,0),(9,3),(11,2)] [0,3,2] (dz 1 rfl (kp_ [0,3] rfl (jld rfl) (dz 2 rfl (kp_ [0,3] rfl (jld rfl) (dz 1 rfl (kq_ rfl (jad (1+nx l k 3+i) rfl) (ki_ 0 rfl (zdG rfl zDB rfl rfl rfl rfl (ze3 l q (1+nx l k 3+i) (by omega) hl (by assumption) hb)) ?_)))))));refine ke_ rfl (fun _=>zad rfl zBe zkr zBg rfl (by decide) (by decide) rfl (by decide) rfl) (ki_ 3 rfl (dap (e:=afE) (⟨(zaA l q (1+nx l k 3+i)).1.ts,(zaA l q (1+nx l k 3+i)).1.c⟩) rfl rfl) (dz 2 rfl (zae (za 4 rfl (tq_ rfl (jad (i+1) rfl) (zl 2 rfl ?_))))));exact nx_ ⟨i+1,_,_,_,rfl,rfl,rfl,hi,by rw[zcQ,<-hs]⟩ rfl
 .refine tq_ rfl (ltF rfl) (zl 10 rfl ?_);have hie:i=(nx l (nk l k) 5):=by omega
  subst hie;refine zcW 2 38 4 (ls':=[Leaf.val (.int .i64 (((1+nx l k 3):Nat):Int)),Leaf.own 3 n,Leaf.own 4 0]) rfl rfl rfl ⟨.inl rfl,.inl rfl,.inr ⟨rfl,rfl⟩,trivial⟩ (zc 5 rfl ?_);refine zbo (fun m Γ H=>∃(i:Nat) (n2:Nat) (out2:List Af) (q2:Nat),(1+nx l (nk l (nk l k)) 3)-i=m/\Γ=[(0,some (D.ptr 0 0)),(2,some (D.ptr 1 0)),(3,some (D.ptr 2 0)),(4,some (D.val (.int .i64 ((nx l (nk l k) 5:Nat):Int)))),(5,some (D.val (.int .i64 ((1+nx l (nk l (nk l k)) 3:Nat):Int)))),(7,some (D.val (.int .i64 (i:Int))))]/\H=[hbq 158 [El.row u8E l,Leaf.val (.int .i64 (q2:Int))] bk,hb_ 28 [Leaf.val (.int .i64 0),Leaf.val (.slice none 0 0),Leaf.val (.slice none 0 0)],hb_ 28 [Leaf.val (.int .i64 (((1+nx l k 3):Nat):Int)),Leaf.own 3 n,Leaf.own 4 n2],hgr 38 4 afE out n,hgr 38 4 afE out2 n2]/\i<=(1+nx l (nk l (nk l k)) 3)/\(out2,q2)=zbL l (fun _=>1+nx l k 3+(nx l (nk l k) 5)) (zbL l (fun j=>1+nx l k 3+j) (nk l (nk l (nk l k))) (nx l (nk l k) 5)).2 i) ⟨0,0,[],_,rfl,rfl,rfl,zFn _,(by rw[<-hs];rfl)⟩ rfl ?_;rintro m Γ H ⟨i,n2,out2,q2,rfl,rfl,rfl,hj0,hs2⟩;refine zc 5 rfl ?_;by_cases hj:i<(1+nx l (nk l (nk l k)) 3)
  .refine tq_ rfl (ltT rfl) (zl 7 rfl ?_);have hol2:=congrArg (fun p=>p.1.length) hs2;simp only[zbK] at hol2;have hq2:q2<=l.length:=by have:=zc1 (l:=l) (f:=(fun _=>1+nx l k 3+(nx l (nk l k) 5))) (k:=(zbL l (fun j=>1+nx l k 3+j) (nk l (nk l (nk l k))) (nx l (nk l k) 5)).2) (zc1 (za3 (za3 (za3 hk))) (fun _=>.inr trivial) (fun j hj=>by omega) _ (by omega)) (fun _=>.inr trivial) (fun j hj=>by omega) i (by omega);rw[<-hs2] at this;exact this
   refine dr_ 0 [(7,0),(9,4),(11,2)] [0,4,2] (dz 1 rfl (kp_ [0,4] rfl (jld rfl) (dz 2 rfl (kp_ [0,4] rfl (jld rfl) (dz 1 rfl (kq_ rfl (jad ((1+nx l k 3)+(nx l (nk l k) 5)) rfl) (ki_ 0 rfl (zdG rfl zDB rfl rfl rfl rfl (ze3 l q2 ((1+nx l k 3)+(nx l (nk l k) 5)) (by omega) hl (by assumption) hb)) ?_)))))));refine ke_ rfl (fun _=>zad rfl zBe zkr zBg rfl (by decide) (by decide) rfl (by decide) rfl) (ki_ 4 rfl (dap (e:=afE) (⟨(zaA l q2 ((1+nx l k 3)+(nx l (nk l k) 5))).1.ts,(zaA l q2 ((1+nx l k 3)+(nx l (nk l k) 5))).1.c⟩) rfl rfl) (dz 2 rfl (zae (za 4 rfl (tq_ rfl (jad (i+1) rfl) (zl 2 rfl ?_))))));exact nx_ ⟨i+1,_,_,_,rfl,rfl,rfl,hj,by rw[zcQ,<-hs2]⟩ rfl
  .refine tq_ rfl (ltF rfl) (zl 9 rfl ?_);have hie:i=(1+nx l (nk l (nk l k)) 3):=by omega
   subst hie;refine zc 5 rfl (zcD 1 (ls':=[Leaf.val (.int .i64 (((1+nx l k 3):Nat):Int)),El.row afE out,Leaf.own 4 n2]) rfl rfl (RowAt.ofE afE out rfl (by decide)) ⟨.inl rfl,.inr ⟨rfl,rfl⟩,.inl rfl,trivial⟩ ?_);refine zcD 1 (ls':=[Leaf.val (.int .i64 (((1+nx l k 3):Nat):Int)),El.row afE out,El.row afE out2]) rfl rfl (RowAt.ofE afE out2 rfl (by decide)) ⟨.inl rfl,.inl rfl,.inr ⟨rfl,rfl⟩,trivial⟩ ?_;exact zf5 (fun _ _ h=>h) rfl (⟨_,_,rfl,rfl,.inl ⟨ty28,zFo rfl,rfl⟩⟩) (by unfold zbN;rw[<-hs2,<-hs]) rfl (by unfold zbN;rw[<-hs2]) hX
theorem zpP(l:List Nat)(k inp:Nat)(hn:inp<=100)(hl:l.length<=1000000)(hk:k<=l.length)(hb:∀x∈l,x<256):CtrP Tryz.prog 206 158 [El.row u8E l,Leaf.val (.int .i64 (k:Int))] [El.row u8E l,Leaf.val (.int .i64 (((zuq l k inp).2:Nat):Int))] [V.one (Leaf.val (.int .i64 ((inp:Int))))] (R.one (rgV (zuq l k inp).1)):=by
 refine CtrP.of_body Tryz.func206 rfl Tryz.ntmps206 (zFo rfl) (fun w0 A0 bk hX=>?_);refine qc_ (zc 2 rfl (te_ rfl (zdZ (n:=1) rfl tx31 rfl) (zl 4 rfl (te_ rfl (zdZ (n:=2) rfl tx31 rfl) (zl 4 rfl (zcW 2 36 3 (ls':=[Leaf.own 3 0,Leaf.val (.slice none 0 0),Leaf.val (.slice none 0 0)]) rfl rfl rfl ⟨.inr ⟨rfl,rfl⟩,.inl rfl,.inl rfl,trivial⟩ ?_))))));refine zcW 2 36 3 (ls':=[Leaf.own 3 0,Leaf.own 4 0,Leaf.val (.slice none 0 0)]) rfl rfl rfl ⟨.inl rfl,.inr ⟨rfl,rfl⟩,.inl rfl,trivial⟩ (zc 5 rfl ?_);refine zbo (fun m Γ H=>∃(i:Nat) (n1 n2:Nat) (lo up:List Rat) (q:Nat),inp-i=m/\Γ=[(0,some (D.ptr 0 0)),(1,some (D.val (.int .i64 (inp:Int)))),(4,some (D.ptr 1 0)),(5,some (D.ptr 2 0)),(6,some (D.val (.int .i64 (i:Int))))]/\H=[hbq 158 [El.row u8E l,Leaf.val (.int .i64 (q:Int))] bk,hb_ 31 [Leaf.val (.slice none 0 0),Leaf.val (.slice none 0 0),Leaf.val (.slice none 0 0)],hb_ 31 [Leaf.own 3 n1,Leaf.own 4 n2,Leaf.val (.slice none 0 0)],hgr 36 3 ratE lo n1,hgr 36 3 ratE up n2]/\i<=inp/\((lo,up),q)=zle l k i) ⟨0,0,0,[],[],_,rfl,rfl,rfl,zFn _,rfl⟩ rfl ?_;rintro m Γ H ⟨i,n1,n2,lo,up,q,rfl,rfl,rfl,hi0,hs⟩;refine zc 5 rfl ?_;by_cases hi:i<inp
 .refine tq_ rfl (ltT rfl) (zl 8 rfl ?_);obtain⟨e1,e2⟩:=zgx l k i;have hq:=zld hk i;rw[<-hs] at e1 e2 hq;simp only[] at e1 e2 hq;have hq1:=za3 hq;have hq2:=za3 hq1;haveI:=ziL l q;haveI:=ziL l (nk l (nk l q));refine zc 2 rfl (te_ rfl (zaD rfl zBo rfl rfl rfl rfl (zcL l q hl (by first|assumption|exact za3 (by assumption)) hb)) (zl 1 rfl (te_ rfl (zaD rfl zBo rfl rfl rfl rfl (zcL l (nk l (nk l q)) hl (by first|assumption|exact za3 (by assumption)) hb)) (zl 12 rfl (dr_ 0 [(4,3),(11,4),(13,2),(15,2)] [3,4,2] (dz 1 rfl ?_))))));refine kp_ [3,4] rfl (jld rfl) (dz 1 rfl (ke_ rfl (fun _=>zad rfl zun zhM zuo rfl (by decide) (by decide) rfl (by decide) rfl) (ki_ 3 rfl (dap (zfG l q) rfl rfl) (dz 1 rfl (kp_ [3,4] rfl (jld rfl) (dz 2 rfl ?_))))));refine kc_ zqP rfl (zhC (qOf (zfG l q)) (zfG l q) (zah _) (Br.use (by omega)) (Qr.mk false (zaa (zav (zfG l (nk l (nk l q))))) (zaa (zaz (zfG l (nk l (nk l q))))) (zab _) (zab _)) (rq false (zav (zfG l (nk l (nk l q)))) (zaz (zfG l (nk l (nk l q))))) (zp1 (zac _) (zac _)) (Fit.mk (Br.use (r:=zfG l (nk l (nk l q))) (by omega)).n (Br.use (r:=zfG l (nk l (nk l q))) (by omega)).d)) ?_;refine ke_ rfl (fun _=>zad rfl zun zhM zuo rfl (by decide) (by decide) rfl (by decide) rfl) (ki_ 4 rfl (dap ((zfG l q)+(rq false (zav (zfG l (nk l (nk l q)))) (zaz (zfG l (nk l (nk l q)))))) rfl rfl) (dz 4 rfl (zae (za 4 rfl (tq_ rfl (jad (i+1) rfl) (zl 2 rfl (zal 5 (zal 6 (zaJ 5 rfl ?_)))))))));exact nx_ ⟨i+1,_,_,_,_,_,rfl,rfl,rfl,hi,by rw[zgw,<-hs];rfl⟩ rfl
 .refine tq_ rfl (ltF rfl) (zl 10 rfl ?_);have hie:inp=i:=by omega
  subst hie;have hq:=zld hk inp;rw[<-hs] at hq;have hq:q<=l.length:=hq;have hm3:nx l q 3<3:=zda (by decide);have hqk:=za3 hq;refine zcW 2 38 4 (ls':=[Leaf.own 3 n1,Leaf.own 4 n2,Leaf.own 5 0]) rfl rfl rfl ⟨.inl rfl,.inl rfl,.inr ⟨rfl,rfl⟩,trivial⟩ (zc 2 rfl (te_ rfl (zaD rfl zhH rfl rfl rfl rfl (zbU l q 3 (by first|decide|omega) (by first|decide|omega) hl (by first|assumption|exact za3 (by assumption)) hb)) (zl 4 rfl ?_)));refine zbo (fun m Γ H=>∃(i:Nat) (n3:Nat) (out:List Af) (q2:Nat),(nx l q 3)-i=m/\Γ=[(0,some (D.ptr 0 0)),(1,some (D.val (.int .i64 (inp:Int)))),(4,some (D.ptr 1 0)),(5,some (D.ptr 2 0)),(9,some (D.val (.int .i64 ((((nx l q 3)-i):Nat):Int))))]/\H=[hbq 158 [El.row u8E l,Leaf.val (.int .i64 (q2:Int))] bk,hb_ 31 [Leaf.val (.slice none 0 0),Leaf.val (.slice none 0 0),Leaf.val (.slice none 0 0)],hb_ 31 [Leaf.own 3 n1,Leaf.own 4 n2,Leaf.own 5 n3],hgr 36 3 ratE lo n1,hgr 36 3 ratE up n2,hgr 38 4 afE out n3]/\i<=(nx l q 3)/\(out,q2)=zbL l (fun _=>inp) (nk l q) i) ⟨0,0,[],_,rfl,rfl,rfl,zFn _,rfl⟩ rfl ?_;rintro m Γ H ⟨i,n3,out,q2,rfl,rfl,rfl,hj0,hs2⟩;refine zc 4 rfl ?_;by_cases hj:i<(nx l q 3)
  .refine tq_ rfl (gtT rfl) (zl 7 rfl ?_);have hol:=congrArg (fun p=>p.1.length) hs2;simp only[zbK] at hol;have hq2:q2<=l.length:=by have:=zc1 (l:=l) (f:=(fun _=>inp)) (k:=(nk l q)) hqk (fun _=>.inr trivial) (fun j hj=>by omega) i (by omega);rw[<-hs2] at this;exact this
   refine dr_ 0 [(4,0),(6,5),(8,2)] [0,5,2] (dz 1 rfl (kp_ [0,5] rfl (jld rfl) (dz 2 rfl (ki_ 0 rfl (zdG rfl zDB rfl rfl rfl rfl (ze3 l q2 inp (by omega) hl (by assumption) hb)) (ke_ rfl (fun _=>zad rfl zBe zkr zBg rfl (by decide) (by decide) rfl (by decide) rfl) (ki_ 5 rfl (dap (e:=afE) (⟨(zaA l q2 inp).1.ts,(zaA l q2 inp).1.c⟩) rfl rfl) ?_))))));refine dz 2 rfl (zae (za 4 rfl (tq_ rfl (jsb ((nx l q 3)-(i+1)) rfl) (zl 2 rfl ?_))));exact nx_ ⟨i+1,_,_,_,rfl,rfl,rfl,(by omega),by rw[zcQ,<-hs2]⟩ rfl
  .refine tq_ rfl (gtF rfl) (zl 9 rfl ?_);have hie:i=(nx l q 3):=by omega
   subst hie;refine zc 5 rfl (zcD 1 (ls':=[El.row ratE lo,Leaf.own 4 n2,Leaf.own 5 n3]) rfl rfl (RowAt.ofE ratE lo rfl (by decide)) ⟨.inr ⟨rfl,rfl⟩,.inl rfl,.inl rfl,trivial⟩ (zcD 1 (ls':=[El.row ratE lo,El.row ratE up,Leaf.own 5 n3]) rfl rfl (RowAt.ofE ratE up rfl (by decide)) ⟨.inl rfl,.inr ⟨rfl,rfl⟩,.inl rfl,trivial⟩ ?_));refine zcD 1 (ls':=[El.row ratE lo,El.row ratE up,El.row afE out]) rfl rfl (RowAt.ofE afE out rfl (by decide)) ⟨.inl rfl,.inl rfl,.inr ⟨rfl,rfl⟩,trivial⟩ ?_;exact zf5 (fun _ _ h=>h) rfl (⟨_,_,rfl,rfl,.inl ⟨ty31,zFo rfl,rfl⟩⟩) (by unfold zuq;rw[<-hs,<-hs2]) rfl (by unfold zuq;rw[<-hs,<-hs2]) hX
theorem zp0(l:List Nat)(k:Nat)(hl:l.length<=1000000)(hk:k<=l.length)(hb:∀x∈l,x<256):CtrP Tryz.prog 149 158 [El.row u8E l,Leaf.val (.int .i64 (k:Int))] [El.row u8E l,Leaf.val (.int .i64 (((zaw l k).2:Nat):Int))] [] (R.one (quV (zaw l k).1)):=by
 refine CtrP.of_body Tryz.func149 rfl Tryz.ntmps149 (zFo rfl) (fun w0 A0 bk hX=>?_);refine qc_ ?_;have hg:=zi2 l k;have h1:=hg.i1;have h2:=hg.i3;have h3:=hg.u4;have hk1:=zmk hk;have hk2:=zrY (n:=(zbN l k).1.inp) hk1 (by omega);refine zc 8 rfl (te_ rfl (zaD rfl fn205 rfl rfl rfl rfl (zqd l k hl (by assumption) hb)) (zl 9 rfl (te_ rfl (zaD rfl fn206 rfl rfl rfl rfl (zpP l ((zbN l k).2) ((zbN l k).1.inp) (by omega) hl (by assumption) hb)) (zl 5 rfl (dr_ 0 [(9,0),(11,1)] [0,1] (dz 7 rfl (kq_ rfl (jln rfl) ?_)))))));refine kq_ rfl (jad (((zbN l k).1.inp)+(((zbN l k).1.us).length)) rfl) (ki_ 0 rfl (zdG rfl zDB rfl rfl rfl rfl (ze3 l ((zuq l ((zbN l k).2) ((zbN l k).1.inp)).2) (((zbN l k).1.inp)+(((zbN l k).1.us).length)) (by omega) hl (by assumption) hb)) (dz 2 rfl (zae (za 1 rfl ?_))));exact zf5 (fun _ _ h=>h) rfl (⟨_,_,rfl,rfl,.inl ⟨ty40,zFo rfl,rfl⟩⟩) rfl rfl rfl hX
theorem zrx(l:List Af)(vars:Nat){B n:Nat}(hA:∀f∈l,Fm f.ts B n/\Br f.c B)(hB:B<=300000000000)(hn:n<=1000)(hl:l.length<=1000)(hv:vars<=1000000):Ctr Tryz.prog 146 [V.one (El.row afE l),V.one (Leaf.val (.int .i64 ((vars:Int))))] (R.one (V.one (Leaf.val (.bool (decide (∀f∈l,∀t∈f.ts,t.1<vars)))))):=by
 refine bd_ Tryz.func146 Tryz.ntmps146 rfl (fun w0 A0=>?_);refine zc 12 rfl (zbo (fun m Γ H=>∃(i:Nat),l.length-i=m/\Γ=[(0,some (D.v (V.one (El.row afE l)))),(1,some (D.val (.int .i64 (vars:Int)))),(5,some (D.val (.int .i64 (i:Int))))]/\H=[]/\i<=l.length/\∀f∈l.take i,∀t∈f.ts,t.1<vars) ⟨0,rfl,rfl,rfl,zFn _,by simp⟩ rfl ?_);rintro m Γ H ⟨i,rfl,rfl,rfl,hi0,hall⟩;refine zc 5 rfl (tq_ rfl (jln rfl) ?_);by_cases hi:i<l.length
 .refine tq_ rfl (ltT rfl) (zl 8 rfl ?_);obtain⟨x,hx⟩:∃x,l[i]?=some x:=⟨_,zFh hi⟩;obtain⟨hxm,hxc⟩:=hA x (zFi hx);refine zc 3 rfl (tq_ rfl (jix i hx rfl) (tq_ rfl (jlr rfl) (zl 1 rfl (tc_ zBr rfl (zry x vars hxm.can hxm.bd hB (zFr hxm.len hn) hv) (zl 3 rfl ?_)))));refine zap rfl (fun hc18=>?_) (fun hc18=>?_)
  .refine zc 5 rfl ?_;exact r1_ hq_ rfl (by rw[badA hx (by simpa using hc18)])
  .refine zc 5 rfl (tq_ rfl (jad (i+1) rfl) (zl 2 rfl ?_));exact nx_ ⟨i+1,rfl,rfl,rfl,hi,takeA hx hall (by simpa using hc18)⟩ rfl
 .refine tq_ rfl (ltF rfl) (zl 13 rfl ?_);exact r1_ hq_ rfl (by rw[decide_eq_true (show ∀f∈l,∀t∈f.ts,t.1<vars from by rw[show i=l.length by omega,zFE] at hall;exact hall)])
theorem zeS(f:Af){b n:Nat}(h:FOk b n f)(hb:b<=1000000000)(vars:Nat)(hv:n<=vars)(hv2:vars<=1000):Ctr Tryz.prog 31 [afV f,V.one (Leaf.val (.int .i64 ((vars:Int))))] (R.one (V.one (Leaf.val (.bool true)))):=by
 haveI:=h.br;have e:=zry f vars (B:=b+1) h.can (fun t ht=>(h.bd t ht).br) (by omega) (zFr h.len (by omega)) (by omega)
 rwa [decide_eq_true (fun t ht=>zFq (h.var t ht) hv)] at e
theorem zhj(l:List Af){b n:Nat}(h:∀f∈l,FOk b n f)(hb:b<=1000000000)(hl:l.length<=1000)(vars:Nat)(hv:n<=vars)(hv2:vars<=1000):Ctr Tryz.prog 146 [V.one (El.row afE l),V.one (Leaf.val (.int .i64 ((vars:Int))))] (R.one (V.one (Leaf.val (.bool true)))):=by
 have e:=zrx l vars (B:=b+1) (n:=n) (fun f hf=>⟨(h f hf).fm (by omega),(h f hf).br⟩) (by omega) (by omega) hl (by omega)
 rwa [decide_eq_true (fun f hf t ht=>zFq ((h f hf).var t ht) hv)] at e
theorem zjW(l:List Rat){B:Nat}(h:∀x∈l,Br x B)(hB:B<=100000)(hl:l.length<=1000):Ctr Tryz.prog 189 [V.one (El.row ratE l)] (R.one (V.one (Leaf.val (.bool true)))):=by
 refine bd_ Tryz.func189 Tryz.ntmps189 rfl (fun w0 A0=>?_);refine zc 12 rfl (zbo (fun m Γ H=>∃(i:Nat),l.length-i=m/\Γ=[(0,some (D.v (V.one (El.row ratE l)))),(3,some (D.val (.int .i64 (i:Int))))]/\H=[]/\i<=l.length) ⟨0,rfl,rfl,rfl,zFn _⟩ rfl ?_);rintro m Γ H ⟨i,rfl,rfl,rfl,hi0⟩;refine zc 5 rfl (tq_ rfl (jln rfl) ?_);by_cases hi:i<l.length
 .refine tq_ rfl (ltT rfl) (zl 8 rfl ?_);obtain⟨x,hx⟩:∃x,l[i]?=some x:=⟨_,zFh hi⟩;haveI hbx:=h x (zFi hx);refine zc 3 rfl (tq_ rfl (jix i hx rfl) (tq_ rfl (jlr rfl) (tc_ zAa rfl (zfQ (qOf x) x (zah _) (Br.use (by omega))) (is_ true rfl (zek _) (zl 9 rfl (tq_ rfl (jad (i+1) rfl) (zl 2 rfl ?_)))))));exact nx_ ⟨i+1,rfl,rfl,rfl,hi⟩ rfl
 .refine tq_ rfl (ltF rfl) (zl 13 rfl ?_);exact r1_ hq_ rfl rfl
theorem zkO(g:Gr)(hg:GOk g):Ctr Tryz.prog 71 [grV g] (R.one (V.one (Leaf.val (.bool true)))):=by
 refine bd_ Tryz.func71 Tryz.ntmps71 rfl (fun w0 A0=>?_);have h1:=hg.i1;have h2:=hg.i3;have h3:=hg.u4;have h4:=hg.o1;have h5:=hg.o3;refine zc 11 rfl (tq_ rfl (ltF rfl) (zl 3 rfl (tq_ rfl (gtF rfl) (zl 4 rfl (tq_ rfl (jln rfl) (tq_ rfl (gtF rfl) (zl 4 rfl (tq_ rfl (jln rfl) (tq_ rfl (ltF rfl) ?_)))))))));refine zl 4 rfl (tq_ rfl (jln rfl) (tq_ rfl (gtF rfl) (zl 13 rfl (zbo (fun m Γ H=>∃(i:Nat),g.us.length-i=m/\Γ=[(1,some (D.ptr 0 0)),(3,some (D.val (.int .i64 (i:Int))))]/\H=[hb_ 28 [Leaf.val (.int .i64 ((g.inp:Nat):Int)),El.row afE g.us,El.row afE g.os]]/\i<=g.us.length) ⟨0,rfl,rfl,rfl,zFn _⟩ rfl ?_))));rintro m Γ H ⟨i,rfl,rfl,rfl,hi0⟩;refine zc 6 rfl (tq_ rfl (jln rfl) ?_);by_cases hi:i<g.us.length
 .refine tq_ rfl (ltT rfl) (zl 8 rfl ?_);obtain⟨x,hx⟩:∃x,g.us[i]?=some x:=⟨_,zFh hi⟩;have hxo:=hg.us i x hx;refine dr_ 0 [] [] (dz 3 rfl (kq_ rfl (jix i hx rfl) (kq_ rfl (jlr rfl) (dz 3 rfl (kq_ rfl (jad (g.inp+i) rfl) (kc_ zBr rfl (zeS x hxo (by omega) (g.inp+i) (zFl _) (by omega)) (dz 1 rfl (zae (za 7 rfl ?_)))))))));refine tq_ rfl (jad (i+1) rfl) (zl 2 rfl ?_);exact nx_ ⟨i+1,rfl,rfl,rfl,hi⟩ rfl
 .refine tq_ rfl (ltF rfl) (zl 16 rfl (tq_ rfl (jln rfl) (tq_ rfl (jad (g.inp+g.us.length) rfl) (tc_ zD0 rfl (zhj g.os hg.os (by omega) (by omega) (g.inp+g.us.length) (zFl _) (by omega)) (zl 3 rfl ?_)))));exact r1_ hq_ rfl rfl
theorem zlA(g:Gr)(hg:GOk g):Ctr Tryz.prog 47 [grV g] (R.one (V.one (Leaf.val (.int .i64 (((g.inp+g.us.length:Nat):Int)))))):=by
 refine bd_ Tryz.func47 Tryz.ntmps47 rfl (fun w0 A0=>?_);have h1:=hg.i1;have h2:=hg.i3;have h3:=hg.u4;have h4:=hg.o1;have h5:=hg.o3;refine zc 10 rfl (tc_ fn71 rfl (zkO g (by assumption)) (zl 12 rfl (tq_ rfl (jln rfl) (tq_ rfl (jad (g.inp+g.us.length) rfl) (zl 3 rfl ?_)))));exact r1_ hq_ rfl rfl
theorem zlV(r:Rg)(n:Nat)(hr:ROk n r)(hn1:1<=n)(hn3:n<=3):Ctr Tryz.prog 123 [rgV r,V.one (Leaf.val (.int .i64 ((n:Int))))] (R.one (V.one (Leaf.val (.bool true)))):=by
 refine bd_ Tryz.func123 Tryz.ntmps123 rfl (fun w0 A0=>?_);have h1:=hr.lo;have h2:=hr.hi;have h3:=hr.r2;refine zc 10 rfl (tq_ rfl (ltF rfl) (zl 2 rfl (tq_ rfl (gtF rfl) (zl 4 rfl (tq_ rfl (jln rfl) (zl 1 rfl (tq_ rfl (neF rfl) (zl 4 rfl (tq_ rfl (jln rfl) ?_)))))))));refine zl 1 rfl (tq_ rfl (neF rfl) (zl 4 rfl (tq_ rfl (jln rfl) (tq_ rfl (gtF rfl) (zl 11 rfl ?_)))));refine tc_ zDR rfl (zjW r.lo (B:=4) (fun x hx=>by obtain⟨j,hj⟩:=zfW hx;obtain⟨y,hy⟩:∃y,r.hi[j]?=some y:=⟨_,zFh (by have:=(zFj.1 hj).1;omega)⟩;exact(hr.bd j _ _ hj hy).1.br) (by omega) (by omega)) ?_;refine zl 4 rfl ?_;refine tc_ zDR rfl (zjW r.hi (B:=8) (fun x hx=>by obtain⟨j,hj⟩:=zfW hx;obtain⟨y,hy⟩:∃y,r.lo[j]?=some y:=⟨_,zFh (by have:=(zFj.1 hj).1;omega)⟩;exact(hr.bd j _ _ hy hj).2.1.br) (by omega) (by omega)) ?_;refine zl 6 rfl (tc_ zD0 rfl (zhj r.rows hr.rows (by omega) (by omega) n (zFl _) (by omega)) (zl 14 rfl ?_));refine zbo (fun m Γ H=>∃(i:Nat),n-i=m/\Γ=[(1,some (D.val (.int .i64 (n:Int)))),(2,some (D.ptr 0 0)),(5,some (D.val (.int .i64 (i:Int))))]/\H=[hb_ 31 [El.row ratE r.lo,El.row ratE r.hi,El.row afE r.rows]]/\i<=n) ⟨0,rfl,rfl,rfl,zFn _⟩ rfl ?_;rintro m Γ H ⟨i,rfl,rfl,rfl,hi0⟩;refine zc 5 rfl ?_;by_cases hi:i<n
 .refine tq_ rfl (ltT rfl) (zl 8 rfl ?_);obtain⟨x,hx⟩:∃x,r.lo[i]?=some x:=⟨_,zFh (by omega)⟩;obtain⟨y,hy⟩:∃y,r.hi[i]?=some y:=⟨_,zFh (by omega)⟩;obtain⟨hb1,hb2,hxy⟩:=hr.bd i x y hx hy;haveI:=hb1.br;haveI:=hb2.br;refine dr_ 0 [] [] (dz 3 rfl (kq_ rfl (jix i hx rfl) (kq_ rfl (jlr rfl) (dz 3 rfl (kq_ rfl (jix i hy rfl) (kq_ rfl (jlr rfl) (kc_ zo7 rfl (zgd (qOf (x)) (x) (zah _) (Br.use (by omega)) (qOf (y)) (y) (zah _) (Br.use (by omega))) (kq_ rfl (gtF rfl (by have:=zg6.2 hxy;omega)) (zae ?_)))))))));refine za 7 rfl (tq_ rfl (jad (i+1) rfl) (zl 2 rfl ?_));exact nx_ ⟨i+1,rfl,rfl,rfl,hi⟩ rfl
 .refine tq_ rfl (ltF rfl) (zl 13 rfl ?_);exact r1_ hq_ rfl rfl
theorem zdi(q:Qu)(hq:QOk q):Ctr Tryz.prog 56 [quV q] (R.one (V.one (Leaf.val (.bool true)))):=by
 refine bd_ Tryz.func56 Tryz.ntmps56 rfl (fun w0 A0=>?_);have hg:=hq.g;have hr:=hq.r;have h1:=hg.i1;have h2:=hg.i3;have h3:=hg.u4;have h4:=hg.o1;have h5:=hg.o3;refine zc 7 rfl (dr_ 0 [] [] (dz 2 rfl (kc_ fn71 rfl (zkO q.g (by assumption)) (dz 6 rfl (kc_ zD7 rfl (zlV q.r q.g.inp (by assumption) (by omega) (by omega)) (dz 6 rfl (kc_ zDA rfl (zlA q.g (by assumption)) (kc_ zBr rfl (zeS q.goal hq.goal (by omega) (q.g.inp+q.g.us.length) (zFl _) (by omega)) (dz 2 rfl ?_)))))))));refine zae (za 1 rfl ?_);exact r1_ hq_ rfl rfl
theorem iof_z(z:Int)(h1:-9223372036854775808<=z)(h2:z<=9223372036854775807):Ctr Tryz.prog 152 [V.one (Leaf.val (.int .i64 z))] (R.one (zV (zOf z))):=by
 refine bd_ Tryz.func152 Tryz.ntmps152 rfl (fun w0 A0=>?_);refine zc 9 rfl ?_;by_cases hz0:z<0
 .refine tq_ rfl (ltT rfl) (zl 6 rfl (tq_ rfl (jc6 (18446744073709551616-z.natAbs) rfl) (tq_ rfl (zhy rfl rfl (r:=((z.natAbs:Nat):Int)) (zdJ (by omega))) (tc_ zny rfl (zfU z.natAbs (by omega)) (zl 4 rfl ?_)))));exact r1_ hq_ rfl (by show R.one (V.agg [Leaf.val (.bool true),zaf (zaa z.natAbs)])=R.one (V.agg [Leaf.val (.bool (decide (z<0))),zaf (zaa z.natAbs)]);rw[decide_eq_true hz0])
 .refine tq_ rfl (ltF rfl) (zl 8 rfl (tq_ rfl (jc6 z.natAbs rfl) (tc_ zny rfl (zfU z.natAbs (by omega)) (zl 4 rfl ?_))));exact r1_ hq_ rfl (by show R.one (V.agg [Leaf.val (.bool false),zaf (zaa z.natAbs)])=R.one (V.agg [Leaf.val (.bool (decide (z<0))),zaf (zaa z.natAbs)]);rw[decide_eq_false hz0])
theorem zB3(z:Int){B:Nat}[Bz z B](hB:B<=1000):Ctr Tryz.prog 151 [zV (zOf z)] (R.one (qV (qOf (z:Rat)))):=by
 refine bd_ Tryz.func151 Tryz.ntmps151 rfl (fun w0 A0=>?_);refine zc 7 rfl (dr_ 0 [(6,1)] [1] (dz 4 rfl (kc_ zDM rfl (qone) (kc_ zsV rfl (zr8 (decide (z<0)) (zaa (Int.natAbs (z))) [1] (zab _) (Small.cons (by decide) Small.nil) (Bz.use (z:=z) (by omega)) (by simp) (Int.natAbs (z)) (1) (zac _) rfl (by decide)) (dz 1 rfl (zae (za 1 rfl ?_)))))));exact r1_ hq_ rfl (by rw[zyA] <;> rfl)
theorem zgj(z:Int)(h1:-9223372036854775808<=z)(h2:z<=9223372036854775807):Ctr Tryz.prog 86 [V.one (Leaf.val (.int .i64 z))] (R.one (qV (qOf (z:Rat)))):=by
 refine bd_ Tryz.func86 Tryz.ntmps86 rfl (fun w0 A0=>?_);haveI:Bz z 2:=⟨Bn.of_lt (by omega) (by omega)⟩;refine zc 8 rfl (tc_ fn152 rfl (iof_z z (by omega) (by omega)) (tc_ fn151 rfl (zB3 z (by omega)) (zl 3 rfl ?_)));exact r1_ hq_ rfl rfl
theorem zj5(f:Af){b n:Nat}(h:FOk b n f)(hb:b<=1000000000)(vars:Nat)(hv:n<=vars)(hv2:vars<=1000):Ctr Tryz.prog 49 [afV f,V.one (Leaf.val (.int .i64 ((vars:Int))))] (R.one (V.one (Leaf.val (.bool true)))):=by
 refine bd_ Tryz.func49 Tryz.ntmps49 rfl (fun w0 A0=>?_);haveI:=h.br;have hln:=h.len;refine zc 11 rfl (tq_ rfl (jln rfl) (zl 4 rfl ?_));refine zbo (fun m Γ H=>∃(i:Nat),f.ts.length-i=m/\Γ=[(1,some (D.val (.int .i64 (vars:Int)))),(2,some (D.ptr 0 0)),(8,some (D.v (V.one (El.row tmE f.ts)))),(9,some (D.val (.int .i64 ((f.ts.length:Nat):Int)))),(10,some (D.val (.int .i64 (i:Int))))]/\H=[hb_ 38 (afL f)]/\i<=f.ts.length) ⟨0,rfl,rfl,rfl,zFn _⟩ rfl ?_;rintro m Γ H ⟨i,rfl,rfl,rfl,hi0⟩;refine zc 2 rfl ?_;by_cases hi:i<f.ts.length
 .refine tq_ rfl (ltT rfl) (zl 9 rfl ?_);obtain⟨x,hx⟩:∃x,f.ts[i]?=some x:=⟨_,zFh hi⟩;have hxm:=zFi hx;haveI hbx:=(h.bd x hxm).br;obtain⟨hn0,hgt,hlt⟩:=h.can.get hx;have hxv:=h.var x hxm;refine zc 2 rfl (tq_ rfl (jix i hx rfl) (tq_ rfl (jlr rfl) (zl 6 rfl (dr_ 0 [] [] (dz 2 rfl (kq_ rfl (ltF rfl) (dz 4 rfl (kq_ rfl (geF rfl) (dz 3 rfl ?_)))))))));by_cases hi1:0<i
  .refine kq_ rfl (gtT rfl) (dz 4 rfl ?_);obtain⟨y,hy⟩:∃y,f.ts[i-1]?=some y:=⟨_,zFh (by omega)⟩;have hyx:=h.can.prev hi1 hx hy;refine kq_ rfl (jsb (i-1) rfl) (kq_ rfl (jix (i-1) hy rfl) (kq_ rfl (jfr rfl) (kq_ rfl (jli rfl) (dz 2 rfl (kq_ rfl (geF rfl) (dz 5 rfl (kc_ zjF rfl (zd4 (qOf (x.2)) (x.2) (zah _) (Br.use (by omega))) (kq_ rfl (eqF rfl (zio hn0)) (dz 4 rfl ?_)))))))));refine kc_ znA rfl (ziF (qOf (x.2)) (x.2) (zah _) (Br.use (by omega))) (ziX true rfl (zek _) (dz 2 rfl (zae (za 6 rfl (tq_ rfl (jad (i+1) rfl) (zl 2 rfl (zal 1 (zaJ 1 rfl ?_))))))));exact nx_ ⟨i+1,rfl,rfl,rfl,hi⟩ rfl
  .refine kq_ rfl (gtF rfl) (dz 16 rfl (kc_ zjF rfl (zd4 (qOf (x.2)) (x.2) (zah _) (Br.use (by omega))) (kq_ rfl (eqF rfl (zio hn0)) (dz 4 rfl (kc_ znA rfl (ziF (qOf (x.2)) (x.2) (zah _) (Br.use (by omega))) (ziX true rfl (zek _) (dz 2 rfl (zae (za 6 rfl ?_)))))))));refine tq_ rfl (jad (i+1) rfl) (zl 2 rfl (zal 1 (zaJ 1 rfl ?_)));exact nx_ ⟨i+1,rfl,rfl,rfl,hi⟩ rfl
 .refine tq_ rfl (ltF rfl) (zl 13 rfl (tc_ znA rfl (ziF (qOf (f.c)) (f.c) (zah _) (Br.use (by omega))) (is_ true rfl (zek _) (zl 3 rfl ?_))));exact r1_ hq_ rfl rfl
theorem zy8(l:List Af)(f:Nat)(ls:List Leaf)(hl:l.length<=1000000)(hf:zar Tryz.prog f)(hp:∀x∈l,Ctr Tryz.prog f ([afV x]++zyJ ls) (R.one (V.one (Leaf.val (.bool false))))):Ctr Tryz.prog 218 [V.one (El.row afE l),V.one (Leaf.rep (zi4 f ls))] (R.one (V.one (Leaf.val (.int .i64 (-1))))):=by
 refine bd_ Tryz.func218 Tryz.ntmps218 rfl (fun w0 A0=>?_);refine zc 9 rfl (tq_ rfl (jln rfl) (zl 4 rfl (zbo (fun m Γ H=>∃(i:Nat),l.length-i=m/\Γ=[(0,some (D.v (V.one (El.row afE l)))),(1,some (D.rep (zi4 f ls))),(7,some (D.val (.int .i64 ((l.length:Nat):Int)))),(8,some (D.val (.int .i64 (i:Int))))]/\H=[]/\i<=l.length) ⟨0,rfl,rfl,rfl,zFn _⟩ rfl ?_)));rintro m Γ H ⟨i,rfl,rfl,rfl,hi0⟩;refine zc 2 rfl ?_;by_cases hi:i<l.length
 .refine tq_ rfl (ltT rfl) (zl 15 rfl ?_);obtain⟨x,hx⟩:∃x,l[i]?=some x:=⟨_,zFh hi⟩;refine zc 4 rfl (tq_ rfl (jix i hx rfl) (tq_ rfl (jlr rfl) (te_ rfl (zug rfl rfl hf rfl (hp x (zFi hx))) (zl 7 rfl (tq_ rfl (jad (i+1) rfl) (zl 2 rfl ?_))))));exact nx_ ⟨i+1,rfl,rfl,rfl,hi⟩ rfl
 .refine tq_ rfl (ltF rfl) (zl 14 rfl ?_);exact r1_ hq_ rfl rfl
theorem zsM(l:List Af)(f:Nat)(ls:List Leaf)(hl:l.length<=1000000)(hf:zar Tryz.prog f)(hp:∀x∈l,Ctr Tryz.prog f ([afV x]++zyJ ls) (R.one (V.one (Leaf.val (.bool false))))):Ctr Tryz.prog 169 [V.one (El.row afE l),V.one (Leaf.rep (zi4 f ls))] (R.one (V.one (Leaf.val (.bool false)))):=by
 refine bd_ Tryz.func169 Tryz.ntmps169 rfl (fun w0 A0=>?_);refine zc 9 rfl (tc_ fn218 rfl (zy8 l f ls hl hf hp) (zl 4 rfl ?_));exact r1_ hq_ rfl rfl
theorem zza(f:Af){b n:Nat}(h:FOk b n f)(hb:b<=1000000000)(vars:Nat)(hv:n<=vars)(hv2:vars<=1000):Ctr Tryz.prog 217 [afV f,V.one (Leaf.rep (zaV [Leaf.val (.int .i64 (vars:Int))]))] (R.one (V.one (Leaf.val (.bool false)))):=by
 refine bd_ Tryz.func217 Tryz.ntmps217 rfl (fun w0 A0=>?_);refine zc 9 rfl (tq_ rfl (jli rfl) (tc_ zBq rfl (zj5 f h hb vars hv hv2) (zl 4 rfl ?_)));exact r1_ hq_ rfl rfl
theorem zyv(f:Af){b n:Nat}(h:FOk b n f)(hb:b<=1000000000)(vars:Nat)(hv:n<=vars)(hv2:vars<=1000):Ctr Tryz.prog 170 [afV f,V.one (Leaf.rep (zaV [Leaf.val (.int .i64 (vars:Int))]))] (R.one (V.one (Leaf.val (.bool false)))):=by
 refine bd_ Tryz.func170 Tryz.ntmps170 rfl (fun w0 A0=>?_);refine zc 9 rfl (tq_ rfl (jli rfl) (tc_ zBq rfl (zj5 f h hb vars hv hv2) (zl 4 rfl ?_)));exact r1_ hq_ rfl rfl
theorem gvall(l:List Af){b n:Nat}(h:∀f∈l,FOk b n f)(hb:b<=1000000000)(hl:l.length<=1000)(vars:Nat)(hv:n<=vars)(hv2:vars<=1000):Ctr Tryz.prog 168 [V.one (El.row afE l),V.one (Leaf.val (.int .i64 ((vars:Int))))] (R.one (V.one (Leaf.val (.bool true)))):=by
 refine bd_ Tryz.func168 Tryz.ntmps168 rfl (fun w0 A0=>?_);refine zc 9 rfl (zjo 3 rfl rfl rfl (te_ rfl (zhz [Leaf.rep (zaV [Leaf.val (.int .i64 (vars:Int))])] rfl rfl) (tc_ zDU rfl (zsM l 217 _ (by omega) fn217 (fun x hx=>zza x (h x hx) hb vars hv hv2)) (zl 4 rfl ?_))));exact r1_ hq_ rfl rfl
theorem zo1(g:Gr)(hg:GOk g):Ctr Tryz.prog 102 [grV g] (R.one (V.one (Leaf.val (.bool true)))):=by
 refine bd_ Tryz.func102 Tryz.ntmps102 rfl (fun w0 A0=>?_);have h1:=hg.i1;have h2:=hg.i3;have h3:=hg.u4;have h4:=hg.o1;have h5:=hg.o3;refine zc 11 rfl (tq_ rfl (ltF rfl) (zl 3 rfl (tq_ rfl (gtF rfl) (zl 4 rfl (tq_ rfl (jln rfl) (tq_ rfl (gtF rfl) (zl 4 rfl (tq_ rfl (jln rfl) (tq_ rfl (ltF rfl) ?_)))))))));refine zl 4 rfl (tq_ rfl (jln rfl) (tq_ rfl (gtF rfl) (zl 11 rfl (tq_ rfl (jln rfl) (zl 4 rfl ?_)))));refine zbo (fun m Γ H=>∃(i:Nat),g.us.length-i=m/\Γ=[(1,some (D.ptr 0 0)),(32,some (D.v (V.one (El.row afE g.us)))),(33,some (D.val (.int .i64 ((g.us.length:Nat):Int)))),(34,some (D.val (.int .i64 (i:Int))))]/\H=[hb_ 28 [Leaf.val (.int .i64 ((g.inp:Nat):Int)),El.row afE g.us,El.row afE g.os]]/\i<=g.us.length) ⟨0,rfl,rfl,rfl,zFn _⟩ rfl ?_;rintro m Γ H ⟨i,rfl,rfl,rfl,hi0⟩;refine zc 2 rfl ?_;by_cases hi:i<g.us.length
 .refine tq_ rfl (ltT rfl) (zl 9 rfl ?_);obtain⟨x,hx⟩:∃x,g.us[i]?=some x:=⟨_,zFh hi⟩;have hxo:=hg.us i x hx;refine zc 2 rfl (tq_ rfl (jix i hx rfl) (tq_ rfl (jlr rfl) (zl 11 rfl (tq_ rfl (jad (g.inp+i) rfl) (tc_ zBq rfl (zj5 x hxo (by omega) (g.inp+i) (zFl _) (by omega)) (zl 8 rfl (tq_ rfl (jad (i+1) rfl) (zl 2 rfl (zal 1 ?_)))))))));refine zaJ 1 rfl ?_;exact nx_ ⟨i+1,rfl,rfl,rfl,hi⟩ rfl
 .refine tq_ rfl (ltF rfl) (zl 17 rfl (tq_ rfl (jln rfl) (tq_ rfl (jad (g.inp+g.us.length) rfl) (tc_ fn168 rfl (gvall g.os hg.os (by omega) (by omega) (g.inp+g.us.length) (zFl _) (by omega)) (zl 3 rfl ?_)))));exact r1_ hq_ rfl rfl
theorem zrV(r:Rg)(n:Nat)(hr:ROk n r)(hn1:1<=n)(hn3:n<=3):Ctr Tryz.prog 103 [rgV r,V.one (Leaf.val (.int .i64 ((n:Int))))] (R.one (V.one (Leaf.val (.bool true)))):=by
 refine bd_ Tryz.func103 Tryz.ntmps103 rfl (fun w0 A0=>?_);have h1:=hr.lo;have h2:=hr.hi;have h3:=hr.r2;refine zc 11 rfl (tq_ rfl (ltF rfl) (zl 2 rfl (tq_ rfl (gtF rfl) (zl 4 rfl (tq_ rfl (jln rfl) (zl 1 rfl (tq_ rfl (neF rfl) (zl 4 rfl (tq_ rfl (jln rfl) ?_)))))))));refine zl 1 rfl (tq_ rfl (neF rfl) (zl 4 rfl (tq_ rfl (jln rfl) (tq_ rfl (gtF rfl) (zl 11 rfl (tq_ rfl (jln rfl) (zl 4 rfl ?_)))))));refine zbo (fun m Γ H=>∃(i:Nat),n-i=m/\Γ=[(2,some (D.ptr 0 0)),(3,some (D.ptr 1 0)),(34,some (D.v (V.one (El.row ratE r.lo)))),(35,some (D.val (.int .i64 ((r.lo.length:Nat):Int)))),(36,some (D.val (.int .i64 (i:Int))))]/\H=[hb_ 31 [El.row ratE r.lo,El.row ratE r.hi,El.row afE r.rows],hb_ 3 [Leaf.val (.int .i64 (n:Int))]]/\i<=n) ⟨0,rfl,rfl,rfl,zFn _⟩ rfl ?_;rintro m Γ H ⟨i,rfl,rfl,rfl,hi0⟩;refine zc 2 rfl ?_;by_cases hi:i<r.lo.length
 .refine tq_ rfl (ltT rfl) (zl 9 rfl ?_);obtain⟨x,hx⟩:∃x,r.lo[i]?=some x:=⟨_,zFh (by omega)⟩;obtain⟨y,hy⟩:∃y,r.hi[i]?=some y:=⟨_,zFh (by omega)⟩;obtain⟨hb1,hb2,hxy⟩:=hr.bd i x y hx hy;haveI:=hb1.br;haveI:=hb2.br;refine zc 2 rfl (tq_ rfl (jix i hx rfl) (tq_ rfl (jlr rfl) (zl 6 rfl (dr_ 0 [] [] (dz 1 rfl (kc_ znA rfl (ziF (qOf (x)) (x) (zah _) (Br.use (by omega))) (ziX true rfl (zek _) (dz 5 rfl (kq_ rfl (jix i hy rfl) ?_)))))))));refine kq_ rfl (jlr rfl) (kc_ znA rfl (ziF (qOf (y)) (y) (zah _) (Br.use (by omega))) (ziX true rfl (zek _) (dz 7 rfl (kq_ rfl (jix i hy rfl) (kq_ rfl (jlr rfl) (kc_ zxp rfl (zw8 (qOf (x)) (x) (zah _) (Br.use (by omega)) (qOf (y)) (y) (zah _) (Br.use (by omega))) (kq_ rfl (gtF rfl (by have:=zg6.2 hxy;omega)) (dz 1 rfl (zae ?_)))))))));refine za 6 rfl (tq_ rfl (jad (i+1) rfl) (zl 2 rfl (zal 2 (zaJ 2 rfl ?_))));exact nx_ ⟨i+1,rfl,rfl,rfl,(by omega)⟩ rfl
 .refine tq_ rfl (ltF rfl) (zl 13 rfl (zjo 3 rfl rfl rfl (te_ rfl (zhz [Leaf.rep (zaV [Leaf.val (.int .i64 (n:Int))])] rfl rfl) (tc_ zDU rfl (zsM r.rows 170 _ (by omega) fn170 (fun x hx=>zyv x (hr.rows x hx) (by omega) n (zFl _) (by omega))) (zl 4 rfl ?_)))));exact r1_ hq_ rfl rfl
theorem zhT(q:Qu)(hq:QOk q):Ctr Tryz.prog 48 [quV q] (R.one (V.one (Leaf.val (.bool true)))):=by
 refine bd_ Tryz.func48 Tryz.ntmps48 rfl (fun w0 A0=>?_);have hg:=hq.g;have hr:=hq.r;have h1:=hg.i1;have h2:=hg.i3;have h3:=hg.u4;have h4:=hg.o1;have h5:=hg.o3;refine zc 10 rfl (tc_ zEb rfl (zo1 q.g (by assumption)) (zl 6 rfl (tc_ fn103 rfl (zrV q.r q.g.inp (by assumption) (by omega) (by omega)) (zl 10 rfl (tq_ rfl (jln rfl) (tq_ rfl (jad (q.g.inp+q.g.us.length) rfl) (tc_ zBq rfl (zj5 q.goal hq.goal (by omega) (q.g.inp+q.g.us.length) (zFl _) (by omega)) (zl 4 rfl ?_))))))));exact r1_ hq_ rfl rfl
end Go.Proofs.YtjeiacoegppoiaaGreatDoor
namespace Rc
open Go Go.RowKit
class Fq (x:Qr) (k:outParam Nat):Prop where
 fit:Fit k x
theorem Fq.use{x:Qr}{k k':Nat}[h:Fq x k](hk:k<=k'):Fit k' x:=h.fit.mono hk
instance Fq.of{r:Rat}{k:Nat}[h:Br r k]:Fq (qOf r) k:=⟨h.fit⟩
instance Fq.br{x:Qr}{k:Nat}[h:Fq x k]:Br x.q k:=Br.q h.fit
theorem Fq.mono{x:Qr}{k k':Nat}(h:Fq x k)(hk:k<=k'):Fq x k':=⟨h.fit.mono hk⟩
instance Br.one:Br ((1:Int):Rat) 2:=Br.int2 (by decide) (by decide)
instance Br.mone:Br ((-1:Int):Rat) 2:=Br.int2 (by decide) (by decide)
def lv(l:List Lm)(n:Nat):Rat:=match l[n-1]? with|some m=>m.v.q|none=>0
theorem ziS{l:List Lm}{n:Nat}{m:Lm}(h:l[n-1]?=some m):lv l n=m.v.q:=by unfold lv;rw[h]
def zqE(l:List Lm)(u:Int)(s:Nat×Nat)(n:Nat):Nat×Nat:=
 match l[n]? with
 |none=>s
 |some m=>if m.unit=u then(if m.up=true then(if s.2=0\/m.v.q<lv l s.2 then(s.1,n+1) else s) else(if s.1=0\/lv l s.1<m.v.q then(n+1,s.2) else s)) else s
def zfB(l:List Lm)(u:Int)(n:Nat):Nat×Nat:=(List.range n).foldl (zqE l u) (0,0)
def zam(l:List Lm)(u:Int):Nat×Nat:=zfB l u l.length
theorem za8(l:List Lm)(u:Int)(n:Nat):zfB l u (n+1)=zqE l u (zfB l u n) n:=by
 unfold zfB;rw[List.range_succ,zFJ];rfl
section
variable {l:List Lm}{u:Int}{s:Nat×Nat}{n:Nat}{x:Lm}(hx:l[n]?=some x)
include hx
theorem znL(h:x.unit≠u):zqE l u s n=s:=by unfold zqE;simp only[hx];rw[if_neg h]
theorem zjf(h:x.unit=u)(hu:x.up=true)(hc:s.2=0\/x.v.q<lv l s.2):zqE l u s n=(s.1,n+1):=by unfold zqE;simp only[hx];rw[if_pos h,if_pos hu,if_pos hc]
theorem znK(h:x.unit=u)(hu:x.up=true)(hc:¬(s.2=0\/x.v.q<lv l s.2)):zqE l u s n=s:=by unfold zqE;simp only[hx];rw[if_pos h,if_pos hu,if_neg hc]
theorem zjg(h:x.unit=u)(hu:x.up=false)(hc:s.1=0\/lv l s.1<x.v.q):zqE l u s n=(n+1,s.2):=by unfold zqE;simp only[hx];rw[if_pos h,if_neg (by rw[hu];decide),if_pos hc]
theorem znM(h:x.unit=u)(hu:x.up=false)(hc:¬(s.1=0\/lv l s.1<x.v.q)):zqE l u s n=s:=by unfold zqE;simp only[hx];rw[if_pos h,if_neg (by rw[hu];decide),if_neg hc]
end
def isLm(l:List Lm)(u:Int)(up:Bool)(n:Nat):Prop:=n=0 \/ ∃m,l[n-1]?=some m/\0<n/\m.unit=u/\m.up=up
theorem zgz(l:List Lm)(u:Int):∀n,(zfB l u n).1<=n/\(zfB l u n).2<=n/\isLm l u false (zfB l u n).1/\isLm l u true (zfB l u n).2
 |0=>⟨zFl _,zFl _,.inl rfl,.inl rfl⟩
 |n+1=>by
  obtain⟨h1,h2,h3,h4⟩:=zgz l u n;rw[za8]
  cases hx:l[n]? with
  |none=>unfold zqE;simp only[hx];exact⟨by omega,by omega,h3,h4⟩
  |some x=>
   by_cases hu:x.unit=u
   .cases hup:x.up
    .by_cases hc:(zfB l u n).1=0\/lv l (zfB l u n).1<x.v.q
     .rw[zjg hx hu hup hc];exact⟨zFl _,by show(zfB l u n).2<=n+1;omega,.inr ⟨x,by simpa using hx,by simp,hu,hup⟩,h4⟩
     .rw[znM hx hu hup hc];exact⟨by omega,by omega,h3,h4⟩
    .by_cases hc:(zfB l u n).2=0\/x.v.q<lv l (zfB l u n).2
     .rw[zjf hx hu hup hc];exact⟨by show(zfB l u n).1<=n+1;omega,zFl _,h3,.inr ⟨x,by simpa using hx,by simp,hu,hup⟩⟩
     .rw[znK hx hu hup hc];exact⟨by omega,by omega,h3,h4⟩
   .rw[znL hx hu];exact⟨by omega,by omega,h3,h4⟩
theorem zbe{l:List Lm}{u:Int}(h:(zam l u).1≠0):∃m,l[(zam l u).1-1]?=some m/\m.unit=u/\m.up=false/\lv l (zam l u).1=m.v.q/\0<(zam l u).1/\(zam l u).1<=l.length:=by
 obtain⟨h1,h2,h3,h4⟩:=zgz l u l.length;rcases h3 with h3|⟨m,q1,q2,q3,q4⟩
 .exact absurd h3 h
 .exact⟨m,q1,q3,q4,ziS q1,q2,h1⟩
theorem zbj{l:List Lm}{u:Int}(h:(zam l u).2≠0):∃m,l[(zam l u).2-1]?=some m/\m.unit=u/\m.up=true/\lv l (zam l u).2=m.v.q/\0<(zam l u).2/\(zam l u).2<=l.length:=by
 obtain⟨h1,h2,h3,h4⟩:=zgz l u l.length;rcases h4 with h3|⟨m,q1,q2,q3,q4⟩
 .exact absurd h3 h
 .exact⟨m,q1,q3,q4,ziS q1,q2,h2⟩
def zbd(a b:Rw):Bool:=if a.kind≠b.kind then decide (a.kind<b.kind) else if a.idx≠b.idx then decide (a.idx<b.idx) else if a.lo≠b.lo then decide (a.lo<b.lo) else decide (a.hi<b.hi)
theorem zgo{a b:Rw}:zbd a b=true↔a.kind<b.kind\/(a.kind=b.kind/\(a.idx<b.idx\/(a.idx=b.idx/\(a.lo<b.lo\/(a.lo=b.lo/\a.hi<b.hi))))):=by
 unfold zbd;split
 .simp;omega
 .split
  .simp;omega
  .split <;> simp <;> omega
theorem zcO{a b c:Rw}(h:zbd a b=true)(h':zbd b c=true):zbd a c=true:=by
 rw[zgo] at *;omega
theorem ze0(a:Rw):zbd a a=false:=by
 cases h:zbd a a
 .rfl
 .rw[zgo] at h;omega
theorem zdy{a b:Rw}(h:zbd a b=false)(hne:a≠b):zbd b a=true:=by
 cases h':zbd b a
 .exfalso;have h1:¬zbd a b=true:=by rw[h];decide
  have h2:¬zbd b a=true:=by rw[h'];decide
  rw[zgo] at h1 h2;exact hne (Rw.ext' (by omega) (by omega) (by omega) (by omega))
 .rfl
theorem zEi{a b:Rw}(h:a=b):eq4 a.kind a.idx a.lo a.hi b.kind b.idx b.lo b.hi=true:=by subst h;simp[eq4]
theorem zEj{a b:Rw}(h:a≠b):eq4 a.kind a.idx a.lo a.hi b.kind b.idx b.lo b.hi=false:=by
 cases h':eq4 a.kind a.idx a.lo a.hi b.kind b.idx b.lo b.hi
 .rfl
 .exfalso;simp[eq4] at h';exact h (Rw.ext' h'.1 h'.2.1 h'.2.2.1 h'.2.2.2)
def zjv:List Mu->Rw->Rat->List Mu
 |[],r,c=>[⟨r,qOf c⟩]
 |m::l,r,c=>if zbd m.r r=true then m::zjv l r c else if m.r=r then⟨r,qOf (m.c.q+c)⟩::l else⟨r,qOf c⟩::m::l
def zb2(l:List Mu)(r:Rw)(c:Rat):List Mu:=if c=0 then l else zjv l r c
def zaS(a b:List Mu)(c:Rat):List Mu:=b.foldl (fun a m=>zb2 a m.r (m.c.q*c)) a
theorem zkM:∀{l:List Mu} {r:Rw} {c:Rat} {k:Nat},(∀(i:Nat) (m:Mu),i<k->l[i]?=some m->zbd m.r r=true)->k<=l.length->zjv l r c=l.take k++zjv (l.drop k) r c
 |l,r,c,0,_,_=>by simp
 |[],r,c,k+1,_,h=>by simp at h
 |m::l,r,c,k+1,h,hk=>by
  have h0:=h 0 m (by omega) rfl;have ih:=zkM (l:=l) (r:=r) (c:=c) (k:=k) (fun i m' hi hm=>h (i+1) m' (by omega) (by simpa using hm)) (by simpa using hk);show(if zbd m.r r=true then m::zjv l r c else _)=_;rw[if_pos h0,ih];rfl
theorem zvr{l:List Mu}{r:Rw}{c:Rat}(h:∀(i:Nat) (m:Mu),i<l.length->l[i]?=some m->zbd m.r r=true):zjv l r c=l++[⟨r,qOf c⟩]:=by
 rw[zkM h (zFl _),zFE,List.drop_length];rfl
theorem zmr{α:Type}{l:List α}{k:Nat}{x:α}(h:l[k]?=some x):l.drop k=x::l.drop (k+1):=zbc h
theorem zy6{l:List Mu}{r:Rw}{c:Rat}{k:Nat}{x:Mu}(h:∀(i:Nat) (m:Mu),i<k->l[i]?=some m->zbd m.r r=true)(hx:l[k]?=some x)(hr:x.r=r):zjv l r c=l.take k++[⟨r,qOf (x.c.q+c)⟩]++l.drop (k+1):=by
 rw[zkM h (Nat.le_of_lt (zFj.1 hx).1),zmr hx];show _++(if zbd x.r r=true then _ else if x.r=r then _ else _)=_;rw[if_neg (by rw[hr,ze0];decide),if_pos hr,zFK];rfl
theorem zy5{l:List Mu}{r:Rw}{c:Rat}{k:Nat}{x:Mu}(h:∀(i:Nat) (m:Mu),i<k->l[i]?=some m->zbd m.r r=true)(hx:l[k]?=some x)(hl:zbd x.r r=false)(hr:x.r≠r):zjv l r c=l.take k++[⟨r,qOf c⟩]++l.drop k:=by
 rw[zkM h (Nat.le_of_lt (zFj.1 hx).1),zmr hx];show _++(if zbd x.r r=true then _ else if x.r=r then _ else _)=_;rw[if_neg (by rw[hl];decide),if_neg hr,zFK];rfl
theorem zoU:∀(l:List Mu) (r:Rw) (c:Rat),(zjv l r c).length<=l.length+1
 |[],_,_=>by simp[zjv]
 |m::l,r,c=>by
  have:=zoU l r c;unfold zjv;split
  .simp;omega
  .split <;> simp
theorem zl5(l:List Mu)(r:Rw)(c:Rat):(zb2 l r c).length<=l.length+1:=by
 unfold zb2;split
 .omega
 .exact zoU l r c
theorem zdo:∀(b a:List Mu) (c:Rat),(zaS a b c).length<=a.length+b.length
 |[],a,c=>by simp[zaS]
 |m::b,a,c=>by
  have h1:=zl5 a m.r (m.c.q*c);have h2:=zdo b (zb2 a m.r (m.c.q*c)) c;have:zaS a (m::b) c=zaS (zb2 a m.r (m.c.q*c)) b c:=rfl;rw[this];simp;omega
theorem zno(a b:List Mu)(m:Mu)(c:Rat):zaS a (b++[m]) c=zb2 (zaS a b c) m.r (m.c.q*c):=by unfold zaS;rw[zFJ];rfl
theorem ziO{a b:List Mu}{i:Nat}{m:Mu}{c:Rat}(h:b[i]?=some m):zaS a (b.take (i+1)) c=zb2 (zaS a (b.take i) c) m.r (m.c.q*c):=by rw[zaF h,zno]
def MB(B:Nat)(l:List Mu):Prop:=∀m∈l,Fq m.c B
theorem MB.mono{B C:Nat}{l:List Mu}(h:MB B l)(hBC:B<=C):MB C l:=fun m hm=>(h m hm).mono hBC
theorem zsF{B C:Nat}{r:Rw}{c:Rat}[hc:Br c C]:∀{l:List Mu},MB B l->MB (B+C+1) (zjv l r c)
 |[],_=>fun m hm=>by
  simp[zjv] at hm;subst hm;exact(Fq.of (r:=c)).mono (by omega)
 |x::l,h=>by
  have hx:=h x (by simp);intro m hm;unfold zjv at hm;split at hm
  .rcases zFL.1 hm with rfl|hm
   .exact hx.mono (by omega)
   .exact zsF (l:=l) (fun m hm=>h m (by simp[hm])) m hm
  .split at hm
   .rcases zFL.1 hm with rfl|hm
    .exact Fq.of (r:=x.c.q+c)
    .exact(h m (by simp[hm])).mono (by omega)
   .rcases zFL.1 hm with rfl|hm
    .exact(Fq.of (r:=c)).mono (by omega)
    .exact(h m hm).mono (by omega)
theorem zoD{B C:Nat}{l:List Mu}{r:Rw}{c:Rat}[hc:Br c C](h:MB B l):MB (B+C+1) (zb2 l r c):=by
 unfold zb2;split
 .exact h.mono (by omega)
 .exact zsF h
theorem zei{B C D:Nat}{c:Rat}[hc:Br c D]:∀{b a:List Mu},MB B a->MB C b->MB (B+b.length*(C+D+2)) (zaS a b c)
 |[],a,h,_=>h.mono (by omega)
 |m::b,a,h,hb=>by
  haveI:=hb m (by simp);have h1:=zoD (r:=m.r) (c:=m.c.q*c) h;have h2:=zei (b:=b) h1 (fun m hm=>hb m (by simp[hm])) (c:=c);have e:zaS a (m::b) c=zaS (zb2 a m.r (m.c.q*c)) b c:=rfl;rw[e];refine h2.mono ?_;simp only[List.length_cons,Nat.add_mul];omega
def CanM:List Mu->Prop
 |[]=>True
 |m::l=>(m.c=qOf m.c.q/\0<m.c.q)/\(∀x∈l,zbd m.r x.r=true)/\CanM l
theorem zkL{r:Rw}{c:Rat}:∀{l:List Mu} {x:Mu},x∈zjv l r c->x.r=r\/x∈l
 |[],x,h=>by simp[zjv] at h;subst h;exact .inl rfl
 |m::l,x,h=>by
  unfold zjv at h;split at h
  .rcases zFL.1 h with rfl|h
   .exact .inr (by simp)
   .rcases zkL h with h|h
    .exact .inl h
    .exact .inr (by simp[h])
  .split at h
   .rcases zFL.1 h with rfl|h
    .exact .inl rfl
    .exact .inr (by simp[h])
   .rcases zFL.1 h with rfl|h
    .exact .inl rfl
    .exact .inr h
theorem zoV{r:Rw}{c:Rat}(hc:0<c):∀{l:List Mu},CanM l->CanM (zjv l r c)
 |[],_=>⟨⟨by rw[zah],by rw[zah];exact hc⟩,fun x hx=>by simp at hx,trivial⟩
 |m::l,h=>by
  obtain⟨h1,h2,h3⟩:=h;unfold zjv;split
  .rename_i hlt;refine⟨h1,fun x hx=>?_,zoV hc h3⟩;rcases zkL hx with e|hx
   .rw[e];exact hlt
   .exact h2 x hx
  .rename_i hlt;split
   .rename_i he;refine⟨⟨by rw[zah],?_⟩,fun x hx=>?_,h3⟩
    .rw[zah];have:=h1.2;grind
    .rw[<-he];exact h2 x hx
   .rename_i hne;have hl:=zdy (by simpa using hlt) hne;refine⟨⟨by rw[zah],by rw[zah];exact hc⟩,fun x hx=>?_,h1,h2,h3⟩;rcases zFL.1 hx with rfl|hx
    .exact hl
    .exact zcO hl (h2 x hx)
theorem ziI{r:Rw}{c:Rat}(hc:0<=c){l:List Mu}(h:CanM l):CanM (zb2 l r c):=by
 unfold zb2;split
 .exact h
 .rename_i h0;exact zoV (by grind) h
theorem CanM.pos:∀{l:List Mu},CanM l->∀m∈l,0<m.c.q/\m.c=qOf m.c.q
 |x::l,h,m,hm=>by
  rcases zFL.1 hm with rfl|hm
  .exact⟨h.1.2,h.1.1⟩
  .exact CanM.pos h.2.2 m hm
theorem CanM.lt{l:List Mu}(h:CanM l):∀{i j:Nat} {x y:Mu},i<j->l[i]?=some y->l[j]?=some x->zbd y.r x.r=true:=by
 induction l with
 |nil=>intro i j x y _ hy;simp at hy
 |cons m l ih=>
  intro i j x y hij hy hx;obtain⟨j,rfl⟩:∃j',j=j'+1:=⟨j-1,by omega⟩;rw[List.getElem?_cons_succ] at hx
  cases i with
  |zero=>simp at hy;subst hy;exact h.2.1 x (zFi hx)
  |succ i=>rw[List.getElem?_cons_succ] at hy;exact ih h.2.2 (by omega) hy hx
theorem CanM.prev{l:List Mu}{i:Nat}{x y:Mu}(h:CanM l)(hi:0<i)(hx:l[i]?=some x)(hy:l[i-1]?=some y):zbd y.r x.r=true:=h.lt (by omega) hy hx
theorem zfi{c:Rat}(hc:0<=c):∀{b a:List Mu},CanM a->(∀m∈b,0<m.c.q)->CanM (zaS a b c)
 |[],a,h,_=>h
 |m::b,a,h,hb=>zfi (b:=b) hc (ziI (Rat.mul_nonneg (Rat.le_of_lt (hb m (by simp))) hc) h) (fun m hm=>hb m (by simp[hm]))
theorem zyz:rq false 1 1=1:=by decide +kernel
theorem zw1(a b:Bool)(m n d e:Nat)(hn:n≠0):rq (a != b) (m*dn e) (dn d*n)=rq a m d/rq b n e:=by
 have h1:=zge a b m (dn e) d n;have h2:=zge b b n (dn e) e n;rw[zc2 hn] at h1 h2;rw[h1];have h3:rq (b != b) (n*dn e) (dn e*n)=1:=by
  rw[<-zyz,zBT,zc2 (Nat.mul_ne_zero (zdK e) hn)];simp[sgn,dn,zFM]
 rw[h3] at h2;have h4:rq b n e≠0:=fun h=>by rw[h] at h2;grind
 rw[Rat.div_def];congr 1;have h5:rq b n e*(rq b n e)⁻¹=1:=Rat.mul_inv_cancel _ h4;generalize rq b n e=p at *;generalize rq b (dn e) n=q at *;generalize p⁻¹=w at *;grind
theorem zgb{p:Rat}:sg p<=0↔p<=0:=by unfold sg;grind
theorem zgS{p:Rat}:0<=sg p↔0<=p:=by unfold sg;grind
theorem zd3{p:Rat}:0<sg p↔0<p:=by unfold sg;grind
def zdd(inp v:Nat):List Mu:=if v<inp then[⟨⟨1,(v:Int),0,0⟩,qOf ((1:Int):Rat)⟩] else[⟨⟨5,((v-inp:Nat):Int),0,0⟩,qOf ((1:Int):Rat)⟩]
def zbZ(inp:Nat)(l:List Lm)(v:Nat):Option (List Mu):=
 if v<inp then some [⟨⟨2,(v:Int),0,0⟩,qOf ((1:Int):Rat)⟩]
 else if (zam l ((v-inp:Nat):Int)).1=0\/(zam l ((v-inp:Nat):Int)).2=0 then none
 else if lv l (zam l ((v-inp:Nat):Int)).2<=0 then some [⟨⟨10,((v-inp:Nat):Int),0,((zam l ((v-inp:Nat):Int)).2:Int)⟩,qOf ((1:Int):Rat)⟩]
 else if 0<=lv l (zam l ((v-inp:Nat):Int)).1 then some [⟨⟨8,((v-inp:Nat):Int),((zam l ((v-inp:Nat):Int)).1:Int),0⟩,qOf ((1:Int):Rat)⟩,⟨⟨12,((v-inp:Nat):Int),0,((zam l ((v-inp:Nat):Int)).2:Int)⟩,qOf ((1:Int):Rat)⟩]
 else some [⟨⟨12,((v-inp:Nat):Int),0,((zam l ((v-inp:Nat):Int)).2:Int)⟩,qOf (((1:Int):Rat)/(lv l (zam l ((v-inp:Nat):Int)).2-lv l (zam l ((v-inp:Nat):Int)).1)*lv l (zam l ((v-inp:Nat):Int)).2)⟩,
   ⟨⟨13,((v-inp:Nat):Int),((zam l ((v-inp:Nat):Int)).1:Int),((zam l ((v-inp:Nat):Int)).2:Int)⟩,qOf (((1:Int):Rat)/(lv l (zam l ((v-inp:Nat):Int)).2-lv l (zam l ((v-inp:Nat):Int)).1))⟩]
end Rc
namespace Go.Proofs.YtjeiacoegppoiaaGreatDoor
open Go Go.RowKit Rc
theorem zoB:Ints4 Tryz.prog 107 3:=⟨by kernel_rfl,by kernel_rfl,ty3,by kernel_rfl,by kernel_rfl⟩
theorem zmI(s:Sc){B:Nat}(hB:∀m∈s.lems,Fq m.v B)(hB2:B<=100000000000)(hl:s.lems.length<=1000000)(u:Int):Ctr Tryz.prog 87 [scV s,V.one (Leaf.val (.int .i64 (u)))] (R.tup [V.one (Leaf.val (.int .i64 (((zam s.lems u).1:Nat):Int))),V.one (Leaf.val (.int .i64 (((zam s.lems u).2:Nat):Int)))]):=by
 refine bd_ Tryz.func87 Tryz.ntmps87 rfl (fun w0 A0=>?_);refine zc 18 rfl (tq_ rfl (jln rfl) (zl 4 rfl ?_));refine zbo (fun m Γ H=>∃(i:Nat) (lo hi:Nat),s.lems.length-i=m/\Γ=[(1,some (D.val (.int .i64 u))),(2,some (D.ptr 0 0)),(6,some (D.val (.int .i64 (lo:Int)))),(7,some (D.val (.int .i64 (hi:Int)))),(11,some (D.v (V.one (El.row lmE s.lems)))),(12,some (D.val (.int .i64 ((s.lems.length:Nat):Int)))),(13,some (D.val (.int .i64 (i:Int))))]/\H=[hb_ 43 (scL s)]/\i<=s.lems.length/\(lo,hi)=zfB s.lems u i) ⟨0,0,0,rfl,rfl,rfl,zFn _,rfl⟩ rfl ?_;rintro m Γ H ⟨i,lo,hi,rfl,rfl,rfl,hi0,hs⟩;refine zc 2 rfl ?_;by_cases hi_:i<s.lems.length
 .refine tq_ rfl (ltT rfl) (zl 9 rfl ?_);obtain⟨x,hx⟩:∃x,s.lems[i]?=some x:=⟨_,zFh (by omega)⟩;haveI hxb:=hB x (zFi hx);have hbn:=zgz s.lems u i;rw[<-hs] at hbn;obtain⟨hlo,hhi,_,_⟩:=hbn;refine zc 2 rfl (tq_ rfl (jix i hx rfl) (tq_ rfl (jlr rfl) (zl 11 rfl ?_)));by_cases hne:x.unit≠u
  .refine tq_ rfl (neT rfl) (zl 8 rfl (tq_ rfl (jad (i+1) rfl) (zl 2 rfl (zal 1 (zaJ 1 rfl ?_)))));exact nx_ ⟨i+1,_,_,rfl,rfl,rfl,(by omega),by rw[za8,<-hs];exact(znL hx hne).symm⟩ rfl
  .refine tq_ rfl (neF rfl) (zl 6 rfl ?_);have hu:x.unit=u:=Classical.not_not.1 hne;refine zc 5 rfl ?_;refine zap rfl (fun hup=>?_) (fun hup=>?_)
   .refine zc 1 rfl (dr_ 0 [] [] (dz 1 rfl ?_));by_cases hv:hi=0
    .refine kq_ rfl (eqT rfl) (dz 13 rfl (zae (za 4 rfl (tq_ rfl (jad (i+1) rfl) (zl 5 rfl (tq_ rfl (jad (i+1) rfl) (zl 2 rfl (zal 1 (zaJ 1 rfl ?_)))))))));exact nx_ ⟨i+1,_,_,rfl,rfl,rfl,(by omega),by rw[za8,<-hs];exact(zjf (s:=(lo,hi)) hx hu hup (.inl hv)).symm⟩ rfl
    .refine kq_ rfl (eqF rfl) (dz 6 rfl ?_);obtain⟨y,hy⟩:∃y,s.lems[hi-1]?=some y:=⟨_,zFh (by omega)⟩;haveI hyb:=hB y (zFi hy);have hly:=ziS hy;refine kq_ rfl (jsb (hi-1) rfl) (kq_ rfl (jix (hi-1) hy rfl) (kq_ rfl (jft rfl) (kq_ rfl (jlr rfl) (kc_ zxp rfl (zw8 x.v (x.v.q) rfl (Fq.use (x:=x.v) (by omega)) y.v (y.v.q) rfl (Fq.use (x:=y.v) (by omega))) ?_))));by_cases hc:x.v.q<lv s.lems hi
     .refine kq_ rfl (ltT rfl (by rw[ze7,<-hly];exact hc)) (dz 1 rfl (zae (za 4 rfl (tq_ rfl (jad (i+1) rfl) (zl 5 rfl (tq_ rfl (jad (i+1) rfl) (zl 2 rfl (zal 1 (zaJ 1 rfl ?_)))))))));exact nx_ ⟨i+1,_,_,rfl,rfl,rfl,(by omega),by rw[za8,<-hs];exact(zjf (s:=(lo,hi)) hx hu hup (.inr hc)).symm⟩ rfl
     .refine kq_ rfl (ltF rfl (by rw[ze7,<-hly];exact hc)) (dz 1 rfl (zae (za 6 rfl (tq_ rfl (jad (i+1) rfl) (zl 2 rfl (zal 1 (zaJ 1 rfl ?_)))))));exact nx_ ⟨i+1,_,_,rfl,rfl,rfl,(by omega),by rw[za8,<-hs];exact(znK (s:=(lo,hi)) hx hu hup (fun h=>h.elim hv hc)).symm⟩ rfl
   .refine zc 1 rfl (dr_ 0 [] [] (dz 1 rfl ?_));by_cases hv:lo=0
    .refine kq_ rfl (eqT rfl) (dz 13 rfl (zae (za 4 rfl (tq_ rfl (jad (i+1) rfl) (zl 5 rfl (tq_ rfl (jad (i+1) rfl) (zl 2 rfl (zal 1 (zaJ 1 rfl ?_)))))))));exact nx_ ⟨i+1,_,_,rfl,rfl,rfl,(by omega),by rw[za8,<-hs];exact(zjg (s:=(lo,hi)) hx hu hup (.inl hv)).symm⟩ rfl
    .refine kq_ rfl (eqF rfl) (dz 6 rfl ?_);obtain⟨y,hy⟩:∃y,s.lems[lo-1]?=some y:=⟨_,zFh (by omega)⟩;haveI hyb:=hB y (zFi hy);have hly:=ziS hy;refine kq_ rfl (jsb (lo-1) rfl) (kq_ rfl (jix (lo-1) hy rfl) (kq_ rfl (jft rfl) (kq_ rfl (jlr rfl) (kc_ zxp rfl (zw8 x.v (x.v.q) rfl (Fq.use (x:=x.v) (by omega)) y.v (y.v.q) rfl (Fq.use (x:=y.v) (by omega))) ?_))));by_cases hc:lv s.lems lo<x.v.q
     .refine kq_ rfl (gtT rfl (by rw[zeD,<-hly];exact hc)) (dz 1 rfl (zae (za 4 rfl (tq_ rfl (jad (i+1) rfl) (zl 5 rfl (tq_ rfl (jad (i+1) rfl) (zl 2 rfl (zal 1 (zaJ 1 rfl ?_)))))))));exact nx_ ⟨i+1,_,_,rfl,rfl,rfl,(by omega),by rw[za8,<-hs];exact(zjg (s:=(lo,hi)) hx hu hup (.inr hc)).symm⟩ rfl
     .refine kq_ rfl (gtF rfl (by rw[zeD,<-hly];exact hc)) (dz 1 rfl (zae (za 6 rfl (tq_ rfl (jad (i+1) rfl) (zl 2 rfl (zal 1 (zaJ 1 rfl ?_)))))));exact nx_ ⟨i+1,_,_,rfl,rfl,rfl,(by omega),by rw[za8,<-hs];exact(znM (s:=(lo,hi)) hx hu hup (fun h=>h.elim hv hc)).symm⟩ rfl
 .refine tq_ rfl (ltF rfl) (zl 10 rfl ?_);have hie:i=s.lems.length:=by omega
  rw[hie] at hs;refine zc 7 rfl ?_;exact r2_ hq_ rfl (by unfold zam;rw[<-hs])
theorem zhu(s:Sc){B:Nat}(hB:∀m∈s.lems,Fq m.v B)(hB2:B<=100000000000)(hl:s.lems.length<=1000000)(u:Int):Ctr Tryz.prog 40 [scV s,V.one (Leaf.val (.int .i64 (u)))] (R.tup [V.one (Leaf.val (.int .i64 (((zam s.lems u).1:Nat):Int))),V.one (Leaf.val (.int .i64 (((zam s.lems u).2:Nat):Int)))]):=by
 refine bd_ Tryz.func40 Tryz.ntmps40 rfl (fun w0 A0=>?_);refine zc 20 rfl ?_;refine zbo (fun m Γ H=>∃(i:Nat) (lo hi:Nat),s.lems.length-i=m/\Γ=[(1,some (D.val (.int .i64 u))),(2,some (D.ptr 0 0)),(6,some (D.val (.int .i64 (lo:Int)))),(7,some (D.val (.int .i64 (hi:Int)))),(8,some (D.val (.int .i64 (((i+1):Nat):Int))))]/\H=[hb_ 43 (scL s)]/\i<=s.lems.length/\(lo,hi)=zfB s.lems u i) ⟨0,0,0,rfl,rfl,rfl,zFn _,rfl⟩ rfl ?_;rintro m Γ H ⟨i,lo,hi,rfl,rfl,rfl,hi0,hs⟩;refine zc 6 rfl (tq_ rfl (jln rfl) ?_);by_cases hi_:i<s.lems.length
 .refine tq_ rfl (leT rfl) (zl 8 rfl ?_);obtain⟨x,hx⟩:∃x,s.lems[i]?=some x:=⟨_,zFh (by omega)⟩;haveI hxb:=hB x (zFi hx);have hbn:=zgz s.lems u i;rw[<-hs] at hbn;obtain⟨hlo,hhi,_,_⟩:=hbn;refine zc 4 rfl (tq_ rfl (jsb i rfl) (tq_ rfl (jix i hx rfl) (tq_ rfl (jlr rfl) (zl 10 rfl ?_))));by_cases hne:x.unit≠u
  .refine tq_ rfl (neT rfl) (zl 9 rfl (tq_ rfl (jad ((i+1)+1) rfl) (zl 2 rfl (zal 1 (zaJ 1 rfl ?_)))));exact nx_ ⟨i+1,_,_,rfl,rfl,rfl,(by omega),by rw[za8,<-hs];exact(znL hx hne).symm⟩ rfl
  .refine tq_ rfl (neF rfl) (zl 7 rfl ?_);have hu:x.unit=u:=Classical.not_not.1 hne;refine dr_ 0 [] [] (dz 3 rfl ?_);refine zqO rfl (fun hup=>?_) (fun hup=>?_)
   .refine dz 16 rfl (zae (za 5 rfl (dr_ 0 [] [] (dz 2 rfl (ziX false rfl (hup) (dz 3 rfl ?_))))));by_cases hv:lo=0
    .refine kq_ rfl (eqT rfl) (dz 14 rfl (zae (za 10 rfl (tq_ rfl (jad ((i+1)+1) rfl) (zl 2 rfl (zal 1 (zaJ 1 rfl ?_)))))));exact nx_ ⟨i+1,_,_,rfl,rfl,rfl,(by omega),by rw[za8,<-hs];exact(zjg (s:=(lo,hi)) hx hu hup (.inl hv)).symm⟩ rfl
    .refine kq_ rfl (eqF rfl) (dz 6 rfl ?_);obtain⟨y,hy⟩:∃y,s.lems[lo-1]?=some y:=⟨_,zFh (by omega)⟩;haveI hyb:=hB y (zFi hy);have hly:=ziS hy;refine kq_ rfl (jsb (lo-1) rfl) (kq_ rfl (jix (lo-1) hy rfl) (kq_ rfl (jft rfl) (kq_ rfl (jlr rfl) (kc_ zo7 rfl (zgd x.v (x.v.q) rfl (Fq.use (x:=x.v) (by omega)) y.v (y.v.q) rfl (Fq.use (x:=y.v) (by omega))) ?_))));by_cases hc:lv s.lems lo<x.v.q
     .refine kq_ rfl (gtT rfl (by rw[zeD,<-hly];exact hc)) (dz 2 rfl (zae (za 10 rfl (tq_ rfl (jad ((i+1)+1) rfl) (zl 2 rfl (zal 1 (zaJ 1 rfl ?_)))))));exact nx_ ⟨i+1,_,_,rfl,rfl,rfl,(by omega),by rw[za8,<-hs];exact(zjg (s:=(lo,hi)) hx hu hup (.inr hc)).symm⟩ rfl
     .refine kq_ rfl (gtF rfl (by rw[zeD,<-hly];exact hc)) (dz 2 rfl (zae (za 7 rfl (tq_ rfl (jad ((i+1)+1) rfl) (zl 2 rfl (zal 1 (zaJ 1 rfl ?_)))))));exact nx_ ⟨i+1,_,_,rfl,rfl,rfl,(by omega),by rw[za8,<-hs];exact(znM (s:=(lo,hi)) hx hu hup (fun h=>h.elim hv hc)).symm⟩ rfl
   .refine dz 1 rfl ?_;by_cases hv:hi=0
    .refine kq_ rfl (eqT rfl) (dz 14 rfl (zae (za 8 rfl (dr_ 0 [] [] (dz 2 rfl (ziX true rfl (hup) (dz 18 rfl (zae (za 7 rfl ?_)))))))));refine tq_ rfl (jad ((i+1)+1) rfl) (zl 2 rfl (zal 1 (zaJ 1 rfl ?_)));exact nx_ ⟨i+1,_,_,rfl,rfl,rfl,(by omega),by rw[za8,<-hs];exact(zjf (s:=(lo,hi)) hx hu hup (.inl hv)).symm⟩ rfl
    .refine kq_ rfl (eqF rfl) (dz 6 rfl ?_);obtain⟨y,hy⟩:∃y,s.lems[hi-1]?=some y:=⟨_,zFh (by omega)⟩;haveI hyb:=hB y (zFi hy);have hly:=ziS hy;refine kq_ rfl (jsb (hi-1) rfl) (kq_ rfl (jix (hi-1) hy rfl) (kq_ rfl (jft rfl) (kq_ rfl (jlr rfl) (kc_ zo7 rfl (zgd x.v (x.v.q) rfl (Fq.use (x:=x.v) (by omega)) y.v (y.v.q) rfl (Fq.use (x:=y.v) (by omega))) ?_))));by_cases hc:x.v.q<lv s.lems hi
     .refine kq_ rfl (ltT rfl (by rw[ze7,<-hly];exact hc)) (dz 2 rfl (zae (za 8 rfl (dr_ 0 [] [] (dz 2 rfl (ziX true rfl (hup) (dz 18 rfl (zae (za 7 rfl ?_)))))))));refine tq_ rfl (jad ((i+1)+1) rfl) (zl 2 rfl (zal 1 (zaJ 1 rfl ?_)));exact nx_ ⟨i+1,_,_,rfl,rfl,rfl,(by omega),by rw[za8,<-hs];exact(zjf (s:=(lo,hi)) hx hu hup (.inr hc)).symm⟩ rfl
     .refine kq_ rfl (ltF rfl (by rw[ze7,<-hly];exact hc)) (dz 2 rfl (zae (za 5 rfl (dr_ 0 [] [] (dz 2 rfl (ziX true rfl (hup) (dz 18 rfl (zae (za 7 rfl ?_)))))))));refine tq_ rfl (jad ((i+1)+1) rfl) (zl 2 rfl (zal 1 (zaJ 1 rfl ?_)));exact nx_ ⟨i+1,_,_,rfl,rfl,rfl,(by omega),by rw[za8,<-hs];exact(znK (s:=(lo,hi)) hx hu hup (fun h=>h.elim hv hc)).symm⟩ rfl
 .refine tq_ rfl (leF rfl) (zl 9 rfl ?_);have hie:i=s.lems.length:=by omega
  rw[hie] at hs;refine zc 7 rfl ?_;exact r2_ hq_ rfl (by unfold zam;rw[<-hs])
theorem zxh(a b:Rw):Ctr Tryz.prog 135 [rwV a,rwV b] (R.one (V.one (Leaf.val (.bool (zbd a b))))):=by
 refine bd_ Tryz.func135 Tryz.ntmps135 rfl (fun w0 A0=>?_);refine zc 15 rfl ?_;by_cases h1:a.kind≠b.kind
 .refine tq_ rfl (neT rfl) (zl 14 rfl ?_);exact r1_ hq_ rfl (by unfold zbd;rw[if_pos h1])
 .refine tq_ rfl (neF rfl) (zl 10 rfl ?_);by_cases h2:a.idx≠b.idx
  .refine tq_ rfl (neT rfl) (zl 14 rfl ?_);exact r1_ hq_ rfl (by unfold zbd;rw[if_neg h1,if_pos h2])
  .refine tq_ rfl (neF rfl) (zl 10 rfl ?_);by_cases h3:a.lo≠b.lo
   .refine tq_ rfl (neT rfl) (zl 14 rfl ?_);exact r1_ hq_ rfl (by unfold zbd;rw[if_neg h1,if_neg h2,if_pos h3])
   .refine tq_ rfl (neF rfl) (zl 17 rfl ?_);exact r1_ hq_ rfl (by unfold zbd;rw[if_neg h1,if_neg h2,if_neg h3])
theorem zeV(l:List Mu)(r:Rw)(c:Rat){B C:Nat}(hB:MB B l)[Br c C](hBC:B+C<=300000000000)(hl:l.length<=100000):Ctr Tryz.prog 95 [V.one (El.row muE l),rwV r,V.agg (qL (c))] (R.one (V.one (El.row muE (zb2 l r c)))):=by
 refine bd_ Tryz.func95 Tryz.ntmps95 rfl (fun w0 A0=>?_);refine zc 11 rfl (tc_ zgt rfl (zbx (qOf (c)) (c) (zah _) (Br.use (by omega))) ?_);by_cases hc0:c=0
 .refine tq_ rfl (eqT rfl (by rw[hc0];rfl)) (zl 9 rfl ?_);exact r1_ hq_ rfl (by unfold zb2;rw[if_pos hc0])
 .refine tq_ rfl (eqF rfl (zio hc0)) (zl 12 rfl ?_);refine zbo (fun m Γ H=>∃(k:Nat),l.length-k=m/\Γ=[(0,some (D.v (V.one (El.row muE l)))),(4,some (D.ptr 0 0)),(5,some (D.ptr 1 0)),(7,some (D.val (.int .i64 (k:Int))))]/\H=[hb_ 107 [Leaf.val (.int .i64 r.kind),Leaf.val (.int .i64 r.idx),Leaf.val (.int .i64 r.lo),Leaf.val (.int .i64 r.hi)],hb_ 36 (qL c)]/\k<=l.length/\∀(i:Nat) (m:Mu),i<k->l[i]?=some m->zbd m.r r=true) ⟨0,rfl,rfl,rfl,zFn _,fun i m hi=>by omega⟩ rfl ?_;rintro m Γ H ⟨k,rfl,rfl,rfl,hk0,hlt⟩;refine zc 2 rfl (dr_ 0 [] [] (dz 2 rfl (kq_ rfl (jln rfl) ?_)));by_cases hk:k<l.length
  .refine kq_ rfl (ltT rfl) (dz 1 rfl ?_);obtain⟨x,hx⟩:∃x,l[k]?=some x:=⟨_,zFh hk⟩;haveI hxb:=hB x (zFi hx);refine dz 2 rfl (kq_ rfl (jix k hx rfl) (kq_ rfl (jft rfl) (kq_ rfl (jlr rfl) (dz 1 rfl (kc_ zD2 rfl (zxh x.r r) (dz 1 rfl (zae (za 1 rfl ?_))))))));refine zap rfl (fun hls=>?_) (fun hls=>?_)
   .refine zc 5 rfl (tq_ rfl (jad (k+1) rfl) (zl 3 rfl ?_));exact nx_ ⟨k+1,rfl,rfl,rfl,hk,fun i m hi hm=>if e:i=k then(by subst e;rw[hx] at hm;cases hm;exact hls) else hlt i m (by omega) hm⟩ rfl
   .refine zc 7 rfl (zcf rfl rfl rfl rfl zcH zbi rfl (znZ 28 2 rfl rfl (zl 2 rfl (tq_ rfl (zhx muE l (k) rfl rfl rfl zcH zbi rfl (by omega)) (te_ rfl (jal (e:=muE) (l:=[]) rfl rfl) (zl 5 rfl (dr_ 0 [] [] (dz 2 rfl (kq_ rfl (jln rfl) ?_)))))))));refine kq_ rfl (ltT rfl) (dz 3 rfl (kq_ rfl (jix k hx rfl) (kq_ rfl (jft rfl) (kq_ rfl (jlr rfl) (dz 1 rfl ?_)))));by_cases heq:x.r=r
    .refine kq_ rfl (zlr rfl rfl rfl zoB (d:=true) (zEi heq)) (dz 1 rfl (zae (za 3 rfl (dr_ 0 [(11,2)] [2] (dz 4 rfl (kq_ rfl (jix k hx rfl) (kq_ rfl (jfr rfl) (kq_ rfl (jlr rfl) (dz 1 rfl ?_)))))))));refine kc_ zqP rfl (zhC x.c (x.c.q) rfl (Fq.use (x:=x.c) (by omega)) (qOf (c)) (c) (zah _) (Br.use (by omega))) (dz 1 rfl (ke_ rfl (fun _=>zad rfl zcH zbi zcZ rfl (by decide) (by decide) rfl (by decide) rfl) (ki_ 2 rfl (dap (e:=muE) (⟨⟨r.kind,r.idx,r.lo,r.hi⟩,(qOf ((x.c.q)+(c)))⟩) rfl rfl) (dz 1 rfl (zae (za 3 rfl (tq_ rfl (jad (k+1) rfl) ?_)))))));refine zl 8 rfl (tq_ rfl (zbz muE l (k+1) rfl rfl rfl zcH zbi rfl (by omega)) (te_ rfl (jal rfl rfl) (zl 3 rfl ?_)));refine zdW 6 (x':=V.one (El.row muE ([]++(l.take (k))++[⟨⟨r.kind,r.idx,r.lo,r.hi⟩,(qOf ((x.c.q)+(c)))⟩]++(l.drop (k+1))))) rfl (RowAt.ofE muE ([]++(l.take (k))++[⟨⟨r.kind,r.idx,r.lo,r.hi⟩,(qOf ((x.c.q)+(c)))⟩]++(l.drop (k+1))) rfl (by decide)) (.inr ⟨rfl,rfl⟩) ?_;exact r1_ hq_ rfl (by unfold zb2;rw[if_neg hc0,zy6 hlt hx heq] <;> rfl)
    .refine kq_ rfl (zlr rfl rfl rfl zoB (d:=false) (zEj heq)) (dz 1 rfl (zae (za 2 rfl (dr_ 0 [(6,2)] [2] (dz 3 rfl (kc_ zjE rfl (zbD (qOf (c)) (c) (zah _) (Br.use (by omega))) (dz 1 rfl (ke_ rfl (fun _=>zad rfl zcH zbi zcZ rfl (by decide) (by decide) rfl (by decide) rfl) ?_))))))));refine ki_ 2 rfl (dap (e:=muE) (⟨⟨r.kind,r.idx,r.lo,r.hi⟩,(qOf (c))⟩) rfl rfl) (dz 1 rfl (zae (za 6 rfl (tq_ rfl (zbz muE l (k) rfl rfl rfl zcH zbi rfl (by omega)) (te_ rfl (jal rfl rfl) (zl 3 rfl ?_))))));refine zdW 6 (x':=V.one (El.row muE ([]++(l.take (k))++[⟨⟨r.kind,r.idx,r.lo,r.hi⟩,(qOf (c))⟩]++(l.drop (k))))) rfl (RowAt.ofE muE ([]++(l.take (k))++[⟨⟨r.kind,r.idx,r.lo,r.hi⟩,(qOf (c))⟩]++(l.drop (k))) rfl (by decide)) (.inr ⟨rfl,rfl⟩) ?_;exact r1_ hq_ rfl (by unfold zb2;rw[if_neg hc0,zy5 hlt hx hls heq] <;> rfl)
  .refine kq_ rfl (ltF rfl) (dz 9 rfl (zae (za 8 rfl ?_)));have hke:k=l.length:=by omega
   refine zc 1 rfl (zcf rfl rfl rfl rfl zcH zbi rfl (znZ 28 2 rfl rfl (zl 2 rfl (tq_ rfl (zhx muE l (k) rfl rfl rfl zcH zbi rfl (by omega)) (te_ rfl (jal (e:=muE) (l:=[]) rfl rfl) (zl 5 rfl (dr_ 0 [] [] (dz 2 rfl (kq_ rfl (jln rfl) ?_)))))))));refine kq_ rfl (ltF rfl) (dz 9 rfl (zae (za 2 rfl (dr_ 0 [(6,2)] [2] (dz 3 rfl (kc_ zjE rfl (zbD (qOf (c)) (c) (zah _) (Br.use (by omega))) (dz 1 rfl (ke_ rfl (fun _=>zad rfl zcH zbi zcZ rfl (by decide) (by decide) rfl (by decide) rfl) (ki_ 2 rfl (dap (e:=muE) (⟨⟨r.kind,r.idx,r.lo,r.hi⟩,(qOf (c))⟩) rfl rfl) ?_)))))))));refine dz 1 rfl (zae (za 6 rfl (tq_ rfl (zbz muE l (k) rfl rfl rfl zcH zbi rfl (by omega)) (te_ rfl (jal rfl rfl) (zl 3 rfl ?_)))));refine zdW 6 (x':=V.one (El.row muE ([]++(l.take (k))++[⟨⟨r.kind,r.idx,r.lo,r.hi⟩,(qOf (c))⟩]++(l.drop (k))))) rfl (RowAt.ofE muE ([]++(l.take (k))++[⟨⟨r.kind,r.idx,r.lo,r.hi⟩,(qOf (c))⟩]++(l.drop (k))) rfl (by decide)) (.inr ⟨rfl,rfl⟩) ?_;exact r1_ hq_ rfl (by unfold zb2;rw[if_neg hc0,zvr (fun i m hi=>hlt i m (by omega)),hke,zFE,List.drop_length,zFF] <;> rfl)
theorem zsp(a b:List Mu)(c:Rat){B C K:Nat}(hA:MB B a)(hB:MB C b)[Br c K](hBC:B+b.length*(C+K+2)+C+K<=200000000000)(hl:a.length<=10000)(hlb:b.length<=10000):Ctr Tryz.prog 59 [V.one (El.row muE a),V.one (El.row muE b),V.agg (qL (c))] (R.one (V.one (El.row muE (zaS a b c)))):=by
 refine bd_ Tryz.func59 Tryz.ntmps59 rfl (fun w0 A0=>?_);refine zc 13 rfl (zbo (fun m Γ H=>∃(i:Nat) (out:List Mu),b.length-i=m/\Γ=[(0,some (D.v (V.one (El.row muE out)))),(1,some (D.v (V.one (El.row muE b)))),(5,some (D.ptr 0 0)),(7,some (D.val (.int .i64 (i:Int))))]/\H=[hb_ 36 (qL c)]/\i<=b.length/\out=zaS a (b.take i) c) ⟨0,a,rfl,rfl,rfl,zFn _,rfl⟩ rfl ?_);rintro m Γ H ⟨i,out,rfl,rfl,rfl,hi0,hout⟩;refine zc 5 rfl (tq_ rfl (jln rfl) ?_);by_cases hi:i<b.length
 .refine tq_ rfl (ltT rfl) (zl 7 rfl ?_);obtain⟨x,hx⟩:∃x,b[i]?=some x:=⟨_,zFh hi⟩;haveI hxb:=hB x (zFi hx);have hol:out.length<=20000:=by rw[hout];refine zFr (zdo _ _ _) ?_;rw[zFy];omega
  have hMB:MB (B+b.length*(C+K+2)) out:=by
   rw[hout];refine(zei (c:=c) hA (fun m hm=>hB m (List.mem_of_mem_take hm))).mono ?_;have:=zFs (C+K+2) (show(b.take i).length<=b.length by rw[zFy];omega);omega
  refine dr_ 0 [] [] (dz 3 rfl (kq_ rfl (jix i hx rfl) (kq_ rfl (jft rfl) (kq_ rfl (jlr rfl) (dz 2 rfl (kq_ rfl (jix i hx rfl) (kq_ rfl (jfr rfl) (kq_ rfl (jlr rfl) (dz 1 rfl ?_)))))))));refine kc_ zqf rfl (zgU x.c (x.c.q) rfl (Fq.use (x:=x.c) (by omega)) (qOf (c)) (c) (zah _) (Br.use (by omega))) (kc_ zsR rfl (zeV out x.r ((x.c.q)*(c)) (by assumption) (by omega) (by omega)) (dz 1 rfl (zae (za 4 rfl (tq_ rfl (jad (i+1) rfl) (zl 2 rfl ?_))))));exact nx_ ⟨i+1,_,rfl,rfl,rfl,hi,by rw[hout,ziO hx]⟩ rfl
 .refine tq_ rfl (ltF rfl) (zl 14 rfl ?_);exact r1_ hq_ rfl (by rw[hout,show i=b.length by omega,zFE])
theorem zuZ(x:Qr)(r:Rat)(hr:x.q=r)(hfx:Fit 1000000000000 x)(y:Qr)(s:Rat)(hs:y.q=s)(hfy:Fit 1000000000000 y)(hs0:s≠0):Ctr Tryz.prog 129 [qV x,qV y] (R.tup [qV (qOf (r/s)),V.one (Leaf.val (.int .i64 0))]):=by
 refine bd_ Tryz.func129 Tryz.ntmps129 rfl (fun w0 A0=>?_);haveI ixn:Bn (val x.n) 1000000000000:=Bn.val x.hn hfx.n;haveI ixd:Bn (val x.d) 1000000000000:=Bn.val x.hd hfx.d;haveI iyn:Bn (val y.n) 1000000000000:=Bn.val y.hn hfy.n;haveI iyd:Bn (val y.d) 1000000000000:=Bn.val y.hd hfy.d;have hyn:val y.n≠0:=fun e=>hs0 (by rw[<-hs];unfold Qr.q;rw[zfe];exact e);refine zc 12 rfl (tc_ zgt rfl (zbx y (s) hs (hfy.mono (by omega))) (tq_ rfl (eqF rfl (zio hs0)) (zl 6 rfl (dr_ 0 [(18,2)] [2] (dz 4 rfl (kq_ rfl (zbR rfl rfl rfl un4 (d:=_) (rfl)) (dz 4 rfl (kc_ zjJ rfl ((zey y.d y.hd (hfy.mono (by omega)).d (val y.d) rfl)) ?_))))))));refine kc_ zkW rfl (zgh x.n (zaa (dn (val y.d))) x.hn (zab _) (hfx.mono (by omega)).n (Bn.use (by omega)) (val x.n) (dn (val y.d)) rfl (zac _)) (dz 2 rfl (kc_ zjJ rfl ((zey x.d x.hd (hfx.mono (by omega)).d (val x.d) rfl)) (dz 2 rfl ?_)));refine kc_ zkW rfl (zgh (zaa (dn (val x.d))) y.n (zab _) y.hn (Bn.use (by omega)) (hfy.mono (by omega)).n (dn (val x.d)) (val y.n) (zac _) rfl) ?_;refine kc_ zsX rfl (zlS (x.neg != y.neg) (zaa ((val x.n)*(dn (val y.d)))) (zaa ((dn (val x.d))*(val y.n))) (zab _) (zab _) (Bn.use (by omega)) (Bn.use (by omega)) ((val x.n)*(dn (val y.d))) ((dn (val x.d))*(val y.n)) (zac _) (zac _) (Nat.mul_ne_zero (zdK _) hyn)) (dz 2 rfl (zae (za 1 rfl ?_)));exact r2_ hq_ rfl (by subst hr;subst hs;rw[zw1 _ _ _ _ _ _ hyn] <;> rfl)
theorem ztQ(s:Sc)(hi3:s.q.g.inp<=1000)(v:Nat)(hv:v<=1000):Ctr Tryz.prog 208 [scV s,V.one (Leaf.val (.int .i64 ((v:Int))))] (R.one (V.one (El.row muE (zdd s.q.g.inp v)))):=by
 refine bd_ Tryz.func208 Tryz.ntmps208 rfl (fun w0 A0=>?_);refine zc 14 rfl ?_;by_cases h1:v<s.q.g.inp
 .refine tq_ rfl (ltT rfl) (zl 7 rfl (tc_ zm1 rfl (zm0 1 (by decide) (by decide)) (zl 1 rfl (te_ rfl (zad rfl zcH zbi zcZ rfl (by decide) (by decide) rfl (by decide) rfl) (zl 3 rfl ?_)))));exact r1_ hq_ rfl (by unfold zdd;rw[if_pos h1] <;> rfl)
 .refine tq_ rfl (ltF rfl) (zl 6 rfl (dr_ 0 [] [] (dz 5 rfl (kq_ rfl (jsb (v-s.q.g.inp) rfl) (dz 1 rfl (kc_ zm1 rfl (zm0 1 (by decide) (by decide)) (dz 1 rfl (ke_ rfl (fun _=>zad rfl zcH zbi zcZ rfl (by decide) (by decide) rfl (by decide) rfl) (dz 1 rfl ?_)))))))));refine zae (za 1 rfl ?_);exact r1_ hq_ rfl (by unfold zdd;rw[if_neg h1] <;> rfl)
set_option maxHeartbeats 2000000 in
theorem zwd(s:Sc){B:Nat}(hB:∀m∈s.lems,Fq m.v B)(hB2:B<=100000000000)(hl:s.lems.length<=1000000)(hi3:s.q.g.inp<=1000)(v:Nat)(hv:v<=1000):Ctr Tryz.prog 207 [scV s,V.one (Leaf.val (.int .i64 ((v:Int))))] (R.tup [V.one (El.row muE ((zbZ s.q.g.inp s.lems v).getD [])),V.one (Leaf.val (.bool (zbZ s.q.g.inp s.lems v).isSome))]):=by
 refine bd_ Tryz.func207 Tryz.ntmps207 rfl (fun w0 A0=>?_);refine zc 9 rfl (tc_ zm1 rfl (zm0 1 (by decide) (by decide)) (zl 12 rfl ?_));by_cases hv1:v<s.q.g.inp
 .refine tq_ rfl (ltT rfl) (zl 9 rfl (te_ rfl (zad rfl zcH zbi zcZ rfl (by decide) (by decide) rfl (by decide) rfl) (zl 4 rfl ?_)));exact r2_ hq_ rfl (by unfold zbZ;rw[if_pos hv1] <;> rfl)
 .refine tq_ rfl (ltF rfl) (zl 12 rfl (tq_ rfl (jsb (v-s.q.g.inp) rfl) (zl 7 rfl (tc_ zxq rfl (zhu s (by assumption) (by omega) (by omega) ((v-s.q.g.inp:Nat):Int)) (zl 11 rfl ?_)))));by_cases hb1:(zam s.lems ((v-s.q.g.inp:Nat):Int)).1=0
  .refine tq_ rfl (eqT rfl) (zl 8 rfl ?_);have hb:(zam s.lems ((v-s.q.g.inp:Nat):Int)).1=0\/(zam s.lems ((v-s.q.g.inp:Nat):Int)).2=0:=.inl hb1;refine zc 5 rfl ?_;exact r2_ hq_ rfl (by unfold zbZ;rw[if_neg hv1,if_pos hb] <;> rfl)
  .refine tq_ rfl (eqF rfl) (zl 2 rfl ?_);by_cases hb2:(zam s.lems ((v-s.q.g.inp:Nat):Int)).2=0
   .refine tq_ rfl (eqT rfl) (zl 5 rfl ?_);have hb:(zam s.lems ((v-s.q.g.inp:Nat):Int)).1=0\/(zam s.lems ((v-s.q.g.inp:Nat):Int)).2=0:=.inr hb2;refine zc 5 rfl ?_;exact r2_ hq_ rfl (by unfold zbZ;rw[if_neg hv1,if_pos hb] <;> rfl)
   .refine tq_ rfl (eqF rfl) (zl 7 rfl ?_);have hb:¬((zam s.lems ((v-s.q.g.inp:Nat):Int)).1=0\/(zam s.lems ((v-s.q.g.inp:Nat):Int)).2=0):=fun h=>h.elim hb1 hb2;obtain⟨y,hy,_,_,hly,hy0,hyl⟩:=zbe hb1;obtain⟨z,hz,_,_,hlz,hz0,hzl⟩:=zbj hb2;haveI hyB:=hB y (zFi hy);haveI hzB:=hB z (zFi hz);refine dr_ 2 [(14,2),(15,3),(16,2),(17,3)] [2,3] (dz 3 rfl (kq_ rfl (jsb (((zam s.lems ((v-s.q.g.inp:Nat):Int)).1)-1) rfl) (kq_ rfl (jix ((zam s.lems ((v-s.q.g.inp:Nat):Int)).1-1) hy rfl) (kq_ rfl (jft rfl) (kq_ rfl (jlr rfl) (dz 3 rfl (kq_ rfl (jsb (((zam s.lems ((v-s.q.g.inp:Nat):Int)).2)-1) rfl) ?_)))))));refine kq_ rfl (jix ((zam s.lems ((v-s.q.g.inp:Nat):Int)).2-1) hz rfl) (kq_ rfl (jft rfl) (kq_ rfl (jlr rfl) (dz 4 rfl (zae (za 6 rfl (tc_ zgt rfl (zbx z.v (z.v.q) rfl (Fq.use (x:=z.v) (by omega))) ?_))))));by_cases hu0:lv s.lems (zam s.lems ((v-s.q.g.inp:Nat):Int)).2<=0
    .refine tq_ rfl (leT rfl (by rw[<-hlz];exact zgb.2 hu0)) (zl 11 rfl (te_ rfl (zad rfl zcH zbi zcZ rfl (by decide) (by decide) rfl (by decide) rfl) (zl 4 rfl ?_)));exact r2_ hq_ rfl (by unfold zbZ;rw[if_neg hv1,if_neg hb,if_pos hu0] <;> rfl)
    .refine tq_ rfl (leF rfl (by rw[<-hlz];exact fun e=>hu0 (zgb.1 e))) (zl 7 rfl (tc_ zgt rfl (zbx y.v (y.v.q) rfl (Fq.use (x:=y.v) (by omega))) ?_));by_cases hl0:0<=lv s.lems (zam s.lems ((v-s.q.g.inp:Nat):Int)).1
     .refine tq_ rfl (geT rfl (by rw[<-hly];exact zgS.2 hl0)) (zl 16 rfl (te_ rfl (zad rfl zcH zbi zcZ rfl (by decide) (by decide) rfl (by decide) rfl) (zl 4 rfl ?_)));exact r2_ hq_ rfl (by unfold zbZ;rw[if_neg hv1,if_neg hb,if_neg hu0,if_pos hl0] <;> rfl)
     .refine tq_ rfl (geF rfl (by rw[<-hly];exact fun e=>hl0 (zgS.1 e))) (zl 8 rfl ?_);rw[hlz] at hu0;rw[hly] at hl0;have hne:z.v.q-y.v.q≠0:=by grind
      refine dr_ 1 [(8,4),(9,4)] [4] (dz 3 rfl (kc_ zvA rfl (zky z.v (z.v.q) rfl (Fq.use (x:=z.v) (by omega)) y.v (y.v.q) rfl (Fq.use (x:=y.v) (by omega))) (kc_ zvJ rfl (zuZ (qOf (((1:Int):Rat))) (((1:Int):Rat)) (zah _) (Br.use (by omega)) (qOf ((z.v.q)-(y.v.q))) ((z.v.q)-(y.v.q)) (zah _) (Br.use (by omega)) (by assumption)) (dz 6 rfl (zae (za 2 rfl ?_))))));refine dr_ 0 [] [] (dz 5 rfl (kc_ zqf rfl (zgU (qOf ((((1:Int):Rat))/((z.v.q)-(y.v.q)))) ((((1:Int):Rat))/((z.v.q)-(y.v.q))) (zah _) (Br.use (by omega)) z.v (z.v.q) rfl (Fq.use (x:=z.v) (by omega))) (dz 7 rfl (ke_ rfl (fun _=>zad rfl zcH zbi zcZ rfl (by decide) (by decide) rfl (by decide) rfl) (dz 2 rfl (zae (za 1 rfl ?_)))))));exact r2_ hq_ rfl (by unfold zbZ;rw[if_neg hv1,if_neg hb,if_neg (by rw[hlz];exact hu0),if_neg (by rw[hly];exact hl0),hlz,hly] <;> rfl)
end Go.Proofs.YtjeiacoegppoiaaGreatDoor
namespace Rc
open Go Go.RowKit
structure FL(B n:Nat)(f:Af):Prop where
 can:CanT f.ts
 bd:∀t∈f.ts,Br t.2 B
 cb:Br f.c B
 var:∀t∈f.ts,t.1<n
theorem FL.mono{B C n m:Nat}{f:Af}(h:FL B n f)(h1:B<=C)(h2:n<=m):FL C m f:=
 ⟨h.can,fun t ht=>(h.bd t ht).mono h1,h.cb.mono h1,fun t ht=>zFq (h.var t ht) h2⟩
theorem FOk.fl{b n:Nat}{f:Af}(h:FOk b n f):FL (b+1) n f:=⟨h.can,fun t ht=>(h.bd t ht).br,h.br,h.var⟩
theorem FL.fm{B n:Nat}{f:Af}(h:FL B n f)(hn:n<=1000000):Fm f.ts B n:=
 ⟨h.can,h.bd,by have:=zlb (a:=0) h.can (fun t ht=>⟨zFn _,h.var t ht⟩);omega,fun t ht=>zFq (h.var t ht) hn⟩
def fV(v:Nat):Af:=⟨[(v,((1:Int):Rat))],0⟩
def fN(c:Rat):Af:=⟨[],c⟩
def zf0(f g:Af):Af:=⟨zgQ f.ts g.ts,f.c+g.c⟩
def fSc(f:Af)(c:Rat):Af:=⟨scT f.ts c,f.c*c⟩
def zcu(f g:Af):Af:=⟨zgQ f.ts (scT g.ts ((-1:Int):Rat)),f.c+g.c*((-1:Int):Rat)⟩
def fZ:Af:=⟨[],0⟩
theorem FL.v{v n:Nat}(h:v<n):FL 2 n (fV v):=
 ⟨⟨by decide,fun t ht=>by simp at ht,trivial⟩,fun t ht=>by simp[fV] at ht;subst ht;exact Br.one,Br.zero.mono (by omega),fun t ht=>by simp[fV] at ht;subst ht;exact h⟩
theorem FL.n{c:Rat}{B n:Nat}(h:Br c B):FL B n (fN c):=⟨trivial,fun t ht=>by simp[fN] at ht,h,fun t ht=>by simp[fN] at ht⟩
theorem FL.z{n:Nat}:FL 0 n fZ:=⟨trivial,fun t ht=>by simp[fZ] at ht,Br.zero,fun t ht=>by simp[fZ] at ht⟩
theorem FL.add{f g:Af}{B C n:Nat}(hf:FL B n f)(hg:FL C n g):FL (B+C+1) n (zf0 f g):=by
 haveI:=hf.cb;haveI:=hg.cb;exact⟨zch hf.can,zm7 hf.can hg.can hf.bd hg.bd,Br.add,zdM hf.var hg.var⟩
theorem FL.sc{f:Af}{c:Rat}{B C n:Nat}(hf:FL B n f)[hc:Br c C]:FL (B+C+1) n (fSc f c):=by
 haveI:=hf.cb;refine⟨by show CanT (scT f.ts c);rw[zdP];exact zfN hf.can,fun t ht=>?_,Br.mul,fun t ht=>?_⟩
 .have ht:t∈scT f.ts c:=ht;rw[zdP] at ht;obtain⟨u,h1,h2,h3,_⟩:=zex ht;rw[h3];haveI:=hf.bd u h1;exact Br.mul
 .have ht:t∈scT f.ts c:=ht;rw[zdP] at ht;obtain⟨u,h1,h2,_⟩:=zex ht;rw[<-h2];exact hf.var u h1
theorem FL.sub{f g:Af}{B C n:Nat}(hf:FL B n f)(hg:FL C n g):FL (B+C+4) n (zcu f g):=by
 have:=hf.add (FL.sc (c:=((-1:Int):Rat)) hg);exact this.mono (by omega) (zFl _)
def DOk(b:Nat)(q:Qu)(d:Dc):Prop:=(((d.kind=1\/d.kind=2)/\d.idx<q.g.us.length/\d.pt=0)\/((d.kind=3\/d.kind=4)/\d.idx<q.g.inp))/\Hb d.pt b
def zet(path:List Dc)(k:Nat)(j:Int):Bool:=path.any (fun d=>((d.kind:Int) == (k:Int))&&((d.idx:Int) == j))
def zvR(path:List Dc)(k:Nat)(j:Int)(n:Nat):Bool:=(path.take n).any (fun d=>((d.kind:Int) == (k:Int))&&((d.idx:Int) == j))
theorem zc3{path:List Dc}{k n:Nat}{j:Int}{d:Dc}(h:path[n]?=some d):zvR path k j (n+1)=(zvR path k j n||(((d.kind:Int) == (k:Int))&&((d.idx:Int) == j))):=by
 unfold zvR;rw[zaF h,List.any_append];simp
theorem zh6{path:List Dc}{k:Nat}{j:Int}:zvR path k j path.length=zet path k j:=by unfold zvR zet;rw[zFE]
theorem zpg{path:List Dc}{k n:Nat}{j:Int}{d:Dc}(h:path[n]?=some d)(h1:((d.kind:Int) == (k:Int))=true)(h2:((d.idx:Int) == j)=true):zet path k j=true:=by
 unfold zet;rw[List.any_eq_true];exact⟨d,zFi h,by rw[h1,h2];rfl⟩
def lem(l:List Lm)(n unit:Int)(up:Bool):Rat×Bool:=
 if n<1 then(0,false) else match l[(n-1).toNat]? with
 |none=>(0,false)
 |some m=>if m.unit=unit/\m.up=up then(m.v.q,true) else(0,false)
theorem zCD{l:List Lm}{n unit:Int}{up:Bool}(h:n<1):lem l n unit up=(0,false):=if_pos h
theorem zCE{l:List Lm}{n unit:Int}{up:Bool}(h:(l.length:Int)<n):lem l n unit up=(0,false):=by
 unfold lem;rw[if_neg (by omega),List.getElem?_eq_none (by omega)]
theorem zxi{l:List Lm}{n unit:Int}{up:Bool}{m:Lm}(h:¬n<1)(hm:l[(n-1).toNat]?=some m)(hn:¬(m.unit=unit/\m.up=up)):lem l n unit up=(0,false):=by
 unfold lem;rw[if_neg h,hm];simp only[];rw[if_neg hn]
theorem zsy{l:List Lm}{n unit:Int}{up:Bool}{m:Lm}(h:¬n<1)(hm:l[(n-1).toNat]?=some m)(hn:m.unit=unit/\m.up=up):lem l n unit up=(m.v.q,true):=by
 unfold lem;rw[if_neg h,hm];simp only[];rw[if_pos hn]
theorem zoR{l:List Lm}{n unit:Int}{up:Bool}{B:Nat}(hB:∀m∈l,Fq m.v B):Br (lem l n unit up).1 B:=by
 unfold lem;split
 .exact Br.zero.mono (zFn _)
 .split
  .exact Br.zero.mono (zFn _)
  .rename_i m hm;split
   .haveI:=hB m (zFi hm);exact Fq.br
   .exact Br.zero.mono (zFn _)
section
variable (s:Sc)(r:Rw)
@[reducible] def zdI:Rat:=(lem s.lems r.lo r.idx false).1
@[reducible] def zvm:Bool:=(lem s.lems r.lo r.idx false).2
@[reducible] def zds:Rat:=(lem s.lems r.hi r.idx true).1
@[reducible] def zuC:Bool:=(lem s.lems r.hi r.idx true).2
def onB:Bool:=(r.hi == 0)&&(((r.lo == 0)&&zet s.path 1 r.idx)||(zvm s r&&decide (0<=sg (zdI s r))))
def zj1:Bool:=(r.lo == 0)&&(((r.hi == 0)&&zet s.path 2 r.idx)||(zuC s r&&decide (sg (zds s r)<=0)))
def zbf(p:Af):Af×Bool:=
 if r.kind=5 then(fV (s.q.g.inp+r.idx.toNat),(r.lo == 0)&&(r.hi == 0))
 else if r.kind=6 then(zcu (fV (s.q.g.inp+r.idx.toNat)) p,(r.lo == 0)&&(r.hi == 0))
 else if r.kind=7 then(p,onB s r)
 else if r.kind=8 then(zcu p (fV (s.q.g.inp+r.idx.toNat)),onB s r)
 else if r.kind=9 then(fSc p ((-1:Int):Rat),zj1 s r)
 else if r.kind=10 then(fSc (fV (s.q.g.inp+r.idx.toNat)) ((-1:Int):Rat),zj1 s r)
 else if r.kind=11 then(zcu p (fN (zdI s r)),zvm s r&&(r.hi == 0))
 else if r.kind=12 then(zcu (fN (zds s r)) p,zuC s r&&(r.lo == 0))
 else if r.kind=13 then(zcu (fSc (zcu p (fN (zdI s r))) (zds s r)) (fSc (fV (s.q.g.inp+r.idx.toNat)) (zds s r-zdI s r)),zvm s r&&zuC s r&&decide (sg (zdI s r)<0)&&decide (0<sg (zds s r)))
 else(fZ,false)
def orZ(x:Af×Bool):Af×Bool:=if x.2=true then x else(fZ,false)
def zii:Af×Bool:=if r.idx<0 then(fZ,false) else match s.q.g.us[r.idx.toNat]? with
 |none=>(fZ,false)
 |some p=>orZ (zbf s r p)
def zeX(d:Dc):Af:=if d.kind=3 then zcu (fV d.idx) (fN d.pt) else fSc (zcu (fV d.idx) (fN d.pt)) ((-1:Int):Rat)
def zaL:Af×Bool:=
 if 5<=r.kind then zii s r
 else if r.lo≠0\/r.hi≠0\/r.idx<0 then(fZ,false)
 else if r.kind=1 then(match s.q.r.lo[r.idx.toNat]? with|some c=>(zcu (fV r.idx.toNat) (fN c),true)|none=>(fZ,false))
 else if r.kind=2 then(match s.q.r.hi[r.idx.toNat]? with|some c=>(zcu (fN c) (fV r.idx.toNat),true)|none=>(fZ,false))
 else if r.kind=3 then(match s.q.r.rows[r.idx.toNat]? with|some f=>(f,true)|none=>(fZ,false))
 else if r.kind=4 then(match s.path[r.idx.toNat]? with|some d=>if 3<=d.kind then(zeX d,true) else(fZ,false)|none=>(fZ,false))
 else(fZ,false)
end
theorem zd0{s:Sc}{r:Rw}{p f:Af}(h1:¬r.idx<0)(hp:s.q.g.us[r.idx.toNat]?=some p)(h:zbf s r p=(f,true)):zii s r=(f,true):=by
 unfold zii;rw[if_neg h1,hp];simp only[h,orZ,if_true]
theorem zb5{s:Sc}{r:Rw}{p:Af}(h1:¬r.idx<0)(hp:s.q.g.us[r.idx.toNat]?=some p)(h:(zbf s r p).2=false):zii s r=(fZ,false):=by
 unfold zii;rw[if_neg h1,hp];simp only[orZ];rw[if_neg (by rw[h];decide)]
theorem zbE(b:Bool)(ls:List Leaf)(h:ls=[tmE.row [],Leaf.val (.bool false),nilL,nilL]):R.tup [V.agg ls,V.one (Leaf.val (.bool b))]=R.tup [afV fZ,V.one (Leaf.val (.bool b))]:=by
 subst h;show _=R.tup [afV ⟨[],0⟩,_];rw[af0]
theorem qOf0:qOf 0=qZero:=by
 show Qr.mk (zaP 0) (zaa (zav 0)) (zaa (zaz 0)) _ _=Qr.mk false [] [] _ _;simp only[Qr.mk.injEq,zbq,zbr,zai,and_true];decide
theorem zuA{s:Sc}{r:Rw}{p:Af}{B n:Nat}(hB:∀m∈s.lems,Fq m.v B)(hp:FL 4 n p)(hv:s.q.g.inp+r.idx.toNat<n):FL (4*B+40) n (zbf s r p).1:=by
 haveI hl:Br (zdI s r) B:=zoR hB;haveI ht:Br (zds s r) B:=zoR hB;have h1:=FL.v hv;have m:∀{C:Nat} {f:Af},FL C n f->C<=4*B+40->FL (4*B+40) n f:=fun h hc=>h.mono hc (zFl _);unfold zbf;split;· exact m h1 (by omega)
 split;· exact m (h1.sub hp) (by omega)
 split;· exact m hp (by omega)
 split;· exact m (hp.sub h1) (by omega)
 split;· exact m (FL.sc (c:=((-1:Int):Rat)) hp) (by omega)
 split;· exact m (FL.sc (c:=((-1:Int):Rat)) h1) (by omega)
 split;· exact m (hp.sub (FL.n hl)) (by omega)
 split;· exact m ((FL.n ht).sub hp) (by omega)
 split;· exact m ((FL.sc (c:=zds s r) (hp.sub (FL.n hl))).sub (FL.sc (c:=zds s r-zdI s r) h1)) (by omega)
 exact m FL.z (by omega)
theorem zuz{s:Sc}{r:Rw}{B:Nat}(hq:QOk s.q)(hB:∀m∈s.lems,Fq m.v B):FL (4*B+40) (s.q.g.inp+s.q.g.us.length) (zii s r).1:=by
 unfold zii;split
 .exact FL.z.mono (by omega) (zFl _)
 .split
  .exact FL.z.mono (by omega) (zFl _)
  .rename_i p hp;have hj:=(zFj.1 hp).1;unfold orZ;split
   .exact zuA hB ((hq.g.us _ p hp).fl.mono (by omega) (by omega)) (by omega)
   .exact FL.z.mono (by omega) (zFl _)
theorem zkS{s:Sc}{r:Rw}{B b:Nat}(hq:QOk s.q)(hd:∀d∈s.path,DOk b s.q d)(hB:∀m∈s.lems,Fq m.v B):FL (4*B+b+40) (s.q.g.inp+s.q.g.us.length) (zaL s r).1:=by
 have z:FL (4*B+b+40) (s.q.g.inp+s.q.g.us.length) fZ:=FL.z.mono (by omega) (zFl _);have m:∀{C:Nat} {f:Af},FL C (s.q.g.inp+s.q.g.us.length) f->C<=4*B+b+40->FL (4*B+b+40) (s.q.g.inp+s.q.g.us.length) f:=fun h hc=>h.mono hc (zFl _);unfold zaL;split
 .exact m (zuz hq hB) (by omega)
 split
 .exact z
 split
 .split
  .rename_i c hc;have hj:=(zFj.1 hc).1;have hl:=hq.r.lo;have hh:=hq.r.hi;obtain⟨y,hy⟩:∃y,s.q.r.hi[r.idx.toNat]?=some y:=⟨_,zFh (by omega)⟩;exact m ((FL.v (by omega)).sub (FL.n (hq.r.bd _ _ _ hc hy).1.br)) (by omega)
  .exact z
 split
 .split
  .rename_i c hc;have hj:=(zFj.1 hc).1;have hl:=hq.r.lo;have hh:=hq.r.hi;obtain⟨y,hy⟩:∃y,s.q.r.lo[r.idx.toNat]?=some y:=⟨_,zFh (by omega)⟩;exact m ((FL.n (hq.r.bd _ _ _ hy hc).2.1.br).sub (FL.v (by omega))) (by omega)
  .exact z
 split
 .split
  .rename_i f hf;exact(hq.r.rows f (zFi hf)).fl.mono (by omega) (by omega)
  .exact z
 split
 .split
  .rename_i d hdd;have hok:=hd d (zFi hdd);split
   .rename_i h3;have hv:d.idx<s.q.g.inp+s.q.g.us.length:=by rcases hok.1 with⟨h,_⟩|⟨_,h⟩ <;> omega
    unfold zeX;split
    .exact m ((FL.v hv).sub (FL.n hok.2.br)) (by omega)
    .exact m (FL.sc (c:=((-1:Int):Rat)) ((FL.v hv).sub (FL.n hok.2.br))) (by omega)
   .exact z
  .exact z
 exact z
def zmZ(s:Sc)(l:List Mu):Af:=l.foldl (fun a m=>zf0 a (fSc (zaL s m.r).1 m.c.q)) fZ
theorem zrg(s:Sc)(l:List Mu)(m:Mu):zmZ s (l++[m])=zf0 (zmZ s l) (fSc (zaL s m.r).1 m.c.q):=by unfold zmZ;rw[zFJ];rfl
theorem zrf{s:Sc}{l:List Mu}{i:Nat}{m:Mu}(h:l[i]?=some m):zmZ s (l.take (i+1))=zf0 (zmZ s (l.take i)) (fSc (zaL s m.r).1 m.c.q):=by rw[zaF h,zrg]
theorem zo5{s:Sc}{B b C:Nat}(hq:QOk s.q)(hd:∀d∈s.path,DOk b s.q d)(hB:∀m∈s.lems,Fq m.v B):∀(l:List Mu) (a:Af) (K:Nat),FL K (s.q.g.inp+s.q.g.us.length) a->MB C l →
  FL (K+l.length*(4*B+b+C+42)) (s.q.g.inp+s.q.g.us.length) (l.foldl (fun a m=>zf0 a (fSc (zaL s m.r).1 m.c.q)) a)
 |[],a,K,h,_=>h.mono (by omega) (zFl _)
 |m::l,a,K,h,hm=>by
  haveI:=hm m (by simp);have h1:=h.add (FL.sc (c:=m.c.q) (zkS (r:=m.r) hq hd hB));have h2:=zo5 hq hd hB l _ _ h1 (fun x hx=>hm x (by simp[hx]));refine h2.mono ?_ (zFl _);simp only[List.length_cons,Nat.add_mul];omega
theorem zrh{s:Sc}{l:List Mu}{B b C:Nat}(hq:QOk s.q)(hd:∀d∈s.path,DOk b s.q d)(hB:∀m∈s.lems,Fq m.v B)(hm:MB C l):FL (l.length*(4*B+b+C+42)) (s.q.g.inp+s.q.g.us.length) (zmZ s l):=
 (zo5 hq hd hB l fZ 0 FL.z hm).mono (by omega) (zFl _)
theorem MB.take{C n:Nat}{l:List Mu}(h:MB C l):MB C (l.take n):=fun m hm=>h m (List.mem_of_mem_take hm)
def zgG(inp:Nat)(lems:List Lm)(a:List Mu×Bool)(t:Tm):List Mu×Bool:=
 if a.2=true then
  if 0<t.2 then(zaS a.1 (zdd inp t.1) (rq false (zav t.2) (zaz t.2)),true)
  else match zbZ inp lems t.1 with
   |some m=>(zaS a.1 m (rq false (zav t.2) (zaz t.2)),true)
   |none=>([],false)
 else a
def znW(inp:Nat)(lems:List Lm)(ts:List Tm):List Mu×Bool:=ts.foldl (zgG inp lems) ([],true)
theorem ztW(inp:Nat)(lems:List Lm)(ts:List Tm)(t:Tm):znW inp lems (ts++[t])=zgG inp lems (znW inp lems ts) t:=by unfold znW;rw[zFJ];rfl
theorem zjl{inp:Nat}{lems:List Lm}{ts:List Tm}{i:Nat}{t:Tm}(h:ts[i]?=some t):znW inp lems (ts.take (i+1))=zgG inp lems (znW inp lems (ts.take i)) t:=by rw[zaF h,ztW]
theorem zlm{inp:Nat}{lems:List Lm}:∀(ts:List Tm) (a:List Mu×Bool),a.2=false->(ts.foldl (zgG inp lems) a).2=false
 |[],a,h=>h
 |t::ts,a,h=>zlm ts _ (by unfold zgG;rw[if_neg (by rw[h];decide)];exact h)
theorem zwl{inp:Nat}{lems:List Lm}{ts:List Tm}{i:Nat}(h:(znW inp lems (ts.take i)).2=false):(znW inp lems ts).2=false:=by
 have e:znW inp lems ts=(ts.drop i).foldl (zgG inp lems) (znW inp lems (ts.take i)):=by
  unfold znW;rw[<-zFJ,List.take_append_drop]
 rw[e];exact zlm _ _ h
end Rc
namespace Go.Proofs.YtjeiacoegppoiaaGreatDoor
open Go Go.RowKit Rc
set_option maxHeartbeats 2000000 in
theorem zsx(s:Sc){B:Nat}(hB:∀m∈s.lems,Fq m.v B)(hB2:B<=100000000000)(hl:s.lems.length<=1000000)(n u:Int)(up:Bool):Ctr Tryz.prog 197 [scV s,V.one (Leaf.val (.int .i64 (n))),V.one (Leaf.val (.int .i64 (u))),V.one (Leaf.val (.bool up))] (R.tup [qV (qOf (lem s.lems n u up).1),V.one (Leaf.val (.bool (lem s.lems n u up).2))]):=by
 refine bd_ Tryz.func197 Tryz.ntmps197 rfl (fun w0 A0=>?_);refine zc 11 rfl ?_;by_cases h1:n<1
 .refine tq_ rfl (ltT rfl) (zl 24 rfl (zl 15 rfl ?_));exact r2_ hq_ rfl (by rw[zCD h1];show _=R.tup [qV (qOf 0),V.one (Leaf.val (.bool false))];rw[<-zc8] <;> rfl)
 .refine tq_ rfl (ltF rfl) (zl 4 rfl (tq_ rfl (jln rfl) ?_));by_cases h2:(s.lems.length:Int)<n
  .refine tq_ rfl (gtT rfl) (zl 24 rfl (za 9 rfl ?_));exact r2_ hq_ rfl (by rw[zCE h2];show _=R.tup [qV (qOf 0),V.one (Leaf.val (.bool false))];rw[<-zc8] <;> rfl)
  .refine tq_ rfl (gtF rfl) (zl 2 rfl ?_);obtain⟨x,hx⟩:∃x,s.lems[(n-1).toNat]?=some x:=⟨_,zFh (by omega)⟩;haveI hxB:=hB x (zFi hx);refine zl 3 rfl (tq_ rfl (zaQ rfl rfl rfl (r:=(n-1)) (w64 (by omega) (by omega) (by omega))) (tq_ rfl (jix ((n-1).toNat) hx rfl (by omega)) (tq_ rfl (jfr rfl) (tq_ rfl (jli rfl) (zl 1 rfl ?_)))));by_cases h3:x.unit≠u
   .refine tq_ rfl (neT rfl) (zl 22 rfl ?_);exact r2_ hq_ rfl (by rw[zxi h1 hx (fun e=>h3 e.1)];show _=R.tup [qV (qOf 0),V.one (Leaf.val (.bool false))];rw[<-zc8] <;> rfl)
   .refine tq_ rfl (neF rfl) (zl 5 rfl (tq_ rfl (zaQ rfl rfl rfl (r:=(n-1)) (w64 (by omega) (by omega) (by omega))) (tq_ rfl (jix ((n-1).toNat) hx rfl (by omega)) (tq_ rfl (jfr rfl) (tq_ rfl (jli rfl) (zl 1 rfl ?_))))));by_cases h4:x.up≠up
    .refine tq_ rfl (zbR rfl rfl rfl un4 (d:=true) (bne_iff_ne.2 h4)) (zl 11 rfl ?_);exact r2_ hq_ rfl (by rw[zxi h1 hx (fun e=>h4 e.2)];show _=R.tup [qV (qOf 0),V.one (Leaf.val (.bool false))];rw[<-zc8] <;> rfl)
    .refine tq_ rfl (zbR rfl rfl rfl un4 (d:=false) (by rw[Classical.not_not.1 h4];simp)) (zl 11 rfl (tq_ rfl (zaQ rfl rfl rfl (r:=(n-1)) (w64 (by omega) (by omega) (by omega))) (tq_ rfl (jix ((n-1).toNat) hx rfl (by omega)) (tq_ rfl (jft rfl) (tq_ rfl (jlr rfl) (tc_ zjE rfl (zbD x.v (x.v.q) rfl (Fq.use (x:=x.v) (by omega))) (zl 4 rfl ?_)))))));exact r2_ hq_ rfl (by rw[zsy h1 hx ⟨Classical.not_not.1 h3,Classical.not_not.1 h4⟩] <;> rfl)
theorem zo8(q:Qu)(d:Dc){b:Nat}(hd:DOk b q d)(hb:b<=1000000):Ctr Tryz.prog 137 [quV q,dcV d] (R.one (V.one (Leaf.val (.bool true)))):=by
 refine bd_ Tryz.func137 Tryz.ntmps137 rfl (fun w0 A0=>?_);obtain⟨hk,hbt⟩:=hd;haveI:=hbt.br;have hkk:d.kind=1\/d.kind=2\/d.kind=3\/d.kind=4:=by rcases hk with⟨h,_⟩|⟨h,_⟩ <;> omega
 refine zc 18 rfl ?_;by_cases h1:d.kind=1
 .refine tq_ rfl (eqT rfl) (zl 8 rfl ?_);have hp0:d.idx<q.g.us.length/\d.pt=0:=by rcases hk with⟨_,h⟩|⟨h,_⟩ <;> first|exact h|omega
  refine zc 3 rfl (tq_ rfl (geT rfl) (zl 6 rfl (tq_ rfl (jln rfl) (tq_ rfl (ltT rfl) (zl 5 rfl (tc_ zAe rfl (ziv (qOf (d.pt)) qZero) (is_ true rfl (by rw[hp0.2,qOf0];rfl) (zl 4 rfl ?_))))))));exact r1_ hq_ rfl rfl
 .refine tq_ rfl (eqF rfl) (zl 5 rfl ?_);by_cases h2:d.kind=2
  .refine tq_ rfl (eqT rfl) (zl 5 rfl ?_);have hp0:d.idx<q.g.us.length/\d.pt=0:=by rcases hk with⟨_,h⟩|⟨h,_⟩ <;> first|exact h|omega
   refine zc 3 rfl (tq_ rfl (geT rfl) (zl 6 rfl (tq_ rfl (jln rfl) (tq_ rfl (ltT rfl) (zl 5 rfl (tc_ zAe rfl (ziv (qOf (d.pt)) qZero) (is_ true rfl (by rw[hp0.2,qOf0];rfl) (zl 4 rfl ?_))))))));exact r1_ hq_ rfl rfl
  .refine tq_ rfl (eqF rfl) (zl 7 rfl ?_);by_cases h3:d.kind=3
   .refine tq_ rfl (eqT rfl) (zl 8 rfl ?_);have hp0:d.idx<q.g.inp:=by rcases hk with⟨h,_⟩|⟨_,h⟩ <;> first|exact h|omega
    refine zc 3 rfl (tq_ rfl (geT rfl) (zl 6 rfl (tq_ rfl (ltT rfl) (zl 4 rfl (tc_ zAa rfl (zfQ (qOf (d.pt)) (d.pt) (zah _) (Br.use (by omega))) (is_ true rfl (zek _) (zl 4 rfl ?_)))))));exact r1_ hq_ rfl rfl
   .refine tq_ rfl (eqF rfl) (zl 5 rfl (tq_ rfl (eqT rfl) (zl 5 rfl ?_)));have hp0:d.idx<q.g.inp:=by rcases hk with⟨h,_⟩|⟨_,h⟩ <;> first|exact h|omega
    refine zc 3 rfl (tq_ rfl (geT rfl) (zl 6 rfl (tq_ rfl (ltT rfl) (zl 4 rfl (tc_ zAa rfl (zfQ (qOf (d.pt)) (d.pt) (zah _) (Br.use (by omega))) (is_ true rfl (zek _) (zl 4 rfl ?_)))))));exact r1_ hq_ rfl rfl
theorem zen(s:Sc){b:Nat}(hq:QOk s.q)(hd:∀d∈s.path,DOk b s.q d)(hb:b<=1000000)(hpl:s.path.length<=1000)(k:Nat)(j:Int):Ctr Tryz.prog 148 [scV s,V.one (Leaf.val (.int .i64 ((k:Int)))),V.one (Leaf.val (.int .i64 (j)))] (R.one (V.one (Leaf.val (.bool (zet s.path k j))))):=by
 refine bd_ Tryz.func148 Tryz.ntmps148 rfl (fun w0 A0=>?_);refine zc 13 rfl (zbo (fun m Γ H=>∃(i:Nat),s.path.length-i=m/\Γ=[(1,some (D.val (.int .i64 (k:Int)))),(2,some (D.val (.int .i64 j))),(3,some (D.ptr 0 0)),(7,some (D.val (.int .i64 (i:Int))))]/\H=[hb_ 43 (scL s)]/\i<=s.path.length/\zvR s.path k j i=false) ⟨0,rfl,rfl,rfl,zFn _,rfl⟩ rfl ?_);rintro m Γ H ⟨i,rfl,rfl,rfl,hi0,hno⟩;refine zc 6 rfl (tq_ rfl (jln rfl) ?_);by_cases hi:i<s.path.length
 .refine tq_ rfl (ltT rfl) (zl 8 rfl ?_);obtain⟨x,hx⟩:∃x,s.path[i]?=some x:=⟨_,zFh hi⟩;have hxd:=hd x (zFi hx);refine dr_ 0 [] [] (dz 3 rfl (kq_ rfl (jix i hx rfl) (kq_ rfl (jfr rfl) (kq_ rfl (jli rfl) (dz 3 rfl ?_)))));refine zqO rfl (fun hk1=>?_) (fun hk1=>?_)
  .refine dz 19 rfl (zae (za 7 rfl (tq_ rfl (jad (i+1) rfl) (zl 2 rfl ?_))));exact nx_ ⟨i+1,rfl,rfl,rfl,hi,by rw[zc3 hx,hno,hk1];rfl⟩ rfl
  .refine dz 3 rfl (kq_ rfl (jix i hx rfl) (kq_ rfl (jfr rfl) (kq_ rfl (jli rfl) (dz 4 rfl ?_))));refine zqO rfl (fun hk2=>?_) (fun hk2=>?_)
   .refine dz 9 rfl (zae (za 7 rfl (tq_ rfl (jad (i+1) rfl) (zl 2 rfl ?_))));exact nx_ ⟨i+1,rfl,rfl,rfl,hi,by rw[zc3 hx,hno,hk1,hk2];rfl⟩ rfl
   .refine dz 5 rfl (kq_ rfl (jix i hx rfl) (kq_ rfl (jlr rfl) (kc_ zvI rfl (zo8 s.q x (by assumption) (by omega)) (dz 1 rfl (zae (za 7 rfl ?_))))));exact r1_ hq_ rfl (by rw[zpg hx hk1 hk2])
 .refine tq_ rfl (ltF rfl) (zl 13 rfl ?_);exact r1_ hq_ rfl (by rw[<-zh6,<-show i=s.path.length by omega,hno])
end Go.Proofs.YtjeiacoegppoiaaGreatDoor
