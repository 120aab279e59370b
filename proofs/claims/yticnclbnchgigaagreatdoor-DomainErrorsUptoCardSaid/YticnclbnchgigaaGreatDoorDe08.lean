/- Parts of the proof, 8: the texts WlI, Form, WlJ, WlK, WlL, Abv, WlM, WlN, Bnd, DyM, DyQ, DyR, as far as they are used. -/
import Derived.Test.YticnclbnchgigaaGreatDoorDe07
set_option linter.unusedSimpArgs false
set_option linter.unusedVariables false
set_option maxRecDepth 10000
namespace Go.Proofs.YticnclbnchgigaaGreatDoor
open Go Go.RowKit Rc
theorem zsp(a b:List Mu)(c:Rat){B C K:Nat}(hA:MB B a)(hB:MB C b)[Br c K](hBC:B+b.length*(C+K+2)+C+K<=200000000000)(hl:a.length<=10000)(hlb:b.length<=10000):Ctr Tryz.prog 149 [V.one (El.row muE a),V.one (El.row muE b),V.agg (qL (c))] (R.one (V.one (El.row muE (zaO a b c)))):=by
 refine bd_ Tryz.func149 Tryz.ntmps149 rfl (fun w0 A0=>?_);refine zc 13 rfl (zbO (fun m Γ H=>∃(i:Nat) (out:List Mu),b.length-i=m/\Γ=[(0,some (D.v (V.one (El.row muE out)))),(1,some (D.v (V.one (El.row muE b)))),(5,some (D.ptr 0 0)),(7,some (D.val (.int .i64 (i:Int))))]/\H=[hb_ 33 (qL c)]/\i<=b.length/\out=zaO a (b.take i) c) ⟨0,a,rfl,rfl,rfl,zxg _,rfl⟩ rfl ?_);rintro m Γ H ⟨i,out,rfl,rfl,rfl,hi0,hout⟩;refine zc 5 rfl (tq_ rfl (jln rfl) ?_);by_cases hi:i<b.length
 .refine tq_ rfl (ltT rfl) (zl 7 rfl ?_);obtain⟨x,hx⟩:∃x,b[i]?=some x:=⟨_,zxa hi⟩;haveI hxb:=hB x (zxb hx);have hol:out.length<=20000:=by rw[hout];refine zxk (zeR _ _ _) ?_;rw[zxr];omega
  have hMB:MB (B+b.length*(C+K+2)) out:=by
   rw[hout];refine(ziy (c:=c) hA (fun m hm=>hB m (List.mem_of_mem_take hm))).mono ?_;have:=zxl (C+K+2) (show(b.take i).length<=b.length by rw[zxr];omega);omega
  refine dr_ 0 [] [] (dz 3 rfl (kq_ rfl (jix i hx rfl) (kq_ rfl (jft rfl) (kq_ rfl (jlr rfl) (dz 2 rfl (kq_ rfl (jix i hx rfl) (kq_ rfl (jfr rfl) (kq_ rfl (jlr rfl) (dz 1 rfl ?_)))))))));refine kc_ zwY rfl (zpb x.c (x.c.q) rfl (Fq.use (x:=x.c) (by omega)) (qOf (c)) (c) (zao _) (Br.use (by omega))) (kc_ fn154 rfl (zuC out x.r ((x.c.q)*(c)) (by assumption) (by omega) (by omega)) (dz 1 rfl (zad (za 4 rfl (tq_ rfl (jad (i+1) rfl) (zl 2 rfl ?_))))));exact nx_ ⟨i+1,_,rfl,rfl,rfl,hi,by rw[hout,zjz hx]⟩ rfl
 .refine tq_ rfl (ltF rfl) (zl 14 rfl ?_);exact r1_ hq_ rfl (by rw[hout,show i=b.length by omega,zxx])
theorem rqdiv(x:Qr)(r:Rat)(hr:x.q=r)(hfx:Fit 1000000000000 x)(y:Qr)(s:Rat)(hs:y.q=s)(hfy:Fit 1000000000000 y)(hs0:s≠0):Ctr Tryz.prog 153 [qV x,qV y] (R.tup [qV (qOf (r/s)),V.one (Leaf.val (.int .i64 0))]):=by
 refine bd_ Tryz.func153 Tryz.ntmps153 rfl (fun w0 A0=>?_);haveI ixn:Bn (val x.n) 1000000000000:=Bn.val x.hn hfx.n;haveI ixd:Bn (val x.d) 1000000000000:=Bn.val x.hd hfx.d;haveI iyn:Bn (val y.n) 1000000000000:=Bn.val y.hn hfy.n;haveI iyd:Bn (val y.d) 1000000000000:=Bn.val y.hd hfy.d;have hyn:val y.n≠0:=fun e=>hs0 (by rw[<-hs];unfold Qr.q;rw[zgU];exact e);refine zc 12 rfl (tc_ zhU rfl (zb2 y (s) hs (hfy.mono (by omega))) (tq_ rfl (eqF rfl (zfi hs0)) (zl 6 rfl (dr_ 0 [(18,2)] [2] (dz 4 rfl (kq_ rfl (zbP rfl rfl rfl un4 (d:=_) (rfl)) (dz 4 rfl (kc_ zpG rfl ((zdd y.d y.hd (hfy.mono (by omega)).d (val y.d) rfl)) ?_))))))));refine kc_ zsT rfl (zfM x.n (zab (dn (val y.d))) x.hn (zaa _) (hfx.mono (by omega)).n (Bn.use (by omega)) (val x.n) (dn (val y.d)) rfl (zac _)) (dz 2 rfl (kc_ zpG rfl ((zdd x.d x.hd (hfx.mono (by omega)).d (val x.d) rfl)) (dz 2 rfl ?_)));refine kc_ zsT rfl (zfM (zab (dn (val x.d))) y.n (zaa _) y.hn (Bn.use (by omega)) (hfy.mono (by omega)).n (dn (val x.d)) (val y.n) (zac _) rfl) ?_;refine kc_ zvY rfl (zil (x.neg != y.neg) (zab ((val x.n)*(dn (val y.d)))) (zab ((dn (val x.d))*(val y.n))) (zaa _) (zaa _) (Bn.use (by omega)) (Bn.use (by omega)) ((val x.n)*(dn (val y.d))) ((dn (val x.d))*(val y.n)) (zac _) (zac _) (Nat.mul_ne_zero (zc3 _) hyn)) (dz 2 rfl (zad (za 1 rfl ?_)));exact r2_ hq_ rfl (by subst hr;subst hs;rw[zuu _ _ _ _ _ _ hyn] <;> rfl)
theorem zob(s:Sc)(hi3:s.q.g.inp<=1000)(v:Nat)(hv:v<=1000):Ctr Tryz.prog 148 [scV s,V.one (Leaf.val (.int .i64 ((v:Int))))] (R.one (V.one (El.row muE (zbw s.q.g.inp v)))):=by
 refine bd_ Tryz.func148 Tryz.ntmps148 rfl (fun w0 A0=>?_);refine zc 14 rfl ?_;by_cases h1:v<s.q.g.inp
 .refine tq_ rfl (ltT rfl) (zl 7 rfl (tc_ fn8 rfl (zl6 1 (by decide) (by decide)) (zl 1 rfl (te_ rfl (zag rfl zh0 zdr zgA rfl (by decide) (by decide) rfl (by decide) rfl) (zl 3 rfl ?_)))));exact r1_ hq_ rfl (by unfold zbw;rw[if_pos h1] <;> rfl)
 .refine tq_ rfl (ltF rfl) (zl 6 rfl (dr_ 0 [] [] (dz 5 rfl (kq_ rfl (jsb (v-s.q.g.inp) rfl) (dz 1 rfl (kc_ fn8 rfl (zl6 1 (by decide) (by decide)) (dz 1 rfl (ke_ rfl (fun _=>zag rfl zh0 zdr zgA rfl (by decide) (by decide) rfl (by decide) rfl) (dz 1 rfl ?_)))))))));refine zad (za 1 rfl ?_);exact r1_ hq_ rfl (by unfold zbw;rw[if_neg h1] <;> rfl)
set_option maxHeartbeats 2000000 in
theorem zp4(s:Sc){B:Nat}(hB:∀m∈s.lems,Fq m.v B)(hB2:B<=100000000000)(hl:s.lems.length<=1000000)(hi3:s.q.g.inp<=1000)(v:Nat)(hv:v<=1000):Ctr Tryz.prog 147 [scV s,V.one (Leaf.val (.int .i64 ((v:Int))))] (R.tup [V.one (El.row muE ((za4 s.q.g.inp s.lems v).getD [])),V.one (Leaf.val (.bool (za4 s.q.g.inp s.lems v).isSome))]):=by
 refine bd_ Tryz.func147 Tryz.ntmps147 rfl (fun w0 A0=>?_);refine zc 9 rfl (tc_ fn8 rfl (zl6 1 (by decide) (by decide)) (zl 12 rfl ?_));by_cases hv1:v<s.q.g.inp
 .refine tq_ rfl (ltT rfl) (zl 9 rfl (te_ rfl (zag rfl zh0 zdr zgA rfl (by decide) (by decide) rfl (by decide) rfl) (zl 4 rfl ?_)));exact r2_ hq_ rfl (by unfold za4;rw[if_pos hv1] <;> rfl)
 .refine tq_ rfl (ltF rfl) (zl 12 rfl (tq_ rfl (jsb (v-s.q.g.inp) rfl) (zl 7 rfl (tc_ fn152 rfl (zwn s (by assumption) (by omega) (by omega) ((v-s.q.g.inp:Nat):Int)) (zl 11 rfl ?_)))));by_cases hb1:(zaR s.lems ((v-s.q.g.inp:Nat):Int)).1=0
  .refine tq_ rfl (eqT rfl) (zl 8 rfl ?_);have hb:(zaR s.lems ((v-s.q.g.inp:Nat):Int)).1=0\/(zaR s.lems ((v-s.q.g.inp:Nat):Int)).2=0:=.inl hb1;refine zc 5 rfl ?_;exact r2_ hq_ rfl (by unfold za4;rw[if_neg hv1,if_pos hb] <;> rfl)
  .refine tq_ rfl (eqF rfl) (zl 2 rfl ?_);by_cases hb2:(zaR s.lems ((v-s.q.g.inp:Nat):Int)).2=0
   .refine tq_ rfl (eqT rfl) (zl 5 rfl ?_);have hb:(zaR s.lems ((v-s.q.g.inp:Nat):Int)).1=0\/(zaR s.lems ((v-s.q.g.inp:Nat):Int)).2=0:=.inr hb2;refine zc 5 rfl ?_;exact r2_ hq_ rfl (by unfold za4;rw[if_neg hv1,if_pos hb] <;> rfl)
   .refine tq_ rfl (eqF rfl) (zl 7 rfl ?_);have hb:¬((zaR s.lems ((v-s.q.g.inp:Nat):Int)).1=0\/(zaR s.lems ((v-s.q.g.inp:Nat):Int)).2=0):=fun h=>h.elim hb1 hb2;obtain⟨y,hy,_,_,hly,hy0,hyl⟩:=zgo hb1;obtain⟨z,hz,_,_,hlz,hz0,hzl⟩:=ze0 hb2;haveI hyB:=hB y (zxb hy);haveI hzB:=hB z (zxb hz);refine dr_ 2 [(14,2),(15,3),(16,2),(17,3)] [2,3] (dz 3 rfl (kq_ rfl (jsb (((zaR s.lems ((v-s.q.g.inp:Nat):Int)).1)-1) rfl) (kq_ rfl (jix ((zaR s.lems ((v-s.q.g.inp:Nat):Int)).1-1) hy rfl) (kq_ rfl (jft rfl) (kq_ rfl (jlr rfl) (dz 3 rfl (kq_ rfl (jsb (((zaR s.lems ((v-s.q.g.inp:Nat):Int)).2)-1) rfl) ?_)))))));refine kq_ rfl (jix ((zaR s.lems ((v-s.q.g.inp:Nat):Int)).2-1) hz rfl) (kq_ rfl (jft rfl) (kq_ rfl (jlr rfl) (dz 4 rfl (zad (za 6 rfl (tc_ zhU rfl (zb2 z.v (z.v.q) rfl (Fq.use (x:=z.v) (by omega))) ?_))))));by_cases hu0:lv s.lems (zaR s.lems ((v-s.q.g.inp:Nat):Int)).2<=0
    .refine tq_ rfl (leT rfl (by rw[<-hlz];exact zrQ.2 hu0)) (zl 11 rfl (te_ rfl (zag rfl zh0 zdr zgA rfl (by decide) (by decide) rfl (by decide) rfl) (zl 4 rfl ?_)));exact r2_ hq_ rfl (by unfold za4;rw[if_neg hv1,if_neg hb,if_pos hu0] <;> rfl)
    .refine tq_ rfl (leF rfl (by rw[<-hlz];exact fun e=>hu0 (zrQ.1 e))) (zl 7 rfl (tc_ zhU rfl (zb2 y.v (y.v.q) rfl (Fq.use (x:=y.v) (by omega))) ?_));by_cases hl0:0<=lv s.lems (zaR s.lems ((v-s.q.g.inp:Nat):Int)).1
     .refine tq_ rfl (geT rfl (by rw[<-hly];exact zrR.2 hl0)) (zl 16 rfl (te_ rfl (zag rfl zh0 zdr zgA rfl (by decide) (by decide) rfl (by decide) rfl) (zl 4 rfl ?_)));exact r2_ hq_ rfl (by unfold za4;rw[if_neg hv1,if_neg hb,if_neg hu0,if_pos hl0] <;> rfl)
     .refine tq_ rfl (geF rfl (by rw[<-hly];exact fun e=>hl0 (zrR.1 e))) (zl 8 rfl ?_);rw[hlz] at hu0;rw[hly] at hl0;have hne:z.v.q-y.v.q≠0:=by grind
      refine dr_ 1 [(8,4),(9,4)] [4] (dz 3 rfl (kc_ fn74 rfl (zrX z.v (z.v.q) rfl (Fq.use (x:=z.v) (by omega)) y.v (y.v.q) rfl (Fq.use (x:=y.v) (by omega))) (kc_ fn153 rfl (rqdiv (qOf (((1:Int):Rat))) (((1:Int):Rat)) (zao _) (Br.use (by omega)) (qOf ((z.v.q)-(y.v.q))) ((z.v.q)-(y.v.q)) (zao _) (Br.use (by omega)) (by assumption)) (dz 6 rfl (zad (za 2 rfl ?_))))));refine dr_ 0 [] [] (dz 5 rfl (kc_ zwY rfl (zpb (qOf ((((1:Int):Rat))/((z.v.q)-(y.v.q)))) ((((1:Int):Rat))/((z.v.q)-(y.v.q))) (zao _) (Br.use (by omega)) z.v (z.v.q) rfl (Fq.use (x:=z.v) (by omega))) (dz 7 rfl (ke_ rfl (fun _=>zag rfl zh0 zdr zgA rfl (by decide) (by decide) rfl (by decide) rfl) (dz 2 rfl (zad (za 1 rfl ?_)))))));exact r2_ hq_ rfl (by unfold za4;rw[if_neg hv1,if_neg hb,if_neg (by rw[hlz];exact hu0),if_neg (by rw[hly];exact hl0),hlz,hly] <;> rfl)
end Go.Proofs.YticnclbnchgigaaGreatDoor
namespace Rc
open Go Go.RowKit
structure FL(B n:Nat)(f:Af):Prop where
 can:CanT f.ts
 bd:∀t∈f.ts,Br t.2 B
 cb:Br f.c B
 var:∀t∈f.ts,t.1<n
theorem FL.mono{B C n m:Nat}{f:Af}(h:FL B n f)(h1:B<=C)(h2:n<=m):FL C m f:=
 ⟨h.can,fun t ht=>(h.bd t ht).mono h1,h.cb.mono h1,fun t ht=>zxj (h.var t ht) h2⟩
theorem FOk.fl{b n:Nat}{f:Af}(h:FOk b n f):FL (b/32+1) n f:=⟨h.can,fun t ht=>(h.bd t ht).limb (by omega),h.cb.limb (by omega),h.var⟩
theorem FL.fm{B n:Nat}{f:Af}(h:FL B n f)(hn:n<=1000000):Fm f.ts B n:=
 ⟨h.can,h.bd,by have:=zhG (a:=0) h.can (fun t ht=>⟨zxg _,h.var t ht⟩);omega,fun t ht=>zxj (h.var t ht) hn⟩
def fV(v:Nat):Af:=⟨[(v,((1:Int):Rat))],0⟩
def fN(c:Rat):Af:=⟨[],c⟩
def zs4(f g:Af):Af:=⟨zgB f.ts g.ts,f.c+g.c⟩
def fSc(f:Af)(c:Rat):Af:=⟨scT f.ts c,f.c*c⟩
def zcu(f g:Af):Af:=⟨zgB f.ts (scT g.ts ((-1:Int):Rat)),f.c+g.c*((-1:Int):Rat)⟩
def fZ:Af:=⟨[],0⟩
theorem FL.v{v n:Nat}(h:v<n):FL 2 n (fV v):=
 ⟨⟨by decide,fun t ht=>by simp at ht,trivial⟩,fun t ht=>by simp[fV] at ht;subst ht;exact Br.one,Br.zero.mono (by omega),fun t ht=>by simp[fV] at ht;subst ht;exact h⟩
theorem FL.n{c:Rat}{B n:Nat}(h:Br c B):FL B n (fN c):=⟨trivial,fun t ht=>by simp[fN] at ht,h,fun t ht=>by simp[fN] at ht⟩
theorem FL.z{n:Nat}:FL 0 n fZ:=⟨trivial,fun t ht=>by simp[fZ] at ht,Br.zero,fun t ht=>by simp[fZ] at ht⟩
theorem FL.add{f g:Af}{B C n:Nat}(hf:FL B n f)(hg:FL C n g):FL (B+C+1) n (zs4 f g):=by
 haveI:=hf.cb;haveI:=hg.cb;exact⟨zee hf.can,zjj hf.can hg.can hf.bd hg.bd,Br.add,zhj hf.var hg.var⟩
theorem FL.sc{f:Af}{c:Rat}{B C n:Nat}(hf:FL B n f)[hc:Br c C]:FL (B+C+1) n (fSc f c):=by
 haveI:=hf.cb;refine⟨by show CanT (scT f.ts c);rw[zdt];exact zeF hf.can,fun t ht=>?_,Br.mul,fun t ht=>?_⟩
 .have ht:t∈scT f.ts c:=ht;rw[zdt] at ht;obtain⟨u,h1,h2,h3,_⟩:=zdb ht;rw[h3];haveI:=hf.bd u h1;exact Br.mul
 .have ht:t∈scT f.ts c:=ht;rw[zdt] at ht;obtain⟨u,h1,h2,_⟩:=zdb ht;rw[<-h2];exact hf.var u h1
theorem FL.sub{f g:Af}{B C n:Nat}(hf:FL B n f)(hg:FL C n g):FL (B+C+4) n (zcu f g):=by
 have:=hf.add (FL.sc (c:=((-1:Int):Rat)) hg);exact this.mono (by omega) (zxe _)
def DOk(b:Nat)(q:Qu)(d:Dc):Prop:=(((d.kind=1\/d.kind=2)/\d.idx<q.g.us.length/\d.pt=0)\/((d.kind=3\/d.kind=4)/\d.idx<q.g.inp))/\Hb d.pt b
def zta(path:List Dc)(k:Nat)(j:Int):Bool:=path.any (fun d=>((d.kind:Int) == (k:Int))&&((d.idx:Int) == j))
def zt2(path:List Dc)(k:Nat)(j:Int)(n:Nat):Bool:=(path.take n).any (fun d=>((d.kind:Int) == (k:Int))&&((d.idx:Int) == j))
theorem ziS{path:List Dc}{k n:Nat}{j:Int}{d:Dc}(h:path[n]?=some d):zt2 path k j (n+1)=(zt2 path k j n||(((d.kind:Int) == (k:Int))&&((d.idx:Int) == j))):=by
 unfold zt2;rw[zbK h,List.any_append];simp
theorem zpT{path:List Dc}{k:Nat}{j:Int}:zt2 path k j path.length=zta path k j:=by unfold zt2 zta;rw[zxx]
theorem zwl{path:List Dc}{k n:Nat}{j:Int}{d:Dc}(h:path[n]?=some d)(h1:((d.kind:Int) == (k:Int))=true)(h2:((d.idx:Int) == j)=true):zta path k j=true:=by
 unfold zta;rw[List.any_eq_true];exact⟨d,zxb h,by rw[h1,h2];rfl⟩
def lem(l:List Lm)(n unit:Int)(up:Bool):Rat×Bool:=
 if n<1 then(0,false) else match l[(n-1).toNat]? with
 |none=>(0,false)
 |some m=>if m.unit=unit/\m.up=up then(m.v.q,true) else(0,false)
theorem zuN{l:List Lm}{n unit:Int}{up:Bool}(h:n<1):lem l n unit up=(0,false):=if_pos h
theorem zuO{l:List Lm}{n unit:Int}{up:Bool}(h:(l.length:Int)<n):lem l n unit up=(0,false):=by
 unfold lem;rw[if_neg (by omega),List.getElem?_eq_none (by omega)]
theorem zq8{l:List Lm}{n unit:Int}{up:Bool}{m:Lm}(h:¬n<1)(hm:l[(n-1).toNat]?=some m)(hn:¬(m.unit=unit/\m.up=up)):lem l n unit up=(0,false):=by
 unfold lem;rw[if_neg h,hm];simp only[];rw[if_neg hn]
theorem zny{l:List Lm}{n unit:Int}{up:Bool}{m:Lm}(h:¬n<1)(hm:l[(n-1).toNat]?=some m)(hn:m.unit=unit/\m.up=up):lem l n unit up=(m.v.q,true):=by
 unfold lem;rw[if_neg h,hm];simp only[];rw[if_pos hn]
theorem zkE{l:List Lm}{n unit:Int}{up:Bool}{B:Nat}(hB:∀m∈l,Fq m.v B):Br (lem l n unit up).1 B:=by
 unfold lem;split
 .exact Br.zero.mono (zxg _)
 .split
  .exact Br.zero.mono (zxg _)
  .rename_i m hm;split
   .haveI:=hB m (zxb hm);exact Fq.br
   .exact Br.zero.mono (zxg _)
section
variable (s:Sc)(r:Rw)
@[reducible] def zcD:Rat:=(lem s.lems r.lo r.idx false).1
@[reducible] def zq6:Bool:=(lem s.lems r.lo r.idx false).2
@[reducible] def zco:Rat:=(lem s.lems r.hi r.idx true).1
@[reducible] def zoY:Bool:=(lem s.lems r.hi r.idx true).2
def onB:Bool:=(r.hi == 0)&&(((r.lo == 0)&&zta s.path 1 r.idx)||(zq6 s r&&decide (0<=sg (zcD s r))))
def zht:Bool:=(r.lo == 0)&&(((r.hi == 0)&&zta s.path 2 r.idx)||(zoY s r&&decide (sg (zco s r)<=0)))
def za8(p:Af):Af×Bool:=
 if r.kind=5 then(fV (s.q.g.inp+r.idx.toNat),(r.lo == 0)&&(r.hi == 0))
 else if r.kind=6 then(zcu (fV (s.q.g.inp+r.idx.toNat)) p,(r.lo == 0)&&(r.hi == 0))
 else if r.kind=7 then(p,onB s r)
 else if r.kind=8 then(zcu p (fV (s.q.g.inp+r.idx.toNat)),onB s r)
 else if r.kind=9 then(fSc p ((-1:Int):Rat),zht s r)
 else if r.kind=10 then(fSc (fV (s.q.g.inp+r.idx.toNat)) ((-1:Int):Rat),zht s r)
 else if r.kind=11 then(zcu p (fN (zcD s r)),zq6 s r&&(r.hi == 0))
 else if r.kind=12 then(zcu (fN (zco s r)) p,zoY s r&&(r.lo == 0))
 else if r.kind=13 then(zcu (fSc (zcu p (fN (zcD s r))) (zco s r)) (fSc (fV (s.q.g.inp+r.idx.toNat)) (zco s r-zcD s r)),zq6 s r&&zoY s r&&decide (sg (zcD s r)<0)&&decide (0<sg (zco s r)))
 else(fZ,false)
def orZ(x:Af×Bool):Af×Bool:=if x.2=true then x else(fZ,false)
def zfK:Af×Bool:=if r.idx<0 then(fZ,false) else match s.q.g.us[r.idx.toNat]? with
 |none=>(fZ,false)
 |some p=>orZ (za8 s r p)
def zfl(d:Dc):Af:=if d.kind=3 then zcu (fV d.idx) (fN d.pt) else fSc (zcu (fV d.idx) (fN d.pt)) ((-1:Int):Rat)
def zaZ:Af×Bool:=
 if 5<=r.kind then zfK s r
 else if r.lo≠0\/r.hi≠0\/r.idx<0 then(fZ,false)
 else if r.kind=1 then(match s.q.r.lo[r.idx.toNat]? with|some c=>(zcu (fV r.idx.toNat) (fN c),true)|none=>(fZ,false))
 else if r.kind=2 then(match s.q.r.hi[r.idx.toNat]? with|some c=>(zcu (fN c) (fV r.idx.toNat),true)|none=>(fZ,false))
 else if r.kind=3 then(match s.q.r.rows[r.idx.toNat]? with|some f=>(f,true)|none=>(fZ,false))
 else if r.kind=4 then(match s.path[r.idx.toNat]? with|some d=>if 3<=d.kind then(zfl d,true) else(fZ,false)|none=>(fZ,false))
 else(fZ,false)
end
theorem zcQ{s:Sc}{r:Rw}{p f:Af}(h1:¬r.idx<0)(hp:s.q.g.us[r.idx.toNat]?=some p)(h:za8 s r p=(f,true)):zfK s r=(f,true):=by
 unfold zfK;rw[if_neg h1,hp];simp only[h,orZ,if_true]
theorem zbz{s:Sc}{r:Rw}{p:Af}(h1:¬r.idx<0)(hp:s.q.g.us[r.idx.toNat]?=some p)(h:(za8 s r p).2=false):zfK s r=(fZ,false):=by
 unfold zfK;rw[if_neg h1,hp];simp only[orZ];rw[if_neg (by rw[h];decide)]
theorem zbh(b:Bool)(ls:List Leaf)(h:ls=[tmE.row [],Leaf.val (.bool false),nilL,nilL]):R.tup [V.agg ls,V.one (Leaf.val (.bool b))]=R.tup [afV fZ,V.one (Leaf.val (.bool b))]:=by
 subst h;show _=R.tup [afV ⟨[],0⟩,_];rw[af0]
theorem qOf0:qOf 0=znc:=by
 show Qr.mk (zbx 0) (zab (zaV 0)) (zab (zaW 0)) _ _=Qr.mk false [] [] _ _;simp only[Qr.mk.injEq,zcw,zcy,zaj,and_true];decide
theorem zoX{s:Sc}{r:Rw}{p:Af}{B n:Nat}(hB:∀m∈s.lems,Fq m.v B)(hp:FL 1048577 n p)(hv:s.q.g.inp+r.idx.toNat<n):FL (4*B+5000000) n (za8 s r p).1:=by
 haveI hl:Br (zcD s r) B:=zkE hB;haveI ht:Br (zco s r) B:=zkE hB;have h1:=FL.v hv;have m:∀{C:Nat} {f:Af},FL C n f->C<=4*B+5000000->FL (4*B+5000000) n f:=fun h hc=>h.mono hc (zxe _);unfold za8;split;· exact m h1 (by omega)
 split;· exact m (h1.sub hp) (by omega)
 split;· exact m hp (by omega)
 split;· exact m (hp.sub h1) (by omega)
 split;· exact m (FL.sc (c:=((-1:Int):Rat)) hp) (by omega)
 split;· exact m (FL.sc (c:=((-1:Int):Rat)) h1) (by omega)
 split;· exact m (hp.sub (FL.n hl)) (by omega)
 split;· exact m ((FL.n ht).sub hp) (by omega)
 split;· exact m ((FL.sc (c:=zco s r) (hp.sub (FL.n hl))).sub (FL.sc (c:=zco s r-zcD s r) h1)) (by omega)
 exact m FL.z (by omega)
theorem zoW{s:Sc}{r:Rw}{B:Nat}(hq:QOk s.q)(hB:∀m∈s.lems,Fq m.v B):FL (4*B+5000000) (s.q.g.inp+s.q.g.us.length) (zfK s r).1:=by
 unfold zfK;split
 .exact FL.z.mono (by omega) (zxe _)
 .split
  .exact FL.z.mono (by omega) (zxe _)
  .rename_i p hp;have hj:=(zxc.1 hp).1;unfold orZ;split
   .exact zoX hB ((hq.g.us _ p hp).fl.mono (by omega) (by omega)) (by omega)
   .exact FL.z.mono (by omega) (zxe _)
theorem zkO{s:Sc}{r:Rw}{B b:Nat}(hq:QOk s.q)(hd:∀d∈s.path,DOk b s.q d)(hB:∀m∈s.lems,Fq m.v B):FL (4*B+b+5000000) (s.q.g.inp+s.q.g.us.length) (zaZ s r).1:=by
 have z:FL (4*B+b+5000000) (s.q.g.inp+s.q.g.us.length) fZ:=FL.z.mono (by omega) (zxe _);have m:∀{C:Nat} {f:Af},FL C (s.q.g.inp+s.q.g.us.length) f->C<=4*B+b+5000000->FL (4*B+b+5000000) (s.q.g.inp+s.q.g.us.length) f:=fun h hc=>h.mono hc (zxe _);unfold zaZ;split
 .exact m (zoW hq hB) (by omega)
 split
 .exact z
 split
 .split
  .rename_i c hc;have hj:=(zxc.1 hc).1;have hl:=hq.r.lo;have hh:=hq.r.hi;obtain⟨y,hy⟩:∃y,s.q.r.hi[r.idx.toNat]?=some y:=⟨_,zxa (by omega)⟩;exact m ((FL.v (by omega)).sub (FL.n ((hq.r.bd _ _ _ hc hy).1.limb (k:=1048577) (by omega)))) (by omega)
  .exact z
 split
 .split
  .rename_i c hc;have hj:=(zxc.1 hc).1;have hl:=hq.r.lo;have hh:=hq.r.hi;obtain⟨y,hy⟩:∃y,s.q.r.lo[r.idx.toNat]?=some y:=⟨_,zxa (by omega)⟩;exact m ((FL.n ((hq.r.bd _ _ _ hy hc).2.1.limb (k:=1048577) (by omega))).sub (FL.v (by omega))) (by omega)
  .exact z
 split
 .split
  .rename_i f hf;exact(hq.r.rows f (zxb hf)).fl.mono (by omega) (by omega)
  .exact z
 split
 .split
  .rename_i d hdd;have hok:=hd d (zxb hdd);split
   .rename_i h3;have hv:d.idx<s.q.g.inp+s.q.g.us.length:=by rcases hok.1 with⟨h,_⟩|⟨_,h⟩ <;> omega
    unfold zfl;split
    .exact m ((FL.v hv).sub (FL.n hok.2.br)) (by omega)
    .exact m (FL.sc (c:=((-1:Int):Rat)) ((FL.v hv).sub (FL.n hok.2.br))) (by omega)
   .exact z
  .exact z
 exact z
def zkf(s:Sc)(l:List Mu):Af:=l.foldl (fun a m=>zs4 a (fSc (zaZ s m.r).1 m.c.q)) fZ
theorem zms(s:Sc)(l:List Mu)(m:Mu):zkf s (l++[m])=zs4 (zkf s l) (fSc (zaZ s m.r).1 m.c.q):=by unfold zkf;rw[zxC];rfl
theorem zmr{s:Sc}{l:List Mu}{i:Nat}{m:Mu}(h:l[i]?=some m):zkf s (l.take (i+1))=zs4 (zkf s (l.take i)) (fSc (zaZ s m.r).1 m.c.q):=by rw[zbK h,zms]
def muS(μ:Mu->Nat):List Mu->Nat
 |[]=>0
 |m::l=>μ m+1+muS μ l
theorem zkA(μ:Mu->Nat):∀(l:List Mu) (i:Nat),muS μ (l.take i)<=muS μ l
 |[],i=>by rw[List.take_nil];exact zxe _
 |m::l,0=>zxg _
 |m::l,i+1=>by have:=zkA μ l i;rw[List.take_succ_cons];show μ m+1+muS μ (l.take i)<=μ m+1+muS μ l;omega
theorem ziI{s:Sc}{n:Nat}(μ:Mu->Nat):∀(l:List Mu) (a:Af) (K:Nat),FL K n a->(∀m∈l,FL (μ m) n (fSc (zaZ s m.r).1 m.c.q))->FL (K+muS μ l) n (l.foldl (fun a m=>zs4 a (fSc (zaZ s m.r).1 m.c.q)) a)
 |[],a,K,h,_=>h
 |m::l,a,K,h,hm=>by
  have h1:=h.add (hm m (by simp));have h2:=ziI μ l _ _ h1 (fun x hx=>hm x (by simp[hx]));exact h2.mono (by show K+μ m+1+muS μ l<=K+(μ m+1+muS μ l);omega) (zxe _)
theorem zke{s:Sc}{n:Nat}{l:List Mu}(μ:Mu->Nat)(hm:∀m∈l,FL (μ m) n (fSc (zaZ s m.r).1 m.c.q)):FL (muS μ l) n (zkf s l):=
 (ziI μ l fZ 0 FL.z hm).mono (by omega) (zxe _)
def zdO(inp:Nat)(lems:List Lm)(a:List Mu×Bool)(t:Tm):List Mu×Bool:=
 if a.2=true then
  if 0<t.2 then(zaO a.1 (zbw inp t.1) (rq false (zaV t.2) (zaW t.2)),true)
  else match za4 inp lems t.1 with
   |some m=>(zaO a.1 m (rq false (zaV t.2) (zaW t.2)),true)
   |none=>([],false)
 else a
def zg8(inp:Nat)(lems:List Lm)(ts:List Tm):List Mu×Bool:=ts.foldl (zdO inp lems) ([],true)
theorem zoj(inp:Nat)(lems:List Lm)(ts:List Tm)(t:Tm):zg8 inp lems (ts++[t])=zdO inp lems (zg8 inp lems ts) t:=by unfold zg8;rw[zxC];rfl
theorem zgr{inp:Nat}{lems:List Lm}{ts:List Tm}{i:Nat}{t:Tm}(h:ts[i]?=some t):zg8 inp lems (ts.take (i+1))=zdO inp lems (zg8 inp lems (ts.take i)) t:=by rw[zbK h,zoj]
theorem zjQ{inp:Nat}{lems:List Lm}:∀(ts:List Tm) (a:List Mu×Bool),a.2=false->(ts.foldl (zdO inp lems) a).2=false
 |[],a,h=>h
 |t::ts,a,h=>zjQ ts _ (by unfold zdO;rw[if_neg (by rw[h];decide)];exact h)
theorem zqd{inp:Nat}{lems:List Lm}{ts:List Tm}{i:Nat}(h:(zg8 inp lems (ts.take i)).2=false):(zg8 inp lems ts).2=false:=by
 have e:zg8 inp lems ts=(ts.drop i).foldl (zdO inp lems) (zg8 inp lems (ts.take i)):=by
  unfold zg8;rw[<-zxC,List.take_append_drop]
 rw[e];exact zjQ _ _ h
end Rc
namespace Go.Proofs.YticnclbnchgigaaGreatDoor
open Go Go.RowKit Rc
set_option maxHeartbeats 2000000 in
theorem znx(s:Sc){B:Nat}(hB:∀m∈s.lems,Fq m.v B)(hB2:B<=100000000000)(hl:s.lems.length<=1000000)(n u:Int)(up:Bool):Ctr Tryz.prog 161 [scV s,V.one (Leaf.val (.int .i64 (n))),V.one (Leaf.val (.int .i64 (u))),V.one (Leaf.val (.bool up))] (R.tup [qV (qOf (lem s.lems n u up).1),V.one (Leaf.val (.bool (lem s.lems n u up).2))]):=by
 refine bd_ Tryz.func161 Tryz.ntmps161 rfl (fun w0 A0=>?_);refine zc 11 rfl ?_;by_cases h1:n<1
 .refine tq_ rfl (ltT rfl) (zl 24 rfl (zl 15 rfl ?_));exact r2_ hq_ rfl (by rw[zuN h1];show _=R.tup [qV (qOf 0),V.one (Leaf.val (.bool false))];rw[<-zeM] <;> rfl)
 .refine tq_ rfl (ltF rfl) (zl 4 rfl (tq_ rfl (jln rfl) ?_));by_cases h2:(s.lems.length:Int)<n
  .refine tq_ rfl (gtT rfl) (zl 24 rfl (za 9 rfl ?_));exact r2_ hq_ rfl (by rw[zuO h2];show _=R.tup [qV (qOf 0),V.one (Leaf.val (.bool false))];rw[<-zeM] <;> rfl)
  .refine tq_ rfl (gtF rfl) (zl 2 rfl ?_);obtain⟨x,hx⟩:∃x,s.lems[(n-1).toNat]?=some x:=⟨_,zxa (by omega)⟩;haveI hxB:=hB x (zxb hx);refine zl 3 rfl (tq_ rfl (zaI rfl rfl rfl (r:=(n-1)) (w64 (by omega) (by omega) (by omega))) (tq_ rfl (jix ((n-1).toNat) hx rfl (by omega)) (tq_ rfl (jfr rfl) (tq_ rfl (jli rfl) (zl 1 rfl ?_)))));by_cases h3:x.unit≠u
   .refine tq_ rfl (neT rfl) (zl 22 rfl ?_);exact r2_ hq_ rfl (by rw[zq8 h1 hx (fun e=>h3 e.1)];show _=R.tup [qV (qOf 0),V.one (Leaf.val (.bool false))];rw[<-zeM] <;> rfl)
   .refine tq_ rfl (neF rfl) (zl 5 rfl (tq_ rfl (zaI rfl rfl rfl (r:=(n-1)) (w64 (by omega) (by omega) (by omega))) (tq_ rfl (jix ((n-1).toNat) hx rfl (by omega)) (tq_ rfl (jfr rfl) (tq_ rfl (jli rfl) (zl 1 rfl ?_))))));by_cases h4:x.up≠up
    .refine tq_ rfl (zbP rfl rfl rfl un4 (d:=true) (bne_iff_ne.2 h4)) (zl 11 rfl ?_);exact r2_ hq_ rfl (by rw[zq8 h1 hx (fun e=>h4 e.2)];show _=R.tup [qV (qOf 0),V.one (Leaf.val (.bool false))];rw[<-zeM] <;> rfl)
    .refine tq_ rfl (zbP rfl rfl rfl un4 (d:=false) (by rw[Classical.not_not.1 h4];simp)) (zl 11 rfl (tq_ rfl (zaI rfl rfl rfl (r:=(n-1)) (w64 (by omega) (by omega) (by omega))) (tq_ rfl (jix ((n-1).toNat) hx rfl (by omega)) (tq_ rfl (jft rfl) (tq_ rfl (jlr rfl) (tc_ zsU rfl (zdZ x.v (x.v.q) rfl (Fq.use (x:=x.v) (by omega))) (zl 4 rfl ?_)))))));exact r2_ hq_ rfl (by rw[zny h1 hx ⟨Classical.not_not.1 h3,Classical.not_not.1 h4⟩] <;> rfl)
theorem zrf(q:Qu)(d:Dc){b:Nat}(hd:DOk b q d)(hb:b<=1000000):Ctr Tryz.prog 160 [quV q,dcV d] (R.one (V.one (Leaf.val (.bool true)))):=by
 refine bd_ Tryz.func160 Tryz.ntmps160 rfl (fun w0 A0=>?_);obtain⟨hk,hbt⟩:=hd;haveI:=hbt.br;have hkk:d.kind=1\/d.kind=2\/d.kind=3\/d.kind=4:=by rcases hk with⟨h,_⟩|⟨h,_⟩ <;> omega
 refine zc 18 rfl ?_;by_cases h1:d.kind=1
 .refine tq_ rfl (eqT rfl) (zl 8 rfl ?_);have hp0:d.idx<q.g.us.length/\d.pt=0:=by rcases hk with⟨_,h⟩|⟨h,_⟩ <;> first|exact h|omega
  refine zc 3 rfl (tq_ rfl (geT rfl) (zl 6 rfl (tq_ rfl (jln rfl) (tq_ rfl (ltT rfl) (zl 5 rfl (tc_ fn9 rfl (zik (qOf (d.pt)) znc) (is_ true rfl (by rw[hp0.2,qOf0];rfl) (zl 4 rfl ?_))))))));exact r1_ hq_ rfl rfl
 .refine tq_ rfl (eqF rfl) (zl 5 rfl ?_);by_cases h2:d.kind=2
  .refine tq_ rfl (eqT rfl) (zl 5 rfl ?_);have hp0:d.idx<q.g.us.length/\d.pt=0:=by rcases hk with⟨_,h⟩|⟨h,_⟩ <;> first|exact h|omega
   refine zc 3 rfl (tq_ rfl (geT rfl) (zl 6 rfl (tq_ rfl (jln rfl) (tq_ rfl (ltT rfl) (zl 5 rfl (tc_ fn9 rfl (zik (qOf (d.pt)) znc) (is_ true rfl (by rw[hp0.2,qOf0];rfl) (zl 4 rfl ?_))))))));exact r1_ hq_ rfl rfl
  .refine tq_ rfl (eqF rfl) (zl 7 rfl ?_);by_cases h3:d.kind=3
   .refine tq_ rfl (eqT rfl) (zl 8 rfl ?_);have hp0:d.idx<q.g.inp:=by rcases hk with⟨h,_⟩|⟨_,h⟩ <;> first|exact h|omega
    refine zc 3 rfl (tq_ rfl (geT rfl) (zl 6 rfl (tq_ rfl (ltT rfl) (zl 4 rfl (tc_ znO rfl (zcp (qOf (d.pt)) (d.pt) (zao _) (Br.use (by omega))) (is_ true rfl (zdz _) (zl 4 rfl ?_)))))));exact r1_ hq_ rfl rfl
   .refine tq_ rfl (eqF rfl) (zl 5 rfl (tq_ rfl (eqT rfl) (zl 5 rfl ?_)));have hp0:d.idx<q.g.inp:=by rcases hk with⟨h,_⟩|⟨_,h⟩ <;> first|exact h|omega
    refine zc 3 rfl (tq_ rfl (geT rfl) (zl 6 rfl (tq_ rfl (ltT rfl) (zl 4 rfl (tc_ znO rfl (zcp (qOf (d.pt)) (d.pt) (zao _) (Br.use (by omega))) (is_ true rfl (zdz _) (zl 4 rfl ?_)))))));exact r1_ hq_ rfl rfl
theorem ziR(s:Sc){b:Nat}(hq:QOk s.q)(hd:∀d∈s.path,DOk b s.q d)(hb:b<=1000000)(hpl:s.path.length<=1000)(k:Nat)(j:Int):Ctr Tryz.prog 162 [scV s,V.one (Leaf.val (.int .i64 ((k:Int)))),V.one (Leaf.val (.int .i64 (j)))] (R.one (V.one (Leaf.val (.bool (zta s.path k j))))):=by
 refine bd_ Tryz.func162 Tryz.ntmps162 rfl (fun w0 A0=>?_);refine zc 13 rfl (zbO (fun m Γ H=>∃(i:Nat),s.path.length-i=m/\Γ=[(1,some (D.val (.int .i64 (k:Int)))),(2,some (D.val (.int .i64 j))),(3,some (D.ptr 0 0)),(7,some (D.val (.int .i64 (i:Int))))]/\H=[hb_ 43 (scL s)]/\i<=s.path.length/\zt2 s.path k j i=false) ⟨0,rfl,rfl,rfl,zxg _,rfl⟩ rfl ?_);rintro m Γ H ⟨i,rfl,rfl,rfl,hi0,hno⟩;refine zc 6 rfl (tq_ rfl (jln rfl) ?_);by_cases hi:i<s.path.length
 .refine tq_ rfl (ltT rfl) (zl 8 rfl ?_);obtain⟨x,hx⟩:∃x,s.path[i]?=some x:=⟨_,zxa hi⟩;have hxd:=hd x (zxb hx);refine dr_ 0 [] [] (dz 3 rfl (kq_ rfl (jix i hx rfl) (kq_ rfl (jfr rfl) (kq_ rfl (jli rfl) (dz 3 rfl ?_)))));refine zkG rfl (fun hk1=>?_) (fun hk1=>?_)
  .refine dz 19 rfl (zad (za 7 rfl (tq_ rfl (jad (i+1) rfl) (zl 2 rfl ?_))));exact nx_ ⟨i+1,rfl,rfl,rfl,hi,by rw[ziS hx,hno,hk1];rfl⟩ rfl
  .refine dz 3 rfl (kq_ rfl (jix i hx rfl) (kq_ rfl (jfr rfl) (kq_ rfl (jli rfl) (dz 4 rfl ?_))));refine zkG rfl (fun hk2=>?_) (fun hk2=>?_)
   .refine dz 9 rfl (zad (za 7 rfl (tq_ rfl (jad (i+1) rfl) (zl 2 rfl ?_))));exact nx_ ⟨i+1,rfl,rfl,rfl,hi,by rw[ziS hx,hno,hk1,hk2];rfl⟩ rfl
   .refine dz 5 rfl (kq_ rfl (jix i hx rfl) (kq_ rfl (jlr rfl) (kc_ zv4 rfl (zrf s.q x (by assumption) (by omega)) (dz 1 rfl (zad (za 7 rfl ?_))))));exact r1_ hq_ rfl (by rw[zwl hx hk1 hk2])
 .refine tq_ rfl (ltF rfl) (zl 13 rfl ?_);exact r1_ hq_ rfl (by rw[<-zpT,<-show i=s.path.length by omega,hno])
set_option maxHeartbeats 2000000 in
theorem zt7(s:Sc){B:Nat}(hB:∀m∈s.lems,Fq m.v B)(hB2:B<=1000000000)(hl:s.lems.length<=1000000){b:Nat}(hq:QOk s.q)(hd:∀d∈s.path,DOk b s.q d)(hb:b<=1000000)(hpl:s.path.length<=1000)(r:Rw):Ctr Tryz.prog 158 [scV s,rwV r] (R.tup [afV (zfK s r).1,V.one (Leaf.val (.bool (zfK s r).2))]):=by
 refine bd_ Tryz.func158 Tryz.ntmps158 rfl (fun w0 A0=>?_);have hg:=hq.g;have hr:=hq.r;have hlo:=hr.lo;have hhi:=hr.hi;have h1:=hg.i1;have h2:=hg.i3;have h3:=hg.u4;have h4:=hg.o1;have h5:=hg.o3;refine zc 19 rfl ?_;refine nz_ [so 2 (D.ptr 0 0),so 3 (D.ptr 1 0),so 4 (D.ptr 2 0),so 6 (D.ptr 3 0)] [hb_ 43 (scL s),hb_ 175 [Leaf.val (.int .i64 r.kind),Leaf.val (.int .i64 r.idx),Leaf.val (.int .i64 r.lo),Leaf.val (.int .i64 r.hi)],hb_ 35 [El.row tmE ([]),Leaf.val (.bool false),zaf ([]),zaf ([])],hb_ 25 [Leaf.val (.int .i64 ((s.q.g.inp:Nat):Int)),El.row afE s.q.g.us,El.row afE s.q.g.os]] rfl rfl ?_;refine zc 3 rfl ?_;by_cases h1:r.idx<0
 .refine tq_ rfl (ltT rfl) (zl 12 rfl (nf_ [0,1,3] [so 4 _] [none,none,_,none] rfl rfl rfl (zc 6 rfl ?_)));exact r2_ hq_ rfl (by unfold zfK;rw[if_pos h1];exact zbh _ _ rfl)
 .refine tq_ rfl (ltF rfl) (zl 5 rfl (tq_ rfl (jln rfl) ?_));by_cases h2:(s.q.g.us.length:Int)<=r.idx
  .refine tq_ rfl (geT rfl) (zl 5 rfl (nf_ [0,1,3] [so 4 _] [none,none,_,none] rfl rfl rfl (zc 6 rfl ?_)));exact r2_ hq_ rfl (by unfold zfK;rw[if_neg h1,List.getElem?_eq_none (by omega)];exact zbh _ _ rfl)
  .refine tq_ rfl (geF rfl) (zl 7 rfl ?_);obtain⟨p,hp0⟩:∃p,s.q.g.us[r.idx.toNat]?=some p:=⟨_,zxa (by omega)⟩;have hp:FL 1048577 (s.q.g.inp+s.q.g.us.length) p:=(hq.g.us _ p hp0).fl.mono (by omega) (by omega);have hv:FL 2 (s.q.g.inp+s.q.g.us.length) (fV (s.q.g.inp+r.idx.toNat)):=FL.v (by omega);haveI hlq:Br (zcD s r) B:=zkE hB;haveI htq:Br (zco s r) B:=zkE hB;have hnl:FL B (s.q.g.inp+s.q.g.us.length) (fN (zcD s r)):=FL.n hlq;have hnt:FL B (s.q.g.inp+s.q.g.us.length) (fN (zco s r)):=FL.n htq;have g3:=hp.sub hnl;have g5:=FL.sc (c:=zco s r) g3;have g6:=FL.sc (c:=zco s r-zcD s r) hv;haveI:=hp.fm (by omega);haveI:=hp.cb;haveI:=hv.fm (by omega);haveI:=hv.cb;haveI:=hnl.fm (by omega);haveI:=hnl.cb;haveI:=hnt.fm (by omega);haveI:=hnt.cb;haveI:=g3.fm (by omega);haveI:=g3.cb;haveI:=g5.fm (by omega);haveI:=g5.cb;haveI:=g6.fm (by omega);haveI:=g6.cb;refine dr_ 2 [(12,4),(13,5),(14,4),(15,5)] [4,5] (dz 4 rfl (kq_ rfl (jad (s.q.g.inp+r.idx.toNat) rfl) (kc_ zv0 rfl (zup (s.q.g.inp+r.idx.toNat) (by omega)) (dz 4 rfl (kq_ rfl (jix r.idx.toNat hp0 rfl (by omega)) (kq_ rfl (jlr rfl) (dz 4 rfl (zad (za 2 rfl ?_)))))))));refine nf_ [3] [so 2 _,so 3 _,so 4 _,so 7 (D.ptr 4 0),so 8 (D.ptr 5 0)] [_,_,_,none,hb_ 35 (afL (fV (s.q.g.inp+r.idx.toNat))),hb_ 35 (afL p)] rfl rfl rfl (zc 6 rfl (tc_ zv3 rfl (znx s hB (by omega) hl r.lo r.idx false) (zl 9 rfl ?_)));refine nz_ [so 2 _,so 3 _,so 4 _,so 7 _,so 8 _,so 9 (D.ptr 6 0),so 10 (D.bool (zq6 s r))] [_,_,_,none,_,_,hb_ 33 (qL (zcD s r))] rfl rfl (zc 6 rfl (tc_ zv3 rfl (znx s hB (by omega) hl r.hi r.idx true) (zl 9 rfl ?_)));refine nz_ [so 2 _,so 3 _,so 4 _,so 7 _,so 8 _,so 9 _,so 10 _,so 11 (D.ptr 7 0),so 12 (D.bool (zoY s r))] [_,_,_,none,_,_,_,hb_ 33 (qL (zco s r))] rfl rfl (zc 1 rfl (tc_ fn8 rfl (zl6 (-1) (by decide) (by decide)) (zl 4 rfl ?_)));refine mt_ [so 2 (D.ptr 0 0),so 3 (D.ptr 1 0),so 4 (D.ptr 2 0),so 7 (D.ptr 4 0),so 8 (D.ptr 5 0),so 9 (D.ptr 6 0),so 10 (D.bool (zq6 s r)),so 11 (D.ptr 7 0),so 12 (D.bool (zoY s r)),so 13 (D.ptr 8 0),so 14 (D.bool (onB s r))] [hb_ 43 (scL s),hb_ 175 [Leaf.val (.int .i64 r.kind),Leaf.val (.int .i64 r.idx),Leaf.val (.int .i64 r.lo),Leaf.val (.int .i64 r.hi)],hb_ 35 [El.row tmE ([]),Leaf.val (.bool false),zaf ([]),zaf ([])],none,hb_ 35 (afL (fV (s.q.g.inp+r.idx.toNat))),hb_ 35 (afL p),hb_ 33 (qL (zcD s r)),hb_ 33 (qL (zco s r)),hb_ 33 (qL (((-1):Int):Rat))] ?_ ?_
   .refine zc 5 rfl ?_;refine zec rfl (fun hb68=>?_) (fun hb68=>?_)
    .refine zl 18 rfl (is_ (onB s r) rfl (by simp[onB, *]) (zl 2 rfl ?_));exact mx_ rfl
    .refine zl 4 rfl ?_;refine zec rfl (fun hb72=>?_) (fun hb72=>?_)
     .refine zl 8 rfl ?_;refine zec rfl (fun hb80=>?_) (fun hb80=>?_)
      .refine zl 6 rfl (is_ (onB s r) rfl (by simp[onB, *]) (zl 2 rfl ?_));exact mx_ rfl
      .refine zl 1 rfl (tc_ zhU rfl (zb2 (qOf ((zcD s r))) ((zcD s r)) (zao _) (Br.use (by omega))) (zl 4 rfl (is_ (onB s r) rfl (by simp[onB, *]) (zl 2 rfl ?_))));exact mx_ rfl
     .refine zl 3 rfl (tc_ zv2 rfl (ziR s hq hd (by omega) hpl 1 r.idx) (zl 2 rfl ?_));refine zec rfl (fun hb78=>?_) (fun hb78=>?_)
      .refine zl 2 rfl ?_;refine zec rfl (fun hb80=>?_) (fun hb80=>?_)
       .refine zl 6 rfl (is_ (onB s r) rfl (by simp[onB, *]) (zl 2 rfl ?_));exact mx_ rfl
       .refine zl 1 rfl (tc_ zhU rfl (zb2 (qOf ((zcD s r))) ((zcD s r)) (zao _) (Br.use (by omega))) (zl 4 rfl (is_ (onB s r) rfl (by simp[onB, *]) (zl 2 rfl ?_))));exact mx_ rfl
      .refine zl 8 rfl (is_ (onB s r) rfl (by simp[onB, *]) (zl 2 rfl ?_));exact mx_ rfl
   .refine mt_ [so 3 (D.ptr 1 0),so 4 (D.ptr 2 0),so 7 (D.ptr 4 0),so 8 (D.ptr 5 0),so 9 (D.ptr 6 0),so 10 (D.bool (zq6 s r)),so 11 (D.ptr 7 0),so 12 (D.bool (zoY s r)),so 13 (D.ptr 8 0),so 14 (D.bool (onB s r)),so 15 (D.bool (zht s r))] [hb_ 43 (scL s),hb_ 175 [Leaf.val (.int .i64 r.kind),Leaf.val (.int .i64 r.idx),Leaf.val (.int .i64 r.lo),Leaf.val (.int .i64 r.hi)],hb_ 35 [El.row tmE ([]),Leaf.val (.bool false),zaf ([]),zaf ([])],none,hb_ 35 (afL (fV (s.q.g.inp+r.idx.toNat))),hb_ 35 (afL p),hb_ 33 (qL (zcD s r)),hb_ 33 (qL (zco s r)),hb_ 33 (qL (((-1):Int):Rat))] ?_ ?_
    .refine zc 5 rfl ?_;refine zec rfl (fun hb90=>?_) (fun hb90=>?_)
     .refine zl 18 rfl (is_ (zht s r) rfl (by simp[zht, *]) (zl 2 rfl ?_));exact mx_ rfl
     .refine zl 4 rfl ?_;refine zec rfl (fun hb94=>?_) (fun hb94=>?_)
      .refine zl 8 rfl ?_;refine zec rfl (fun hb102=>?_) (fun hb102=>?_)
       .refine zl 6 rfl (is_ (zht s r) rfl (by simp[zht, *]) (zl 2 rfl ?_));exact mx_ rfl
       .refine zl 1 rfl (tc_ zhU rfl (zb2 (qOf ((zco s r))) ((zco s r)) (zao _) (Br.use (by omega))) (zl 4 rfl (is_ (zht s r) rfl (by simp[zht, *]) (zl 2 rfl ?_))));exact mx_ rfl
      .refine zl 3 rfl (tc_ zv2 rfl (ziR s hq hd (by omega) hpl 2 r.idx) (zl 2 rfl ?_));refine zec rfl (fun hb100=>?_) (fun hb100=>?_)
       .refine zl 2 rfl ?_;refine zec rfl (fun hb102=>?_) (fun hb102=>?_)
        .refine zl 6 rfl (is_ (zht s r) rfl (by simp[zht, *]) (zl 2 rfl ?_));exact mx_ rfl
        .refine zl 1 rfl (tc_ zhU rfl (zb2 (qOf ((zco s r))) ((zco s r)) (zao _) (Br.use (by omega))) (zl 4 rfl (is_ (zht s r) rfl (by simp[zht, *]) (zl 2 rfl ?_))));exact mx_ rfl
       .refine zl 8 rfl (is_ (zht s r) rfl (by simp[zht, *]) (zl 2 rfl ?_));exact mx_ rfl
    .refine zc 18 rfl ?_;by_cases hk5:r.kind=5
     .refine tq_ rfl (eqT rfl) (zl 4 rfl (nf_ [0,5,6,7,8] [so 3 _,so 4 _,so 7 _,so 16 (D.ptr 9 0)] [none,_,_,none,_,none,none,none,none,hb_ 35 [El.row tmE ([]),Leaf.val (.bool false),zaf ([]),zaf ([])]] rfl rfl rfl (dr_ 0 [(9,9)] [9] (dz 5 rfl ?_))));refine zkG rfl (fun hb118=>?_) (fun hb118=>?_)
      .refine dz 6 rfl (zad (za 4 rfl (nf_ [1,4] [so 4 _,so 16 _,so 17 (D.bool false)] [none,none,_,none,none,none,none,none,none,hb_ 35 (afL (fV (s.q.g.inp+r.idx.toNat)))] rfl rfl rfl (zc 13 rfl ?_))));exact r2_ hq_ rfl (by rw[zbz h1 hp0 (by unfold za8;rw[if_pos hk5];(try simp at hc212);simp[*])];exact zbh _ _ rfl)
      .refine dz 6 rfl (zad (za 4 rfl (nf_ [1,4] [so 4 _,so 16 _,so 17 (D.bool (r.hi == 0))] [none,none,_,none,none,none,none,none,none,hb_ 35 (afL (fV (s.q.g.inp+r.idx.toNat)))] rfl rfl rfl (zc 5 rfl ?_))));refine zaz rfl (fun hc212=>?_) (fun hc212=>?_)
       .refine zc 7 rfl ?_;exact r2_ hq_ rfl (by rw[zbz h1 hp0 (by unfold za8;rw[if_pos hk5];(try simp at hc212);simp[*])];exact zbh _ _ rfl)
       .refine zc 9 rfl ?_;exact r2_ hq_ rfl (by rw[zcQ h1 hp0 (show za8 s r p=((fV (s.q.g.inp+r.idx.toNat)),true) from by unfold za8;rw[if_pos hk5];(try simp at hc212);simp[*])] <;> rfl)
     .refine tq_ rfl (eqF rfl) (zl 5 rfl ?_);refine nf_ [0] [so 3 _,so 4 _,so 7 _,so 8 _,so 9 _,so 10 _,so 11 _,so 12 _,so 13 (D.ptr 8 0),so 14 (D.bool (onB s r)),so 15 (D.bool (zht s r)),so 16 (D.ptr 9 0),so 17 (D.bool false),so 111 (D.val (.int .i64 r.kind))] [none,_,_,none,_,_,_,_,hb_ 33 (qL (((-1):Int):Rat)),hb_ 35 [El.row tmE ([]),Leaf.val (.bool false),zaf ([]),zaf ([])]] rfl rfl rfl ?_;refine zc 1 rfl ?_;by_cases hk6:r.kind=6
      .refine tq_ rfl (eqT rfl) (zl 4 rfl (dr_ 0 [(11,9)] [9] (dz 2 rfl (kc_ zgH rfl (zgD (fV (s.q.g.inp+r.idx.toNat)) p (by omega) (by omega) (by omega)) (dz 4 rfl ?_)))));refine zkG rfl (fun hb131=>?_) (fun hb131=>?_)
       .refine dz 6 rfl (zad (za 4 rfl (nf_ [1,4,5,6,7,8] [so 4 _,so 16 _,so 17 _] [none,none,_,none,none,none,none,none,none,hb_ 35 (afL (zcu (fV (s.q.g.inp+r.idx.toNat)) p))] rfl rfl rfl (zc 13 rfl ?_))));exact r2_ hq_ rfl (by rw[zbz h1 hp0 (by unfold za8;rw[if_neg hk5,if_pos hk6];(try simp at hc212);simp[*])];exact zbh _ _ rfl)
       .refine dz 6 rfl (zad (za 4 rfl (nf_ [1,4,5,6,7,8] [so 4 _,so 16 _,so 17 (D.bool (r.hi == 0))] [none,none,_,none,none,none,none,none,none,hb_ 35 (afL (zcu (fV (s.q.g.inp+r.idx.toNat)) p))] rfl rfl rfl (zc 5 rfl ?_))));refine zaz rfl (fun hc212=>?_) (fun hc212=>?_)
        .refine zc 7 rfl ?_;exact r2_ hq_ rfl (by rw[zbz h1 hp0 (by unfold za8;rw[if_neg hk5,if_pos hk6];(try simp at hc212);simp[*])];exact zbh _ _ rfl)
        .refine zc 9 rfl ?_;exact r2_ hq_ rfl (by rw[zcQ h1 hp0 (show za8 s r p=(zcu (fV (s.q.g.inp+r.idx.toNat)) p,true) from by unfold za8;rw[if_neg hk5,if_pos hk6];(try simp at hc212);simp[*])] <;> rfl)
      .refine tq_ rfl (eqF rfl) (zl 5 rfl (nz_ [so 3 _,so 4 _,so 7 _,so 8 _,so 9 _,so 10 _,so 11 _,so 12 _,so 13 _,so 14 _,so 15 _,so 16 _,so 17 _,so 111 _] [none,_,_,none,_,_,_,_,_,_] rfl rfl (zc 1 rfl ?_)));by_cases hk7:r.kind=7
       .refine tq_ rfl (eqT rfl) (zl 19 rfl ?_);refine zaz rfl (fun hc212=>?_) (fun hc212=>?_)
        .refine zc 1 rfl (nf_ [1,4,5,6,7,8,9] [so 4 _] [none,none,_,none,none,none,none,none,none,none] rfl rfl rfl (zc 6 rfl ?_));exact r2_ hq_ rfl (by rw[zbz h1 hp0 (by unfold za8;rw[if_neg hk5,if_neg hk6,if_pos hk7];(try simp at hc212);simp[*])];exact zbh _ _ rfl)
        .refine zc 9 rfl ?_;exact r2_ hq_ rfl (by rw[zcQ h1 hp0 (show za8 s r p=(p,true) from by unfold za8;rw[if_neg hk5,if_neg hk6,if_pos hk7];(try simp at hc212);simp[*])] <;> rfl)
       .refine tq_ rfl (eqF rfl) (zl 5 rfl (nz_ [so 3 _,so 4 _,so 7 _,so 8 _,so 9 _,so 10 _,so 11 _,so 12 _,so 13 _,so 14 _,so 15 _,so 16 _,so 17 _,so 111 _] [none,_,_,none,_,_,_,_,_,_] rfl rfl (zc 1 rfl ?_)));by_cases hk8:r.kind=8
        .refine tq_ rfl (eqT rfl) (zl 7 rfl (tc_ zgH rfl (zgD p (fV (s.q.g.inp+r.idx.toNat)) (by omega) (by omega) (by omega)) (zl 8 rfl (nf_ [1,4,5,6,7,8] [so 4 _,so 16 _,so 17 (D.bool (onB s r))] [none,none,_,none,none,none,none,none,none,hb_ 35 (afL (zcu p (fV (s.q.g.inp+r.idx.toNat))))] rfl rfl rfl (zc 5 rfl ?_)))));refine zaz rfl (fun hc212=>?_) (fun hc212=>?_)
         .refine zc 7 rfl ?_;exact r2_ hq_ rfl (by rw[zbz h1 hp0 (by unfold za8;rw[if_neg hk5,if_neg hk6,if_neg hk7,if_pos hk8];(try simp at hc212);simp[*])];exact zbh _ _ rfl)
         .refine zc 9 rfl ?_;exact r2_ hq_ rfl (by rw[zcQ h1 hp0 (show za8 s r p=(zcu p (fV (s.q.g.inp+r.idx.toNat)),true) from by unfold za8;rw[if_neg hk5,if_neg hk6,if_neg hk7,if_pos hk8];(try simp at hc212);simp[*])] <;> rfl)
        .refine tq_ rfl (eqF rfl) (zl 5 rfl (nz_ [so 3 _,so 4 _,so 7 _,so 8 _,so 9 _,so 10 _,so 11 _,so 12 _,so 13 _,so 15 _,so 16 _,so 17 _,so 111 _] [none,_,_,none,_,_,_,_,_,_] rfl rfl (zc 1 rfl ?_)));by_cases hk9:r.kind=9
         .refine tq_ rfl (eqT rfl) (zl 7 rfl (tc_ zrd rfl (zcJ p (((-1):Int):Rat) (by omega) (by omega)) (zl 8 rfl (nf_ [1,4,5,6,7,8] [so 4 _,so 16 _,so 17 (D.bool (zht s r))] [none,none,_,none,none,none,none,none,none,hb_ 35 (afL (fSc p (((-1):Int):Rat)))] rfl rfl rfl (zc 5 rfl ?_)))));refine zaz rfl (fun hc212=>?_) (fun hc212=>?_)
          .refine zc 7 rfl ?_;exact r2_ hq_ rfl (by rw[zbz h1 hp0 (by unfold za8;rw[if_neg hk5,if_neg hk6,if_neg hk7,if_neg hk8,if_pos hk9];(try simp at hc212);simp[*])];exact zbh _ _ rfl)
          .refine zc 9 rfl ?_;exact r2_ hq_ rfl (by rw[zcQ h1 hp0 (show za8 s r p=(fSc p ((-1:Int):Rat),true) from by unfold za8;rw[if_neg hk5,if_neg hk6,if_neg hk7,if_neg hk8,if_pos hk9];(try simp at hc212);simp[*])] <;> rfl)
         .refine tq_ rfl (eqF rfl) (zl 5 rfl (nz_ [so 3 _,so 4 _,so 7 _,so 8 _,so 9 _,so 10 _,so 11 _,so 12 _,so 13 _,so 15 _,so 16 _,so 17 _,so 111 _] [none,_,_,none,_,_,_,_,_,_] rfl rfl (zc 1 rfl ?_)));by_cases hk10:r.kind=10
          .refine tq_ rfl (eqT rfl) (zl 7 rfl (tc_ zrd rfl (zcJ (fV (s.q.g.inp+r.idx.toNat)) (((-1):Int):Rat) (by omega) (by omega)) (zl 8 rfl (nf_ [1,4,5,6,7,8] [so 4 _,so 16 _,so 17 (D.bool (zht s r))] [none,none,_,none,none,none,none,none,none,hb_ 35 (afL (fSc (fV (s.q.g.inp+r.idx.toNat)) (((-1):Int):Rat)))] rfl rfl rfl (zc 5 rfl ?_)))));refine zaz rfl (fun hc212=>?_) (fun hc212=>?_)
           .refine zc 7 rfl ?_;exact r2_ hq_ rfl (by rw[zbz h1 hp0 (by unfold za8;rw[if_neg hk5,if_neg hk6,if_neg hk7,if_neg hk8,if_neg hk9,if_pos hk10];(try simp at hc212);simp[*])];exact zbh _ _ rfl)
           .refine zc 9 rfl ?_;exact r2_ hq_ rfl (by rw[zcQ h1 hp0 (show za8 s r p=(fSc (fV (s.q.g.inp+r.idx.toNat)) ((-1:Int):Rat),true) from by unfold za8;rw[if_neg hk5,if_neg hk6,if_neg hk7,if_neg hk8,if_neg hk9,if_pos hk10];(try simp at hc212);simp[*])] <;> rfl)
          .refine tq_ rfl (eqF rfl) (zl 5 rfl (nf_ [8] [so 3 _,so 4 _,so 7 _,so 8 _,so 9 _,so 10 _,so 11 _,so 12 _,so 16 _,so 17 _,so 111 _] [none,_,_,none,_,_,_,_,none,_] rfl rfl rfl (zc 1 rfl ?_)));by_cases hk11:r.kind=11
           .refine tq_ rfl (eqT rfl) (zl 4 rfl (dr_ 0 [(10,9)] [9] (dz 2 rfl (kc_ zlI rfl (zeJ (zcD s r)) (kc_ zgH rfl (zgD p (fN (zcD s r)) (by omega) (by omega) (by omega)) (dz 2 rfl ?_))))));refine zkG rfl (fun hb165=>?_) (fun hb165=>?_)
            .refine dz 6 rfl (zad (za 4 rfl (nf_ [1,4,5,6,7] [so 4 _,so 16 _,so 17 _] [none,none,_,none,none,none,none,none,none,hb_ 35 (afL (zcu p (fN (zcD s r))))] rfl rfl rfl (zc 13 rfl ?_))));exact r2_ hq_ rfl (by rw[zbz h1 hp0 (by unfold za8;rw[if_neg hk5,if_neg hk6,if_neg hk7,if_neg hk8,if_neg hk9,if_neg hk10,if_pos hk11];(try simp at hc212);simp[*])];exact zbh _ _ rfl)
            .refine dz 6 rfl (zad (za 4 rfl (nf_ [1,4,5,6,7] [so 4 _,so 16 _,so 17 (D.bool (r.hi == 0))] [none,none,_,none,none,none,none,none,none,hb_ 35 (afL (zcu p (fN (zcD s r))))] rfl rfl rfl (zc 5 rfl ?_))));refine zaz rfl (fun hc212=>?_) (fun hc212=>?_)
             .refine zc 7 rfl ?_;exact r2_ hq_ rfl (by rw[zbz h1 hp0 (by unfold za8;rw[if_neg hk5,if_neg hk6,if_neg hk7,if_neg hk8,if_neg hk9,if_neg hk10,if_pos hk11];(try simp at hc212);simp[*])];exact zbh _ _ rfl)
             .refine zc 9 rfl ?_;exact r2_ hq_ rfl (by rw[zcQ h1 hp0 (show za8 s r p=(zcu p (fN (zcD s r)),true) from by unfold za8;rw[if_neg hk5,if_neg hk6,if_neg hk7,if_neg hk8,if_neg hk9,if_neg hk10,if_pos hk11];(try simp at hc212);simp[*])] <;> rfl)
           .refine tq_ rfl (eqF rfl) (zl 5 rfl (nz_ [so 3 _,so 4 _,so 7 _,so 8 _,so 9 _,so 10 _,so 11 _,so 12 _,so 16 _,so 17 _,so 111 _] [none,_,_,none,_,_,_,_,none,_] rfl rfl (zc 1 rfl ?_)));by_cases hk12:r.kind=12
            .refine tq_ rfl (eqT rfl) (zl 4 rfl (dr_ 0 [(10,9)] [9] (dz 1 rfl (kc_ zlI rfl (zeJ (zco s r)) (dz 1 rfl (kc_ zgH rfl (zgD (fN (zco s r)) p (by omega) (by omega) (by omega)) (dz 2 rfl ?_)))))));refine zkG rfl (fun hb177=>?_) (fun hb177=>?_)
             .refine dz 6 rfl (zad (za 4 rfl (nf_ [1,4,5,6,7] [so 4 _,so 16 _,so 17 _] [none,none,_,none,none,none,none,none,none,hb_ 35 (afL (zcu (fN (zco s r)) p))] rfl rfl rfl (zc 13 rfl ?_))));exact r2_ hq_ rfl (by rw[zbz h1 hp0 (by unfold za8;rw[if_neg hk5,if_neg hk6,if_neg hk7,if_neg hk8,if_neg hk9,if_neg hk10,if_neg hk11,if_pos hk12];(try simp at hc212);simp[*])];exact zbh _ _ rfl)
             .refine dz 6 rfl (zad (za 4 rfl (nf_ [1,4,5,6,7] [so 4 _,so 16 _,so 17 (D.bool (r.lo == 0))] [none,none,_,none,none,none,none,none,none,hb_ 35 (afL (zcu (fN (zco s r)) p))] rfl rfl rfl (zc 5 rfl ?_))));refine zaz rfl (fun hc212=>?_) (fun hc212=>?_)
              .refine zc 7 rfl ?_;exact r2_ hq_ rfl (by rw[zbz h1 hp0 (by unfold za8;rw[if_neg hk5,if_neg hk6,if_neg hk7,if_neg hk8,if_neg hk9,if_neg hk10,if_neg hk11,if_pos hk12];(try simp at hc212);simp[*])];exact zbh _ _ rfl)
              .refine zc 9 rfl ?_;exact r2_ hq_ rfl (by rw[zcQ h1 hp0 (show za8 s r p=(zcu (fN (zco s r)) p,true) from by unfold za8;rw[if_neg hk5,if_neg hk6,if_neg hk7,if_neg hk8,if_neg hk9,if_neg hk10,if_neg hk11,if_pos hk12];(try simp at hc212);simp[*])] <;> rfl)
            .refine tq_ rfl (eqF rfl) (zl 5 rfl (nf_ [1] [so 4 _,so 7 _,so 8 _,so 9 _,so 10 _,so 11 _,so 12 _,so 16 _,so 17 _,so 111 _] [none,none,_,none,_,_,_,_,none,_] rfl rfl rfl (zc 1 rfl ?_)));by_cases hk13:r.kind=13
             .refine tq_ rfl (eqT rfl) (zl 5 rfl (dr_ 1 [(6,10),(7,10)] [10] (dz 2 rfl (kc_ zlI rfl (zeJ (zcD s r)) (kc_ zgH rfl (zgD p (fN (zcD s r)) (by omega) (by omega) (by omega)) (dz 1 rfl (kc_ zrd rfl (zcJ (zcu p (fN (zcD s r))) (zco s r) (by omega) (by omega)) (dz 2 rfl (zad ?_)))))))));refine za 1 rfl (nf_ [5] [so 4 _,so 7 _,so 9 _,so 10 _,so 11 _,so 12 _,so 16 _,so 18 (D.ptr 10 0)] [none,none,_,none,_,none,_,_,none,_,hb_ 35 (afL (fSc (zcu p (fN (zcD s r))) (zco s r)))] rfl rfl rfl (dr_ 0 [(21,9)] [9] (dz 4 rfl ?_)));refine kc_ fn74 rfl (zrX (qOf ((zco s r))) ((zco s r)) (zao _) (Br.use (by omega)) (qOf ((zcD s r))) ((zcD s r)) (zao _) (Br.use (by omega))) (kc_ zrd rfl (zcJ (fV (s.q.g.inp+r.idx.toNat)) (((zco s r))-((zcD s r))) (by omega) (by omega)) ?_);refine kc_ zgH rfl (zgD (fSc (zcu p (fN (zcD s r))) (zco s r)) (fSc (fV (s.q.g.inp+r.idx.toNat)) (((zco s r))-((zcD s r)))) (by omega) (by omega) (by omega)) (dz 2 rfl ?_);refine zkG rfl (fun hb198=>?_) (fun hb198=>?_)
              .refine dz 14 rfl (zad (za 4 rfl (nf_ [4,6,7,10] [so 4 _,so 16 _,so 17 (D.bool false)] [none,none,_,none,none,none,none,none,none,hb_ 35 (afL (zcu (fSc (zcu p (fN (zcD s r))) (zco s r)) (fSc (fV (s.q.g.inp+r.idx.toNat)) (((zco s r))-((zcD s r)))))),none] rfl rfl rfl (zc 13 rfl ?_))));exact r2_ hq_ rfl (by rw[zbz h1 hp0 (by unfold za8;rw[if_neg hk5,if_neg hk6,if_neg hk7,if_neg hk8,if_neg hk9,if_neg hk10,if_neg hk11,if_neg hk12,if_pos hk13];(try simp at hc212);simp[*])];exact zbh _ _ rfl)
              .refine dz 3 rfl ?_;refine zkG rfl (fun hb201=>?_) (fun hb201=>?_)
               .refine dz 11 rfl (zad (za 4 rfl (nf_ [4,6,7,10] [so 4 _,so 16 _,so 17 (D.bool false)] [none,none,_,none,none,none,none,none,none,hb_ 35 (afL (zcu (fSc (zcu p (fN (zcD s r))) (zco s r)) (fSc (fV (s.q.g.inp+r.idx.toNat)) (((zco s r))-((zcD s r)))))),none] rfl rfl rfl (zc 13 rfl ?_))));exact r2_ hq_ rfl (by rw[zbz h1 hp0 (by unfold za8;rw[if_neg hk5,if_neg hk6,if_neg hk7,if_neg hk8,if_neg hk9,if_neg hk10,if_neg hk11,if_neg hk12,if_pos hk13];(try simp at hc212);simp[*])];exact zbh _ _ rfl)
               .refine dz 1 rfl (kc_ zhU rfl (zb2 (qOf ((zcD s r))) ((zcD s r)) (zao _) (Br.use (by omega))) (dz 3 rfl ?_));refine zkG rfl (fun hb206=>?_) (fun hb206=>?_)
                .refine dz 6 rfl (zad (za 4 rfl (nf_ [4,6,7,10] [so 4 _,so 16 _,so 17 (D.bool false)] [none,none,_,none,none,none,none,none,none,hb_ 35 (afL (zcu (fSc (zcu p (fN (zcD s r))) (zco s r)) (fSc (fV (s.q.g.inp+r.idx.toNat)) (((zco s r))-((zcD s r)))))),none] rfl rfl rfl (zc 13 rfl ?_))));exact r2_ hq_ rfl (by rw[zbz h1 hp0 (by unfold za8;rw[if_neg hk5,if_neg hk6,if_neg hk7,if_neg hk8,if_neg hk9,if_neg hk10,if_neg hk11,if_neg hk12,if_pos hk13];(try simp at hc212);simp[*])];exact zbh _ _ rfl)
                .refine dz 1 rfl (kc_ zhU rfl (zb2 (qOf ((zco s r))) ((zco s r)) (zao _) (Br.use (by omega))) (dz 4 rfl (zad (za 4 rfl ?_))));refine nf_ [4,6,7,10] [so 4 _,so 16 _,so 17 (D.bool (decide (0<(sg ((zco s r))))))] [none,none,_,none,none,none,none,none,none,hb_ 35 (afL (zcu (fSc (zcu p (fN (zcD s r))) (zco s r)) (fSc (fV (s.q.g.inp+r.idx.toNat)) (((zco s r))-((zcD s r)))))),none] rfl rfl rfl (zc 5 rfl ?_);refine zaz rfl (fun hc212=>?_) (fun hc212=>?_)
                 .refine zc 7 rfl ?_;exact r2_ hq_ rfl (by rw[zbz h1 hp0 (by unfold za8;rw[if_neg hk5,if_neg hk6,if_neg hk7,if_neg hk8,if_neg hk9,if_neg hk10,if_neg hk11,if_neg hk12,if_pos hk13];(try simp at hc212);simp[*])];exact zbh _ _ rfl)
                 .refine zc 9 rfl ?_;exact r2_ hq_ rfl (by rw[zcQ h1 hp0 (show za8 s r p=(zcu (fSc (zcu p (fN (zcD s r))) (zco s r)) (fSc (fV (s.q.g.inp+r.idx.toNat)) (zco s r-zcD s r)),true) from by unfold za8;rw[if_neg hk5,if_neg hk6,if_neg hk7,if_neg hk8,if_neg hk9,if_neg hk10,if_neg hk11,if_neg hk12,if_pos hk13];(try simp at hc212);simp[*])] <;> rfl)
             .refine tq_ rfl (eqF rfl) (zl 9 rfl (nf_ [4,5,6,7] [so 4 _,so 16 _,so 17 _] [none,none,_,none,none,none,none,none,none,_] rfl rfl rfl (zc 13 rfl ?_)));exact r2_ hq_ rfl (by rw[zbz h1 hp0 (by unfold za8;rw[if_neg hk5,if_neg hk6,if_neg hk7,if_neg hk8,if_neg hk9,if_neg hk10,if_neg hk11,if_neg hk12,if_neg hk13])];exact zbh _ _ rfl)
set_option maxHeartbeats 2000000 in
theorem zvo(s:Sc){B:Nat}(hB:∀m∈s.lems,Fq m.v B)(hB2:B<=1000000000)(hl:s.lems.length<=1000000){b:Nat}(hq:QOk s.q)(hd:∀d∈s.path,DOk b s.q d)(hb:b<=1000000)(hpl:s.path.length<=1000)(r:Rw):Ctr Tryz.prog 156 [scV s,rwV r] (R.tup [afV (zaZ s r).1,V.one (Leaf.val (.bool (zaZ s r).2))]):=by
 refine bd_ Tryz.func156 Tryz.ntmps156 rfl (fun w0 A0=>?_);have hg:=hq.g;have hr:=hq.r;have hlo:=hr.lo;have hhi:=hr.hi;have h1:=hg.i1;have h2:=hg.i3;have h3:=hg.u4;have h4:=hg.o1;have h5:=hg.o3;refine zc 13 rfl (tc_ fn7 rfl (zku s.q hq) (zl 11 rfl ?_));by_cases h5:5<=r.kind
 .refine tq_ rfl (geT rfl) (zl 7 rfl (tc_ fn158 rfl (zt7 s hB (by omega) (by omega) hq hd (by omega) (by omega) r) (zl 6 rfl ?_)));exact r2_ hq_ rfl (by unfold zaZ;rw[if_pos h5] <;> rfl)
 .refine tq_ rfl (geF rfl) (zl 10 rfl ?_);by_cases ha:r.lo≠0
  .refine tq_ rfl (neT rfl) (zl 14 rfl ?_);have h0:r.lo≠0\/r.hi≠0\/r.idx<0:=.inl ha;refine zc 6 rfl ?_;exact r2_ hq_ rfl (by unfold zaZ;rw[if_neg h5,if_pos h0];exact zbh _ _ rfl)
  .refine tq_ rfl (neF rfl) (zl 3 rfl ?_);by_cases hb_:r.hi≠0
   .refine tq_ rfl (neT rfl) (zl 10 rfl ?_);have h0:r.lo≠0\/r.hi≠0\/r.idx<0:=.inr (.inl hb_);refine zc 6 rfl ?_;exact r2_ hq_ rfl (by unfold zaZ;rw[if_neg h5,if_pos h0];exact zbh _ _ rfl)
   .refine tq_ rfl (neF rfl) (zl 4 rfl ?_);by_cases hc_:r.idx<0
    .refine tq_ rfl (ltT rfl) (zl 5 rfl ?_);have h0:r.lo≠0\/r.hi≠0\/r.idx<0:=.inr (.inr hc_);refine zc 6 rfl ?_;exact r2_ hq_ rfl (by unfold zaZ;rw[if_neg h5,if_pos h0];exact zbh _ _ rfl)
    .refine tq_ rfl (ltF rfl) (zl 7 rfl ?_);have h0:¬(r.lo≠0\/r.hi≠0\/r.idx<0):=by omega
     refine zc 18 rfl ?_;by_cases hk1:r.kind=1
     .refine tq_ rfl (eqT rfl) (zl 10 rfl (tq_ rfl (jln rfl) ?_));by_cases hin:r.idx.toNat<s.q.r.lo.length
      .refine tq_ rfl (ltT rfl) (zl 4 rfl ?_);obtain⟨c,hc⟩:∃c,s.q.r.lo[r.idx.toNat]?=some c:=⟨_,zxa (by omega)⟩;obtain⟨c2,hc2⟩:∃c,s.q.r.hi[r.idx.toNat]?=some c:=⟨_,zxa (by omega)⟩;have hcb:=hr.bd _ _ _ hc hc2;have hv:FL 2 (s.q.g.inp+s.q.g.us.length) (fV r.idx.toNat):=FL.v (by omega);have hn:FL 1048577 (s.q.g.inp+s.q.g.us.length) (fN c):=FL.n (hcb.1.limb (by omega));haveI:=hv.fm (by omega);haveI:=hv.cb;haveI:=hn.fm (by omega);haveI:=hn.cb;refine dr_ 0 [(11,2)] [2] (dz 2 rfl (zsx (D.val (.int .i64 ((r.idx.toNat:Nat):Int))) rfl (by rw[Int.toNat_of_nonneg (by omega)]) (kc_ zv0 rfl (zup r.idx.toNat (by omega)) (dz 4 rfl (kq_ rfl (jix r.idx.toNat hc rfl (by omega)) (kq_ rfl (jlr rfl) (kc_ zlI rfl (zeJ c) (kc_ zgH rfl (zgD (fV r.idx.toNat) (fN c) (by omega) (by omega) (by omega)) (dz 2 rfl ?_)))))))));refine zad (za 1 rfl ?_);exact r2_ hq_ rfl (by unfold zaZ;rw[if_neg h5,if_neg h0,if_pos hk1,hc] <;> rfl)
      .refine tq_ rfl (ltF rfl) (zl 13 rfl ?_);exact r2_ hq_ rfl (by unfold zaZ;rw[if_neg h5,if_neg h0,if_pos hk1,List.getElem?_eq_none (by omega)];exact zbh _ _ rfl)
     .refine tq_ rfl (eqF rfl) (zl 6 rfl ?_);by_cases hk2:r.kind=2
      .refine tq_ rfl (eqT rfl) (zl 10 rfl (tq_ rfl (jln rfl) ?_));by_cases hin:r.idx.toNat<s.q.r.hi.length
       .refine tq_ rfl (ltT rfl) (zl 4 rfl ?_);obtain⟨c,hc⟩:∃c,s.q.r.hi[r.idx.toNat]?=some c:=⟨_,zxa (by omega)⟩;obtain⟨c2,hc2⟩:∃c,s.q.r.lo[r.idx.toNat]?=some c:=⟨_,zxa (by omega)⟩;have hcb:=hr.bd _ _ _ hc2 hc;have hv:FL 2 (s.q.g.inp+s.q.g.us.length) (fV r.idx.toNat):=FL.v (by omega);have hn:FL 1048577 (s.q.g.inp+s.q.g.us.length) (fN c):=FL.n (hcb.2.1.limb (by omega));haveI:=hv.fm (by omega);haveI:=hv.cb;haveI:=hn.fm (by omega);haveI:=hn.cb;refine dr_ 0 [(11,2)] [2] (dz 4 rfl (kq_ rfl (jix r.idx.toNat hc rfl (by omega)) (kq_ rfl (jlr rfl) (kc_ zlI rfl (zeJ c) (dz 2 rfl (zsx (D.val (.int .i64 ((r.idx.toNat:Nat):Int))) rfl (by rw[Int.toNat_of_nonneg (by omega)]) (kc_ zv0 rfl (zup r.idx.toNat (by omega)) (kc_ zgH rfl (zgD (fN c) (fV r.idx.toNat) (by omega) (by omega) (by omega)) (dz 2 rfl ?_)))))))));refine zad (za 1 rfl ?_);exact r2_ hq_ rfl (by unfold zaZ;rw[if_neg h5,if_neg h0,if_neg hk1,if_pos hk2,hc] <;> rfl)
       .refine tq_ rfl (ltF rfl) (zl 13 rfl ?_);exact r2_ hq_ rfl (by unfold zaZ;rw[if_neg h5,if_neg h0,if_neg hk1,if_pos hk2,List.getElem?_eq_none (by omega)];exact zbh _ _ rfl)
      .refine tq_ rfl (eqF rfl) (zl 6 rfl ?_);by_cases hk3:r.kind=3
       .refine tq_ rfl (eqT rfl) (zl 10 rfl (tq_ rfl (jln rfl) ?_));by_cases hin:r.idx.toNat<s.q.r.rows.length
        .refine tq_ rfl (ltT rfl) (zl 4 rfl ?_);obtain⟨f,hf⟩:∃f,s.q.r.rows[r.idx.toNat]?=some f:=⟨_,zxa (by omega)⟩;refine zc 5 rfl (tq_ rfl (jix r.idx.toNat hf rfl (by omega)) (tq_ rfl (jlr rfl) (zl 4 rfl ?_)));exact r2_ hq_ rfl (by unfold zaZ;rw[if_neg h5,if_neg h0,if_neg hk1,if_neg hk2,if_pos hk3,hf] <;> rfl)
        .refine tq_ rfl (ltF rfl) (zl 13 rfl ?_);exact r2_ hq_ rfl (by unfold zaZ;rw[if_neg h5,if_neg h0,if_neg hk1,if_neg hk2,if_pos hk3,List.getElem?_eq_none (by omega)];exact zbh _ _ rfl)
       .refine tq_ rfl (eqF rfl) (zl 6 rfl ?_);by_cases hk4:r.kind=4
        .refine tq_ rfl (eqT rfl) (zl 6 rfl (dr_ 0 [] [] (dz 4 rfl (kq_ rfl (jln rfl) ?_))));by_cases hin:s.path.length<=r.idx.toNat
         .refine kq_ rfl (geT rfl) (dz 12 rfl (zad (za 9 rfl ?_)));exact r2_ hq_ rfl (by unfold zaZ;rw[if_neg h5,if_neg h0,if_neg hk1,if_neg hk2,if_neg hk3,if_pos hk4,List.getElem?_eq_none (by omega)];exact zbh _ _ rfl)
         .refine kq_ rfl (geF rfl) (dz 1 rfl ?_);obtain⟨d,hdd⟩:∃d,s.path[r.idx.toNat]?=some d:=⟨_,zxa (by omega)⟩;have hdo:=hd d (zxb hdd);have hdk:d.kind=1\/d.kind=2\/d.kind=3\/d.kind=4:=by rcases hdo.1 with⟨h,_⟩|⟨h,_⟩ <;> omega
          have hdi:d.idx<(s.q.g.inp+s.q.g.us.length):=by rcases hdo.1 with⟨_,h,_⟩|⟨_,h⟩ <;> omega
          have hv:FL 2 (s.q.g.inp+s.q.g.us.length) (fV d.idx):=FL.v hdi;have hn:FL (b+1) (s.q.g.inp+s.q.g.us.length) (fN d.pt):=FL.n hdo.2.br;have hs:=hv.sub hn;haveI:=hv.fm (by omega);haveI:=hv.cb;haveI:=hn.fm (by omega);haveI:=hn.cb;haveI:=hs.fm (by omega);haveI:=hs.cb;refine dz 6 rfl (kq_ rfl (jix r.idx.toNat hdd rfl (by omega)) (kq_ rfl (jlr rfl) (kc_ zv4 rfl (zrf s.q d (by assumption) (by omega)) (dz 2 rfl (zad (za 10 rfl (tq_ rfl (jix r.idx.toNat hdd rfl (by omega)) (tq_ rfl (jlr rfl) (zl 5 rfl ?_)))))))));refine dr_ 1 [(7,5),(8,5)] [5] (dz 2 rfl (kc_ zv0 rfl (zup d.idx (by omega)) (dz 2 rfl (kc_ zlI rfl (zeJ d.pt) (kc_ zgH rfl (zgD (fV d.idx) (fN d.pt) (by omega) (by omega) (by omega)) (dz 2 rfl (zad (za 6 rfl ?_))))))));by_cases hk:d.kind=3
          .refine tq_ rfl (eqT rfl) (zl 10 rfl ?_);exact r2_ hq_ rfl (by unfold zaZ;rw[if_neg h5,if_neg h0,if_neg hk1,if_neg hk2,if_neg hk3,if_pos hk4,hdd];show _=R.tup [afV (if 3<=d.kind then(zfl d,true) else(fZ,false)).1,V.one (Leaf.val (.bool (if 3<=d.kind then(zfl d,true) else(fZ,false)).2))];rw[if_pos (by omega)];show _=R.tup [afV (zfl d),V.one (Leaf.val (.bool true))];unfold zfl;rw[if_pos hk] <;> rfl)
          .refine tq_ rfl (eqF rfl) (zl 9 rfl ?_);by_cases hk_:d.kind=4
           .refine tq_ rfl (eqT rfl) (zl 4 rfl (dr_ 0 [(3,2)] [2] (dz 1 rfl (kc_ fn8 rfl (zl6 (-1) (by decide) (by decide)) (kc_ zrd rfl (zcJ (zcu (fV d.idx) (fN d.pt)) (((-1):Int):Rat) (by omega) (by omega)) (dz 2 rfl (zad (za 1 rfl ?_))))))));exact r2_ hq_ rfl (by unfold zaZ;rw[if_neg h5,if_neg h0,if_neg hk1,if_neg hk2,if_neg hk3,if_pos hk4,hdd];show _=R.tup [afV (if 3<=d.kind then(zfl d,true) else(fZ,false)).1,V.one (Leaf.val (.bool (if 3<=d.kind then(zfl d,true) else(fZ,false)).2))];rw[if_pos (by omega)];show _=R.tup [afV (zfl d),V.one (Leaf.val (.bool true))];unfold zfl;rw[if_neg hk] <;> rfl)
           .refine tq_ rfl (eqF rfl) (zl 13 rfl ?_);exact r2_ hq_ rfl (by unfold zaZ;rw[if_neg h5,if_neg h0,if_neg hk1,if_neg hk2,if_neg hk3,if_pos hk4,hdd];show _=R.tup [afV (if 3<=d.kind then(zfl d,true) else(fZ,false)).1,V.one (Leaf.val (.bool (if 3<=d.kind then(zfl d,true) else(fZ,false)).2))];rw[if_neg (by omega)];exact zbh _ _ rfl)
        .refine tq_ rfl (eqF rfl) (zl 14 rfl ?_);exact r2_ hq_ rfl (by unfold zaZ;rw[if_neg h5,if_neg h0,if_neg hk1,if_neg hk2,if_neg hk3,if_neg hk4];exact zbh _ _ rfl)
end Go.Proofs.YticnclbnchgigaaGreatDoor
namespace Rc
open Go Go.RowKit
theorem fZ_ls:[tmE.row fZ.ts,Leaf.val (.bool (zbx fZ.c)),zaf (zab (zaV fZ.c)),zaf (zab (zaW fZ.c))]=[nilL,Leaf.val (.bool false),nilL,nilL]:=by
 show[tmE.row [],Leaf.val (.bool (zbx 0)),zaf (zab (zaV 0)),zaf (zab (zaW 0))]=_;rw[zcw,zcy,zaj];rfl
theorem zwg{x:Qr}(h:x=qOf x.q):D.agg [Leaf.val (.bool x.neg),zaf x.n,zaf x.d]=D.agg (qL x.q):=by
 rw[h,zao];rfl
theorem zgb{q:Rat}(h:0<=q):zbx q=false:=by unfold zbx;exact decide_eq_false (Int.not_lt.2 (Rat.num_nonneg.2 h))
theorem zrr(q:Rat):D.agg [Leaf.val (.bool false),zaf (zab (zaV q)),zaf (zab (zaW q))]=D.agg (qL (rq false (zaV q) (zaW q))):=by
 have h0:=ze1 q;rw[zom] at h0 ⊢;split
 .rename_i h;rw[if_pos h] at h0;unfold qL;rw[zkU,zk0,zgb h0]
 .rename_i h;rw[if_neg h] at h0;unfold qL;rw[zgb h0]
theorem zgM(n:Nat):(n:Int).toNat=n:=rfl
section
variable {s:Sc}
theorem znM{v:Nat}{c:Rat}(h:s.q.r.lo[v]?=some c):zaZ s ⟨1,(v:Int),0,0⟩=(zcu (fV v) (fN c),true):=by
 unfold zaZ;rw[if_neg (by show ¬(5:Int)<=1;decide),if_neg (by show ¬((0:Int)≠0\/(0:Int)≠0\/(v:Int)<0);omega),if_pos rfl];simp only[zgM,h]
theorem znN{v:Nat}{c:Rat}(h:s.q.r.hi[v]?=some c):zaZ s ⟨2,(v:Int),0,0⟩=(zcu (fN c) (fV v),true):=by
 unfold zaZ;rw[if_neg (by show ¬(5:Int)<=2;decide),if_neg (by show ¬((0:Int)≠0\/(0:Int)≠0\/(v:Int)<0);omega),if_neg (by show ¬(2:Int)=1;decide),if_pos rfl];simp only[zgM,h]
theorem zdB{k lo hi:Int}{j:Nat}{p f:Af}(hk:5<=k)(hp:s.q.g.us[j]?=some p)(h:za8 s ⟨k,(j:Int),lo,hi⟩ p=(f,true)):zaZ s ⟨k,(j:Int),lo,hi⟩=(f,true):=by
 unfold zaZ;rw[if_pos hk];exact zcQ (by show ¬(j:Int)<0;omega) hp h
theorem ziG{j:Nat}{p:Af}(hp:s.q.g.us[j]?=some p):zaZ s ⟨5,(j:Int),0,0⟩=(fV (s.q.g.inp+j),true):=
 zdB (by decide) hp (by unfold za8;rw[if_pos rfl];rfl)
theorem ziB{j n:Nat}{up:Bool}{m:Lm}(hn:0<n)(hm:s.lems[n-1]?=some m)(hu:m.unit=(j:Int))(hup:m.up=up):lem s.lems (n:Int) (j:Int) up=(m.v.q,true):=
 zny (by omega) (by rw[show((n:Int)-1).toNat=n-1 by omega];exact hm) ⟨hu,hup⟩
theorem znL{j n:Nat}{p:Af}{m:Lm}(hp:s.q.g.us[j]?=some p)(hn:0<n)(hm:s.lems[n-1]?=some m)(hu:m.unit=(j:Int))(hup:m.up=false)(hv:0<=m.v.q) :
  zaZ s ⟨8,(j:Int),(n:Int),0⟩=(zcu p (fV (s.q.g.inp+j)),true):=
 zdB (by decide) hp (by
  unfold za8;rw[if_neg (by simp),if_neg (by simp),if_neg (by simp),if_pos rfl];unfold onB zq6 zcD;simp only[ziB hn hm hu hup,zrR.2 hv];simp)
theorem zkN{j n:Nat}{p:Af}{m:Lm}(hp:s.q.g.us[j]?=some p)(hn:0<n)(hm:s.lems[n-1]?=some m)(hu:m.unit=(j:Int))(hup:m.up=true)(hv:m.v.q<=0) :
  zaZ s ⟨10,(j:Int),0,(n:Int)⟩=(fSc (fV (s.q.g.inp+j)) ((-1:Int):Rat),true):=
 zdB (by decide) hp (by
  unfold za8;rw[if_neg (by simp),if_neg (by simp),if_neg (by simp),if_neg (by simp),if_neg (by simp),if_pos rfl];unfold zht zoY zco;simp only[ziB hn hm hu hup,zrQ.2 hv];simp)
theorem zhA{j n:Nat}{p:Af}{m:Lm}(hp:s.q.g.us[j]?=some p)(hn:0<n)(hm:s.lems[n-1]?=some m)(hu:m.unit=(j:Int))(hup:m.up=true) :
  zaZ s ⟨12,(j:Int),0,(n:Int)⟩=(zcu (fN m.v.q) p,true):=
 zdB (by decide) hp (by
  unfold za8;rw[if_neg (by simp),if_neg (by simp),if_neg (by simp),if_neg (by simp),if_neg (by simp),if_neg (by simp),if_neg (by simp),if_pos rfl];unfold zoY zco;simp only[ziB hn hm hu hup];simp)
theorem zkM{j n n':Nat}{p:Af}{m m':Lm}(hp:s.q.g.us[j]?=some p)(hn:0<n)(hm:s.lems[n-1]?=some m)(hu:m.unit=(j:Int))(hup:m.up=false)
  (hn':0<n') (hm':s.lems[n'-1]?=some m') (hu':m'.unit=(j:Int)) (hup':m'.up=true) (hv:m.v.q<0) (hv':0<m'.v.q) :
  zaZ s ⟨13,(j:Int),(n:Int),(n':Int)⟩=(zcu (fSc (zcu p (fN m.v.q)) m'.v.q) (fSc (fV (s.q.g.inp+j)) (m'.v.q-m.v.q)),true):=
 zdB (by decide) hp (by
  unfold za8;rw[if_neg (by simp),if_neg (by simp),if_neg (by simp),if_neg (by simp),if_neg (by simp),if_neg (by simp),if_neg (by simp),if_neg (by simp),if_pos rfl];unfold zq6 zcD zoY zco;simp only[ziB hn hm hu hup,ziB hn' hm' hu' hup',sg_lt.2 hv,zo5.2 hv'];simp)
structure StepOk(s:Sc)(B:Nat)(l:List Mu):Prop where
 ok:∀m∈l,(zaZ s m.r).2=true
 pos:∀m∈l,0<m.c.q
 bd:MB B l
 len:l.length<=2
theorem zel{r:Rw}{B:Nat}(h:(zaZ s r).2=true):StepOk s (2*B+12) [⟨r,qOf ((1:Int):Rat)⟩]:=
 ⟨fun m hm=>by simp at hm;subst hm;exact h,fun m hm=>by simp at hm;subst hm;rw[zao];decide,fun m hm=>by rw[List.mem_singleton] at hm;subst hm;exact Fq.of.mono (by omega),by simp⟩
theorem zg7{v B:Nat}(hq:QOk s.q)(hv:v<s.q.g.inp+s.q.g.us.length):StepOk s (2*B+12) (zbw s.q.g.inp v):=by
 unfold zbw;split
 .rename_i h;have:=hq.r.lo;obtain⟨c,hc⟩:∃c,s.q.r.lo[v]?=some c:=⟨_,zxa (by omega)⟩;exact zel (by rw[znM hc])
 .obtain⟨p,hp⟩:∃p,s.q.g.us[v-s.q.g.inp]?=some p:=⟨_,zxa (by omega)⟩;exact zel (by rw[ziG hp])
theorem zi2{v B:Nat}{l:List Mu}(hq:QOk s.q)(hB:∀m∈s.lems,Fq m.v B)(hv:v<s.q.g.inp+s.q.g.us.length)(h:za4 s.q.g.inp s.lems v=some l):StepOk s (4*B+12) l:=by
 have one:∀{r:Rw},(zaZ s r).2=true->StepOk s (4*B+12) [⟨r,qOf ((1:Int):Rat)⟩]:=fun h=>
  ⟨(zel (B:=B) h).ok,(zel (B:=B) h).pos,(zel (B:=B) h).bd.mono (by omega),by simp⟩
 unfold za4 at h;split at h
 .rename_i hi;cases h;have:=hq.r.hi;obtain⟨c,hc⟩:∃c,s.q.r.hi[v]?=some c:=⟨_,zxa (by omega)⟩;exact one (by rw[znN hc])
 .obtain⟨p,hp⟩:∃p,s.q.g.us[v-s.q.g.inp]?=some p:=⟨_,zxa (by omega)⟩;split at h
  .cases h
  .rename_i hb;obtain⟨y,hy,yu,yp,hly,hy0,hyl⟩:=zgo (fun e=>hb (.inl e));obtain⟨z,hz,zu,zp,hlz,hz0,hzl⟩:=ze0 (fun e=>hb (.inr e));haveI:=hB y (zxb hy);haveI:=hB z (zxb hz);rw[hlz,hly] at h;split at h
   .rename_i hu;cases h;exact one (by rw[zkN hp hz0 hz zu zp hu])
   .rename_i hu;split at h
    .rename_i hl;cases h;refine⟨fun m hm=>?_,fun m hm=>?_,fun m hm=>?_,by simp⟩
     .simp at hm;rcases hm with rfl|rfl
      .rw[znL hp hy0 hy yu yp hl]
      .rw[zhA hp hz0 hz zu zp]
     .simp at hm;rcases hm with rfl|rfl <;> rw[zao] <;> decide
     .simp only[zxE,List.not_mem_nil,or_false] at hm;rcases hm with rfl|rfl <;> exact Fq.of.mono (by omega)
    .rename_i hl;cases h;have h1:0<z.v.q:=by grind
     have h2:0<z.v.q-y.v.q:=by grind
     have h3:0<((1:Int):Rat)/(z.v.q-y.v.q):=by
      rw[Rat.div_def];exact Rat.mul_pos (by decide) (Rat.inv_pos.2 h2)
     refine⟨fun m hm=>?_,fun m hm=>?_,fun m hm=>?_,by simp⟩
     .simp at hm;rcases hm with rfl|rfl
      .rw[zhA hp hz0 hz zu zp]
      .rw[zkM hp hy0 hy yu yp hz0 hz zu zp (by grind) h1]
     .simp only[zxE,List.not_mem_nil,or_false] at hm;rcases hm with rfl|rfl
      .show 0<(qOf _).q;rw[zao];exact Rat.mul_pos h3 h1
      .show 0<(qOf _).q;rw[zao];exact h3
     .simp only[zxE,List.not_mem_nil,or_false] at hm;rcases hm with rfl|rfl <;> exact Fq.of.mono (by omega)
theorem znd{l:List Mu}{r:Rw}{c:Rat}{x:Mu}(h:x∈zbM l r c):x.r=r\/x∈l:=by
 unfold zbM at h;split at h
 .exact .inr h
 .exact zhw h
theorem zfT{c:Rat}{P:Rw->Prop}:∀{b a:List Mu},(∀m∈a,P m.r)->(∀m∈b,P m.r)->∀m∈zaO a b c,P m.r
 |[],a,h,_=>h
 |x::b,a,h,hb=>zfT (b:=b) (a:=zbM a x.r (x.c.q*c)) (fun m hm=>by
   rcases znd hm with e|hm
   .rw[e];exact hb x (by simp)
   .exact h m hm) (fun m hm=>hb m (by simp[hm]))
structure DerOk(s:Sc)(B n:Nat)(l:List Mu):Prop where
 ok:∀m∈l,(zaZ s m.r).2=true
 can:CanM l
 bd:MB B l
 len:l.length<=n
def vrR(inp:Nat)(r:Rw):Int:=if r.kind<=2 then r.idx else(inp:Int)+r.idx
theorem zkH{r:Rw}{c:Rat}:∀{l:List Mu},(∀m∈l,m.r≠r)->∀x∈zez l r c,x∈l\/x=⟨r,qOf c⟩
 |[],_,x,h=>by simp only[zez,List.mem_singleton] at h;exact .inr h
 |m::l,hn,x,h=>by
  unfold zez at h;split at h
  .rcases zxE.1 h with h|h
   .exact .inl (by rw[h];simp)
   .rcases zkH (l:=l) (fun y hy=>hn y (by simp[hy])) x h with h|h
    .exact .inl (by simp[h])
    .exact .inr h
  .split at h
   .rename_i e;exact absurd e (hn m (by simp))
   .rcases zxE.1 h with h|h
    .exact .inr h
    .exact .inl h
theorem zis{l:List Mu}{r:Rw}{c:Rat}(hn:∀m∈l,m.r≠r):∀x∈zbM l r c,x∈l\/x=⟨r,qOf c⟩:=by
 unfold zbM;split
 .exact fun x h=>.inl h
 .exact zkH hn
theorem zlC{inp:Nat}{c:Rat}{C D K:Nat}[hc:Br c D]{v:Int}(hK:C+D+1<=K):∀{b a:List Mu},MB K a->MB C b->(∀m∈a,vrR inp m.r<v)->(∀m∈b,vrR inp m.r=v)->b.Pairwise (fun x y=>x.r≠y.r) →
  MB K (zaO a b c)
 |b,a,ha,hb,hva,hvb,hp=>by
  have key:∀(b:List Mu) (a:List Mu),MB K a->MB C b->b.Pairwise (fun x y=>x.r≠y.r)->(∀x∈a,∀y∈b,x.r≠y.r)->MB K (zaO a b c):=by
   intro b
   induction b with
   |nil=>intro a ha _ _ _;exact ha
   |cons x b ih=>
    intro a ha hb hp hd;rw[List.pairwise_cons] at hp;have e:zaO a (x::b) c=zaO (zbM a x.r (x.c.q*c)) b c:=rfl;rw[e];have hn:=zis (c:=x.c.q*c) (fun m hm=>hd m hm x (by simp));haveI:=hb x (by simp);refine ih _ (fun m hm=>?_) (fun m hm=>hb m (by simp[hm])) hp.2 (fun m hm y hy=>?_)
    .rcases hn m hm with h|h
     .exact ha m h
     .rw[h];exact(Fq.of (r:=x.c.q*c)).mono (by omega)
    .rcases hn m hm with h|h
     .exact hd m h y (by simp[hy])
     .rw[h];exact hp.1 y hy
  exact key b a ha hb hp (fun x hx y hy e=>by have h1:=hva x hx;have h2:=hvb y hy;rw[e] at h1;omega)
theorem zg6{inp v:Nat}:(∀m∈zbw inp v,vrR inp m.r=(v:Int))/\(zbw inp v).Pairwise (fun x y=>x.r≠y.r):=by
 unfold zbw;split
 .exact⟨fun m hm=>by rw[List.mem_singleton] at hm;subst hm;rfl,List.pairwise_singleton _ _⟩
 .refine⟨fun m hm=>?_,List.pairwise_singleton _ _⟩;rw[List.mem_singleton] at hm;subst hm;show(inp:Int)+((v-inp:Nat):Int)=_;omega
theorem zi1{inp v:Nat}{lems:List Lm}{l:List Mu}(h:za4 inp lems v=some l):(∀m∈l,vrR inp m.r=(v:Int))/\l.Pairwise (fun x y=>x.r≠y.r):=by
 unfold za4 at h;split at h
 .cases h;exact⟨fun m hm=>by rw[List.mem_singleton] at hm;subst hm;rfl,List.pairwise_singleton _ _⟩
 .rename_i hi;have hu:∀k lo hi:Int,3<=k->vrR inp ⟨k,((v-inp:Nat):Int),lo,hi⟩=(v:Int):=fun k lo hi hk=>by
   unfold vrR;rw[if_neg (by show ¬k<=2;omega)];show(inp:Int)+((v-inp:Nat):Int)=_;omega
  split at h
  .cases h
  .split at h
   .cases h;exact⟨fun m hm=>by rw[List.mem_singleton] at hm;subst hm;exact hu _ _ _ (by decide),List.pairwise_singleton _ _⟩
   .split at h
    .cases h;refine⟨fun m hm=>?_,?_⟩
     .simp only[zxE,List.not_mem_nil,or_false] at hm;rcases hm with rfl|rfl <;> exact hu _ _ _ (by decide)
     .refine List.Pairwise.cons (fun y hy e=>?_) (List.pairwise_singleton _ _);rw[List.mem_singleton] at hy;subst hy;have:=congrArg Rw.kind e;simp at this
    .cases h;refine⟨fun m hm=>?_,?_⟩
     .simp only[zxE,List.not_mem_nil,or_false] at hm;rcases hm with rfl|rfl <;> exact hu _ _ _ (by decide)
     .refine List.Pairwise.cons (fun y hy e=>?_) (List.pairwise_singleton _ _);rw[List.mem_singleton] at hy;subst hy;have:=congrArg Rw.kind e;simp at this
@[reducible] def mbB(B:Nat):Nat:=4*B+12+1048578+1
theorem zlH{r:Rw}(hq:QOk s.q)(hk:r.kind<=2):FL 1048600 (s.q.g.inp+s.q.g.us.length) (zaZ s r).1:=by
 have z:FL 1048600 (s.q.g.inp+s.q.g.us.length) fZ:=FL.z.mono (by omega) (zxe _);have hl:=hq.r.lo;have hh:=hq.r.hi;unfold zaZ;rw[if_neg (by omega)];split
 .exact z
 split
 .split
  .rename_i c hc;have hj:=(zxc.1 hc).1;obtain⟨y,hy⟩:∃y,s.q.r.hi[r.idx.toNat]?=some y:=⟨_,zxa (by omega)⟩;exact((FL.v (by omega)).sub (FL.n ((hq.r.bd _ _ _ hc hy).1.limb (k:=1048577) (by omega)))).mono (by omega) (zxe _)
  .exact z
 split
 .split
  .rename_i c hc;have hj:=(zxc.1 hc).1;obtain⟨y,hy⟩:∃y,s.q.r.lo[r.idx.toNat]?=some y:=⟨_,zxa (by omega)⟩;exact((FL.n ((hq.r.bd _ _ _ hy hc).2.1.limb (k:=1048577) (by omega))).sub (FL.v (by omega))).mono (by omega) (zxe _)
  .exact z
 rw[if_neg (by omega),if_neg (by omega)];exact z
def zfy:List Mu->Nat
 |[]=>0
 |m::l=>(if 2<m.r.kind then 1 else 0)+zfy l
theorem zkV(r:Rw)(c:Rat):∀l:List Mu,zfy (zez l r c)<=zfy l+(if 2<r.kind then 1 else 0)
 |[]=>by show(if 2<r.kind then 1 else 0)+0<=0+_;omega
 |m::l=>by
  have ih:=zkV r c l;unfold zez;split
  .show(if 2<m.r.kind then 1 else 0)+zfy (zez l r c)<=(if 2<m.r.kind then 1 else 0)+zfy l+_;omega
  .split
   .rename_i e;show(if 2<r.kind then 1 else 0)+zfy l<=(if 2<m.r.kind then 1 else 0)+zfy l+_;omega
   .show(if 2<r.kind then 1 else 0)+((if 2<m.r.kind then 1 else 0)+zfy l)<=(if 2<m.r.kind then 1 else 0)+zfy l+_;omega
theorem zg3(c:Rat):∀(b a:List Mu),zfy (zaO a b c)<=zfy a+zfy b
 |[],a=>by simp[zaO,zfy]
 |m::b,a=>by
  have e:zaO a (m::b) c=zaO (zbM a m.r (m.c.q*c)) b c:=rfl;have h1:=zg3 c b (zbM a m.r (m.c.q*c));have h2:zfy (zbM a m.r (m.c.q*c))<=zfy a+(if 2<m.r.kind then 1 else 0):=by
   unfold zbM;split
   .omega
   .exact zkV _ _ _
  rw[e];show _<=zfy a+((if 2<m.r.kind then 1 else 0)+zfy b);omega
theorem zjJ:∀l:List Mu,zfy l<=l.length
 |[]=>zxe _
 |m::l=>by have:=zjJ l;show(if 2<m.r.kind then 1 else 0)+zfy l<=_;rw[List.length_cons];split <;> omega
structure DerX(s:Sc)(v:Nat)(l:List Mu):Prop where
 vr:∀m∈l,vrR s.q.g.inp m.r<(v:Int)
 sm:∀m∈l,m.r.kind<=2->Fq m.c 1048600
 cnt:zfy l<=2*(v-s.q.g.inp)
structure StepX(s:Sc)(v:Nat)(l:List Mu):Prop where
 vr:∀m∈l,vrR s.q.g.inp m.r=(v:Int)
 pw:l.Pairwise (fun x y=>x.r≠y.r)
 sm:∀m∈l,m.r.kind<=2->Fq m.c 12
 cnt:zfy l<=if v<s.q.g.inp then 0 else 2
theorem zoc{v:Nat}:StepX s v (zbw s.q.g.inp v):=by
 refine⟨zg6.1,zg6.2,fun m hm _=>?_,?_⟩
 .unfold zbw at hm;split at hm <;> (rw[List.mem_singleton] at hm;subst hm;exact(Fq.of (r:=((1:Int):Rat))).mono (by omega))
 .unfold zbw;split
  .exact zxe _
  .exact zxk (zjJ _) (by simp)
theorem zp5{v:Nat}{l:List Mu}(h:za4 s.q.g.inp s.lems v=some l)(hlen:l.length<=2):StepX s v l:=by
 refine⟨(zi1 h).1,(zi1 h).2,fun m hm hk=>?_,?_⟩
 .unfold za4 at h;split at h
  .cases h;rw[List.mem_singleton] at hm;subst hm;exact(Fq.of (r:=((1:Int):Rat))).mono (by omega)
  .exfalso;split at h
   .cases h
   .split at h
    .cases h;rw[List.mem_singleton] at hm;subst hm;simp at hk
    .split at h
     .cases h;simp only[zxE,List.not_mem_nil,or_false] at hm;rcases hm with rfl|rfl <;> simp at hk
     .cases h;simp only[zxE,List.not_mem_nil,or_false] at hm;rcases hm with rfl|rfl <;> simp at hk
 .split
  .rename_i hv;unfold za4 at h;rw[if_pos hv] at h;cases h;exact zxe _
  .exact zxk (zjJ _) hlen
theorem zix{c:Rat}{D:Nat}[hc:Br c D](hD:D+13<=1048600):∀{b a:List Mu},(∀m∈a,m.r.kind<=2->Fq m.c 1048600)->(∀m∈b,m.r.kind<=2->Fq m.c 12)->b.Pairwise (fun x y=>x.r≠y.r)->(∀x∈a,∀y∈b,x.r≠y.r)->∀m∈zaO a b c,m.r.kind<=2->Fq m.c 1048600
 |[],a,ha,_,_,_=>ha
 |x::b,a,ha,hb,hp,hd=>by
  rw[List.pairwise_cons] at hp;have e:zaO a (x::b) c=zaO (zbM a x.r (x.c.q*c)) b c:=rfl;rw[e];have hn:=zis (c:=x.c.q*c) (fun m hm=>hd m hm x (by simp));refine zix hD (b:=b) (fun m hm hk=>?_) (fun m hm=>hb m (by simp[hm])) hp.2 (fun m hm y hy=>?_)
  .rcases hn m hm with h|h
   .exact ha m h hk
   .rw[h] at hk ⊢;haveI:=hb x (by simp) hk;exact(Fq.of (r:=x.c.q*c)).mono (by omega)
  .rcases hn m hm with h|h
   .exact hd m h y (by simp[hy])
   .rw[h];exact hp.1 y hy
theorem zts{B n:Nat}{a:List Mu×Bool}{t:Tm}(hq:QOk s.q)(hB:∀m∈s.lems,Fq m.v B)(hv:t.1<s.q.g.inp+s.q.g.us.length)(ht:Br t.2 1048577)(h:DerOk s (mbB B) n a.1)(hx:DerX s t.1 a.1) :
  DerOk s (mbB B) (n+2) (zdO s.q.g.inp s.lems a t).1/\DerX s (t.1+1) (zdO s.q.g.inp s.lems a t).1:=by
 have mg:∀{l:List Mu},StepOk s (4*B+12) l->StepX s t.1 l->DerOk s (mbB B) (n+2) (zaO a.1 l (rq false (zaV t.2) (zaW t.2)))/\DerX s (t.1+1) (zaO a.1 l (rq false (zaV t.2) (zaW t.2))):=fun {l} hs hl=>
  have hd:∀x∈a.1,∀y∈l,x.r≠y.r:=fun x hx2 y hy e=>by have h1:=hx.vr x hx2;have h2:=hl.vr y hy;rw[e] at h1;omega
  ⟨⟨zfT (P:=fun r=>(zaZ s r).2=true) h.ok hs.ok,zgY (ze1 _) h.can hs.pos,zlC (inp:=s.q.g.inp) (v:=(t.1:Int)) (C:=4*B+12) (D:=1048577+1) (by unfold mbB;omega) h.bd hs.bd hx.vr hl.vr hl.pw,by have:=zeR l a.1 (rq false (zaV t.2) (zaW t.2));have:=h.len;have:=hs.len;omega⟩,
   ⟨zfT (P:=fun r=>vrR s.q.g.inp r<((t.1+1:Nat):Int)) (fun m hm=>by have:=hx.vr m hm;omega) (fun m hm=>by have:=hl.vr m hm;omega),
   zix (D:=1048577+1) (by omega) hx.sm hl.sm hl.pw hd,
   by
    have h1:=zg3 (rq false (zaV t.2) (zaW t.2)) l a.1;have h2:=hx.cnt;have h3:=hl.cnt;split at h3 <;> omega⟩⟩
 unfold zdO;split
 .split
  .have h2:=zg7 (B:=2*B) hq hv;exact mg ⟨h2.ok,h2.pos,h2.bd.mono (by omega),h2.len⟩ zoc
  .split
   .rename_i l hl;have h2:=zi2 hq hB hv hl;exact mg h2 (zp5 hl h2.len)
   .exact⟨⟨fun m hm=>by simp at hm,trivial,fun m hm=>by simp at hm,by simp⟩,⟨fun m hm=>by simp at hm,fun m hm=>by simp at hm,zxg _⟩⟩
 .exact⟨⟨h.ok,h.can,h.bd,zxk h.len (by omega)⟩,⟨fun m hm=>by have:=hx.vr m hm;omega,hx.sm,by have:=hx.cnt;omega⟩⟩
theorem DerX.mono{v w:Nat}{l:List Mu}(h:DerX s v l)(hvw:v<=w):DerX s w l:=⟨fun m hm=>by have:=h.vr m hm;omega,h.sm,by have:=h.cnt;omega⟩
theorem zok{B:Nat}(hq:QOk s.q)(hB:∀m∈s.lems,Fq m.v B):∀(ts:List Tm) (a:List Mu×Bool) (n v:Nat),CanT ts->(∀t∈ts,v<=t.1)->(∀t∈ts,t.1<s.q.g.inp+s.q.g.us.length/\Br t.2 1048577)->DerOk s (mbB B) n a.1->DerX s v a.1->v<=s.q.g.inp+s.q.g.us.length →
  DerOk s (mbB B) (n+2*ts.length) (ts.foldl (zdO s.q.g.inp s.lems) a).1/\DerX s (s.q.g.inp+s.q.g.us.length) (ts.foldl (zdO s.q.g.inp s.lems) a).1
 |[],a,n,v,_,_,_,h,hx,hv=>⟨⟨h.ok,h.can,h.bd,zxk h.len (by omega)⟩,hx.mono hv⟩
 |t::ts,a,n,v,hc,hle,ht,h,hx,hv=>by
  obtain⟨c1,c2,c3⟩:=hc;have h0:=hle t (by simp);obtain⟨h1,h1v⟩:=zts (t:=t) hq hB (ht t (by simp)).1 (ht t (by simp)).2 h (hx.mono h0);obtain⟨h2,h3⟩:=zok hq hB ts _ _ (t.1+1) c3 (fun x hx=>c2 x hx) (fun x hx=>ht x (by simp[hx])) h1 h1v (by have:=(ht t (by simp)).1;omega);refine⟨⟨h2.ok,h2.can,h2.bd,zxk h2.len ?_⟩,h3⟩;simp only[List.length_cons];omega
theorem zol{B b:Nat}{f:Af}(hq:QOk s.q)(hB:∀m∈s.lems,Fq m.v B)(hf:FOk b (s.q.g.inp+s.q.g.us.length) f)(hb:b<=33554432)(i:Nat):DerOk s (mbB B) 528 (zg8 s.q.g.inp s.lems (f.ts.take i)).1/\DerX s (s.q.g.inp+s.q.g.us.length) (zg8 s.q.g.inp s.lems (f.ts.take i)).1:=by
 obtain⟨h,hx⟩:=zok hq hB (f.ts.take i) ([],true) 0 0 (zgg hf.can) (fun t _=>zxg _) (fun t ht=>⟨hf.var t (List.mem_of_mem_take ht),(hf.bd t (List.mem_of_mem_take ht)).limb (by omega)⟩) ⟨fun m hm=>by simp at hm,trivial,fun m hm=>by simp at hm,by simp⟩ ⟨fun m hm=>by simp at hm,fun m hm=>by simp at hm,zxg _⟩ (zxg _);have hl:(f.ts.take i).length<=264:=by rw[zxr];have:=hf.len;have:=hq.g.i3;have:=hq.g.u4;omega
 exact⟨⟨h.ok,h.can,h.bd,zxk h.len (by omega)⟩,hx⟩
theorem zrq{B b:Nat}{f:Af}(hq:QOk s.q)(hB:∀m∈s.lems,Fq m.v B)(hf:FOk b (s.q.g.inp+s.q.g.us.length) f)(hb:b<=33554432)(i:Nat):DerOk s (mbB B) 528 (zg8 s.q.g.inp s.lems (f.ts.take i)).1:=(zol hq hB hf hb i).1
def zoO(B b:Nat)(m:Mu):Nat:=if m.r.kind<=2 then 7000000 else 4*B+b+5000000+mbB B+1
theorem zq4{B b:Nat}:∀l:List Mu,muS (zoO B b) l<=l.length*7000001+zfy l*(4*B+b+5000000+mbB B+2)
 |[]=>zxg _
 |m::l=>by
  have ih:=zq4 (B:=B) (b:=b) l;show zoO B b m+1+muS (zoO B b) l<=(l.length+1)*7000001+((if 2<m.r.kind then 1 else 0)+zfy l)*_;rw[Nat.add_mul,Nat.add_mul];by_cases hk:m.r.kind<=2
  .have e:zoO B b m=7000000:=if_pos hk;rw[e,if_neg (by omega)];omega
  .have e:zoO B b m=4*B+b+5000000+mbB B+1:=if_neg hk;rw[e,if_pos (by omega)];omega
theorem zwx{B b:Nat}{l:List Mu}(hq:QOk s.q)(hd:∀d∈s.path,DOk b s.q d)(hB:∀m∈s.lems,Fq m.v B)(h:DerOk s (mbB B) 528 l)(hx:DerX s (s.q.g.inp+s.q.g.us.length) l)(h1:B<=134300000)(h2:b<=1000000) :
  (∀m∈l,FL (zoO B b m) (s.q.g.inp+s.q.g.us.length) (fSc (zaZ s m.r).1 m.c.q))/\muS (zoO B b) l<=40000000000:=by
 constructor
 .intro m hm;unfold zoO;split
  .rename_i hk;haveI:=hx.sm m hm hk;have hf:=zlH (r:=m.r) hq hk;exact(FL.sc (c:=m.c.q) hf).mono (by omega) (zxe _)
  .haveI:=h.bd m hm;exact(FL.sc (c:=m.c.q) (zkO (r:=m.r) hq hd hB)).mono (by omega) (zxe _)
 .have h3:=zq4 (B:=B) (b:=b) l;have h4:=h.len;have h5:=hx.cnt;have h6:=hq.g.u4;have h7:zfy l<=16:=by omega
  have h8:=zxl 7000001 h4;have h9:4*B+b+5000000+mbB B+2<=1100000000:=by unfold mbB;omega
  have h10:=Nat.mul_le_mul h7 h9;omega
end
def abL(s:Sc)(f:Af):List Mu:=(zg8 s.q.g.inp s.lems f.ts).1
def abB(s:Sc)(f:Af):Bool:=(zg8 s.q.g.inp s.lems f.ts).2
def abQ(s:Sc)(f:Af):Rat:=if abB s f=true then(zcu f (zkf s (abL s f))).c else 0
theorem zro{inp:Nat}{lems:List Lm}:∀(ts:List Tm) (a:List Mu×Bool),(a.2=false->a.1=[])->(ts.foldl (zdO inp lems) a).2=false->(ts.foldl (zdO inp lems) a).1=[]
 |[],a,h,h2=>h h2
 |t::ts,a,h,h2=>zro ts _ (fun h3=>by
   unfold zdO at h3 ⊢;split at h3
   .rename_i ha;rw[if_pos ha];split at h3
    .simp at h3
    .rename_i hs;rw[if_neg hs];split at h3
     .simp at h3
     .rename_i he;simp only[he]
   .rename_i ha;rw[if_neg ha];exact h h3) h2
theorem abL_f{s:Sc}{f:Af}(h:abB s f=false):abL s f=[]:=zro _ _ (fun h=>by simp at h) h
theorem ztu{s:Sc}{f:Af}{i:Nat}(h:(zg8 s.q.g.inp s.lems (f.ts.take i)).2=false):abB s f=false:=zqd h
section
variable {inp:Nat}{lems:List Lm}{out:List Mu}{t:Tm}
theorem zk6(h:0<t.2):zdO inp lems (out,true) t=(zaO out (zbw inp t.1) (rq false (zaV t.2) (zaW t.2)),true):=by
 unfold zdO;rw[if_pos rfl,if_pos h]
theorem zi4(h:¬0<t.2)(hl:(za4 inp lems t.1).isSome=true):zdO inp lems (out,true) t=(zaO out ((za4 inp lems t.1).getD []) (rq false (zaV t.2) (zaW t.2)),true):=by
 obtain⟨l,hl⟩:=Option.isSome_iff_exists.1 hl;unfold zdO;rw[if_pos rfl,if_neg h,hl];rfl
theorem zoi(h:¬0<t.2)(hl:(za4 inp lems t.1).isSome=false):(zdO inp lems (out,true) t).2=false:=by
 have hl:za4 inp lems t.1=none:=by simpa using hl
 unfold zdO;rw[if_pos rfl,if_neg h,hl]
end
theorem zsE{s:Sc}{B v:Nat}(hq:QOk s.q)(hB:∀m∈s.lems,Fq m.v B)(hv:v<s.q.g.inp+s.q.g.us.length):MB (4*B+12) ((za4 s.q.g.inp s.lems v).getD [])/\((za4 s.q.g.inp s.lems v).getD []).length<=2:=by
 cases h:za4 s.q.g.inp s.lems v with
 |none=>exact⟨fun m hm=>by simp at hm,by simp⟩
 |some l=>have:=zi2 hq hB hv h;exact⟨this.bd,this.len⟩
end Rc
namespace Go.Proofs.YticnclbnchgigaaGreatDoor
open Go Go.RowKit Rc
theorem ztg(l:List Mu){B:Nat}(hc:CanM l)(hB:MB B l)(hB2:B<=100000000000)(hl:l.length<=100000):Ctr Tryz.prog 155 [V.one (El.row muE l)] (R.one (V.one (Leaf.val (.bool true)))):=by
 refine bd_ Tryz.func155 Tryz.ntmps155 rfl (fun w0 A0=>?_);refine zc 12 rfl (zbO (fun m Γ H=>∃(i:Nat),l.length-i=m/\Γ=[(0,some (D.v (V.one (El.row muE l)))),(3,some (D.val (.int .i64 (i:Int))))]/\H=[]/\i<=l.length) ⟨0,rfl,rfl,rfl,zxg _⟩ rfl ?_);rintro m Γ H ⟨i,rfl,rfl,rfl,hi0⟩;refine zc 5 rfl (tq_ rfl (jln rfl) ?_);by_cases hi:i<l.length
 .refine tq_ rfl (ltT rfl) (zl 8 rfl ?_);obtain⟨x,hx⟩:∃x,l[i]?=some x:=⟨_,zxa hi⟩;haveI hxB:=hB x (zxb hx);obtain⟨hpos,hcx⟩:=hc.pos x (zxb hx);refine dr_ 0 [] [] (dz 2 rfl (kq_ rfl (jix i hx rfl) (kq_ rfl (jfr rfl) (kq_ rfl (jlr rfl) (kc_ znO rfl (zcp x.c (x.c.q) rfl (Fq.use (x:=x.c) (by omega))) (zgy true rfl (zf1.2 hcx) (dz 4 rfl (kq_ rfl (jix i hx rfl) (kq_ rfl (jfr rfl) ?_)))))))));refine kq_ rfl (jlr rfl) (kc_ zhU rfl (zb2 x.c (x.c.q) rfl (Fq.use (x:=x.c) (by omega))) (kq_ rfl (leF rfl (by have:=zo5.2 hpos;omega)) (dz 3 rfl ?_)));by_cases hi1:0<i
  .refine kq_ rfl (gtT rfl) (dz 1 rfl ?_);obtain⟨y,hy⟩:∃y,l[i-1]?=some y:=⟨_,zxa (by omega)⟩;refine dz 2 rfl (kq_ rfl (jsb (i-1) rfl) (kq_ rfl (jix (i-1) hy rfl) (kq_ rfl (jft rfl) (kq_ rfl (jlr rfl) (dz 2 rfl (kq_ rfl (jix i hx rfl) (kq_ rfl (jft rfl) (kq_ rfl (jlr rfl) (kc_ zv5 rfl (zq7 y.r x.r) ?_)))))))));refine zgy true rfl (hc.prev hi1 hx hy) (dz 3 rfl (zad (za 7 rfl (tq_ rfl (jad (i+1) rfl) (zl 2 rfl ?_)))));exact nx_ ⟨i+1,rfl,rfl,rfl,hi⟩ rfl
  .refine kq_ rfl (gtF rfl) (dz 16 rfl (zad (za 7 rfl (tq_ rfl (jad (i+1) rfl) (zl 2 rfl ?_)))));exact nx_ ⟨i+1,rfl,rfl,rfl,hi⟩ rfl
 .refine tq_ rfl (ltF rfl) (zl 13 rfl ?_);exact r1_ hq_ rfl rfl
set_option maxHeartbeats 2000000 in
theorem sum_r(s:Sc){B:Nat}(hB:∀m∈s.lems,Fq m.v B)(hB2:B<=134300000)(hl:s.lems.length<=1000000){b:Nat}(hq:QOk s.q)(hd:∀d∈s.path,DOk b s.q d)(hb:b<=1000000)(hpl:s.path.length<=1000)(l:List Mu){C:Nat}(hc:CanM l)(hm:MB C l)(hC:C<=1000000000)(hok:∀m∈l,(zaZ s m.r).2=true)(hll:l.length<=528)(μ:Mu->Nat)(hμ:∀m∈l,FL (μ m) (s.q.g.inp+s.q.g.us.length) (fSc (zaZ s m.r).1 m.c.q))(hμs:muS μ l<=40000000000):Ctr Tryz.prog 150 [scV s,V.one (El.row muE l)] (R.tup [afV (zkf s l),V.one (Leaf.val (.int .i64 0))]):=by
 refine bd_ Tryz.func150 Tryz.ntmps150 rfl (fun w0 A0=>?_);have hg:=hq.g;have hr:=hq.r;have hlo:=hr.lo;have hhi:=hr.hi;have h1:=hg.i1;have h2:=hg.i3;have h3:=hg.u4;have h4:=hg.o1;have h5:=hg.o3;refine zc 11 rfl (tc_ fn155 rfl (ztg l (by assumption) (by assumption) (by omega) (by omega)) (zl 18 rfl ?_));refine zbO (fun m Γ H=>∃(i:Nat) (out:Af),l.length-i=m/\Γ=[(1,some (D.v (V.one (El.row muE l)))),(2,some (D.ptr 0 0)),(4,some (D.ptr 1 0)),(6,some (D.ptr 2 0)),(7,some (D.val (.int .i64 (i:Int))))]/\H=[hb_ 43 (scL s),hb_ 35 [El.row tmE ([]),Leaf.val (.bool false),zaf ([]),zaf ([])],hb_ 35 (afL out)]/\i<=l.length/\out=zkf s (l.take i)) ⟨0,fZ,rfl,rfl,(by unfold afL;rw[fZ_ls];rfl),zxg _,rfl⟩ rfl ?_;rintro m Γ H ⟨i,out,rfl,rfl,rfl,hi0,hout⟩;refine zc 5 rfl (tq_ rfl (jln rfl) ?_);by_cases hi:i<l.length
 .refine tq_ rfl (ltT rfl) (zl 8 rfl ?_);obtain⟨x,hx⟩:∃x,l[i]?=some x:=⟨_,zxa hi⟩;have hxm:=zxb hx;haveI hxB:=hm x hxm;have hf:=zkO (r:=x.r) hq hd hB;have hsc:=FL.sc (c:=x.c.q) hf;have ho:FL 40000000000 (s.q.g.inp+s.q.g.us.length) out:=by rw[hout];exact(zke μ (fun m hm=>hμ m (List.mem_of_mem_take hm))).mono (zxk (zkA μ l i) hμs) (zxe _)
  haveI:=hf.fm (by omega);haveI:=hf.cb;haveI:=hsc.fm (by omega);haveI:=hsc.cb;haveI:=ho.fm (by omega);haveI:=ho.cb;refine dr_ 1 [(10,3),(11,3)] [3] (dz 3 rfl (kq_ rfl (jix i hx rfl) (kq_ rfl (jft rfl) (kq_ rfl (jlr rfl) (kc_ fn156 rfl (zvo s hB (by omega) (by omega) hq hd (by omega) (by omega) x.r) (dz 3 rfl (zgy true rfl (hok x hxm) (dz 3 rfl (zad ?_)))))))));refine za 11 rfl (dr_ 0 [(9,2)] [2] (kp_ [] rfl (zbe rfl rfl rfl (by decide) zh3 (by decide) (zxh rfl) rfl) (dz 3 rfl (kq_ rfl (jix i hx rfl) (kq_ rfl (jfr rfl) (kq_ rfl (jlr rfl) (zsx (D.agg (qL x.c.q)) rfl (zwg (hc.pos x hxm).2) (kc_ zrd rfl (zcJ (zaZ s x.r).1 x.c.q (by omega) (by omega)) ?_))))))));refine kc_ fn54 rfl (zjt out (fSc (zaZ s x.r).1 x.c.q) (by omega) (by omega) (by omega)) (dz 1 rfl (zad (za 4 rfl (tq_ rfl (jad (i+1) rfl) (zl 2 rfl (zan 3 (zbq 3 rfl ?_)))))));exact nx_ ⟨i+1,_,rfl,rfl,rfl,hi,by rw[hout];exact(zmr hx).symm⟩ rfl
 .refine tq_ rfl (ltF rfl) (zl 9 rfl ?_);have hie:i=l.length:=by omega
  rw[hie,zxx] at hout;refine zc 6 rfl ?_;exact r2_ hq_ rfl (by rw[<-hout] <;> rfl)
theorem znt(a b:List Mu)(c:Rat){B C K:Nat}(hA:MB B a)(hB:MB C b)[Br c K](h1:B<=10000000000)(h2:C<=1000000000)(h3:K<=1000000000)(hl:a.length<=10000)(hlb:b.length<=2):Ctr Tryz.prog 149 [V.one (El.row muE a),V.one (El.row muE b),V.agg (qL (c))] (R.one (V.one (El.row muE (zaO a b c)))):=
 zsp a b c hA hB (by have:=zxl (C+K+2) hlb;omega) hl (by omega)
set_option maxHeartbeats 2000000 in
theorem ztt(s:Sc){B:Nat}(hB:∀m∈s.lems,Fq m.v B)(hB2:B<=134300000)(hl:s.lems.length<=1000000){b:Nat}(hq:QOk s.q)(hd:∀d∈s.path,DOk b s.q d)(hb:b<=1000000)(hpl:s.path.length<=1000)(f:Af){bf:Nat}(hf:FOk bf (s.q.g.inp+s.q.g.us.length) f)(hb5:bf<=33554432):Ctr Tryz.prog 146 [scV s,afV f] (R.tup [qV (qOf (abQ s f)),V.one (El.row muE (abL s f)),V.one (Leaf.val (.bool (abB s f)))]):=by
 refine bd_ Tryz.func146 Tryz.ntmps146 rfl (fun w0 A0=>?_);have hg:=hq.g;have hr:=hq.r;have hlo:=hr.lo;have hhi:=hr.hi;have h1:=hg.i1;have h2:=hg.i3;have h3:=hg.u4;have h4:=hg.o1;have h5:=hg.o3;have hfl:=hf.len;have hmb:mbB B<=600000000:=by unfold mbB;omega
 refine zc 21 rfl ?_;refine zbO (fun m Γ H=>∃(i:Nat) (out:List Mu),f.ts.length-i=m/\Γ=[(2,some (D.ptr 0 0)),(3,some (D.ptr 1 0)),(4,some (D.ptr 2 0)),(7,some (D.v (V.one (El.row muE out)))),(8,some (D.val (.int .i64 (i:Int))))]/\H=[hb_ 43 (scL s),hb_ 35 (afL f),hb_ 33 [Leaf.val (.bool false),zaf ([]),zaf ([])]]/\i<=f.ts.length/\zg8 s.q.g.inp s.lems (f.ts.take i)=(out,true)) ⟨0,[],rfl,rfl,rfl,zxg _,rfl⟩ rfl ?_;rintro m Γ H ⟨i,out,rfl,rfl,rfl,hi0,habs⟩;refine zc 6 rfl (tq_ rfl (jln rfl) ?_);by_cases hi:i<f.ts.length
 .refine tq_ rfl (ltT rfl) (zl 8 rfl ?_);obtain⟨x,hx⟩:∃x,f.ts[i]?=some x:=⟨_,zxa hi⟩;have hxm:=zxb hx;haveI hxb:=(hf.bd x hxm).limb (k:=1048577) (by omega);have hxv:=hf.var x hxm;have hder:=zrq hq hB hf hb5 i;rw[habs] at hder;have hMB:MB (mbB B) out:=hder.bd;have hol:out.length<=528:=hder.len;have hsl:=zg7 (B:=B) hq hxv;have hM1:MB (2*B+12) (zbw s.q.g.inp x.1):=hsl.bd;have hM1l:(zbw s.q.g.inp x.1).length<=2:=hsl.len;obtain⟨hM2,hM2l⟩:=zsE (v:=x.1) hq hB hxv;refine zc 4 rfl (tq_ rfl (jix i hx rfl) (tq_ rfl (jlr rfl) (zl 9 rfl (tc_ fn147 rfl (zp4 s (by assumption) (by omega) (by omega) (by omega) x.1 (by omega)) (zl 12 rfl (tc_ zhU rfl (zb2 (qOf (x.2)) (x.2) (zao _) (Br.use (by omega))) ?_))))));by_cases hpos:0<x.2
  .refine tq_ rfl (gtT rfl (zo5.2 hpos)) (zl 7 rfl (tc_ fn148 rfl (zob s (by omega) x.1 (by omega)) (zl 24 rfl (zl 8 rfl (eq_ (D.agg (qL (rq false (zaV x.2) (zaW x.2)))) rfl (zrr x.2) (tc_ zv6 rfl (znt out (zbw s.q.g.inp x.1) (rq false (zaV x.2) (zaW x.2)) (by assumption) (by assumption) (by omega) (by omega) (by omega) (by omega) (by omega)) (zl 6 rfl ?_)))))));refine tq_ rfl (jad (i+1) rfl) (zl 2 rfl (zan 3 (zan 4 (zbq 3 rfl ?_))));exact nx_ ⟨i+1,_,rfl,rfl,rfl,hi,by rw[zgr hx,habs];exact zk6 hpos⟩ rfl
  .refine tq_ rfl (gtF rfl (fun e=>hpos (zo5.1 e))) (zl 7 rfl ?_);by_cases hm:(za4 s.q.g.inp s.lems x.1).isSome=true
   .refine zc 2 rfl (is_ true rfl (hm) (zl 24 rfl (eq_ (D.agg (qL (rq false (zaV x.2) (zaW x.2)))) rfl (zrr x.2) (tc_ zv6 rfl (znt out ((za4 s.q.g.inp s.lems x.1).getD []) (rq false (zaV x.2) (zaW x.2)) (by assumption) (by assumption) (by omega) (by omega) (by omega) (by omega) (by omega)) (zl 6 rfl (tq_ rfl (jad (i+1) rfl) (zl 2 rfl (zan 3 (zan 4 ?_)))))))));refine zbq 3 rfl ?_;exact nx_ ⟨i+1,_,rfl,rfl,rfl,hi,by rw[zgr hx,habs];exact zi4 hpos hm⟩ rfl
   .refine zc 2 rfl (is_ false rfl (by simpa using hm) (zl 5 rfl ?_));have hbad:abB s f=false:=ztu (i:=i+1) (by rw[zgr hx,habs];exact zoi hpos (by simpa using hm));refine zc 7 rfl ?_;exact r3_ hq_ rfl (by unfold abQ;rw[abL_f hbad,hbad,if_neg (by decide)];show _=R.tup [qV (qOf 0),_,_];rw[<-zeM] <;> rfl)
 .refine tq_ rfl (ltF rfl) (zl 9 rfl ?_);have hie:i=f.ts.length:=by omega
  rw[hie,zxx] at habs;have hder:=zrq hq hB hf hb5 f.ts.length;rw[zxx,habs] at hder;have hMB:MB (mbB B) out:=hder.bd;have hol:out.length<=528:=hder.len;have hcan:CanM out:=hder.can;have hok:∀m∈out,(zaZ s m.r).2=true:=hder.ok;have hB3:abB s f=true:=by unfold abB;rw[habs]
  have hL:abL s f=out:=by unfold abL;rw[habs]
  have hfm:=hf.fl;have hdx:=(zol hq hB hf hb5 f.ts.length).2;rw[zxx,habs] at hdx;obtain⟨hμ,hμs⟩:=zwx hq hd hB hder hdx (by omega) (by omega);have hsm:FL 40000000000 (s.q.g.inp+s.q.g.us.length) (zkf s out):=(zke (zoO B b) hμ).mono hμs (zxe _);haveI:=hfm.fm (by omega);haveI:=hfm.cb;haveI:=hsm.fm (by omega);haveI:=hsm.cb;refine zc 3 rfl (tc_ fn150 rfl (sum_r s hB (by omega) (by omega) hq hd (by omega) (by omega) out (by assumption) (by assumption) (by unfold mbB;omega) (by assumption) (by omega) (zoO B b) (by assumption) (by assumption)) (zl 12 rfl (tc_ zgH rfl (zgD f (zkf s out) (by omega) (by omega) (by omega)) (zl 7 rfl ?_))));exact r3_ hq_ rfl (by rw[hL,hB3];unfold abQ;rw[hB3,if_pos rfl,hL] <;> rfl)
end Go.Proofs.YticnclbnchgigaaGreatDoor
namespace Rc
open Go Go.RowKit
def W(φ:Rw->Rat):List Mu->Rat
 |[]=>0
 |m::l=>m.c.q*φ m.r+W φ l
theorem zwB(φ:Rw->Rat)(r:Rw)(c:Rat):∀l:List Mu,W φ (zez l r c)=W φ l+c*φ r
 |[]=>by simp only[zez,W,zao];grind
 |m::l=>by
  unfold zez;split
  .simp only[W,zwB φ r c l];grind
  .split
   .rename_i h;simp only[W,zao,h];grind
   .simp only[W,zao];grind
theorem zwz(φ:Rw->Rat)(r:Rw)(c:Rat)(l:List Mu):W φ (zbM l r c)=W φ l+c*φ r:=by
 unfold zbM;split
 .rename_i h;subst h;grind
 .exact zwB φ r c l
theorem zjS(φ:Rw->Rat)(c:Rat):∀(b a:List Mu),W φ (zaO a b c)=W φ a+c*W φ b
 |[],a=>by simp only[zaO,List.foldl_nil,W];grind
 |m::b,a=>by
  have e:zaO a (m::b) c=zaO (zbM a m.r (m.c.q*c)) b c:=rfl;rw[e,zjS φ c b,zwz];simp only[W];grind
def zjf(s:Sc)(r:Rw):Rat:=(zaZ s r).1.c
theorem zgN(s:Sc):∀(l:List Mu) (a:Af),(l.foldl (fun a m=>zs4 a (fSc (zaZ s m.r).1 m.c.q)) a).c=a.c+W (zjf s) l
 |[],a=>by simp only[List.foldl_nil,W];grind
 |m::l,a=>by
  rw[List.foldl_cons,zgN s l];simp only[W,zs4,fSc,zjf];grind
theorem zum(s:Sc)(l:List Mu):(zkf s l).c=W (zjf s) l:=by
 unfold zkf;rw[zgN];simp only[fZ];grind
def lb(s:Sc)(v:Nat):Rat:=if v<s.q.g.inp then(s.q.r.lo[v]?).getD 0 else 0
def ub(s:Sc)(v:Nat):Rat:=if v<s.q.g.inp then(s.q.r.hi[v]?).getD 0 else if (zaR s.lems ((v-s.q.g.inp:Nat):Int)).2=0\/lv s.lems (zaR s.lems ((v-s.q.g.inp:Nat):Int)).2<=0 then 0 else lv s.lems (zaR s.lems ((v-s.q.g.inp:Nat):Int)).2
theorem m1:((-1:Int):Rat) = -1:=by decide
theorem p1:((1:Int):Rat)=1:=by decide
section
variable {s:Sc}
theorem ztv(hq:QOk s.q){v:Nat}(hv:v<s.q.g.inp+s.q.g.us.length):W (zjf s) (zbw s.q.g.inp v) = - lb s v:=by
 unfold zbw lb;split
 .have:=hq.r.lo;obtain⟨c,hc⟩:∃c,s.q.r.lo[v]?=some c:=⟨_,zxa (by omega)⟩;simp only[W,zjf,znM hc,hc,zao,zcu,fV,fN,m1,p1,Option.getD_some];grind
 .obtain⟨p,hp⟩:∃p,s.q.g.us[v-s.q.g.inp]?=some p:=⟨_,zxa (by omega)⟩;simp only[W,zjf,ziG hp,zao,fV,p1];grind
theorem zwA(hq:QOk s.q){v:Nat}{l:List Mu}(hv:v<s.q.g.inp+s.q.g.us.length)(h:za4 s.q.g.inp s.lems v=some l):W (zjf s) l=ub s v:=by
 unfold za4 at h;unfold ub;split at h
 .rename_i hi;cases h;rw[if_pos hi];have:=hq.r.hi;obtain⟨c,hc⟩:∃c,s.q.r.hi[v]?=some c:=⟨_,zxa (by omega)⟩;simp only[W,zjf,znN hc,hc,zao,zcu,fV,fN,m1,p1,Option.getD_some];grind
 .rename_i hi;rw[if_neg hi];obtain⟨p,hp⟩:∃p,s.q.g.us[v-s.q.g.inp]?=some p:=⟨_,zxa (by omega)⟩;split at h
  .cases h
  .rename_i hb;obtain⟨y,hy,yu,yp,hly,hy0,hyl⟩:=zgo (fun e=>hb (.inl e));obtain⟨z,hz,zu,zp,hlz,hz0,hzl⟩:=ze0 (fun e=>hb (.inr e));rw[hlz,hly] at h;rw[hlz];split at h
   .rename_i hu;cases h;rw[if_pos (.inr hu)];simp only[W,zjf,zkN hp hz0 hz zu zp hu,zao,fSc,fV,m1,p1];grind
   .rename_i hu;rw[if_neg (fun e=>e.elim (fun e=>hb (.inr e)) hu)];split at h
    .rename_i hl;cases h;simp only[W,zjf,znL hp hy0 hy yu yp hl,zhA hp hz0 hz zu zp,zao,zcu,fV,fN,m1,p1];grind
    .rename_i hl;cases h;have h1:0<z.v.q:=by grind
     have h2:z.v.q-y.v.q≠0:=by grind
     simp only[W,zjf,zhA hp hz0 hz zu zp,zkM hp hy0 hy yu yp hz0 hz zu zp (by grind) h1,zao,zcu,fSc,fV,fN,m1,p1];have h3:(z.v.q-y.v.q)*(1/(z.v.q-y.v.q))=1:=by rw[Rat.div_def,Rat.one_mul];exact Rat.mul_inv_cancel _ h2
     generalize 1/(z.v.q-y.v.q)=k at *;grind
def zn2(s:Sc)(t:Tm):Rat:=if 0<t.2 then lb s t.1 else ub s t.1
def zlV(s:Sc):List Tm->Rat
 |[]=>0
 |t::ts=>t.2*zn2 s t+zlV s ts
theorem zww(hq:QOk s.q){a:List Mu×Bool}{t:Tm}(hv:t.1<s.q.g.inp+s.q.g.us.length)(h:(zdO s.q.g.inp s.lems a t).2=true):W (zjf s) (zdO s.q.g.inp s.lems a t).1=W (zjf s) a.1-t.2*zn2 s t:=by
 unfold zdO at h ⊢;unfold zn2;split at h
 .rename_i ha;rw[if_pos ha];split at h
  .rename_i hp;rw[if_pos hp,if_pos hp];simp only[];rw[zjS,ztv hq hv,zom,if_neg (by grind)];grind
  .rename_i hp;rw[if_neg hp,if_neg hp];split at h
   .rename_i l hl;simp only[hl];rw[zjS,zwA hq hv hl,zom];split
    .grind
    .have:t.2=0:=by grind
     rw[this];grind
   .simp at h
 .rename_i ha;exact absurd h ha
theorem zrp(hq:QOk s.q):∀(ts:List Tm) (a:List Mu×Bool),(∀t∈ts,t.1<s.q.g.inp+s.q.g.us.length)->(ts.foldl (zdO s.q.g.inp s.lems) a).2=true->W (zjf s) (ts.foldl (zdO s.q.g.inp s.lems) a).1=W (zjf s) a.1-zlV s ts
 |[],a,_,_=>by simp only[List.foldl_nil,zlV];grind
 |t::ts,a,hv,h=>by
  have h2:(zdO s.q.g.inp s.lems a t).2=true:=by
   cases e:(zdO s.q.g.inp s.lems a t).2
   .have:=zjQ (inp:=s.q.g.inp) (lems:=s.lems) ts _ e;rw[List.foldl_cons] at h;rw[this] at h;simp at h
   .rfl
  rw[List.foldl_cons,zrp hq ts _ (fun x hx=>hv x (by simp[hx])) h,zww hq (hv t (by simp)) h2];simp only[zlV];grind
theorem zi5{f:Af}(hq:QOk s.q)(hv:∀t∈f.ts,t.1<s.q.g.inp+s.q.g.us.length)(h:abB s f=true):abQ s f=f.c+zlV s f.ts:=by
 have h1:=zrp hq f.ts ([],true) hv h;unfold abQ;rw[if_pos h];show f.c+(zkf s (abL s f)).c*((-1:Int):Rat)=_;rw[zum,m1];have h2:W (zjf s) (abL s f)=0-zlV s f.ts:=h1;rw[h2];grind
end
def KB(q:Qu)(j:Nat):Nat:=(szM q+6000)*2^j
structure LOk(q:Qu)(m:Lm):Prop where
 u0:0<=m.unit
 u:m.unit.toNat<q.g.us.length
 can:m.v=qOf m.v.q
 hb:Hb m.v.q (KB q m.unit.toNat)
structure SOk(s:Sc):Prop where
 q:QOk s.q
 d:∀d∈s.path,DOk 200 s.q d
 pl:s.path.length<=100
 l:∀m∈s.lems,LOk s.q m
 ll:s.lems.length<=100
theorem zwI{q:Qu}{j:Nat}(hq:QOk q)(h:j<8):KB q j<=4295735296:=by
 unfold KB;have h1:2^j<=2^7:=zxn (by decide) (by omega);have h2:=hq.sz;exact zxk (Nat.mul_le_mul (show szM q+6000<=33560432 by omega) h1) (by decide)
theorem zru{q:Qu}{j:Nat}(hs:Sml q)(h:j<q.g.us.length):KB q j<=56000:=by
 unfold KB;have hu:=hs.u;have h1:2^j<=2^3:=zxn (by decide) (by omega);have h2:=hs.sz;exact zxk (Nat.mul_le_mul (show szM q+6000<=7000 by omega) h1) (by decide)
theorem KB_ge(q:Qu)(j:Nat):5000<=KB q j:=by
 unfold KB;have:0<2^j:=Nat.pow_pos (by decide);exact zxk (by omega) (Nat.le_mul_of_pos_right (szM q+6000) this)
theorem SOk.B{s:Sc}(h:SOk s):∀m∈s.lems,Fq m.v 134300000:=by
 intro m hm;have h1:=h.l m hm;rw[h1.can];have h2:=h.q.g.u4;have h3:=zwI (j:=m.unit.toNat) h.q (by have:=h1.u;omega);haveI:=(h1.hb.mono h3).limb (k:=134300000) (by omega);exact Fq.of
def szA(l:List Rat)(v:Nat):Nat:=match l[v]? with|some x=>szR x|none=>0
def wgt(q:Qu)(v:Nat):Nat:=if v<q.g.inp then szA q.r.lo v+szA q.r.hi v+1 else KB q (v-q.g.inp)+1
def wS(q:Qu):Nat->Nat
 |0=>0
 |n+1=>wS q n+wgt q n
theorem zmc(q:Qu){a b:Nat}(h:a<=b):wS q a<=wS q b:=by
 induction b with
 |zero=>
      have:a=0:=by omega
      subst this;exact zxe _
 |succ b ih=>
  by_cases e:a=b+1
  .subst e;exact zxe _
  .have:=ih (by omega);show _<=wS q b+wgt q b;omega
theorem zhi:∀(l:List Rat) (n:Nat),szL (l.take n)+szA l n=szL (l.take (n+1))
 |[],n=>by simp[szL,szA]
 |x::l,0=>by simp[szL,szA]
 |x::l,n+1=>by
  have ih:=zhi l n;have e:szA (x::l) (n+1)=szA l n:=by unfold szA;rw[List.getElem?_cons_succ]
  rw[List.take_succ_cons,List.take_succ_cons,e];show szR x+szL (l.take n)+szA l n=szR x+szL (l.take (n+1));omega
theorem zmm(l:List Rat)(n:Nat):szL (l.take n)<=szL l:=by
 induction l generalizing n with
 |nil=>rw[List.take_nil];exact zxe _
 |cons x l ih=>
  cases n with
  |zero=>exact zxg _
  |succ n=>have:=ih n;rw[List.take_succ_cons];show szR x+szL (l.take n)<=szR x+szL l;omega
theorem zqz(q:Qu):∀n,n<=q.g.inp->wS q n=szL (q.r.lo.take n)+szL (q.r.hi.take n)+n
 |0,_=>rfl
 |n+1,h=>by
  show wS q n+wgt q n=_;rw[zqz q n (by omega),<-zhi q.r.lo n,<-zhi q.r.hi n];unfold wgt;rw[if_pos (by omega)];omega
theorem ztJ(q:Qu)(j:Nat):KB q (j+1)=KB q j+KB q j:=by unfold KB;rw[zxt,<-Nat.mul_assoc,Nat.mul_two]
theorem KB_0(q:Qu):KB q 0=szM q+6000:=by unfold KB;rw[Nat.pow_zero,Nat.mul_one]
theorem zoU(q:Qu)(j:Nat):wgt q (q.g.inp+j)=KB q j+1:=by
 unfold wgt;rw[if_neg (by omega),show q.g.inp+j-q.g.inp=j by omega]
theorem zrz(q:Qu)(n:Nat):wS q (n+1)=wS q n+wgt q n:=rfl
theorem zmb(q:Qu):∀j,wS q (q.g.inp+j)+KB q 0<=szL q.r.lo+szL q.r.hi+q.g.inp+j+KB q j
 |0=>by
  have h0:=zqz q q.g.inp (zxe _);have h1:=zmm q.r.lo q.g.inp;have h2:=zmm q.r.hi q.g.inp;rw[Nat.add_zero];omega
 |j+1=>by
  have ih:=zmb q j;have h1:=ztJ q j;have h2:=zrz q (q.g.inp+j);have h3:=zoU q j;rw[<-Nat.add_assoc];omega
theorem Hb.z{n:Nat}:Hb 0 n:=Hb.zero.mono (zxg _)
theorem zti{s:Sc}(h:SOk s){t:Tm}(hv:t.1<s.q.g.inp+s.q.g.us.length):Hb (zn2 s t) (wgt s.q t.1-1):=by
 have hl:=h.q.r.lo;have hh:=h.q.r.hi;unfold zn2 lb ub wgt szA;by_cases hi:t.1<s.q.g.inp
 .obtain⟨x,hx⟩:∃x,s.q.r.lo[t.1]?=some x:=⟨_,zxa (by omega)⟩;obtain⟨y,hy⟩:∃y,s.q.r.hi[t.1]?=some y:=⟨_,zxa (by omega)⟩;simp only[if_pos hi,hx,hy,Option.getD_some];split
  .exact(zkd x).mono (by omega)
  .exact(zkd y).mono (by omega)
 .simp only[if_neg hi];split
  .exact Hb.z
  .split
   .exact Hb.z
   .rename_i hne;obtain⟨z,hz,zu,zp,hlz,hz0,hzl⟩:=ze0 (fun e=>hne (.inl e));rw[hlz];have:=(h.l z (zxb hz)).hb;rw[zu] at this;exact this.mono (by show KB s.q (t.1-s.q.g.inp)<=_;omega)
theorem zn3{s:Sc}(h:SOk s){n:Nat}(hn:n<=s.q.g.inp+s.q.g.us.length):∀(ts:List Tm) (a:Nat),CanT ts->(∀t∈ts,a<=t.1/\t.1<n)->Hb (zlV s ts) (szT ts+(wS s.q n-wS s.q a))
 |[],a,_,_=>Hb.z
 |t::ts,a,hc,hv=>by
  obtain⟨c1,c2,c3⟩:=hc;have ht:=hv t (by simp);have ih:=zn3 h hn ts (t.1+1) c3 (fun x hx=>⟨c2 x hx,(hv x (by simp[hx])).2⟩);haveI h1:=zkd t.2;haveI h2:=zti h (t:=t) (by omega);haveI h3:=ih;have h4:Hb (t.2*zn2 s t+zlV s ts) (szR t.2+(wgt s.q t.1-1)+(szT ts+(wS s.q n-wS s.q (t.1+1)))+1):=Hb.add;refine h4.mono ?_;have e1:=zmc s.q (show t.1+1<=n by omega);have e2:=zmc s.q ht.1;have e3:wS s.q (t.1+1)=wS s.q t.1+wgt s.q t.1:=rfl;have e4:1<=wgt s.q t.1:=by unfold wgt;split <;> omega
  show _<=szR t.2+szT ts+_;omega
theorem zwy{s:Sc}(h:SOk s){f:Af}{b n:Nat}(hn:n<=s.q.g.inp+s.q.g.us.length)(hf:FOk b n f)(hb:abB s f=true):Hb (abQ s f) (szF f+wS s.q n+1):=by
 rw[zi5 h.q (fun t ht=>by have:=hf.var t ht;omega) hb];haveI:=zkd f.c;haveI:=zn3 h hn f.ts 0 hf.can (fun t ht=>⟨zxg _,hf.var t ht⟩);have h4:Hb (f.c+zlV s f.ts) (szR f.c+(szT f.ts+(wS s.q n-wS s.q 0))+1):=Hb.add;exact h4.mono (by have:wS s.q 0=0:=rfl;unfold szF;omega)
theorem zji{s:Sc}(h:SOk s){f:Af}{j:Nat}(hj:j<s.q.g.us.length)(hf:FJ s.q j f)(hb:abB s f=true):Hb (abQ s f) (KB s.q j-4200):=by
 refine(zwy h (by omega) hf.fok hb).mono ?_;have h1:=zmb s.q j;have h0:=KB_0 s.q;have h2:=h.q.g.i3;have h3:=h.q.g.u4;have h4:=hf.sz;omega
end Rc
namespace Rc
open Go
def tzF:Nat->Nat->Nat
 |0,_=>0
 |f+1,n=>if n%2=0 then tzF f (n/2)+1 else 0
def tz(n:Nat):Nat:=tzF (bl n) n
theorem zka:∀(f n:Nat),n≠0->n<2^f->∃m,n=2^tzF f n*m/\m%2=1
 |0,n,h0,h=>by simp at h;omega
 |f+1,n,h0,h=>by
  unfold tzF;by_cases h2:n%2=0
  .rw[if_pos h2];obtain⟨m,h3,h4⟩:=zka f (n/2) (by omega) (by rw[zxt] at h;omega);refine⟨m,?_,h4⟩;rw[zxt,Nat.mul_right_comm,<-h3];omega
  .rw[if_neg h2];exact⟨n,by simp,by omega⟩
theorem zeD{n:Nat}(h:n≠0):∃m,n=2^tz n*m/\m%2=1:=zka _ n h (zgm n)
theorem zgE{a b m m':Nat}(h:2^a*m=2^b*m')(hm:m%2=1)(hm':m'%2=1):a=b/\m=m':=by
 have key:∀(a c m m':Nat),2^a*m=2^(a+c)*m'->m%2=1->c=0:=by
  intro a c m m' h hm;rw[zxu,Nat.mul_assoc] at h;have:=Nat.eq_of_mul_eq_mul_left (Nat.two_pow_pos a) h
  cases c with
  |zero=>rfl
  |succ c=>rw[zxt,Nat.mul_right_comm] at this;omega
 have e:a=b:=by
  rcases Nat.le_total a b with hab|hab
  .have:=key a (b-a) m m' (by rw[show a+(b-a)=b from by omega];exact h) hm;omega
  .have:=key b (a-b) m' m (by rw[show b+(a-b)=a from by omega];exact h.symm) hm';omega
 subst e;exact⟨rfl,Nat.eq_of_mul_eq_mul_left (Nat.two_pow_pos a) h⟩
theorem zud{n k m:Nat}(h:n=2^k*m)(hm:m%2=1):tz n=k:=by
 have hn:n≠0:=by
  rw[h];exact Nat.ne_of_gt (Nat.mul_pos (Nat.two_pow_pos k) (by omega))
 obtain⟨m',h1,h2⟩:=zeD hn;exact(zgE (h1.symm.trans h) h2 hm).1
theorem zue{n:Nat}(k:Nat)(h:n≠0):tz (2^k*n)=k+tz n:=by
 obtain⟨m,h1,h2⟩:=zeD h;refine zud (m:=m) ?_ h2;rw[zxu,Nat.mul_assoc,<-h1]
theorem zuf{lo k:Nat}(hi:Nat)(h0:lo≠0)(h:lo<2^k):tz (lo+2^k*hi)=tz lo:=by
 obtain⟨m,h1,h2⟩:=zeD h0;have hk:tz lo<k:=by
  refine Nat.lt_of_not_le fun hle=>?_;have:2^k<=2^tz lo:=zxn (by decide) hle;have:2^tz lo*1<=2^tz lo*m:=zxI _ (by omega);omega
 refine zud (m:=m+2^(k-tz lo)*hi) ?_ ?_
 .rw[Nat.mul_add,<-h1,<-Nat.mul_assoc,<-zxu,show tz lo+(k-tz lo)=k from by omega]
 .obtain⟨j,hj⟩:∃j,k-tz lo=j+1:=⟨k-tz lo-1,by omega⟩;rw[hj,zxt,Nat.mul_right_comm];omega
theorem zqJ(n:Nat):2^tz n*(n/2^tz n)=n:=by
 by_cases h:n=0
 .subst h;simp
 .obtain⟨m,h1,h2⟩:=zeD h;have:n/2^tz n=m:=by
   conv=>lhs;arg 1;rw[h1]
   exact Nat.mul_div_cancel_left m (Nat.two_pow_pos _)
  rw[this,<-h1]
theorem zln{n:Nat}(h:n≠0):n/2^tz n%2=1:=by
 obtain⟨m,h1,h2⟩:=zeD h;have:n/2^tz n=m:=by
  conv=>lhs;arg 1;rw[h1]
  exact Nat.mul_div_cancel_left m (Nat.two_pow_pos _)
 rw[this];exact h2
theorem zj9{n:Nat}(h:n≠0):tz n<bl n:=by
 have h1:=zqJ n;have h2:=zln h;have h3:=zgm n;generalize n/2^tz n=q at h1 h2;refine Nat.lt_of_not_le fun hle=>?_;have:2^bl n<=2^tz n:=zxn (by decide) hle;have:2^tz n*1<=2^tz n*q:=zxI _ (by omega);omega
theorem ztp{x:Nat}(h0:x≠0)(h:x<4294967296):x &&& (4294967296-x)=2^tz x:=by
 obtain⟨m,h1,h2⟩:=zeD h0;obtain⟨q,rfl⟩:∃q,m=2*q+1:=⟨m/2,by omega⟩;generalize hk:tz x=k at *;have hp:=Nat.two_pow_pos k;have hlt:k<32:=by
  refine Nat.lt_of_not_le fun hle=>?_;have:2^32<=2^k:=zxn (by decide) hle;have:2^k*1<=2^k*(2*q+1):=zxI _ (by omega);omega
 have e1:x=2^(k+1)*q+2^k:=by rw[h1,Nat.mul_add,Nat.mul_one,zxt,Nat.mul_assoc]
 have e2:x-1=2^(k+1)*q+(2^k-1):=by omega
 have hpk:2^k<2^(k+1):=zxG (by decide) (by omega);apply Nat.eq_of_testBit_eq;intro i;rw[Nat.testBit_and,show(4294967296-x)=2^32-((x-1)+1) from by omega,Nat.testBit_two_pow_sub_succ (by omega),e2,Nat.testBit_two_pow_mul_add _ (by omega),Nat.testBit_two_pow]
 conv=>lhs;arg 1;rw[e1,Nat.testBit_two_pow_mul_add _ hpk]
 by_cases hi:i<k+1
 .rw[if_pos hi,if_pos hi,Nat.testBit_two_pow,Nat.testBit_two_pow_sub_one];by_cases hik:k=i
  .subst hik;simp[hlt]
  .simp[hik]
 .rw[if_neg hi,if_neg hi];have:¬k=i:=by omega
  simp only[this,decide_false];cases Nat.testBit q (i-(k+1)) <;> simp
theorem zmj{x:Nat}(h0:x≠0)(h:x<4294967296):tz x<32:=by
 have h1:=zj9 h0;have h2:=zas (n:=x) (k:=32) h;omega
def bruijn:List Nat:=[0,1,28,2,29,14,24,3,30,22,20,15,25,17,4,8,31,27,13,23,21,19,16,7,26,12,18,6,11,5,10,9]
theorem zlU{k:Nat}(h:k<32):bruijn[2^k*125613361%4294967296/134217728]?=some k:=by
 have:∀k:Fin 32,bruijn[2^k.val*125613361%4294967296/134217728]?=some k.val:=by decide
 exact this ⟨k,h⟩
theorem zn1{k:Nat}(h:k<32):2^k*125613361%4294967296/134217728<32:=by omega
theorem zoS{l:List Nat}(hs:Small l){k:Nat}(hk:k<l.length)(h:val (l.take k)=0)(h0:l[k]≠0):tz (val l)=32*k+tz l[k]:=by
 have hb:=hs.get k hk;rw[zcT l k hk,h,Nat.zero_add,zcg,zue _ (by omega)];rw[show(4294967296:Nat)=2^32 from rfl,zuf _ h0 hb]
theorem zlh{l:List Nat}{k:Nat}(hk:k<l.length)(h:val (l.take k)=0)(h0:l[k]=0):val (l.take (k+1))=0:=by
 rw[zau l k hk,h,h0];simp
theorem zoR{l:List Nat}{k:Nat}(hn:val l≠0)(h:val (l.take k)=0):k<l.length:=by
 refine Nat.lt_of_not_le fun hle=>hn ?_
 rwa [zak l k hle] at h
theorem zrL{l:List Nat}(hs:Small l)(k:Nat):val (List.replicate (k/32) 0++ze8 (l.length+1) (val l*2^(k%32)))=val l*2^k:=by
 have h1:=za6 hs;have h2:2^(k%32)<=2^32:=zxn (by decide) (by omega);have h3:val l*2^(k%32)<4294967296^(l.length+1):=by
  rw[zxt];exact Nat.mul_lt_mul_of_lt_of_le h1 h2 (by decide)
 rw[zaU,zaJ,List.length_replicate,zed h3,Nat.zero_add,zcg,zxF,Nat.mul_assoc,<-zxu,show k%32+32*(k/32)=k from by omega]
structure Dy where
 neg:Bool
 mag:Nat
 exp:Int
def Dy.zero:Dy:=⟨false,0,0⟩
def nok(n:Nat)(e:Int):Bool:=n == 0||(decide (-1048576<=e+tz n)&&decide (e+tz n<=1048576))
def nrm(s:Bool)(n:Nat)(e:Int):Dy:=if n=0 then Dy.zero else if nok n e then⟨s,n/2^tz n,e+tz n⟩ else Dy.zero
theorem zkz(s:Bool)(e:Int):nrm s 0 e=Dy.zero:=rfl
theorem zps(e:Int):nok 0 e=true:=rfl
theorem znl{n:Nat}{e:Int}(h:n≠0)(h1:-1048576<=e+tz n)(h2:e+tz n<=1048576):nok n e=true:=by
 unfold nok;simp[h1,h2]
theorem zjx{n:Nat}{e:Int}(h:n≠0)(h1:e+tz n < -1048576\/1048576<e+tz n):nok n e=false:=by
 unfold nok;simp[h];omega
theorem zuF{s:Bool}{n:Nat}{e:Int}(h:n≠0)(h1:-1048576<=e+tz n)(h2:e+tz n<=1048576):nrm s n e=⟨s,n/2^tz n,e+tz n⟩:=by
 unfold nrm;rw[if_neg h,if_pos (znl h h1 h2)]
theorem znj{s:Bool}{n:Nat}{e:Int}(h:n≠0)(h1:e+tz n < -1048576\/1048576<e+tz n):nrm s n e=Dy.zero:=by
 unfold nrm;rw[if_neg h,zjx h h1];rfl
theorem zlB(s:Bool)(n:Nat)(e:Int):(nrm s n e).mag<=n:=by
 unfold nrm;split
 .exact zxg _
 .split
  .exact Nat.div_le_self _ _
  .exact zxg _
theorem znk(s:Bool)(n:Nat)(e:Int):-1048576<=(nrm s n e).exp/\(nrm s n e).exp<=1048576:=by
 unfold nrm;split
 .decide
 .rename_i h0;split
  .rename_i h;unfold nok at h;simp only[Bool.or_eq_true,beq_iff_eq,zxo,decide_eq_true_eq] at h;rcases h with h|h
   .exact absurd h h0
   .exact h
  .decide
end Rc
namespace Rc
open Go Go.RowKit
@[reducible] def dV(d:Dy):V:=V.agg [Leaf.val (.bool d.neg),zaf (zab d.mag),Leaf.val (.int .i64 d.exp)]
theorem zeW:dV Dy.zero=V.agg [Leaf.val (.bool false),nilL,Leaf.val (.int .i64 0)]:=by
 show V.agg [Leaf.val (.bool false),zaf (zab 0),Leaf.val (.int .i64 0)]=_;rw[zaj];rfl
structure Dfit(k:Nat)(d:Dy):Prop where
 n:(zab d.mag).length<=k
 lo:-1048576<=d.exp
 hi:d.exp<=1048576
class Bd (d:Dy) (k:outParam Nat):Prop where
 fit:Dfit k d
theorem Dfit.mono{d:Dy}{k k':Nat}(h:Dfit k d)(hk:k<=k'):Dfit k' d:=⟨zxk h.n hk,h.lo,h.hi⟩
theorem Bd.use{d:Dy}{k k':Nat}[h:Bd d k](hk:k<=k'):Dfit k' d:=h.fit.mono hk
instance Bn.dmag{d:Dy}{k:Nat}[h:Bd d k]:Bn d.mag k:=⟨h.fit.n⟩
instance Bd.nrm{s:Bool}{n:Nat}{e:Int}{k:Nat}[h:Bn n k]:Bd (nrm s n e) k:=
 ⟨⟨(Bn.mono (zlB s n e) h).le,(znk s n e).1,(znk s n e).2⟩⟩
instance Bd.zero:Bd Dy.zero 0:=⟨⟨by show(zab 0).length<=0;rw[zaj];exact zxe _,by decide,by decide⟩⟩
instance Bz.num{r:Rat}{k:Nat}[h:Br r k]:Bz r.num k:=⟨h.fit.n⟩
instance Bn.den{r:Rat}{k:Nat}[h:Br r k]:Bn r.den (k+1):=Bn.of (zxB h.den (zxG (by decide) (Nat.lt_succ_self _)))
theorem zwh(r:Rat):dn (val (zab (zaW r)))=r.den:=by rw[zac,zf8]
def exD(r:Rat):Dy:=if bl r.den=tz r.den+1 then nrm (decide (r.num<0)) r.num.natAbs (-(tz r.den:Int)) else Dy.zero
instance Bd.exD{r:Rat}{k:Nat}[h:Br r k]:Bd (exD r) k:=by
 unfold Rc.exD;split
 .haveI:Bn r.num.natAbs k:=Bz.bn (Bz.num (r:=r))
  infer_instance
 .exact⟨Bd.zero.fit.mono (zxg _)⟩
def dq(d:Dy):Rat:=if 0<=d.exp then rq d.neg (d.mag*2^d.exp.toNat) 0 else rq d.neg d.mag (2^(-d.exp).toNat)
theorem zq0{k j:Nat}(h:k<32*j):2^k<4294967296^j:=by
 rw[zcg];exact zxG (by decide) h
theorem Bn.shift{n i k:Nat}(j:Nat)(h:Bn n i)(hk:k<32*j):Bn (n*2^k) (i+j):=Bn.of (zeP h.lt (zq0 hk))
theorem Br.dqj{d:Dy}{k:Nat}(j:Nat)(h:Bd d k)(hj:d.exp.natAbs<32*j):Br (dq d) (k+j+1):=by
 have hn:Bn d.mag k:=⟨h.fit.n⟩;unfold Rc.dq;split
 .exact Br.rqn (i:=k+j+1) (j:=0) (zxj (hn.shift (k:=d.exp.toNat) j (by omega)).lt (zxn (by decide) (by omega))) (by simp) (by omega)
 .exact Br.rq (k:=k+j+1) (zxj hn.lt (zxn (by decide) (by omega))) (zxj (zq0 (k:=(-d.exp).toNat) (j:=j) (by omega)) (zxn (by decide) (by omega)))
instance Br.dq{d:Dy}{k:Nat}[h:Bd d k]:Br (dq d) (k+32769+1):=Br.dqj 32769 h (by have:=h.fit.lo;have:=h.fit.hi;omega)
theorem zc4{n k:Nat}(h:(zab n).length<=k):bl n<=32*k:=zas (by rw[<-zcg];exact zae.1 h)
theorem zh2{n k:Nat}(h:(zab n).length<=k):tz n<=32*k:=by
 by_cases h0:n=0
 .subst h0;exact zxg _
 .exact zxk (Nat.le_of_lt (zj9 h0)) (zc4 h)
def lg(a b:Nat):Int:=
 if 0<=(bl a:Int)-bl b then(if a<b*2^((bl a:Int)-bl b).toNat then(bl a:Int)-bl b-1 else(bl a:Int)-bl b)
 else(if a*2^(-((bl a:Int)-bl b)).toNat<b then(bl a:Int)-bl b-1 else(bl a:Int)-bl b)
theorem zsu(a b:Nat):lg a b=(bl a:Int)-bl b\/lg a b=(bl a:Int)-bl b-1:=by
 unfold lg;split <;> split <;> simp
theorem zhu{a b k j:Nat}(ha:(zab a).length<=k)(hb:(zab b).length<=j):-(32*j:Int)-1<=lg a b/\lg a b<=32*k:=by
 have h1:=zc4 ha;have h2:=zc4 hb;rcases zsu a b with h|h <;> omega
def scN(n:Nat)(e:Int):Nat:=if 0<=e then n else n*2^(-e).toNat
def scD(d:Nat)(e:Int):Nat:=if 0<=e then d*2^e.toNat else d
def rndQ(a b:Nat)(e:Int)(away:Bool):Nat:=if away&&decide (scN a e%scD b e≠0) then scN a e/scD b e+1 else scN a e/scD b e
def rnd(s:Bool)(a b:Nat)(p:Int)(away:Bool):Dy:=nrm s (rndQ a b (lg a b-p+1) away) (lg a b-p+1)
def rndD(r:Rat)(p:Int)(away:Bool):Dy:=if p<1\/4096<p\/r.num=0 then Dy.zero else rnd (decide (r.num<0)) r.num.natAbs r.den p away
def zqS(p:Int):Int:=if p<1\/4096<p then 1 else 0
theorem zeG{n:Nat}{e:Int}(h:0<=e):scN n e=n:=if_pos h
theorem zeH{n:Nat}{e:Int}(h:¬0<=e):scN n e=n*2^(-e).toNat:=if_neg h
theorem zdX{n:Nat}{e:Int}(h:0<=e):scD n e=n*2^e.toNat:=if_pos h
theorem zdY{n:Nat}{e:Int}(h:¬0<=e):scD n e=n:=if_neg h
theorem zd1{r:Rat}{p:Int}{away:Bool}(h1:¬p<1)(h2:¬4096<p)(h3:¬r.num=0):rndD r p away=rnd (decide (r.num<0)) r.num.natAbs r.den p away:=if_neg (by omega)
theorem zd0{p:Int}(h1:¬p<1)(h2:¬4096<p):zqS p=0:=if_neg (by omega)
theorem zmW{a b:Nat}{e:Int}:rndQ a b e false=scN a e/scD b e:=by simp[rndQ]
theorem zmV{a b:Nat}{e:Int}(h:scN a e%scD b e≠0):rndQ a b e true=scN a e/scD b e+1:=by simp[rndQ,h]
theorem zmX{a b:Nat}{e:Int}(h:¬scN a e%scD b e≠0):rndQ a b e true=scN a e/scD b e:=by simp[rndQ,h]
theorem zmE{b:Nat}(h:b≠0)(e:Int):scD b e≠0:=by
 unfold scD;split
 .exact Nat.mul_ne_zero h (Nat.ne_of_gt (Nat.two_pow_pos _))
 .exact h
theorem zmC{x a b N:Nat}{e:Int}(h:0<=e+N):x*scD b e<=scN a e↔x*(b*2^(e+N).toNat)<=a*2^N:=by
 by_cases he:0<=e
 .rw[zeG he,zdX he,show(e+N).toNat=e.toNat+N from by omega,zxu,show x*(b*(2^e.toNat*2^N))=x*(b*2^e.toNat)*2^N from by simp only[Nat.mul_assoc]];exact(Nat.mul_le_mul_right_iff (Nat.two_pow_pos N)).symm
 .rw[zeH he,zdY he];obtain⟨m,hm⟩:∃m,(e+N).toNat=m:=⟨_,rfl⟩;rw[hm,show N=(-e).toNat+m from by omega,zxu,<-Nat.mul_assoc a,<-Nat.mul_assoc x];exact(Nat.mul_le_mul_right_iff (Nat.two_pow_pos m)).symm
theorem lg_eq(a b:Nat):lg a b=if scN a ((bl a:Int)-bl b)<scD b ((bl a:Int)-bl b) then(bl a:Int)-bl b-1 else(bl a:Int)-bl b:=by
 unfold lg scN scD;split <;> rfl
theorem zst{a b N:Nat}(ha:a≠0)(hb:b≠0)(hN:bl b+1<=N) :
  b*2^(lg a b+N).toNat<=a*2^N/\a*2^N<b*2^(lg a b+1+N).toNat:=by
 have h1:=zgm a;have h2:=zjO ha;have h3:=zgm b;have h4:=zjO hb;have p1:=ziY ha;have p2:=ziY hb;obtain⟨k,hk⟩:∃k:Int,(bl a:Int)-bl b=k:=⟨_,rfl⟩;have low:b*2^(k-1+N).toNat<=a*2^N:=by
  have e1:2^bl b*2^(k-1+N).toNat=2^(bl a-1)*2^N:=by
   rw[<-zxu,<-zxu,show bl b+(k-1+N).toNat=bl a-1+N from by omega]
  have e2:=zxl (2^(k-1+N).toNat) (Nat.le_of_lt h3);have e3:=zxl (2^N) h2;omega
 have high:a*2^N<b*2^(k+1+N).toNat:=by
  have e1:2^(bl b-1)*2^(k+1+N).toNat=2^bl a*2^N:=by
   rw[<-zxu,<-zxu,show bl b-1+(k+1+N).toNat=bl a+N from by omega]
  have e2:=zxl (2^(k+1+N).toNat) h4;have e3:=(Nat.mul_lt_mul_right (Nat.two_pow_pos N)).2 h1;omega
 have mid:=zmC (x:=1) (a:=a) (b:=b) (N:=N) (e:=k) (by omega);rw[Nat.one_mul,Nat.one_mul] at mid;rw[lg_eq,hk];split
 .rename_i h;refine⟨low,?_⟩;rw[show k-1+1+(N:Int)=k+N from by omega];exact Nat.lt_of_not_le fun hle=>absurd (mid.2 hle) (Nat.not_le.2 h)
 .rename_i h;exact⟨mid.1 (Nat.le_of_not_lt h),high⟩
theorem ztj{a b:Nat}{e:Int}(ha:a≠0)(hb:b≠0)(he:e<=lg a b):(bl (scN a e/scD b e):Int)=lg a b-e+1:=by
 obtain⟨N,hN⟩:∃N,bl b+1+e.natAbs=N:=⟨_,rfl⟩;obtain⟨s1,s2⟩:=zst (N:=N) ha hb (by omega);obtain⟨K,hK⟩:∃K:Nat,(K:Int)=lg a b-e:=⟨(lg a b-e).toNat,by omega⟩;have hd:=Nat.pos_of_ne_zero (zmE hb e);have:bl (scN a e/scD b e)=K+1:=by
  apply zgl
  .rw[Nat.div_lt_iff_lt_mul hd];refine Nat.lt_of_not_le fun hle=>?_;have:=(zmC (N:=N) (by omega)).1 hle;rw[Nat.mul_left_comm,<-zxu,show K+1+(e+N).toNat=(lg a b+1+N).toNat from by omega] at this;omega
  .intro _;rw[Nat.le_div_iff_mul_le hd,Nat.add_sub_cancel,zmC (N:=N) (by omega),Nat.mul_left_comm,<-zxu,show K+(e+N).toNat=(lg a b+N).toNat from by omega];exact s1
 omega
theorem Bn.scN{a i:Nat}{e:Int}(j:Nat)(h:Bn a i)(hj:e.natAbs<32*j):Bn (scN a e) (i+j):=by
 unfold Rc.scN;split
 .exact⟨zxk h.le (by omega)⟩
 .exact h.shift j (by omega)
theorem Bn.rndQ{a b i:Nat}{e:Int}{up:Bool}(j:Nat)(h:Bn a i)(hj:e.natAbs<32*j):Bn (rndQ a b e up) (i+j+1):=by
 have h1:=h.scN j hj;have h2:Rc.rndQ a b e up<=Rc.scN a e+1:=by
  have:=Nat.div_le_self (Rc.scN a e) (scD b e);unfold Rc.rndQ;split <;> omega
 exact Bn.mono h2 (Bn.of (zxj (Nat.succ_lt_succ h1.lt) (by rw[zxt];have:=Nat.pow_pos (n:=i+j) (show 0<4294967296 by decide);omega)))
instance Bn.one:Bn 1 1:=⟨by rw[zdy];exact zxe _⟩
def zqx(a b:Dy):Int:=if b.mag=0 then a.exp else if a.mag=0 then b.exp else min a.exp b.exp
def wint(a:Dy)(w:Int):Int:=sgn a.neg (a.mag*2^(a.exp-w).toNat)
def mulD(a b:Dy):Dy:=nrm (a.neg != b.neg) (a.mag*b.mag) (a.exp+b.exp)
def addZ(a b:Dy):Int:=wint a (zqx a b)+wint b (zqx a b)
def addD(a b:Dy):Dy:=nrm (decide (addZ a b<0)) (addZ a b).natAbs (zqx a b)
def negD(d:Dy):Dy:=⟨!d.neg&&decide ((0:Int)<((zab d.mag).length:Int)),d.mag,d.exp⟩
instance Bd.negD{d:Dy}{k:Nat}[h:Bd d k]:Bd (negD d) k:=⟨⟨h.fit.n,h.fit.lo,h.fit.hi⟩⟩
instance Bd.mulD{a b:Dy}{i j:Nat}[ha:Bd a i][hb:Bd b j]:Bd (mulD a b) (i+j):=by unfold Rc.mulD;infer_instance
theorem zt5{a b:Dy}{i j:Nat}(ha:Bd a i)(hb:Bd b j):-1048576<=zqx a b/\zqx a b<=1048576:=by
 have h1:=ha.fit.lo;have h2:=ha.fit.hi;have h3:=hb.fit.lo;have h4:=hb.fit.hi;unfold zqx;split
 .omega
 .split <;> omega
theorem Bz.wint{a:Dy}{w:Int}{i:Nat}(j:Nat)(h:Bd a i)(hj:(a.exp-w).natAbs<32*j):Bz (wint a w) (i+j):=by
 haveI hn:Bn a.mag i:=⟨h.fit.n⟩;haveI:Bn (a.mag*2^(a.exp-w).toNat) (i+j):=hn.shift j (by omega);unfold Rc.wint;infer_instance
instance Bz.addZ{a b:Dy}{i j:Nat}[ha:Bd a i][hb:Bd b j]:Bz (addZ a b) (i+65537+(j+65537)+1):=by
 have hw:=zt5 ha hb;have h1:=ha.fit.lo;have h2:=ha.fit.hi;have h3:=hb.fit.lo;have h4:=hb.fit.hi;haveI:=Bz.wint (a:=a) (w:=zqx a b) 65537 ha (by omega);haveI:=Bz.wint (a:=b) (w:=zqx a b) 65537 hb (by omega);unfold Rc.addZ;infer_instance
instance Bd.addD{a b:Dy}{i j:Nat}[ha:Bd a i][hb:Bd b j]:Bd (addD a b) (i+65537+(j+65537)+1):=by
 haveI:Bn (Rc.addZ a b).natAbs (i+65537+(j+65537)+1):=Bz.bn inferInstance;unfold Rc.addD;infer_instance
instance Bd.rndD{r:Rat}{p:Int}{w:Bool}[h:Br r 25000]:Bd (rndD r p w) 52001:=by
 unfold Rc.rndD;split
 .exact⟨Bd.zero.fit.mono (zxg _)⟩
 .rename_i hc;have hnl:(zab (Int.natAbs r.num)).length<=25000:=Bz.use (z:=r.num) (zxe _);have hdl:(zab r.den).length<=25001:=Bn.use (n:=r.den) (zxe _);have hlg:=zhu hnl hdl;haveI:=Bn.rndQ (b:=r.den) (e:=lg r.num.natAbs r.den-p+1) (up:=w) 27000 ⟨hnl⟩ (by omega);unfold rnd;infer_instance
end Rc
