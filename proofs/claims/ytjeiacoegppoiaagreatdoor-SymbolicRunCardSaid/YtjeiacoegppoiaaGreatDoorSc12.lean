/- Parts of the proof, 12: the texts WlB2, WlC2, WlD2, WlY, WlE2, WlF2, Sym, SymB, SymC, as far as they are used. -/
import Derived.Test.YtjeiacoegppoiaaGreatDoorSc11
set_option linter.unusedSimpArgs false
set_option linter.unusedVariables false
set_option maxRecDepth 10000
namespace Go.Proofs.YtjeiacoegppoiaaGreatDoor
open Go Go.RowKit Rc
theorem zEj(x:Qr)(r:Rat)(hr:x.q=r)(hfx:Fit 200000000000 x)(y:Qr)(s:Rat)(hs:y.q=s)(hfy:Fit 200000000000 y):Ctr Tryz.prog 114 [qV x,qV y] (R.one (qV (qOf (r-s)))):=by
 refine bd_ Tryz.func114 Tryz.ntmps114 rfl (fun w0 A0=>?_);haveI ixn:Bn (val x.n) 200000000000:=Bn.val x.hn hfx.n;haveI ixd:Bn (val x.d) 200000000000:=Bn.val x.hd hfx.d;haveI iyn:Bn (val y.n) 200000000000:=Bn.val y.hn hfy.n;haveI iyd:Bn (val y.d) 200000000000:=Bn.val y.hd hfy.d;haveI ir:Br r 200000000000:=hr ▸ Br.q hfx;haveI is:Br s 200000000000:=hs ▸ Br.q hfy;refine zc 20 rfl (tc_ zsr rfl (zBh x (r) hr (hfx.mono (by omega)) (Qr.mk (!y.neg) y.n y.d y.hn y.hd) (-(s)) (zrH hs) (Fit.neg (hfy.mono (by omega)))) (zl 3 rfl ?_));exact r1_ hq_ rfl (by rw[Rat.sub_eq_add_neg] <;> rfl)
theorem qdiv(x:Qr)(r:Rat)(hr:x.q=r)(hfx:Fit 1000000000000 x)(y:Qr)(s:Rat)(hs:y.q=s)(hfy:Fit 1000000000000 y)(hs0:s≠0):Ctr Tryz.prog 113 [qV x,qV y] (R.tup [qV (qOf (r/s)),V.one (Leaf.val (.int .i64 0))]):=by
 refine bd_ Tryz.func113 Tryz.ntmps113 rfl (fun w0 A0=>?_);haveI ixn:Bn (val x.n) 1000000000000:=Bn.val x.hn hfx.n;haveI ixd:Bn (val x.d) 1000000000000:=Bn.val x.hd hfx.d;haveI iyn:Bn (val y.n) 1000000000000:=Bn.val y.hn hfy.n;haveI iyd:Bn (val y.d) 1000000000000:=Bn.val y.hd hfy.d;have hyn:val y.n≠0:=fun e=>hs0 (by rw[<-hs];unfold Qr.q;rw[zfh];exact e);refine zc 12 rfl (tc_ zjp rfl (zd5 y (s) hs (hfy.mono (by omega))) (tq_ rfl (eqF rfl (zgR hs0)) (zl 6 rfl (dr_ 0 [(16,2)] [2] (dz 4 rfl (kq_ rfl (zbC rfl rfl rfl un4 (d:=_) (rfl)) (dz 3 rfl (kc_ zjs rfl (zfB y (hfy.mono (by omega))) ?_))))))));refine kc_ zp6 rfl (zpP x.n x.hn (hfx.mono (by omega)).n (dl y.d) (zcU y.hd) (zfF hfy.d (by omega)) (val x.n) rfl (dn (val y.d)) (zfA _)) (dz 1 rfl (kc_ zjs rfl (zfB x (hfx.mono (by omega))) (dz 2 rfl (kc_ zp6 rfl (zpP (dl x.d) (zcU x.hd) (zfF hfx.d (by omega)) y.n y.hn (hfy.mono (by omega)).n (dn (val x.d)) (zfA _) (val y.n) rfl) ?_))));refine kc_ zso rfl (zrI (x.neg != y.neg) (zaa ((val x.n)*(dn (val y.d)))) (zaa ((dn (val x.d))*(val y.n))) (zab _) (zab _) (Bn.use (by omega)) (Bn.use (by omega)) ((val x.n)*(dn (val y.d))) ((dn (val x.d))*(val y.n)) (zac _) (zac _) (Nat.mul_ne_zero (zdI _) hyn)) (dz 2 rfl (zae (za 1 rfl ?_)));exact r2_ hq_ rfl (by subst hr;subst hs;rw[zwj _ _ _ _ _ _ hyn] <;> rfl)
theorem zv0(x:Rat)(h:x=0):Ctr Tryz.prog 245 [V.agg (qL (x))] (R.one (V.one (Leaf.val (.bool true)))):=by
 refine bd_ Tryz.func245 Tryz.ntmps245 rfl (fun w0 A0=>?_);refine zc 11 rfl (is_ true rfl (by rw[h];rfl) (zl 3 rfl (tq_ rfl (jln rfl) (tq_ rfl (eqT rfl (by rw[h,zbp,zah];rfl)) (zl 4 rfl (tq_ rfl (jln rfl) (tq_ rfl (eqT rfl (by rw[h,zbq,zah];rfl)) (zl 4 rfl ?_))))))));exact r1_ hq_ rfl rfl
theorem zDk(q:Qu)(d:Dc){b:Nat}(hd:DOk b q d)(hb:b<=1000000):Ctr Tryz.prog 222 [quV q,dcV d] (R.one (V.one (Leaf.val (.bool true)))):=by
 refine bd_ Tryz.func222 Tryz.ntmps222 rfl (fun w0 A0=>?_);obtain⟨hk,hbt⟩:=hd;haveI:=hbt.br;have hkk:d.kind=1\/d.kind=2\/d.kind=3\/d.kind=4:=by rcases hk with⟨h,_⟩|⟨h,_⟩ <;> omega
 refine zc 18 rfl ?_;by_cases h1:d.kind=1
 .refine tq_ rfl (eqT rfl) (zl 8 rfl ?_);have hp0:d.idx<q.g.us.length/\d.pt=0:=by rcases hk with⟨_,h⟩|⟨h,_⟩ <;> first|exact h|omega
  refine zc 3 rfl (tq_ rfl (geT rfl) (zl 6 rfl (tq_ rfl (jln rfl) (tq_ rfl (ltT rfl) (zl 4 rfl (tc_ zCN rfl (zv0 d.pt hp0.2) (zl 4 rfl ?_)))))));exact r1_ hq_ rfl rfl
 .refine tq_ rfl (eqF rfl) (zl 5 rfl ?_);by_cases h2:d.kind=2
  .refine tq_ rfl (eqT rfl) (zl 5 rfl ?_);have hp0:d.idx<q.g.us.length/\d.pt=0:=by rcases hk with⟨_,h⟩|⟨h,_⟩ <;> first|exact h|omega
   refine zc 3 rfl (tq_ rfl (geT rfl) (zl 6 rfl (tq_ rfl (jln rfl) (tq_ rfl (ltT rfl) (zl 4 rfl (tc_ zCN rfl (zv0 d.pt hp0.2) (zl 4 rfl ?_)))))));exact r1_ hq_ rfl rfl
  .refine tq_ rfl (eqF rfl) (zl 7 rfl ?_);by_cases h3:d.kind=3
   .refine tq_ rfl (eqT rfl) (zl 8 rfl ?_);have hp0:d.idx<q.g.inp:=by rcases hk with⟨h,_⟩|⟨_,h⟩ <;> first|exact h|omega
    refine zc 3 rfl (tq_ rfl (geT rfl) (zl 6 rfl (tq_ rfl (ltT rfl) (zl 4 rfl (tc_ znt rfl (ziu (qOf (d.pt)) (d.pt) (zaj _) (Br.use (by omega))) (is_ true rfl (zde _) (zl 4 rfl ?_)))))));exact r1_ hq_ rfl rfl
   .refine tq_ rfl (eqF rfl) (zl 5 rfl (tq_ rfl (eqT rfl) (zl 5 rfl ?_)));have hp0:d.idx<q.g.inp:=by rcases hk with⟨h,_⟩|⟨_,h⟩ <;> first|exact h|omega
    refine zc 3 rfl (tq_ rfl (geT rfl) (zl 6 rfl (tq_ rfl (ltT rfl) (zl 4 rfl (tc_ znt rfl (ziu (qOf (d.pt)) (d.pt) (zaj _) (Br.use (by omega))) (is_ true rfl (zde _) (zl 4 rfl ?_)))))));exact r1_ hq_ rfl rfl
theorem zwO(q:Qu)(hq:QOk q)(d:Dc){b:Nat}(hd:DOk b q d)(hb:b<=1000000):Ctr Tryz.prog 176 [quV q,dcV d] (R.one (V.one (Leaf.val (.bool true)))):=by
 refine bd_ Tryz.func176 Tryz.ntmps176 rfl (fun w0 A0=>?_);refine zc 10 rfl (tc_ zEm rfl (zhO q hq) (zl 3 rfl (tc_ fn222 rfl (zDk q d hd hb) (zl 4 rfl ?_))));exact r1_ hq_ rfl rfl
theorem zsg(g:Gr)(hg:GOk g):Ctr Tryz.prog 50 [grV g] (R.one (V.one (Leaf.val (.int .i64 (((g.inp+g.us.length:Nat):Int)))))):=by
 refine bd_ Tryz.func50 Tryz.ntmps50 rfl (fun w0 A0=>?_);have h1:=hg.i1;have h2:=hg.i3;have h3:=hg.u4;have h4:=hg.o1;have h5:=hg.o3;refine zc 10 rfl (tc_ zDj rfl (zoI g (by assumption)) (zl 12 rfl (tq_ rfl (jln rfl) (tq_ rfl (jad (g.inp+g.us.length) rfl) (zl 3 rfl ?_)))));exact r1_ hq_ rfl rfl
theorem zBK(s:Sc)(hs:SB 135001 s):Ctr Tryz.prog 131 [scV s] (R.tup [vwV s,V.one (Leaf.val (.bool true))]):=by
 refine bd_ Tryz.func131 Tryz.ntmps131 rfl (fun w0 A0=>?_);have hB:=hs.B;have hq:=hs.q;have hd:=hs.d;have hpl:=hs.pl;have hl:=hs.ll;have hg:=hq.g;have hr:=hq.r;have hlo:=hr.lo;have hhi:=hr.hi;have h1:=hg.i1;have h2:=hg.i3;have h3:=hg.u4;have h4:=hg.o1;have h5:=hg.o3;refine zc 12 rfl (tc_ zEm rfl (zhO s.q hq) (zl 9 rfl (tq_ rfl (zeD rfl tx224 rfl zBj rfl) (zl 6 rfl ?_))));refine zcX 1 4 1 (ls':=[Leaf.val (.int .i64 ((s.q.g.inp:Nat):Int)),El.row afE s.q.g.us,El.row afE s.q.g.os,El.row ratE s.q.r.lo,El.row ratE s.q.r.hi,El.row afE s.q.r.rows,El.row tmE s.q.goal.ts,Leaf.val (.bool (zaQ s.q.goal.c)),zaf (zaa (zaw s.q.goal.c)),zaf (zaa (zaE s.q.goal.c)),El.row dcE s.path,El.row lmE s.lems,Leaf.own 2 0]) rfl rfl rfl ⟨.inl rfl,.inl rfl,.inl rfl,.inl rfl,.inl rfl,.inl rfl,.inl rfl,.inl rfl,.inl rfl,.inl rfl,.inl rfl,.inl rfl,.inr ⟨rfl,rfl⟩,trivial⟩ ?_;refine zc 3 rfl (tq_ rfl (jln rfl) (zl 4 rfl ?_));refine zbv (fun m Γ H=>∃(i:Nat) (n:Nat) (out:List Bool),s.path.length-i=m/\Γ=[(1,some (D.ptr 0 0)),(4,some (D.ptr 1 0)),(15,some (D.v (V.one (El.row dcE s.path)))),(16,some (D.val (.int .i64 ((s.path.length:Nat):Int)))),(17,some (D.val (.int .i64 (i:Int))))]/\H=[hb_ 43 (scL s),hb_ 224 (quL s.q++[El.row dcE s.path,El.row lmE s.lems,Leaf.own 2 n]),hgr 4 1 boE out n]/\i<=s.path.length/\out=List.replicate i true) ⟨0,0,[],rfl,rfl,rfl,zEv _,rfl⟩ rfl ?_;rintro m Γ H ⟨i,n,out,rfl,rfl,rfl,hi0,hout⟩;refine zc 2 rfl ?_;by_cases hi:i<s.path.length
 .refine tq_ rfl (ltT rfl) (zl 9 rfl ?_);obtain⟨d,hdx⟩:∃d,s.path[i]?=some d:=⟨_,zEp hi⟩;have hdo:=hd d (zEq hdx);have hol:out.length<=100:=by rw[hout,List.length_replicate];omega
  refine zc 1 rfl (tq_ rfl (jix i hdx rfl) (tq_ rfl (jlr rfl) (zl 4 rfl (dr_ 0 [(10,2),(13,1)] [2,1] (dz 4 rfl (kp_ [2] rfl (jld rfl) (dz 3 rfl (kc_ zC1 rfl (zwO s.q hq d hdo (by omega)) (ke_ rfl (fun _=>zad rfl zAL ty4 tz4 rfl (by decide) (by decide) rfl (by decide) rfl) ?_)))))))));refine ki_ 2 rfl (dap true rfl rfl) (dz 3 rfl (zae (za 3 rfl (tq_ rfl (jad (i+1) rfl) (zl 2 rfl (zal 3 (zaM 3 rfl ?_)))))));exact nx_ ⟨i+1,_,_,rfl,rfl,rfl,hi,(by rw[hout,zup])⟩ rfl
 .refine tq_ rfl (ltF rfl) (zl 10 rfl ?_);have hie:i=s.path.length:=by omega
  rw[hie] at hout;refine zcW 1 (ls':=[Leaf.val (.int .i64 ((s.q.g.inp:Nat):Int)),El.row afE s.q.g.us,El.row afE s.q.g.os,El.row ratE s.q.r.lo,El.row ratE s.q.r.hi,El.row afE s.q.r.rows,El.row tmE s.q.goal.ts,Leaf.val (.bool (zaQ s.q.goal.c)),zaf (zaa (zaw s.q.goal.c)),zaf (zaa (zaE s.q.goal.c)),El.row dcE s.path,El.row lmE s.lems,El.row boE out]) rfl rfl (RowAt.ofE boE out rfl (by decide)) ⟨.inl rfl,.inl rfl,.inl rfl,.inl rfl,.inl rfl,.inl rfl,.inl rfl,.inl rfl,.inl rfl,.inl rfl,.inl rfl,.inl rfl,.inr ⟨rfl,rfl⟩,trivial⟩ ?_;refine zc 1 rfl (zi8 4 rfl rfl rfl (zl 5 rfl ?_));exact r2_ hq_ rfl (by rw[hout])
theorem zdS(r:Rw)(c:Qr):Ctr Tryz.prog 134 [rwV r,qV c] (R.one (muV ⟨r,c⟩)):=by
 refine bd_ Tryz.func134 Tryz.ntmps134 rfl (fun w0 A0=>?_);refine zc 15 rfl ?_;exact r1_ hq_ rfl rfl
theorem zgN(s:Sc)(hs:SB 135001 s)(n:Nat)(h0:0<n)(hn:n<=s.lems.length):Ctr Tryz.prog 232 [vwV s,V.one (Leaf.val (.int .i64 ((n:Int))))] (R.one (qV (lvr s.lems n))):=by
 refine bd_ Tryz.func232 Tryz.ntmps232 rfl (fun w0 A0=>?_);have hB:=hs.B;have hq:=hs.q;have hd:=hs.d;have hpl:=hs.pl;have hl:=hs.ll;have hg:=hq.g;have hr:=hq.r;have hlo:=hr.lo;have hhi:=hr.hi;have h1:=hg.i1;have h2:=hg.i3;have h3:=hg.u4;have h4:=hg.o1;have h5:=hg.o3;refine zc 6 rfl ?_;obtain⟨y,hy⟩:∃y,s.lems[n-1]?=some y:=⟨_,zEp (by omega)⟩;refine zc 2 rfl (tq_ rfl (zbm rfl rfl) (tq_ rfl (jft rfl) (tq_ rfl (jfr rfl) (tq_ rfl (jli rfl) (zl 1 rfl (tq_ rfl (jsb (n-1) rfl) (tq_ rfl (jix (n-1) hy rfl) (tq_ rfl (jft rfl) (tq_ rfl (jlr rfl) ?_)))))))));refine zl 3 rfl ?_;exact r1_ hq_ rfl (by rw[zcv hy])
theorem zDC(s:Sc)(hs:SB 135001 s)(k:Nat)(j:Int):Ctr Tryz.prog 231 [vwV s,V.one (Leaf.val (.int .i64 ((k:Int)))),V.one (Leaf.val (.int .i64 (j)))] (R.one (V.one (Leaf.val (.bool (zeM s.path k j))))):=by
 refine bd_ Tryz.func231 Tryz.ntmps231 rfl (fun w0 A0=>?_);have hB:=hs.B;have hq:=hs.q;have hd:=hs.d;have hpl:=hs.pl;have hl:=hs.ll;have hg:=hq.g;have hr:=hq.r;have hlo:=hr.lo;have hhi:=hr.hi;have h1:=hg.i1;have h2:=hg.i3;have h3:=hg.u4;have h4:=hg.o1;have h5:=hg.o3;refine zc 9 rfl (tq_ rfl (zbm rfl rfl) (tq_ rfl (jft rfl) (tq_ rfl (jfr rfl) (tq_ rfl (jli rfl) (tq_ rfl (jln rfl) (zl 4 rfl ?_))))));refine zbv (fun m Γ H=>∃(i:Nat),s.path.length-i=m/\Γ=[(0,some (D.rep (zaT (vwL s)))),(1,some (D.val (.int .i64 (k:Int)))),(2,some (D.val (.int .i64 j))),(13,some (D.v (V.one (El.row dcE s.path)))),(14,some (D.val (.int .i64 ((s.path.length:Nat):Int)))),(15,some (D.val (.int .i64 (i:Int))))]/\H=[]/\i<=s.path.length/\zu7 s.path k j i=false) ⟨0,rfl,rfl,rfl,zEv _,rfl⟩ rfl ?_;rintro m Γ H ⟨i,rfl,rfl,rfl,hi0,hno⟩;refine zc 2 rfl ?_;by_cases hi:i<s.path.length
 .refine tq_ rfl (ltT rfl) (zl 9 rfl ?_);obtain⟨x,hx⟩:∃x,s.path[i]?=some x:=⟨_,zEp hi⟩;refine zc 2 rfl (tq_ rfl (jix i hx rfl) (tq_ rfl (jlr rfl) (zl 8 rfl (tq_ rfl (zbm rfl rfl) (tq_ rfl (jfr rfl) (tq_ rfl (jli rfl) (zl 1 rfl (tq_ rfl (jix i (zrx hi) rfl) (tq_ rfl (jli rfl) ?_)))))))));refine zl 7 rfl ?_;refine zdM rfl (fun hk1=>?_) (fun hk1=>?_)
  .refine zl 12 rfl (tq_ rfl (jad (i+1) rfl) (zl 2 rfl (zal 0 (zaM 0 rfl ?_))));exact nx_ ⟨i+1,rfl,rfl,rfl,hi,by rw[zc2 hx,hno,hk1];rfl⟩ rfl
  .refine zl 7 rfl ?_;refine zao rfl (fun hk2=>?_) (fun hk2=>?_)
   .refine zc 5 rfl ?_;exact r1_ hq_ rfl (by rw[zoU hx hk1 hk2])
   .refine zc 4 rfl (tq_ rfl (jad (i+1) rfl) (zl 2 rfl (zal 0 (zaM 0 rfl ?_))));exact nx_ ⟨i+1,rfl,rfl,rfl,hi,by rw[zc2 hx,hno,hk1,hk2];rfl⟩ rfl
 .refine tq_ rfl (ltF rfl) (zl 14 rfl ?_);exact r1_ hq_ rfl (by rw[<-zh1,<-show i=s.path.length by omega,hno])
theorem zyd(s:Sc)(hs:SB 135001 s)(i:Nat)(hi:i<s.q.g.inp)(up:Bool):Ctr Tryz.prog 194 [vwV s,V.one (Leaf.val (.int .i64 ((i:Int)))),V.one (Leaf.val (.bool up))] (R.tup [qV (qOf (zhV s i up).1),V.one (El.row muE (zko (zhV s i up).2)),V.one (Leaf.val (.bool true))]):=by
 refine bd_ Tryz.func194 Tryz.ntmps194 rfl (fun w0 A0=>?_);have hB:=hs.B;have hq:=hs.q;have hd:=hs.d;have hpl:=hs.pl;have hl:=hs.ll;have hg:=hq.g;have hr:=hq.r;have hlo:=hr.lo;have hhi:=hr.hi;have h1:=hg.i1;have h2:=hg.i3;have h3:=hg.u4;have h4:=hg.o1;have h5:=hg.o3;obtain⟨a0,ha0⟩:∃a,s.q.r.lo[i]?=some a:=⟨_,zEp (by omega)⟩;obtain⟨c0,hc0⟩:∃a,s.q.r.hi[i]?=some a:=⟨_,zEp (by omega)⟩;have ha:s.q.r.lo[i]?=some ((s.q.r.lo[i]?).getD 0):=by rw[ha0];rfl
 have hc_:s.q.r.hi[i]?=some ((s.q.r.hi[i]?).getD 0):=by rw[hc0];rfl
 obtain⟨hb1,hb2,_⟩:=hr.bd i a0 c0 ha0 hc0;haveI:Br ((s.q.r.lo[i]?).getD 0) 4:=by rw[ha0];exact hb1.br
 haveI:Br ((s.q.r.hi[i]?).getD 0) 8:=by rw[hc0];exact hb2.br.mono (by omega)
 refine zc 10 rfl (tq_ rfl (zbm rfl rfl) (tq_ rfl (jft rfl) (tq_ rfl (jft rfl) (tq_ rfl (jft rfl) (tq_ rfl (jlr rfl) (zl 5 rfl ?_))))));refine nz_ [so 0 (D.rep (zaT (vwL s))),so 1 (D.val (.int .i64 (i:Int))),so 2 (D.bool up),so 6 (D.ptr 0 0),so 9 (D.ptr 1 0)] [hb_ 36 [Leaf.val (.bool false),zaf ([]),zaf ([])],hb_ 31 [El.row ratE s.q.r.lo,El.row ratE s.q.r.hi,El.row afE s.q.r.rows]] rfl rfl (zc 4 rfl (tq_ rfl (jix i ha rfl) (tq_ rfl (jlr rfl) (zl 10 rfl ?_))));refine mt_ [so 0 (D.rep (zaT (vwL s))),so 1 (D.val (.int .i64 (i:Int))),so 6 (D.ptr 0 0),so 10 (D.ptr 2 0),so 11 (D.ptr 3 0),so 12 (D.val (.int .i64 (((if up=true then 4 else 3):Nat):Int))),so 13 (D.val (.int .i64 (if up=true then -1 else 1)))] [hb_ 36 [Leaf.val (.bool false),zaf ([]),zaf ([])],none,hb_ 36 (qL ((zoE s i up).1)),hb_ 107 [Leaf.val (.int .i64 ((zoE s i up).2.kind)),Leaf.val (.int .i64 ((zoE s i up).2.idx)),Leaf.val (.int .i64 ((zoE s i up).2.lo)),Leaf.val (.int .i64 ((zoE s i up).2.hi))]] ?_ ?_
 .refine zc 1 rfl (nz_ [so 0 _,so 1 _,so 2 _,so 6 _,so 9 _,so 10 (D.ptr 2 0),so 11 (D.ptr 3 0),so 12 (D.val (.int .i64 3)),so 13 (D.val (.int .i64 1))] [_,_,hb_ 36 (qL ((s.q.r.lo[i]?).getD 0)),hb_ 107 [Leaf.val (.int .i64 1),Leaf.val (.int .i64 (i:Int)),Leaf.val (.int .i64 0),Leaf.val (.int .i64 0)]] rfl rfl (zc 4 rfl ?_));refine zao rfl (fun hup=>?_) (fun hup=>?_)
  .subst hup;refine zc 4 rfl (tq_ rfl (jix i hc_ rfl) (tq_ rfl (jlr rfl) (zl 7 rfl (zal 1 ?_))));exact mx_ rfl
  .subst hup;refine zc 1 rfl (zal 1 ?_);exact mx_ rfl
 .refine zc 4 rfl (tq_ rfl (zbm rfl rfl) (tq_ rfl (jft rfl) (tq_ rfl (jfr rfl) (tq_ rfl (jli rfl) (tq_ rfl (jln rfl) (zl 4 rfl ?_))))));refine zbv (fun m Γ H=>∃(n:Nat) (b:Rat×Rw),s.path.length-n=m/\Γ=[(0,some (D.rep (zaT (vwL s)))),(1,some (D.val (.int .i64 (i:Int)))),(6,some (D.ptr 0 0)),(10,some (D.ptr 2 0)),(11,some (D.ptr 3 0)),(12,some (D.val (.int .i64 (((if up=true then 4 else 3):Nat):Int)))),(13,some (D.val (.int .i64 (if up=true then -1 else 1)))),(41,some (D.v (V.one (El.row dcE s.path)))),(42,some (D.val (.int .i64 ((s.path.length:Nat):Int)))),(43,some (D.val (.int .i64 (n:Int))))]/\H=[hb_ 36 [Leaf.val (.bool false),zaf ([]),zaf ([])],none,hb_ 36 (qL b.1),hb_ 107 [Leaf.val (.int .i64 b.2.kind),Leaf.val (.int .i64 b.2.idx),Leaf.val (.int .i64 b.2.lo),Leaf.val (.int .i64 b.2.hi)]]/\n<=s.path.length/\b=zgq s i up n) ⟨0,zoE s i up,rfl,rfl,rfl,zEv _,rfl⟩ rfl ?_;rintro m Γ H ⟨n,b,rfl,rfl,rfl,hn0,hb⟩;refine zc 2 rfl ?_;by_cases hn:n<s.path.length
  .refine tq_ rfl (ltT rfl) (zl 9 rfl ?_);obtain⟨d,hdx⟩:∃d,s.path[n]?=some d:=⟨_,zEp hn⟩;have hdo:=hd d (zEq hdx);haveI:=hdo.2.br;haveI hbb:Br b.1 201:=by rw[hb];exact zsb hs hi up (by omega)
   refine nz_ [so 0 (D.rep (zaT (vwL s))),so 1 (D.val (.int .i64 (i:Int))),so 6 (D.ptr 0 0),so 10 (D.ptr 2 0),so 11 (D.ptr 3 0),so 12 (D.val (.int .i64 (((if up=true then 4 else 3):Nat):Int))),so 13 (D.val (.int .i64 (if up=true then -1 else 1))),so 41 (D.v (V.one (El.row dcE s.path))),so 42 (D.val (.int .i64 ((s.path.length:Nat):Int))),so 43 (D.val (.int .i64 (n:Int)))] [hb_ 36 [Leaf.val (.bool false),zaf ([]),zaf ([])],none,hb_ 36 (qL b.1),hb_ 107 [Leaf.val (.int .i64 b.2.kind),Leaf.val (.int .i64 b.2.idx),Leaf.val (.int .i64 b.2.lo),Leaf.val (.int .i64 b.2.hi)]] rfl rfl ?_;refine zc 2 rfl (tq_ rfl (jix n hdx rfl) (tq_ rfl (jlr rfl) (zl 8 rfl (tq_ rfl (zbm rfl rfl) (tq_ rfl (jfr rfl) (tq_ rfl (jli rfl) (zl 1 rfl (tq_ rfl (jix n (zrx hn) rfl) (tq_ rfl (jli rfl) ?_)))))))));refine zl 4 rfl ?_;by_cases hk:d.kind=(if up=true then 4 else 3)
   .refine tq_ rfl (eqT rfl (by rw[hk])) (zl 5 rfl ?_);by_cases hx:d.idx=i
    .refine tq_ rfl (eqT rfl) (zl 5 rfl (tc_ zuQ rfl (zuv (qOf (d.pt)) (d.pt) (zaj _) (Br.use (by omega)) (qOf (b.1)) (b.1) (zaj _) (Br.use (by omega))) (zl 1 rfl ?_)));by_cases hc:(if up=true then d.pt<b.1 else b.1<d.pt)
     .refine tq_ rfl (eqT rfl (zwG.2 hc)) (zl 4 rfl ?_);refine nz_ [so 0 _,so 1 _,so 6 _,so 10 _,so 11 _,so 12 _,so 13 _,so 14 (D.val (.int .i64 (n:Int))),so 15 (D.ptr 4 0),so 41 _,so 42 _,so 43 _] [_,none,_,_,hb_ 76 [Leaf.val (.int .i64 ((d.kind:Nat):Int)),Leaf.val (.int .i64 ((d.idx:Nat):Int)),Leaf.val (.bool (zaQ d.pt)),zaf (zaa (zaw d.pt)),zaf (zaa (zaE d.pt))]] rfl rfl (zc 11 rfl ?_);refine tq_ rfl (jad (n+1) rfl) (zl 2 rfl (zal 4 (zaM 4 rfl ?_)));exact nx_ ⟨n+1,(d.pt,⟨4,(n:Int),0,0⟩),rfl,rfl,rfl,hn,(by rw[hb] at hc;exact(zwI hdx ⟨hk,hx,hc⟩).symm)⟩ rfl
     .refine tq_ rfl (eqF rfl (fun e=>hc (zwG.1 e))) (zl 7 rfl (nf_ [4] [so 0 _,so 1 _,so 6 _,so 10 _,so 11 _,so 12 _,so 13 _,so 41 _,so 42 _,so 43 _] [_,none,_,_,none] rfl rfl rfl (zc 1 rfl (tq_ rfl (jad (n+1) rfl) (zl 2 rfl (zaM 4 rfl ?_))))));exact nx_ ⟨n+1,b,rfl,rfl,rfl,hn,(by rw[hb];exact(zjO hdx (fun e=>hc (by rw[hb];exact e.2.2))).symm)⟩ rfl
    .refine tq_ rfl (eqF rfl) (zl 15 rfl (nf_ [4] [so 0 _,so 1 _,so 6 _,so 10 _,so 11 _,so 12 _,so 13 _,so 41 _,so 42 _,so 43 _] [_,none,_,_,none] rfl rfl rfl (zc 1 rfl (tq_ rfl (jad (n+1) rfl) (zl 2 rfl (zaM 4 rfl ?_))))));exact nx_ ⟨n+1,b,rfl,rfl,rfl,hn,(by rw[hb];exact(zjO hdx (fun e=>hx e.2.1)).symm)⟩ rfl
   .refine tq_ rfl (eqF rfl (fun e=>hk (Int.ofNat_inj.1 e))) (zl 21 rfl (nf_ [4] [so 0 _,so 1 _,so 6 _,so 10 _,so 11 _,so 12 _,so 13 _,so 41 _,so 42 _,so 43 _] [_,none,_,_,none] rfl rfl rfl (zc 1 rfl (tq_ rfl (jad (n+1) rfl) (zl 2 rfl (zaM 4 rfl ?_))))));exact nx_ ⟨n+1,b,rfl,rfl,rfl,hn,(by rw[hb];exact(zjO hdx (fun e=>hk e.1)).symm)⟩ rfl
  .refine tq_ rfl (ltF rfl) (zl 10 rfl ?_);have hie:n=s.path.length:=by omega
   rw[hie] at hb;refine dr_ 0 [(5,0)] [0] (dz 2 rfl (kc_ zCG rfl (zgf 1 (by decide) (by decide)) (kc_ zgv rfl (zdS b.2 (qOf (((1:Int):Rat)))) (ke_ rfl (fun _=>zad rfl zcJ zbh zcZ rfl (by decide) (by decide) rfl (by decide) rfl) (dz 3 rfl (zae (za 1 rfl ?_)))))));exact r3_ hq_ rfl (by unfold zhV;rw[<-hb] <;> rfl)
theorem low_p(s:Sc)(hs:SB 135001 s)(j:Nat)(hj:j<s.q.g.us.length):Ctr Tryz.prog 196 [vwV s,V.one (Leaf.val (.int .i64 ((j:Int))))] (R.tup [qV (zmb s j).1,V.one (El.row muE (zmb s j).2),V.one (Leaf.val (.bool true))]):=by
 refine bd_ Tryz.func196 Tryz.ntmps196 rfl (fun w0 A0=>?_);have hB:=hs.B;have hq:=hs.q;have hd:=hs.d;have hpl:=hs.pl;have hl:=hs.ll;have hg:=hq.g;have hr:=hq.r;have hlo:=hr.lo;have hhi:=hr.hi;have h1:=hg.i1;have h2:=hg.i3;have h3:=hg.u4;have h4:=hg.o1;have h5:=hg.o3;haveI:=zma hB (bLo s j);haveI:=zma hB (bHi s j);refine zc 9 rfl (tc_ zCG rfl (zgf 1 (by decide) (by decide)) (zl 7 rfl (tq_ rfl (zbm rfl rfl) (tq_ rfl (jft rfl) (tq_ rfl (jlr rfl) (zl 1 rfl (tc_ zCF rfl (zmH s (by assumption) (by omega) (by omega) (j:Int)) (zl 9 rfl ?_))))))));refine nz_ [so 0 (D.rep (zaT (vwL s))),so 1 (D.val (.int .i64 (j:Int))),so 4 (D.ptr 0 0),so 7 (D.ptr 1 0),so 8 (D.val (.int .i64 (((zak s.lems (j:Int)).1:Nat):Int)))] [hb_ 36 [Leaf.val (.bool false),zaf ([]),zaf ([])],hb_ 36 (qL ((1:Int):Rat))] rfl rfl (zc 2 rfl ?_);by_cases h1:(zak s.lems (j:Int)).1≠0
 .refine tq_ rfl (gtT rfl) ?_;obtain⟨y,hy,_,_,hly,hy0,hyl⟩:=zbj h1;refine zl 3 rfl (tc_ zp0 rfl (zgN s (by assumption) ((zak s.lems (j:Int)).1) (by omega) (by omega)) (tc_ zjp rfl (zd5 (lvr s.lems ((zak s.lems (j:Int)).1)) ((lvr s.lems ((zak s.lems (j:Int)).1)).q) rfl (Fq.use (x:=(lvr s.lems ((zak s.lems (j:Int)).1))) (by omega))) ?_));by_cases h2:0<lv s.lems (zak s.lems (j:Int)).1
  .refine tq_ rfl (gtT rfl (by rw[ziE];exact zd3.2 h2)) (zl 5 rfl (nz_ [so 0 _,so 1 _,so 4 _,so 7 _,so 8 _] [_,_] rfl rfl (dr_ 0 [(13,0)] [0] (dz 2 rfl (kc_ zp0 rfl (zgN s (by assumption) ((zak s.lems (j:Int)).1) (by omega) (by omega)) (dz 3 rfl (kc_ zgv rfl (zdS ⟨6,(j:Int),0,0⟩ (qOf (((1:Int):Rat)))) (dz 4 rfl ?_))))))));refine kc_ zgv rfl (zdS ⟨11,(j:Int),(((zak s.lems (j:Int)).1:Nat):Int),0⟩ (qOf (((1:Int):Rat)))) (ke_ rfl (fun _=>zad rfl zcJ zbh zcZ rfl (by decide) (by decide) rfl (by decide) rfl) (dz 3 rfl (zae (za 1 rfl ?_))));exact r3_ hq_ rfl (by rw[zwB ⟨h1,h2⟩] <;> rfl)
  .refine tq_ rfl (gtF rfl (by rw[ziE];exact fun e=>h2 (zd3.1 e))) (zl 7 rfl (nz_ [so 1 _,so 4 _,so 7 _] [_,_] rfl rfl (zc 5 rfl (tc_ zgv rfl (zdS ⟨5,(j:Int),0,0⟩ (qOf (((1:Int):Rat)))) (te_ rfl (zad rfl zcJ zbh zcZ rfl (by decide) (by decide) rfl (by decide) rfl) (zl 5 rfl ?_))))));exact r3_ hq_ rfl (by rw[zox (fun e=>h2 e.2)] <;> rfl)
 .refine tq_ rfl (gtF rfl) (zl 13 rfl (nz_ [so 1 _,so 4 _,so 7 _] [_,_] rfl rfl (zc 5 rfl (tc_ zgv rfl (zdS ⟨5,(j:Int),0,0⟩ (qOf (((1:Int):Rat)))) (te_ rfl (zad rfl zcJ zbh zcZ rfl (by decide) (by decide) rfl (by decide) rfl) (zl 5 rfl ?_))))));exact r3_ hq_ rfl (by rw[zox (fun e=>h1 e.1)] <;> rfl)
set_option maxHeartbeats 2000000 in
theorem zBS(s:Sc)(hs:SB 135001 s)(j:Nat)(hj:j<s.q.g.us.length):Ctr Tryz.prog 195 [vwV s,V.one (Leaf.val (.int .i64 ((j:Int))))] (R.tup [qV (zhB s j).1,V.one (El.row muE (zhB s j).2.1),V.one (Leaf.val (.bool (zhB s j).2.2))]):=by
 refine bd_ Tryz.func195 Tryz.ntmps195 rfl (fun w0 A0=>?_);have hB:=hs.B;have hq:=hs.q;have hd:=hs.d;have hpl:=hs.pl;have hl:=hs.ll;have hg:=hq.g;have hr:=hq.r;have hlo:=hr.lo;have hhi:=hr.hi;have h1:=hg.i1;have h2:=hg.i3;have h3:=hg.u4;have h4:=hg.o1;have h5:=hg.o3;haveI:=zma hB (bLo s j);haveI:=zma hB (bHi s j);refine zc 9 rfl (tc_ zCG rfl (zgf 1 (by decide) (by decide)) (zl 7 rfl (tq_ rfl (zbm rfl rfl) (tq_ rfl (jft rfl) (tq_ rfl (jlr rfl) (zl 1 rfl (tc_ zCF rfl (zmH s (by assumption) (by omega) (by omega) (j:Int)) (zl 8 rfl ?_))))))));refine nz_ [so 0 (D.rep (zaT (vwL s))),so 1 _,so 4 _,so 7 _,so 8 (D.val (.int .i64 (((zak s.lems (j:Int)).1:Nat):Int))),so 9 (D.val (.int .i64 (((zak s.lems (j:Int)).2:Nat):Int)))] [_,_] rfl rfl (zc 3 rfl (tc_ zCO rfl (zDC s (by assumption) 1 (j:Int)) (zl 2 rfl (tc_ zCO rfl (zDC s (by assumption) 2 (j:Int)) ?_))));refine zl 5 rfl ?_;refine mt_ [so 0 (D.rep (zaT (vwL s))),so 1 (D.val (.int .i64 (j:Int))),so 4 (D.ptr 0 0),so 7 (D.ptr 1 0),so 8 (D.val (.int .i64 (((zak s.lems (j:Int)).1:Nat):Int))),so 9 (D.val (.int .i64 (((zak s.lems (j:Int)).2:Nat):Int))),so 10 (D.bool (zeM s.path 1 (j:Int))),so 11 (D.bool (zeM s.path 2 (j:Int))),so 45 (D.bool (zby s j))] [hb_ 36 [Leaf.val (.bool false),zaf ([]),zaf ([])],hb_ 36 (qL ((1:Int):Rat))] ?_ ?_
 .refine nz_ [so 0 _,so 1 _,so 4 _,so 7 _,so 8 _,so 9 _,so 10 (D.bool (zeM s.path 1 (j:Int))),so 11 (D.bool (zeM s.path 2 (j:Int)))] [_,_] rfl rfl (zc 3 rfl ?_);refine zdM rfl (fun hf1=>?_) (fun hf1=>?_)
  .refine zl 1 rfl ?_;by_cases h1:(zak s.lems (j:Int)).2≠0
   .refine tq_ rfl (gtT rfl) ?_;obtain⟨z,hz,_,_,hlz,hz0,hzl⟩:=zbu h1;refine zl 3 rfl (tc_ zp0 rfl (zgN s (by assumption) ((zak s.lems (j:Int)).2) (by omega) (by omega)) (tc_ zjp rfl (zd5 (lvr s.lems ((zak s.lems (j:Int)).2)) ((lvr s.lems ((zak s.lems (j:Int)).2)).q) rfl (Fq.use (x:=(lvr s.lems ((zak s.lems (j:Int)).2))) (by omega))) ?_));by_cases h2:lv s.lems (zak s.lems (j:Int)).2<=0
    .refine tq_ rfl (leT rfl (by rw[ziE];exact zih.2 h2)) (zl 2 rfl (is_ (zby s j) rfl (by simp[zby,hf1,h1,h2]) (zl 1 rfl ?_)));exact mx_ rfl
    .refine tq_ rfl (leF rfl (by rw[ziE];exact fun e=>h2 (zih.1 e))) (zl 2 rfl (is_ (zby s j) rfl (by simp[zby,hf1,h1,h2]) (zl 1 rfl ?_)));exact mx_ rfl
   .refine tq_ rfl (gtF rfl) (zl 8 rfl (is_ (zby s j) rfl (by simp[zby,hf1,h1]) (zl 1 rfl ?_)));exact mx_ rfl
  .refine zl 10 rfl (is_ (zby s j) rfl (by simp[zby,hf1]) (zl 1 rfl ?_));exact mx_ rfl
 .refine zao rfl (fun hof=>?_) (fun hof=>?_)
  .refine zc 15 rfl ?_;refine zao rfl (fun hd1=>?_) (fun hd1=>?_)
   .refine zc 7 rfl (nz_ [so 4 _,so 7 _,so 12 (D.ptr 2 0)] [_,_,hb_ 107 [Leaf.val (.int .i64 10),Leaf.val (.int .i64 (j:Int)),Leaf.val (.int .i64 0),Leaf.val (.int .i64 (((zak s.lems (j:Int)).2:Nat):Int))]] rfl rfl (zc 4 rfl (tc_ zgv rfl (zdS ⟨10,(j:Int),0,(((zak s.lems (j:Int)).2:Nat):Int)⟩ (qOf (((1:Int):Rat)))) ?_)));refine te_ rfl (zad rfl zcJ zbh zcZ rfl (by decide) (by decide) rfl (by decide) rfl) (zl 5 rfl ?_);exact r3_ hq_ rfl (by rw[zcq (ziK hof),zfj (by simpa using hd1)] <;> rfl)
   .refine zc 3 rfl (nz_ [so 4 _,so 7 _,so 12 (D.ptr 2 0)] [_,_,hb_ 107 [Leaf.val (.int .i64 10),Leaf.val (.int .i64 (j:Int)),Leaf.val (.int .i64 0),Leaf.val (.int .i64 0)]] rfl rfl (zc 4 rfl (tc_ zgv rfl (zdS ⟨10,(j:Int),0,0⟩ (qOf (((1:Int):Rat)))) (te_ rfl (zad rfl zcJ zbh zcZ rfl (by decide) (by decide) rfl (by decide) rfl) ?_))));refine zl 5 rfl ?_;exact r3_ hq_ rfl (by rw[zcq (ziK hof),zhQ (by simpa using hd1)] <;> rfl)
  .refine zc 4 rfl (nz_ [so 0 _,so 1 _,so 4 _,so 7 _,so 8 _,so 9 _,so 10 (D.bool (zeM s.path 1 (j:Int)))] [_,_] rfl rfl (zc 2 rfl ?_));by_cases hh:(zak s.lems (j:Int)).2=0
   .refine tq_ rfl (eqT rfl) (zl 11 rfl ?_);exact r3_ hq_ rfl (by rw[zfq (zoG hof hh)] <;> rfl)
   .refine tq_ rfl (eqF rfl) (zl 6 rfl ?_);obtain⟨z,hz,_,_,hlz,hz0,hzl⟩:=zbu hh;refine nz_ [so 0 _,so 1 _,so 4 _,so 7 _,so 8 _,so 9 _,so 10 _] [_,_] rfl rfl (zc 3 rfl (tc_ zp0 rfl (zgN s (by assumption) ((zak s.lems (j:Int)).2) (by omega) (by omega)) (zl 10 rfl ?_)));refine mt_ [so 0 (D.rep (zaT (vwL s))),so 1 (D.val (.int .i64 (j:Int))),so 4 (D.ptr 0 0),so 7 (D.ptr 1 0),so 8 (D.val (.int .i64 (((zak s.lems (j:Int)).1:Nat):Int))),so 9 (D.val (.int .i64 (((zak s.lems (j:Int)).2:Nat):Int))),so 10 (D.bool (zeM s.path 1 (j:Int))),so 13 (D.ptr 2 0),so 14 (D.ptr 3 0),so 77 (D.bool (zdH s j))] [hb_ 36 [Leaf.val (.bool false),zaf ([]),zaf ([])],hb_ 36 (qL ((1:Int):Rat)),hb_ 36 [Leaf.val (.bool (lvr s.lems ((zak s.lems (j:Int)).2)).neg),zaf (lvr s.lems ((zak s.lems (j:Int)).2)).n,zaf (lvr s.lems ((zak s.lems (j:Int)).2)).d],hb_ 107 [Leaf.val (.int .i64 12),Leaf.val (.int .i64 (j:Int)),Leaf.val (.int .i64 0),Leaf.val (.int .i64 (((zak s.lems (j:Int)).2:Nat):Int))]] ?_ ?_
    .refine nz_ [so 0 _,so 1 _,so 4 _,so 7 _,so 8 _,so 9 _,so 10 _,so 13 (D.ptr 2 0),so 14 (D.ptr 3 0)] [_,_,hb_ 36 [Leaf.val (.bool (lvr s.lems ((zak s.lems (j:Int)).2)).neg),zaf (lvr s.lems ((zak s.lems (j:Int)).2)).n,zaf (lvr s.lems ((zak s.lems (j:Int)).2)).d],hb_ 107 [Leaf.val (.int .i64 12),Leaf.val (.int .i64 (j:Int)),Leaf.val (.int .i64 0),Leaf.val (.int .i64 (((zak s.lems (j:Int)).2:Nat):Int))]] rfl rfl ?_;refine zc 3 rfl ?_;refine zdM rfl (fun hn1=>?_) (fun hn1=>?_)
     .refine zl 1 rfl ?_;by_cases h1:(zak s.lems (j:Int)).1≠0
      .refine tq_ rfl (gtT rfl) ?_;obtain⟨y,hy,_,_,hly,hy0,hyl⟩:=zbj h1;refine zl 3 rfl (tc_ zp0 rfl (zgN s (by assumption) ((zak s.lems (j:Int)).1) (by omega) (by omega)) (tc_ zjp rfl (zd5 (lvr s.lems ((zak s.lems (j:Int)).1)) ((lvr s.lems ((zak s.lems (j:Int)).1)).q) rfl (Fq.use (x:=(lvr s.lems ((zak s.lems (j:Int)).1))) (by omega))) ?_));by_cases h2:0<=lv s.lems (zak s.lems (j:Int)).1
       .refine tq_ rfl (geT rfl (by rw[ziE];exact zii.2 h2)) (zl 2 rfl (is_ (zdH s j) rfl (by simp[zdH,hn1,h1,h2]) (zl 1 rfl ?_)));exact mx_ rfl
       .refine tq_ rfl (geF rfl (by rw[ziE];exact fun e=>h2 (zii.1 e))) (zl 2 rfl (is_ (zdH s j) rfl (by simp[zdH,hn1,h1,h2]) (zl 1 rfl ?_)));exact mx_ rfl
      .refine tq_ rfl (gtF rfl) (zl 8 rfl (is_ (zdH s j) rfl (by simp[zdH,hn1,h1]) (zl 1 rfl ?_)));exact mx_ rfl
     .refine zl 10 rfl (is_ (zdH s j) rfl (by simp[zdH,hn1]) (zl 1 rfl ?_));exact mx_ rfl
    .refine zao rfl (fun hon=>?_) (fun hon=>?_)
     .refine zc 15 rfl ?_;refine zao rfl (fun hd1=>?_) (fun hd1=>?_)
      .refine zc 7 rfl ?_;refine nz_ [so 4 _,so 7 _,so 13 (D.ptr 2 0),so 14 (D.ptr 3 0),so 15 (D.ptr 4 0)] [_,_,hb_ 36 [Leaf.val (.bool (lvr s.lems ((zak s.lems (j:Int)).2)).neg),zaf (lvr s.lems ((zak s.lems (j:Int)).2)).n,zaf (lvr s.lems ((zak s.lems (j:Int)).2)).d],hb_ 107 [Leaf.val (.int .i64 12),Leaf.val (.int .i64 (j:Int)),Leaf.val (.int .i64 0),Leaf.val (.int .i64 (((zak s.lems (j:Int)).2:Nat):Int))],hb_ 107 [Leaf.val (.int .i64 8),Leaf.val (.int .i64 (j:Int)),Leaf.val (.int .i64 (((zak s.lems (j:Int)).1:Nat):Int)),Leaf.val (.int .i64 0)]] rfl rfl ?_;refine dr_ 0 [(8,0)] [0] (dz 3 rfl (kc_ zgv rfl (zdS ⟨8,(j:Int),(((zak s.lems (j:Int)).1:Nat):Int),0⟩ (qOf (((1:Int):Rat)))) (dz 2 rfl (kc_ zgv rfl (zdS ⟨12,(j:Int),0,(((zak s.lems (j:Int)).2:Nat):Int)⟩ (qOf (((1:Int):Rat)))) ?_))));refine ke_ rfl (fun _=>zad rfl zcJ zbh zcZ rfl (by decide) (by decide) rfl (by decide) rfl) (dz 3 rfl (zae (za 1 rfl ?_)));exact r3_ hq_ rfl (by rw[zcq (zkv hof hh hon),zgY (by simpa using hd1)] <;> rfl)
      .refine zc 3 rfl ?_;refine nz_ [so 4 _,so 7 _,so 13 (D.ptr 2 0),so 14 (D.ptr 3 0),so 15 (D.ptr 4 0)] [_,_,hb_ 36 [Leaf.val (.bool (lvr s.lems ((zak s.lems (j:Int)).2)).neg),zaf (lvr s.lems ((zak s.lems (j:Int)).2)).n,zaf (lvr s.lems ((zak s.lems (j:Int)).2)).d],hb_ 107 [Leaf.val (.int .i64 12),Leaf.val (.int .i64 (j:Int)),Leaf.val (.int .i64 0),Leaf.val (.int .i64 (((zak s.lems (j:Int)).2:Nat):Int))],hb_ 107 [Leaf.val (.int .i64 8),Leaf.val (.int .i64 (j:Int)),Leaf.val (.int .i64 0),Leaf.val (.int .i64 0)]] rfl rfl ?_;refine dr_ 0 [(8,0)] [0] (dz 3 rfl (kc_ zgv rfl (zdS ⟨8,(j:Int),0,0⟩ (qOf (((1:Int):Rat)))) (dz 2 rfl (kc_ zgv rfl (zdS ⟨12,(j:Int),0,(((zak s.lems (j:Int)).2:Nat):Int)⟩ (qOf (((1:Int):Rat)))) (ke_ rfl (fun _=>zad rfl zcJ zbh zcZ rfl (by decide) (by decide) rfl (by decide) rfl) (dz 3 rfl (zae ?_)))))));refine za 1 rfl ?_;exact r3_ hq_ rfl (by rw[zcq (zkv hof hh hon),zkp (by simpa using hd1)] <;> rfl)
     .refine zc 4 rfl ?_;refine nz_ [so 0 _,so 1 _,so 4 _,so 7 _,so 8 _,so 9 _,so 13 (D.ptr 2 0),so 14 (D.ptr 3 0)] [_,_,hb_ 36 [Leaf.val (.bool (lvr s.lems ((zak s.lems (j:Int)).2)).neg),zaf (lvr s.lems ((zak s.lems (j:Int)).2)).n,zaf (lvr s.lems ((zak s.lems (j:Int)).2)).d],hb_ 107 [Leaf.val (.int .i64 12),Leaf.val (.int .i64 (j:Int)),Leaf.val (.int .i64 0),Leaf.val (.int .i64 (((zak s.lems (j:Int)).2:Nat):Int))]] rfl rfl ?_;refine zc 2 rfl ?_;by_cases hl0:(zak s.lems (j:Int)).1=0
      .refine tq_ rfl (eqT rfl) (zl 11 rfl ?_);exact r3_ hq_ rfl (by rw[zfq (zoF hof hh hon hl0)] <;> rfl)
      .refine tq_ rfl (eqF rfl) (zl 6 rfl ?_);obtain⟨y,hy,_,_,hly,hy0,hyl⟩:=zbj hl0;have hne:=zv8 hof hh hon hl0;refine nz_ [so 0 _,so 1 _,so 4 _,so 7 _,so 8 _,so 9 _,so 13 _,so 14 _] [_,_,_,_] rfl rfl (dr_ 1 [(10,4),(11,4)] [4] (dz 4 rfl (kc_ zp0 rfl (zgN s (by assumption) ((zak s.lems (j:Int)).1) (by omega) (by omega)) ?_)));refine kc_ zu0 rfl (zEj (lvr s.lems ((zak s.lems (j:Int)).2)) ((lvr s.lems ((zak s.lems (j:Int)).2)).q) rfl (Fq.use (x:=(lvr s.lems ((zak s.lems (j:Int)).2))) (by omega)) (lvr s.lems ((zak s.lems (j:Int)).1)) ((lvr s.lems ((zak s.lems (j:Int)).1)).q) rfl (Fq.use (x:=(lvr s.lems ((zak s.lems (j:Int)).1))) (by omega))) ?_;refine kc_ zzm rfl (qdiv (qOf (((1:Int):Rat))) (((1:Int):Rat)) (zaj _) (Br.use (by omega)) (qOf (((lvr s.lems ((zak s.lems (j:Int)).2)).q)-((lvr s.lems ((zak s.lems (j:Int)).1)).q))) (((lvr s.lems ((zak s.lems (j:Int)).2)).q)-((lvr s.lems ((zak s.lems (j:Int)).1)).q)) (zaj _) (Br.use (by omega)) (by assumption)) (dz 6 rfl ?_);refine zae (za 2 rfl (nf_ [1] [so 1 _,so 4 _,so 8 _,so 9 _,so 13 _,so 14 _,so 16 (D.ptr 4 0)] [_,none,_,_,hb_ 36 (qL ((((1:Int):Rat))/(((lvr s.lems ((zak s.lems (j:Int)).2)).q)-((lvr s.lems ((zak s.lems (j:Int)).1)).q))))] rfl rfl rfl (dr_ 0 [(13,0)] [0] (dz 4 rfl ?_))));refine kc_ zmn rfl (zwq (lvr s.lems ((zak s.lems (j:Int)).2)) ((lvr s.lems ((zak s.lems (j:Int)).2)).q) rfl (Fq.use (x:=(lvr s.lems ((zak s.lems (j:Int)).2))) (by omega)) (qOf ((((1:Int):Rat))/(((lvr s.lems ((zak s.lems (j:Int)).2)).q)-((lvr s.lems ((zak s.lems (j:Int)).1)).q)))) ((((1:Int):Rat))/(((lvr s.lems ((zak s.lems (j:Int)).2)).q)-((lvr s.lems ((zak s.lems (j:Int)).1)).q))) (zaj _) (Br.use (by omega))) ?_;refine kc_ zgv rfl (zdS ⟨12,(j:Int),0,(((zak s.lems (j:Int)).2:Nat):Int)⟩ (qOf (((lvr s.lems ((zak s.lems (j:Int)).2)).q)*((((1:Int):Rat))/(((lvr s.lems ((zak s.lems (j:Int)).2)).q)-((lvr s.lems ((zak s.lems (j:Int)).1)).q)))))) (dz 5 rfl ?_);refine kc_ zgv rfl (zdS ⟨13,(j:Int),(((zak s.lems (j:Int)).1:Nat):Int),(((zak s.lems (j:Int)).2:Nat):Int)⟩ (qOf ((((1:Int):Rat))/(((lvr s.lems ((zak s.lems (j:Int)).2)).q)-((lvr s.lems ((zak s.lems (j:Int)).1)).q))))) ?_;refine ke_ rfl (fun _=>zad rfl zcJ zbh zcZ rfl (by decide) (by decide) rfl (by decide) rfl) (dz 3 rfl (zae (za 1 rfl ?_)));exact r3_ hq_ rfl (by rw[zcq (zmh hof hh hon hl0)] <;> rfl)
theorem zzG(s:Sc)(hs:SB 135001 s)(v:Nat)(hv:v<(s.q.g.inp+s.q.g.us.length))(up:Bool):Ctr Tryz.prog 132 [vwV s,V.one (Leaf.val (.int .i64 ((v:Int)))),V.one (Leaf.val (.bool up))] (R.tup [qV (zbN s v up).1,V.one (El.row muE (zbN s v up).2.1),V.one (Leaf.val (.bool (zbN s v up).2.2))]):=by
 refine bd_ Tryz.func132 Tryz.ntmps132 rfl (fun w0 A0=>?_);have hB:=hs.B;have hq:=hs.q;have hd:=hs.d;have hpl:=hs.pl;have hl:=hs.ll;have hg:=hq.g;have hr:=hq.r;have hlo:=hr.lo;have hhi:=hr.hi;have h1:=hg.i1;have h2:=hg.i3;have h3:=hg.u4;have h4:=hg.o1;have h5:=hg.o3;refine zc 8 rfl ?_;by_cases hvi:v<s.q.g.inp
 .refine zc 3 rfl (tq_ rfl (zbm rfl rfl) (tq_ rfl (jft rfl) (tq_ rfl (jft rfl) (tq_ rfl (jft rfl) (tq_ rfl (jfr rfl) (tq_ rfl (jli rfl) (tq_ rfl (zaN rfl rfl rfl (r:=((v:Int)-(s.q.g.inp:Int))) (w64 (by omega) (by omega) (by omega))) (zl 8 rfl (tq_ rfl (ltT rfl) ?_)))))))));refine zl 9 rfl (tc_ fn194 rfl (zyd s hs v hvi up) (zl 8 rfl ?_));exact r3_ hq_ rfl (by rw[ztb hvi])
 .refine zc 3 rfl (tq_ rfl (zbm rfl rfl) (tq_ rfl (jft rfl) (tq_ rfl (jft rfl) (tq_ rfl (jft rfl) (tq_ rfl (jfr rfl) (tq_ rfl (jli rfl) (tq_ rfl (jsb (v-s.q.g.inp) rfl) (zl 8 rfl (tq_ rfl (ltF rfl) ?_)))))))));refine zl 10 rfl ?_;refine zao rfl (fun hup=>?_) (fun hup=>?_)
  .refine zc 4 rfl (tc_ fn195 rfl (zBS s (by assumption) (v-s.q.g.inp) (by omega)) (zl 8 rfl ?_));exact r3_ hq_ rfl (by rw[hup,zs9 hvi])
  .refine zc 7 rfl (tc_ fn196 rfl (low_p s (by assumption) (v-s.q.g.inp) (by omega)) (zl 8 rfl ?_));exact r3_ hq_ rfl (by rw[hup,zta hvi])
set_option maxHeartbeats 2000000 in
theorem zzE(s:Sc)(hs:SB 135001 s)(f:Af){b:Nat}(hf:FOk b (s.q.g.inp+s.q.g.us.length) f)(hb:b<=600000000):Ctr Tryz.prog 58 [V.agg [],scV s,afV f] (R.tup [qV (qOf (zbM s f).1),V.one (El.row muE (zbM s f).2.1),V.one (Leaf.val (.bool (zbM s f).2.2))]):=by
 refine bd_ Tryz.func58 Tryz.ntmps58 rfl (fun w0 A0=>?_);have hB:=hs.B;have hq:=hs.q;have hd:=hs.d;have hpl:=hs.pl;have hl:=hs.ll;have hg:=hq.g;have hr:=hq.r;have hlo:=hr.lo;have hhi:=hr.hi;have h1:=hg.i1;have h2:=hg.i3;have h3:=hg.u4;have h4:=hg.o1;have h5:=hg.o3;have hfl:=hf.fl;haveI:=hfl.fm (by omega);haveI:=hfl.cb;have h7:=hfl.len7 hq;refine zc 13 rfl (tc_ fn131 rfl (zBK s hs) (zl 9 rfl (nf_ [0] [so 4 (D.ptr 1 0),so 5 (D.ptr 2 0),so 6 (D.ptr 3 0),so 9 (D.rep (zaT (vwL s))),so 10 (D.bool true)] [none,hb_ 43 (scL s),hb_ 38 (afL f),hb_ 36 [Leaf.val (.bool false),zaf ([]),zaf ([])]] rfl rfl rfl (dr_ 0 [] [] (dz 7 rfl (kc_ fn50 rfl (zsg s.q.g (by assumption)) ?_))))));refine kc_ zAy rfl (zjJ f hf (by omega) (s.q.g.inp+s.q.g.us.length) (zEt _) (by omega)) (dz 2 rfl (zae (za 5 rfl (nf_ [1] [so 5 _,so 6 _,so 9 _] [none,none,_,_] rfl rfl rfl (zc 9 rfl (tq_ rfl (zcg rfl (rfl)) (zl 4 rfl (zgK 12 109 7 rfl rfl (zc 3 rfl ?_)))))))));refine tq_ rfl (jln rfl) (zl 4 rfl (fr_ [2] rfl ?_));refine zbv (fun m Γ H=>∃(i:Nat) (n:Nat) (x:Rat) (out:List Mu),f.ts.length-i=m/\Γ=[(6,some (D.ptr 3 0)),(9,some (D.rep (zaT (vwL s)))),(11,some (D.ptr 4 0)),(12,some (D.v (V.one (Leaf.own 5 n)))),(41,some (D.v (V.one (El.row tmE f.ts)))),(42,some (D.val (.int .i64 ((f.ts.length:Nat):Int)))),(43,some (D.val (.int .i64 (i:Int))))]/\H=[none,none,none,hb_ 36 [Leaf.val (.bool false),zaf ([]),zaf ([])],hb_ 36 (qL x),hgr 109 7 muE out n]/\i<=f.ts.length/\zsX s f i=some (x,out)/\PlOk 135001 (b+1) i out) ⟨0,0,f.c,[],rfl,rfl,rfl,zEv _,rfl,PlOk.start⟩ rfl ?_;rintro m Γ H ⟨i,n,x,out,rfl,rfl,rfl,hi0,hR,hP⟩;refine zc 1 rfl (nz_ [so 6 (D.ptr 3 0),so 9 (D.rep (zaT (vwL s))),so 11 (D.ptr 4 0),so 12 (D.v (V.one (Leaf.own 5 n))),so 41 (D.v (V.one (El.row tmE f.ts))),so 42 (D.val (.int .i64 ((f.ts.length:Nat):Int))),so 43 (D.val (.int .i64 (i:Int)))] [none,none,none,hb_ 36 [Leaf.val (.bool false),zaf ([]),zaf ([])],hb_ 36 (qL x),hgr 109 7 muE out n] rfl rfl ?_);refine zc 1 rfl ?_;by_cases hi:i<f.ts.length
 .refine tq_ rfl (ltT rfl) (zl 9 rfl ?_);obtain⟨t,ht⟩:∃t,f.ts[i]?=some t:=⟨_,zEp hi⟩;have htm:=zEq ht;have htv:=hf.var t htm;haveI htb:Br t.2 (b+1):=(hf.bd t htm).br;have hxb:=(zmB hs hfl i (by omega) x _ (zkW hR)).br;have hmul:=zEA (135001+(b+1)+210) (show(f.ts.take i).length<=7 by rw[zEG];omega);haveI:Br x (b+1+7*(135001+(b+1)+210)):=hxb.mono (by omega);have hol:=hP.len;refine zc 1 rfl (tq_ rfl (jix i ht rfl) (tq_ rfl (jlr rfl) (zl 5 rfl (dr_ 1 [(12,7),(13,7)] [7] (dz 5 rfl (kc_ zjp rfl (zd5 (qOf (t.2)) (t.2) (zaj _) (Br.use (by omega))) (kq_ rfl (zmN rfl rfl rfl (b:=(decide (t.2<0))) (decide_eq_decide.2 zkb)) (kc_ fn132 rfl (zzG s hs t.1 htv (decide (t.2<0))) (dz 8 rfl ?_)))))))));refine zae (za 3 rfl ?_);refine nz_ [so 6 _,so 9 _,so 11 _,so 12 _,so 14 (D.ptr 6 0),so 15 (D.ptr 7 0),so 16 (D.v (V.one (El.row muE (((zbN s t.1 (decide (t.2<0)))).2.1)))),so 17 (D.bool (((zbN s t.1 (decide (t.2<0)))).2.2)),so 41 _,so 42 _,so 43 _] [none,none,none,_,_,_,hb_ 103 [Leaf.val (.int .i64 ((t.1:Nat):Int)),Leaf.val (.bool (zaQ t.2)),zaf (zaa (zaw t.2)),zaf (zaa (zaE t.2))],hb_ 36 [Leaf.val (.bool ((zbN s t.1 (decide (t.2<0)))).1.neg),zaf ((zbN s t.1 (decide (t.2<0)))).1.n,zaf ((zbN s t.1 (decide (t.2<0)))).1.d]] rfl rfl ?_;refine zc 5 rfl ?_;refine zao rfl (fun hok=>?_) (fun hok=>?_)
  .refine zc 8 rfl ?_;exact r3_ hq_ rfl (by rw[zsU ht hR (by simpa using hok)];show _=R.tup [qV (qOf 0),_,_];rw[<-zc8] <;> rfl)
  .refine zc 3 rfl ?_;have hok1:(zbN s t.1 (decide (t.2<0))).2.2=true:=by simpa using hok
   have hbk:=zs7 hs htv (zo8 hok1);haveI:=hbk.fq;have hst:=hbk.step;have hsl:=hst.len;refine dr_ 0 [(6,4)] [4] (kp_ [] rfl (zaI rfl rfl rfl (by decide) zmV (by decide) (zEw rfl) rfl) (dz 3 rfl (kc_ zmn rfl (zwq (qOf (t.2)) (t.2) (zaj _) (Br.use (by omega)) ((zbN s t.1 (decide (t.2<0)))).1 (((zbN s t.1 (decide (t.2<0)))).1.q) rfl (Fq.use (x:=((zbN s t.1 (decide (t.2<0)))).1) (by omega))) ?_)));refine kc_ zsr rfl (zBh (qOf (x)) (x) (zaj _) (Br.use (by omega)) (qOf ((t.2)*(((zbN s t.1 (decide (t.2<0)))).1.q))) ((t.2)*(((zbN s t.1 (decide (t.2<0)))).1.q)) (zaj _) (Br.use (by omega))) (dz 1 rfl (zae (za 2 rfl ?_)));refine nf_ [7] [so 6 _,so 9 _,so 11 _,so 12 _,so 14 _,so 16 _,so 41 _,so 42 _,so 43 _] [none,none,none,_,hb_ 36 (qL ((x)+((t.2)*(((zbN s t.1 (decide (t.2<0)))).1.q)))),_,_,none] rfl rfl rfl (dr_ 1 [(6,8),(7,8)] [8] (dz 4 rfl (kc_ zCE rfl (zBg (qOf (t.2)) (t.2) (zaj _) (Br.use (by omega))) ?_)));refine kc_ zDh rfl (qmax (qOf (t.2)) (t.2) (zaj _) (Br.use (by omega)) (qOf (-(t.2))) (-(t.2)) (zaj _) (Br.use (by omega))) (dz 2 rfl (zae (za 2 rfl (nf_ [6] [so 6 _,so 9 _,so 11 _,so 12 _,so 16 _,so 18 (D.ptr 8 0),so 41 _,so 42 _,so 43 _] [none,none,none,_,_,_,none,none,hb_ 36 (qL (mx (t.2) (-(t.2))))] rfl rfl rfl (zc 2 rfl (tq_ rfl (jln rfl) (zl 4 rfl ?_)))))));refine zbv (fun m Γ H=>∃(k:Nat) (n2:Nat) (out2:List Mu),(zbN s t.1 (decide (t.2<0))).2.1.length-k=m/\Γ=[(6,some (D.ptr 3 0)),(9,some (D.rep (zaT (vwL s)))),(11,some (D.ptr 4 0)),(12,some (D.v (V.one (Leaf.own 5 n2)))),(18,some (D.ptr 8 0)),(41,some (D.v (V.one (El.row tmE f.ts)))),(42,some (D.val (.int .i64 ((f.ts.length:Nat):Int)))),(43,some (D.val (.int .i64 (i:Int)))),(74,some (D.v (V.one (El.row muE (((zbN s t.1 (decide (t.2<0)))).2.1))))),(75,some (D.val (.int .i64 (((((zbN s t.1 (decide (t.2<0)))).2.1).length:Nat):Int)))),(76,some (D.val (.int .i64 (k:Int))))]/\H=[none,none,none,hb_ 36 [Leaf.val (.bool false),zaf ([]),zaf ([])],hb_ 36 (qL ((x)+((t.2)*(((zbN s t.1 (decide (t.2<0)))).1.q)))),hgr 109 7 muE out2 n2,none,none,hb_ 36 (qL (mx (t.2) (-(t.2))))]/\k<=(zbN s t.1 (decide (t.2<0))).2.1.length/\out2=out++zoc (zc6 t.2) ((zbN s t.1 (decide (t.2<0))).2.1.take k)) ⟨0,n,out,rfl,rfl,rfl,zEv _,by simp[zoc]⟩ rfl ?_;rintro m Γ H ⟨k,n2,out2,rfl,rfl,rfl,hk0,hout2⟩;refine zc 2 rfl ?_;by_cases hk:k<(zbN s t.1 (decide (t.2<0))).2.1.length
   .refine tq_ rfl (ltT rfl) (zl 9 rfl ?_);obtain⟨y,hy⟩:∃y,(zbN s t.1 (decide (t.2<0))).2.1[k]?=some y:=⟨_,zEp hk⟩;haveI hyb:=hst.bd y (zEq hy);have hol2:out2.length<=30:=by rw[hout2,zEF,zoc,List.length_map,zEG];omega
    refine zc 1 rfl (tq_ rfl (jix k hy rfl) (tq_ rfl (jlr rfl) (zl 4 rfl ?_)));refine nz_ [so 6 (D.ptr 3 0),so 9 (D.rep (zaT (vwL s))),so 11 (D.ptr 4 0),so 12 (D.v (V.one (Leaf.own 5 n2))),so 18 (D.ptr 8 0),so 20 (D.ptr 9 0),so 41 (D.v (V.one (El.row tmE f.ts))),so 42 (D.val (.int .i64 ((f.ts.length:Nat):Int))),so 43 (D.val (.int .i64 (i:Int))),so 74 (D.v (V.one (El.row muE (((zbN s t.1 (decide (t.2<0)))).2.1)))),so 75 (D.val (.int .i64 (((((zbN s t.1 (decide (t.2<0)))).2.1).length:Nat):Int))),so 76 (D.val (.int .i64 (k:Int)))] [none,none,none,hb_ 36 [Leaf.val (.bool false),zaf ([]),zaf ([])],hb_ 36 (qL ((x)+((t.2)*(((zbN s t.1 (decide (t.2<0)))).1.q)))),hgr 109 7 muE out2 n2,none,none,hb_ 36 (qL (mx (t.2) (-(t.2)))),hb_ 109 [Leaf.val (.int .i64 y.r.kind),Leaf.val (.int .i64 y.r.idx),Leaf.val (.int .i64 y.r.lo),Leaf.val (.int .i64 y.r.hi),Leaf.val (.bool y.c.neg),zaf y.c.n,zaf y.c.d]] rfl rfl ?_;refine dr_ 0 [(9,5)] [5] (dz 6 rfl (kc_ zmn rfl (zwq (qOf (mx (t.2) (-(t.2)))) (mx (t.2) (-(t.2))) (zaj _) (Br.use (by omega)) y.c (y.c.q) rfl (Fq.use (x:=y.c) (by omega))) (kc_ zgv rfl (zdS y.r (qOf ((mx (t.2) (-(t.2)))*(y.c.q)))) (ke_ rfl (fun _=>zad rfl zcJ zbh zcZ rfl (by decide) (by decide) rfl (by decide) rfl) ?_))));refine ki_ 5 rfl (dap (e:=muE) (⟨⟨y.r.kind,y.r.idx,y.r.lo,y.r.hi⟩,(qOf ((mx (t.2) (-(t.2)))*(y.c.q)))⟩) rfl rfl) (dz 1 rfl (zae (za 2 rfl ?_)));refine nf_ [9] [so 6 _,so 9 _,so 11 _,so 12 (D.v (V.one (Leaf.own 5 (n2+1)))),so 18 _,so 41 _,so 42 _,so 43 _,so 74 _,so 75 _,so 76 _] [none,none,none,_,_,hgr 109 7 muE (out2++[⟨⟨y.r.kind,y.r.idx,y.r.lo,y.r.hi⟩,(qOf ((mx (t.2) (-(t.2)))*(y.c.q)))⟩]) (n2+1),none,none,_,none] rfl rfl rfl (zc 1 rfl (tq_ rfl (jad (k+1) rfl) (zl 2 rfl (zaM 9 rfl ?_))));exact nx_ ⟨k+1,_,_,rfl,rfl,rfl,hk,(by rw[hout2,zES,zud hy])⟩ rfl
   .refine tq_ rfl (ltF rfl) (zl 10 rfl ?_);rw[show k=(zbN s t.1 (decide (t.2<0))).2.1.length by omega,zEM] at hout2;subst hout2;refine zc 1 rfl (tq_ rfl (jad (i+1) rfl) (zl 2 rfl (zal 8 (zaM 6 rfl ?_))));exact nx_ ⟨i+1,_,_,_,rfl,rfl,rfl,hi,zsV ht hR hok1,hP.next hst htb⟩ rfl
 .refine tq_ rfl (ltF rfl) (zl 10 rfl ?_);have hie:i=f.ts.length:=by omega
  rw[hie] at hR;have hc:=hP.cof;have hmb:=hP.mb;have hol:=hP.len;refine zc 1 rfl (tq_ rfl (ze8 (r:=5) (n:=n) (x:=V.one (Leaf.own 5 n)) (x':=V.one (El.row muE out)) (zk9 rfl rfl) (RowAt.ofE muE out rfl (by decide)) (by decide) (.inr ⟨rfl,rfl⟩)) (zk5 (te_ rfl (zia (i:=6) rfl fn55 rfl (znw out (by assumption) (by assumption) (by omega) (by omega)) (by decide) rfl) (zl 7 rfl ?_))));refine nz_ [so 6 _,so 11 _,so 12 (D.v (V.one (Leaf.own 6 0)))] [none,none,none,_,_,_,hgr 109 7 muE (zcy out) 0] rfl rfl (zc 8 rfl (zgI 7 (x':=V.one (El.row muE (zcy out))) rfl (RowAt.ofE muE (zcy out) rfl (by decide)) (.inr ⟨rfl,rfl⟩) ?_));exact r3_ hq_ rfl (by rw[zvn hR])
theorem zpC(f:Af){B n:Nat}(hcan:CanT f.ts)(hB:∀t∈f.ts,Br t.2 B)[Br f.c B](hBC:B<=300000000000)(hl:f.ts.length<=1000)(hvr:∀t∈f.ts,t.1<n)(hn:n<=1000):Ctr Tryz.prog 31 [afV f,V.one (Leaf.val (.int .i64 (4611686018427387904)))] (R.one (V.one (Leaf.val (.bool true)))):=by
 refine bd_ Tryz.func31 Tryz.ntmps31 rfl (fun w0 A0=>?_);refine zc 13 rfl (zbv (fun m Γ H=>∃(i:Nat),f.ts.length-i=m/\Γ=[(1,some (D.val (.int .i64 4611686018427387904))),(2,some (D.ptr 0 0)),(5,some (D.val (.int .i64 (i:Int))))]/\H=[hb_ 38 (afL f)]/\i<=f.ts.length) ⟨0,rfl,rfl,rfl,zEv _⟩ rfl ?_);rintro m Γ H ⟨i,rfl,rfl,rfl,hi0⟩;refine zc 6 rfl (tq_ rfl (jln rfl) ?_);by_cases hi:i<f.ts.length
 .refine tq_ rfl (ltT rfl) (zl 8 rfl ?_);obtain⟨x,hx⟩:∃x,f.ts[i]?=some x:=⟨_,zEp hi⟩;haveI hbx:=hB x (zEq hx);obtain⟨hn0,hgt,hlt⟩:=hcan.get hx;have hxv:=hvr x (zEq hx);refine zc 4 rfl (tq_ rfl (jix i hx rfl) (tq_ rfl (jlr rfl) (zl 5 rfl (dr_ 0 [] [] (dz 2 rfl (kq_ rfl (ltF rfl) (dz 4 rfl (kq_ rfl (geF rfl) (dz 3 rfl ?_)))))))));by_cases hi1:0<i
  .refine kq_ rfl (gtT rfl) (dz 4 rfl ?_);obtain⟨y,hy⟩:∃y,f.ts[i-1]?=some y:=⟨_,zEp (by omega)⟩;have hyx:=hcan.prev hi1 hx hy;refine kq_ rfl (jsb (i-1) rfl) (kq_ rfl (jix (i-1) hy rfl) (kq_ rfl (jfr rfl) (kq_ rfl (jli rfl) (dz 2 rfl (kq_ rfl (geF rfl) (dz 5 rfl (kc_ zg4 rfl (zbH (qOf (x.2)) (x.2) (zaj _) (Br.use (by omega))) (kq_ rfl (eqF rfl (zgR hn0)) (dz 4 rfl ?_)))))))));refine kc_ zsk rfl (zdt (qOf (x.2)) (x.2) (zaj _) (Br.use (by omega))) (zg2 true rfl (zde _) (dz 2 rfl (zae (za 7 rfl (tq_ rfl (jad (i+1) rfl) (zl 2 rfl (zal 1 (zaM 1 rfl ?_))))))));exact nx_ ⟨i+1,rfl,rfl,rfl,hi⟩ rfl
  .refine kq_ rfl (gtF rfl) (dz 16 rfl (kc_ zg4 rfl (zbH (qOf (x.2)) (x.2) (zaj _) (Br.use (by omega))) (kq_ rfl (eqF rfl (zgR hn0)) (dz 4 rfl (kc_ zsk rfl (zdt (qOf (x.2)) (x.2) (zaj _) (Br.use (by omega))) (zg2 true rfl (zde _) (dz 2 rfl (zae (za 7 rfl ?_)))))))));refine tq_ rfl (jad (i+1) rfl) (zl 2 rfl (zal 1 (zaM 1 rfl ?_)));exact nx_ ⟨i+1,rfl,rfl,rfl,hi⟩ rfl
 .refine tq_ rfl (ltF rfl) (zl 12 rfl (tc_ zsk rfl (zdt (qOf (f.c)) (f.c) (zaj _) (Br.use (by omega))) (is_ true rfl (zde _) (zl 3 rfl ?_))));exact r1_ hq_ rfl rfl
set_option maxHeartbeats 2000000 in
theorem zok(s:Sc)(hs:SOk s)(f:Af){B:Nat}(hf:FL B (s.q.g.inp+s.q.g.us.length) f)(hBf:B<=1000000)(l:List Mu)(hc:CanM l)(hm:MB 60000000 l)(hok:∀x∈l,(zaz s x.r).2=true)(hll2:l.length<=14)(h:(zbQ f (zeR s l)).ts=[]/\0<=(zbQ f (zeR s l)).c):Ctr Tryz.prog 165 [scV s,afV f,V.one (El.row muE l)] (R.one (V.one (Leaf.val (.bool true)))):=by
 refine bd_ Tryz.func165 Tryz.ntmps165 rfl (fun w0 A0=>?_);have hq:=hs.q;have hd:=hs.d;have hpl:=hs.pl;have hB:=hs.B;have hll:=hs.ll;have hg:=hq.g;have hr:=hq.r;have hlo:=hr.lo;have hhi:=hr.hi;have g1:=hg.i1;have g2:=hg.i3;have g3:=hg.u4;have g4:=hg.o1;have g5:=hg.o3;haveI:=hf.fm (by omega);haveI:=hf.cb;have hfl:=(hf.fm (n:=(s.q.g.inp+s.q.g.us.length)) (by omega)).len;have hsm:FL (14*(4*135001+200+60000000+42)) (s.q.g.inp+s.q.g.us.length) (zeR s l):=(zm1 hq hd hB hm).mono (zEA _ hll2) (zEt _);haveI:=hsm.fm (by omega);haveI:=hsm.cb;haveI:=((hf.sub hsm).cb);refine zc 11 rfl (tc_ fn22 rfl (zAS s hB (by omega) (by omega) hq hd (by omega) (by omega) l hc hm (by omega) hok (by omega)) (zl 10 rfl (nf_ [0] [so 4 (D.ptr 1 0),so 7 (D.ptr 2 0),so 8 (D.val (.int .i64 0))] [none,hb_ 38 (afL f),hb_ 38 (afL (zeR s l))] rfl rfl rfl (zc 5 rfl (tc_ zAz rfl (zpC f hf.can hf.bd (by omega) (by omega) hf.var (by omega)) (zl 11 rfl ?_))))));refine tc_ zqu rfl (zhx f (zeR s l) (by omega) (by omega) (by omega)) (zl 5 rfl (nf_ [1,2] [so 9 (D.ptr 3 0)] [none,none,none,hb_ 38 (afL (zbQ f (zeR s l)))] rfl rfl rfl (zc 3 rfl (tq_ rfl (jln rfl) (tq_ rfl (eqT rfl (by rw[h.1];rfl)) (zl 3 rfl (tc_ zg4 rfl (zbH (qOf ((zbQ f (zeR s l)).c)) ((zbQ f (zeR s l)).c) (zaj _) (Br.use (by omega))) ?_)))))));refine tq_ rfl (geT rfl (zii.2 h.2)) (zl 4 rfl ?_);exact r1_ hq_ rfl rfl
set_option maxHeartbeats 2000000 in
theorem zx6(s:Sc)(hs:SOk s)(m:Lm)(hm:DerL s m):Ctr Tryz.prog 97 [scV s,lmV m] (R.one (V.one (Leaf.val (.bool true)))):=by
 refine bd_ Tryz.func97 Tryz.ntmps97 rfl (fun w0 A0=>?_);have hq:=hs.q;have hd:=hs.d;have hpl:=hs.pl;have hB:=hs.B;have hll:=hs.ll;have hg:=hq.g;have hr:=hq.r;have hlo:=hr.lo;have hhi:=hr.hi;have g1:=hg.i1;have g2:=hg.i3;have g3:=hg.u4;have g4:=hg.o1;have g5:=hg.o3;have hu0:=hm.lok.u0;have hu1:=hm.lok.u;obtain⟨p,hp⟩:∃p,s.q.g.us[m.unit.toNat]?=some p:=⟨_,zEp hu1⟩;have hpo:=(zj5 hq hp).fl;haveI hvq:Br m.v.q 135001:=(hm.lok.hb.mono (zk7 (j:=m.unit.toNat) (by omega))).br;haveI hvF:Fq m.v 135001:=by rw[hm.lok.can];infer_instance
 have hfn:FL 135001 (s.q.g.inp+s.q.g.us.length) (fN m.v.q):=FL.n hvq;have hfs:=hpo.sub hfn;have hfc:=FL.sc (c:=((-1:Int):Rat)) hfs;haveI:=hpo.fm (by omega);haveI:=hpo.cb;haveI:=hfn.fm (by omega);haveI:=hfn.cb;haveI:=hfs.fm (by omega);haveI:=hfs.cb;haveI:=hfc.fm (by omega);haveI:=hfc.cb;refine zc 12 rfl (tc_ zwL rfl (zdQ s.q hq) (zl 4 rfl (tq_ rfl (ltF rfl) (zl 8 rfl (tq_ rfl (jln rfl) (tq_ rfl (geF rfl) (zl 4 rfl (tc_ zsk rfl (zdt m.v m.v.q rfl (Fq.use (x:=m.v) (by omega))) (is_ true rfl (zno.2 hm.lok.can) ?_)))))))));refine zl 8 rfl (nz_ [so 2 (D.ptr 0 0),so 3 (D.ptr 1 0)] [hb_ 43 (scL s),hb_ 105 [Leaf.val (.int .i64 m.unit),Leaf.val (.bool m.up),Leaf.val (.bool m.v.neg),zaf m.v.n,zaf m.v.d,El.row muE m.pf]] rfl rfl (dr_ 1 [(12,2),(13,2)] [2] (dz 6 rfl (kq_ rfl (jix m.unit.toNat hp rfl (by omega)) (kq_ rfl (jlr rfl) (dz 2 rfl (zjf (D.agg (qL m.v.q)) rfl (zsz hm.lok.can) ?_)))))));refine kc_ zwN rfl (zeV m.v.q) (kc_ zqu rfl (zhx p (fN m.v.q) (by omega) (by omega) (by omega)) (dz 2 rfl (zae (za 3 rfl (nz_ [so 2 _,so 3 _,so 5 (D.ptr 2 0)] [_,_,hb_ 38 (afL (zbQ p (fN m.v.q)))] rfl rfl (zc 5 rfl ?_))))));refine zao rfl (fun hup=>?_) (fun hup=>?_)
 .refine dr_ 0 [(3,2)] [2] (kp_ [] rfl (zaI rfl rfl rfl (by decide) zjz (by decide) (zEw rfl) rfl) (kc_ zmm rfl (zlL (-1) (by decide) (by decide)) (kc_ zpY rfl (zb9 (zbQ p (fN m.v.q)) ((-1:Int):Rat) (by omega) (by omega)) (dz 1 rfl (zae (za 7 rfl ?_))))));refine tc_ zC3 rfl (zok s hs (fSc (zbQ p (fN m.v.q)) ((-1:Int):Rat)) hfc (by omega) m.pf hm.can hm.bd hm.ok hm.len (by have h:=hm.sum p hp;unfold zx7 at h;rw[if_pos hup] at h;exact h)) (zl 3 rfl ?_);exact r1_ hq_ rfl rfl
 .refine zc 3 rfl (nz_ [so 2 _,so 3 _,so 5 _] [_,_,_] rfl rfl (zc 5 rfl (tc_ zC3 rfl (zok s hs (zbQ p (fN m.v.q)) hfs (by omega) m.pf hm.can hm.bd hm.ok hm.len (by have h:=hm.sum p hp;unfold zx7 at h;rw[if_neg (by rw[hup];decide)] at h;exact h)) (zl 3 rfl ?_))));exact r1_ hq_ rfl rfl
theorem zkF(q:Qu)(hq:QOk q)(d:Dc){b:Nat}(hd:DOk b q d)(hb:b<=1000000):Ctr Tryz.prog 96 [quV q,dcV d] (R.one (V.one (Leaf.val (.bool true)))):=by
 refine bd_ Tryz.func96 Tryz.ntmps96 rfl (fun w0 A0=>?_);refine zc 10 rfl (tc_ zwL rfl (zdQ q hq) (zl 3 rfl (tc_ zzk rfl (zst q d hd hb) (zl 4 rfl ?_))));exact r1_ hq_ rfl rfl
theorem zxA(s:Sc)(hs:SOk s)(hA:DerA s s.lems):Ctr Tryz.prog 42 [scV s] (R.one (V.one (Leaf.val (.bool true)))):=by
 refine bd_ Tryz.func42 Tryz.ntmps42 rfl (fun w0 A0=>?_);have hq:=hs.q;have hd:=hs.d;have hpl:=hs.pl;have hB:=hs.B;have hll:=hs.ll;have hg:=hq.g;have hr:=hq.r;have hlo:=hr.lo;have hhi:=hr.hi;have g1:=hg.i1;have g2:=hg.i3;have g3:=hg.u4;have g4:=hg.o1;have g5:=hg.o3;refine zc 11 rfl (tc_ zwL rfl (zdQ s.q hq) (zl 13 rfl (zbv (fun m Γ H=>∃(i:Nat),s.path.length-i=m/\Γ=[(1,some (D.ptr 0 0)),(3,some (D.val (.int .i64 (i:Int))))]/\H=[hb_ 43 (scL s)]/\i<=s.path.length) ⟨0,rfl,rfl,rfl,zEv _⟩ rfl ?_)));rintro m Γ H ⟨i,rfl,rfl,rfl,hi0⟩;refine zc 6 rfl (tq_ rfl (jln rfl) ?_);by_cases hi:i<s.path.length
 .refine tq_ rfl (ltT rfl) (zl 8 rfl ?_);obtain⟨d,hd_⟩:∃d,s.path[i]?=some d:=⟨_,zEp hi⟩;have hdo:=hs.d d (zEq hd_);refine nz_ [so 1 (D.ptr 0 0),so 3 (D.val (.int .i64 (i:Int)))] [hb_ 43 (scL s)] rfl rfl (dr_ 0 [] [] (dz 5 rfl (kq_ rfl (jix i hd_ rfl) (kq_ rfl (jlr rfl) (kc_ fn96 rfl (zkF s.q hq d hdo (by omega)) (dz 1 rfl (zae (za 5 rfl (nz_ [so 1 _,so 3 _] [_] rfl rfl ?_)))))))));refine zc 2 rfl (tq_ rfl (jad (i+1) rfl) (zl 2 rfl ?_));exact nx_ ⟨i+1,rfl,rfl,rfl,hi⟩ rfl
 .refine tq_ rfl (ltF rfl) (zl 15 rfl (zbv (fun m Γ H=>∃(j:Nat),s.lems.length-j=m/\Γ=[(1,some (D.ptr 0 0)),(4,some (D.val (.int .i64 (j:Int))))]/\H=[hb_ 43 (scL s)]/\j<=s.lems.length) ⟨0,rfl,rfl,rfl,zEv _⟩ rfl ?_));rintro m Γ H ⟨j,rfl,rfl,rfl,hj0⟩;refine zc 6 rfl (tq_ rfl (jln rfl) ?_);by_cases hj:j<s.lems.length
  .refine tq_ rfl (ltT rfl) (zl 8 rfl ?_);obtain⟨m,hm⟩:∃m,s.lems[j]?=some m:=⟨_,zEp hj⟩;have hdm:=hA j m hm;have hsb:SOk (withL s (s.lems.take j)):=LOk.withL hs (fun x hx=>hs.l x (List.mem_of_mem_take hx)) (by rw[zEG];omega);refine nz_ [so 1 (D.ptr 0 0),so 4 (D.val (.int .i64 (j:Int)))] [hb_ 43 (scL s)] rfl rfl (dr_ 1 [(9,1),(10,1)] [1] (dz 7 rfl (kq_ rfl (ze9 lmE s.lems (j) rfl rfl rfl zpv zhw rfl (by omega)) (dz 3 rfl (zae (za 2 rfl (nz_ [so 1 _,so 4 _,so 5 (D.ptr 1 0)] [_,hb_ 43 (quL s.q++[El.row dcE s.path,El.row lmE (s.lems.take (j))])] rfl rfl (dr_ 0 [] [] ?_))))))));refine dz 4 rfl (kq_ rfl (jix j hm rfl) (kq_ rfl (jlr rfl) (kc_ fn97 rfl (zx6 (withL s (s.lems.take j)) hsb m hdm) (dz 1 rfl (zae (za 5 rfl (nf_ [1] [so 1 _,so 4 _] [_,none] rfl rfl rfl (zc 2 rfl (tq_ rfl (jad (j+1) rfl) ?_)))))))));refine zl 2 rfl (zaM 1 rfl ?_);exact nx_ ⟨j+1,rfl,rfl,rfl,hj⟩ rfl
  .refine tq_ rfl (ltF rfl) (zl 13 rfl ?_);exact r1_ hq_ rfl rfl
set_option maxHeartbeats 2000000 in
theorem zxt(l:List Lm)(hl:l.length<=9223372036854775807)(hp:∀m∈l,m.pf.length<=9223372036854775807):Ctr Tryz.prog 12 [V.one (El.row lmE l)] (R.one (V.one (Leaf.val (.bool (zn8 l))))):=by
 refine bd_ Tryz.func12 Tryz.ntmps12 rfl (fun w0 A0=>?_);refine zc 12 rfl (zbv (fun m Γ H=>∃(i:Nat),l.length-i=m/\Γ=[(0,some (D.v (V.one (El.row lmE l)))),(3,some (D.val (.int .i64 (i:Int))))]/\H=[]/\i<=l.length/\(l.take i).all zeS=true) ⟨0,rfl,rfl,rfl,zEv _,rfl⟩ rfl ?_);rintro m Γ H ⟨i,rfl,rfl,rfl,hi0,hall⟩;refine zc 5 rfl (tq_ rfl (jln rfl) ?_);by_cases hi:i<l.length
 .refine tq_ rfl (ltT rfl) (zl 9 rfl ?_);obtain⟨x,hx⟩:∃x,l[i]?=some x:=⟨_,zEp hi⟩;have hpx:=hp x (zEq hx);refine zc 3 rfl (tq_ rfl (jix i hx rfl) (tq_ rfl (jft rfl) (tq_ rfl (jfr rfl) (tq_ rfl (jli rfl) (tq_ rfl (jln rfl) ?_)))));by_cases he1:4<x.v.n.length
  .refine tq_ rfl (gtT rfl) (zl 24 rfl (zl 3 rfl ?_));exact r1_ hq_ rfl (by rw[zf8 hx (zj6 (by omega))])
  .refine tq_ rfl (gtF rfl) (zl 1 rfl ?_);have hn1:x.v.n.length<=4:=by omega
   refine zl 2 rfl (tq_ rfl (jix i hx rfl) (tq_ rfl (jft rfl) (tq_ rfl (jfr rfl) (tq_ rfl (jli rfl) (tq_ rfl (jln rfl) ?_)))));by_cases he2:4<x.v.d.length
   .refine tq_ rfl (gtT rfl) (zl 18 rfl ?_);exact r1_ hq_ rfl (by rw[zf8 hx (zj6 (by omega))])
   .refine tq_ rfl (gtF rfl) (zl 2 rfl ?_);have hn2:x.v.d.length<=4:=by omega
    refine zl 2 rfl (tq_ rfl (jix i hx rfl) (tq_ rfl (jfr rfl) (tq_ rfl (jli rfl) (tq_ rfl (jln rfl) ?_))));by_cases he3:30<x.pf.length
    .refine tq_ rfl (gtT rfl) (zl 9 rfl ?_);exact r1_ hq_ rfl (by rw[zf8 hx (zj6 (by omega))])
    .refine tq_ rfl (gtF rfl) (zl 7 rfl ?_);have hn3:x.pf.length<=30:=by omega
     refine zc 5 rfl (zbv (fun m Γ H=>∃(j:Nat),x.pf.length-j=m/\Γ=[(0,some (D.v (V.one (El.row lmE l)))),(3,some (D.val (.int .i64 (i:Int)))),(4,some (D.val (.int .i64 (j:Int))))]/\H=[]/\j<=x.pf.length/\(x.pf.take j).all zf7=true) ⟨0,rfl,rfl,rfl,zEv _,rfl⟩ rfl ?_);rintro m Γ H ⟨j,rfl,rfl,rfl,hj0,hjall⟩;refine zc 6 rfl (tq_ rfl (jix i hx rfl) (tq_ rfl (jfr rfl) (tq_ rfl (jli rfl) (tq_ rfl (jln rfl) ?_))));by_cases hj:j<x.pf.length
     .refine tq_ rfl (ltT rfl) (zl 8 rfl ?_);obtain⟨y,hy⟩:∃y,x.pf[j]?=some y:=⟨_,zEp hj⟩;refine zc 3 rfl (tq_ rfl (jix i hx rfl) (tq_ rfl (jfr rfl) (tq_ rfl (jli rfl) (zl 1 rfl (tq_ rfl (jix j hy rfl) (tq_ rfl (jfr rfl) (tq_ rfl (jfr rfl) (tq_ rfl (jli rfl) (tq_ rfl (jln rfl) ?_)))))))));by_cases hd1:4<y.c.n.length
      .refine tq_ rfl (gtT rfl) (zl 22 rfl ?_);exact r1_ hq_ rfl (by rw[zf8 hx (zn7 hy (by omega))])
      .refine tq_ rfl (gtF rfl) (zl 1 rfl ?_);have hm1:y.c.n.length<=4:=by omega
       refine zl 2 rfl (tq_ rfl (jix i hx rfl) (tq_ rfl (jfr rfl) (tq_ rfl (jli rfl) (zl 1 rfl (tq_ rfl (jix j hy rfl) (tq_ rfl (jfr rfl) (tq_ rfl (jfr rfl) (tq_ rfl (jli rfl) (tq_ rfl (jln rfl) ?_)))))))));by_cases hd2:4<y.c.d.length
       .refine tq_ rfl (gtT rfl) (zl 9 rfl ?_);exact r1_ hq_ rfl (by rw[zf8 hx (zn7 hy (by omega))])
       .refine tq_ rfl (gtF rfl) (zl 7 rfl ?_);have hm2:y.c.d.length<=4:=by omega
        refine zc 2 rfl (tq_ rfl (jad (j+1) rfl) (zl 2 rfl ?_));exact nx_ ⟨j+1,rfl,rfl,rfl,hj,zpe hy hjall (by unfold zf7;rw[decide_eq_true hm1,decide_eq_true hm2];rfl)⟩ rfl
     .refine tq_ rfl (ltF rfl) (zl 9 rfl ?_);have hpall:x.pf.all zf7=true:=by rw[show j=x.pf.length by omega,zEM] at hjall;exact hjall
      refine zc 2 rfl (tq_ rfl (jad (i+1) rfl) (zl 2 rfl ?_));exact nx_ ⟨i+1,rfl,rfl,rfl,hi,zpe hx hall (zua ⟨hn1,hn2,hn3⟩ hpall)⟩ rfl
 .refine tq_ rfl (ltF rfl) (zl 9 rfl ?_);have hie:i=l.length:=by omega
  rw[hie,zEM] at hall;refine zc 2 rfl (tq_ rfl (jln rfl) (zl 4 rfl ?_));exact r1_ hq_ rfl (by unfold zn8;rw[hall,Bool.true_and,show decide (l.length<=20)=decide (((l.length:Nat):Int)<=20) from decide_eq_decide.2 (by omega)] <;> rfl)
theorem zl3(r:Rw):Ctr Tryz.prog 216 [rwV r] (R.one (V.one (El.row muE (zko r)))):=by
 refine bd_ Tryz.func216 Tryz.ntmps216 rfl (fun w0 A0=>?_);refine zc 7 rfl (dr_ 0 [] [] (dz 1 rfl (kc_ zmm rfl (zlL 1 (by decide) (by decide)) (dz 1 rfl (ke_ rfl (fun _=>zad rfl zcJ zbh zcZ rfl (by decide) (by decide) rfl (by decide) rfl) (dz 1 rfl (zae (za 1 rfl ?_))))))));exact r1_ hq_ rfl rfl
theorem zBl(r:Rw):Ctr Tryz.prog 216 [rwV r] (R.one (V.one (Leaf.rep (zeb 1 (muE.all (zko r)))))):=by
 refine bd_ Tryz.func216 Tryz.ntmps216 rfl (fun w0 A0=>?_);refine zc 7 rfl (dr_ 0 [] [] (dz 1 rfl (kc_ zmm rfl (zlL 1 (by decide) (by decide)) (dz 1 rfl (ke_ rfl (fun _=>zmT rfl zcJ zbh zcZ rfl (by decide) (by decide) rfl (by decide) rfl) (dz 1 rfl (zae (za 1 rfl ?_))))))));exact r1_ hq_ rfl rfl
theorem zDB(s:Sc)(hs:SB 135001 s)(k:Nat)(j:Int):Ctr Tryz.prog 190 [scV s,V.one (Leaf.val (.int .i64 ((k:Int)))),V.one (Leaf.val (.int .i64 (j)))] (R.one (V.one (Leaf.val (.bool (zeM s.path k j))))):=by
 refine bd_ Tryz.func190 Tryz.ntmps190 rfl (fun w0 A0=>?_);have hB:=hs.B;have hq:=hs.q;have hd:=hs.d;have hpl:=hs.pl;have hl:=hs.ll;have hg:=hq.g;have hr:=hq.r;have hlo:=hr.lo;have hhi:=hr.hi;have h1:=hg.i1;have h2:=hg.i3;have h3:=hg.u4;have h4:=hg.o1;have h5:=hg.o3;refine zc 13 rfl (zbv (fun m Γ H=>∃(i:Nat),s.path.length-i=m/\Γ=[(1,some (D.val (.int .i64 (k:Int)))),(2,some (D.val (.int .i64 j))),(3,some (D.ptr 0 0)),(7,some (D.val (.int .i64 (i:Int))))]/\H=[hb_ 43 (scL s)]/\i<=s.path.length/\zu7 s.path k j i=false) ⟨0,rfl,rfl,rfl,zEv _,rfl⟩ rfl ?_);rintro m Γ H ⟨i,rfl,rfl,rfl,hi0,hno⟩;refine zc 6 rfl (tq_ rfl (jln rfl) ?_);by_cases hi:i<s.path.length
 .refine tq_ rfl (ltT rfl) (zl 8 rfl ?_);obtain⟨x,hx⟩:∃x,s.path[i]?=some x:=⟨_,zEp hi⟩;have hxd:=hd x (zEq hx);refine dr_ 0 [] [] (dz 3 rfl (kq_ rfl (jix i hx rfl) (kq_ rfl (jfr rfl) (kq_ rfl (jli rfl) (dz 3 rfl ?_)))));refine zqt rfl (fun hk1=>?_) (fun hk1=>?_)
  .refine dz 19 rfl (zae (za 7 rfl (tq_ rfl (jad (i+1) rfl) (zl 2 rfl ?_))));exact nx_ ⟨i+1,rfl,rfl,rfl,hi,by rw[zc2 hx,hno,hk1];rfl⟩ rfl
  .refine dz 3 rfl (kq_ rfl (jix i hx rfl) (kq_ rfl (jfr rfl) (kq_ rfl (jli rfl) (dz 4 rfl ?_))));refine zqt rfl (fun hk2=>?_) (fun hk2=>?_)
   .refine dz 9 rfl (zae (za 7 rfl (tq_ rfl (jad (i+1) rfl) (zl 2 rfl ?_))));exact nx_ ⟨i+1,rfl,rfl,rfl,hi,by rw[zc2 hx,hno,hk1,hk2];rfl⟩ rfl
   .refine dz 5 rfl (kq_ rfl (jix i hx rfl) (kq_ rfl (jlr rfl) (kc_ fn96 rfl (zkF s.q hq x hxd (by omega)) (dz 1 rfl (zae (za 7 rfl ?_))))));exact r1_ hq_ rfl (by rw[zoU hx hk1 hk2])
 .refine tq_ rfl (ltF rfl) (zl 13 rfl ?_);exact r1_ hq_ rfl (by rw[<-zh1,<-show i=s.path.length by omega,hno])
theorem zBn(s:Sc)(hs:SB 135001 s)(j:Nat)(hj:j<s.q.g.us.length):Ctr Tryz.prog 126 [scV s,V.one (Leaf.val (.int .i64 ((j:Int))))] (R.tup [rwV (zct s j),V.one (Leaf.val (.bool (zby s j)))]):=by
 refine bd_ Tryz.func126 Tryz.ntmps126 rfl (fun w0 A0=>?_);have hB:=hs.B;have hq:=hs.q;have hd:=hs.d;have hpl:=hs.pl;have hl:=hs.ll;have hg:=hq.g;have hr:=hq.r;have hlo:=hr.lo;have hhi:=hr.hi;have h1:=hg.i1;have h2:=hg.i3;have h3:=hg.u4;have h4:=hg.o1;have h5:=hg.o3;refine zc 11 rfl (tc_ zwM rfl (zhq s (by assumption) (by omega) (by omega) (j:Int)) (zl 12 rfl (tc_ zCY rfl (zDB s (by assumption) 2 (j:Int)) (zl 2 rfl ?_))));refine zao rfl (fun hd1=>?_) (fun hd1=>?_)
 .refine zc 8 rfl ?_;exact r2_ hq_ rfl (by rw[zhQ hd1,show zby s j=true from by simp[zby,hd1]])
 .refine zc 8 rfl ?_;by_cases h1:(zak s.lems (j:Int)).2≠0
  .refine tq_ rfl (gtT rfl) (zl 1 rfl ?_);obtain⟨z,hz,_,_,hlz,hz0,hzl⟩:=zbu h1;haveI:=hB z (zEq hz);refine zl 3 rfl (tq_ rfl (jsb (((zak s.lems (j:Int)).2)-1) rfl) (tq_ rfl (jix ((zak s.lems (j:Int)).2-1) hz rfl) (tq_ rfl (jft rfl) (tq_ rfl (jlr rfl) (tc_ zg4 rfl (zbH z.v (z.v.q) rfl (Fq.use (x:=z.v) (by omega))) ?_)))));by_cases h2:z.v.q<=0
   .refine tq_ rfl (leT rfl (zih.2 h2)) (zl 5 rfl ?_);exact r2_ hq_ rfl (by rw[zfj hd1,show zby s j=true from by simp[zby,hd1,h1,hlz,h2]])
   .refine tq_ rfl (leF rfl (fun e=>h2 (zih.1 e))) (zl 5 rfl ?_);exact r2_ hq_ rfl (by rw[zfj hd1,show zby s j=false from by simp[zby,hd1,h1,hlz,h2]])
  .refine tq_ rfl (gtF rfl) (zl 15 rfl ?_);exact r2_ hq_ rfl (by rw[zfj hd1,show zby s j=false from by simp[zby,hd1,h1]])
theorem on_r(s:Sc)(hs:SB 135001 s)(j:Nat)(hj:j<s.q.g.us.length):Ctr Tryz.prog 125 [scV s,V.one (Leaf.val (.int .i64 ((j:Int))))] (R.tup [rwV (zdi s j),V.one (Leaf.val (.bool (zdH s j)))]):=by
 refine bd_ Tryz.func125 Tryz.ntmps125 rfl (fun w0 A0=>?_);have hB:=hs.B;have hq:=hs.q;have hd:=hs.d;have hpl:=hs.pl;have hl:=hs.ll;have hg:=hq.g;have hr:=hq.r;have hlo:=hr.lo;have hhi:=hr.hi;have h1:=hg.i1;have h2:=hg.i3;have h3:=hg.u4;have h4:=hg.o1;have h5:=hg.o3;refine zc 11 rfl (tc_ zwM rfl (zhq s (by assumption) (by omega) (by omega) (j:Int)) (zl 12 rfl (tc_ zCY rfl (zDB s (by assumption) 1 (j:Int)) (zl 2 rfl ?_))));refine zao rfl (fun hd1=>?_) (fun hd1=>?_)
 .refine zc 8 rfl ?_;exact r2_ hq_ rfl (by rw[zkp hd1,show zdH s j=true from by simp[zdH,hd1]])
 .refine zc 8 rfl ?_;by_cases h1:(zak s.lems (j:Int)).1≠0
  .refine tq_ rfl (gtT rfl) (zl 1 rfl ?_);obtain⟨y,hy,_,_,hly,hy0,hyl⟩:=zbj h1;haveI:=hB y (zEq hy);refine zl 3 rfl (tq_ rfl (jsb (((zak s.lems (j:Int)).1)-1) rfl) (tq_ rfl (jix ((zak s.lems (j:Int)).1-1) hy rfl) (tq_ rfl (jft rfl) (tq_ rfl (jlr rfl) (tc_ zg4 rfl (zbH y.v (y.v.q) rfl (Fq.use (x:=y.v) (by omega))) ?_)))));by_cases h2:0<=y.v.q
   .refine tq_ rfl (geT rfl (zii.2 h2)) (zl 5 rfl ?_);exact r2_ hq_ rfl (by rw[zgY hd1,show zdH s j=true from by simp[zdH,hd1,h1,hly,h2]])
   .refine tq_ rfl (geF rfl (fun e=>h2 (zii.1 e))) (zl 5 rfl ?_);exact r2_ hq_ rfl (by rw[zgY hd1,show zdH s j=false from by simp[zdH,hd1,h1,hly,h2]])
  .refine tq_ rfl (gtF rfl) (zl 15 rfl ?_);exact r2_ hq_ rfl (by rw[zgY hd1,show zdH s j=false from by simp[zdH,hd1,h1]])
theorem zx9(s:Sc)(hs:SB 135001 s)(j:Nat)(hj:j<s.q.g.us.length):Ctr Tryz.prog 164 [scV s,V.one (Leaf.val (.int .i64 ((j:Int))))] (R.one (bdV (zmb s j).1.q (zmb s j).2 true)):=by
 refine bd_ Tryz.func164 Tryz.ntmps164 rfl (fun w0 A0=>?_);have hB:=hs.B;have hq:=hs.q;have hd:=hs.d;have hpl:=hs.pl;have hl:=hs.ll;have hg:=hq.g;have hr:=hq.r;have hlo:=hr.lo;have hhi:=hr.hi;have h1:=hg.i1;have h2:=hg.i3;have h3:=hg.u4;have h4:=hg.o1;have h5:=hg.o3;refine zc 10 rfl (tc_ zwM rfl (zhq s (by assumption) (by omega) (by omega) (j:Int)) (zl 9 rfl ?_));refine nz_ [so 1 (D.val (.int .i64 (j:Int))),so 2 (D.ptr 0 0),so 4 (D.ptr 1 0),so 5 (D.val (.int .i64 (((zak s.lems (j:Int)).1:Nat):Int)))] [hb_ 43 (scL s),hb_ 150 [Leaf.val (.bool false),zaf ([]),zaf ([]),El.row muE ([]),Leaf.val (.bool false)]] rfl rfl (zc 2 rfl ?_);by_cases h1:(zak s.lems (j:Int)).1=0
 .refine tq_ rfl (eqT rfl) (zl 15 rfl (nf_ [0] [so 1 _,so 4 _] [none,_] rfl rfl rfl (zc 2 rfl (eq_ (D.agg (qL 0)) rfl (zBe) (zl 2 rfl (tc_ zjr rfl (zl3 ⟨5,(j:Int),0,0⟩) (zl 4 rfl ?_)))))));exact r1_ hq_ rfl (by rw[zox (fun e=>e.1 h1)];show R.one (bdV 0 _ _)=R.one (bdV qZero.q _ _);rw[zcs])
 .refine tq_ rfl (eqF rfl) (zl 1 rfl ?_);obtain⟨y,hy,_,_,hly,hy0,hyl⟩:=zbj h1;haveI:=hB y (zEq hy);refine zl 3 rfl (tq_ rfl (jsb (((zak s.lems (j:Int)).1)-1) rfl) (tq_ rfl (jix ((zak s.lems (j:Int)).1-1) hy rfl) (tq_ rfl (jft rfl) (tq_ rfl (jlr rfl) (tc_ zg4 rfl (zbH y.v (y.v.q) rfl (Fq.use (x:=y.v) (by omega))) ?_)))));by_cases h2:y.v.q<=0
  .refine tq_ rfl (leT rfl (zih.2 h2)) (zl 5 rfl (nf_ [0] [so 1 _,so 4 _] [none,_] rfl rfl rfl (zc 2 rfl (eq_ (D.agg (qL 0)) rfl (zBe) (zl 2 rfl (tc_ zjr rfl (zl3 ⟨5,(j:Int),0,0⟩) (zl 4 rfl ?_)))))));exact r1_ hq_ rfl (by rw[zox (fun e=>by rw[hly] at e;grind)];show R.one (bdV 0 _ _)=R.one (bdV qZero.q _ _);rw[zcs])
  .refine tq_ rfl (leF rfl (fun e=>h2 (zih.1 e))) (zl 7 rfl (nz_ [so 1 _,so 2 _,so 4 _,so 5 _] [_,_] rfl rfl (zc 3 rfl (tc_ zjr rfl (zBl ⟨6,(j:Int),0,0⟩) (zl 3 rfl (tc_ zjr rfl (zl3 ⟨11,(j:Int),((zak s.lems (j:Int)).1:Int),0⟩) ?_))))));obtain⟨ti3,hi3,hz3,hs3,hb3⟩:=zuK;refine te_ rfl (zdm rfl rfl rfl rfl rfl (by decide) Nat.zero_lt_one zcJ zcJ hi3 hz3 hs3 rfl (by show 1+1<=maxLen;decide) (by show(1+1)*_<=_;rw[hb3];omega) (nm:=2) rfl (ls:=(muE.all [⟨⟨6,(j:Int),0,0⟩,qOf ((1:Int):Rat)⟩,⟨⟨11,(j:Int),((zak s.lems (j:Int)).1:Int),0⟩,qOf ((1:Int):Rat)⟩])) rfl _) (zl 8 rfl ?_);refine tq_ rfl (jsb (((zak s.lems (j:Int)).1)-1) rfl) (tq_ rfl (jix ((zak s.lems (j:Int)).1-1) hy rfl) (tq_ rfl (jft rfl) (tq_ rfl (jlr rfl) (tc_ zmW rfl (zca y.v (y.v.q) rfl (Fq.use (x:=y.v) (by omega))) (zl 5 rfl ?_)))));exact r1_ hq_ rfl (by rw[zwB ⟨h1,by rw[hly];grind⟩,zcv hy] <;> rfl)
set_option maxHeartbeats 2000000 in
theorem zBE(s:Sc)(hs:SB 135001 s)(j:Nat)(hj:j<s.q.g.us.length):Ctr Tryz.prog 163 [scV s,V.one (Leaf.val (.int .i64 ((j:Int))))] (R.one (bdV (zhB s j).1.q (zhB s j).2.1 (zhB s j).2.2)):=by
 refine bd_ Tryz.func163 Tryz.ntmps163 rfl (fun w0 A0=>?_);have hB:=hs.B;have hq:=hs.q;have hd:=hs.d;have hpl:=hs.pl;have hl:=hs.ll;have hg:=hq.g;have hr:=hq.r;have hlo:=hr.lo;have hhi:=hr.hi;have h1:=hg.i1;have h2:=hg.i3;have h3:=hg.u4;have h4:=hg.o1;have h5:=hg.o3;refine zc 10 rfl (tc_ zDd rfl (zBn s (by assumption) j (by omega)) (zl 10 rfl (nz_ [so 1 _,so 2 _,so 4 _,so 5 (D.ptr 2 0),so 6 (D.bool (zby s j))] [_,_,hb_ 107 [Leaf.val (.int .i64 ((zct s j).kind)),Leaf.val (.int .i64 ((zct s j).idx)),Leaf.val (.int .i64 ((zct s j).lo)),Leaf.val (.int .i64 ((zct s j).hi))]] rfl rfl (zc 4 rfl ?_))));refine zao rfl (fun hof=>?_) (fun hof=>?_)
 .refine zc 3 rfl (eq_ (D.agg (qL 0)) rfl (zBe) (zl 1 rfl (tc_ zjr rfl (zl3 (zct s j)) (zl 4 rfl ?_))));exact r1_ hq_ rfl (by rw[zcq (ziK hof)];show R.one (bdV 0 _ _)=R.one (bdV qZero.q _ _);rw[zcs])
 .refine zc 6 rfl (tc_ zwM rfl (zhq s (by assumption) (by omega) (by omega) (j:Int)) (zl 8 rfl (nz_ [so 1 _,so 2 _,so 4 _,so 5 _,so 7 (D.val (.int .i64 (((zak s.lems (j:Int)).1:Nat):Int))),so 8 (D.val (.int .i64 (((zak s.lems (j:Int)).2:Nat):Int)))] [_,_,_] rfl rfl (zc 3 rfl (tc_ zDe rfl (on_r s (by assumption) j (by omega)) ?_)))));refine zl 9 rfl (nz_ [so 1 _,so 2 _,so 4 _,so 5 _,so 7 _,so 8 _,so 9 (D.bool (zdH s j))] [_,_,hb_ 107 [Leaf.val (.int .i64 ((zdi s j).kind)),Leaf.val (.int .i64 ((zdi s j).idx)),Leaf.val (.int .i64 ((zdi s j).lo)),Leaf.val (.int .i64 ((zdi s j).hi))]] rfl rfl (zc 2 rfl ?_));by_cases hh:(zak s.lems (j:Int)).2=0
  .refine tq_ rfl (eqT rfl) (zl 12 rfl (nf_ [0,2] [so 4 _] [none,_,none] rfl rfl rfl (zc 2 rfl (eq_ (D.agg (bdL 0 [] false)) rfl (bdZ) (zl 3 rfl ?_)))));exact r1_ hq_ rfl (by rw[zfq (zoG hof hh)];show R.one (bdV 0 _ _)=R.one (bdV qZero.q _ _);rw[zcs])
  .refine tq_ rfl (eqF rfl) ?_;obtain⟨z,hz,_,_,hlz,hz0,hzl⟩:=zbu hh;haveI:=hB z (zEq hz);refine zl 4 rfl ?_;refine zdM rfl (fun hon=>?_) (fun hon=>?_)
   .have hon1:zdH s j=true:=by simpa using hon
    refine zl 10 rfl (nz_ [so 1 _,so 2 _,so 4 _,so 5 _,so 7 _,so 8 _,so 9 _] [_,_,_] rfl rfl (zc 4 rfl (tq_ rfl (jsb (((zak s.lems (j:Int)).2)-1) rfl) (tq_ rfl (jix ((zak s.lems (j:Int)).2-1) hz rfl) (tq_ rfl (jft rfl) (tq_ rfl (jlr rfl) (zl 5 rfl ?_)))))));refine nz_ [so 1 _,so 2 _,so 4 _,so 5 _,so 7 _,so 8 _,so 9 _,so 10 (D.ptr 3 0)] [_,_,_,hb_ 36 [Leaf.val (.bool z.v.neg),zaf z.v.n,zaf z.v.d]] rfl rfl (zc 14 rfl ?_);refine zao rfl (fun hon2=>?_) (fun hon2=>?_)
    .refine zc 1 rfl (dr_ 0 [(8,1)] [1] (dz 1 rfl (kc_ zmW rfl (zca z.v (z.v.q) rfl (Fq.use (x:=z.v) (by omega))) (dz 1 rfl (kc_ zjr rfl (zBl (zdi s j)) (dz 1 rfl (kc_ zjr rfl (zl3 ⟨12,(j:Int),0,((zak s.lems (j:Int)).2:Int)⟩) ?_)))))));obtain⟨ti2,hi2,hz2,hs2,hb2⟩:=zuK;refine ke_ rfl (fun _=>zdm rfl rfl rfl rfl rfl (by decide) Nat.zero_lt_one zcJ zcJ hi2 hz2 hs2 rfl (by show 1+1<=maxLen;decide) (by show(1+1)*_<=_;rw[hb2];omega) (nm:=2) rfl (ls:=(muE.all [⟨(zdi s j),qOf ((1:Int):Rat)⟩,⟨⟨12,(j:Int),0,((zak s.lems (j:Int)).2:Int)⟩,qOf ((1:Int):Rat)⟩])) rfl _) (dz 2 rfl (zae (za 1 rfl ?_)));exact r1_ hq_ rfl (by rw[zcq (zkv hof hh hon1),zcv hz] <;> rfl)
    .rw[hon1] at hon2;cases hon2
   .have hnon:zdH s j=false:=by simpa using hon
    refine zl 1 rfl ?_;by_cases hl0:(zak s.lems (j:Int)).1=0
    .refine tq_ rfl (eqT rfl) (zl 6 rfl (nf_ [0,2] [so 4 _] [none,_,none] rfl rfl rfl (zc 2 rfl (eq_ (D.agg (bdL 0 [] false)) rfl (bdZ) (zl 3 rfl ?_)))));exact r1_ hq_ rfl (by rw[zfq (zoF hof hh hnon hl0)];show R.one (bdV 0 _ _)=R.one (bdV qZero.q _ _);rw[zcs])
    .refine tq_ rfl (eqF rfl) (zl 12 rfl (tq_ rfl (jsb (((zak s.lems (j:Int)).2)-1) rfl) (tq_ rfl (jix ((zak s.lems (j:Int)).2-1) hz rfl) (tq_ rfl (jft rfl) (tq_ rfl (jlr rfl) (zl 5 rfl (nz_ [so 1 _,so 2 _,so 4 _,so 5 _,so 7 _,so 8 _,so 9 _,so 10 (D.ptr 3 0)] [_,_,_,hb_ 36 [Leaf.val (.bool z.v.neg),zaf z.v.n,zaf z.v.d]] rfl rfl (zc 14 rfl ?_))))))));refine zao rfl (fun hon2=>?_) (fun hon2=>?_)
     .rw[hnon] at hon2;cases hon2
     .refine zc 3 rfl ?_;obtain⟨y,hy,_,_,hly,hy0,hyl⟩:=zbj hl0;haveI:=hB y (zEq hy);have hne:z.v.q-y.v.q≠0:=by have:=zv8 hof hh hnon hl0;rwa [zcv hz,zcv hy] at this
      refine dr_ 1 [(14,5),(15,5)] [5] (kc_ zmm rfl (zlL 1 (by decide) (by decide)) (dz 4 rfl (kq_ rfl (jsb (((zak s.lems (j:Int)).1)-1) rfl) (kq_ rfl (jix ((zak s.lems (j:Int)).1-1) hy rfl) (kq_ rfl (jft rfl) (kq_ rfl (jlr rfl) (kc_ zzf rfl (zm9 z.v (z.v.q) rfl (Fq.use (x:=z.v) (by omega)) y.v (y.v.q) rfl (Fq.use (x:=y.v) (by omega))) ?_)))))));refine kc_ zuZ rfl (zul (qOf (((1:Int):Rat))) (((1:Int):Rat)) (zaj _) (Br.use (by omega)) (qOf ((z.v.q)-(y.v.q))) ((z.v.q)-(y.v.q)) (zaj _) (Br.use (by omega)) (by assumption)) (dz 6 rfl (zae (za 2 rfl ?_)));refine nf_ [0,2] [so 1 _,so 4 _,so 7 _,so 8 _,so 10 _,so 11 (D.ptr 4 0),so 12 (D.ptr 5 0)] [none,_,none,_,hb_ 107 [Leaf.val (.int .i64 12),Leaf.val (.int .i64 (j:Int)),Leaf.val (.int .i64 0),Leaf.val (.int .i64 (((zak s.lems (j:Int)).2:Nat):Int))],hb_ 36 (qL ((((1:Int):Rat))/((z.v.q)-(y.v.q))))] rfl rfl rfl (zc 10 rfl ?_);refine dr_ 0 [(12,1)] [1] (dz 1 rfl (kc_ zmW rfl (zca z.v (z.v.q) rfl (Fq.use (x:=z.v) (by omega))) (dz 3 rfl (kc_ zwK rfl (zlM (qOf ((((1:Int):Rat))/((z.v.q)-(y.v.q)))) ((((1:Int):Rat))/((z.v.q)-(y.v.q))) (zaj _) (Br.use (by omega)) z.v (z.v.q) rfl (Fq.use (x:=z.v) (by omega))) (dz 4 rfl ?_)))));refine ke_ rfl (fun _=>zad rfl zcJ zbh zcZ rfl (by decide) (by decide) rfl (by decide) rfl) (dz 2 rfl (zae (za 1 rfl ?_)));exact r1_ hq_ rfl (by rw[zcq (zmh hof hh hnon hl0),zcv hz,zcv hy,Rat.mul_comm] <;> rfl)
theorem zBP(s:Sc)(hs:SB 135001 s)(i:Nat)(hi:i<s.q.g.inp)(up:Bool):Ctr Tryz.prog 162 [scV s,V.one (Leaf.val (.int .i64 ((i:Int)))),V.one (Leaf.val (.bool up))] (R.one (bdV (zhV s i up).1 (zko (zhV s i up).2) true)):=by
 refine bd_ Tryz.func162 Tryz.ntmps162 rfl (fun w0 A0=>?_);have hB:=hs.B;have hq:=hs.q;have hd:=hs.d;have hpl:=hs.pl;have hl:=hs.ll;have hg:=hq.g;have hr:=hq.r;have hlo:=hr.lo;have hhi:=hr.hi;have h1:=hg.i1;have h2:=hg.i3;have h3:=hg.u4;have h4:=hg.o1;have h5:=hg.o3;obtain⟨a0,ha0⟩:∃a,s.q.r.lo[i]?=some a:=⟨_,zEp (by omega)⟩;obtain⟨c0,hc0⟩:∃a,s.q.r.hi[i]?=some a:=⟨_,zEp (by omega)⟩;have ha:s.q.r.lo[i]?=some ((s.q.r.lo[i]?).getD 0):=by rw[ha0];rfl
 have hc_:s.q.r.hi[i]?=some ((s.q.r.hi[i]?).getD 0):=by rw[hc0];rfl
 refine zc 16 rfl (dr_ 1 [(9,3),(10,3)] [3] (dz 3 rfl (kq_ rfl (jix i ha rfl) (kq_ rfl (jlr rfl) (dz 2 rfl (kc_ zjr rfl (zl3 ⟨1,(i:Int),0,0⟩) (dz 3 rfl (zae (za 2 rfl ?_)))))))));refine nz_ [so 1 (D.val (.int .i64 (i:Int))),so 2 (D.bool up),so 3 (D.ptr 0 0),so 6 (D.ptr 1 0),so 7 (D.ptr 2 0),so 8 (D.ptr 3 0)] [hb_ 43 (scL s),_,hb_ 31 [El.row ratE s.q.r.lo,El.row ratE s.q.r.hi,El.row afE s.q.r.rows],hb_ 150 [Leaf.val (.bool (zaQ ((s.q.r.lo[i]?).getD 0))),zaf (zaa (zaw ((s.q.r.lo[i]?).getD 0))),zaf (zaa (zaE ((s.q.r.lo[i]?).getD 0))),El.row muE (zko ⟨1,(i:Int),0,0⟩),Leaf.val (.bool true)]] rfl rfl ?_;refine zc 5 rfl ?_;refine mt_ [so 1 (D.val (.int .i64 (i:Int))),so 3 (D.ptr 0 0),so 6 (D.ptr 1 0),so 8 (D.ptr 3 0),so 9 (D.val (.int .i64 (((if up=true then 4 else 3):Nat):Int))),so 10 (D.val (.int .i64 (if up=true then(-1:Int) else 1)))] [hb_ 43 (scL s),hb_ 150 [Leaf.val (.bool false),zaf ([]),zaf ([]),El.row muE ([]),Leaf.val (.bool false)],none,hb_ 150 [Leaf.val (.bool (zaQ ((zoE s i up).1))),zaf (zaa (zaw ((zoE s i up).1))),zaf (zaa (zaE ((zoE s i up).1))),El.row muE (zko (zoE s i up).2),Leaf.val (.bool true)]] ?_ ?_
 .refine zc 5 rfl ?_;refine zao rfl (fun hup=>?_) (fun hup=>?_)
  .subst hup;refine zc 1 rfl (dr_ 0 [(9,3)] [3] (dz 3 rfl (kq_ rfl (jix i hc_ rfl) (kq_ rfl (jlr rfl) (dz 2 rfl (kc_ zjr rfl (zl3 ⟨2,(i:Int),0,0⟩) (dz 2 rfl (zae (za 1 rfl ?_)))))))));refine nf_ [2] [so 1 _,so 3 _,so 6 _,so 8 _] [_,_,none,hb_ 150 [Leaf.val (.bool (zaQ ((s.q.r.hi[i]?).getD 0))),zaf (zaa (zaw ((s.q.r.hi[i]?).getD 0))),zaf (zaa (zaE ((s.q.r.hi[i]?).getD 0))),El.row muE (zko ⟨2,(i:Int),0,0⟩),Leaf.val (.bool true)]] rfl rfl rfl (zc 4 rfl ?_);exact mx_ rfl
  .subst hup;refine zc 1 rfl (zal 2 ?_);exact mx_ rfl
 .refine zc 7 rfl ?_;refine zbv (fun m Γ H=>∃(n:Nat) (b:Rat×Rw),s.path.length-n=m/\Γ=[(1,some (D.val (.int .i64 (i:Int)))),(3,some (D.ptr 0 0)),(6,some (D.ptr 1 0)),(8,some (D.ptr 3 0)),(9,some (D.val (.int .i64 (((if up=true then 4 else 3):Nat):Int)))),(10,some (D.val (.int .i64 (if up=true then(-1:Int) else 1)))),(11,some (D.val (.int .i64 (n:Int))))]/\H=[hb_ 43 (scL s),hb_ 150 [Leaf.val (.bool false),zaf ([]),zaf ([]),El.row muE ([]),Leaf.val (.bool false)],none,hb_ 150 [Leaf.val (.bool (zaQ b.1)),zaf (zaa (zaw b.1)),zaf (zaa (zaE b.1)),El.row muE (zko b.2),Leaf.val (.bool true)]]/\n<=s.path.length/\b=zgq s i up n) ⟨0,zoE s i up,rfl,rfl,rfl,zEv _,rfl⟩ rfl ?_;rintro m Γ H ⟨n,b,rfl,rfl,rfl,hn0,hb⟩;refine zc 6 rfl (tq_ rfl (jln rfl) ?_);by_cases hn:n<s.path.length
  .refine tq_ rfl (ltT rfl) (zl 8 rfl ?_);obtain⟨d,hdx⟩:∃d,s.path[n]?=some d:=⟨_,zEp hn⟩;have hdo:=hd d (zEq hdx);haveI:=hdo.2.br;haveI hbb:Br b.1 201:=by rw[hb];exact zsb hs hi up (by omega)
   obtain⟨hg1,hg2⟩:=zBQ (up:=up) (a:=d.pt) (b:=b.1);refine zc 4 rfl (tq_ rfl (jix n hdx rfl) (tq_ rfl (jlr rfl) (zl 5 rfl ?_)));refine nz_ [so 1 (D.val (.int .i64 (i:Int))),so 3 (D.ptr 0 0),so 6 (D.ptr 1 0),so 8 (D.ptr 3 0),so 9 (D.val (.int .i64 (((if up=true then 4 else 3):Nat):Int))),so 10 (D.val (.int .i64 (if up=true then(-1:Int) else 1))),so 11 (D.val (.int .i64 (n:Int))),so 12 (D.ptr 4 0)] [hb_ 43 (scL s),hb_ 150 [Leaf.val (.bool false),zaf ([]),zaf ([]),El.row muE ([]),Leaf.val (.bool false)],none,hb_ 150 [Leaf.val (.bool (zaQ b.1)),zaf (zaa (zaw b.1)),zaf (zaa (zaE b.1)),El.row muE (zko b.2),Leaf.val (.bool true)],hb_ 76 [Leaf.val (.int .i64 ((d.kind:Nat):Int)),Leaf.val (.int .i64 ((d.idx:Nat):Int)),Leaf.val (.bool (zaQ d.pt)),zaf (zaa (zaw d.pt)),zaf (zaa (zaE d.pt))]] rfl rfl ?_;refine zc 4 rfl ?_;by_cases hk:d.kind=(if up=true then 4 else 3)
   .refine tq_ rfl (eqT rfl (by rw[hk])) (zl 4 rfl ?_);by_cases hx:d.idx=i
    .refine tq_ rfl (eqT rfl) (zl 5 rfl (tc_ fn96 rfl (zkF s.q hq d hdo (by omega)) (zl 7 rfl (tc_ zuR rfl (zkc (qOf (d.pt)) (d.pt) (zaj _) (Br.use (by omega)) (qOf (b.1)) (b.1) (zaj _) (Br.use (by omega))) (tq_ rfl (zfH rfl rfl rfl (r:=((if up=true then(-1:Int) else 1)*zft d.pt b.1)) (w64 rfl (by omega) (by omega))) ?_)))));by_cases hc:(if up=true then d.pt<b.1 else b.1<d.pt)
     .refine tq_ rfl (gtT rfl (zsa.2 hc)) (zl 4 rfl (nz_ [so 1 _,so 3 _,so 6 _,so 8 _,so 9 _,so 10 _,so 11 _,so 12 _] [_,_,none,_,_] rfl rfl (dr_ 0 [(6,3)] [3] (dz 4 rfl (kc_ zjr rfl (zl3 ⟨4,(n:Int),0,0⟩) (dz 2 rfl (zae (za 4 rfl (tq_ rfl (jad (n+1) rfl) ?_)))))))));refine zl 2 rfl (zal 4 (zaM 4 rfl ?_));exact nx_ ⟨n+1,(d.pt,⟨4,(n:Int),0,0⟩),rfl,rfl,rfl,hn,(by rw[hb] at hc;exact(zwI hdx ⟨hk,hx,hc⟩).symm)⟩ rfl
     .refine tq_ rfl (gtF rfl (fun e=>hc (zsa.1 e))) (zl 7 rfl (nf_ [4] [so 1 _,so 3 _,so 6 _,so 8 _,so 9 _,so 10 _,so 11 _] [_,_,none,_,none] rfl rfl rfl (zc 2 rfl (tq_ rfl (jad (n+1) rfl) (zl 2 rfl (zaM 4 rfl ?_))))));exact nx_ ⟨n+1,b,rfl,rfl,rfl,hn,(by rw[hb];exact(zjO hdx (fun e=>hc (by rw[hb];exact e.2.2))).symm)⟩ rfl
    .refine tq_ rfl (eqF rfl) (zl 23 rfl (nf_ [4] [so 1 _,so 3 _,so 6 _,so 8 _,so 9 _,so 10 _,so 11 _] [_,_,none,_,none] rfl rfl rfl (zc 2 rfl (tq_ rfl (jad (n+1) rfl) (zl 2 rfl (zaM 4 rfl ?_))))));exact nx_ ⟨n+1,b,rfl,rfl,rfl,hn,(by rw[hb];exact(zjO hdx (fun e=>hx e.2.1)).symm)⟩ rfl
   .refine tq_ rfl (eqF rfl (fun e=>hk (Int.ofNat_inj.1 e))) (zl 24 rfl (zc 4 rfl (nf_ [4] [so 1 _,so 3 _,so 6 _,so 8 _,so 9 _,so 10 _,so 11 _] [_,_,none,_,none] rfl rfl rfl (zc 2 rfl (tq_ rfl (jad (n+1) rfl) (zl 2 rfl (zaM 4 rfl ?_)))))));exact nx_ ⟨n+1,b,rfl,rfl,rfl,hn,(by rw[hb];exact(zjO hdx (fun e=>hk e.1)).symm)⟩ rfl
  .refine tq_ rfl (ltF rfl) (zl 9 rfl ?_);have hie:n=s.path.length:=by omega
   rw[hie] at hb;refine zc 5 rfl ?_;exact r1_ hq_ rfl (by unfold zhV;rw[<-hb])
theorem of_r(s:Sc)(hs:SB 135001 s)(v:Nat)(hv:v<(s.q.g.inp+s.q.g.us.length))(up:Bool):Ctr Tryz.prog 94 [scV s,V.one (Leaf.val (.int .i64 ((v:Int)))),V.one (Leaf.val (.bool up))] (R.one (bdV (zbN s v up).1.q (zbN s v up).2.1 (zbN s v up).2.2)):=by
 refine bd_ Tryz.func94 Tryz.ntmps94 rfl (fun w0 A0=>?_);have hB:=hs.B;have hq:=hs.q;have hd:=hs.d;have hpl:=hs.pl;have hl:=hs.ll;have hg:=hq.g;have hr:=hq.r;have hlo:=hr.lo;have hhi:=hr.hi;have h1:=hg.i1;have h2:=hg.i3;have h3:=hg.u4;have h4:=hg.o1;have h5:=hg.o3;refine zc 21 rfl (tc_ zwL rfl (zdQ s.q hq) (zl 3 rfl (tq_ rfl (ltF rfl) (zl 6 rfl (tc_ zCI rfl (zlm s.q.g (by assumption)) (tq_ rfl (geF rfl) (zl 9 rfl ?_)))))));by_cases hvi:v<s.q.g.inp
 .refine tq_ rfl (ltT rfl) (zl 9 rfl (tc_ fn162 rfl (zBP s hs v hvi up) (zl 3 rfl ?_)));exact r1_ hq_ rfl (by rw[ztb hvi];show R.one (bdV (zhV s v up).1 _ _)=R.one (bdV (qOf (zhV s v up).1).q _ _);rw[zaj])
 .refine tq_ rfl (ltF rfl) (zl 10 rfl ?_);refine zao rfl (fun hup=>?_) (fun hup=>?_)
  .refine zc 5 rfl (tq_ rfl (jsb (v-s.q.g.inp) rfl) (tc_ fn163 rfl (zBE s (by assumption) (v-s.q.g.inp) (by omega)) (zl 3 rfl ?_)));exact r1_ hq_ rfl (by rw[hup,zs9 hvi])
  .refine zc 8 rfl (tq_ rfl (jsb (v-s.q.g.inp) rfl) (tc_ fn164 rfl (zx9 s (by assumption) (v-s.q.g.inp) (by omega)) (zl 3 rfl ?_)));exact r1_ hq_ rfl (by rw[hup,zta hvi])
set_option maxHeartbeats 2000000 in
theorem boxr(s:Sc)(hs:SB 135001 s)(f:Af){b:Nat}(hf:FOk b (s.q.g.inp+s.q.g.us.length) f)(hb:b<=600000000):Ctr Tryz.prog 41 [scV s,afV f] (R.tup [qV (qOf (zbM s f).1),V.one (El.row muE (zbM s f).2.1),V.one (Leaf.val (.bool (zbM s f).2.2))]):=by
 refine bd_ Tryz.func41 Tryz.ntmps41 rfl (fun w0 A0=>?_);have hB:=hs.B;have hq:=hs.q;have hd:=hs.d;have hpl:=hs.pl;have hl:=hs.ll;have hg:=hq.g;have hr:=hq.r;have hlo:=hr.lo;have hhi:=hr.hi;have h1:=hg.i1;have h2:=hg.i3;have h3:=hg.u4;have h4:=hg.o1;have h5:=hg.o3;have hfl:=hf.fl;haveI:=hfl.fm (by omega);haveI:=hfl.cb;have h7:=hfl.len7 hq;refine zc 11 rfl (dr_ 0 [] [] (dz 2 rfl (kc_ zwL rfl (zdQ s.q hq) (dz 6 rfl (kc_ zCI rfl (zlm s.q.g (by assumption)) (kc_ zAz rfl (zf9 f hf (by omega) (s.q.g.inp+s.q.g.us.length) (zEt _) (by omega)) (dz 2 rfl (zae (za 5 rfl ?_)))))))));refine nz_ [so 2 (D.ptr 0 0),so 3 (D.ptr 1 0),so 4 (D.ptr 2 0)] [hb_ 43 (scL s),hb_ 38 (afL f),hb_ 36 [Leaf.val (.bool false),zaf ([]),zaf ([])]] rfl rfl (zc 19 rfl ?_);refine zbv (fun m Γ H=>∃(i:Nat) (x:Rat) (l:List Mu),f.ts.length-i=m/\Γ=[(2,some (D.ptr 0 0)),(3,some (D.ptr 1 0)),(4,some (D.ptr 2 0)),(7,some (D.ptr 3 0)),(8,some (D.v (V.one (El.row muE l)))),(9,some (D.val (.int .i64 (i:Int))))]/\H=[hb_ 43 (scL s),hb_ 38 (afL f),hb_ 36 [Leaf.val (.bool false),zaf ([]),zaf ([])],hb_ 36 (qL x)]/\i<=f.ts.length/\zhE s f i=some (x,l)) ⟨0,f.c,[],rfl,rfl,rfl,zEv _,rfl⟩ rfl ?_;rintro m Γ H ⟨i,x,l,rfl,rfl,rfl,hi0,hR⟩;refine zc 6 rfl (tq_ rfl (jln rfl) ?_);by_cases hi:i<f.ts.length
 .refine tq_ rfl (ltT rfl) (zl 8 rfl ?_);obtain⟨t,ht⟩:∃t,f.ts[i]?=some t:=⟨_,zEp hi⟩;have htm:=zEq ht;have htv:=hf.var t htm;haveI htb:Br t.2 (b+1):=(hf.bd t htm).br;have hbo:=zmB hs hfl i (by omega) x _ hR;have htl:(f.ts.take i).length<=7:=by rw[zEG];omega
  have hmul:=zEA (135001+(b+1)+210) htl;have hmul2:=zEA (8*135001+2*(b+1)+40) htl;haveI:Br x (b+1+7*(135001+(b+1)+210)):=hbo.br.mono (by omega);have hlb:=hbo.der.bd;have hll:=hbo.der.len;refine nz_ [so 2 (D.ptr 0 0),so 3 (D.ptr 1 0),so 4 (D.ptr 2 0),so 7 (D.ptr 3 0),so 8 (D.v (V.one (El.row muE l))),so 9 (D.val (.int .i64 (i:Int)))] [hb_ 43 (scL s),hb_ 38 (afL f),hb_ 36 [Leaf.val (.bool false),zaf ([]),zaf ([])],hb_ 36 (qL x)] rfl rfl (zc 4 rfl (tq_ rfl (jix i ht rfl) (tq_ rfl (jlr rfl) (zl 5 rfl (dr_ 1 [(8,5),(9,5)] [5] (dz 5 rfl ?_))))));refine kc_ zg4 rfl (zbH (qOf (t.2)) (t.2) (zaj _) (Br.use (by omega))) (kq_ rfl (zmN rfl rfl rfl (b:=(decide (t.2<0))) (decide_eq_decide.2 zkb)) (kc_ fn94 rfl (of_r s hs t.1 htv (decide (t.2<0))) (dz 2 rfl (zae (za 3 rfl ?_)))));refine nz_ [so 2 _,so 3 _,so 4 _,so 7 _,so 8 _,so 9 _,so 10 (D.ptr 4 0),so 11 (D.ptr 5 0)] [_,_,_,_,hb_ 103 [Leaf.val (.int .i64 ((t.1:Nat):Int)),Leaf.val (.bool (zaQ t.2)),zaf (zaa (zaw t.2)),zaf (zaa (zaE t.2))],hb_ 150 [Leaf.val (.bool (zaQ ((zbN s t.1 (decide (t.2<0))).1.q))),zaf (zaa (zaw ((zbN s t.1 (decide (t.2<0))).1.q))),zaf (zaa (zaE ((zbN s t.1 (decide (t.2<0))).1.q))),El.row muE ((zbN s t.1 (decide (t.2<0))).2.1),Leaf.val (.bool ((zbN s t.1 (decide (t.2<0))).2.2))]] rfl rfl ?_;refine zc 6 rfl ?_;refine zao rfl (fun hok=>?_) (fun hok=>?_)
  .refine zc 8 rfl ?_;exact r3_ hq_ rfl (by rw[zsZ ht hR (by simpa using hok)];show _=R.tup [qV (qOf 0),_,_];rw[<-zc8] <;> rfl)
  .refine zc 3 rfl ?_;have hok1:(zbN s t.1 (decide (t.2<0))).2.2=true:=by simpa using hok
   have hbk:=zs7 hs htv (zo8 hok1);haveI:Br (zbN s t.1 (decide (t.2<0))).1.q 135202:=by haveI:=hbk.fq;exact(inferInstance:Fq (zbN s t.1 (decide (t.2<0))).1 _).br
   have hst:=hbk.step;have hsl:=hst.len;refine dr_ 0 [(7,3)] [3] (kp_ [] rfl (zaI rfl rfl rfl (by decide) zmV (by decide) (zEw rfl) rfl) (dz 4 rfl (kc_ zwK rfl (zlM (qOf (t.2)) (t.2) (zaj _) (Br.use (by omega)) (qOf ((zbN s t.1 (decide (t.2<0))).1.q)) ((zbN s t.1 (decide (t.2<0))).1.q) (zaj _) (Br.use (by omega))) ?_)));refine kc_ zzg rfl (zna (qOf (x)) (x) (zaj _) (Br.use (by omega)) (qOf ((t.2)*((zbN s t.1 (decide (t.2<0))).1.q))) ((t.2)*((zbN s t.1 (decide (t.2<0))).1.q)) (zaj _) (Br.use (by omega))) (dz 1 rfl (zae (za 2 rfl ?_)));refine nz_ [so 2 _,so 3 _,so 4 _,so 7 _,so 8 _,so 9 _,so 10 _,so 11 _] [_,_,_,hb_ 36 (qL ((x)+((t.2)*((zbN s t.1 (decide (t.2<0))).1.q)))),_,_] rfl rfl (zc 19 rfl (fr_ [4] rfl ?_));refine zbv (fun m Γ H=>∃(k:Nat) (l2:List Mu),(zbN s t.1 (decide (t.2<0))).2.1.length-k=m/\Γ=[(2,some (D.ptr 0 0)),(3,some (D.ptr 1 0)),(4,some (D.ptr 2 0)),(7,some (D.ptr 3 0)),(8,some (D.v (V.one (El.row muE l2)))),(9,some (D.val (.int .i64 (i:Int)))),(11,some (D.ptr 5 0)),(12,some (D.ptr 6 0)),(13,some (D.val (.int .i64 (k:Int))))]/\H=[hb_ 43 (scL s),hb_ 38 (afL f),hb_ 36 [Leaf.val (.bool false),zaf ([]),zaf ([])],hb_ 36 (qL ((x)+((t.2)*((zbN s t.1 (decide (t.2<0))).1.q)))),none,hb_ 150 [Leaf.val (.bool (zaQ ((zbN s t.1 (decide (t.2<0))).1.q))),zaf (zaa (zaw ((zbN s t.1 (decide (t.2<0))).1.q))),zaf (zaa (zaE ((zbN s t.1 (decide (t.2<0))).1.q))),El.row muE ((zbN s t.1 (decide (t.2<0))).2.1),Leaf.val (.bool ((zbN s t.1 (decide (t.2<0))).2.2))],hb_ 36 [Leaf.val (.bool false),zaf (zaa (zaw t.2)),zaf (zaa (zaE t.2))]]/\k<=(zbN s t.1 (decide (t.2<0))).2.1.length/\l2=zaU l ((zbN s t.1 (decide (t.2<0))).2.1.take k) (rq false (zaw t.2) (zaE t.2))) ⟨0,l,rfl,rfl,rfl,zEv _,rfl⟩ rfl ?_;rintro m Γ H ⟨k,l2,rfl,rfl,rfl,hk0,hl2⟩;refine zc 6 rfl (tq_ rfl (jln rfl) ?_);by_cases hk:k<(zbN s t.1 (decide (t.2<0))).2.1.length
   .refine tq_ rfl (ltT rfl) (zl 7 rfl ?_);obtain⟨y,hy⟩:∃y,(zbN s t.1 (decide (t.2<0))).2.1[k]?=some y:=⟨_,zEp hk⟩;haveI hyb:=hst.bd y (zEq hy);have hMB:MB (7*(8*135001+2*(b+1)+40)+2*(4*135001+12+(b+1+1)+2)) l2:=by
     rw[hl2];refine(zei (c:=rq false (zaw t.2) (zaE t.2)) (D:=b+1+1) hlb (fun m hm=>hst.bd m (List.mem_of_mem_take hm))).mono ?_;have:=zEA (4*135001+12+(b+1+1)+2) (show((zbN s t.1 (decide (t.2<0))).2.1.take k).length<=2 by rw[zEG];omega);omega
    have hl2l:l2.length<=100:=by rw[hl2];refine zEz (zdo _ _ _) ?_;rw[zEG];omega
    refine nz_ [so 2 (D.ptr 0 0),so 3 (D.ptr 1 0),so 4 (D.ptr 2 0),so 7 (D.ptr 3 0),so 8 (D.v (V.one (El.row muE l2))),so 9 (D.val (.int .i64 (i:Int))),so 11 (D.ptr 5 0),so 12 (D.ptr 6 0),so 13 (D.val (.int .i64 (k:Int)))] [hb_ 43 (scL s),hb_ 38 (afL f),hb_ 36 [Leaf.val (.bool false),zaf ([]),zaf ([])],hb_ 36 (qL ((x)+((t.2)*((zbN s t.1 (decide (t.2<0))).1.q)))),none,hb_ 150 [Leaf.val (.bool (zaQ ((zbN s t.1 (decide (t.2<0))).1.q))),zaf (zaa (zaw ((zbN s t.1 (decide (t.2<0))).1.q))),zaf (zaa (zaE ((zbN s t.1 (decide (t.2<0))).1.q))),El.row muE ((zbN s t.1 (decide (t.2<0))).2.1),Leaf.val (.bool ((zbN s t.1 (decide (t.2<0))).2.2))],hb_ 36 [Leaf.val (.bool false),zaf (zaa (zaw t.2)),zaf (zaa (zaE t.2))]] rfl rfl ?_;refine dr_ 0 [] [] (dz 4 rfl (kq_ rfl (jix k hy rfl) (kq_ rfl (jft rfl) (kq_ rfl (jlr rfl) (dz 4 rfl (kq_ rfl (jix k hy rfl) (kq_ rfl (jfr rfl) (kq_ rfl (jlr rfl) ?_))))))));refine kc_ zwK rfl (zlM (Qr.mk false (zaa (zaw t.2)) (zaa (zaE t.2)) (zab _) (zab _)) (rq false (zaw t.2) (zaE t.2)) (zpK (zac _) (zac _)) (Fit.mk (Br.use (r:=t.2) (by omega)).n (Br.use (r:=t.2) (by omega)).d) y.c (y.c.q) rfl (Fq.use (x:=y.c) (by omega))) ?_;refine kc_ zsj rfl (zeX l2 y.r ((rq false (zaw t.2) (zaE t.2))*(y.c.q)) (by assumption) (by omega) (by omega)) (dz 1 rfl (zae (za 2 rfl (nz_ [so 2 _,so 3 _,so 4 _,so 7 _,so 8 (D.v (V.one (El.row muE (zbZ l2 y.r ((rq false (zaw t.2) (zaE t.2))*(y.c.q)))))),so 9 _,so 11 _,so 12 _,so 13 _] [_,_,_,_,none,_,_] rfl rfl (zc 2 rfl (tq_ rfl (jad (k+1) rfl) ?_))))));refine zl 2 rfl ?_;exact nx_ ⟨k+1,_,rfl,rfl,rfl,hk,(by rw[hl2,ziB hy,Rat.mul_comm])⟩ rfl
   .refine tq_ rfl (ltF rfl) (zl 9 rfl ?_);rw[show k=(zbN s t.1 (decide (t.2<0))).2.1.length by omega,zEM] at hl2;refine zc 2 rfl (tq_ rfl (jad (i+1) rfl) (zl 2 rfl (zal 5 (zal 6 (zaM 4 rfl ?_)))));exact nx_ ⟨i+1,_,_,rfl,rfl,rfl,hi,(by rw[hl2];exact zs0 ht hR hok1)⟩ rfl
 .refine tq_ rfl (ltF rfl) (zl 9 rfl ?_);have hie:i=f.ts.length:=by omega
  have hbo:=zmB hs hfl i (by omega) x _ hR;have htl:(f.ts.take i).length<=7:=by rw[zEG];omega
  have hmul:=zEA (135001+(b+1)+210) htl;haveI:Br x (b+1+7*(135001+(b+1)+210)):=hbo.br.mono (by omega);rw[hie] at hR;refine nf_ [0,1] [so 4 (D.ptr 2 0),so 7 (D.ptr 3 0),so 8 (D.v (V.one (El.row muE l)))] [none,none,hb_ 36 [Leaf.val (.bool false),zaf ([]),zaf ([])],hb_ 36 (qL x)] rfl rfl rfl (zc 2 rfl (tc_ zmW rfl (zca (qOf (x)) (x) (zaj _) (Br.use (by omega))) (zl 6 rfl ?_)));exact r3_ hq_ rfl (by rw[zc5 (show zlh s f=_ from hR)])
end Go.Proofs.YtjeiacoegppoiaaGreatDoor
namespace Rc
open Go Go.RowKit
def zik(f:List Tm)(v:Nat):List Tm:=f.filter fun t=>decide (t.1≠v)
theorem zgT:∀{f:List Tm} {v:Nat},CanT f->CanT (zik f v)
 |[],_,_=>trivial
 |(w,d)::f,v,h=>by
  unfold zik;rw[List.filter_cons];split
  .exact⟨h.1,fun u hu=>h.2.1 u (List.mem_filter.1 hu).1,zgT h.2.2⟩
  .exact zgT h.2.2
theorem zsG:∀{f:List Tm} {v:Nat},CanT f->∀w,co (zik f v) w=if w=v then 0 else co f w
 |[],_,_,w=>by show(0:Rat)=_;split <;> rfl
 |(u,d)::f,v,h,w=>by
  have ih:=zsG (v:=v) h.2.2 w;unfold zik at *;rw[List.filter_cons];by_cases e:u=v
  .rw[if_neg (by simp[e]),ih];by_cases e2:w=v
   .rw[if_pos e2,if_pos e2]
   .rw[if_neg e2,if_neg e2];show _=if u=w then d else co f w;rw[if_neg (by omega)]
  .rw[if_pos (by simp[e])];show(if u=w then d else co _ w)=_;rw[ih];by_cases e2:u=w
   .rw[if_pos e2,if_neg (by omega)];show _=if u=w then d else co f w;rw[if_pos e2]
   .rw[if_neg e2];show _=if w=v then 0 else if u=w then d else co f w;rw[if_neg e2]
theorem zxF{f:List Tm}{v:Nat}(h:∀t∈f,t.1<v+1):∀t∈zik f v,t.1<v:=fun t ht=>by
 obtain⟨h1,h2⟩:=List.mem_filter.1 ht;have:=h t h1;have h3:t.1≠v:=by simpa using h2
 omega
theorem zjU:∀{l:List Tm} {v:Nat},co l v≠0->∃t∈l,t.1=v
 |[],_,h=>absurd rfl h
 |(w,d)::l,v,h=>by
  by_cases e:w=v
  .exact⟨(w,d),by simp,e⟩
  .have h:(if w=v then d else co l v)≠0:=h;rw[if_neg e] at h;obtain⟨t,ht,e2⟩:=zjU h;exact⟨t,by simp[ht],e2⟩
theorem zm5{g:List Tm}{c:Rat}{n:Nat}(hg:CanT g)(h:∀t∈g,t.1<n):∀t∈scT g c,t.1<n:=fun t ht=>by
 have h1:=zfE (zb8 (c:=c) hg) ht;have h2:t.2≠0:=by
  obtain⟨i,hi⟩:=zfQ ht;exact((zb8 (c:=c) hg).get hi).1
 rw[zqa hg] at h1;apply Classical.byContradiction;intro hn;have h3:co g t.1=0:=by
  apply Classical.byContradiction;intro hne;obtain⟨u,hu,e⟩:=zjU hne;have:=h u hu;omega
 rw[h3] at h1;exact h2 (by rw[<-h1];grind)
def zqR(f:Af)(v:Nat)(g:Af):Af:=zfz ⟨zik f.ts v,f.c⟩ (fSc g (co f.ts v))
section
variable {f g:Af}{v:Nat}
theorem zt8(hf:CanT f.ts):CanT (zqR f v g).ts:=zch (zgT hf)
theorem zsF(hf:CanT f.ts)(hg:CanT g.ts)(w:Nat):co (zqR f v g).ts w=(if w=v then 0 else co f.ts w)+co g.ts w*co f.ts v:=by
 show co (zgQ (zik f.ts v) (scT g.ts (co f.ts v))) w=_;rw[zfU (zgT hf) (zb8 hg),zsG hf,zqa hg]
theorem zwe:(zqR f v g).c=f.c+g.c*co f.ts v:=rfl
theorem zt7(hg:CanT g.ts)(h1:∀t∈f.ts,t.1<v+1)(h2:∀t∈g.ts,t.1<v):∀t∈(zqR f v g).ts,t.1<v:=
 zfd (zxF h1) (zm5 hg h2)
end
def Nd(D n:Nat)(x:Rat):Prop:=∃N:Int,x*(D:Rat)=(N:Rat)/\N.natAbs<2^n
theorem Nd.mono{D n m:Nat}{x:Rat}(h:Nd D n x)(hn:n<=m):Nd D m x:=
 let ⟨N,h1,h2⟩:=h;⟨N,h1,zEy h2 (zEC (by decide) hn)⟩
theorem Nd.zero{D n:Nat}:Nd D n 0:=⟨0,by rw[Rat.zero_mul];rfl,Nat.two_pow_pos n⟩
theorem Nd.mul{D E n m:Nat}{x y:Rat}(h:Nd D n x)(h':Nd E m y):Nd (D*E) (n+m) (x*y):=by
 obtain⟨N,h1,h2⟩:=h;obtain⟨M,h3,h4⟩:=h';refine⟨N*M,?_,?_⟩
 .rw[Rat.natCast_mul,Rat.intCast_mul,<-h1,<-h3];grind
 .rw[Int.natAbs_mul,zEJ];exact Nat.mul_lt_mul'' h2 h4
theorem Nd.up{D n:Nat}{x:Rat}(h:Nd D n x){E e:Nat}(he:E<2^e):Nd (D*E) (n+e) x:=by
 obtain⟨N,h1,h2⟩:=h;refine⟨N*E,?_,?_⟩
 .rw[Rat.natCast_mul,Rat.intCast_mul,<-h1];show x*((D:Rat)*(E:Rat))=x*(D:Rat)*((E:Int):Rat);rw[Rat.intCast_natCast];grind
 .rw[Int.natAbs_mul,zEJ,Int.natAbs_natCast];exact Nat.mul_lt_mul'' h2 he
theorem Nd.comm{D E n:Nat}{x:Rat}(h:Nd (D*E) n x):Nd (E*D) n x:=by rw[zEU];exact h
theorem Nd.add{D n:Nat}{x y:Rat}(h:Nd D n x)(h':Nd D n y):Nd D (n+1) (x+y):=by
 obtain⟨N,h1,h2⟩:=h;obtain⟨M,h3,h4⟩:=h';refine⟨N+M,?_,?_⟩
 .rw[Rat.intCast_add,<-h1,<-h3];grind
 .rw[zEI];have:=Int.natAbs_add_le N M;omega
theorem Nd.hb{D n d:Nat}{x:Rat}(h:Nd D n x)(h0:0<D)(hd:D<2^d):Hb x (max n d):=by
 obtain⟨N,h1,h2⟩:=h;have hx:x=Rc.rq (decide (N<0)) N.natAbs D:=by
  have e:=zof (decide (N<0)) false N.natAbs D (by omega);rw[Bool.bne_false] at e;rw[e];have e1:sgn (decide (N<0)) N.natAbs=N:=by unfold sgn;split <;> simp_all <;> omega
  have e2:sgn false D=(D:Int):=rfl;rw[e1,e2,<-h1];show x=x*(D:Rat)/((D:Int):Rat);rw[Rat.intCast_natCast,Rat.div_def,Rat.mul_assoc,Rat.mul_inv_cancel _ (by
   intro e3;have:((D:Int):Rat)=((0:Int):Rat):=by rw[Rat.intCast_natCast];exact e3
   have:=Rat.intCast_inj.1 this;omega),Rat.mul_one]
 rw[hx];refine Hb.rq (zEy h2 (zEC (by decide) (Nat.le_max_left _ _))) ?_;rw[zc1 (by omega)];exact zEz (Nat.le_of_lt hd) (zEC (by decide) (Nat.le_max_right _ _))
theorem zlV(x:Rat):x*((x.den:Nat):Rat)=((x.num:Int):Rat):=by
 have h:(x.num:Rat)/((x.den:Nat):Rat)=x:=by
  have:=Rat.num_divInt_den x;rw[Rat.divInt_eq_div] at this;exact this
 have h2:((x.den:Nat):Rat)≠0:=fun e=>by
  have e:((x.den:Int):Rat)=((0:Int):Rat):=e;have:=Rat.intCast_inj.1 e;have:=x.den_pos;omega
 have h3:x*((x.den:Nat):Rat)=(x.num:Rat)/((x.den:Nat):Rat)*((x.den:Nat):Rat):=by rw[h]
 rw[h3,Rat.div_def,Rat.mul_assoc,Rat.inv_mul_cancel _ h2,Rat.mul_one]
theorem Hb.nd{x:Rat}{k:Nat}(h:Hb x k):Nd x.den k x:=⟨x.num,zlV x,h.num⟩
structure Cd(d n m:Nat)(f:Af):Prop where
 can:CanT f.ts
 var:∀t∈f.ts,t.1<m
 cd:∃D:Nat,0<D/\D<2^d/\(∀w,Nd D n (co f.ts w))/\Nd D n f.c
theorem Cd.mono{d n m d' n' m':Nat}{f:Af}(h:Cd d n m f)(h1:d<=d')(h2:n<=n')(h3:m<=m'):Cd d' n' m' f:=by
 obtain⟨D,a1,a2,a3,a4⟩:=h.cd;exact⟨h.can,fun t ht=>zEy (h.var t ht) h3,D,a1,zEy a2 (zEC (by decide) h1),fun w=>(a3 w).mono h2,a4.mono h2⟩
theorem Cd.fok{d n m:Nat}{f:Af}(h:Cd d n m f):FOk (max n d) m f:=by
 obtain⟨D,a1,a2,a3,a4⟩:=h.cd;refine⟨h.can,fun t ht=>?_,a4.hb a1 a2,h.var⟩;rw[<-zfE h.can ht];exact(a3 t.1).hb a1 a2
theorem zBz{x:Rat}(h:Hb x 3):Nd 840 13 x:=by
 have h1:=h.den;have h2:=h.num;have h0:=x.den_pos;have h3:x.den ∣ 840:=by
  have:∀k:Fin 9,0<k.val->k.val ∣ 840:=by decide
  exact this ⟨x.den,by omega⟩ h0
 obtain⟨k,hk⟩:=h3;refine⟨x.num*k,?_,?_⟩
 .have e:((840:Nat):Rat)=(x.den:Rat)*(k:Rat):=by rw[<-Rat.natCast_mul,<-hk]
  rw[e,Rat.intCast_mul,<-Rat.mul_assoc,zlV];congr 1
 .rw[Int.natAbs_mul,Int.natAbs_natCast];have hk2:k<=840:=Nat.le_of_dvd (by decide) ⟨x.den,by rw[hk,zEU]⟩;have:=Nat.mul_le_mul (show x.num.natAbs<=7 by omega) hk2;omega
theorem FOk.cd{m:Nat}{f:Af}(h:FOk 3 m f):Cd 10 13 m f:=
 ⟨h.can,h.var,840,by decide,by decide,fun w=>by
  by_cases e:co f.ts w=0
  .rw[e];exact Nd.zero
  .obtain⟨u,hu,e2⟩:=zjU e;rw[<-e2,zfE h.can hu];exact zBz (h.bd u hu),zBz h.cb⟩
theorem fZ_cd{m:Nat}:Cd 10 13 m fZ:=⟨trivial,fun t ht=>by simp[fZ] at ht,840,by decide,by decide,fun w=>Nd.zero,Nd.zero⟩
theorem Cd.line{d n m e a:Nat}{p:Af}(h:Cd d n m p){s o:Rat}{E:Nat}(hE:0<E)(he:E<2^e)(hs:Nd E a s)(ho:Nd E a o):Cd (d+e) (max n d+a+1) m (zfz (fSc p s) (fN o)):=by
 obtain⟨D,a1,a2,a3,a4⟩:=h.cd;refine⟨zch (zb8 h.can),zfd (zm5 h.can h.var) (fun t ht=>by simp[fN] at ht),D*E,Nat.mul_pos a1 hE,?_,fun w=>?_,?_⟩
 .rw[zEJ];exact Nat.mul_lt_mul'' a2 he
 .show Nd _ _ (co (zgQ (scT p.ts s) []) w);rw[zfU (zb8 h.can) (show CanT [] from trivial),zqa h.can];show Nd _ _ (co p.ts w*s+0);rw[Rat.add_zero];exact((a3 w).mul hs).mono (by omega)
 .show Nd _ _ (p.c*s+o);refine Nd.add ((a4.mul hs).mono (by omega)) ?_;exact(ho.up a2).comm.mono (by omega)
theorem Cd.sub{d n d' n' v:Nat}{f g:Af}(hf:Cd d n (v+1) f)(hg:Cd d' n' v g):Cd (d+d') (n+max d' n'+1) v (zqR f v g):=by
 obtain⟨D,a1,a2,a3,a4⟩:=hf.cd;obtain⟨E,b1,b2,b3,b4⟩:=hg.cd;refine⟨zt8 hf.can,zt7 hg.can hf.var hg.var,D*E,Nat.mul_pos a1 b1,?_,fun w=>?_,?_⟩
 .rw[zEJ];exact Nat.mul_lt_mul'' a2 b2
 .rw[zsF hf.can hg.can];refine Nd.add ?_ ?_
  .split
   .exact Nd.zero
   .exact((a3 w).up b2).mono (by omega)
  .exact((b3 w).mul (a3 v)).comm.mono (by omega)
 .rw[zwe];exact Nd.add ((a4.up b2).mono (by omega)) ((b4.mul (a3 v)).comm.mono (by omega))
def zcE(l u:Rat):Rat:=u/(u-l)
def zcF(l u:Rat):Rat:=-(l*u)/(u-l)
theorem zx4{l u:Rat}(hl:l<0)(hu:0<u){a b:Nat}(h1:Hb l a)(h2:Hb u b):∃E:Nat,0<E/\E<2^(a+b+1)/\Nd E (a+b) (zcE l u)/\Nd E (a+b) (zcF l u):=by
 have hn1:=h1.num;have hd1:=h1.den;have hn2:=h2.num;have hd2:=h2.den;have p1:=l.den_pos;have p2:=u.den_pos;have hln:l.num<0:=Int.not_le.1 (fun e=>Rat.not_le.2 hl (Rat.num_nonneg.1 e));have hun:0<u.num:=by
  have h0:=Rat.num_nonneg.2 (Rat.le_of_lt hu);have h1:u.num≠0:=fun e=>by
   have e2:=zlV u;rw[e] at e2;have h2:0<u*((u.den:Nat):Rat):=Rat.mul_pos hu (by
    have h3:((0:Int):Rat)<((u.den:Int):Rat):=Rat.intCast_lt_intCast.2 (by omega);exact h3)
   rw[e2] at h2;exact absurd h2 (by decide)
  omega
 have e1:=zlV l;have e2:=zlV u;obtain⟨E,hE⟩:∃E:Nat,(E:Int)=u.num*l.den-l.num*u.den:=⟨(u.num*l.den-l.num*u.den).toNat,by
  have q1:0<u.num*l.den:=Int.mul_pos hun (by omega);have q2:0<(-l.num)*u.den:=Int.mul_pos (by omega) (by omega);have q3:(-l.num)*u.den = -(l.num*u.den):=Int.neg_mul _ _;omega⟩
 have q1:0<u.num*l.den:=Int.mul_pos hun (by omega);have q2:0<(-l.num)*u.den:=Int.mul_pos (by omega) (by omega);have q3:(-l.num)*u.den = -(l.num*u.den):=Int.neg_mul _ _;have hEq:(E:Rat)=(u-l)*((l.den:Rat)*(u.den:Rat)):=by
  have h:((E:Int):Rat)=((u.num*l.den-l.num*u.den:Int):Rat):=by rw[hE]
  rw[Rat.intCast_natCast,Rat.intCast_sub,Rat.intCast_mul,Rat.intCast_mul,<-e1,<-e2,Rat.intCast_natCast,Rat.intCast_natCast] at h;rw[h];grind
 have hne:u-l≠0:=by grind
 have hE0:0<E:=by omega
 have bU:(u.num*l.den).natAbs<2^(a+b):=by
  rw[Int.natAbs_mul,Int.natAbs_natCast,zEJ,zEU (2^a)];exact Nat.mul_lt_mul_of_lt_of_le hn2 hd1 (Nat.two_pow_pos a)
 have bL:(l.num*u.den).natAbs<2^(a+b):=by
  rw[Int.natAbs_mul,Int.natAbs_natCast,zEJ];exact Nat.mul_lt_mul_of_lt_of_le hn1 hd2 (Nat.two_pow_pos b)
 have bLU:(l.num*u.num).natAbs<2^(a+b):=by
  rw[Int.natAbs_mul,zEJ];exact Nat.mul_lt_mul'' hn1 hn2
 refine⟨E,hE0,?_,⟨u.num*l.den,?_,bU⟩,⟨-(l.num*u.num),?_,by rw[Int.natAbs_neg];exact bLU⟩⟩
 .rw[zEI];omega
 .unfold zcE;rw[hEq,Rat.div_def,Rat.intCast_mul,<-e2,Rat.intCast_natCast];have:=Rat.mul_inv_cancel _ hne;grind
 .unfold zcF;rw[hEq,Rat.div_def,Rat.intCast_neg,Rat.intCast_mul,<-e1,<-e2];have:=Rat.mul_inv_cancel _ hne;grind
def slp(l u:Rat):Bool:=decide (l<0)&&(decide (0<u)&&decide (-l<u))
def zfM(s:Sc)(j:Nat)(p:Af)(c:Rat):Option (Af×Rw×Rat):=
 if zdH s j=true then some (p,if 0<c then⟨6,(j:Int),0,0⟩ else zdi s j,zc6 c)
 else if zby s j=true then some (fZ,if 0<c then⟨5,(j:Int),0,0⟩ else zct s j,zc6 c)
 else if 0<c then
  if bLo s j≠0/\bHi s j≠0/\slp (lv s.lems (bLo s j)) (lv s.lems (bHi s j))=true then some (p,⟨6,(j:Int),0,0⟩,zc6 c) else some (fZ,⟨5,(j:Int),0,0⟩,zc6 c)
 else if bLo s j=0\/bHi s j=0 then none
 else some (zfz (fSc p (zcE (lv s.lems (bLo s j)) (lv s.lems (bHi s j)))) (fN (zcF (lv s.lems (bLo s j)) (lv s.lems (bHi s j)))),⟨13,(j:Int),(bLo s j:Int),(bHi s j:Int)⟩,zc6 c/(lv s.lems (bHi s j)-lv s.lems (bLo s j)))
def bkS(s:Sc)(a:Option (Af×List Mu))(j:Nat):Option (Af×List Mu):=
 match a with
 |none=>none
 |some (f,l)=>match s.q.g.us[j]? with
  |none=>some (f,l)
  |some p=>if co f.ts (s.q.g.inp+j)=0 then some (f,l) else match zfM s j p (co f.ts (s.q.g.inp+j)) with
   |none=>none
   |some (b,r,c)=>some (zqR f (s.q.g.inp+j) b,zbZ l r c)
def bkN(s:Sc)(f:Af)(n:Nat):Option (Af×List Mu):=(List.range n).foldl (fun a i=>bkS s a (s.q.g.us.length-1-i)) (some (f,[]))
def bkO(s:Sc)(f:Af):Option (Af×List Mu):=bkN s f s.q.g.us.length
theorem zgB{s:Sc}{f:Af}{n:Nat}:bkN s f (n+1)=bkS s (bkN s f n) (s.q.g.us.length-1-n):=by
 unfold bkN;rw[List.range_succ,zER];rfl
theorem zgA{s:Sc}{f:Af}{l:List Mu}{j:Nat}{p:Af}(hp:s.q.g.us[j]?=some p)(h:co f.ts (s.q.g.inp+j)=0):bkS s (some (f,l)) j=some (f,l):=by
 unfold bkS;simp only[hp,if_pos h]
theorem zci{s:Sc}{f:Af}{l:List Mu}{j:Nat}{p:Af}{b:Af}{r:Rw}{c:Rat}(hp:s.q.g.us[j]?=some p)(h:co f.ts (s.q.g.inp+j)≠0)(hr:zfM s j p (co f.ts (s.q.g.inp+j))=some (b,r,c)) :
  bkS s (some (f,l)) j=some (zqR f (s.q.g.inp+j) b,zbZ l r c):=by
 unfold bkS;simp only[hp,if_neg h,hr]
theorem zh3{s:Sc}{f:Af}{l:List Mu}{j:Nat}{p:Af}(hp:s.q.g.us[j]?=some p)(h:co f.ts (s.q.g.inp+j)≠0)(hr:zfM s j p (co f.ts (s.q.g.inp+j))=none):bkS s (some (f,l)) j=none:=by
 unfold bkS;simp only[hp,if_neg h,hr]
theorem zpa{s:Sc}{f:Af}{n:Nat}(h:bkN s f n=none):∀k,bkN s f (n+k)=none
 |0=>h
 |k+1=>by rw[<-Nat.add_assoc,zgB,zpa h k];rfl
theorem zvs{s:Sc}{f:Af}{n:Nat}(hn:n<=s.q.g.us.length)(h:bkN s f n=none):bkO s f=none:=by
 have:=zpa h (s.q.g.us.length-n)
 rwa [show n+(s.q.g.us.length-n)=s.q.g.us.length by omega] at this
def symO(s:Sc)(f:Af):Option (Rat×List Mu):=
 match bkO s f with
 |none=>none
 |some (g,l)=>match zlh s g with
  |none=>none
  |some (x,m)=>some (x,zaU l m ((1:Int):Rat))
def zb3:Dom:=fun s f=>match symO s f with|some (x,l)=>(x,l,true)|none=>(0,[],false)
theorem zeQ{s:Sc}{f:Af}(h:bkO s f=none):zb3 s f=(0,[],false):=by unfold zb3 symO;rw[h]
theorem zeP{s:Sc}{f g:Af}{l m:List Mu}{x:Rat}(h:bkO s f=some (g,l))(h2:zlh s g=some (x,m)):zb3 s f=(x,zaU l m ((1:Int):Rat),true):=by
 unfold zb3 symO;simp only[h,h2]
theorem zvF{c:Rat}(h:c≠0):0<zc6 c:=by unfold zc6 mx;split <;> grind
theorem zhr{c:Rat}(h:0<c):zc6 c=c:=by unfold zc6 mx;split <;> grind
theorem zjY{c:Rat}(h:¬0<c):zc6 c = -c:=by unfold zc6 mx;split <;> grind
structure RpOk(s:Sc)(B C j:Nat)(c:Rat)(b:Af)(r:Rw)(k:Rat):Prop where
 row:(zaz s r).2=true
 pos:0<k
 can:CanT b.ts
 var:∀t∈b.ts,t.1<s.q.g.inp+j
 co:∀w,co (zaz s r).1.ts w*k=c*((if s.q.g.inp+j=w then 1 else 0)-co b.ts w)
 wc:(zaz s r).1.c*k = -(c*b.c)
 br:Br k (C+5*B+10)
theorem zwk{B C:Nat}{s:Sc}(hs:SB B s){j:Nat}{p:Af}(hp:s.q.g.us[j]?=some p){c:Rat}(hc:c≠0)[hbc:Br c C]{b:Af}{r:Rw}{k:Rat}(h:zfM s j p c=some (b,r,k)):RpOk s B C j c b r k:=by
 have hj:=(zEr.1 hp).1;have hpo:=hs.q.g.us j p hp;have hpc:=hpo.can;have hpv:=hpo.var;have ha:=zvF hc;haveI hab:Br (zc6 c) (C+1):=znH hbc;have hzv:∀t∈fZ.ts,t.1<s.q.g.inp+j:=fun t ht=>by simp[fZ] at ht
 have habr:Br (zc6 c) (C+5*B+10):=hab.mono (by omega);have f5:=ze2 hp;have f6:=zjP hp;unfold zfM at h;split at h
 .rename_i hon;simp only[zEs,zEu] at h;obtain⟨rfl,rfl,rfl⟩:=h;by_cases hpos:0<c
  .rw[if_pos hpos];refine⟨by rw[f6],ha,hpc,hpv,fun w=>?_,?_,habr⟩
   .rw[f6,zhr hpos,zbc (zdJ _) hpc,zjh];grind
   .rw[f6,zhr hpos];simp only[zbQ,fV,m1];grind
  .rw[if_neg hpos];have f8:zaz s (zdi s j)=(zbQ p (fV (s.q.g.inp+j)),true):=by
    by_cases hd:zsB s j=true
    .rw[zkp hd];exact zoL hp hd
    .rw[zgY (by simpa using hd)];rcases zdU.1 hon with h1|h1
     .exact absurd h1 hd
     .obtain⟨y,hy,yu,yp,hly,hy0,hyl⟩:=zbj h1.1;exact ziO hp hy0 hy yu yp (by rw[<-hly];exact h1.2)
   refine⟨by rw[f8],ha,hpc,hpv,fun w=>?_,?_,habr⟩
   .rw[f8,zjY hpos,zbc hpc (zdJ _),zjh];grind
   .rw[f8,zjY hpos];simp only[zbQ,fV,m1];grind
 .rename_i hon;split at h
  .rename_i hoff;simp only[zEs,zEu] at h;obtain⟨rfl,rfl,rfl⟩:=h;by_cases hpos:0<c
   .rw[if_pos hpos];refine⟨by rw[f5],ha,trivial,hzv,fun w=>?_,?_,habr⟩
    .rw[f5,zhr hpos,zjh];show _=c*(_-0);grind
    .rw[f5,zhr hpos];simp only[fV,fZ];grind
   .rw[if_neg hpos];have f10:zaz s (zct s j)=(fSc (fV (s.q.g.inp+j)) ((-1:Int):Rat),true):=by
     by_cases hd:zsC s j=true
     .rw[zhQ hd];exact zmk hp hd
     .rw[zfj (by simpa using hd)];rcases zcc.1 hoff with h1|h1
      .exact absurd h1 hd
      .obtain⟨z,hz,zu,zp,hlz,hz0,hzl⟩:=zbu h1.1;exact zgu hp hz0 hz zu zp (by rw[<-hlz];exact h1.2)
    refine⟨by rw[f10],ha,trivial,hzv,fun w=>?_,?_,habr⟩
    .rw[f10,zjY hpos,zc3 (zdJ _),zjh,m1];show _=c*(_-0);grind
    .rw[f10,zjY hpos];simp only[fSc,fV,fZ,m1];grind
  .rename_i hoff;split at h
   .rename_i hpos;split at h
    .simp only[zEs,zEu] at h;obtain⟨rfl,rfl,rfl⟩:=h;refine⟨by rw[f6],ha,hpc,hpv,fun w=>?_,?_,habr⟩
     .rw[f6,zhr hpos,zbc (zdJ _) hpc,zjh];grind
     .rw[f6,zhr hpos];simp only[zbQ,fV,m1];grind
    .simp only[zEs,zEu] at h;obtain⟨rfl,rfl,rfl⟩:=h;refine⟨by rw[f5],ha,trivial,hzv,fun w=>?_,?_,habr⟩
     .rw[f5,zhr hpos,zjh];show _=c*(_-0);grind
     .rw[f5,zhr hpos];simp only[fV,fZ];grind
   .rename_i hneg;split at h
    .cases h
    .rename_i hlh;have hl:bLo s j≠0:=fun e=>hlh (.inl e);have hh:bHi s j≠0:=fun e=>hlh (.inr e);obtain⟨y,hy,yu,yp,hly,hy0,hyl⟩:=zbj hl;obtain⟨z,hz,zu,zp,hlz,hz0,hzl⟩:=zbu hh;haveI:=hs.B y (zEq hy);haveI:=hs.B z (zEq hz);have hl0:y.v.q<0:=by
      have:¬0<=y.v.q:=fun e=>hon (zdU.2 (.inr ⟨hl,by rw[hly];exact e⟩));grind
     have hu0:0<z.v.q:=by
      have:¬z.v.q<=0:=fun e=>hoff (zcc.2 (.inr ⟨hh,by rw[hlz];exact e⟩));grind
     have f13:=zgt hp hy0 hy yu yp hz0 hz zu zp hl0 hu0;simp only[zEs,zEu] at h;obtain⟨rfl,rfl,rfl⟩:=h;rw[hly,hlz];have h2:0<z.v.q-y.v.q:=by grind
     have h4:(z.v.q-y.v.q)*(z.v.q-y.v.q)⁻¹=1:=Rat.mul_inv_cancel _ (by grind);refine⟨by rw[f13],?_,zch (zb8 hpc),zfd (zm5 hpc hpv) (fun t ht=>by simp[fN] at ht),fun w=>?_,?_,?_⟩
     .rw[Rat.div_def];exact Rat.mul_pos ha (Rat.inv_pos.2 h2)
     .rw[f13,zjY hneg,zbc (zb8 (zbi hpc)) (zb8 (zdJ _)),zc3 (zbi hpc),zbc hpc (zdK _),zc3 (zdJ _),zjh,zji,zsI (zb8 hpc) (zdK _),zc3 hpc,zji];unfold zcE;rw[Rat.div_def,Rat.div_def];generalize (z.v.q-y.v.q)⁻¹=t at *;split <;> grind
     .rw[f13,zjY hneg];simp only[zbQ,fSc,fV,fN,zfz,m1];unfold zcE zcF;rw[Rat.div_def,Rat.div_def,Rat.div_def];generalize (z.v.q-y.v.q)⁻¹=t at *;grind
     .have hbr:Br (zc6 c/(z.v.q-y.v.q)) (C+1+(B+B+1+1)+1):=by
       haveI h7:Br z.v.q B:=inferInstance;haveI h8:Br y.v.q B:=inferInstance;haveI h9:Br (z.v.q-y.v.q) (B+B+1):=Br.sub;haveI h10:Br (zc6 c) (C+1):=hab;exact Br.div
      exact hbr.mono (by omega)
section
variable {s:Sc}
theorem zwl{K j:Nat}(hq:QOk s.q)(hK:∀m∈s.lems,m.unit=(j:Int)->Hb m.v.q K){p:Af}(hp:s.q.g.us[j]?=some p){c:Rat}{b:Af}{r:Rw}{k:Rat}(h:zfM s j p c=some (b,r,k)):Cd (2*K+11) (2*K+14) (s.q.g.inp+j) b:=by
 have hpo:=hq.g.us j p hp;have h1:Cd (2*K+11) (2*K+14) (s.q.g.inp+j) p:=hpo.cd.mono (by omega) (by omega) (zEt _);have h2:Cd (2*K+11) (2*K+14) (s.q.g.inp+j) fZ:=fZ_cd.mono (by omega) (by omega) (zEt _);unfold zfM at h;split at h
 .simp only[zEs,zEu] at h;rw[<-h.1];exact h1
 .rename_i hon;split at h
  .simp only[zEs,zEu] at h;rw[<-h.1];exact h2
  .rename_i hoff;split at h
   .split at h
    .simp only[zEs,zEu] at h;rw[<-h.1];exact h1
    .simp only[zEs,zEu] at h;rw[<-h.1];exact h2
   .split at h
    .cases h
    .rename_i hlh;have hl:bLo s j≠0:=fun e=>hlh (.inl e);have hh:bHi s j≠0:=fun e=>hlh (.inr e);obtain⟨y,hy,yu,yp,hly,hy0,hyl⟩:=zbj hl;obtain⟨z,hz,zu,zp,hlz,hz0,hzl⟩:=zbu hh;have hl0:y.v.q<0:=by
      have:¬0<=y.v.q:=fun e=>hon (zdU.2 (.inr ⟨hl,by rw[hly];exact e⟩));grind
     have hu0:0<z.v.q:=by
      have:¬z.v.q<=0:=fun e=>hoff (zcc.2 (.inr ⟨hh,by rw[hlz];exact e⟩));grind
     obtain⟨E,e1,e2,e3,e4⟩:=zx4 hl0 hu0 (hK y (zEq hy) yu) (hK z (zEq hz) zu);simp only[zEs,zEu] at h;rw[<-h.1,hly,hlz];exact(hpo.cd.line e1 e2 e3 e4).mono (by omega) (by omega) (zEt _)
def bS(kf:Nat->Nat):Nat->Nat
 |0=>0
 |i+1=>bS kf i+2*kf i+15
theorem ztk(kf:Nat->Nat){a b:Nat}(h:a<=b):bS kf a<=bS kf b:=by
 induction b with
 |zero=>
      have:a=0:=by omega
      subst this;exact zEt _
 |succ b ih=>
  by_cases e:a=b+1
  .subst e;exact zEt _
  .have:=ih (by omega);simp only[bS];omega
@[reducible] def bX(d B:Nat)(kf:Nat->Nat)(top:Nat):Nat:=d+1+bS kf top+5*B+12
structure BkI(s:Sc)(d B:Nat)(kf:Nat->Nat)(top:Nat)(f:Af)(m:Nat)(g:Af)(l:List Mu):Prop where
 cd:∃b,b+bS kf m<=d+bS kf top/\Cd b b (s.q.g.inp+m) g
 ok:∀x∈l,(zaz s x.r).2=true
 can:CanM l
 bd:MB ((top-m)*bX d B kf top) l
 len:l.length+m<=top
 co:∀w,W (coR s w) l=co f.ts w-Rc.co g.ts w
 wc:W (zhg s) l=f.c-g.c
theorem FOk.cq{m:Nat}{f:Af}(h:FOk 3 m f):Cd 13 13 m f:=h.cd.mono (by omega) (zEt _) (zEt _)
theorem Cd.drop{d n v:Nat}{f:Af}(h:Cd d n (v+1) f)(h0:co f.ts v=0):Cd d n v f:=by
 refine⟨h.can,fun t ht=>?_,h.cd⟩;have h1:=h.var t ht;have h2:=zfE h.can ht;obtain⟨i,hi⟩:=zfQ ht;have h3:=(h.can.get hi).1;by_cases e:t.1=v
 .rw[e,h0] at h2;exact absurd h2.symm h3
 .omega
theorem zk0{f:Af}{top:Nat}(ht:top<=s.q.g.us.length)(hf:CanT f.ts)(hv:∀t∈f.ts,t.1<s.q.g.inp+top):∀n,n<=s.q.g.us.length-top->bkN s f n=some (f,[])
 |0,_=>rfl
 |n+1,hn=>by
  rw[zgB,zk0 ht hf hv n (by omega)];obtain⟨p,hp⟩:∃p,s.q.g.us[s.q.g.us.length-1-n]?=some p:=⟨_,zEp (by omega)⟩;refine zgA hp ?_;apply Classical.byContradiction;intro hne;obtain⟨t,h1,h2⟩:=zjU hne;have:=hv t h1;omega
theorem znF{B:Nat}(hs:SB B s){kf:Nat->Nat}(hK:∀m∈s.lems,∀j:Nat,m.unit=(j:Int)->Hb m.v.q (kf j)){f:Af}{d top:Nat}(ht:top<=s.q.g.us.length)(hf:Cd d d (s.q.g.inp+top) f) :
  ∀k,k<=top->∀g l,bkN s f (s.q.g.us.length-top+k)=some (g,l)->BkI s d B kf top f (top-k) g l
 |0,_,g,l,h=>by
  rw[Nat.add_zero,zk0 ht hf.can hf.var _ (zEt _)] at h;simp only[zEs,zEu] at h;obtain⟨rfl,rfl⟩:=h;exact⟨⟨d,by rw[Nat.sub_zero];omega,Cd.mono hf (by omega) (by omega) (by omega)⟩,fun x hx=>by simp at hx,trivial,fun x hx=>by simp at hx,by simp,fun w=>by show(0:Rat)=_;grind,by show(0:Rat)=_;grind⟩
 |k+1,hk,g,l,h=>by
  rw[<-Nat.add_assoc,zgB] at h;have hj:s.q.g.us.length-1-(s.q.g.us.length-top+k)=top-(k+1):=by omega
  rw[hj] at h
  cases ho:bkN s f (s.q.g.us.length-top+k) with
  |none=>rw[ho] at h;cases h
  |some a=>
   obtain⟨g0,l0⟩:=a;rw[ho] at h;have ih:=znF hs hK ht hf k (by omega) g0 l0 ho;obtain⟨m,hm⟩:∃m,top-k=m+1:=⟨top-k-1,by omega⟩;have hm2:top-(k+1)=m:=by omega
   rw[hm] at ih;rw[hm2] at h ⊢;obtain⟨b,hb1,hb2⟩:=ih.cd;simp only[bS] at hb1;have hb2:Cd b b (s.q.g.inp+m+1) g0:=hb2;obtain⟨p,hp⟩:∃p,s.q.g.us[m]?=some p:=⟨_,zEp (by omega)⟩;have hlen:=ih.len;have hmul:(top-(m+1))*bX d B kf top<=(top-m)*bX d B kf top:=zEA _ (by omega);by_cases h0:co g0.ts (s.q.g.inp+m)=0
   .rw[zgA hp h0] at h;simp only[zEs,zEu] at h;obtain⟨rfl,rfl⟩:=h;exact⟨⟨b,by omega,hb2.drop h0⟩,ih.ok,ih.can,ih.bd.mono hmul,by omega,ih.co,ih.wc⟩
   .cases hr:zfM s m p (co g0.ts (s.q.g.inp+m)) with
    |none=>rw[zh3 hp h0 hr] at h;cases h
    |some a=>
     obtain⟨b',r,c⟩:=a;rw[zci hp h0 hr] at h;simp only[zEs,zEu] at h;obtain⟨rfl,rfl⟩:=h;have hcd:=zwl hs.q (fun x hx hu=>hK x hx m hu) hp hr;have hfk:=hb2.fok;haveI hcb:Br (co g0.ts (s.q.g.inp+m)) (b+1):=by
      obtain⟨t,h1,h2⟩:=zjU h0;rw[<-h2,zfE hb2.can h1];exact((hfk.bd t h1).mono (by omega)).br
     have hro:=zwk (C:=b+1) hs hp h0 hr;refine⟨⟨b+2*kf m+15,by omega,(hb2.sub hcd).mono (by omega) (by omega) (zEt _)⟩,fun x hx=>?_,ziv (Rat.le_of_lt hro.pos) ih.can,?_,?_,fun w=>?_,?_⟩
     .rcases zl1 hx with e|hx
      .rw[e];exact hro.row
      .exact ih.ok x hx
     .haveI:=hro.br;refine(zol (C:=b+1+5*B+10) ih.bd).mono ?_;have:(top-m)*bX d B kf top=(top-(m+1))*bX d B kf top+bX d B kf top:=by
       rw[show top-m=top-(m+1)+1 by omega,Nat.succ_mul]
      rw[this];unfold bX;omega
     .have:=zl2 l0 r c;omega
     .rw[zpg,ih.co w,zsF hb2.can hcd.can];have h1:=hro.co w;show _+c*co (zaz s r).1.ts w=_;by_cases e:w=s.q.g.inp+m
      .subst e;rw[if_pos rfl] at h1 ⊢;clear ih hro hcd hb2 hfk hs hK hf;grind
      .rw[if_neg (fun e2=>e e2.symm)] at h1;rw[if_neg e];clear ih hro hcd hb2 hfk hs hK hf;grind
     .rw[zpg,ih.wc,zwe];have h1:=hro.wc;show _+c*(zaz s r).1.c=_;grind
theorem zs1{B:Nat}(hs:SB B s){g:Af}(hv:∀t∈g.ts,t.1<s.q.g.inp){D n:Nat}(hd:∀t∈g.ts,Nd D n t.2)(hc:Nd D n g.c):∀k,k<=g.ts.length->∃x l,zhE s g k=some (x,l)/\∃E,0<E/\E<2^(201*k+1)/\Nd (D*E) (n+202*k+1) x
 |0,_=>⟨g.c,[],rfl,1,by decide,by decide,by rw[Nat.mul_one];exact hc.mono (by omega)⟩
 |k+1,hk=>by
  obtain⟨t,ht⟩:∃t,g.ts[k]?=some t:=⟨_,zEp (by omega)⟩;have htm:=zEq ht;have htv:=hv t htm;obtain⟨x,l,h1,E,e1,e2,e3⟩:=zs1 hs hv hd hc k (by omega);rw[zc4 ht,h1];unfold zmD zi0;simp only;rw[if_pos htv];have hb:=(zmf hs htv (decide (t.2<0)) s.path.length (zEt _)).hb;have hb:Hb (zhV s t.1 (decide (t.2<0))).1 200:=hb;refine⟨_,_,rfl,E*(zhV s t.1 (decide (t.2<0))).1.den,Nat.mul_pos e1 (Rat.den_pos _),?_,?_⟩
  .have:(zhV s t.1 (decide (t.2<0))).1.den<2^201:=zEQ hb.den (zEV (by decide) (by decide));rw[show 201*(k+1)+1=201*k+1+201 by omega,zEJ];exact Nat.mul_lt_mul'' e2 this
  .rw[zaj,<-Nat.mul_assoc];have hden:(zhV s t.1 (decide (t.2<0))).1.den<2^201:=zEQ hb.den (zEV (by decide) (by decide));have q1:=e3.up hden;have q2:=((hd t htm).mul hb.nd).up e2;have q3:Nd (D*E*(zhV s t.1 (decide (t.2<0))).1.den) (n+200+(201*k+1)) (t.2*(zhV s t.1 (decide (t.2<0))).1):=by
    rw[Nat.mul_assoc,zEU E,<-Nat.mul_assoc];exact q2
   exact(Nd.add (q1.mono (show _<=n+202*k+202 by omega)) (q3.mono (by omega))).mono (by omega)
theorem zs2{B:Nat}(hs:SB B s){g:Af}{b:Nat}(hg:Cd b b s.q.g.inp g):∃x l,zlh s g=some (x,l)/\Hb x (b+610):=by
 obtain⟨D,a1,a2,a3,a4⟩:=hg.cd;obtain⟨x,l,h1,E,e1,e2,e3⟩:=zs1 hs hg.var (fun t ht=>by rw[<-zfE hg.can ht];exact a3 t.1) a4 g.ts.length (zEt _);have h3:g.ts.length<=3:=by
  have:=hs.q.g.i3;have:=hg.fok.len;omega
 refine⟨x,l,h1,?_⟩;have hDE:D*E<2^(b+(201*g.ts.length+1)):=by rw[zEJ];exact Nat.mul_lt_mul'' a2 e2
 exact(e3.hb (Nat.mul_pos a1 e1) hDE).mono (by omega)
structure SyOk(s:Sc)(d B:Nat)(kf:Nat->Nat)(top:Nat)(f:Af)(x:Rat)(l:List Mu):Prop where
 der:DerOk s (4*bX d B kf top+6*(3*(8*B+2*(d+1+bS kf top)+40)+4)) 10 l
 sum:zqr s f x l
 hb:Hb x (d+610+bS kf top)
theorem zqK{B:Nat}(hs:SB B s){kf:Nat->Nat}(hK:∀m∈s.lems,∀j:Nat,m.unit=(j:Int)->Hb m.v.q (kf j)){f:Af}{d top:Nat}(ht:top<=s.q.g.us.length)(hf:Cd d d (s.q.g.inp+top) f){g:Af}{l:List Mu}(h:bkO s f=some (g,l)) :
  ∃x m,zlh s g=some (x,m)/\SyOk s d B kf top f x (zaU l m ((1:Int):Rat)):=by
 have hu4:=hs.q.g.u4;have hi3:=hs.q.g.i3;have h0:=znF hs hK ht hf top (zEt _) g l (by rw[show s.q.g.us.length-top+top=s.q.g.us.length by omega];exact h);rw[Nat.sub_self] at h0;obtain⟨b,hb1,hb2⟩:=h0.cd;simp only[bS,Nat.add_zero] at hb1 hb2;obtain⟨x,m,h1,h2⟩:=zs2 hs hb2;have hfl:FL (b+1) (s.q.g.inp+s.q.g.us.length) g:=(hb2.fok.mono (c:=b) (by omega) (show s.q.g.inp<=s.q.g.inp+s.q.g.us.length by omega)).fl;have hall:=zo5 hs hfl h1;have hgl:g.ts.length<=3:=by have:=hb2.fok.len;omega
 refine⟨x,m,h1,⟨zgl (P:=fun r=>(zaz s r).2=true) h0.ok hall.der.ok,zfk (by decide) h0.can (fun y hy=>(hall.der.can.pos y hy).1),?_,?_⟩,?_,h2.mono (by omega)⟩
 .haveI:Br ((1:Int):Rat) 2:=Br.int2 (by decide) (by decide);refine(zei h0.bd hall.der.bd).mono ?_;have q1:(top-0)*bX d B kf top<=4*bX d B kf top:=zEA _ (by omega);have q3:g.ts.length*(8*B+2*(b+1)+40)<=3*(8*B+2*(d+1+bS kf top)+40):=Nat.mul_le_mul hgl (by omega);have q2:m.length*(g.ts.length*(8*B+2*(b+1)+40)+2+2)<=6*(3*(8*B+2*(d+1+bS kf top)+40)+4):=Nat.mul_le_mul (by have:=hall.der.len;omega) (by omega);omega
 .have q1:=zdo m l ((1:Int):Rat);have q2:=h0.len;have q3:=hall.der.len;omega
 .refine zwX hs hf.can (fun w=>?_) ?_
  .rw[zeB,h0.co w,hall.co w,zoY hfl.can];grind
  .rw[zeB,h0.wc,hall.wc];grind
end
end Rc
