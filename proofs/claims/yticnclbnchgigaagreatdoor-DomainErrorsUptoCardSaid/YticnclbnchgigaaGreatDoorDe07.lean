/- Parts of the proof, 7: the texts WkJ, WkQ, WkR, WkS, WkT, Feed, WkU, WkV, WkW, Mod, FactsE, WlA, WlB, WlC, WlD, WkX, WlE, WlF, Row, WlG, WlH, as far as they are used. -/
import Derived.Test.YticnclbnchgigaaGreatDoorDe06
set_option linter.unusedSimpArgs false
set_option linter.unusedVariables false
set_option maxRecDepth 10000
namespace Go.Proofs.YticnclbnchgigaaGreatDoor
open Go Go.RowKit Rc
theorem zik(x y:Qr):Ctr Tryz.prog 9 [qV x,qV y] (R.one (V.one (Leaf.val (.bool (zjm x y))))):=by
 refine bd_ Tryz.func9 Tryz.ntmps9 rfl (fun w0 A0=>?_);refine zc 13 rfl (tq_ rfl (zaF rfl rfl rfl un4 (d:=_) (rfl)) (zl 1 rfl ?_));refine zec rfl (fun hb10=>?_) (fun hb10=>?_)
 .refine zl 16 rfl ?_;exact r1_ hq_ rfl (by simp[zjm, *])
 .refine zl 4 rfl (tc_ fn27 rfl (zid x.n y.n) (zl 2 rfl ?_));refine zec rfl (fun hb17=>?_) (fun hb17=>?_)
  .refine zl 9 rfl ?_;exact r1_ hq_ rfl (by simp[zjm, *])
  .refine zl 4 rfl (tc_ fn27 rfl (zid x.d y.d) (zl 4 rfl ?_));exact r1_ hq_ rfl (by simp[zjm, *])
theorem zcp(x:Qr)(r:Rat)(hr:x.q=r)(hfx:Fit 1000000000000 x):Ctr Tryz.prog 48 [qV x] (R.one (V.one (Leaf.val (.bool (isC x))))):=by
 refine bd_ Tryz.func48 Tryz.ntmps48 rfl (fun w0 A0=>?_);haveI ir:Br r 1000000000000:=Br.fitq hr hfx;refine zc 7 rfl (dr_ 0 [] [] (dz 2 rfl (kc_ zsU rfl (zdZ x (r) hr (hfx.mono (by omega))) (kc_ fn9 rfl (zik x (qOf (r))) (dz 1 rfl (zad (za 1 rfl ?_)))))));exact r1_ hq_ rfl (by subst hr;rfl)
theorem zdS(x:Qr)(r:Rat)(hr:x.q=r)(hfx:Fit 1000000000000 x):Ctr Tryz.prog 58 [qV x] (R.one (V.one (Leaf.val (.bool (isC x))))):=by
 refine bd_ Tryz.func58 Tryz.ntmps58 rfl (fun w0 A0=>?_);haveI ir:Br r 1000000000000:=Br.fitq hr hfx;refine zc 11 rfl (tq_ rfl (jln rfl) ?_);by_cases h0:x.d.length=0
 .refine tq_ rfl (eqT rfl) (zl 7 rfl (tc_ fn87 rfl (zlm x.n) (zl 1 rfl ?_)));refine zec rfl (fun hb11=>?_) (fun hb11=>?_)
  .refine zl 13 rfl ?_;exact r1_ hq_ rfl (by rw[zjF h0];simp[*])
  .refine zl 4 rfl ?_;refine zec rfl (fun hb15=>?_) (fun hb15=>?_)
   .refine zl 2 rfl (tq_ rfl (jln rfl) (zl 6 rfl ?_));exact r1_ hq_ rfl (by rw[zjF h0];simp[*])
   .refine zl 9 rfl ?_;exact r1_ hq_ rfl (by rw[zjF h0];simp[*])
 .refine tq_ rfl (eqF rfl) (zl 8 rfl (tc_ zsX rfl (zfQ x (r) hr (hfx.mono (by omega))) (zl 10 rfl (tq_ rfl (zaF rfl rfl rfl un4 (d:=_) (rfl)) (zl 1 rfl ?_)))));refine zec rfl (fun hb29=>?_) (fun hb29=>?_)
  .refine zl 24 rfl (zl 12 rfl ?_);exact r1_ hq_ rfl (by rw[zf2,hr];simp[*])
  .refine zl 2 rfl (tq_ rfl (jln rfl) (zl 2 rfl (tq_ rfl (jln rfl) (zl 3 rfl ?_))));refine zec rfl (fun hb38=>?_) (fun hb38=>?_)
   .refine zl 24 rfl (zl 3 rfl ?_);exact r1_ hq_ rfl (by rw[zf2,hr];simp[*])
   .refine zl 2 rfl (tq_ rfl (jln rfl) (zl 2 rfl (tq_ rfl (jln rfl) (zl 3 rfl ?_))));refine zec rfl (fun hb47=>?_) (fun hb47=>?_)
    .refine zl 18 rfl ?_;exact r1_ hq_ rfl (by rw[zf2,hr];simp[*])
    .refine zl 4 rfl (tc_ zpH rfl (zjL x.n x.hn (zab (zaV r)) (zaa _) (val x.n) rfl (zaV r) (zac _)) (zl 3 rfl ?_));refine zec rfl (fun hb55=>?_) (fun hb55=>?_)
     .refine zl 10 rfl ?_;exact r1_ hq_ rfl (by rw[zf2,hr];simp[*])
     .refine zl 4 rfl (tc_ zpH rfl (zjL x.d x.hd (zab (zaW r)) (zaa _) (val x.d) rfl (zaW r) (zac _)) (zl 5 rfl ?_));exact r1_ hq_ rfl (by rw[zf2,hr];simp[*])
theorem zus(x:Zr)(z:Int)(hz:x.z=z)(hfx:x.m.length<=1000000000000)(y:Zr)(w:Int)(hw:y.z=w)(hfy:y.m.length<=1000000000000)(hw1:w≠0):Ctr Tryz.prog 105 [zV x,zV y] (R.tup [qV (qOf ((z:Rat)/(w:Rat))),V.one (Leaf.val (.int .i64 0))]):=by
 refine bd_ Tryz.func105 Tryz.ntmps105 rfl (fun w0 A0=>?_);haveI ix:Bn (val x.m) 1000000000000:=Bn.val x.hm hfx;haveI iy:Bn (val y.m) 1000000000000:=Bn.val y.hm hfy;have hw0:val y.m≠0:=fun e=>hw1 (by rw[<-hw];unfold Zr.z;rw[e];cases y.neg <;> rfl);refine zc 12 rfl (tc_ fn75 rfl (zqO y (w) hw (zxk hfy (by omega))) (tq_ rfl (eqF rfl (zqN hw1)) (zl 11 rfl (tq_ rfl (zbP rfl rfl rfl un4 (d:=_) (rfl)) (zl 4 rfl (tc_ zvY rfl (zil (x.neg != y.neg) x.m y.m x.hm y.hm (by omega) (by omega) (val x.m) (val y.m) rfl rfl hw0) (zl 4 rfl ?_)))))));exact r2_ hq_ rfl (by subst hz;subst hw;unfold Zr.z;rw[<-zmU _ _ _ _ hw0] <;> rfl)
theorem zl6(z:Int)(h1:-9223372036854775808<=z)(h2:z<=9223372036854775807):Ctr Tryz.prog 8 [V.one (Leaf.val (.int .i64 z))] (R.one (qV (qOf (z:Rat)))):=by
 refine bd_ Tryz.func8 Tryz.ntmps8 rfl (fun w0 A0=>?_);refine zc 8 rfl (tc_ fn26 rfl (rzof (z) (by omega) (by omega)) (zl 14 rfl ?_));exact r1_ hq_ rfl (congrArg R.one (zsc z))
theorem zut(z w:Int)(h1:-9223372036854775808<=z)(h2:z<=9223372036854775807)(h3:-9223372036854775808<=w)(h4:w<=9223372036854775807)(h5:w≠0):Ctr Tryz.prog 78 [V.one (Leaf.val (.int .i64 z)),V.one (Leaf.val (.int .i64 w))] (R.tup [qV (qOf ((z:Rat)/(w:Rat))),V.one (Leaf.val (.int .i64 0))]):=by
 refine bd_ Tryz.func78 Tryz.ntmps78 rfl (fun w0 A0=>?_);refine zc 9 rfl (tc_ fn26 rfl (rzof (z) (by omega) (by omega)) (zl 1 rfl (tc_ fn26 rfl (rzof (w) (by omega) (by omega)) (tc_ fn105 rfl (zus (zOf z) z (zgz _) (Bn.of_lt (by omega) (by omega)) (zOf w) w (zgz _) (Bn.of_lt (by omega) (by omega)) h5) (zl 6 rfl ?_)))));exact r2_ hq_ rfl rfl
theorem zbB(l:List Tm)(hl:l.length<=1000000)(v:Nat)(c:Rat){B:Nat}[Br c B](hB:B<=400000000000):CtrO Tryz.prog 85 53 4 (El.all tmE l) (El.all tmE (nz l (v,c))) [V.one (Leaf.own 0 0),V.agg (tmE.f (v,c))] (fun n=>V.one (Leaf.own 0 n)):=by
 refine CtrO.of_body Tryz.func85 rfl Tryz.ntmps85 (zxh rfl) (fun w0 A0=>?_);refine qc_ (zc 11 rfl (tc_ zhU rfl (zb2 (qOf (c)) (c) (zao _) (Br.use (by omega))) ?_));by_cases hc0:c=0
 .refine tq_ rfl (eqT rfl (by rw[hc0];rfl)) (zl 9 rfl ?_);exact zhN (fun _ _ h=>h) rfl rfl rfl rfl (by rw[zfa hc0]) (hcl:=by first|rfl|exact El.all_cl _ _)
 .refine tq_ rfl (eqF rfl (zfi hc0)) (zl 9 rfl (te_ rfl (zag rfl zj8 zl5 zug rfl (by decide) (by decide) rfl (by decide) rfl) (te_ rfl (jap (v,c) rfl rfl) (zl 3 rfl ?_))));exact zhN (fun _ _ h=>h) rfl rfl rfl rfl (by rw[zdw hc0]) (hcl:=by first|rfl|exact El.all_cl _ _)
theorem zuq(f:Af)(c:Rat){B C:Nat}(hB:∀t∈f.ts,Br t.2 B)[Br f.c B][Br c C](hBC:B+C<=300000000000)(hl:f.ts.length<=1000):Ctr Tryz.prog 55 [afV f,V.agg (qL (c))] (R.one (afV ⟨scT f.ts c,f.c*c⟩)):=by
 refine bd_ Tryz.func55 Tryz.ntmps55 rfl (fun w0 A0=>?_);refine zc 12 rfl (tc_ zwY rfl (zpb (qOf (f.c)) (f.c) (zao _) (Br.use (by omega)) (qOf (c)) (c) (zao _) (Br.use (by omega))) (tq_ rfl (zfC rfl zwU rfl pl35 rfl) (te_ rfl (zdP (n:=3) rfl zwU rfl) (zl 5 rfl ?_))));refine zdi 3 53 4 (ls':=[Leaf.own 4 0,Leaf.val (.bool (zbx ((f.c)*(c)))),zaf (zab (zaV ((f.c)*(c)))),zaf (zab (zaW ((f.c)*(c))))]) rfl rfl rfl ⟨.inr ⟨rfl,rfl⟩,.inl rfl,.inl rfl,.inl rfl,trivial⟩ (zc 5 rfl ?_);refine zbO (fun m Γ H=>∃(i:Nat) (n:Nat) (out:List Tm),f.ts.length-i=m/\Γ=[(2,some (D.ptr 0 0)),(3,some (D.ptr 1 0)),(4,some (D.ptr 2 0)),(5,some (D.ptr 3 0)),(6,some (D.val (.int .i64 (i:Int))))]/\H=[hb_ 35 (afL f),hb_ 33 (qL c),hb_ 35 [El.row tmE ([]),Leaf.val (.bool false),zaf ([]),zaf ([])],hb_ 35 [Leaf.own 4 n,Leaf.val (.bool (zbx (f.c*c))),zaf (zab (zaV (f.c*c))),zaf (zab (zaW (f.c*c)))],hgr 53 4 tmE out n]/\i<=f.ts.length/\out=scT (f.ts.take i) c) ⟨0,0,[],rfl,rfl,rfl,zxg _,rfl⟩ rfl ?_;rintro m Γ H ⟨i,n,out,rfl,rfl,rfl,hi0,hout⟩;refine zc 6 rfl (tq_ rfl (jln rfl) ?_);by_cases hi:i<f.ts.length
 .refine tq_ rfl (ltT rfl) (zl 7 rfl ?_);obtain⟨x,hx⟩:∃x,f.ts[i]?=some x:=⟨_,zxa hi⟩;haveI hbx:=hB x (zxb hx);have hlo:out.length<=1000:=by rw[hout];exact zxk (zmD _ _) (by simp;omega)
  refine dr_ 0 [(17,4),(19,3)] [4,3] (dz 1 rfl (kp_ [4] rfl (jld rfl) (dz 3 rfl (kq_ rfl (jix i hx rfl) (kq_ rfl (jfr rfl) (kq_ rfl (jli rfl) (dz 3 rfl (kq_ rfl (jix i hx rfl) (kq_ rfl (jfr rfl) ?_)))))))));refine kq_ rfl (jlr rfl) (dz 1 rfl (kc_ zwY rfl (zpb (qOf (x.2)) (x.2) (zao _) (Br.use (by omega)) (qOf (c)) (c) (zao _) (Br.use (by omega))) (dz 1 rfl ?_)));refine ki_ 4 rfl (zdQ (r:=4) (ys:=[V.one (Leaf.own 4 n),V.agg [Leaf.val (.int .i64 ((x.1:Nat):Int)),Leaf.val (.bool (zbx ((x.2)*(c)))),zaf (zab (zaV ((x.2)*(c)))),zaf (zab (zaW ((x.2)*(c))))]]) (V.one (Leaf.own 4 (n+1))) rfl zsS rfl rfl (zbB out (by omega) x.1 ((x.2)*(c)) (by omega)) (zfm _ _)) (dz 2 rfl (zad (za 4 rfl ?_)));refine tq_ rfl (jad (i+1) rfl) (zl 2 rfl ?_);exact nx_ ⟨i+1,_,_,rfl,rfl,rfl,hi,by rw[hout,zo6 hx]⟩ rfl
 .refine tq_ rfl (ltF rfl) (zl 9 rfl ?_);have hie:i=f.ts.length:=by omega
  rw[hie,zxx] at hout;refine zc 5 rfl (zcj 2 (ls':=[El.row tmE out,Leaf.val (.bool (zbx (f.c*c))),zaf (zab (zaV (f.c*c))),zaf (zab (zaW (f.c*c)))]) rfl rfl (RowAt.ofE tmE out rfl (by decide)) ⟨.inr ⟨rfl,rfl⟩,.inl rfl,.inl rfl,.inl rfl,trivial⟩ ?_);exact r1_ hq_ rfl (by rw[<-hout])
theorem zup(v:Nat)(hv:v<=1000000):Ctr Tryz.prog 56 [V.one (Leaf.val (.int .i64 ((v:Int))))] (R.one (afV ⟨[(v,((1:Int):Rat))],0⟩)):=by
 refine bd_ Tryz.func56 Tryz.ntmps56 rfl (fun w0 A0=>?_);refine zc 8 rfl (tc_ fn8 rfl (zl6 1 (by decide) (by decide)) (zl 1 rfl (te_ rfl (zag rfl zj8 zl5 zug rfl (by decide) (by decide) rfl (by decide) rfl) (zl 4 rfl ?_))));exact r1_ hq_ rfl (by rw[af0] <;> rfl)
theorem zeJ(c:Rat):Ctr Tryz.prog 159 [V.agg (qL (c))] (R.one (afV ⟨[],c⟩)):=by
 refine bd_ Tryz.func159 Tryz.ntmps159 rfl (fun w0 A0=>?_);refine zc 13 rfl ?_;exact r1_ hq_ rfl rfl
theorem zmH(f:Af)(vars:Nat){B:Nat}(hcan:CanT f.ts)(hB:∀t∈f.ts,Br t.2 B)[Br f.c B](hBC:B<=300000000000)(hl:f.ts.length<=1000)(hv:vars<=1000000):Ctr Tryz.prog 24 [afV f,V.one (Leaf.val (.int .i64 ((vars:Int))))] (R.one (V.one (Leaf.val (.bool (decide (∀t∈f.ts,t.1<vars)))))):=by
 refine bd_ Tryz.func24 Tryz.ntmps24 rfl (fun w0 A0=>?_);refine zc 13 rfl (zbO (fun m Γ H=>∃(i:Nat),f.ts.length-i=m/\Γ=[(1,some (D.val (.int .i64 (vars:Int)))),(2,some (D.ptr 0 0)),(5,some (D.val (.int .i64 (i:Int))))]/\H=[hb_ 35 (afL f)]/\i<=f.ts.length/\∀t∈f.ts.take i,t.1<vars) ⟨0,rfl,rfl,rfl,zxg _,by simp⟩ rfl ?_);rintro m Γ H ⟨i,rfl,rfl,rfl,hi0,hall⟩;refine zc 6 rfl (tq_ rfl (jln rfl) ?_);by_cases hi:i<f.ts.length
 .refine tq_ rfl (ltT rfl) (zl 8 rfl ?_);obtain⟨x,hx⟩:∃x,f.ts[i]?=some x:=⟨_,zxa hi⟩;haveI hbx:=hB x (zxb hx);obtain⟨hn0,hgt,hlt⟩:=hcan.get hx;refine zc 4 rfl (tq_ rfl (jix i hx rfl) (tq_ rfl (jlr rfl) (zl 5 rfl (dr_ 0 [] [] (dz 2 rfl (kq_ rfl (ltF rfl) (dz 4 rfl ?_)))))));by_cases hvx:vars<=x.1
  .refine kq_ rfl (geT rfl) (dz 24 rfl (dz 5 rfl (zad (za 7 rfl ?_))));exact r1_ hq_ rfl (by rw[ztm hx hvx])
  .refine kq_ rfl (geF rfl) (dz 3 rfl ?_);by_cases hi1:0<i
   .refine kq_ rfl (gtT rfl) (dz 4 rfl ?_);obtain⟨y,hy⟩:∃y,f.ts[i-1]?=some y:=⟨_,zxa (by omega)⟩;have hyx:=hcan.prev hi1 hx hy;refine kq_ rfl (jsb (i-1) rfl) (kq_ rfl (jix (i-1) hy rfl) (kq_ rfl (jfr rfl) (kq_ rfl (jli rfl) (dz 2 rfl (kq_ rfl (geF rfl) (dz 5 rfl (kc_ zhU rfl (zb2 (qOf (x.2)) (x.2) (zao _) (Br.use (by omega))) (kq_ rfl (eqF rfl (zfi hn0)) (dz 4 rfl ?_)))))))));refine kc_ znO rfl (zcp (qOf (x.2)) (x.2) (zao _) (Br.use (by omega))) (zgy true rfl (zdz _) (dz 2 rfl (zad (za 5 rfl ?_))));have hvx:x.1<vars:=by omega
    refine zc 2 rfl (tq_ rfl (jad (i+1) rfl) (zl 2 rfl (zan 1 (zbq 1 rfl ?_))));exact nx_ ⟨i+1,rfl,rfl,rfl,hi,zkb hx hall hvx⟩ rfl
   .refine kq_ rfl (gtF rfl) (dz 16 rfl (kc_ zhU rfl (zb2 (qOf (x.2)) (x.2) (zao _) (Br.use (by omega))) (kq_ rfl (eqF rfl (zfi hn0)) (dz 4 rfl (kc_ znO rfl (zcp (qOf (x.2)) (x.2) (zao _) (Br.use (by omega))) (zgy true rfl (zdz _) (dz 2 rfl (zad (za 5 rfl ?_)))))))));have hvx:x.1<vars:=by omega
    refine zc 2 rfl (tq_ rfl (jad (i+1) rfl) (zl 2 rfl (zan 1 (zbq 1 rfl ?_))));exact nx_ ⟨i+1,rfl,rfl,rfl,hi,zkb hx hall hvx⟩ rfl
 .refine tq_ rfl (ltF rfl) (zl 9 rfl ?_);have hie:i=f.ts.length:=by omega
  rw[hie,zxx] at hall;refine zc 3 rfl (tc_ znO rfl (zcp (qOf (f.c)) (f.c) (zao _) (Br.use (by omega))) (is_ true rfl (zdz _) (zl 3 rfl ?_)));exact r1_ hq_ rfl (by rw[decide_eq_true hall])
theorem rplus(f:Af)(v:Nat)(c:Rat){B C:Nat}(hcan:CanT f.ts)(hB:∀t∈f.ts,Br t.2 B)[Br c C](hBC:B+C<=300000000000)(hl:f.ts.length<=1000)(hv:v<=1000000):Ctr Tryz.prog 83 [afV f,V.one (Leaf.val (.int .i64 ((v:Int)))),V.agg (qL (c))] (R.one (afV ⟨zc5 f.ts v c,f.c⟩)):=by
 refine bd_ Tryz.func83 Tryz.ntmps83 rfl (fun w0 A0=>?_);refine zc 9 rfl (tq_ rfl (zex rfl (rfl)) (zl 3 rfl (zqj 7 53 4 rfl rfl (zc 11 rfl ?_))));refine zbO (fun m Γ H=>∃(i:Nat) (n:Nat) (out:List Tm) (done:Bool),f.ts.length-i=m/\Γ=[(1,some (D.val (.int .i64 (v:Int)))),(3,some (D.ptr 0 0)),(5,some (D.ptr 1 0)),(6,some (D.ptr 2 0)),(7,some (D.v (V.one (Leaf.own 3 n)))),(8,some (D.bool done)),(9,some (D.val (.int .i64 (i:Int))))]/\H=[hb_ 35 (afL f),hb_ 33 (qL c),hb_ 35 [El.row tmE ([]),Leaf.val (.bool false),zaf ([]),zaf ([])],hgr 53 4 tmE out n]/\i<=f.ts.length/\out.length<=2*i/\PlI f.ts v c i out done) ⟨0,0,[],false,rfl,rfl,rfl,zxg _,zxg _,PlI.start _ _ _⟩ rfl ?_;rintro m Γ H ⟨i,n,out,done,rfl,rfl,rfl,hi0,hol,hI⟩;refine zc 6 rfl (tq_ rfl (jln rfl) ?_);by_cases hi:i<f.ts.length
 .refine tq_ rfl (ltT rfl) (zl 8 rfl ?_);obtain⟨x,hx⟩:∃x,f.ts[i]?=some x:=⟨_,zxa hi⟩;haveI hbx:=hB x (zxb hx);obtain⟨hn0,hgt,hlt⟩:=hcan.get hx;refine zc 4 rfl (tq_ rfl (jix i hx rfl) (tq_ rfl (jlr rfl) (zl 10 rfl ?_)));by_cases hxv:x.1=v
  .refine tq_ rfl (eqT rfl) (zl 8 rfl (tc_ zv1 rfl (zmS (qOf (x.2)) (x.2) (zao _) (Br.use (by omega)) (qOf (c)) (c) (zao _) (Br.use (by omega))) (zl 24 rfl (zc 3 rfl ?_))));refine te_ rfl (zdj (r:=3) (ys:=[V.one (Leaf.own 3 n),V.agg [Leaf.val (.int .i64 ((x.1:Nat):Int)),Leaf.val (.bool (zbx ((x.2)+(c)))),zaf (zab (zaV ((x.2)+(c)))),zaf (zab (zaW ((x.2)+(c))))]]) (V.one (Leaf.own 3 (n+1))) rfl zsS rfl rfl (zbB out (by omega) x.1 ((x.2)+(c)) (by omega)) (zfm _ _)) (zl 6 rfl (tq_ rfl (jad (i+1) rfl) ?_));refine zl 2 rfl (zan 4 (zbq 4 rfl ?_));exact nx_ ⟨i+1,_,_,_,rfl,rfl,rfl,hi,(by have h1:=zdm out (x.1,x.2+c);omega),hI.eq hcan hx hxv⟩ rfl
  .refine tq_ rfl (eqF rfl) (zl 11 rfl ?_);refine zec rfl (fun hd=>?_) (fun hd=>?_)
   .refine zl 10 rfl ?_;have hd:done=true:=by simpa using hd
    subst hd;refine zc 3 rfl (te_ rfl (zdj (r:=3) (ys:=[V.one (Leaf.own 3 n),V.agg [Leaf.val (.int .i64 ((x.1:Nat):Int)),Leaf.val (.bool (zbx x.2)),zaf (zab (zaV x.2)),zaf (zab (zaW x.2))]]) (V.one (Leaf.own 3 (n+1))) rfl zsS rfl rfl (zbB out (by omega) x.1 x.2 (by omega)) (zfm _ _)) (zl 6 rfl (tq_ rfl (jad (i+1) rfl) (zl 2 rfl (zan 4 (zbq 4 rfl ?_))))));exact nx_ ⟨i+1,_,_,_,rfl,rfl,rfl,hi,(by have h1:=zdm out (x.1,x.2);omega),hI.rest hcan hx⟩ rfl
   .refine zl 3 rfl ?_;by_cases hvx:v<x.1
    .refine tq_ rfl (gtT rfl) (zl 5 rfl ?_);have hd:done=false:=by simpa using hd
     subst hd;refine zc 4 rfl (tc_ zsU rfl (zdZ (qOf (c)) (c) (zao _) (Br.use (by omega))) (zl 1 rfl (te_ rfl (zdj (r:=3) (ys:=[V.one (Leaf.own 3 n),V.agg [Leaf.val (.int .i64 (v:Int)),Leaf.val (.bool (zbx c)),zaf (zab (zaV c)),zaf (zab (zaW c))]]) (V.one (Leaf.own 3 (n+1))) rfl zsS rfl rfl (zbB out (by omega) v c (by omega)) (zfm _ _)) ?_)));refine zl 10 rfl (te_ rfl (zdj (r:=3) (ys:=[V.one (Leaf.own 3 (n+1)),V.agg [Leaf.val (.int .i64 ((x.1:Nat):Int)),Leaf.val (.bool (zbx x.2)),zaf (zab (zaV x.2)),zaf (zab (zaW x.2))]]) (V.one (Leaf.own 3 ((n+1)+1))) rfl zsS rfl rfl (zbB (nz out (v,c)) (by have h1:=zdm out (v,c);omega) x.1 x.2 (by omega)) (zfm _ _)) (zl 6 rfl ?_));refine tq_ rfl (jad (i+1) rfl) (zl 2 rfl (zan 4 (zbq 4 rfl ?_)));exact nx_ ⟨i+1,_,_,_,rfl,rfl,rfl,hi,(by have h1:=zdm out (v,c);have h2:=zdm (nz out (v,c)) (x.1,x.2);omega),hI.ins hcan hx hvx⟩ rfl
    .refine tq_ rfl (gtF rfl) (zl 6 rfl ?_);have hd:done=false:=by simpa using hd
     subst hd;refine zc 3 rfl (te_ rfl (zdj (r:=3) (ys:=[V.one (Leaf.own 3 n),V.agg [Leaf.val (.int .i64 ((x.1:Nat):Int)),Leaf.val (.bool (zbx x.2)),zaf (zab (zaV x.2)),zaf (zab (zaW x.2))]]) (V.one (Leaf.own 3 (n+1))) rfl zsS rfl rfl (zbB out (by omega) x.1 x.2 (by omega)) (zfm _ _)) (zl 6 rfl (tq_ rfl (jad (i+1) rfl) (zl 2 rfl (zan 4 (zbq 4 rfl ?_))))));exact nx_ ⟨i+1,_,_,_,rfl,rfl,rfl,hi,(by have h1:=zdm out (x.1,x.2);omega),hI.less hcan hx (by omega)⟩ rfl
 .refine tq_ rfl (ltF rfl) (zl 15 rfl ?_);refine zaz rfl (fun hd=>?_) (fun hd=>?_)
  .have hd:done=false:=by simpa using hd
   subst hd;refine zc 4 rfl (tc_ zsU rfl (zdZ (qOf (c)) (c) (zao _) (Br.use (by omega))) (zl 1 rfl (te_ rfl (zdj (r:=3) (ys:=[V.one (Leaf.own 3 n),V.agg [Leaf.val (.int .i64 (v:Int)),Leaf.val (.bool (zbx c)),zaf (zab (zaV c)),zaf (zab (zaW c))]]) (V.one (Leaf.own 3 (n+1))) rfl zsS rfl rfl (zbB out (by omega) v c (by omega)) (zfm _ _)) ?_)));refine zl 12 rfl (zcj 2 (ls':=[El.row tmE (nz out (v,c)),Leaf.val (.bool (zbx f.c)),zaf (zab (zaV f.c)),zaf (zab (zaW f.c))]) rfl rfl (RowAt.ofE tmE (nz out (v,c)) rfl (by decide)) ⟨.inr ⟨rfl,rfl⟩,.inl rfl,.inl rfl,.inl rfl,trivial⟩ ?_);exact r1_ hq_ rfl (by rw[<-hI.fin_f (by omega)])
  .have hd:done=true:=by simpa using hd
   subst hd;refine zc 11 rfl (zcj 2 (ls':=[El.row tmE out,Leaf.val (.bool (zbx f.c)),zaf (zab (zaV f.c)),zaf (zab (zaW f.c))]) rfl rfl (RowAt.ofE tmE out rfl (by decide)) ⟨.inr ⟨rfl,rfl⟩,.inl rfl,.inl rfl,.inl rfl,trivial⟩ ?_);exact r1_ hq_ rfl (by rw[<-hI.fin_t (by omega)])
theorem radd7(f g:Af){B C:Nat}(cf:CanT f.ts)(cg:CanT g.ts)(hf:∀t∈f.ts,Br t.2 B)(hg:∀t∈g.ts,Br t.2 C)[Br f.c B][Br g.c C](hBC:B+C<=100000000000)(hlf:f.ts.length<=400)(hlg:g.ts.length<=400)(hv:∀t∈g.ts,t.1<1000000):Ctr Tryz.prog 54 [afV f,afV g] (R.one (afV ⟨zgB f.ts g.ts,f.c+g.c⟩)):=by
 refine bd_ Tryz.func54 Tryz.ntmps54 rfl (fun w0 A0=>?_);refine zc 8 rfl (dr_ 1 [(8,3),(9,3)] [3] (dz 6 rfl (kc_ zv1 rfl (zmS (qOf (f.c)) (f.c) (zao _) (Br.use (by omega)) (qOf (g.c)) (g.c) (zao _) (Br.use (by omega))) (dz 3 rfl (zad (za 8 rfl (fr_ [0] rfl ?_)))))));refine zbO (fun m Γ H=>∃(i:Nat) (out:List Tm),g.ts.length-i=m/\Γ=[(3,some (D.ptr 1 0)),(4,some (D.ptr 2 0)),(5,some (D.ptr 3 0)),(6,some (D.val (.int .i64 (i:Int))))]/\H=[none,hb_ 35 (afL g),hb_ 35 [El.row tmE ([]),Leaf.val (.bool false),zaf ([]),zaf ([])],hb_ 35 [El.row tmE out,Leaf.val (.bool (zbx ((f.c)+(g.c)))),zaf (zab (zaV ((f.c)+(g.c)))),zaf (zab (zaW ((f.c)+(g.c))))]]/\i<=g.ts.length/\out=zgB f.ts (g.ts.take i)) ⟨0,f.ts,rfl,rfl,rfl,zxg _,rfl⟩ rfl ?_;rintro m Γ H ⟨i,out,rfl,rfl,rfl,hi0,hout⟩;refine zc 6 rfl (tq_ rfl (jln rfl) ?_);by_cases hi:i<g.ts.length
 .refine tq_ rfl (ltT rfl) (zl 7 rfl ?_);obtain⟨x,hx⟩:∃x,g.ts[i]?=some x:=⟨_,zxa hi⟩;haveI hbx:=hg x (zxb hx);have hvx:=hv x (zxb hx);have hlo:out.length<=800:=by rw[hout];exact zxk (zfo _ _) (by simp;omega)
  have hco:CanT out:=by rw[hout];exact zee cf
  have hbo:∀t∈out,Br t.2 (B+C+1):=by rw[hout];exact zjj cf (zgg cg) hf (fun t ht=>hg t (List.mem_of_mem_take ht))
  refine dr_ 0 [(14,3)] [3] (kp_ [] rfl (zbe rfl rfl rfl (by decide) zh3 (by decide) (zxh rfl) rfl) (dz 3 rfl (kq_ rfl (jix i hx rfl) (kq_ rfl (jfr rfl) (kq_ rfl (jli rfl) (dz 3 rfl (kq_ rfl (jix i hx rfl) (kq_ rfl (jfr rfl) (kq_ rfl (jlr rfl) ?_)))))))));refine kc_ fn83 rfl (rplus ⟨out,f.c+g.c⟩ x.1 x.2 hco hbo (by omega) (by show out.length<=1000;omega) (by omega)) (dz 1 rfl (zad (za 4 rfl (tq_ rfl (jad (i+1) rfl) (zl 2 rfl ?_)))));exact nx_ ⟨i+1,_,rfl,rfl,rfl,hi,by rw[hout,zmp hx]⟩ rfl
 .refine tq_ rfl (ltF rfl) (zl 9 rfl ?_);have hie:i=g.ts.length:=by omega
  rw[hie,zxx] at hout;have hlo:out.length<=800:=by rw[hout];exact zxk (zfo _ _) (by omega)
  refine dr_ 0 [(7,2)] [2] (ke_ rfl (ze3 rfl zj8 zl5) (dz 2 rfl ?_));obtain⟨ti3,hi3,hz3,hs3,hb3⟩:=in53;refine ke_ rfl (zeb tmE out rfl rfl rfl (by decide) zj8 zj8 hi3 hz3 hs3 rfl (by simp only[maxLen];omega) (by rw[hb3];omega)) (dz 4 rfl (zad (za 1 rfl ?_)));exact r1_ hq_ rfl (by subst hout;rfl)
theorem zcJ(f:Af)(c:Rat){B n:Nat}[ff:Fm f.ts B n]{D C:Nat}[fc:Br f.c D][Br c C](h:B+D+C<=300000000000)(hn:n<=1000):Ctr Tryz.prog 55 [afV f,V.agg (qL (c))] (R.one (afV ⟨scT f.ts c,f.c*c⟩)):=by
 haveI:=fc.mono (show D<=B+D by omega);exact zuq f c (B:=B+D) (C:=C) (fun t ht=>(ff.bd t ht).mono (by omega)) (by omega) (zxk ff.len hn)
theorem zjt(f g:Af){B n:Nat}[ff:Fm f.ts B n]{C m:Nat}[fg:Fm g.ts C m]{D E:Nat}[fc:Br f.c D][gc:Br g.c E](h:B+D+C+E<=100000000000)(hn:n<=400)(hm:m<=400):Ctr Tryz.prog 54 [afV f,afV g] (R.one (afV ⟨zgB f.ts g.ts,f.c+g.c⟩)):=by
 haveI:=fc.mono (show D<=B+D by omega);haveI:=gc.mono (show E<=C+E by omega);exact radd7 f g (B:=B+D) (C:=C+E) ff.can fg.can (fun t ht=>(ff.bd t ht).mono (by omega)) (fun t ht=>(fg.bd t ht).mono (by omega)) (by omega) (zxk ff.len hn) (zxk fg.len hm) fg.var
theorem zgD(f g:Af){B n:Nat}[ff:Fm f.ts B n]{C m:Nat}[fg:Fm g.ts C m]{D E:Nat}[fc:Br f.c D][gc:Br g.c E](h:B+D+C+E<=90000000000)(hn:n<=400)(hm:m<=400):Ctr Tryz.prog 151 [afV f,afV g] (R.one (afV ⟨zgB f.ts (scT g.ts ((-1:Int):Rat)),f.c+g.c*((-1:Int):Rat)⟩)):=by
 refine bd_ Tryz.func151 Tryz.ntmps151 rfl (fun w0 A0=>?_);haveI:Br ((-1:Int):Rat) 2:=Br.int2 (by decide) (by decide);refine zc 8 rfl (dr_ 0 [(5,2)] [2] (dz 2 rfl (kc_ fn8 rfl (zl6 (-1) (by decide) (by decide)) (kc_ zrd rfl (zcJ ⟨g.ts,g.c⟩ (((-1):Int):Rat) (by omega) (by omega)) (kc_ fn54 rfl (zjt ⟨f.ts,f.c⟩ ⟨scT g.ts (((-1):Int):Rat),g.c*(((-1):Int):Rat)⟩ (by omega) (by omega) (by omega)) (dz 1 rfl (zad (za 1 rfl ?_))))))));exact r1_ hq_ rfl rfl
end Go.Proofs.YticnclbnchgigaaGreatDoor
namespace Rc
open Go Go.RowKit
def nx(l:List Nat)(k n:Nat):Nat:=match l[k]? with|some x=>x%n|none=>0
def nk(l:List Nat)(k:Nat):Nat:=if k<l.length then k+1 else k
theorem zsg{l:List Nat}{k n:Nat}(h:l.length<=k):nx l k n=0:=by unfold nx;rw[List.getElem?_eq_none h]
theorem zsf{l:List Nat}{k n x:Nat}(h:l[k]?=some x):nx l k n=x%n:=by unfold nx;rw[h]
theorem zsk{l:List Nat}{k:Nat}(h:l.length<=k):nk l k=k:=if_neg (by omega)
theorem zsj{l:List Nat}{k:Nat}(h:k<l.length):nk l k=k+1:=if_pos h
theorem zbv{l:List Nat}{k:Nat}(h:k<=l.length):nk l k<=l.length:=by unfold nk;split <;> omega
theorem zdf{l:List Nat}{k n:Nat}(h:0<n):nx l k n<n:=by
 unfold nx;split
 .exact Nat.mod_lt _ h
 .exact h
def nd(j:Nat):Nat:=if j<2 then 1 else if j=2 then 2 else 4
theorem zuG{j:Nat}(h:j<4):([Leaf.val (.int .i64 1),Leaf.val (.int .i64 1),Leaf.val (.int .i64 2),Leaf.val (.int .i64 4)]:List Leaf)[j]?=some (Leaf.val (.int .i64 ((nd j:Nat):Int))):=by
 match j,h with
 |0,_=>rfl
 |1,_=>rfl
 |2,_=>rfl
 |3,_=>rfl
theorem znn(j:Nat):1<=nd j/\nd j<=4:=by
 unfold nd;split
 .omega
 .split <;> omega
def zem(l:List Nat)(k:Nat):Rat:=(((((nx l k 9:Nat):Int)-4:Int)):Rat)/((((nd (nx l (nk l k) 4):Nat):Int)):Rat)
theorem zfS(l:List Nat)(k:Nat):Br (zem l k) 6:=by
 unfold zem;have h9:nx l k 9<9:=zdf (by decide);have hd:=znn (nx l (nk l k) 4);haveI:=Br.int2 (z:=((nx l k 9:Nat):Int)-4) (by omega) (by omega);haveI:=Br.int2 (z:=((nd (nx l (nk l k) 4):Nat):Int)) (by omega) (by omega);exact Br.div.mono (by omega)
def zpD(l:List Nat)(s:Af×Nat)(v:Nat):Af×Nat:=
 if 0<nx l s.2 3 then(⟨zgB s.1.ts (scT [(v,((1:Int):Rat))] (zem l (nk l s.2))),s.1.c+0*zem l (nk l s.2)⟩,nk l (nk l (nk l s.2))) else(s.1,nk l s.2)
def zb0(l:List Nat)(k n:Nat):Af×Nat:=(List.range n).foldl (zpD l) (⟨[],zem l k⟩,nk l (nk l k))
theorem zdN(l:List Nat)(k n:Nat):zb0 l k (n+1)=zpD l (zb0 l k n) n:=by
 unfold zb0;rw[List.range_succ,zxC];rfl
theorem zhz(l:List Nat)(k:Nat)(hk:k<=l.length):∀n,n<=1000000->Fm (zb0 l k n).1.ts (20*n) n/\Br (zb0 l k n).1.c (20*n+6)/\(zb0 l k n).2<=l.length
 |0,_=>⟨Fm.nil,zfS l k,zbv (zbv hk)⟩
 |n+1,hn=>by
  obtain⟨h1,h2,h3⟩:=zhz l k hk n (by omega);rw[zdN];unfold zpD;split
  .haveI:=zfS l (nk l (zb0 l k n).2);haveI:Br ((1:Int):Rat) 2:=Br.int2 (by decide) (by decide);haveI:=Fm.one (v:=n) (c:=((1:Int):Rat)) (by omega) (by decide);refine⟨(Fm.sum (f:=(zb0 l k n).1.ts)).mono (by omega) (by omega),?_,zbv (zbv (zbv h3))⟩;exact(Br.add (r:=(zb0 l k n).1.c)).mono (by omega)
  .exact⟨h1.mono (by omega) (by omega),h2.mono (by omega),zbv h3⟩
end Rc
namespace Go.Proofs.YticnclbnchgigaaGreatDoor
open Go Go.RowKit Rc
theorem zcq(l:List Nat)(k n:Nat)(hn:0<n)(hn2:n<=1000)(hl:l.length<=1000000)(hk:k<=l.length)(hb:∀x∈l,x<256):CtrP Tryz.prog 51 88 [El.row u8E l,Leaf.val (.int .i64 (k:Int))] [El.row u8E l,Leaf.val (.int .i64 ((nk l k:Nat):Int))] [V.one (Leaf.val (.int .i64 ((n:Int))))] (R.one (V.one (Leaf.val (.int .i64 ((nx l k n:Int)))))):=by
 refine CtrP.of_body Tryz.func51 rfl Tryz.ntmps51 (zxh rfl) (fun w0 A0 bk hX=>?_);refine qc_ (zc 7 rfl (dr_ 0 [] [] (dz 8 rfl (kq_ rfl (jln rfl) ?_))));by_cases hlk:l.length<=k
 .refine kq_ rfl (geT rfl) (zad (za 7 rfl ?_));exact zea (fun _ _ h=>h) rfl rfl (by rw[zsg hlk] <;> rfl) rfl (by rw[zsk hlk]) hX
 .refine kq_ rfl (geF rfl) (zad (za 5 rfl ?_));obtain⟨x,hx⟩:∃x,l[k]?=some x:=⟨_,zxa (by omega)⟩;have hx2:=hb x (zxb hx);refine zc 5 rfl (tq_ rfl (jad (k+1) rfl) (zl 6 rfl (dr_ 0 [] [] (dz 8 rfl (kq_ rfl (jsb k rfl) (kq_ rfl (jix k hx rfl) (kq_ rfl (jli rfl) (kq_ rfl (jci x rfl) (dz 1 rfl ?_)))))))));refine kq_ rfl (zcA rfl rfl rfl (by omega) (r:=((x%n:Nat):Int)) (zdU _ _)) (dz 1 rfl (zad (za 1 rfl ?_)));exact zea (fun _ _ h=>h) rfl rfl (by rw[zsf hx]) rfl (by rw[zsj (by omega)] <;> rfl) hX
theorem zdg(l:List Nat)(k:Nat)(hl:l.length<=1000000)(hk:k<=l.length)(hb:∀x∈l,x<256):CtrP Tryz.prog 52 88 [El.row u8E l,Leaf.val (.int .i64 (k:Int))] [El.row u8E l,Leaf.val (.int .i64 ((nk l (nk l k):Nat):Int))] [] (R.one (V.agg (qL (zem l k)))):=by
 refine CtrP.of_body Tryz.func52 rfl Tryz.ntmps52 (zxh rfl) (fun w0 A0 bk hX=>?_);refine qc_ ?_;have h9:nx l k 9<9:=zdf (by decide);have hd1:=znn (nx l (nk l k) 4);refine zc 8 rfl (te_ rfl (zaN rfl zsW rfl rfl rfl rfl (zcq l k 9 (by first|decide|omega) (by first|decide|omega) hl (by first|assumption|exact zbv (by assumption)) hb)) (tq_ rfl (zaI rfl rfl rfl (r:=((nx l k 9:Nat):Int)-4) (w64 (by omega) (by omega) (by omega))) (tq_ rfl (zjY rfl zui rfl zub ty3 rfl) (zl 1 rfl ?_))));refine te_ rfl (zaN rfl zsW rfl rfl rfl rfl (zcq l (nk l k) 4 (by first|decide|omega) (by first|decide|omega) hl (by first|assumption|exact zbv (by assumption)) hb)) (tq_ rfl (zoz (nx l (nk l k) 4) rfl rfl rfl zub ty3 (zdf (by decide)) (zuG (zdf (by decide)))) ?_);refine tc_ fn78 rfl (zut (((nx l k 9:Nat):Int)-4) ((nd (nx l (nk l k) 4):Nat):Int) (by omega) (by omega) (by omega) (by omega) (by omega)) (zl 14 rfl ?_);exact zea (fun _ _ h=>h) rfl (⟨_,_,rfl,rfl,.inl ⟨ztR,zxh rfl,rfl⟩⟩) rfl rfl rfl hX
theorem zep(l:List Nat)(k n:Nat)(hn:n<=100)(hl:l.length<=1000000)(hk:k<=l.length)(hb:∀x∈l,x<256):CtrP Tryz.prog 30 88 [El.row u8E l,Leaf.val (.int .i64 (k:Int))] [El.row u8E l,Leaf.val (.int .i64 (((zb0 l k n).2:Nat):Int))] [V.one (Leaf.val (.int .i64 ((n:Int))))] (R.one (afV (zb0 l k n).1)):=by
 refine CtrP.of_body Tryz.func30 rfl Tryz.ntmps30 (zxh rfl) (fun w0 A0 bk hX=>?_);refine qc_ (zc 8 rfl (te_ rfl (zaN rfl zw3 rfl rfl rfl rfl (zdg l k hl (by first|assumption|exact zbv (by assumption)) hb)) (zl 12 rfl ?_)));refine zbO (fun m Γ H=>∃(i:Nat) (out:Af) (q:Nat),n-i=m/\Γ=[(0,some (D.ptr 0 0)),(1,some (D.val (.int .i64 (n:Int)))),(4,some (D.ptr 1 0)),(5,some (D.ptr 2 0)),(6,some (D.val (.int .i64 (i:Int))))]/\H=[hbq 88 [El.row u8E l,Leaf.val (.int .i64 (q:Int))] bk,hb_ 35 [El.row tmE ([]),Leaf.val (.bool false),zaf ([]),zaf ([])],hb_ 35 (afL out)]/\i<=n/\(out,q)=zb0 l k i) ⟨0,⟨[],zem l k⟩,_,rfl,rfl,rfl,zxg _,rfl⟩ rfl ?_;rintro m Γ H ⟨i,out,q,rfl,rfl,rfl,hi0,hs⟩;refine zc 5 rfl ?_;by_cases hi:i<n
 .refine tq_ rfl (ltT rfl) (zl 8 rfl ?_);have hok:=zhz l k hk i (by omega);rw[<-hs] at hok;obtain⟨hfm,hfc,hq⟩:=hok;haveI:Fm out.ts (20*i) i:=hfm;haveI:Br out.c (20*i+6):=hfc;have hk:q<=l.length:=hq;haveI:=zfS l (nk l q);haveI:Br ((1:Int):Rat) 2:=Br.int2 (by decide) (by decide);haveI:=Fm.one (v:=i) (c:=((1:Int):Rat)) (by omega) (by decide);refine zc 2 rfl (te_ rfl (zaN rfl zsW rfl rfl rfl rfl (zcq l q 3 (by first|decide|omega) (by first|decide|omega) hl (by first|assumption|exact zbv (by assumption)) hb)) ?_);by_cases hx:0<nx l q 3
  .refine tq_ rfl (gtT rfl) (zl 3 rfl (dr_ 0 [(4,0),(7,2)] [0,2] (kp_ [0] rfl (zbe rfl rfl rfl (by decide) zh3 (by decide) (zxh rfl) rfl) (dz 1 rfl (kc_ zv0 rfl (zup i (by omega)) (dz 1 rfl (ki_ 0 rfl (zcB rfl zw3 rfl rfl rfl rfl (zdg l (nk l q) hl (by first|assumption|exact zbv (by assumption)) hb)) ?_)))))));refine kc_ zrd rfl (zcJ ⟨[(i,((1:Int):Rat))],0⟩ (zem l (nk l q)) (by omega) (by omega)) (kc_ fn54 rfl (zjt ⟨out.ts,out.c⟩ ⟨scT ([(i,((1:Int):Rat))]) (zem l (nk l q)),0*(zem l (nk l q))⟩ (by omega) (by omega) (by omega)) (dz 1 rfl (zad (za 4 rfl (tq_ rfl (jad (i+1) rfl) (zl 2 rfl ?_))))));exact nx_ ⟨i+1,⟨_,_⟩,_,rfl,rfl,rfl,by omega,by rw[zdN,<-hs];exact(if_pos hx).symm⟩ rfl
  .refine tq_ rfl (gtF rfl) (zl 8 rfl (tq_ rfl (jad (i+1) rfl) (zl 2 rfl ?_)));exact nx_ ⟨i+1,_,_,rfl,rfl,rfl,by omega,by rw[zdN,<-hs];exact(if_neg hx).symm⟩ rfl
 .refine tq_ rfl (ltF rfl) (zl 9 rfl ?_);have hie:i=n:=by omega
  subst hie;refine zc 5 rfl ?_;exact zea (fun _ _ h=>h) rfl (⟨_,_,rfl,rfl,.inl ⟨zh3,zxh rfl,rfl⟩⟩) (by rw[<-hs] <;> rfl) rfl (by rw[<-hs]) hX
end Go.Proofs.YticnclbnchgigaaGreatDoor
namespace Rc
open Go Go.RowKit
structure Gr where
 inp:Nat
 us:List Af
 os:List Af
structure Rg where
 lo:List Rat
 hi:List Rat
 rows:List Af
structure Qu where
 g:Gr
 r:Rg
 goal:Af
structure Dc where
 kind:Nat
 idx:Nat
 pt:Rat
structure Rw where
 kind:Int
 idx:Int
 lo:Int
 hi:Int
theorem Rw.ext'{a b:Rw}(h1:a.kind=b.kind)(h2:a.idx=b.idx)(h3:a.lo=b.lo)(h4:a.hi=b.hi):a=b:=by
 cases a;cases b;simp at *;exact⟨h1,h2,h3,h4⟩
instance : DecidableEq Rw := fun a b =>
 if h:a.kind=b.kind/\a.idx=b.idx/\a.lo=b.lo/\a.hi=b.hi then .isTrue (Rw.ext' h.1 h.2.1 h.2.2.1 h.2.2.2)
 else .isFalse (fun e=>h (by subst e;exact⟨rfl,rfl,rfl,rfl⟩))
structure Mu where
 r:Rw
 c:Qr
structure Lm where
 unit:Int
 up:Bool
 v:Qr
 pf:List Mu
structure Sc where
 q:Qu
 path:List Dc
 lems:List Lm
def ratE:El Rat:=⟨fun x=>qL x,3,fun _=>rfl,fun _=>rfl⟩
def muE:El Mu:=⟨fun m=>[Leaf.val (.int .i64 m.r.kind),Leaf.val (.int .i64 m.r.idx),Leaf.val (.int .i64 m.r.lo),Leaf.val (.int .i64 m.r.hi),Leaf.val (.bool m.c.neg),zaf m.c.n,zaf m.c.d],7,fun _=>rfl,fun _=>rfl⟩
def lmE:El Lm:=⟨fun m=>[Leaf.val (.int .i64 m.unit),Leaf.val (.bool m.up),Leaf.val (.bool m.v.neg),zaf m.v.n,zaf m.v.d,muE.row m.pf],6,fun _=>rfl,fun _=>rfl⟩
def dcE:El Dc:=⟨fun d=>[Leaf.val (.int .i64 (d.kind:Int)),Leaf.val (.int .i64 (d.idx:Int)),Leaf.val (.bool (zbx d.pt)),zaf (zab (zaV d.pt)),zaf (zab (zaW d.pt))],5,fun _=>rfl,fun _=>rfl⟩
@[reducible] def grV(g:Gr):V:=V.agg [Leaf.val (.int .i64 (g.inp:Int)),afE.row g.us,afE.row g.os]
@[reducible] def rgV(r:Rg):V:=V.agg [ratE.row r.lo,ratE.row r.hi,afE.row r.rows]
@[reducible] def quV(q:Qu):V:=V.agg [Leaf.val (.int .i64 (q.g.inp:Int)),afE.row q.g.us,afE.row q.g.os,ratE.row q.r.lo,ratE.row q.r.hi,afE.row q.r.rows,tmE.row q.goal.ts,Leaf.val (.bool (zbx q.goal.c)),zaf (zab (zaV q.goal.c)),zaf (zab (zaW q.goal.c))]
@[reducible] def scV(s:Sc):V:=V.agg [Leaf.val (.int .i64 (s.q.g.inp:Int)),afE.row s.q.g.us,afE.row s.q.g.os,ratE.row s.q.r.lo,ratE.row s.q.r.hi,afE.row s.q.r.rows,tmE.row s.q.goal.ts,Leaf.val (.bool (zbx s.q.goal.c)),zaf (zab (zaV s.q.goal.c)),zaf (zab (zaW s.q.goal.c)),dcE.row s.path,lmE.row s.lems]
@[reducible] def quL(q:Qu):List Leaf:=[Leaf.val (.int .i64 (q.g.inp:Int)),afE.row q.g.us,afE.row q.g.os,ratE.row q.r.lo,ratE.row q.r.hi,afE.row q.r.rows,tmE.row q.goal.ts,Leaf.val (.bool (zbx q.goal.c)),zaf (zab (zaV q.goal.c)),zaf (zab (zaW q.goal.c))]
@[reducible] def scL(s:Sc):List Leaf:=[Leaf.val (.int .i64 (s.q.g.inp:Int)),afE.row s.q.g.us,afE.row s.q.g.os,ratE.row s.q.r.lo,ratE.row s.q.r.hi,afE.row s.q.r.rows,tmE.row s.q.goal.ts,Leaf.val (.bool (zbx s.q.goal.c)),zaf (zab (zaV s.q.goal.c)),zaf (zab (zaW s.q.goal.c)),dcE.row s.path,lmE.row s.lems]
@[reducible] def scZ:List Leaf:=[Leaf.val (.int .i64 0),afE.row [],afE.row [],ratE.row [],ratE.row [],afE.row [],tmE.row [],Leaf.val (.bool false),zaf [],zaf [],dcE.row [],lmE.row []]
@[reducible] def rwV(r:Rw):V:=V.agg [Leaf.val (.int .i64 r.kind),Leaf.val (.int .i64 r.idx),Leaf.val (.int .i64 r.lo),Leaf.val (.int .i64 r.hi)]
@[reducible] def dcV(d:Dc):V:=V.agg [Leaf.val (.int .i64 (d.kind:Int)),Leaf.val (.int .i64 (d.idx:Int)),Leaf.val (.bool (zbx d.pt)),zaf (zab (zaV d.pt)),zaf (zab (zaW d.pt))]
class Hb (r:Rat) (n:outParam Nat):Prop where
 num:r.num.natAbs<2^n
 den:r.den<=2^n
theorem Hb.mono{r:Rat}{n m:Nat}(h:Hb r n)(hn:n<=m):Hb r m:=
 ⟨zxj h.num (zxn (by decide) hn),zxk h.den (zxn (by decide) hn)⟩
theorem zpm(n:Nat):2^n<=4294967296^n:=Nat.pow_le_pow_left (by decide) n
theorem Hb.br{r:Rat}{n:Nat}(h:Hb r n):Br r (n+1):=by
 have h1:=zpm n;have h2:4294967296^n<4294967296^(n+1):=zxG (by decide) (by omega);have h3:=h.num;have h4:=h.den;exact Br.of (by omega) (by omega)
theorem Hb.limb{r:Rat}{n k:Nat}(h:Hb r n)(hk:n<32*k):Br r k:=by
 have h1:2^n<4294967296^k:=by rw[zcg];exact zxG (by decide) hk
 have h3:=h.num;have h4:=h.den;exact Br.of (by omega) (by omega)
theorem Hb.rq{b:Bool}{n d k:Nat}(h1:n<2^k)(h2:dn d<=2^k):Hb (rq b n d) k:=
 ⟨by have:=zga b n d;unfold zaV at this;rw[this];exact zxB (Nat.div_le_self _ _) h1,by rw[ziP];exact zxk (Nat.div_le_self _ _) h2⟩
instance Hb.mul{r s:Rat}{i j:Nat}[hr:Hb r i][hs:Hb s j]:Hb (r*s) (i+j):=by
 rw[<-zim r,<-zim s,<-ze6,zch (Nat.ne_of_gt r.den_pos),zch (Nat.ne_of_gt s.den_pos)];refine Hb.rq ?_ ?_
 .rw[zxu];exact Nat.mul_lt_mul'' hr.num hs.num
 .rw[zch (Nat.mul_ne_zero (Nat.ne_of_gt r.den_pos) (Nat.ne_of_gt s.den_pos)),zxu];exact Nat.mul_le_mul hr.den hs.den
theorem zjy(a b:Bool)(m n:Nat):(sgn a m+sgn b n).natAbs<=m+n:=by cases a <;> cases b <;> simp[sgn] <;> omega
instance Hb.add{r s:Rat}{i j:Nat}[hr:Hb r i][hs:Hb s j]:Hb (r+s) (i+j+1):=by
 rw[<-zim r,<-zim s,<-zkq _ _ _ _ _ _ _ rfl,zch (Nat.ne_of_gt r.den_pos),zch (Nat.ne_of_gt s.den_pos)];refine Hb.rq ?_ ?_
 .refine zxB (zjy _ _ _ _) ?_;have h1:zaV r*s.den<2^(i+j):=by
   rw[zxu];exact Nat.mul_lt_mul_of_lt_of_le hr.num hs.den (Nat.pow_pos (by decide))
  have h2:zaV s*r.den<2^(i+j):=by
   rw[zxu,zxF (2^i)];exact Nat.mul_lt_mul_of_lt_of_le hs.num hr.den (Nat.pow_pos (by decide))
  rw[zxt];omega
 .rw[zch (Nat.mul_ne_zero (Nat.ne_of_gt r.den_pos) (Nat.ne_of_gt s.den_pos))];refine zxk (?_:_<=2^(i+j)) (zxn (by decide) (by omega));rw[zxu];exact Nat.mul_le_mul hr.den hs.den
instance Hb.neg{r:Rat}{i:Nat}[hr:Hb r i]:Hb (-r) i:=⟨by rw[show(-r).num = -r.num from rfl,Int.natAbs_neg];exact hr.num,hr.den⟩
instance Hb.sub{r s:Rat}{i j:Nat}[hr:Hb r i][hs:Hb s j]:Hb (r-s) (i+j+1):=by
 rw[Rat.sub_eq_add_neg];exact Hb.add
instance Hb.abs{r:Rat}{i:Nat}[hr:Hb r i]:Hb (Rc.rq false (zaV r) (zaW r)) i:=
 Hb.rq hr.num (by rw[zf8];exact hr.den)
instance Br.abs{r:Rat}{i:Nat}[hr:Br r i]:Br (Rc.rq false (zaV r) (zaW r)) (i+1):=by
 have h1:=hr.num;have h2:=hr.den;have h3:4294967296^i<4294967296^(i+1):=zxG (by decide) (by omega);refine Br.rq (by omega) ?_;unfold zaW;split <;> omega
theorem Hb.zero:Hb 0 0:=⟨by decide,by decide⟩
theorem Hb.int{z:Int}{n:Nat}(h:z.natAbs<2^n):Hb (z:Rat) n:=⟨by rw[Rat.num_intCast];exact h,by rw[Rat.den_intCast];exact Nat.one_le_two_pow⟩
theorem zrZ(z:Int):rq (decide (z<0)) z.natAbs 1=(z:Rat):=by
 have h:=zmU (decide (z<0)) false z.natAbs 1 (by omega);rw[zcV] at h;have h1:(z:Rat)/((1:Int):Rat)=z:=by grind
 rw[<-h1];simpa[sgn] using h
theorem ze1(r:Rat):0<=rq false (zaV r) (zaW r):=by
 have h:=zgT false (zaV r) (zaW r);have h2:¬sgn false (zaV r)<0:=by simp[sgn]
 exact Rat.not_lt.1 (fun e=>h2 (h.1 e))
theorem zom(r:Rat):rq false (zaV r) (zaW r)=if r<0 then -r else r:=by
 have h:=zho r;split
 .rename_i hr;have hn:zbx r=true:=by unfold zbx;exact decide_eq_true (Int.not_le.1 (fun e=>Rat.not_le.2 hr (Rat.num_nonneg.1 e)))
  rw[hn] at h;rw[show(false:Bool) = !true from rfl,zqP,h]
 .rename_i hr;have hn:zbx r=false:=by unfold zbx;exact decide_eq_false (Int.not_lt.2 (Rat.num_nonneg.2 (Rat.not_lt.1 hr)))
  rw[hn] at h;exact h
instance numq_hb(l:List Nat)(k:Nat):Hb (zem l k) 3:=by
 unfold zem;have h9:nx l k 9<9:=zdf (by decide);have hd:=znn (nx l (nk l k) 4);have e1:(((((nx l k 9:Nat):Int)-4:Int)):Rat)/((((nd (nx l (nk l k) 4):Nat):Int)):Rat)=rq (decide (((nx l k 9:Nat):Int)-4<0)) (((nx l k 9:Nat):Int)-4).natAbs (nd (nx l (nk l k) 4)):=by
  have h:=zmU (decide (((nx l k 9:Nat):Int)-4<0)) false (((nx l k 9:Nat):Int)-4).natAbs (nd (nx l (nk l k) 4)) (by omega);rw[zcV] at h;simpa[sgn] using h.symm
 rw[e1];exact Hb.rq (by omega) (by rw[zch (by omega)];omega)
structure FOk(b n:Nat)(f:Af):Prop where
 can:CanT f.ts
 bd:∀t∈f.ts,Hb t.2 b
 cb:Hb f.c b
 var:∀t∈f.ts,t.1<n
theorem FOk.mono{b c n m:Nat}{f:Af}(h:FOk b n f)(h1:b<=c)(h2:n<=m):FOk c m f:=
 ⟨h.can,fun t ht=>(h.bd t ht).mono h1,h.cb.mono h1,fun t ht=>zxj (h.var t ht) h2⟩
theorem zhG:∀{ts:List Tm} {a n:Nat},CanT ts->(∀t∈ts,a<=t.1/\t.1<n)->ts.length<=n-a
 |[],a,n,_,_=>zxg _
 |(w,d)::ts,a,n,h,hv=>by
  obtain⟨h1,h2,h3⟩:=h;have h4:=hv (w,d) (by simp);have:=zhG (a:=w+1) (n:=n) h3 (fun t ht=>⟨h2 t ht,(hv t (by simp[ht])).2⟩);simp only[List.length_cons];simp at h4;omega
theorem FOk.len{b n:Nat}{f:Af}(h:FOk b n f):f.ts.length<=n:=by
 have:=zhG (a:=0) h.can (fun t ht=>⟨zxg _,h.var t ht⟩);omega
theorem FOk.fm{b n:Nat}{f:Af}(h:FOk b n f)(hn:n<=1000000):Fm f.ts (b+1) n:=
 ⟨h.can,fun t ht=>(h.bd t ht).br,h.len,fun t ht=>zxj (h.var t ht) hn⟩
theorem FOk.br{b n:Nat}{f:Af}(h:FOk b n f):Br f.c (b+1):=h.cb.br
theorem zqb{ts:List Tm}{v:Nat}{c:Rat}(h:∀t∈ts,t.1<v):zc5 ts v c=ts++(if c=0 then[] else[(v,c)]):=by
 have:=zgq (a:=ts) (b:=[]) (v:=v) (c:=c) h;rw[zxy] at this;exact this
theorem sum1{ts:List Tm}{v:Nat}{c:Rat}(h:∀t∈ts,t.1<v):zgB ts (scT [(v,((1:Int):Rat))] c)=ts++(if c=0 then[] else[(v,c)]):=by
 have e:scT [(v,((1:Int):Rat))] c=if c=0 then[] else[(v,c)]:=by
  show nz [] (v,((1:Int):Rat)*c)=_;have h1:((1:Int):Rat)*c=c:=by simp[Rat.one_mul]
  rw[h1];by_cases h0:c=0
  .rw[zfa h0,if_pos h0]
  .rw[zdw h0,if_neg h0];rfl
 rw[e];by_cases h0:c=0
 .rw[if_pos h0,zxy];rfl
 .rw[if_neg h0];show zc5 ts v c=_;rw[zqb h,if_neg h0]
theorem ziX:∀{ts:List Tm} {v:Nat} {c:Rat},CanT ts->(∀t∈ts,t.1<v)->c≠0->CanT (ts++[(v,c)])
 |[],v,c,_,_,h=>⟨h,fun t ht=>by simp at ht,trivial⟩
 |(w,d)::ts,v,c,h,hv,hc=>by
  refine⟨h.1,fun t ht=>?_,ziX h.2.2 (fun t ht=>hv t (by simp[ht])) hc⟩;rcases zxv.1 ht with ht|ht
  .exact h.2.1 t ht
  .simp at ht;subst ht;exact hv (w,d) (by simp)
theorem zf4(l:List Nat)(k:Nat):∀n,FOk 3 n (zb0 l k n).1
 |0=>⟨trivial,fun t ht=>by simp[zb0] at ht,numq_hb l k,fun t ht=>by simp[zb0] at ht⟩
 |n+1=>by
  have h:=zf4 l k n;rw[zdN];unfold zpD;split
  .refine⟨?_,?_,?_,?_⟩ <;> simp only[] <;> try rw[sum1 h.var]
   .split
    .rw[zxy];exact h.can
    .rename_i h0;exact ziX h.can h.var h0
   .intro t ht;rcases zxv.1 ht with ht|ht
    .exact h.bd t ht
    .split at ht
     .simp at ht
     .simp at ht;subst ht;exact numq_hb _ _
   .rw[Rat.zero_mul,Rat.add_zero];exact h.cb
   .intro t ht;rcases zxv.1 ht with ht|ht
    .have:=h.var t ht;omega
    .split at ht
     .simp at ht
     .simp at ht;subst ht;simp
  .exact h.mono (zxe _) (by omega)
theorem zpE{l:List Nat}{k n:Nat}(hk:k<=l.length)(hn:n<=1000000):(zb0 l k n).2<=l.length:=(zhz l k hk n hn).2.2
def zbg(l:List Nat)(f:Nat->Nat)(k n:Nat):List Af×Nat:=(List.range n).foldl (fun s j=>(s.1++[(zb0 l s.2 (f j)).1],(zb0 l s.2 (f j)).2)) ([],k)
theorem zb6(l:List Nat)(f:Nat->Nat)(k n:Nat):zbg l f k (n+1)=((zbg l f k n).1++[(zb0 l (zbg l f k n).2 (f n)).1],(zb0 l (zbg l f k n).2 (f n)).2):=by
 unfold zbg;rw[List.range_succ,zxC];rfl
theorem zbb(l:List Nat)(f:Nat->Nat)(k:Nat):∀n,(zbg l f k n).1.length=n
 |0=>rfl
 |n+1=>by rw[zb6];simp[zbb l f k n]
theorem zcc{l:List Nat}{f:Nat->Nat}{k:Nat}(hk:k<=l.length)(hf:∀j,f j<=1000000\/True)(hf2:∀j,j<100->f j<=1000000):∀n,n<=100->(zbg l f k n).2<=l.length
 |0,_=>hk
 |n+1,hn=>by rw[zb6];exact zpE (zcc hk hf hf2 n (by omega)) (hf2 n (by omega))
theorem zc0(l:List Nat)(f:Nat->Nat)(k:Nat):∀(n j:Nat) (x:Af),(zbg l f k n).1[j]?=some x->FOk 3 (f j) x
 |0,j,x,h=>by simp[zbg] at h
 |n+1,j,x,h=>by
  rw[zb6] at h;by_cases hj:j<(zbg l f k n).1.length
  .rw[zxi hj] at h;exact zc0 l f k n j x h
  .rw[List.getElem?_append_right (by omega),zbb] at h;have h1:j-n=0:=by have:=(zxc.1 h).1;simp at this;omega
   rw[zbb] at hj;have h2:j=n:=by omega
   rw[h1] at h;simp at h;rw[<-h,h2];exact zf4 _ _ _
theorem zb5{α:Type}{l:List α}{x:α}(h:x∈l):∃j:Nat,l[j]?=some x:=List.getElem?_of_mem h
def zaE(l:List Nat)(k:Nat):Gr×Nat:=
 (⟨1+nx l k 3,(zbg l (fun j=>1+nx l k 3+j) (nk l (nk l (nk l k))) (nx l (nk l k) 5)).1,
  (zbg l (fun _=>1+nx l k 3+nx l (nk l k) 5) (zbg l (fun j=>1+nx l k 3+j) (nk l (nk l (nk l k))) (nx l (nk l k) 5)).2 (1+nx l (nk l (nk l k)) 3)).1⟩,
  (zbg l (fun _=>1+nx l k 3+nx l (nk l k) 5) (zbg l (fun j=>1+nx l k 3+j) (nk l (nk l (nk l k))) (nx l (nk l k) 5)).2 (1+nx l (nk l (nk l k)) 3)).2)
def zp1(l:List Nat)(s:(List Rat×List Rat)×Nat):(List Rat×List Rat)×Nat:=
 ((s.1.1++[zem l s.2],s.1.2++[zem l s.2+rq false (zaV (zem l (nk l (nk l s.2)))) (zaW (zem l (nk l (nk l s.2))))]),nk l (nk l (nk l (nk l s.2))))
def zhI(l:List Nat)(k n:Nat):(List Rat×List Rat)×Nat:=(List.range n).foldl (fun s _=>zp1 l s) (([],[]),k)
theorem zeq(l:List Nat)(k n:Nat):zhI l k (n+1)=zp1 l (zhI l k n):=by
 unfold zhI;rw[List.range_succ,zxC];rfl
theorem zci(l:List Nat)(k:Nat):∀n,(zhI l k n).1.1.length=n/\(zhI l k n).1.2.length=n
 |0=>⟨rfl,rfl⟩
 |n+1=>by rw[zeq];unfold zp1;simp[zci l k n]
theorem zhH{l:List Nat}{k:Nat}(hk:k<=l.length):∀n,(zhI l k n).2<=l.length
 |0=>hk
 |n+1=>by rw[zeq];exact zbv (zbv (zbv (zbv (zhH hk n))))
theorem zfz(l:List Nat)(k:Nat):∀(n j:Nat) (x y:Rat),(zhI l k n).1.1[j]?=some x->(zhI l k n).1.2[j]?=some y->Hb x 3/\Hb y 7/\x<=y
 |0,j,x,y,h,_=>by simp[zhI] at h
 |n+1,j,x,y,h,h'=>by
  rw[zeq] at h h';unfold zp1 at h h';simp only[] at h h';obtain⟨e1,e2⟩:=zci l k n;by_cases hj:j<n
  .rw[zxi (by omega)] at h h';exact zfz l k n j x y h h'
  .rw[List.getElem?_append_right (by omega)] at h h';have h1:j-n=0:=by have:=(zxc.1 h).1;simp at this;omega
   rw[e1,h1] at h;rw[e2,h1] at h';simp at h h';subst h;subst h';refine⟨numq_hb _ _,Hb.add.mono (by omega),?_⟩;have:=ze1 (zem l (nk l (nk l (zhI l k n).2)));grind
def zgV(l:List Nat)(k inp:Nat):Rg×Nat:=
 (⟨(zhI l k inp).1.1,(zhI l k inp).1.2,(zbg l (fun _=>inp) (nk l (zhI l k inp).2) (nx l (zhI l k inp).2 3)).1⟩,
  (zbg l (fun _=>inp) (nk l (zhI l k inp).2) (nx l (zhI l k inp).2 3)).2)
def zdl(l:List Nat)(k:Nat):Qu×Nat:=
 (⟨(zaE l k).1,(zgV l (zaE l k).2 (zaE l k).1.inp).1,(zb0 l (zgV l (zaE l k).2 (zaE l k).1.inp).2 ((zaE l k).1.inp+(zaE l k).1.us.length)).1⟩,
  (zb0 l (zgV l (zaE l k).2 (zaE l k).1.inp).2 ((zaE l k).1.inp+(zaE l k).1.us.length)).2)
def szR(r:Rat):Nat:=Nat.log2 (r.num.natAbs+r.den)+1
theorem zkd(r:Rat):Hb r (szR r):=by
 have h:=Nat.lt_log2_self (n:=r.num.natAbs+r.den);have h2:=r.den_pos;unfold szR;exact⟨by omega,by omega⟩
theorem zkc{r:Rat}{n:Nat}(h:Hb r n):szR r<=n+2:=by
 have h1:=h.num;have h2:=h.den;unfold szR;have h3:r.num.natAbs+r.den<2^(n+1):=by rw[zxt];omega
 have h4:=(Nat.log2_lt (by have:=r.den_pos;omega)).2 h3;omega
theorem zml(r:Rat):szR (-r)=szR r:=by
 unfold szR;rw[show(-r).num = -r.num from rfl,Int.natAbs_neg,show(-r).den=r.den from rfl]
def szT:List Tm->Nat
 |[]=>0
 |t::ts=>szR t.2+szT ts
def szL:List Rat->Nat
 |[]=>0
 |x::l=>szR x+szL l
def szF(f:Af):Nat:=szR f.c+szT f.ts
def szG:List Af->Nat
 |[]=>0
 |f::l=>szF f+szG l
def szM(q:Qu):Nat:=szL q.r.lo+szL q.r.hi+szG q.g.us
theorem zmo:∀{l:List Af} {j:Nat} {x:Af},l[j]?=some x->szF x<=szG l
 |[],j,x,h=>by simp at h
 |f::l,0,x,h=>by simp at h;subst h;show _<=szF f+szG l;omega
 |f::l,j+1,x,h=>by have:=zmo (l:=l) (by simpa using h);show _<=szF f+szG l;omega
theorem zqL{B:Nat}:∀{ts:List Tm},(∀t∈ts,Hb t.2 B)->szT ts<=ts.length*(B+2)
 |[],_=>zxg _
 |t::ts,h=>by
  have h1:=zkc (h t (by simp));have h2:=zqL (ts:=ts) (fun x hx=>h x (by simp[hx]));rw[List.length_cons,Nat.add_mul];show szR t.2+szT ts<=_;omega
theorem zmn{B:Nat}:∀{l:List Rat},(∀x∈l,Hb x B)->szL l<=l.length*(B+2)
 |[],_=>zxg _
 |x::l,h=>by
  have h1:=zkc (h x (by simp));have h2:=zmn (l:=l) (fun y hy=>h y (by simp[hy]));rw[List.length_cons,Nat.add_mul];show szR x+szL l<=_;omega
theorem zqM{B:Nat}:∀{l:List Af},(∀f∈l,szF f<=B)->szG l<=l.length*B
 |[],_=>zxg _
 |f::l,h=>by
  have h1:=h f (by simp);have h2:=zqM (l:=l) (fun y hy=>h y (by simp[hy]));rw[List.length_cons,Nat.add_mul];show szF f+szG l<=_;omega
structure GOk(g:Gr):Prop where
 i1:1<=g.inp
 i3:g.inp<=256
 u4:g.us.length<=8
 o1:1<=g.os.length
 o3:g.os.length<=8
 us:∀(j:Nat) (x:Af),g.us[j]?=some x->FOk 33554432 (g.inp+j) x
 os:∀x∈g.os,FOk 33554432 (g.inp+g.us.length) x
structure ROk(n:Nat)(r:Rg):Prop where
 lo:r.lo.length=n
 hi:r.hi.length=n
 r2:r.rows.length<=8
 bd:∀(j:Nat) (x y:Rat),r.lo[j]?=some x->r.hi[j]?=some y->Hb x 33554432/\Hb y 33554432/\x<=y
 rows:∀x∈r.rows,FOk 33554432 n x
structure QOk(q:Qu):Prop where
 g:GOk q.g
 r:ROk q.g.inp q.r
 goal:FOk 33554432 (q.g.inp+q.g.us.length) q.goal
 sz:szM q<=33554432
structure FJ(q:Qu)(j:Nat)(f:Af):Prop where
 fok:FOk 33554432 (q.g.inp+j) f
 sz:szL q.r.lo+szL q.r.hi+szF f<=szM q
theorem QOk.fj{q:Qu}(h:QOk q){j:Nat}{p:Af}(hp:q.g.us[j]?=some p):FJ q j p:=
 ⟨h.g.us j p hp,by have:=zmo hp;unfold szM;omega⟩
structure Sml(q:Qu):Prop where
 u:q.g.us.length<=4
 sz:szM q<=1000
theorem zeS(l:List Nat)(k:Nat):(zaE l k).1.inp<=3/\(zaE l k).1.us.length<=4/\(∀(j:Nat) (x:Af),(zaE l k).1.us[j]?=some x->FOk 3 ((zaE l k).1.inp+j) x):=by
 have h1:nx l k 3<3:=zdf (by decide);have h2:nx l (nk l k) 5<5:=zdf (by decide);refine⟨?_,?_,fun j x h=>zc0 _ _ _ _ _ _ h⟩
 .show 1+nx l k 3<=3;omega
 .show(zbg _ _ _ _).1.length<=4;rw[zbb];omega
theorem ziE(l:List Nat)(k:Nat):GOk (zaE l k).1:=by
 have h1:nx l k 3<3:=zdf (by decide);have h2:nx l (nk l k) 5<5:=zdf (by decide);have h3:nx l (nk l (nk l k)) 3<3:=zdf (by decide);refine⟨?_,?_,?_,?_,?_,fun j x h=>(zc0 _ _ _ _ _ _ h).mono (by omega) (zxe _),fun x hx=>?_⟩
 .show 1<=1+nx l k 3;omega
 .show 1+nx l k 3<=256;omega
 .show(zbg _ _ _ _).1.length<=8;rw[zbb];omega
 .show 1<=(zbg _ _ _ _).1.length;rw[zbb];omega
 .show(zbg _ _ _ _).1.length<=8;rw[zbb];omega
 .obtain⟨j,hj⟩:=zb5 hx;have:=zc0 _ _ _ _ _ _ hj;show FOk 33554432 (1+nx l k 3+(zbg _ _ _ _).1.length) x;rw[zbb];exact this.mono (by omega) (zxe _)
theorem znK{l:List Nat}{k:Nat}(hk:k<=l.length):(zaE l k).2<=l.length:=by
 have h1:nx l k 3<3:=zdf (by decide);have h2:nx l (nk l k) 5<5:=zdf (by decide);have h3:nx l (nk l (nk l k)) 3<3:=zdf (by decide);exact zcc (zcc (zbv (zbv (zbv hk))) (fun _=>.inr trivial) (fun j hj=>by omega) _ (by omega)) (fun _=>.inr trivial) (fun j hj=>by omega) _ (by omega)
theorem zr6(l:List Nat)(k n:Nat):ROk n (zgV l k n).1:=by
 have h3:nx l (zhI l k n).2 3<3:=zdf (by decide);refine⟨(zci l k n).1,(zci l k n).2,?_,fun j x y hx hy=>?_,fun x hx=>?_⟩
 .show(zbg _ _ _ _).1.length<=8;rw[zbb];omega
 .obtain⟨h1,h2,h3⟩:=zfz l k n j x y hx hy;exact⟨h1.mono (by omega),h2.mono (by omega),h3⟩
 .obtain⟨j,hj⟩:=zb5 hx;exact(zc0 _ _ _ _ _ _ hj).mono (by omega) (zxe _)
theorem zr7{l:List Nat}{k n:Nat}(hk:k<=l.length)(hn:n<=1000):(zgV l k n).2<=l.length:=by
 have h3:nx l (zhI l k n).2 3<3:=zdf (by decide);exact zcc (zbv (zhH hk n)) (fun _=>.inr trivial) (fun j hj=>by omega) _ (by omega)
theorem zth(l:List Nat)(k n:Nat):(∀x∈(zgV l k n).1.lo,Hb x 7)/\∀x∈(zgV l k n).1.hi,Hb x 7:=by
 have e1:(zgV l k n).1.lo.length=n:=(zci l k n).1;have e2:(zgV l k n).1.hi.length=n:=(zci l k n).2;constructor
 .intro x hx;obtain⟨i,hi⟩:=zb5 hx;have hl:=(zxc.1 hi).1;obtain⟨y,hy⟩:∃y,(zgV l k n).1.hi[i]?=some y:=⟨_,zxa (by omega)⟩;exact(zfz l k n i x y hi hy).1.mono (by omega)
 .intro y hy;obtain⟨i,hi⟩:=zb5 hy;have hl:=(zxc.1 hi).1;obtain⟨x,hx⟩:∃x,(zgV l k n).1.lo[i]?=some x:=⟨_,zxa (by omega)⟩;exact(zfz l k n i x y hx hi).2.1
theorem zgW(l:List Nat)(k:Nat):Sml (zdl l k).1:=by
 obtain⟨h1,h2,h3⟩:=zeS l k;refine⟨h2,?_⟩;obtain⟨b1,b2⟩:=zth l (zaE l k).2 (zaE l k).1.inp;have e1:(zgV l (zaE l k).2 (zaE l k).1.inp).1.lo.length=(zaE l k).1.inp:=(zci _ _ _).1;have e2:(zgV l (zaE l k).2 (zaE l k).1.inp).1.hi.length=(zaE l k).1.inp:=(zci _ _ _).2;have z1:=zmn b1;have z2:=zmn b2;have z3:szG (zaE l k).1.us<=(zaE l k).1.us.length*40:=zqM fun f hf=>by
  obtain⟨j,hj⟩:=zb5 hf;have hj2:=(zxc.1 hj).1;have ho:=h3 j f hj;have hl:=ho.len;have c1:=zkc ho.cb;have c2:=zqL ho.bd;have c3:=zxl (3+2) (show f.ts.length<=7 by omega);unfold szF;omega
 have z4:=zxl 40 h2;rw[e1] at z1;rw[e2] at z2;have z5:=zxl (7+2) h1;have e:szM (zdl l k).1=szL (zgV l (zaE l k).2 (zaE l k).1.inp).1.lo+szL (zgV l (zaE l k).2 (zaE l k).1.inp).1.hi+szG (zaE l k).1.us:=rfl;rw[e];omega
theorem znb(l:List Nat)(k:Nat):QOk (zdl l k).1:=⟨ziE l k,zr6 l _ _,(zf4 l _ _).mono (by omega) (zxe _),zxk (zgW l k).sz (by omega)⟩
end Rc

namespace Go.Proofs.YticnclbnchgigaaGreatDoor
open Go Go.RowKit Rc
theorem zlG(l:List Nat)(k:Nat)(hl:l.length<=1000000)(hk:k<=l.length)(hb:∀x∈l,x<256):CtrP Tryz.prog 28 88 [El.row u8E l,Leaf.val (.int .i64 (k:Int))] [El.row u8E l,Leaf.val (.int .i64 (((zaE l k).2:Nat):Int))] [] (R.one (grV (zaE l k).1)):=by
 refine CtrP.of_body Tryz.func28 rfl Tryz.ntmps28 (zxh rfl) (fun w0 A0 bk hX=>?_);refine qc_ ?_;have h1:nx l k 3<3:=zdf (by decide);have h2:nx l (nk l k) 5<5:=zdf (by decide);have h3:nx l (nk l (nk l k)) 3<3:=zdf (by decide);have hk1:=zbv hk;have hk2:=zbv hk1;have hk3:=zbv hk2;refine zc 2 rfl (te_ rfl (zdP (n:=1) rfl tx25 rfl) (zl 5 rfl (te_ rfl (zaN rfl zsW rfl rfl rfl rfl (zcq l k 3 (by first|decide|omega) (by first|decide|omega) hl (by first|assumption|exact zbv (by assumption)) hb)) (tq_ rfl (jad (1+nx l k 3) rfl) (tq_ rfl (zfC rfl tx25 rfl pl25 rfl) (te_ rfl (zdP (n:=2) rfl tx25 rfl) (zl 6 rfl ?_)))))));refine te_ rfl (zaN rfl zsW rfl rfl rfl rfl (zcq l (nk l k) 5 (by first|decide|omega) (by first|decide|omega) hl (by first|assumption|exact zbv (by assumption)) hb)) (zl 1 rfl ?_);refine te_ rfl (zaN rfl zsW rfl rfl rfl rfl (zcq l (nk l (nk l k)) 3 (by first|decide|omega) (by first|decide|omega) hl (by first|assumption|exact zbv (by assumption)) hb)) (tq_ rfl (jad (1+nx l (nk l (nk l k)) 3) rfl) (zl 6 rfl ?_));refine zdi 2 35 4 (ls':=[Leaf.val (.int .i64 ((1+nx l k 3:Nat):Int)),Leaf.own 3 0,Leaf.val (.slice none 0 0)]) rfl rfl rfl ⟨.inl rfl,.inr ⟨rfl,rfl⟩,.inl rfl,trivial⟩ (zc 5 rfl ?_);refine zbO (fun m Γ H=>∃(i:Nat) (n:Nat) (out:List Af) (q:Nat),(nx l (nk l k) 5)-i=m/\Γ=[(0,some (D.ptr 0 0)),(2,some (D.ptr 1 0)),(3,some (D.ptr 2 0)),(4,some (D.val (.int .i64 ((nx l (nk l k) 5:Nat):Int)))),(5,some (D.val (.int .i64 ((1+nx l (nk l (nk l k)) 3:Nat):Int)))),(6,some (D.val (.int .i64 (i:Int))))]/\H=[hbq 88 [El.row u8E l,Leaf.val (.int .i64 (q:Int))] bk,hb_ 25 [Leaf.val (.int .i64 0),Leaf.val (.slice none 0 0),Leaf.val (.slice none 0 0)],hb_ 25 [Leaf.val (.int .i64 (((1+nx l k 3):Nat):Int)),Leaf.own 3 n,Leaf.val (.slice none 0 0)],hgr 35 4 afE out n]/\i<=(nx l (nk l k) 5)/\(out,q)=zbg l (fun j=>1+nx l k 3+j) (nk l (nk l (nk l k))) i) ⟨0,0,[],_,rfl,rfl,rfl,zxg _,rfl⟩ rfl ?_;rintro m Γ H ⟨i,n,out,q,rfl,rfl,rfl,hi0,hs⟩;refine zc 5 rfl ?_;by_cases hi:i<(nx l (nk l k) 5)
 .refine tq_ rfl (ltT rfl) (zl 7 rfl ?_);have hol:=congrArg (fun p=>p.1.length) hs;simp only[zbb] at hol;have hq:q<=l.length:=by have:=zcc (l:=l) (f:=(fun j=>1+nx l k 3+j)) (k:=(nk l (nk l (nk l k)))) (zbv (zbv (zbv hk))) (fun _=>.inr trivial) (fun j hj=>by omega) i (by omega);rw[<-hs] at this;exact this
  refine dr_ 0 [(7,0),(9,3),(11,2)] [0,3,2] (dz 1 rfl (kp_ [0,3] rfl (jld rfl) (dz 2 rfl (kp_ [0,3] rfl (jld rfl) (dz 1 rfl (kq_ rfl (jad (1+nx l k 3+i) rfl) (ki_ 0 rfl (zcB rfl zw8 rfl rfl rfl rfl (zep l q (1+nx l k 3+i) (by omega) hl (by assumption) hb)) ?_)))))));refine ke_ rfl (fun _=>zag rfl ztP zh3 ztQ rfl (by decide) (by decide) rfl (by decide) rfl) (ki_ 3 rfl (dap (e:=afE) (⟨(zb0 l q (1+nx l k 3+i)).1.ts,(zb0 l q (1+nx l k 3+i)).1.c⟩) rfl rfl) (dz 2 rfl (zad (za 4 rfl (tq_ rfl (jad (i+1) rfl) (zl 2 rfl ?_))))));exact nx_ ⟨i+1,_,_,_,rfl,rfl,rfl,hi,by rw[zb6,<-hs]⟩ rfl
 .refine tq_ rfl (ltF rfl) (zl 10 rfl ?_);have hie:i=(nx l (nk l k) 5):=by omega
  subst hie;refine zdi 2 35 4 (ls':=[Leaf.val (.int .i64 (((1+nx l k 3):Nat):Int)),Leaf.own 3 n,Leaf.own 4 0]) rfl rfl rfl ⟨.inl rfl,.inl rfl,.inr ⟨rfl,rfl⟩,trivial⟩ (zc 5 rfl ?_);refine zbO (fun m Γ H=>∃(i:Nat) (n2:Nat) (out2:List Af) (q2:Nat),(1+nx l (nk l (nk l k)) 3)-i=m/\Γ=[(0,some (D.ptr 0 0)),(2,some (D.ptr 1 0)),(3,some (D.ptr 2 0)),(4,some (D.val (.int .i64 ((nx l (nk l k) 5:Nat):Int)))),(5,some (D.val (.int .i64 ((1+nx l (nk l (nk l k)) 3:Nat):Int)))),(7,some (D.val (.int .i64 (i:Int))))]/\H=[hbq 88 [El.row u8E l,Leaf.val (.int .i64 (q2:Int))] bk,hb_ 25 [Leaf.val (.int .i64 0),Leaf.val (.slice none 0 0),Leaf.val (.slice none 0 0)],hb_ 25 [Leaf.val (.int .i64 (((1+nx l k 3):Nat):Int)),Leaf.own 3 n,Leaf.own 4 n2],hgr 35 4 afE out n,hgr 35 4 afE out2 n2]/\i<=(1+nx l (nk l (nk l k)) 3)/\(out2,q2)=zbg l (fun _=>1+nx l k 3+(nx l (nk l k) 5)) (zbg l (fun j=>1+nx l k 3+j) (nk l (nk l (nk l k))) (nx l (nk l k) 5)).2 i) ⟨0,0,[],_,rfl,rfl,rfl,zxg _,(by rw[<-hs];rfl)⟩ rfl ?_;rintro m Γ H ⟨i,n2,out2,q2,rfl,rfl,rfl,hj0,hs2⟩;refine zc 5 rfl ?_;by_cases hj:i<(1+nx l (nk l (nk l k)) 3)
  .refine tq_ rfl (ltT rfl) (zl 7 rfl ?_);have hol2:=congrArg (fun p=>p.1.length) hs2;simp only[zbb] at hol2;have hq2:q2<=l.length:=by have:=zcc (l:=l) (f:=(fun _=>1+nx l k 3+(nx l (nk l k) 5))) (k:=(zbg l (fun j=>1+nx l k 3+j) (nk l (nk l (nk l k))) (nx l (nk l k) 5)).2) (zcc (zbv (zbv (zbv hk))) (fun _=>.inr trivial) (fun j hj=>by omega) _ (by omega)) (fun _=>.inr trivial) (fun j hj=>by omega) i (by omega);rw[<-hs2] at this;exact this
   refine dr_ 0 [(7,0),(9,4),(11,2)] [0,4,2] (dz 1 rfl (kp_ [0,4] rfl (jld rfl) (dz 2 rfl (kp_ [0,4] rfl (jld rfl) (dz 1 rfl (kq_ rfl (jad ((1+nx l k 3)+(nx l (nk l k) 5)) rfl) (ki_ 0 rfl (zcB rfl zw8 rfl rfl rfl rfl (zep l q2 ((1+nx l k 3)+(nx l (nk l k) 5)) (by omega) hl (by assumption) hb)) ?_)))))));refine ke_ rfl (fun _=>zag rfl ztP zh3 ztQ rfl (by decide) (by decide) rfl (by decide) rfl) (ki_ 4 rfl (dap (e:=afE) (⟨(zb0 l q2 ((1+nx l k 3)+(nx l (nk l k) 5))).1.ts,(zb0 l q2 ((1+nx l k 3)+(nx l (nk l k) 5))).1.c⟩) rfl rfl) (dz 2 rfl (zad (za 4 rfl (tq_ rfl (jad (i+1) rfl) (zl 2 rfl ?_))))));exact nx_ ⟨i+1,_,_,_,rfl,rfl,rfl,hj,by rw[zb6,<-hs2]⟩ rfl
  .refine tq_ rfl (ltF rfl) (zl 9 rfl ?_);have hie:i=(1+nx l (nk l (nk l k)) 3):=by omega
   subst hie;refine zc 5 rfl (zcj 1 (ls':=[Leaf.val (.int .i64 (((1+nx l k 3):Nat):Int)),El.row afE out,Leaf.own 4 n2]) rfl rfl (RowAt.ofE afE out rfl (by decide)) ⟨.inl rfl,.inr ⟨rfl,rfl⟩,.inl rfl,trivial⟩ ?_);refine zcj 1 (ls':=[Leaf.val (.int .i64 (((1+nx l k 3):Nat):Int)),El.row afE out,El.row afE out2]) rfl rfl (RowAt.ofE afE out2 rfl (by decide)) ⟨.inl rfl,.inl rfl,.inr ⟨rfl,rfl⟩,trivial⟩ ?_;exact zea (fun _ _ h=>h) rfl (⟨_,_,rfl,rfl,.inl ⟨ty25,zxh rfl,rfl⟩⟩) (by unfold zaE;rw[<-hs2,<-hs]) rfl (by unfold zaE;rw[<-hs2]) hX
theorem zlp(l:List Nat)(k inp:Nat)(hn:inp<=100)(hl:l.length<=1000000)(hk:k<=l.length)(hb:∀x∈l,x<256):CtrP Tryz.prog 29 88 [El.row u8E l,Leaf.val (.int .i64 (k:Int))] [El.row u8E l,Leaf.val (.int .i64 (((zgV l k inp).2:Nat):Int))] [V.one (Leaf.val (.int .i64 ((inp:Int))))] (R.one (rgV (zgV l k inp).1)):=by
 refine CtrP.of_body Tryz.func29 rfl Tryz.ntmps29 (zxh rfl) (fun w0 A0 bk hX=>?_);refine qc_ (zc 2 rfl (te_ rfl (zdP (n:=1) rfl tx28 rfl) (zl 4 rfl (te_ rfl (zdP (n:=2) rfl tx28 rfl) (zl 4 rfl (zdi 2 33 3 (ls':=[Leaf.own 3 0,Leaf.val (.slice none 0 0),Leaf.val (.slice none 0 0)]) rfl rfl rfl ⟨.inr ⟨rfl,rfl⟩,.inl rfl,.inl rfl,trivial⟩ ?_))))));refine zdi 2 33 3 (ls':=[Leaf.own 3 0,Leaf.own 4 0,Leaf.val (.slice none 0 0)]) rfl rfl rfl ⟨.inl rfl,.inr ⟨rfl,rfl⟩,.inl rfl,trivial⟩ (zc 5 rfl ?_);refine zbO (fun m Γ H=>∃(i:Nat) (n1 n2:Nat) (lo up:List Rat) (q:Nat),inp-i=m/\Γ=[(0,some (D.ptr 0 0)),(1,some (D.val (.int .i64 (inp:Int)))),(4,some (D.ptr 1 0)),(5,some (D.ptr 2 0)),(6,some (D.val (.int .i64 (i:Int))))]/\H=[hbq 88 [El.row u8E l,Leaf.val (.int .i64 (q:Int))] bk,hb_ 28 [Leaf.val (.slice none 0 0),Leaf.val (.slice none 0 0),Leaf.val (.slice none 0 0)],hb_ 28 [Leaf.own 3 n1,Leaf.own 4 n2,Leaf.val (.slice none 0 0)],hgr 33 3 ratE lo n1,hgr 33 3 ratE up n2]/\i<=inp/\((lo,up),q)=zhI l k i) ⟨0,0,0,[],[],_,rfl,rfl,rfl,zxg _,rfl⟩ rfl ?_;rintro m Γ H ⟨i,n1,n2,lo,up,q,rfl,rfl,rfl,hi0,hs⟩;refine zc 5 rfl ?_;by_cases hi:i<inp
 .refine tq_ rfl (ltT rfl) (zl 8 rfl ?_);obtain⟨e1,e2⟩:=zci l k i;have hq:=zhH hk i;rw[<-hs] at e1 e2 hq;simp only[] at e1 e2 hq;have hq1:=zbv hq;have hq2:=zbv hq1;haveI:=zfS l q;haveI:=zfS l (nk l (nk l q));refine zc 2 rfl (te_ rfl (zaN rfl zw3 rfl rfl rfl rfl (zdg l q hl (by first|assumption|exact zbv (by assumption)) hb)) (zl 1 rfl (te_ rfl (zaN rfl zw3 rfl rfl rfl rfl (zdg l (nk l (nk l q)) hl (by first|assumption|exact zbv (by assumption)) hb)) (zl 12 rfl (dr_ 0 [(4,3),(11,4),(13,2),(15,2)] [3,4,2] (dz 1 rfl ?_))))));refine kp_ [3,4] rfl (jld rfl) (dz 1 rfl (ke_ rfl (fun _=>zag rfl zua ztR zuh rfl (by decide) (by decide) rfl (by decide) rfl) (ki_ 3 rfl (dap (zem l q) rfl rfl) (dz 1 rfl (kp_ [3,4] rfl (jld rfl) (dz 2 rfl ?_))))));refine kc_ zv1 rfl (zmS (qOf (zem l q)) (zem l q) (zao _) (Br.use (by omega)) (Qr.mk false (zab (zaV (zem l (nk l (nk l q))))) (zab (zaW (zem l (nk l (nk l q))))) (zaa _) (zaa _)) (rq false (zaV (zem l (nk l (nk l q)))) (zaW (zem l (nk l (nk l q))))) (zsb (zac _) (zac _)) (Fit.mk (Br.use (r:=zem l (nk l (nk l q))) (by omega)).n (Br.use (r:=zem l (nk l (nk l q))) (by omega)).d)) ?_;refine ke_ rfl (fun _=>zag rfl zua ztR zuh rfl (by decide) (by decide) rfl (by decide) rfl) (ki_ 4 rfl (dap ((zem l q)+(rq false (zaV (zem l (nk l (nk l q)))) (zaW (zem l (nk l (nk l q)))))) rfl rfl) (dz 4 rfl (zad (za 4 rfl (tq_ rfl (jad (i+1) rfl) (zl 2 rfl (zan 5 (zan 6 (zbq 5 rfl ?_)))))))));exact nx_ ⟨i+1,_,_,_,_,_,rfl,rfl,rfl,hi,by rw[zeq,<-hs];rfl⟩ rfl
 .refine tq_ rfl (ltF rfl) (zl 10 rfl ?_);have hie:inp=i:=by omega
  subst hie;have hq:=zhH hk inp;rw[<-hs] at hq;have hq:q<=l.length:=hq;have hm3:nx l q 3<3:=zdf (by decide);have hqk:=zbv hq;refine zdi 2 35 4 (ls':=[Leaf.own 3 n1,Leaf.own 4 n2,Leaf.own 5 0]) rfl rfl rfl ⟨.inl rfl,.inl rfl,.inr ⟨rfl,rfl⟩,trivial⟩ (zc 2 rfl (te_ rfl (zaN rfl zsW rfl rfl rfl rfl (zcq l q 3 (by first|decide|omega) (by first|decide|omega) hl (by first|assumption|exact zbv (by assumption)) hb)) (zl 4 rfl ?_)));refine zbO (fun m Γ H=>∃(i:Nat) (n3:Nat) (out:List Af) (q2:Nat),(nx l q 3)-i=m/\Γ=[(0,some (D.ptr 0 0)),(1,some (D.val (.int .i64 (inp:Int)))),(4,some (D.ptr 1 0)),(5,some (D.ptr 2 0)),(9,some (D.val (.int .i64 ((((nx l q 3)-i):Nat):Int))))]/\H=[hbq 88 [El.row u8E l,Leaf.val (.int .i64 (q2:Int))] bk,hb_ 28 [Leaf.val (.slice none 0 0),Leaf.val (.slice none 0 0),Leaf.val (.slice none 0 0)],hb_ 28 [Leaf.own 3 n1,Leaf.own 4 n2,Leaf.own 5 n3],hgr 33 3 ratE lo n1,hgr 33 3 ratE up n2,hgr 35 4 afE out n3]/\i<=(nx l q 3)/\(out,q2)=zbg l (fun _=>inp) (nk l q) i) ⟨0,0,[],_,rfl,rfl,rfl,zxg _,rfl⟩ rfl ?_;rintro m Γ H ⟨i,n3,out,q2,rfl,rfl,rfl,hj0,hs2⟩;refine zc 4 rfl ?_;by_cases hj:i<(nx l q 3)
  .refine tq_ rfl (gtT rfl) (zl 7 rfl ?_);have hol:=congrArg (fun p=>p.1.length) hs2;simp only[zbb] at hol;have hq2:q2<=l.length:=by have:=zcc (l:=l) (f:=(fun _=>inp)) (k:=(nk l q)) hqk (fun _=>.inr trivial) (fun j hj=>by omega) i (by omega);rw[<-hs2] at this;exact this
   refine dr_ 0 [(4,0),(6,5),(8,2)] [0,5,2] (dz 1 rfl (kp_ [0,5] rfl (jld rfl) (dz 2 rfl (ki_ 0 rfl (zcB rfl zw8 rfl rfl rfl rfl (zep l q2 inp (by omega) hl (by assumption) hb)) (ke_ rfl (fun _=>zag rfl ztP zh3 ztQ rfl (by decide) (by decide) rfl (by decide) rfl) (ki_ 5 rfl (dap (e:=afE) (⟨(zb0 l q2 inp).1.ts,(zb0 l q2 inp).1.c⟩) rfl rfl) ?_))))));refine dz 2 rfl (zad (za 4 rfl (tq_ rfl (jsb ((nx l q 3)-(i+1)) rfl) (zl 2 rfl ?_))));exact nx_ ⟨i+1,_,_,_,rfl,rfl,rfl,(by omega),by rw[zb6,<-hs2]⟩ rfl
  .refine tq_ rfl (gtF rfl) (zl 9 rfl ?_);have hie:i=(nx l q 3):=by omega
   subst hie;refine zc 5 rfl (zcj 1 (ls':=[El.row ratE lo,Leaf.own 4 n2,Leaf.own 5 n3]) rfl rfl (RowAt.ofE ratE lo rfl (by decide)) ⟨.inr ⟨rfl,rfl⟩,.inl rfl,.inl rfl,trivial⟩ (zcj 1 (ls':=[El.row ratE lo,El.row ratE up,Leaf.own 5 n3]) rfl rfl (RowAt.ofE ratE up rfl (by decide)) ⟨.inl rfl,.inr ⟨rfl,rfl⟩,.inl rfl,trivial⟩ ?_));refine zcj 1 (ls':=[El.row ratE lo,El.row ratE up,El.row afE out]) rfl rfl (RowAt.ofE afE out rfl (by decide)) ⟨.inl rfl,.inl rfl,.inr ⟨rfl,rfl⟩,trivial⟩ ?_;exact zea (fun _ _ h=>h) rfl (⟨_,_,rfl,rfl,.inl ⟨ty28,zxh rfl,rfl⟩⟩) (by unfold zgV;rw[<-hs,<-hs2]) rfl (by unfold zgV;rw[<-hs,<-hs2]) hX
theorem zlx(l:List Nat)(k:Nat)(hl:l.length<=1000000)(hk:k<=l.length)(hb:∀x∈l,x<256):CtrP Tryz.prog 10 88 [El.row u8E l,Leaf.val (.int .i64 (k:Int))] [El.row u8E l,Leaf.val (.int .i64 (((zdl l k).2:Nat):Int))] [] (R.one (quV (zdl l k).1)):=by
 refine CtrP.of_body Tryz.func10 rfl Tryz.ntmps10 (zxh rfl) (fun w0 A0 bk hX=>?_);refine qc_ ?_;have hg:=ziE l k;have h1:=hg.i1;have h2:=(zeS l k).1;have h3:=(zeS l k).2.1;have hk1:=znK hk;have hk2:=zr7 (n:=(zaE l k).1.inp) hk1 (by omega);refine zc 8 rfl (te_ rfl (zaN rfl fn28 rfl rfl rfl rfl (zlG l k hl (by assumption) hb)) (zl 9 rfl (te_ rfl (zaN rfl fn29 rfl rfl rfl rfl (zlp l ((zaE l k).2) ((zaE l k).1.inp) (by omega) hl (by assumption) hb)) (zl 5 rfl (dr_ 0 [(9,0),(11,1)] [0,1] (dz 7 rfl (kq_ rfl (jln rfl) ?_)))))));refine kq_ rfl (jad (((zaE l k).1.inp)+(((zaE l k).1.us).length)) rfl) (ki_ 0 rfl (zcB rfl zw8 rfl rfl rfl rfl (zep l ((zgV l ((zaE l k).2) ((zaE l k).1.inp)).2) (((zaE l k).1.inp)+(((zaE l k).1.us).length)) (by omega) hl (by assumption) hb)) (dz 2 rfl (zad (za 1 rfl ?_))));exact zea (fun _ _ h=>h) rfl (⟨_,_,rfl,rfl,.inl ⟨ty37,zxh rfl,rfl⟩⟩) rfl rfl rfl hX
theorem zhv(l:List Nat)(hl:l.length<=1000000)(hb:∀x∈l,x<256):Ctr Tryz.prog 5 [V.one (El.row u8E l)] (R.one (quV (zdl l 0).1)):=by
 refine bd_ Tryz.func5 Tryz.ntmps5 rfl (fun w0 A0=>?_);have hk0:0<=l.length:=zxg _;refine zc 8 rfl ?_;refine zop rfl rfl Tryz.func11 rfl rfl Tryz.ntmps11 (zxh rfl) rfl (fun a1 d1 s1=>?_);refine qc_ (zc 7 rfl (te_ rfl (ze3 rfl zwS ty5 _) (zl 1 rfl ?_)));obtain⟨ti2,hi2,hz2,hs2,hb2⟩:=in5;refine te_ rfl (zeb u8E l rfl rfl rfl (by decide) zwS zwS hi2 hz2 hs2 rfl (by simp only[maxLen];omega) (by rw[hb2];omega) (H2:=_)) (zl 5 rfl (zqh [(2,some (D.ptr 0 0))] (fun _ _ h=>h) d1 s1 rfl rfl rfl ⟨rfl,trivial⟩ (te_ rfl (zaN rfl fn10 rfl rfl rfl rfl (zlx l 0 hl (by assumption) hb)) (zl 3 rfl ?_))));exact r1_ hq_ rfl rfl
theorem zmG(l:List Af)(vars:Nat){B n:Nat}(hA:∀f∈l,Fm f.ts B n/\Br f.c B)(hB:B<=300000000000)(hn:n<=1000)(hl:l.length<=1000)(hv:vars<=1000000):Ctr Tryz.prog 44 [V.one (El.row afE l),V.one (Leaf.val (.int .i64 ((vars:Int))))] (R.one (V.one (Leaf.val (.bool (decide (∀f∈l,∀t∈f.ts,t.1<vars)))))):=by
 refine bd_ Tryz.func44 Tryz.ntmps44 rfl (fun w0 A0=>?_);refine zc 12 rfl (zbO (fun m Γ H=>∃(i:Nat),l.length-i=m/\Γ=[(0,some (D.v (V.one (El.row afE l)))),(1,some (D.val (.int .i64 (vars:Int)))),(5,some (D.val (.int .i64 (i:Int))))]/\H=[]/\i<=l.length/\∀f∈l.take i,∀t∈f.ts,t.1<vars) ⟨0,rfl,rfl,rfl,zxg _,by simp⟩ rfl ?_);rintro m Γ H ⟨i,rfl,rfl,rfl,hi0,hall⟩;refine zc 5 rfl (tq_ rfl (jln rfl) ?_);by_cases hi:i<l.length
 .refine tq_ rfl (ltT rfl) (zl 8 rfl ?_);obtain⟨x,hx⟩:∃x,l[i]?=some x:=⟨_,zxa hi⟩;obtain⟨hxm,hxc⟩:=hA x (zxb hx);refine zc 3 rfl (tq_ rfl (jix i hx rfl) (tq_ rfl (jlr rfl) (zl 1 rfl (tc_ zsY rfl (zmH x vars hxm.can hxm.bd hB (zxk hxm.len hn) hv) (zl 3 rfl ?_)))));refine zaz rfl (fun hc18=>?_) (fun hc18=>?_)
  .refine zc 5 rfl ?_;exact r1_ hq_ rfl (by rw[badA hx (by simpa using hc18)])
  .refine zc 5 rfl (tq_ rfl (jad (i+1) rfl) (zl 2 rfl ?_));exact nx_ ⟨i+1,rfl,rfl,rfl,hi,takeA hx hall (by simpa using hc18)⟩ rfl
 .refine tq_ rfl (ltF rfl) (zl 13 rfl ?_);exact r1_ hq_ rfl (by rw[decide_eq_true (show ∀f∈l,∀t∈f.ts,t.1<vars from by rw[show i=l.length by omega,zxx] at hall;exact hall)])
theorem zfL(f:Af){b n:Nat}(h:FOk b n f)(hb:b<=1000000000)(vars:Nat)(hv:n<=vars)(hv2:vars<=1000):Ctr Tryz.prog 24 [afV f,V.one (Leaf.val (.int .i64 ((vars:Int))))] (R.one (V.one (Leaf.val (.bool true)))):=by
 haveI:=h.br;have e:=zmH f vars (B:=b+1) h.can (fun t ht=>(h.bd t ht).br) (by omega) (zxk h.len (by omega)) (by omega)
 rwa [decide_eq_true (fun t ht=>zxj (h.var t ht) hv)] at e
theorem ze5(l:List Af){b n:Nat}(h:∀f∈l,FOk b n f)(hb:b<=1000000000)(hl:l.length<=1000)(vars:Nat)(hv:n<=vars)(hv2:vars<=1000):Ctr Tryz.prog 44 [V.one (El.row afE l),V.one (Leaf.val (.int .i64 ((vars:Int))))] (R.one (V.one (Leaf.val (.bool true)))):=by
 have e:=zmG l vars (B:=b+1) (n:=n) (fun f hf=>⟨(h f hf).fm (by omega),(h f hf).br⟩) (by omega) (by omega) hl (by omega)
 rwa [decide_eq_true (fun f hf t ht=>zxj ((h f hf).var t ht) hv)] at e
theorem zgS(l:List Rat){B:Nat}(h:∀x∈l,Br x B)(hB:B<=2000000)(hl:l.length<=1000):Ctr Tryz.prog 45 [V.one (El.row ratE l)] (R.one (V.one (Leaf.val (.bool true)))):=by
 refine bd_ Tryz.func45 Tryz.ntmps45 rfl (fun w0 A0=>?_);refine zc 12 rfl (zbO (fun m Γ H=>∃(i:Nat),l.length-i=m/\Γ=[(0,some (D.v (V.one (El.row ratE l)))),(3,some (D.val (.int .i64 (i:Int))))]/\H=[]/\i<=l.length) ⟨0,rfl,rfl,rfl,zxg _⟩ rfl ?_);rintro m Γ H ⟨i,rfl,rfl,rfl,hi0⟩;refine zc 5 rfl (tq_ rfl (jln rfl) ?_);by_cases hi:i<l.length
 .refine tq_ rfl (ltT rfl) (zl 8 rfl ?_);obtain⟨x,hx⟩:∃x,l[i]?=some x:=⟨_,zxa hi⟩;haveI hbx:=h x (zxb hx);refine zc 3 rfl (tq_ rfl (jix i hx rfl) (tq_ rfl (jlr rfl) (tc_ znO rfl (zcp (qOf x) x (zao _) (Br.use (by omega))) (is_ true rfl (zdz _) (zl 9 rfl (tq_ rfl (jad (i+1) rfl) (zl 2 rfl ?_)))))));exact nx_ ⟨i+1,rfl,rfl,rfl,hi⟩ rfl
 .refine tq_ rfl (ltF rfl) (zl 13 rfl ?_);exact r1_ hq_ rfl rfl
theorem zkK(g:Gr)(hg:GOk g):Ctr Tryz.prog 22 [grV g] (R.one (V.one (Leaf.val (.bool true)))):=by
 refine bd_ Tryz.func22 Tryz.ntmps22 rfl (fun w0 A0=>?_);have h1:=hg.i1;have h2:=hg.i3;have h3:=hg.u4;have h4:=hg.o1;have h5:=hg.o3;refine zc 11 rfl (tq_ rfl (ltF rfl) (zl 3 rfl (tq_ rfl (gtF rfl) (zl 4 rfl (tq_ rfl (jln rfl) (tq_ rfl (gtF rfl) (zl 4 rfl (tq_ rfl (jln rfl) (tq_ rfl (ltF rfl) ?_)))))))));refine zl 4 rfl (tq_ rfl (jln rfl) (tq_ rfl (gtF rfl) (zl 13 rfl (zbO (fun m Γ H=>∃(i:Nat),g.us.length-i=m/\Γ=[(1,some (D.ptr 0 0)),(3,some (D.val (.int .i64 (i:Int))))]/\H=[hb_ 25 [Leaf.val (.int .i64 ((g.inp:Nat):Int)),El.row afE g.us,El.row afE g.os]]/\i<=g.us.length) ⟨0,rfl,rfl,rfl,zxg _⟩ rfl ?_))));rintro m Γ H ⟨i,rfl,rfl,rfl,hi0⟩;refine zc 6 rfl (tq_ rfl (jln rfl) ?_);by_cases hi:i<g.us.length
 .refine tq_ rfl (ltT rfl) (zl 8 rfl ?_);obtain⟨x,hx⟩:∃x,g.us[i]?=some x:=⟨_,zxa hi⟩;have hxo:=hg.us i x hx;refine dr_ 0 [] [] (dz 3 rfl (kq_ rfl (jix i hx rfl) (kq_ rfl (jlr rfl) (dz 3 rfl (kq_ rfl (jad (g.inp+i) rfl) (kc_ zsY rfl (zfL x hxo (by omega) (g.inp+i) (zxe _) (by omega)) (dz 1 rfl (zad (za 7 rfl ?_)))))))));refine tq_ rfl (jad (i+1) rfl) (zl 2 rfl ?_);exact nx_ ⟨i+1,rfl,rfl,rfl,hi⟩ rfl
 .refine tq_ rfl (ltF rfl) (zl 16 rfl (tq_ rfl (jln rfl) (tq_ rfl (jad (g.inp+g.us.length) rfl) (tc_ zw7 rfl (ze5 g.os hg.os (by omega) (by omega) (g.inp+g.us.length) (zxe _) (by omega)) (zl 3 rfl ?_)))));exact r1_ hq_ rfl rfl
theorem zqH(g:Gr)(hg:GOk g):Ctr Tryz.prog 25 [grV g] (R.one (V.one (Leaf.val (.int .i64 (((g.inp+g.us.length:Nat):Int)))))):=by
 refine bd_ Tryz.func25 Tryz.ntmps25 rfl (fun w0 A0=>?_);have h1:=hg.i1;have h2:=hg.i3;have h3:=hg.u4;have h4:=hg.o1;have h5:=hg.o3;refine zc 10 rfl (tc_ zw9 rfl (zkK g (by assumption)) (zl 12 rfl (tq_ rfl (jln rfl) (tq_ rfl (jad (g.inp+g.us.length) rfl) (zl 3 rfl ?_)))));exact r1_ hq_ rfl rfl
theorem zm1(r:Rg)(n:Nat)(hr:ROk n r)(hn1:1<=n)(hn3:n<=256):Ctr Tryz.prog 23 [rgV r,V.one (Leaf.val (.int .i64 ((n:Int))))] (R.one (V.one (Leaf.val (.bool true)))):=by
 refine bd_ Tryz.func23 Tryz.ntmps23 rfl (fun w0 A0=>?_);have h1:=hr.lo;have h2:=hr.hi;have h3:=hr.r2;refine zc 10 rfl (tq_ rfl (ltF rfl) (zl 2 rfl (tq_ rfl (gtF rfl) (zl 4 rfl (tq_ rfl (jln rfl) (zl 1 rfl (tq_ rfl (neF rfl) (zl 4 rfl (tq_ rfl (jln rfl) ?_)))))))));refine zl 1 rfl (tq_ rfl (neF rfl) (zl 4 rfl (tq_ rfl (jln rfl) (tq_ rfl (gtF rfl) (zl 11 rfl ?_)))));refine tc_ zw6 rfl (zgS r.lo (B:=1048577) (fun x hx=>by obtain⟨j,hj⟩:=zb5 hx;obtain⟨y,hy⟩:∃y,r.hi[j]?=some y:=⟨_,zxa (by have:=(zxc.1 hj).1;omega)⟩;exact(hr.bd j _ _ hj hy).1.limb (by omega)) (by omega) (by omega)) ?_;refine zl 4 rfl ?_;refine tc_ zw6 rfl (zgS r.hi (B:=1048577) (fun x hx=>by obtain⟨j,hj⟩:=zb5 hx;obtain⟨y,hy⟩:∃y,r.lo[j]?=some y:=⟨_,zxa (by have:=(zxc.1 hj).1;omega)⟩;exact(hr.bd j _ _ hy hj).2.1.limb (by omega)) (by omega) (by omega)) ?_;refine zl 6 rfl (tc_ zw7 rfl (ze5 r.rows hr.rows (by omega) (by omega) n (zxe _) (by omega)) (zl 14 rfl ?_));refine zbO (fun m Γ H=>∃(i:Nat),n-i=m/\Γ=[(1,some (D.val (.int .i64 (n:Int)))),(2,some (D.ptr 0 0)),(5,some (D.val (.int .i64 (i:Int))))]/\H=[hb_ 28 [El.row ratE r.lo,El.row ratE r.hi,El.row afE r.rows]]/\i<=n) ⟨0,rfl,rfl,rfl,zxg _⟩ rfl ?_;rintro m Γ H ⟨i,rfl,rfl,rfl,hi0⟩;refine zc 5 rfl ?_;by_cases hi:i<n
 .refine tq_ rfl (ltT rfl) (zl 8 rfl ?_);obtain⟨x,hx⟩:∃x,r.lo[i]?=some x:=⟨_,zxa (by omega)⟩;obtain⟨y,hy⟩:∃y,r.hi[i]?=some y:=⟨_,zxa (by omega)⟩;obtain⟨hb1,hb2,hxy⟩:=hr.bd i x y hx hy;haveI:=hb1.limb (k:=1048577) (by omega);haveI:=hb2.limb (k:=1048577) (by omega);refine dr_ 0 [] [] (dz 3 rfl (kq_ rfl (jix i hx rfl) (kq_ rfl (jlr rfl) (dz 3 rfl (kq_ rfl (jix i hy rfl) (kq_ rfl (jlr rfl) (kc_ zw5 rfl (zpc (qOf (x)) (x) (zao _) (Br.use (by omega)) (qOf (y)) (y) (zao _) (Br.use (by omega))) (kq_ rfl (gtF rfl (by have:=zeX.2 hxy;omega)) (zad ?_)))))))));refine za 7 rfl (tq_ rfl (jad (i+1) rfl) (zl 2 rfl ?_));exact nx_ ⟨i+1,rfl,rfl,rfl,hi⟩ rfl
 .refine tq_ rfl (ltF rfl) (zl 13 rfl ?_);exact r1_ hq_ rfl rfl
theorem zku(q:Qu)(hq:QOk q):Ctr Tryz.prog 7 [quV q] (R.one (V.one (Leaf.val (.bool true)))):=by
 refine bd_ Tryz.func7 Tryz.ntmps7 rfl (fun w0 A0=>?_);have hg:=hq.g;have hr:=hq.r;have h1:=hg.i1;have h2:=hg.i3;have h3:=hg.u4;have h4:=hg.o1;have h5:=hg.o3;refine zc 7 rfl (dr_ 0 [] [] (dz 2 rfl (kc_ zw9 rfl (zkK q.g (by assumption)) (dz 6 rfl (kc_ fn23 rfl (zm1 q.r q.g.inp (by assumption) (by omega) (by omega)) (dz 6 rfl (kc_ fn25 rfl (zqH q.g (by assumption)) (kc_ zsY rfl (zfL q.goal hq.goal (by omega) (q.g.inp+q.g.us.length) (zxe _) (by omega)) (dz 2 rfl ?_)))))))));refine zad (za 1 rfl ?_);exact r1_ hq_ rfl rfl
theorem iof_z(z:Int)(h1:-9223372036854775808<=z)(h2:z<=9223372036854775807):Ctr Tryz.prog 36 [V.one (Leaf.val (.int .i64 z))] (R.one (zV (zOf z))):=by
 refine bd_ Tryz.func36 Tryz.ntmps36 rfl (fun w0 A0=>?_);refine zc 9 rfl ?_;by_cases hz0:z<0
 .refine tq_ rfl (ltT rfl) (zl 6 rfl (tq_ rfl (jc6 (18446744073709551616-z.natAbs) rfl) (tq_ rfl (zhb rfl rfl (r:=((z.natAbs:Nat):Int)) (zcC (by omega))) (tc_ zsV rfl (zd4 z.natAbs (by omega)) (zl 4 rfl ?_)))));exact r1_ hq_ rfl (by show R.one (V.agg [Leaf.val (.bool true),zaf (zab z.natAbs)])=R.one (V.agg [Leaf.val (.bool (decide (z<0))),zaf (zab z.natAbs)]);rw[decide_eq_true hz0])
 .refine tq_ rfl (ltF rfl) (zl 8 rfl (tq_ rfl (jc6 z.natAbs rfl) (tc_ zsV rfl (zd4 z.natAbs (by omega)) (zl 4 rfl ?_))));exact r1_ hq_ rfl (by show R.one (V.agg [Leaf.val (.bool false),zaf (zab z.natAbs)])=R.one (V.agg [Leaf.val (.bool (decide (z<0))),zaf (zab z.natAbs)]);rw[decide_eq_false hz0])
theorem zuA(z:Int){B:Nat}[Bz z B](hB:B<=1000):Ctr Tryz.prog 35 [zV (zOf z)] (R.one (qV (qOf (z:Rat)))):=by
 refine bd_ Tryz.func35 Tryz.ntmps35 rfl (fun w0 A0=>?_);refine zc 7 rfl (dr_ 0 [(6,1)] [1] (dz 4 rfl (kc_ fn65 rfl (qone) (kc_ zw0 rfl (zpj (decide (z<0)) (zab (Int.natAbs (z))) [1] (zaa _) (Small.cons (by decide) Small.nil) (Bz.use (z:=z) (by omega)) (by simp) (Int.natAbs (z)) (1) (zac _) rfl (by decide)) (dz 1 rfl (zad (za 1 rfl ?_)))))));exact r1_ hq_ rfl (by rw[zrZ] <;> rfl)
theorem zpk(z:Int)(h1:-9223372036854775808<=z)(h2:z<=9223372036854775807):Ctr Tryz.prog 17 [V.one (Leaf.val (.int .i64 z))] (R.one (qV (qOf (z:Rat)))):=by
 refine bd_ Tryz.func17 Tryz.ntmps17 rfl (fun w0 A0=>?_);haveI:Bz z 2:=⟨Bn.of_lt (by omega) (by omega)⟩;refine zc 8 rfl (tc_ fn36 rfl (iof_z z (by omega) (by omega)) (tc_ fn35 rfl (zuA z (by omega)) (zl 3 rfl ?_)));exact r1_ hq_ rfl rfl
theorem zkC(f:Af){b n:Nat}(h:FOk b n f)(hb:b<=1000000000)(vars:Nat)(hv:n<=vars)(hv2:vars<=1000):Ctr Tryz.prog 33 [afV f,V.one (Leaf.val (.int .i64 ((vars:Int))))] (R.one (V.one (Leaf.val (.bool true)))):=by
 refine bd_ Tryz.func33 Tryz.ntmps33 rfl (fun w0 A0=>?_);haveI:=h.br;have hln:=h.len;refine zc 11 rfl (tq_ rfl (jln rfl) (zl 4 rfl ?_));refine zbO (fun m Γ H=>∃(i:Nat),f.ts.length-i=m/\Γ=[(1,some (D.val (.int .i64 (vars:Int)))),(2,some (D.ptr 0 0)),(8,some (D.v (V.one (El.row tmE f.ts)))),(9,some (D.val (.int .i64 ((f.ts.length:Nat):Int)))),(10,some (D.val (.int .i64 (i:Int))))]/\H=[hb_ 35 (afL f)]/\i<=f.ts.length) ⟨0,rfl,rfl,rfl,zxg _⟩ rfl ?_;rintro m Γ H ⟨i,rfl,rfl,rfl,hi0⟩;refine zc 2 rfl ?_;by_cases hi:i<f.ts.length
 .refine tq_ rfl (ltT rfl) (zl 9 rfl ?_);obtain⟨x,hx⟩:∃x,f.ts[i]?=some x:=⟨_,zxa hi⟩;have hxm:=zxb hx;haveI hbx:=(h.bd x hxm).br;obtain⟨hn0,hgt,hlt⟩:=h.can.get hx;have hxv:=h.var x hxm;refine zc 2 rfl (tq_ rfl (jix i hx rfl) (tq_ rfl (jlr rfl) (zl 6 rfl (dr_ 0 [] [] (dz 2 rfl (kq_ rfl (ltF rfl) (dz 4 rfl (kq_ rfl (geF rfl) (dz 3 rfl ?_)))))))));by_cases hi1:0<i
  .refine kq_ rfl (gtT rfl) (dz 4 rfl ?_);obtain⟨y,hy⟩:∃y,f.ts[i-1]?=some y:=⟨_,zxa (by omega)⟩;have hyx:=h.can.prev hi1 hx hy;refine kq_ rfl (jsb (i-1) rfl) (kq_ rfl (jix (i-1) hy rfl) (kq_ rfl (jfr rfl) (kq_ rfl (jli rfl) (dz 2 rfl (kq_ rfl (geF rfl) (dz 5 rfl (kc_ zpI rfl (zhp (qOf (x.2)) (x.2) (zao _) (Br.use (by omega))) (kq_ rfl (eqF rfl (zfi hn0)) (dz 4 rfl ?_)))))))));refine kc_ zoM rfl (zdS (qOf (x.2)) (x.2) (zao _) (Br.use (by omega))) (zgy true rfl (zdz _) (dz 2 rfl (zad (za 6 rfl (tq_ rfl (jad (i+1) rfl) (zl 2 rfl (zan 1 (zbq 1 rfl ?_))))))));exact nx_ ⟨i+1,rfl,rfl,rfl,hi⟩ rfl
  .refine kq_ rfl (gtF rfl) (dz 16 rfl (kc_ zpI rfl (zhp (qOf (x.2)) (x.2) (zao _) (Br.use (by omega))) (kq_ rfl (eqF rfl (zfi hn0)) (dz 4 rfl (kc_ zoM rfl (zdS (qOf (x.2)) (x.2) (zao _) (Br.use (by omega))) (zgy true rfl (zdz _) (dz 2 rfl (zad (za 6 rfl ?_)))))))));refine tq_ rfl (jad (i+1) rfl) (zl 2 rfl (zan 1 (zbq 1 rfl ?_)));exact nx_ ⟨i+1,rfl,rfl,rfl,hi⟩ rfl
 .refine tq_ rfl (ltF rfl) (zl 13 rfl (tc_ zoM rfl (zdS (qOf (f.c)) (f.c) (zao _) (Br.use (by omega))) (is_ true rfl (zdz _) (zl 3 rfl ?_))));exact r1_ hq_ rfl rfl
theorem zsA(l:List Af)(f:Nat)(ls:List Leaf)(hl:l.length<=1000000)(hf:zay Tryz.prog f)(hp:∀x∈l,Ctr Tryz.prog f ([afV x]++zpq ls) (R.one (V.one (Leaf.val (.bool false))))):Ctr Tryz.prog 88 [V.one (El.row afE l),V.one (Leaf.rep (zdA f ls))] (R.one (V.one (Leaf.val (.int .i64 (-1))))):=by
 refine bd_ Tryz.func88 Tryz.ntmps88 rfl (fun w0 A0=>?_);refine zc 9 rfl (tq_ rfl (jln rfl) (zl 4 rfl (zbO (fun m Γ H=>∃(i:Nat),l.length-i=m/\Γ=[(0,some (D.v (V.one (El.row afE l)))),(1,some (D.rep (zdA f ls))),(7,some (D.val (.int .i64 ((l.length:Nat):Int)))),(8,some (D.val (.int .i64 (i:Int))))]/\H=[]/\i<=l.length) ⟨0,rfl,rfl,rfl,zxg _⟩ rfl ?_)));rintro m Γ H ⟨i,rfl,rfl,rfl,hi0⟩;refine zc 2 rfl ?_;by_cases hi:i<l.length
 .refine tq_ rfl (ltT rfl) (zl 15 rfl ?_);obtain⟨x,hx⟩:∃x,l[i]?=some x:=⟨_,zxa hi⟩;refine zc 4 rfl (tq_ rfl (jix i hx rfl) (tq_ rfl (jlr rfl) (te_ rfl (zjd rfl rfl hf rfl (hp x (zxb hx))) (zl 7 rfl (tq_ rfl (jad (i+1) rfl) (zl 2 rfl ?_))))));exact nx_ ⟨i+1,rfl,rfl,rfl,hi⟩ rfl
 .refine tq_ rfl (ltF rfl) (zl 14 rfl ?_);exact r1_ hq_ rfl rfl
theorem znF(l:List Af)(f:Nat)(ls:List Leaf)(hl:l.length<=1000000)(hf:zay Tryz.prog f)(hp:∀x∈l,Ctr Tryz.prog f ([afV x]++zpq ls) (R.one (V.one (Leaf.val (.bool false))))):Ctr Tryz.prog 59 [V.one (El.row afE l),V.one (Leaf.rep (zdA f ls))] (R.one (V.one (Leaf.val (.bool false)))):=by
 refine bd_ Tryz.func59 Tryz.ntmps59 rfl (fun w0 A0=>?_);refine zc 9 rfl (tc_ fn88 rfl (zsA l f ls hl hf hp) (zl 4 rfl ?_));exact r1_ hq_ rfl rfl
theorem zsD(f:Af){b n:Nat}(h:FOk b n f)(hb:b<=1000000000)(vars:Nat)(hv:n<=vars)(hv2:vars<=1000):Ctr Tryz.prog 86 [afV f,V.one (Leaf.rep (zbf [Leaf.val (.int .i64 (vars:Int))]))] (R.one (V.one (Leaf.val (.bool false)))):=by
 refine bd_ Tryz.func86 Tryz.ntmps86 rfl (fun w0 A0=>?_);refine zc 9 rfl (tq_ rfl (jli rfl) (tc_ zre rfl (zkC f h hb vars hv hv2) (zl 4 rfl ?_)));exact r1_ hq_ rfl rfl
theorem zrU(f:Af){b n:Nat}(h:FOk b n f)(hb:b<=1000000000)(vars:Nat)(hv:n<=vars)(hv2:vars<=1000):Ctr Tryz.prog 60 [afV f,V.one (Leaf.rep (zbf [Leaf.val (.int .i64 (vars:Int))]))] (R.one (V.one (Leaf.val (.bool false)))):=by
 refine bd_ Tryz.func60 Tryz.ntmps60 rfl (fun w0 A0=>?_);refine zc 9 rfl (tq_ rfl (jli rfl) (tc_ zre rfl (zkC f h hb vars hv hv2) (zl 4 rfl ?_)));exact r1_ hq_ rfl rfl
theorem gvall(l:List Af){b n:Nat}(h:∀f∈l,FOk b n f)(hb:b<=1000000000)(hl:l.length<=1000)(vars:Nat)(hv:n<=vars)(hv2:vars<=1000):Ctr Tryz.prog 57 [V.one (El.row afE l),V.one (Leaf.val (.int .i64 ((vars:Int))))] (R.one (V.one (Leaf.val (.bool true)))):=by
 refine bd_ Tryz.func57 Tryz.ntmps57 rfl (fun w0 A0=>?_);refine zc 9 rfl (zeu 3 rfl rfl rfl (te_ rfl (zcP [Leaf.rep (zbf [Leaf.val (.int .i64 (vars:Int))])] rfl rfl) (tc_ zw2 rfl (znF l 86 _ (by omega) fn86 (fun x hx=>zsD x (h x hx) hb vars hv hv2)) (zl 4 rfl ?_))));exact r1_ hq_ rfl rfl
theorem zpB(g:Gr)(hg:GOk g):Ctr Tryz.prog 31 [grV g] (R.one (V.one (Leaf.val (.bool true)))):=by
 refine bd_ Tryz.func31 Tryz.ntmps31 rfl (fun w0 A0=>?_);have h1:=hg.i1;have h2:=hg.i3;have h3:=hg.u4;have h4:=hg.o1;have h5:=hg.o3;refine zc 11 rfl (tq_ rfl (ltF rfl) (zl 3 rfl (tq_ rfl (gtF rfl) (zl 4 rfl (tq_ rfl (jln rfl) (tq_ rfl (gtF rfl) (zl 4 rfl (tq_ rfl (jln rfl) (tq_ rfl (ltF rfl) ?_)))))))));refine zl 4 rfl (tq_ rfl (jln rfl) (tq_ rfl (gtF rfl) (zl 11 rfl (tq_ rfl (jln rfl) (zl 4 rfl ?_)))));refine zbO (fun m Γ H=>∃(i:Nat),g.us.length-i=m/\Γ=[(1,some (D.ptr 0 0)),(32,some (D.v (V.one (El.row afE g.us)))),(33,some (D.val (.int .i64 ((g.us.length:Nat):Int)))),(34,some (D.val (.int .i64 (i:Int))))]/\H=[hb_ 25 [Leaf.val (.int .i64 ((g.inp:Nat):Int)),El.row afE g.us,El.row afE g.os]]/\i<=g.us.length) ⟨0,rfl,rfl,rfl,zxg _⟩ rfl ?_;rintro m Γ H ⟨i,rfl,rfl,rfl,hi0⟩;refine zc 2 rfl ?_;by_cases hi:i<g.us.length
 .refine tq_ rfl (ltT rfl) (zl 9 rfl ?_);obtain⟨x,hx⟩:∃x,g.us[i]?=some x:=⟨_,zxa hi⟩;have hxo:=hg.us i x hx;refine zc 2 rfl (tq_ rfl (jix i hx rfl) (tq_ rfl (jlr rfl) (zl 11 rfl (tq_ rfl (jad (g.inp+i) rfl) (tc_ zre rfl (zkC x hxo (by omega) (g.inp+i) (zxe _) (by omega)) (zl 8 rfl (tq_ rfl (jad (i+1) rfl) (zl 2 rfl (zan 1 ?_)))))))));refine zbq 1 rfl ?_;exact nx_ ⟨i+1,rfl,rfl,rfl,hi⟩ rfl
 .refine tq_ rfl (ltF rfl) (zl 17 rfl (tq_ rfl (jln rfl) (tq_ rfl (jad (g.inp+g.us.length) rfl) (tc_ fn57 rfl (gvall g.os hg.os (by omega) (by omega) (g.inp+g.us.length) (zxe _) (by omega)) (zl 3 rfl ?_)))));exact r1_ hq_ rfl rfl
theorem zm2(r:Rg)(n:Nat)(hr:ROk n r)(hn1:1<=n)(hn3:n<=256):Ctr Tryz.prog 32 [rgV r,V.one (Leaf.val (.int .i64 ((n:Int))))] (R.one (V.one (Leaf.val (.bool true)))):=by
 refine bd_ Tryz.func32 Tryz.ntmps32 rfl (fun w0 A0=>?_);have h1:=hr.lo;have h2:=hr.hi;have h3:=hr.r2;refine zc 11 rfl (tq_ rfl (ltF rfl) (zl 2 rfl (tq_ rfl (gtF rfl) (zl 4 rfl (tq_ rfl (jln rfl) (zl 1 rfl (tq_ rfl (neF rfl) (zl 4 rfl (tq_ rfl (jln rfl) ?_)))))))));refine zl 1 rfl (tq_ rfl (neF rfl) (zl 4 rfl (tq_ rfl (jln rfl) (tq_ rfl (gtF rfl) (zl 11 rfl (tq_ rfl (jln rfl) (zl 4 rfl ?_)))))));refine zbO (fun m Γ H=>∃(i:Nat),n-i=m/\Γ=[(2,some (D.ptr 0 0)),(3,some (D.ptr 1 0)),(34,some (D.v (V.one (El.row ratE r.lo)))),(35,some (D.val (.int .i64 ((r.lo.length:Nat):Int)))),(36,some (D.val (.int .i64 (i:Int))))]/\H=[hb_ 28 [El.row ratE r.lo,El.row ratE r.hi,El.row afE r.rows],hb_ 3 [Leaf.val (.int .i64 (n:Int))]]/\i<=n) ⟨0,rfl,rfl,rfl,zxg _⟩ rfl ?_;rintro m Γ H ⟨i,rfl,rfl,rfl,hi0⟩;refine zc 2 rfl ?_;by_cases hi:i<r.lo.length
 .refine tq_ rfl (ltT rfl) (zl 9 rfl ?_);obtain⟨x,hx⟩:∃x,r.lo[i]?=some x:=⟨_,zxa (by omega)⟩;obtain⟨y,hy⟩:∃y,r.hi[i]?=some y:=⟨_,zxa (by omega)⟩;obtain⟨hb1,hb2,hxy⟩:=hr.bd i x y hx hy;haveI:=hb1.limb (k:=1048577) (by omega);haveI:=hb2.limb (k:=1048577) (by omega);refine zc 2 rfl (tq_ rfl (jix i hx rfl) (tq_ rfl (jlr rfl) (zl 6 rfl (dr_ 0 [] [] (dz 1 rfl (kc_ zoM rfl (zdS (qOf (x)) (x) (zao _) (Br.use (by omega))) (zgy true rfl (zdz _) (dz 5 rfl (kq_ rfl (jix i hy rfl) ?_)))))))));refine kq_ rfl (jlr rfl) (kc_ zoM rfl (zdS (qOf (y)) (y) (zao _) (Br.use (by omega))) (zgy true rfl (zdz _) (dz 7 rfl (kq_ rfl (jix i hy rfl) (kq_ rfl (jlr rfl) (kc_ zt1 rfl (ztS (qOf (x)) (x) (zao _) (Br.use (by omega)) (qOf (y)) (y) (zao _) (Br.use (by omega))) (kq_ rfl (gtF rfl (by have:=zeX.2 hxy;omega)) (dz 1 rfl (zad ?_)))))))));refine za 6 rfl (tq_ rfl (jad (i+1) rfl) (zl 2 rfl (zan 2 (zbq 2 rfl ?_))));exact nx_ ⟨i+1,rfl,rfl,rfl,(by omega)⟩ rfl
 .refine tq_ rfl (ltF rfl) (zl 13 rfl (zeu 3 rfl rfl rfl (te_ rfl (zcP [Leaf.rep (zbf [Leaf.val (.int .i64 (n:Int))])] rfl rfl) (tc_ zw2 rfl (znF r.rows 60 _ (by omega) fn60 (fun x hx=>zrU x (hr.rows x hx) (by omega) n (zxe _) (by omega))) (zl 4 rfl ?_)))));exact r1_ hq_ rfl rfl
theorem zkv(q:Qu)(hq:QOk q):Ctr Tryz.prog 12 [quV q] (R.one (V.one (Leaf.val (.bool true)))):=by
 refine bd_ Tryz.func12 Tryz.ntmps12 rfl (fun w0 A0=>?_);have hg:=hq.g;have hr:=hq.r;have h1:=hg.i1;have h2:=hg.i3;have h3:=hg.u4;have h4:=hg.o1;have h5:=hg.o3;refine zc 10 rfl (tc_ fn31 rfl (zpB q.g (by assumption)) (zl 6 rfl (tc_ fn32 rfl (zm2 q.r q.g.inp (by assumption) (by omega) (by omega)) (zl 10 rfl (tq_ rfl (jln rfl) (tq_ rfl (jad (q.g.inp+q.g.us.length) rfl) (tc_ zre rfl (zkC q.goal hq.goal (by omega) (q.g.inp+q.g.us.length) (zxe _) (by omega)) (zl 4 rfl ?_))))))));exact r1_ hq_ rfl rfl
end Go.Proofs.YticnclbnchgigaaGreatDoor
namespace Rc
open Go Go.RowKit
class Fq (x:Qr) (k:outParam Nat):Prop where
 fit:Fit k x
theorem Fq.use{x:Qr}{k k':Nat}[h:Fq x k](hk:k<=k'):Fit k' x:=h.fit.mono hk
instance Fq.of{r:Rat}{k:Nat}[h:Br r k]:Fq (qOf r) k:=⟨h.fit⟩
instance Fq.br{x:Qr}{k:Nat}[h:Fq x k]:Br x.q k:=Br.q h.fit
theorem Fq.mono{x:Qr}{k k':Nat}(h:Fq x k)(hk:k<=k'):Fq x k':=⟨h.fit.mono hk⟩
instance Br.one:Br ((1:Int):Rat) 2:=Br.int2 (by decide) (by decide)
instance Br.mone:Br ((-1:Int):Rat) 2:=Br.int2 (by decide) (by decide)
def lv(l:List Lm)(n:Nat):Rat:=match l[n-1]? with|some m=>m.v.q|none=>0
theorem zfW{l:List Lm}{n:Nat}{m:Lm}(h:l[n-1]?=some m):lv l n=m.v.q:=by unfold lv;rw[h]
def zjh(l:List Lm)(u:Int)(s:Nat×Nat)(n:Nat):Nat×Nat:=
 match l[n]? with
 |none=>s
 |some m=>if m.unit=u then(if m.up=true then(if s.2=0\/m.v.q<lv l s.2 then(s.1,n+1) else s) else(if s.1=0\/lv l s.1<m.v.q then(n+1,s.2) else s)) else s
def zbr(l:List Lm)(u:Int)(n:Nat):Nat×Nat:=(List.range n).foldl (zjh l u) (0,0)
def zaR(l:List Lm)(u:Int):Nat×Nat:=zbr l u l.length
theorem zaD(l:List Lm)(u:Int)(n:Nat):zbr l u (n+1)=zjh l u (zbr l u n) n:=by
 unfold zbr;rw[List.range_succ,zxC];rfl
section
variable {l:List Lm}{u:Int}{s:Nat×Nat}{n:Nat}{x:Lm}(hx:l[n]?=some x)
include hx
theorem zgj(h:x.unit≠u):zjh l u s n=s:=by unfold zjh;simp only[hx];rw[if_neg h]
theorem zd7(h:x.unit=u)(hu:x.up=true)(hc:s.2=0\/x.v.q<lv l s.2):zjh l u s n=(s.1,n+1):=by unfold zjh;simp only[hx];rw[if_pos h,if_pos hu,if_pos hc]
theorem zgi(h:x.unit=u)(hu:x.up=true)(hc:¬(s.2=0\/x.v.q<lv l s.2)):zjh l u s n=s:=by unfold zjh;simp only[hx];rw[if_pos h,if_pos hu,if_neg hc]
theorem zd8(h:x.unit=u)(hu:x.up=false)(hc:s.1=0\/lv l s.1<x.v.q):zjh l u s n=(n+1,s.2):=by unfold zjh;simp only[hx];rw[if_pos h,if_neg (by rw[hu];decide),if_pos hc]
theorem zgk(h:x.unit=u)(hu:x.up=false)(hc:¬(s.1=0\/lv l s.1<x.v.q)):zjh l u s n=s:=by unfold zjh;simp only[hx];rw[if_pos h,if_neg (by rw[hu];decide),if_neg hc]
end
def isLm(l:List Lm)(u:Int)(up:Bool)(n:Nat):Prop:=n=0 \/ ∃m,l[n-1]?=some m/\0<n/\m.unit=u/\m.up=up
theorem zcM(l:List Lm)(u:Int):∀n,(zbr l u n).1<=n/\(zbr l u n).2<=n/\isLm l u false (zbr l u n).1/\isLm l u true (zbr l u n).2
 |0=>⟨zxe _,zxe _,.inl rfl,.inl rfl⟩
 |n+1=>by
  obtain⟨h1,h2,h3,h4⟩:=zcM l u n;rw[zaD]
  cases hx:l[n]? with
  |none=>unfold zjh;simp only[hx];exact⟨by omega,by omega,h3,h4⟩
  |some x=>
   by_cases hu:x.unit=u
   .cases hup:x.up
    .by_cases hc:(zbr l u n).1=0\/lv l (zbr l u n).1<x.v.q
     .rw[zd8 hx hu hup hc];exact⟨zxe _,by show(zbr l u n).2<=n+1;omega,.inr ⟨x,by simpa using hx,by simp,hu,hup⟩,h4⟩
     .rw[zgk hx hu hup hc];exact⟨by omega,by omega,h3,h4⟩
    .by_cases hc:(zbr l u n).2=0\/x.v.q<lv l (zbr l u n).2
     .rw[zd7 hx hu hup hc];exact⟨by show(zbr l u n).1<=n+1;omega,zxe _,h3,.inr ⟨x,by simpa using hx,by simp,hu,hup⟩⟩
     .rw[zgi hx hu hup hc];exact⟨by omega,by omega,h3,h4⟩
   .rw[zgj hx hu];exact⟨by omega,by omega,h3,h4⟩
theorem zgo{l:List Lm}{u:Int}(h:(zaR l u).1≠0):∃m,l[(zaR l u).1-1]?=some m/\m.unit=u/\m.up=false/\lv l (zaR l u).1=m.v.q/\0<(zaR l u).1/\(zaR l u).1<=l.length:=by
 obtain⟨h1,h2,h3,h4⟩:=zcM l u l.length;rcases h3 with h3|⟨m,q1,q2,q3,q4⟩
 .exact absurd h3 h
 .exact⟨m,q1,q3,q4,zfW q1,q2,h1⟩
theorem ze0{l:List Lm}{u:Int}(h:(zaR l u).2≠0):∃m,l[(zaR l u).2-1]?=some m/\m.unit=u/\m.up=true/\lv l (zaR l u).2=m.v.q/\0<(zaR l u).2/\(zaR l u).2<=l.length:=by
 obtain⟨h1,h2,h3,h4⟩:=zcM l u l.length;rcases h4 with h3|⟨m,q1,q2,q3,q4⟩
 .exact absurd h3 h
 .exact⟨m,q1,q3,q4,zfW q1,q2,h2⟩
theorem zn8(l:List Lm)(u:Int):(zaR l u).1<=l.length/\(zaR l u).2<=l.length:=⟨(zcM l u l.length).1,(zcM l u l.length).2.1⟩
def zbT(a b:Rw):Bool:=if a.kind≠b.kind then decide (a.kind<b.kind) else if a.idx≠b.idx then decide (a.idx<b.idx) else if a.lo≠b.lo then decide (a.lo<b.lo) else decide (a.hi<b.hi)
theorem zfY{a b:Rw}:zbT a b=true↔a.kind<b.kind\/(a.kind=b.kind/\(a.idx<b.idx\/(a.idx=b.idx/\(a.lo<b.lo\/(a.lo=b.lo/\a.hi<b.hi))))):=by
 unfold zbT;split
 .simp;omega
 .split
  .simp;omega
  .split <;> simp <;> omega
theorem zjC{a b c:Rw}(h:zbT a b=true)(h':zbT b c=true):zbT a c=true:=by
 rw[zfY] at *;omega
theorem ziA(a:Rw):zbT a a=false:=by
 cases h:zbT a a
 .rfl
 .rw[zfY] at h;omega
theorem zjD{a b:Rw}(h:zbT a b=false)(hne:a≠b):zbT b a=true:=by
 cases h':zbT b a
 .exfalso;have h1:¬zbT a b=true:=by rw[h];decide
  have h2:¬zbT b a=true:=by rw[h'];decide
  rw[zfY] at h1 h2;exact hne (Rw.ext' (by omega) (by omega) (by omega) (by omega))
 .rfl
theorem eq4_t{a b:Rw}(h:a=b):eq4 a.kind a.idx a.lo a.hi b.kind b.idx b.lo b.hi=true:=by subst h;simp[eq4]
theorem eq4_f{a b:Rw}(h:a≠b):eq4 a.kind a.idx a.lo a.hi b.kind b.idx b.lo b.hi=false:=by
 cases h':eq4 a.kind a.idx a.lo a.hi b.kind b.idx b.lo b.hi
 .rfl
 .exfalso;simp[eq4] at h';exact h (Rw.ext' h'.1 h'.2.1 h'.2.2.1 h'.2.2.2)
def zez:List Mu->Rw->Rat->List Mu
 |[],r,c=>[⟨r,qOf c⟩]
 |m::l,r,c=>if zbT m.r r=true then m::zez l r c else if m.r=r then⟨r,qOf (m.c.q+c)⟩::l else⟨r,qOf c⟩::m::l
def zbM(l:List Mu)(r:Rw)(c:Rat):List Mu:=if c=0 then l else zez l r c
def zaO(a b:List Mu)(c:Rat):List Mu:=b.foldl (fun a m=>zbM a m.r (m.c.q*c)) a
theorem zhx:∀{l:List Mu} {r:Rw} {c:Rat} {k:Nat},(∀(i:Nat) (m:Mu),i<k->l[i]?=some m->zbT m.r r=true)->k<=l.length->zez l r c=l.take k++zez (l.drop k) r c
 |l,r,c,0,_,_=>by simp
 |[],r,c,k+1,_,h=>by simp at h
 |m::l,r,c,k+1,h,hk=>by
  have h0:=h 0 m (by omega) rfl;have ih:=zhx (l:=l) (r:=r) (c:=c) (k:=k) (fun i m' hi hm=>h (i+1) m' (by omega) (by simpa using hm)) (by simpa using hk);show(if zbT m.r r=true then m::zez l r c else _)=_;rw[if_pos h0,ih];rfl
theorem zpy{l:List Mu}{r:Rw}{c:Rat}(h:∀(i:Nat) (m:Mu),i<l.length->l[i]?=some m->zbT m.r r=true):zez l r c=l++[⟨r,qOf c⟩]:=by
 rw[zhx h (zxe _),zxx,List.drop_length];rfl
theorem ziO{α:Type}{l:List α}{k:Nat}{x:α}(h:l[k]?=some x):l.drop k=x::l.drop (k+1):=zbs h
theorem zsz{l:List Mu}{r:Rw}{c:Rat}{k:Nat}{x:Mu}(h:∀(i:Nat) (m:Mu),i<k->l[i]?=some m->zbT m.r r=true)(hx:l[k]?=some x)(hr:x.r=r):zez l r c=l.take k++[⟨r,qOf (x.c.q+c)⟩]++l.drop (k+1):=by
 rw[zhx h (Nat.le_of_lt (zxc.1 hx).1),ziO hx];show _++(if zbT x.r r=true then _ else if x.r=r then _ else _)=_;rw[if_neg (by rw[hr,ziA];decide),if_pos hr,zxD];rfl
theorem zsy{l:List Mu}{r:Rw}{c:Rat}{k:Nat}{x:Mu}(h:∀(i:Nat) (m:Mu),i<k->l[i]?=some m->zbT m.r r=true)(hx:l[k]?=some x)(hl:zbT x.r r=false)(hr:x.r≠r):zez l r c=l.take k++[⟨r,qOf c⟩]++l.drop k:=by
 rw[zhx h (Nat.le_of_lt (zxc.1 hx).1),ziO hx];show _++(if zbT x.r r=true then _ else if x.r=r then _ else _)=_;rw[if_neg (by rw[hl];decide),if_neg hr,zxD];rfl
theorem zkI:∀(l:List Mu) (r:Rw) (c:Rat),(zez l r c).length<=l.length+1
 |[],_,_=>by simp[zez]
 |m::l,r,c=>by
  have:=zkI l r c;unfold zez;split
  .simp;omega
  .split <;> simp
theorem zne(l:List Mu)(r:Rw)(c:Rat):(zbM l r c).length<=l.length+1:=by
 unfold zbM;split
 .omega
 .exact zkI l r c
theorem zeR:∀(b a:List Mu) (c:Rat),(zaO a b c).length<=a.length+b.length
 |[],a,c=>by simp[zaO]
 |m::b,a,c=>by
  have h1:=zne a m.r (m.c.q*c);have h2:=zeR b (zbM a m.r (m.c.q*c)) c;have:zaO a (m::b) c=zaO (zbM a m.r (m.c.q*c)) b c:=rfl;rw[this];simp;omega
theorem zjA(a b:List Mu)(m:Mu)(c:Rat):zaO a (b++[m]) c=zbM (zaO a b c) m.r (m.c.q*c):=by unfold zaO;rw[zxC];rfl
theorem zjz{a b:List Mu}{i:Nat}{m:Mu}{c:Rat}(h:b[i]?=some m):zaO a (b.take (i+1)) c=zbM (zaO a (b.take i) c) m.r (m.c.q*c):=by rw[zbK h,zjA]
def MB(B:Nat)(l:List Mu):Prop:=∀m∈l,Fq m.c B
theorem MB.mono{B C:Nat}{l:List Mu}(h:MB B l)(hBC:B<=C):MB C l:=fun m hm=>(h m hm).mono hBC
theorem znC{B C:Nat}{r:Rw}{c:Rat}[hc:Br c C]:∀{l:List Mu},MB B l->MB (B+C+1) (zez l r c)
 |[],_=>fun m hm=>by
  simp[zez] at hm;subst hm;exact(Fq.of (r:=c)).mono (by omega)
 |x::l,h=>by
  have hx:=h x (by simp);intro m hm;unfold zez at hm;split at hm
  .rcases zxE.1 hm with rfl|hm
   .exact hx.mono (by omega)
   .exact znC (l:=l) (fun m hm=>h m (by simp[hm])) m hm
  .split at hm
   .rcases zxE.1 hm with rfl|hm
    .exact Fq.of (r:=x.c.q+c)
    .exact(h m (by simp[hm])).mono (by omega)
   .rcases zxE.1 hm with rfl|hm
    .exact(Fq.of (r:=c)).mono (by omega)
    .exact(h m hm).mono (by omega)
theorem zpn{B C:Nat}{l:List Mu}{r:Rw}{c:Rat}[hc:Br c C](h:MB B l):MB (B+C+1) (zbM l r c):=by
 unfold zbM;split
 .exact h.mono (by omega)
 .exact znC h
theorem ziy{B C D:Nat}{c:Rat}[hc:Br c D]:∀{b a:List Mu},MB B a->MB C b->MB (B+b.length*(C+D+2)) (zaO a b c)
 |[],a,h,_=>h.mono (by omega)
 |m::b,a,h,hb=>by
  haveI:=hb m (by simp);have h1:=zpn (r:=m.r) (c:=m.c.q*c) h;have h2:=ziy (b:=b) h1 (fun m hm=>hb m (by simp[hm])) (c:=c);have e:zaO a (m::b) c=zaO (zbM a m.r (m.c.q*c)) b c:=rfl;rw[e];refine h2.mono ?_;simp only[List.length_cons,Nat.add_mul];omega
def CanM:List Mu->Prop
 |[]=>True
 |m::l=>(m.c=qOf m.c.q/\0<m.c.q)/\(∀x∈l,zbT m.r x.r=true)/\CanM l
theorem zhw{r:Rw}{c:Rat}:∀{l:List Mu} {x:Mu},x∈zez l r c->x.r=r\/x∈l
 |[],x,h=>by simp[zez] at h;subst h;exact .inl rfl
 |m::l,x,h=>by
  unfold zez at h;split at h
  .rcases zxE.1 h with rfl|h
   .exact .inr (by simp)
   .rcases zhw h with h|h
    .exact .inl h
    .exact .inr (by simp[h])
  .split at h
   .rcases zxE.1 h with rfl|h
    .exact .inl rfl
    .exact .inr (by simp[h])
   .rcases zxE.1 h with rfl|h
    .exact .inl rfl
    .exact .inr h
theorem zkJ{r:Rw}{c:Rat}(hc:0<c):∀{l:List Mu},CanM l->CanM (zez l r c)
 |[],_=>⟨⟨by rw[zao],by rw[zao];exact hc⟩,fun x hx=>by simp at hx,trivial⟩
 |m::l,h=>by
  obtain⟨h1,h2,h3⟩:=h;unfold zez;split
  .rename_i hlt;refine⟨h1,fun x hx=>?_,zkJ hc h3⟩;rcases zhw hx with e|hx
   .rw[e];exact hlt
   .exact h2 x hx
  .rename_i hlt;split
   .rename_i he;refine⟨⟨by rw[zao],?_⟩,fun x hx=>?_,h3⟩
    .rw[zao];have:=h1.2;grind
    .rw[<-he];exact h2 x hx
   .rename_i hne;have hl:=zjD (by simpa using hlt) hne;refine⟨⟨by rw[zao],by rw[zao];exact hc⟩,fun x hx=>?_,h1,h2,h3⟩;rcases zxE.1 hx with rfl|hx
    .exact hl
    .exact zjC hl (h2 x hx)
theorem znf{r:Rw}{c:Rat}(hc:0<=c){l:List Mu}(h:CanM l):CanM (zbM l r c):=by
 unfold zbM;split
 .exact h
 .rename_i h0;exact zkJ (by grind) h
theorem CanM.pos:∀{l:List Mu},CanM l->∀m∈l,0<m.c.q/\m.c=qOf m.c.q
 |x::l,h,m,hm=>by
  rcases zxE.1 hm with rfl|hm
  .exact⟨h.1.2,h.1.1⟩
  .exact CanM.pos h.2.2 m hm
theorem CanM.lt{l:List Mu}(h:CanM l):∀{i j:Nat} {x y:Mu},i<j->l[i]?=some y->l[j]?=some x->zbT y.r x.r=true:=by
 induction l with
 |nil=>intro i j x y _ hy;simp at hy
 |cons m l ih=>
  intro i j x y hij hy hx;obtain⟨j,rfl⟩:∃j',j=j'+1:=⟨j-1,by omega⟩;rw[List.getElem?_cons_succ] at hx
  cases i with
  |zero=>simp at hy;subst hy;exact h.2.1 x (zxb hx)
  |succ i=>rw[List.getElem?_cons_succ] at hy;exact ih h.2.2 (by omega) hy hx
theorem CanM.prev{l:List Mu}{i:Nat}{x y:Mu}(h:CanM l)(hi:0<i)(hx:l[i]?=some x)(hy:l[i-1]?=some y):zbT y.r x.r=true:=h.lt (by omega) hy hx
theorem zgY{c:Rat}(hc:0<=c):∀{b a:List Mu},CanM a->(∀m∈b,0<m.c.q)->CanM (zaO a b c)
 |[],a,h,_=>h
 |m::b,a,h,hb=>zgY (b:=b) hc (znf (Rat.mul_nonneg (Rat.le_of_lt (hb m (by simp))) hc) h) (fun m hm=>hb m (by simp[hm]))
theorem zrY:rq false 1 1=1:=by decide +kernel
theorem zuu(a b:Bool)(m n d e:Nat)(hn:n≠0):rq (a != b) (m*dn e) (dn d*n)=rq a m d/rq b n e:=by
 have h1:=ze6 a b m (dn e) d n;have h2:=ze6 b b n (dn e) e n;rw[zch hn] at h1 h2;rw[h1];have h3:rq (b != b) (n*dn e) (dn e*n)=1:=by
  rw[<-zrY,zux,zch (Nat.mul_ne_zero (zc3 e) hn)];simp[sgn,dn,zxF]
 rw[h3] at h2;have h4:rq b n e≠0:=fun h=>by rw[h] at h2;grind
 rw[Rat.div_def];congr 1;have h5:rq b n e*(rq b n e)⁻¹=1:=Rat.mul_inv_cancel _ h4;generalize rq b n e=p at *;generalize rq b (dn e) n=q at *;generalize p⁻¹=w at *;grind
theorem zrQ{p:Rat}:sg p<=0↔p<=0:=by unfold sg;grind
theorem zrR{p:Rat}:0<=sg p↔0<=p:=by unfold sg;grind
theorem zo5{p:Rat}:0<sg p↔0<p:=by unfold sg;grind
def zbw(inp v:Nat):List Mu:=if v<inp then[⟨⟨1,(v:Int),0,0⟩,qOf ((1:Int):Rat)⟩] else[⟨⟨5,((v-inp:Nat):Int),0,0⟩,qOf ((1:Int):Rat)⟩]
def za4(inp:Nat)(l:List Lm)(v:Nat):Option (List Mu):=
 if v<inp then some [⟨⟨2,(v:Int),0,0⟩,qOf ((1:Int):Rat)⟩]
 else if (zaR l ((v-inp:Nat):Int)).1=0\/(zaR l ((v-inp:Nat):Int)).2=0 then none
 else if lv l (zaR l ((v-inp:Nat):Int)).2<=0 then some [⟨⟨10,((v-inp:Nat):Int),0,((zaR l ((v-inp:Nat):Int)).2:Int)⟩,qOf ((1:Int):Rat)⟩]
 else if 0<=lv l (zaR l ((v-inp:Nat):Int)).1 then some [⟨⟨8,((v-inp:Nat):Int),((zaR l ((v-inp:Nat):Int)).1:Int),0⟩,qOf ((1:Int):Rat)⟩,⟨⟨12,((v-inp:Nat):Int),0,((zaR l ((v-inp:Nat):Int)).2:Int)⟩,qOf ((1:Int):Rat)⟩]
 else some [⟨⟨12,((v-inp:Nat):Int),0,((zaR l ((v-inp:Nat):Int)).2:Int)⟩,qOf (((1:Int):Rat)/(lv l (zaR l ((v-inp:Nat):Int)).2-lv l (zaR l ((v-inp:Nat):Int)).1)*lv l (zaR l ((v-inp:Nat):Int)).2)⟩,
   ⟨⟨13,((v-inp:Nat):Int),((zaR l ((v-inp:Nat):Int)).1:Int),((zaR l ((v-inp:Nat):Int)).2:Int)⟩,qOf (((1:Int):Rat)/(lv l (zaR l ((v-inp:Nat):Int)).2-lv l (zaR l ((v-inp:Nat):Int)).1))⟩]
end Rc
namespace Go.Proofs.YticnclbnchgigaaGreatDoor
open Go Go.RowKit Rc
theorem zqR:Ints4 Tryz.prog 175 3:=⟨by kernel_rfl,by kernel_rfl,ty3,by kernel_rfl,by kernel_rfl⟩
theorem zrl(s:Sc){B:Nat}(hB:∀m∈s.lems,Fq m.v B)(hB2:B<=100000000000)(hl:s.lems.length<=1000000)(u:Int):Ctr Tryz.prog 18 [scV s,V.one (Leaf.val (.int .i64 (u)))] (R.tup [V.one (Leaf.val (.int .i64 (((zaR s.lems u).1:Nat):Int))),V.one (Leaf.val (.int .i64 (((zaR s.lems u).2:Nat):Int)))]):=by
 refine bd_ Tryz.func18 Tryz.ntmps18 rfl (fun w0 A0=>?_);refine zc 18 rfl (tq_ rfl (jln rfl) (zl 4 rfl ?_));refine zbO (fun m Γ H=>∃(i:Nat) (lo hi:Nat),s.lems.length-i=m/\Γ=[(1,some (D.val (.int .i64 u))),(2,some (D.ptr 0 0)),(6,some (D.val (.int .i64 (lo:Int)))),(7,some (D.val (.int .i64 (hi:Int)))),(11,some (D.v (V.one (El.row lmE s.lems)))),(12,some (D.val (.int .i64 ((s.lems.length:Nat):Int)))),(13,some (D.val (.int .i64 (i:Int))))]/\H=[hb_ 43 (scL s)]/\i<=s.lems.length/\(lo,hi)=zbr s.lems u i) ⟨0,0,0,rfl,rfl,rfl,zxg _,rfl⟩ rfl ?_;rintro m Γ H ⟨i,lo,hi,rfl,rfl,rfl,hi0,hs⟩;refine zc 2 rfl ?_;by_cases hi_:i<s.lems.length
 .refine tq_ rfl (ltT rfl) (zl 9 rfl ?_);obtain⟨x,hx⟩:∃x,s.lems[i]?=some x:=⟨_,zxa (by omega)⟩;haveI hxb:=hB x (zxb hx);have hbn:=zcM s.lems u i;rw[<-hs] at hbn;obtain⟨hlo,hhi,_,_⟩:=hbn;refine zc 2 rfl (tq_ rfl (jix i hx rfl) (tq_ rfl (jlr rfl) (zl 11 rfl ?_)));by_cases hne:x.unit≠u
  .refine tq_ rfl (neT rfl) (zl 8 rfl (tq_ rfl (jad (i+1) rfl) (zl 2 rfl (zan 1 (zbq 1 rfl ?_)))));exact nx_ ⟨i+1,_,_,rfl,rfl,rfl,(by omega),by rw[zaD,<-hs];exact(zgj hx hne).symm⟩ rfl
  .refine tq_ rfl (neF rfl) (zl 6 rfl ?_);have hu:x.unit=u:=Classical.not_not.1 hne;refine zc 5 rfl ?_;refine zaz rfl (fun hup=>?_) (fun hup=>?_)
   .refine zc 1 rfl (dr_ 0 [] [] (dz 1 rfl ?_));by_cases hv:hi=0
    .refine kq_ rfl (eqT rfl) (dz 13 rfl (zad (za 4 rfl (tq_ rfl (jad (i+1) rfl) (zl 5 rfl (tq_ rfl (jad (i+1) rfl) (zl 2 rfl (zan 1 (zbq 1 rfl ?_)))))))));exact nx_ ⟨i+1,_,_,rfl,rfl,rfl,(by omega),by rw[zaD,<-hs];exact(zd7 (s:=(lo,hi)) hx hu hup (.inl hv)).symm⟩ rfl
    .refine kq_ rfl (eqF rfl) (dz 6 rfl ?_);obtain⟨y,hy⟩:∃y,s.lems[hi-1]?=some y:=⟨_,zxa (by omega)⟩;haveI hyb:=hB y (zxb hy);have hly:=zfW hy;refine kq_ rfl (jsb (hi-1) rfl) (kq_ rfl (jix (hi-1) hy rfl) (kq_ rfl (jft rfl) (kq_ rfl (jlr rfl) (kc_ zt1 rfl (ztS x.v (x.v.q) rfl (Fq.use (x:=x.v) (by omega)) y.v (y.v.q) rfl (Fq.use (x:=y.v) (by omega))) ?_))));by_cases hc:x.v.q<lv s.lems hi
     .refine kq_ rfl (ltT rfl (by rw[zhD,<-hly];exact hc)) (dz 1 rfl (zad (za 4 rfl (tq_ rfl (jad (i+1) rfl) (zl 5 rfl (tq_ rfl (jad (i+1) rfl) (zl 2 rfl (zan 1 (zbq 1 rfl ?_)))))))));exact nx_ ⟨i+1,_,_,rfl,rfl,rfl,(by omega),by rw[zaD,<-hs];exact(zd7 (s:=(lo,hi)) hx hu hup (.inr hc)).symm⟩ rfl
     .refine kq_ rfl (ltF rfl (by rw[zhD,<-hly];exact hc)) (dz 1 rfl (zad (za 6 rfl (tq_ rfl (jad (i+1) rfl) (zl 2 rfl (zan 1 (zbq 1 rfl ?_)))))));exact nx_ ⟨i+1,_,_,rfl,rfl,rfl,(by omega),by rw[zaD,<-hs];exact(zgi (s:=(lo,hi)) hx hu hup (fun h=>h.elim hv hc)).symm⟩ rfl
   .refine zc 1 rfl (dr_ 0 [] [] (dz 1 rfl ?_));by_cases hv:lo=0
    .refine kq_ rfl (eqT rfl) (dz 13 rfl (zad (za 4 rfl (tq_ rfl (jad (i+1) rfl) (zl 5 rfl (tq_ rfl (jad (i+1) rfl) (zl 2 rfl (zan 1 (zbq 1 rfl ?_)))))))));exact nx_ ⟨i+1,_,_,rfl,rfl,rfl,(by omega),by rw[zaD,<-hs];exact(zd8 (s:=(lo,hi)) hx hu hup (.inl hv)).symm⟩ rfl
    .refine kq_ rfl (eqF rfl) (dz 6 rfl ?_);obtain⟨y,hy⟩:∃y,s.lems[lo-1]?=some y:=⟨_,zxa (by omega)⟩;haveI hyb:=hB y (zxb hy);have hly:=zfW hy;refine kq_ rfl (jsb (lo-1) rfl) (kq_ rfl (jix (lo-1) hy rfl) (kq_ rfl (jft rfl) (kq_ rfl (jlr rfl) (kc_ zt1 rfl (ztS x.v (x.v.q) rfl (Fq.use (x:=x.v) (by omega)) y.v (y.v.q) rfl (Fq.use (x:=y.v) (by omega))) ?_))));by_cases hc:lv s.lems lo<x.v.q
     .refine kq_ rfl (gtT rfl (by rw[zhE,<-hly];exact hc)) (dz 1 rfl (zad (za 4 rfl (tq_ rfl (jad (i+1) rfl) (zl 5 rfl (tq_ rfl (jad (i+1) rfl) (zl 2 rfl (zan 1 (zbq 1 rfl ?_)))))))));exact nx_ ⟨i+1,_,_,rfl,rfl,rfl,(by omega),by rw[zaD,<-hs];exact(zd8 (s:=(lo,hi)) hx hu hup (.inr hc)).symm⟩ rfl
     .refine kq_ rfl (gtF rfl (by rw[zhE,<-hly];exact hc)) (dz 1 rfl (zad (za 6 rfl (tq_ rfl (jad (i+1) rfl) (zl 2 rfl (zan 1 (zbq 1 rfl ?_)))))));exact nx_ ⟨i+1,_,_,rfl,rfl,rfl,(by omega),by rw[zaD,<-hs];exact(zgk (s:=(lo,hi)) hx hu hup (fun h=>h.elim hv hc)).symm⟩ rfl
 .refine tq_ rfl (ltF rfl) (zl 10 rfl ?_);have hie:i=s.lems.length:=by omega
  rw[hie] at hs;refine zc 7 rfl ?_;exact r2_ hq_ rfl (by unfold zaR;rw[<-hs])
theorem zwn(s:Sc){B:Nat}(hB:∀m∈s.lems,Fq m.v B)(hB2:B<=100000000000)(hl:s.lems.length<=1000000)(u:Int):Ctr Tryz.prog 152 [scV s,V.one (Leaf.val (.int .i64 (u)))] (R.tup [V.one (Leaf.val (.int .i64 (((zaR s.lems u).1:Nat):Int))),V.one (Leaf.val (.int .i64 (((zaR s.lems u).2:Nat):Int)))]):=by
 refine bd_ Tryz.func152 Tryz.ntmps152 rfl (fun w0 A0=>?_);refine zc 20 rfl ?_;refine zbO (fun m Γ H=>∃(i:Nat) (lo hi:Nat),s.lems.length-i=m/\Γ=[(1,some (D.val (.int .i64 u))),(2,some (D.ptr 0 0)),(6,some (D.val (.int .i64 (lo:Int)))),(7,some (D.val (.int .i64 (hi:Int)))),(8,some (D.val (.int .i64 (((i+1):Nat):Int))))]/\H=[hb_ 43 (scL s)]/\i<=s.lems.length/\(lo,hi)=zbr s.lems u i) ⟨0,0,0,rfl,rfl,rfl,zxg _,rfl⟩ rfl ?_;rintro m Γ H ⟨i,lo,hi,rfl,rfl,rfl,hi0,hs⟩;refine zc 6 rfl (tq_ rfl (jln rfl) ?_);by_cases hi_:i<s.lems.length
 .refine tq_ rfl (leT rfl) (zl 8 rfl ?_);obtain⟨x,hx⟩:∃x,s.lems[i]?=some x:=⟨_,zxa (by omega)⟩;haveI hxb:=hB x (zxb hx);have hbn:=zcM s.lems u i;rw[<-hs] at hbn;obtain⟨hlo,hhi,_,_⟩:=hbn;refine zc 4 rfl (tq_ rfl (jsb i rfl) (tq_ rfl (jix i hx rfl) (tq_ rfl (jlr rfl) (zl 10 rfl ?_))));by_cases hne:x.unit≠u
  .refine tq_ rfl (neT rfl) (zl 9 rfl (tq_ rfl (jad ((i+1)+1) rfl) (zl 2 rfl (zan 1 (zbq 1 rfl ?_)))));exact nx_ ⟨i+1,_,_,rfl,rfl,rfl,(by omega),by rw[zaD,<-hs];exact(zgj hx hne).symm⟩ rfl
  .refine tq_ rfl (neF rfl) (zl 7 rfl ?_);have hu:x.unit=u:=Classical.not_not.1 hne;refine dr_ 0 [] [] (dz 3 rfl ?_);refine zkG rfl (fun hup=>?_) (fun hup=>?_)
   .refine dz 16 rfl (zad (za 5 rfl (dr_ 0 [] [] (dz 2 rfl (zgy false rfl (hup) (dz 3 rfl ?_))))));by_cases hv:lo=0
    .refine kq_ rfl (eqT rfl) (dz 14 rfl (zad (za 10 rfl (tq_ rfl (jad ((i+1)+1) rfl) (zl 2 rfl (zan 1 (zbq 1 rfl ?_)))))));exact nx_ ⟨i+1,_,_,rfl,rfl,rfl,(by omega),by rw[zaD,<-hs];exact(zd8 (s:=(lo,hi)) hx hu hup (.inl hv)).symm⟩ rfl
    .refine kq_ rfl (eqF rfl) (dz 6 rfl ?_);obtain⟨y,hy⟩:∃y,s.lems[lo-1]?=some y:=⟨_,zxa (by omega)⟩;haveI hyb:=hB y (zxb hy);have hly:=zfW hy;refine kq_ rfl (jsb (lo-1) rfl) (kq_ rfl (jix (lo-1) hy rfl) (kq_ rfl (jft rfl) (kq_ rfl (jlr rfl) (kc_ zw5 rfl (zpc x.v (x.v.q) rfl (Fq.use (x:=x.v) (by omega)) y.v (y.v.q) rfl (Fq.use (x:=y.v) (by omega))) ?_))));by_cases hc:lv s.lems lo<x.v.q
     .refine kq_ rfl (gtT rfl (by rw[zhE,<-hly];exact hc)) (dz 2 rfl (zad (za 10 rfl (tq_ rfl (jad ((i+1)+1) rfl) (zl 2 rfl (zan 1 (zbq 1 rfl ?_)))))));exact nx_ ⟨i+1,_,_,rfl,rfl,rfl,(by omega),by rw[zaD,<-hs];exact(zd8 (s:=(lo,hi)) hx hu hup (.inr hc)).symm⟩ rfl
     .refine kq_ rfl (gtF rfl (by rw[zhE,<-hly];exact hc)) (dz 2 rfl (zad (za 7 rfl (tq_ rfl (jad ((i+1)+1) rfl) (zl 2 rfl (zan 1 (zbq 1 rfl ?_)))))));exact nx_ ⟨i+1,_,_,rfl,rfl,rfl,(by omega),by rw[zaD,<-hs];exact(zgk (s:=(lo,hi)) hx hu hup (fun h=>h.elim hv hc)).symm⟩ rfl
   .refine dz 1 rfl ?_;by_cases hv:hi=0
    .refine kq_ rfl (eqT rfl) (dz 14 rfl (zad (za 8 rfl (dr_ 0 [] [] (dz 2 rfl (zgy true rfl (hup) (dz 18 rfl (zad (za 7 rfl ?_)))))))));refine tq_ rfl (jad ((i+1)+1) rfl) (zl 2 rfl (zan 1 (zbq 1 rfl ?_)));exact nx_ ⟨i+1,_,_,rfl,rfl,rfl,(by omega),by rw[zaD,<-hs];exact(zd7 (s:=(lo,hi)) hx hu hup (.inl hv)).symm⟩ rfl
    .refine kq_ rfl (eqF rfl) (dz 6 rfl ?_);obtain⟨y,hy⟩:∃y,s.lems[hi-1]?=some y:=⟨_,zxa (by omega)⟩;haveI hyb:=hB y (zxb hy);have hly:=zfW hy;refine kq_ rfl (jsb (hi-1) rfl) (kq_ rfl (jix (hi-1) hy rfl) (kq_ rfl (jft rfl) (kq_ rfl (jlr rfl) (kc_ zw5 rfl (zpc x.v (x.v.q) rfl (Fq.use (x:=x.v) (by omega)) y.v (y.v.q) rfl (Fq.use (x:=y.v) (by omega))) ?_))));by_cases hc:x.v.q<lv s.lems hi
     .refine kq_ rfl (ltT rfl (by rw[zhD,<-hly];exact hc)) (dz 2 rfl (zad (za 8 rfl (dr_ 0 [] [] (dz 2 rfl (zgy true rfl (hup) (dz 18 rfl (zad (za 7 rfl ?_)))))))));refine tq_ rfl (jad ((i+1)+1) rfl) (zl 2 rfl (zan 1 (zbq 1 rfl ?_)));exact nx_ ⟨i+1,_,_,rfl,rfl,rfl,(by omega),by rw[zaD,<-hs];exact(zd7 (s:=(lo,hi)) hx hu hup (.inr hc)).symm⟩ rfl
     .refine kq_ rfl (ltF rfl (by rw[zhD,<-hly];exact hc)) (dz 2 rfl (zad (za 5 rfl (dr_ 0 [] [] (dz 2 rfl (zgy true rfl (hup) (dz 18 rfl (zad (za 7 rfl ?_)))))))));refine tq_ rfl (jad ((i+1)+1) rfl) (zl 2 rfl (zan 1 (zbq 1 rfl ?_)));exact nx_ ⟨i+1,_,_,rfl,rfl,rfl,(by omega),by rw[zaD,<-hs];exact(zgi (s:=(lo,hi)) hx hu hup (fun h=>h.elim hv hc)).symm⟩ rfl
 .refine tq_ rfl (leF rfl) (zl 9 rfl ?_);have hie:i=s.lems.length:=by omega
  rw[hie] at hs;refine zc 7 rfl ?_;exact r2_ hq_ rfl (by unfold zaR;rw[<-hs])
theorem zq7(a b:Rw):Ctr Tryz.prog 157 [rwV a,rwV b] (R.one (V.one (Leaf.val (.bool (zbT a b))))):=by
 refine bd_ Tryz.func157 Tryz.ntmps157 rfl (fun w0 A0=>?_);refine zc 15 rfl ?_;by_cases h1:a.kind≠b.kind
 .refine tq_ rfl (neT rfl) (zl 14 rfl ?_);exact r1_ hq_ rfl (by unfold zbT;rw[if_pos h1])
 .refine tq_ rfl (neF rfl) (zl 10 rfl ?_);by_cases h2:a.idx≠b.idx
  .refine tq_ rfl (neT rfl) (zl 14 rfl ?_);exact r1_ hq_ rfl (by unfold zbT;rw[if_neg h1,if_pos h2])
  .refine tq_ rfl (neF rfl) (zl 10 rfl ?_);by_cases h3:a.lo≠b.lo
   .refine tq_ rfl (neT rfl) (zl 14 rfl ?_);exact r1_ hq_ rfl (by unfold zbT;rw[if_neg h1,if_neg h2,if_pos h3])
   .refine tq_ rfl (neF rfl) (zl 17 rfl ?_);exact r1_ hq_ rfl (by unfold zbT;rw[if_neg h1,if_neg h2,if_neg h3])
theorem zuC(l:List Mu)(r:Rw)(c:Rat){B C:Nat}(hB:MB B l)[Br c C](hBC:B+C<=300000000000)(hl:l.length<=100000):Ctr Tryz.prog 154 [V.one (El.row muE l),rwV r,V.agg (qL (c))] (R.one (V.one (El.row muE (zbM l r c)))):=by
 refine bd_ Tryz.func154 Tryz.ntmps154 rfl (fun w0 A0=>?_);refine zc 11 rfl (tc_ zhU rfl (zb2 (qOf (c)) (c) (zao _) (Br.use (by omega))) ?_);by_cases hc0:c=0
 .refine tq_ rfl (eqT rfl (by rw[hc0];rfl)) (zl 9 rfl ?_);exact r1_ hq_ rfl (by unfold zbM;rw[if_pos hc0])
 .refine tq_ rfl (eqF rfl (zfi hc0)) (zl 12 rfl ?_);refine zbO (fun m Γ H=>∃(k:Nat),l.length-k=m/\Γ=[(0,some (D.v (V.one (El.row muE l)))),(4,some (D.ptr 0 0)),(5,some (D.ptr 1 0)),(7,some (D.val (.int .i64 (k:Int))))]/\H=[hb_ 175 [Leaf.val (.int .i64 r.kind),Leaf.val (.int .i64 r.idx),Leaf.val (.int .i64 r.lo),Leaf.val (.int .i64 r.hi)],hb_ 33 (qL c)]/\k<=l.length/\∀(i:Nat) (m:Mu),i<k->l[i]?=some m->zbT m.r r=true) ⟨0,rfl,rfl,rfl,zxg _,fun i m hi=>by omega⟩ rfl ?_;rintro m Γ H ⟨k,rfl,rfl,rfl,hk0,hlt⟩;refine zc 2 rfl (dr_ 0 [] [] (dz 2 rfl (kq_ rfl (jln rfl) ?_)));by_cases hk:k<l.length
  .refine kq_ rfl (ltT rfl) (dz 1 rfl ?_);obtain⟨x,hx⟩:∃x,l[k]?=some x:=⟨_,zxa hk⟩;haveI hxb:=hB x (zxb hx);refine dz 2 rfl (kq_ rfl (jix k hx rfl) (kq_ rfl (jft rfl) (kq_ rfl (jlr rfl) (dz 1 rfl (kc_ zv5 rfl (zq7 x.r r) (dz 1 rfl (zad (za 1 rfl ?_))))))));refine zaz rfl (fun hls=>?_) (fun hls=>?_)
   .refine zc 5 rfl (tq_ rfl (jad (k+1) rfl) (zl 3 rfl ?_));exact nx_ ⟨k+1,rfl,rfl,rfl,hk,fun i m hi hm=>if e:i=k then(by subst e;rw[hx] at hm;cases hm;exact hls) else hlt i m (by omega) hm⟩ rfl
   .refine zc 7 rfl (zbY rfl rfl rfl rfl zh0 zdr rfl (zjT 28 2 rfl rfl (zl 2 rfl (tq_ rfl (zfg muE l (k) rfl rfl rfl zh0 zdr rfl (by omega)) (te_ rfl (jal (e:=muE) (l:=[]) rfl rfl) (zl 5 rfl (dr_ 0 [] [] (dz 2 rfl (kq_ rfl (jln rfl) ?_)))))))));refine kq_ rfl (ltT rfl) (dz 3 rfl (kq_ rfl (jix k hx rfl) (kq_ rfl (jft rfl) (kq_ rfl (jlr rfl) (dz 1 rfl ?_)))));by_cases heq:x.r=r
    .refine kq_ rfl (zoE rfl rfl rfl zqR (d:=true) (eq4_t heq)) (dz 1 rfl (zad (za 3 rfl (dr_ 0 [(11,2)] [2] (dz 4 rfl (kq_ rfl (jix k hx rfl) (kq_ rfl (jfr rfl) (kq_ rfl (jlr rfl) (dz 1 rfl ?_)))))))));refine kc_ zv1 rfl (zmS x.c (x.c.q) rfl (Fq.use (x:=x.c) (by omega)) (qOf (c)) (c) (zao _) (Br.use (by omega))) (dz 1 rfl (ke_ rfl (fun _=>zag rfl zh0 zdr zgA rfl (by decide) (by decide) rfl (by decide) rfl) (ki_ 2 rfl (dap (e:=muE) (⟨⟨r.kind,r.idx,r.lo,r.hi⟩,(qOf ((x.c.q)+(c)))⟩) rfl rfl) (dz 1 rfl (zad (za 3 rfl (tq_ rfl (jad (k+1) rfl) ?_)))))));refine zl 8 rfl (tq_ rfl (zbc muE l (k+1) rfl rfl rfl zh0 zdr rfl (by omega)) (te_ rfl (jal rfl rfl) (zl 3 rfl ?_)));refine zhM 6 (x':=V.one (El.row muE ([]++(l.take (k))++[⟨⟨r.kind,r.idx,r.lo,r.hi⟩,(qOf ((x.c.q)+(c)))⟩]++(l.drop (k+1))))) rfl (RowAt.ofE muE ([]++(l.take (k))++[⟨⟨r.kind,r.idx,r.lo,r.hi⟩,(qOf ((x.c.q)+(c)))⟩]++(l.drop (k+1))) rfl (by decide)) (.inr ⟨rfl,rfl⟩) ?_;exact r1_ hq_ rfl (by unfold zbM;rw[if_neg hc0,zsz hlt hx heq] <;> rfl)
    .refine kq_ rfl (zoE rfl rfl rfl zqR (d:=false) (eq4_f heq)) (dz 1 rfl (zad (za 2 rfl (dr_ 0 [(6,2)] [2] (dz 3 rfl (kc_ zsU rfl (zdZ (qOf (c)) (c) (zao _) (Br.use (by omega))) (dz 1 rfl (ke_ rfl (fun _=>zag rfl zh0 zdr zgA rfl (by decide) (by decide) rfl (by decide) rfl) ?_))))))));refine ki_ 2 rfl (dap (e:=muE) (⟨⟨r.kind,r.idx,r.lo,r.hi⟩,(qOf (c))⟩) rfl rfl) (dz 1 rfl (zad (za 6 rfl (tq_ rfl (zbc muE l (k) rfl rfl rfl zh0 zdr rfl (by omega)) (te_ rfl (jal rfl rfl) (zl 3 rfl ?_))))));refine zhM 6 (x':=V.one (El.row muE ([]++(l.take (k))++[⟨⟨r.kind,r.idx,r.lo,r.hi⟩,(qOf (c))⟩]++(l.drop (k))))) rfl (RowAt.ofE muE ([]++(l.take (k))++[⟨⟨r.kind,r.idx,r.lo,r.hi⟩,(qOf (c))⟩]++(l.drop (k))) rfl (by decide)) (.inr ⟨rfl,rfl⟩) ?_;exact r1_ hq_ rfl (by unfold zbM;rw[if_neg hc0,zsy hlt hx hls heq] <;> rfl)
  .refine kq_ rfl (ltF rfl) (dz 9 rfl (zad (za 8 rfl ?_)));have hke:k=l.length:=by omega
   refine zc 1 rfl (zbY rfl rfl rfl rfl zh0 zdr rfl (zjT 28 2 rfl rfl (zl 2 rfl (tq_ rfl (zfg muE l (k) rfl rfl rfl zh0 zdr rfl (by omega)) (te_ rfl (jal (e:=muE) (l:=[]) rfl rfl) (zl 5 rfl (dr_ 0 [] [] (dz 2 rfl (kq_ rfl (jln rfl) ?_)))))))));refine kq_ rfl (ltF rfl) (dz 9 rfl (zad (za 2 rfl (dr_ 0 [(6,2)] [2] (dz 3 rfl (kc_ zsU rfl (zdZ (qOf (c)) (c) (zao _) (Br.use (by omega))) (dz 1 rfl (ke_ rfl (fun _=>zag rfl zh0 zdr zgA rfl (by decide) (by decide) rfl (by decide) rfl) (ki_ 2 rfl (dap (e:=muE) (⟨⟨r.kind,r.idx,r.lo,r.hi⟩,(qOf (c))⟩) rfl rfl) ?_)))))))));refine dz 1 rfl (zad (za 6 rfl (tq_ rfl (zbc muE l (k) rfl rfl rfl zh0 zdr rfl (by omega)) (te_ rfl (jal rfl rfl) (zl 3 rfl ?_)))));refine zhM 6 (x':=V.one (El.row muE ([]++(l.take (k))++[⟨⟨r.kind,r.idx,r.lo,r.hi⟩,(qOf (c))⟩]++(l.drop (k))))) rfl (RowAt.ofE muE ([]++(l.take (k))++[⟨⟨r.kind,r.idx,r.lo,r.hi⟩,(qOf (c))⟩]++(l.drop (k))) rfl (by decide)) (.inr ⟨rfl,rfl⟩) ?_;exact r1_ hq_ rfl (by unfold zbM;rw[if_neg hc0,zpy (fun i m hi=>hlt i m (by omega)),hke,zxx,List.drop_length,zxy] <;> rfl)
end Go.Proofs.YticnclbnchgigaaGreatDoor
