/- Parts of the proof, 13: the texts WlK2, WlL2, SymD, Both, SymE, SymX, WlM2, WlN2, WlS, SymF, BoxI, SymG, FwZ, FwX, Fw3, Raw, SymY, WlO2, Awk, Awb, as far as they are used. -/
import Derived.Test.YtjeiacoegppoiaaGreatDoorSb12
import Derived.WalkKit
import Derived.ProofKit
import Derived.OpenShut
import Derived.ShutString
import Derived.ChangeOld
import Derived.Below
set_option linter.unusedSimpArgs false
set_option linter.unusedVariables false
set_option maxRecDepth 10000
namespace Go.Proofs.YtjeiacoegppoiaaGreatDoor
open Go Go.RowKit Rc
theorem add_p(f g:Af){B C n:Nat}(hf:FL B n f)(hg:FL C n g)(h1:B<=10000000000)(h2:C<=10000000000)(hn:n<=400):Ctr Tryz.prog 112 [afV f,afV g] (R.one (afV (zf0 f g))):=by
 refine bd_ Tryz.func112 Tryz.ntmps112 rfl (fun w0 A0=>?_);haveI:Br ((1:Int):Rat) 2:=Br.int2 (by decide) (by decide);refine zc 8 rfl (dr_ 0 [(4,2)] [2] (dz 2 rfl (kc_ zDy rfl (zgj 1 (by decide) (by decide)) (kc_ zAf rfl (znn f g ((1:Int):Rat) hf hg (by omega) (by omega) (by omega) (by omega)) (dz 1 rfl (zae (za 1 rfl ?_)))))));exact r1_ hq_ rfl (by show R.one (afV ⟨mrg _ f.ts g.ts,f.c+g.c*1⟩)=R.one (afV ⟨zgQ f.ts g.ts,f.c+g.c⟩);rw[Rat.mul_one,zsm hf.can hg.can,zBK hg.can])
theorem zym(f g:Af){B C n:Nat}(hf:FL B n f)(hg:FL C n g)(h1:B<=10000000000)(h2:C<=10000000000)(hn:n<=400)(v:Nat)(hv:v<=1000000):Ctr Tryz.prog 54 [afV f,V.one (Leaf.val (.int .i64 ((v:Int)))),afV g] (R.one (afV (zoo f v g))):=by
 refine bd_ Tryz.func54 Tryz.ntmps54 rfl (fun w0 A0=>?_);haveI:=hf.fm (by omega);haveI:=hf.cb;haveI:=hg.fm (by omega);haveI:=hg.cb;have hfl:=(hf.fm (by omega)).len;haveI hcb:Br (co f.ts v) B:=zqw hf.bd v;have hr:=zw0 (v:=v) hf;have hsg:=FL.sc (c:=co f.ts v) hg;haveI:=hsg.fm (by omega);haveI:=hsg.cb;refine zc 11 rfl (tq_ rfl (zeG rfl zBh rfl zFc rfl) (te_ rfl (zdZ (n:=3) rfl zBh rfl) (zl 4 rfl (zcW 3 103 4 (ls':=[Leaf.own 4 0,Leaf.val (.bool (zaP f.c)),zaf (zaa (zav f.c)),zaf (zaa (zaz f.c))]) rfl rfl rfl ⟨.inr ⟨rfl,rfl⟩,.inl rfl,.inl rfl,.inl rfl,trivial⟩ (zc 2 rfl (eq_ (D.agg (qL 0)) rfl (zB2) (zl 9 rfl (tq_ rfl (jln rfl) (zl 4 rfl ?_)))))))));refine fr_ [0] rfl ?_;refine zbo (fun m Γ H=>∃(i:Nat) (n_:Nat) (out:List Tm),f.ts.length-i=m/\Γ=[(1,some (D.val (.int .i64 (v:Int)))),(5,some (D.ptr 1 0)),(6,some (D.ptr 2 0)),(7,some (D.ptr 3 0)),(8,some (D.ptr 5 0)),(16,some (D.v (V.one (El.row tmE f.ts)))),(17,some (D.val (.int .i64 ((f.ts.length:Nat):Int)))),(18,some (D.val (.int .i64 (i:Int))))]/\H=[none,hb_ 38 (afL g),hb_ 38 [El.row tmE ([]),Leaf.val (.bool false),zaf ([]),zaf ([])],hb_ 38 [Leaf.own 4 n_,Leaf.val (.bool (zaP f.c)),zaf (zaa (zav f.c)),zaf (zaa (zaz f.c))],hgr 103 4 tmE out n_,hb_ 36 (qL (co (f.ts.take i) v))]/\i<=f.ts.length/\out=ziu (f.ts.take i) v) ⟨0,0,[],rfl,rfl,rfl,zFn _,rfl⟩ rfl ?_;rintro m Γ H ⟨i,n_,out,rfl,rfl,rfl,hi0,hout⟩;refine zc 2 rfl ?_;by_cases hi:i<f.ts.length
 .refine tq_ rfl (ltT rfl) (zl 9 rfl ?_);obtain⟨x,hx⟩:∃x,f.ts[i]?=some x:=⟨_,zFh hi⟩;haveI hxb:=hf.bd x (zFi hx);have hol:out.length<=400:=by rw[hout];refine zFr (zyy _ _) ?_;rw[zFy];omega
  refine zc 1 rfl (tq_ rfl (jix i hx rfl) (tq_ rfl (jlr rfl) (zl 9 rfl ?_)));by_cases hv_:x.1=v
  .refine tq_ rfl (eqT rfl) (zl 11 rfl (tq_ rfl (jad (i+1) rfl) (zl 2 rfl (zal 6 (zaJ 6 rfl ?_)))));exact nx_ ⟨i+1,n_,out,rfl,rfl,(by rw[zvW hf.can hx hv_];rfl),hi,(by rw[hout,zrG hx hv_])⟩ rfl
  .refine tq_ rfl (eqF rfl) (zl 7 rfl (te_ rfl (zad rfl zlB zfL zlE rfl (by decide) (by decide) rfl (by decide) rfl) (te_ rfl (jap x rfl rfl) (zl 6 rfl (tq_ rfl (jad (i+1) rfl) (zl 2 rfl (zal 6 (zaJ 6 rfl ?_))))))));exact nx_ ⟨i+1,(n_+1),(out++[x]),rfl,rfl,(by rw[zvV hx hv_];rfl),hi,(by rw[hout,zrF hx hv_])⟩ rfl
 .refine tq_ rfl (ltF rfl) (zl 10 rfl ?_);have hie:i=f.ts.length:=by omega
  rw[hie,zFE] at hout;subst hout;rw[hie,zFE];refine zc 1 rfl (tq_ rfl (jvl 0 rfl rfl) (zl 2 rfl (tc_ zAf rfl (znn ⟨ziu f.ts v,f.c⟩ g (co f.ts v) hr hg (by omega) (by omega) (by omega) (by omega)) (zl 3 rfl ?_))));exact r1_ hq_ rfl (by show R.one (afV ⟨mrg _ (ziu f.ts v) g.ts,_⟩)=R.one (afV ⟨zgQ (ziu f.ts v) (scT g.ts (co f.ts v)),f.c+g.c*co f.ts v⟩);rw[zsm hr.can hg.can])
theorem zeu(f g:Af){B C n:Nat}(hf:FL B n f)(hg:FL C n g)(h1:B<=10000000000)(h2:C<=10000000000)(hn:n<=400)(v:Nat)(hv:v<=1000000):Ctr Tryz.prog 130 [afV f,V.one (Leaf.val (.int .i64 ((v:Int)))),afV g] (R.one (afV (zoo f v g))):=by
 refine bd_ Tryz.func130 Tryz.ntmps130 rfl (fun w0 A0=>?_);haveI:=hf.fm (by omega);haveI:=hf.cb;haveI:=hg.fm (by omega);haveI:=hg.cb;have hfl:=(hf.fm (by omega)).len;haveI hcb:Br (co f.ts v) B:=zqw hf.bd v;have hr:=zw0 (v:=v) hf;have hsg:=FL.sc (c:=co f.ts v) hg;haveI:=hsg.fm (by omega);haveI:=hsg.cb;haveI:Fm (ziu f.ts v) B n:=hr.fm (by omega);haveI:Br (-(co f.ts v)) B:=hcb.neg;refine zc 11 rfl (tc_ zD6 rfl (zxL f hf (by omega) (by omega) v (by omega)) (zl 5 rfl (dr_ 0 [(9,2)] [2] (dz 3 rfl (kc_ zBp rfl (zpV (qOf ((co f.ts v))) ((co f.ts v)) (zah _) (Br.use (by omega))) (kc_ zD1 rfl (zBU f v (-(co f.ts v)) (B:=B) (C:=B) hf.can hf.bd (by omega) (by omega) (by omega)) (zjC (D.agg (afL ⟨ziu f.ts v,f.c⟩)) rfl (by rw[<-zAN hf.can]) ?_)))))));refine dz 2 rfl (kc_ zqQ rfl (zci g (co f.ts v) (by omega) (by omega)) (kc_ zDz rfl (ziE ⟨(ziu f.ts v),f.c⟩ (fSc g (co f.ts v)) (by omega) (by omega) (by omega)) (dz 1 rfl (zae (za 1 rfl ?_)))));exact r1_ hq_ rfl rfl
theorem zwY(s:Sc)(hs:SB 135001 s)(k:Nat)(j:Int):Ctr Tryz.prog 108 [scV s,V.one (Leaf.val (.int .i64 ((k:Int)))),V.one (Leaf.val (.int .i64 (j)))] (R.one (V.one (Leaf.val (.bool (zet s.path k j))))):=by
 refine bd_ Tryz.func108 Tryz.ntmps108 rfl (fun w0 A0=>?_);have hB:=hs.B;have hq:=hs.q;have hd:=hs.d;have hpl:=hs.pl;have hl:=hs.ll;have hg:=hq.g;have hr:=hq.r;have hlo:=hr.lo;have hhi:=hr.hi;have h1:=hg.i1;have h2:=hg.i3;have h3:=hg.u4;have h4:=hg.o1;have h5:=hg.o3;refine zc 11 rfl (tq_ rfl (jln rfl) (zl 4 rfl ?_));refine zbo (fun m Γ H=>∃(i:Nat),s.path.length-i=m/\Γ=[(1,some (D.val (.int .i64 (k:Int)))),(2,some (D.val (.int .i64 j))),(3,some (D.ptr 0 0)),(10,some (D.v (V.one (El.row dcE s.path)))),(11,some (D.val (.int .i64 ((s.path.length:Nat):Int)))),(12,some (D.val (.int .i64 (i:Int))))]/\H=[hb_ 43 (scL s)]/\i<=s.path.length/\zvR s.path k j i=false) ⟨0,rfl,rfl,rfl,zFn _,rfl⟩ rfl ?_;rintro m Γ H ⟨i,rfl,rfl,rfl,hi0,hno⟩;refine zc 2 rfl ?_;by_cases hi:i<s.path.length
 .refine tq_ rfl (ltT rfl) (zl 9 rfl ?_);obtain⟨x,hx⟩:∃x,s.path[i]?=some x:=⟨_,zFh hi⟩;have hxd:=hd x (zFi hx);refine zc 1 rfl (tq_ rfl (jix i hx rfl) (tq_ rfl (jlr rfl) (zl 11 rfl ?_)));refine zdH rfl (fun hk1=>?_) (fun hk1=>?_)
  .refine zl 18 rfl (tq_ rfl (jad (i+1) rfl) (zl 2 rfl (zal 1 (zaJ 1 rfl ?_))));exact nx_ ⟨i+1,rfl,rfl,rfl,hi,by rw[zc3 hx,hno,hk1];rfl⟩ rfl
  .refine zl 6 rfl ?_;refine zdH rfl (fun hk2=>?_) (fun hk2=>?_)
   .refine zl 12 rfl (tq_ rfl (jad (i+1) rfl) (zl 2 rfl (zal 1 (zaJ 1 rfl ?_))));exact nx_ ⟨i+1,rfl,rfl,rfl,hi,by rw[zc3 hx,hno,hk1,hk2];rfl⟩ rfl
   .refine zl 3 rfl (tc_ zDT rfl (zxr s.q hq x hxd (by omega)) (zl 9 rfl ?_));exact r1_ hq_ rfl (by rw[zpg hx hk1 hk2])
 .refine tq_ rfl (ltF rfl) (zl 14 rfl ?_);exact r1_ hq_ rfl (by rw[<-zh6,<-show i=s.path.length by omega,hno])
set_option maxHeartbeats 2000000 in
theorem rpl_p(s:Sc)(hs:SB 135001 s)(j:Nat)(p:Af)(hp:s.q.g.us[j]?=some p)(c:Rat){C:Nat}[Br c C](hC:C<=1000000000):Ctr Tryz.prog 53 [scV s,V.one (Leaf.val (.int .i64 ((j:Int)))),V.agg (qL (c))] (R.tup [V.agg (rpL (zgf s j p c).1),V.one (Leaf.val (.bool (zgf s j p c).2))]):=by
 refine bd_ Tryz.func53 Tryz.ntmps53 rfl (fun w0 A0=>?_);have hB:=hs.B;have hq:=hs.q;have hd:=hs.d;have hpl:=hs.pl;have hl:=hs.ll;have hg:=hq.g;have hr:=hq.r;have hlo:=hr.lo;have hhi:=hr.hi;have h1:=hg.i1;have h2:=hg.i3;have h3:=hg.u4;have h4:=hg.o1;have h5:=hg.o3;have hj:=(zFj.1 hp).1;have hpf:FL 4 (s.q.g.inp+s.q.g.us.length) p:=((hq.g.us j p hp).fl).mono (by omega) (by omega);haveI:=hpf.fm (by omega);haveI:=hpf.cb;haveI:=zxf hB (bLo s j);haveI:=zxf hB (bHi s j);refine zc 15 rfl (tq_ rfl (jix j hp rfl) (tq_ rfl (jlr rfl) (zl 5 rfl ?_)));refine nz_ [so 1 (D.val (.int .i64 (j:Int))),so 3 (D.ptr 0 0),so 5 (D.ptr 1 0),so 6 (D.ptr 2 0),so 8 (D.ptr 3 0)] [hb_ 43 (scL s),hb_ 36 (qL c),hb_ 118 [El.row tmE ([]),Leaf.val (.bool false),zaf ([]),zaf ([]),Leaf.val (.int .i64 0),Leaf.val (.int .i64 0),Leaf.val (.int .i64 0),Leaf.val (.int .i64 0),Leaf.val (.bool false),zaf ([]),zaf ([])],hb_ 38 (afL p)] rfl rfl ?_;refine zc 3 rfl (tc_ zDx rfl (zmI s (by assumption) (by omega) (by omega) (j:Int)) (zl 8 rfl (nz_ [so 1 _,so 3 _,so 5 _,so 6 _,so 8 _,so 9 (D.val (.int .i64 (((zam s.lems (j:Int)).1:Nat):Int))),so 10 (D.val (.int .i64 (((zam s.lems (j:Int)).2:Nat):Int)))] [_,_,_,_] rfl rfl (zc 5 rfl ?_))));refine mt_ [so 1 (D.val (.int .i64 (j:Int))),so 3 (D.ptr 0 0),so 5 (D.ptr 1 0),so 6 (D.ptr 2 0),so 8 (D.ptr 3 0),so 9 (D.val (.int .i64 (((zam s.lems (j:Int)).1:Nat):Int))),so 10 (D.val (.int .i64 (((zam s.lems (j:Int)).2:Nat):Int))),so 11 (D.ptr 4 0),so 12 (D.ptr 5 0)] [hb_ 43 (scL s),hb_ 36 (qL c),hb_ 118 [El.row tmE ([]),Leaf.val (.bool false),zaf ([]),zaf ([]),Leaf.val (.int .i64 0),Leaf.val (.int .i64 0),Leaf.val (.int .i64 0),Leaf.val (.int .i64 0),Leaf.val (.bool false),zaf ([]),zaf ([])],hb_ 38 (afL p),hb_ 36 [Leaf.val (.bool (lvz s.lems (zam s.lems (j:Int)).1).neg),zaf (lvz s.lems (zam s.lems (j:Int)).1).n,zaf (lvz s.lems (zam s.lems (j:Int)).1).d],hb_ 36 [Leaf.val (.bool false),zaf ([]),zaf ([])]] ?_ ?_
 .refine zc 3 rfl ?_;by_cases h1:(zam s.lems (j:Int)).1≠0
  .refine tq_ rfl (gtT rfl) (zl 3 rfl ?_);obtain⟨y,hy,_,_,hly,hy0,hyl⟩:=zbe h1;haveI:=hB y (zFi hy);refine zc 4 rfl (tq_ rfl (jsb (((zam s.lems (j:Int)).1)-1) rfl) (tq_ rfl (jix ((zam s.lems (j:Int)).1-1) hy rfl) (tq_ rfl (jft rfl) (tq_ rfl (jlr rfl) ?_))));refine eq_ (D.agg [Leaf.val (.bool (lvz s.lems (zam s.lems (j:Int)).1).neg),zaf (lvz s.lems (zam s.lems (j:Int)).1).n,zaf (lvz s.lems (zam s.lems (j:Int)).1).d]) rfl (by rw[zst h1 hy];rfl) (zl 2 rfl ?_);exact mx_ rfl
  .refine tq_ rfl (gtF rfl) (zl 4 rfl ?_);exact At_heq (by rw[zCz (by omega)];first|done|rfl) (zde ⟨rfl,rfl,rfl,rfl,rfl,rfl,rfl,rfl,rfl,trivial⟩)
 .refine mt_ [so 1 (D.val (.int .i64 (j:Int))),so 3 (D.ptr 0 0),so 5 (D.ptr 1 0),so 6 (D.ptr 2 0),so 8 (D.ptr 3 0),so 9 (D.val (.int .i64 (((zam s.lems (j:Int)).1:Nat):Int))),so 10 (D.val (.int .i64 (((zam s.lems (j:Int)).2:Nat):Int))),so 11 (D.ptr 4 0),so 12 (D.ptr 5 0)] [hb_ 43 (scL s),hb_ 36 (qL c),hb_ 118 [El.row tmE ([]),Leaf.val (.bool false),zaf ([]),zaf ([]),Leaf.val (.int .i64 0),Leaf.val (.int .i64 0),Leaf.val (.int .i64 0),Leaf.val (.int .i64 0),Leaf.val (.bool false),zaf ([]),zaf ([])],hb_ 38 (afL p),hb_ 36 [Leaf.val (.bool (lvz s.lems (zam s.lems (j:Int)).1).neg),zaf (lvz s.lems (zam s.lems (j:Int)).1).n,zaf (lvz s.lems (zam s.lems (j:Int)).1).d],hb_ 36 [Leaf.val (.bool (lvz s.lems (zam s.lems (j:Int)).2).neg),zaf (lvz s.lems (zam s.lems (j:Int)).2).n,zaf (lvz s.lems (zam s.lems (j:Int)).2).d]] ?_ ?_
  .refine zc 3 rfl ?_;by_cases h1:(zam s.lems (j:Int)).2≠0
   .refine tq_ rfl (gtT rfl) (zl 3 rfl ?_);obtain⟨z,hz,_,_,hlz,hz0,hzl⟩:=zbj h1;haveI:=hB z (zFi hz);refine zc 4 rfl (tq_ rfl (jsb (((zam s.lems (j:Int)).2)-1) rfl) (tq_ rfl (jix ((zam s.lems (j:Int)).2-1) hz rfl) (tq_ rfl (jft rfl) (tq_ rfl (jlr rfl) ?_))));refine eq_ (D.agg [Leaf.val (.bool (lvz s.lems (zam s.lems (j:Int)).2).neg),zaf (lvz s.lems (zam s.lems (j:Int)).2).n,zaf (lvz s.lems (zam s.lems (j:Int)).2).d]) rfl (by rw[zst h1 hz];rfl) (zl 2 rfl ?_);exact mx_ rfl
   .refine tq_ rfl (gtF rfl) (zl 4 rfl ?_);exact At_heq (by rw[zCz (n:=(zam s.lems (j:Int)).2) (by omega)];first|done|rfl) (zde ⟨rfl,rfl,rfl,rfl,rfl,rfl,rfl,rfl,rfl,trivial⟩)
  .refine zc 1 rfl (dr_ 0 [] [] (dz 2 rfl (kc_ zEa rfl (zwY s (by assumption) 1 (j:Int)) (dz 2 rfl (kc_ zEa rfl (zwY s (by assumption) 2 (j:Int)) (dz 2 rfl (zae (za 2 rfl ?_))))))));refine nf_ [0] [so 1 _,so 5 _,so 6 _,so 8 _,so 9 _,so 10 _,so 11 (D.ptr 4 0),so 12 (D.ptr 5 0),so 13 (D.bool (zet s.path 1 (j:Int))),so 14 (D.bool (zet s.path 2 (j:Int)))] [none,_,_,_,hb_ 36 [Leaf.val (.bool (lvz s.lems (zam s.lems (j:Int)).1).neg),zaf (lvz s.lems (zam s.lems (j:Int)).1).n,zaf (lvz s.lems (zam s.lems (j:Int)).1).d],hb_ 36 [Leaf.val (.bool (lvz s.lems (zam s.lems (j:Int)).2).neg),zaf (lvz s.lems (zam s.lems (j:Int)).2).n,zaf (lvz s.lems (zam s.lems (j:Int)).2).d]] rfl rfl rfl ?_;refine zc 2 rfl (tc_ zjF rfl (zd4 (qOf (c)) (c) (zah _) (Br.use (by omega))) (tq_ rfl (zpG rfl rfl rfl (b:=(decide (0<c))) (decide_eq_decide.2 zd3)) (zl 4 rfl (dr_ 1 [(7,6),(8,6)] [6] (dz 4 rfl (kc_ zDw rfl (zB4 (qOf (c)) (c) (zah _) (Br.use (by omega))) ?_))))));refine kc_ zD9 rfl (qmax (qOf (c)) (c) (zah _) (Br.use (by omega)) (qOf (-(c))) (-(c)) (zah _) (Br.use (by omega))) (dz 3 rfl (zae (za 3 rfl ?_)));refine mt_ [so 1 (D.val (.int .i64 (j:Int))),so 6 (D.ptr 2 0),so 8 (D.ptr 3 0),so 9 (D.val (.int .i64 (((zam s.lems (j:Int)).1:Nat):Int))),so 10 (D.val (.int .i64 (((zam s.lems (j:Int)).2:Nat):Int))),so 11 (D.ptr 4 0),so 12 (D.ptr 5 0),so 13 (D.bool (zet s.path 1 (j:Int))),so 14 (D.bool (zet s.path 2 (j:Int))),so 15 (D.bool (decide (0<c))),so 16 (D.ptr 6 0),so 98 (D.bool (zcd s j))] [none,none,hb_ 118 [El.row tmE ([]),Leaf.val (.bool false),zaf ([]),zaf ([]),Leaf.val (.int .i64 0),Leaf.val (.int .i64 0),Leaf.val (.int .i64 0),Leaf.val (.int .i64 0),Leaf.val (.bool false),zaf ([]),zaf ([])],hb_ 38 (afL p),hb_ 36 [Leaf.val (.bool (lvz s.lems (zam s.lems (j:Int)).1).neg),zaf (lvz s.lems (zam s.lems (j:Int)).1).n,zaf (lvz s.lems (zam s.lems (j:Int)).1).d],hb_ 36 [Leaf.val (.bool (lvz s.lems (zam s.lems (j:Int)).2).neg),zaf (lvz s.lems (zam s.lems (j:Int)).2).n,zaf (lvz s.lems (zam s.lems (j:Int)).2).d],hb_ 118 [El.row tmE ([]),Leaf.val (.bool false),zaf ([]),zaf ([]),Leaf.val (.int .i64 0),Leaf.val (.int .i64 (j:Int)),Leaf.val (.int .i64 0),Leaf.val (.int .i64 0),Leaf.val (.bool (zaP (mx (c) (-(c))))),zaf (zaa (zav (mx (c) (-(c))))),zaf (zaa (zaz (mx (c) (-(c)))))]] ?_ ?_
   .refine nf_ [1] [so 1 _,so 6 _,so 8 _,so 9 _,so 10 _,so 11 _,so 12 _,so 13 _,so 14 _,so 15 (D.bool (decide (0<c))),so 16 (D.ptr 6 0)] [none,none,_,_,_,_,hb_ 118 [El.row tmE ([]),Leaf.val (.bool false),zaf ([]),zaf ([]),Leaf.val (.int .i64 0),Leaf.val (.int .i64 (j:Int)),Leaf.val (.int .i64 0),Leaf.val (.int .i64 0),Leaf.val (.bool (zaP (mx (c) (-(c))))),zaf (zaa (zav (mx (c) (-(c))))),zaf (zaa (zaz (mx (c) (-(c)))))]] rfl rfl rfl ?_;refine zc 3 rfl ?_;refine zdH rfl (fun hf1=>?_) (fun hf1=>?_)
    .refine zl 1 rfl ?_;by_cases h1:(zam s.lems (j:Int)).1≠0
     .refine tq_ rfl (gtT rfl) (zl 2 rfl (tc_ zjF rfl (zd4 (lvz s.lems (zam s.lems (j:Int)).1) ((lvz s.lems (zam s.lems (j:Int)).1).q) rfl (Fq.use (x:=(lvz s.lems (zam s.lems (j:Int)).1)) (by omega))) ?_));by_cases h2:0<=lv s.lems (zam s.lems (j:Int)).1
      .refine tq_ rfl (geT rfl (by rw[zhE h1];exact zgS.2 h2)) (zl 3 rfl (is_ (zcd s j) rfl (by simp[zcd,hf1,h1,h2]) (zl 1 rfl ?_)));exact mx_ rfl
      .refine tq_ rfl (geF rfl (by rw[zhE h1];exact fun e=>h2 (zgS.1 e))) (zl 3 rfl (is_ (zcd s j) rfl (by simp[zcd,hf1,h1,h2]) (zl 1 rfl ?_)));exact mx_ rfl
     .refine tq_ rfl (gtF rfl) (zl 7 rfl (is_ (zcd s j) rfl (by simp[zcd,hf1,h1]) (zl 1 rfl ?_)));exact mx_ rfl
    .refine zl 9 rfl (is_ (zcd s j) rfl (by simp[zcd,hf1]) (zl 1 rfl ?_));exact mx_ rfl
   .refine zap rfl (fun hon=>?_) (fun hon=>?_)
    .refine zc 16 rfl ?_;refine zap rfl (fun hps=>?_) (fun hps=>?_)
     .refine zc 1 rfl ?_;refine nf_ [3,4,5] [so 6 _,so 9 _,so 13 _,so 16 (D.ptr 6 0)] [none,none,_,none,none,none,hb_ 118 [El.row tmE p.ts,Leaf.val (.bool (zaP p.c)),zaf (zaa (zav p.c)),zaf (zaa (zaz p.c)),Leaf.val (.int .i64 6),Leaf.val (.int .i64 (j:Int)),Leaf.val (.int .i64 0),Leaf.val (.int .i64 0),Leaf.val (.bool (zaP (mx (c) (-(c))))),zaf (zaa (zav (mx (c) (-(c))))),zaf (zaa (zaz (mx (c) (-(c)))))]] rfl rfl rfl ?_;refine zc 12 rfl ?_;refine zap rfl (fun hd1=>?_) (fun hd1=>?_)
      .refine zc 9 rfl ?_;refine nz_ [so 6 _,so 16 _] [none,none,_,none,none,none,hb_ 118 [El.row tmE p.ts,Leaf.val (.bool (zaP p.c)),zaf (zaa (zav p.c)),zaf (zaa (zaz p.c)),Leaf.val (.int .i64 8),Leaf.val (.int .i64 (j:Int)),Leaf.val (.int .i64 (((zam s.lems (j:Int)).1:Nat):Int)),Leaf.val (.int .i64 0),Leaf.val (.bool (zaP (mx (c) (-(c))))),zaf (zaa (zav (mx (c) (-(c))))),zaf (zaa (zaz (mx (c) (-(c)))))]] rfl rfl ?_;refine zc 6 rfl ?_;exact r2_ hq_ rfl (by rw[zbI (ziy hon),if_neg (by simpa using hps),zg0 (by simpa using hd1)] <;> rfl)
      .refine zc 10 rfl ?_;exact r2_ hq_ rfl (by rw[zbI (ziy hon),if_neg (by simpa using hps),zkI (by simpa using hd1)] <;> rfl)
     .refine zc 10 rfl ?_;exact r2_ hq_ rfl (by rw[zbI (ziy hon),if_pos (by simpa using hps)] <;> rfl)
    .refine mt_ [so 1 (D.val (.int .i64 (j:Int))),so 6 (D.ptr 2 0),so 8 (D.ptr 3 0),so 9 (D.val (.int .i64 (((zam s.lems (j:Int)).1:Nat):Int))),so 10 (D.val (.int .i64 (((zam s.lems (j:Int)).2:Nat):Int))),so 11 (D.ptr 4 0),so 12 (D.ptr 5 0),so 14 (D.bool (zet s.path 2 (j:Int))),so 15 (D.bool (decide (0<c))),so 16 (D.ptr 6 0),so 122 (D.bool (zaW s j))] [none,none,hb_ 118 [El.row tmE ([]),Leaf.val (.bool false),zaf ([]),zaf ([]),Leaf.val (.int .i64 0),Leaf.val (.int .i64 0),Leaf.val (.int .i64 0),Leaf.val (.int .i64 0),Leaf.val (.bool false),zaf ([]),zaf ([])],hb_ 38 (afL p),hb_ 36 [Leaf.val (.bool (lvz s.lems (zam s.lems (j:Int)).1).neg),zaf (lvz s.lems (zam s.lems (j:Int)).1).n,zaf (lvz s.lems (zam s.lems (j:Int)).1).d],hb_ 36 [Leaf.val (.bool (lvz s.lems (zam s.lems (j:Int)).2).neg),zaf (lvz s.lems (zam s.lems (j:Int)).2).n,zaf (lvz s.lems (zam s.lems (j:Int)).2).d],hb_ 118 [El.row tmE ([]),Leaf.val (.bool false),zaf ([]),zaf ([]),Leaf.val (.int .i64 0),Leaf.val (.int .i64 (j:Int)),Leaf.val (.int .i64 0),Leaf.val (.int .i64 0),Leaf.val (.bool (zaP (mx (c) (-(c))))),zaf (zaa (zav (mx (c) (-(c))))),zaf (zaa (zaz (mx (c) (-(c)))))]] ?_ ?_
     .refine nz_ [so 1 _,so 6 _,so 8 _,so 9 _,so 10 _,so 11 _,so 12 _,so 14 _,so 15 (D.bool (decide (0<c))),so 16 (D.ptr 6 0)] [none,none,_,_,_,_,hb_ 118 [El.row tmE ([]),Leaf.val (.bool false),zaf ([]),zaf ([]),Leaf.val (.int .i64 0),Leaf.val (.int .i64 (j:Int)),Leaf.val (.int .i64 0),Leaf.val (.int .i64 0),Leaf.val (.bool (zaP (mx (c) (-(c))))),zaf (zaa (zav (mx (c) (-(c))))),zaf (zaa (zaz (mx (c) (-(c)))))]] rfl rfl ?_;refine zc 3 rfl ?_;refine zdH rfl (fun hf1=>?_) (fun hf1=>?_)
      .refine zl 1 rfl ?_;by_cases h1:(zam s.lems (j:Int)).2≠0
       .refine tq_ rfl (gtT rfl) (zl 2 rfl (tc_ zjF rfl (zd4 (lvz s.lems (zam s.lems (j:Int)).2) ((lvz s.lems (zam s.lems (j:Int)).2).q) rfl (Fq.use (x:=(lvz s.lems (zam s.lems (j:Int)).2)) (by omega))) ?_));by_cases h2:lv s.lems (zam s.lems (j:Int)).2<=0
        .refine tq_ rfl (leT rfl (by rw[zhE h1];exact zgb.2 h2)) (zl 3 rfl (is_ (zaW s j) rfl (by simp[zaW,hf1,h1,h2]) (zl 1 rfl ?_)));exact mx_ rfl
        .refine tq_ rfl (leF rfl (by rw[zhE h1];exact fun e=>h2 (zgb.1 e))) (zl 3 rfl (is_ (zaW s j) rfl (by simp[zaW,hf1,h1,h2]) (zl 1 rfl ?_)));exact mx_ rfl
       .refine tq_ rfl (gtF rfl) (zl 7 rfl (is_ (zaW s j) rfl (by simp[zaW,hf1,h1]) (zl 1 rfl ?_)));exact mx_ rfl
      .refine zl 9 rfl (is_ (zaW s j) rfl (by simp[zaW,hf1]) (zl 1 rfl ?_));exact mx_ rfl
     .refine zap rfl (fun hoff=>?_) (fun hoff=>?_)
      .refine zc 13 rfl ?_;refine zap rfl (fun hps=>?_) (fun hps=>?_)
       .refine zc 8 rfl ?_;refine nf_ [3,4,5] [so 6 _,so 10 _,so 14 _,so 16 (D.ptr 6 0)] [none,none,_,none,none,none,hb_ 118 [El.row tmE ([]),Leaf.val (.bool false),zaf ([]),zaf ([]),Leaf.val (.int .i64 10),Leaf.val (.int .i64 (j:Int)),Leaf.val (.int .i64 0),Leaf.val (.int .i64 0),Leaf.val (.bool (zaP (mx (c) (-(c))))),zaf (zaa (zav (mx (c) (-(c))))),zaf (zaa (zaz (mx (c) (-(c)))))]] rfl rfl rfl ?_;refine zc 5 rfl ?_;refine zap rfl (fun hd1=>?_) (fun hd1=>?_)
        .refine zc 15 rfl ?_;exact r2_ hq_ rfl (by rw[zbI (zgg hon hoff),if_neg (by simpa using hps),zfh (by simpa using hd1)];exact Eq.trans (by rfl) (rp0 _ _))
        .refine zc 4 rfl (nz_ [so 6 _,so 16 _] [none,none,_,none,none,none,_] rfl rfl (zc 6 rfl ?_));exact r2_ hq_ rfl (by rw[zbI (zgg hon hoff),if_neg (by simpa using hps),zhW (by simpa using hd1)];exact Eq.trans (by rfl) (rp0 _ _))
       .refine zc 10 rfl ?_;exact r2_ hq_ rfl (by rw[zbI (zgg hon hoff),if_pos (by simpa using hps)];exact Eq.trans (by rfl) (rp0 _ _))
      .refine zc 6 rfl ?_;refine zap rfl (fun hps=>?_) (fun hps=>?_)
       .refine zc 1 rfl ?_;have hps1:0<c:=by simpa using hps
        refine nz_ [so 6 _,so 8 _,so 9 _,so 10 _,so 11 _,so 12 _,so 16 (D.ptr 6 0)] [none,none,_,_,_,_,hb_ 118 [El.row tmE ([]),Leaf.val (.bool false),zaf ([]),zaf ([]),Leaf.val (.int .i64 0),Leaf.val (.int .i64 (j:Int)),Leaf.val (.int .i64 0),Leaf.val (.int .i64 0),Leaf.val (.bool (zaP (mx (c) (-(c))))),zaf (zaa (zav (mx (c) (-(c))))),zaf (zaa (zaz (mx (c) (-(c)))))]] rfl rfl ?_;refine zc 9 rfl ?_;by_cases h1:(zam s.lems (j:Int)).1≠0
        .refine tq_ rfl (gtT rfl) (zl 2 rfl ?_);by_cases h2:(zam s.lems (j:Int)).2≠0
         .refine tq_ rfl (gtT rfl) (zl 4 rfl ?_);refine tc_ zD8 rfl (zrm (lvz s.lems (zam s.lems (j:Int)).1) (lvz s.lems (zam s.lems (j:Int)).1).q rfl (Fq.use (x:=(lvz s.lems (zam s.lems (j:Int)).1)) (by omega)) (lvz s.lems (zam s.lems (j:Int)).2) (lvz s.lems (zam s.lems (j:Int)).2).q rfl (Fq.use (x:=(lvz s.lems (zam s.lems (j:Int)).2)) (by omega))) ?_;by_cases h3:slp (lv s.lems (zam s.lems (j:Int)).1) (lv s.lems (zam s.lems (j:Int)).2)=true
          .refine tq_ rfl (eqT rfl (by rw[zhE h1,zhE h2,if_pos h3])) (zl 4 rfl ?_);refine nf_ [4,5] [so 6 _,so 8 _,so 16 _] [none,none,_,_,none,none,hb_ 118 [El.row tmE ([]),Leaf.val (.bool false),zaf ([]),zaf ([]),Leaf.val (.int .i64 5),Leaf.val (.int .i64 (j:Int)),Leaf.val (.int .i64 0),Leaf.val (.int .i64 0),Leaf.val (.bool (zaP (mx (c) (-(c))))),zaf (zaa (zav (mx (c) (-(c))))),zaf (zaa (zaz (mx (c) (-(c)))))]] rfl rfl rfl ?_;refine zc 17 rfl ?_;exact r2_ hq_ rfl (by rw[zbI (zrP hon hoff hps1 ⟨h1,h2,h3⟩)] <;> rfl)
          .refine tq_ rfl (eqF rfl (by rw[zhE h1,zhE h2,if_neg h3];decide)) (zl 8 rfl ?_);refine nf_ [3,4,5] [so 6 _,so 16 _] [none,none,_,none,none,none,hb_ 118 [El.row tmE ([]),Leaf.val (.bool false),zaf ([]),zaf ([]),Leaf.val (.int .i64 5),Leaf.val (.int .i64 (j:Int)),Leaf.val (.int .i64 0),Leaf.val (.int .i64 0),Leaf.val (.bool (zaP (mx (c) (-(c))))),zaf (zaa (zav (mx (c) (-(c))))),zaf (zaa (zaz (mx (c) (-(c)))))]] rfl rfl rfl ?_;refine zc 6 rfl ?_;exact r2_ hq_ rfl (by rw[zbI (zgW hon hoff hps1 (fun e=>h3 e.2.2))];exact Eq.trans (by rfl) (rp0 _ _))
         .refine tq_ rfl (gtF rfl) (zl 14 rfl ?_);refine nf_ [3,4,5] [so 6 _,so 16 _] [none,none,_,none,none,none,hb_ 118 [El.row tmE ([]),Leaf.val (.bool false),zaf ([]),zaf ([]),Leaf.val (.int .i64 5),Leaf.val (.int .i64 (j:Int)),Leaf.val (.int .i64 0),Leaf.val (.int .i64 0),Leaf.val (.bool (zaP (mx (c) (-(c))))),zaf (zaa (zav (mx (c) (-(c))))),zaf (zaa (zaz (mx (c) (-(c)))))]] rfl rfl rfl ?_;refine zc 6 rfl ?_;exact r2_ hq_ rfl (by rw[zbI (zgW hon hoff hps1 (fun e=>h2 e.2.1))];exact Eq.trans (by rfl) (rp0 _ _))
        .refine tq_ rfl (gtF rfl) (zl 17 rfl ?_);refine nf_ [3,4,5] [so 6 _,so 16 _] [none,none,_,none,none,none,hb_ 118 [El.row tmE ([]),Leaf.val (.bool false),zaf ([]),zaf ([]),Leaf.val (.int .i64 5),Leaf.val (.int .i64 (j:Int)),Leaf.val (.int .i64 0),Leaf.val (.int .i64 0),Leaf.val (.bool (zaP (mx (c) (-(c))))),zaf (zaa (zav (mx (c) (-(c))))),zaf (zaa (zaz (mx (c) (-(c)))))]] rfl rfl rfl ?_;refine zc 6 rfl ?_;exact r2_ hq_ rfl (by rw[zbI (zgW hon hoff hps1 (fun e=>h1 e.1))];exact Eq.trans (by rfl) (rp0 _ _))
       .refine zc 1 rfl ?_;have hps1:¬0<c:=by simpa using hps
        refine zc 2 rfl ?_;by_cases h1:(zam s.lems (j:Int)).1=0
        .refine tq_ rfl (eqT rfl) (zl 9 rfl (nf_ [3,4,5,6] [so 6 _] [none,none,_,none,none,none,none] rfl rfl rfl (zc 6 rfl ?_)));exact r2_ hq_ rfl (by rw[zix (zoA hon hoff hps1 (.inl h1))];show R.tup [_,_]=R.tup [V.agg (rpL (fZ,⟨0,0,0,0⟩,0)),_];rw[<-rpZ] <;> rfl)
        .refine tq_ rfl (eqF rfl) (zl 2 rfl ?_);by_cases h2:(zam s.lems (j:Int)).2=0
         .refine tq_ rfl (eqT rfl) (zl 6 rfl (nf_ [3,4,5,6] [so 6 _] [none,none,_,none,none,none,none] rfl rfl rfl (zc 6 rfl ?_)));exact r2_ hq_ rfl (by rw[zix (zoA hon hoff hps1 (.inr h2))];show R.tup [_,_]=R.tup [V.agg (rpL (fZ,⟨0,0,0,0⟩,0)),_];rw[<-rpZ] <;> rfl)
         .refine tq_ rfl (eqF rfl) (zl 6 rfl ?_);have hl0:(lvz s.lems (zam s.lems (j:Int)).1).q<0:=by rw[zhE h1];exact zCc hon h1
          have hu0:0<(lvz s.lems (zam s.lems (j:Int)).2).q:=by rw[zhE h2];exact zxb hoff h2
          obtain⟨ib1,ib2⟩:=zsv (l:=(lvz s.lems (zam s.lems (j:Int)).1).q) (u:=(lvz s.lems (zam s.lems (j:Int)).2).q) (B:=135001) (by omega);haveI:=ib1;haveI:=ib2;have hne:(lvz s.lems (zam s.lems (j:Int)).2).q-(lvz s.lems (zam s.lems (j:Int)).1).q≠0:=by grind
          have hfs:=FL.sc (c:=zcn (lvz s.lems (zam s.lems (j:Int)).1).q (lvz s.lems (zam s.lems (j:Int)).2).q) hpf;have hfn:FL 100000000 (s.q.g.inp+s.q.g.us.length) (fN (zco (lvz s.lems (zam s.lems (j:Int)).1).q (lvz s.lems (zam s.lems (j:Int)).2).q)):=FL.n ib2;refine zc 3 rfl ?_;refine tc_ fn111 rfl (zyY (lvz s.lems (zam s.lems (j:Int)).1) (lvz s.lems (zam s.lems (j:Int)).1).q rfl (Fq.use (x:=(lvz s.lems (zam s.lems (j:Int)).1)) (by omega)) (lvz s.lems (zam s.lems (j:Int)).2) (lvz s.lems (zam s.lems (j:Int)).2).q rfl (Fq.use (x:=(lvz s.lems (zam s.lems (j:Int)).2)) (by omega)) hl0 hu0) ?_;refine zl 14 rfl ?_;refine nz_ [so 1 _,so 6 _,so 8 _,so 9 _,so 10 _,so 11 _,so 12 _,so 16 (D.ptr 6 0),so 18 (D.ptr 7 0),so 19 (D.ptr 8 0)] [none,none,_,_,_,_,hb_ 118 [El.row tmE ([]),Leaf.val (.bool false),zaf ([]),zaf ([]),Leaf.val (.int .i64 0),Leaf.val (.int .i64 (j:Int)),Leaf.val (.int .i64 0),Leaf.val (.int .i64 0),Leaf.val (.bool (zaP (mx (c) (-(c))))),zaf (zaa (zav (mx (c) (-(c))))),zaf (zaa (zaz (mx (c) (-(c)))))],hb_ 36 (qL (zcn (lvz s.lems (zam s.lems (j:Int)).1).q (lvz s.lems (zam s.lems (j:Int)).2).q)),hb_ 36 (qL (zco (lvz s.lems (zam s.lems (j:Int)).1).q (lvz s.lems (zam s.lems (j:Int)).2).q))] rfl rfl ?_;refine dr_ 0 [(7,6)] [6] (dz 2 rfl (kc_ fn85 rfl (zrs p (zcn (lvz s.lems (zam s.lems (j:Int)).1).q (lvz s.lems (zam s.lems (j:Int)).2).q) (by assumption) (by omega) (by omega) (by omega)) (dz 2 rfl ?_)));refine kc_ fn112 rfl (add_p (fSc p (zcn (lvz s.lems (zam s.lems (j:Int)).1).q (lvz s.lems (zam s.lems (j:Int)).2).q)) (fN (zco (lvz s.lems (zam s.lems (j:Int)).1).q (lvz s.lems (zam s.lems (j:Int)).2).q)) hfs hfn (by omega) (by omega) (by omega)) (dz 2 rfl (zae (za 2 rfl ?_)));refine nf_ [3,7,8] [so 1 _,so 6 _,so 9 _,so 10 _,so 11 _,so 12 _,so 16 _] [none,none,_,none,_,_,hb_ 118 [El.row tmE ((zf0 (fSc p (zcn (lvz s.lems (zam s.lems (j:Int)).1).q (lvz s.lems (zam s.lems (j:Int)).2).q)) (fN (zco (lvz s.lems (zam s.lems (j:Int)).1).q (lvz s.lems (zam s.lems (j:Int)).2).q))).ts),Leaf.val (.bool (zaP ((zf0 (fSc p (zcn (lvz s.lems (zam s.lems (j:Int)).1).q (lvz s.lems (zam s.lems (j:Int)).2).q)) (fN (zco (lvz s.lems (zam s.lems (j:Int)).1).q (lvz s.lems (zam s.lems (j:Int)).2).q))).c))),zaf (zaa (zav ((zf0 (fSc p (zcn (lvz s.lems (zam s.lems (j:Int)).1).q (lvz s.lems (zam s.lems (j:Int)).2).q)) (fN (zco (lvz s.lems (zam s.lems (j:Int)).1).q (lvz s.lems (zam s.lems (j:Int)).2).q))).c))),zaf (zaa (zaz ((zf0 (fSc p (zcn (lvz s.lems (zam s.lems (j:Int)).1).q (lvz s.lems (zam s.lems (j:Int)).2).q)) (fN (zco (lvz s.lems (zam s.lems (j:Int)).1).q (lvz s.lems (zam s.lems (j:Int)).2).q))).c))),Leaf.val (.int .i64 0),Leaf.val (.int .i64 (j:Int)),Leaf.val (.int .i64 0),Leaf.val (.int .i64 0),Leaf.val (.bool (zaP (mx (c) (-(c))))),zaf (zaa (zav (mx (c) (-(c))))),zaf (zaa (zaz (mx (c) (-(c)))))],none,none] rfl rfl rfl ?_;refine zc 9 rfl (dr_ 0 [(10,6)] [6] (dz 1 rfl (kp_ [] rfl (zaC rfl rfl rfl (by decide) zhM (by decide) (zFo rfl) rfl) (dz 2 rfl ?_))));refine kc_ zvK rfl (zFb (lvz s.lems (zam s.lems (j:Int)).2) ((lvz s.lems (zam s.lems (j:Int)).2).q) rfl (Fq.use (x:=(lvz s.lems (zam s.lems (j:Int)).2)) (by omega)) (lvz s.lems (zam s.lems (j:Int)).1) ((lvz s.lems (zam s.lems (j:Int)).1).q) rfl (Fq.use (x:=(lvz s.lems (zam s.lems (j:Int)).1)) (by omega))) ?_;refine kc_ zAg rfl (qdiv (qOf (mx (c) (-(c)))) (mx (c) (-(c))) (zah _) (Br.use (by omega)) (qOf (((lvz s.lems (zam s.lems (j:Int)).2).q)-((lvz s.lems (zam s.lems (j:Int)).1).q))) (((lvz s.lems (zam s.lems (j:Int)).2).q)-((lvz s.lems (zam s.lems (j:Int)).1).q)) (zah _) (Br.use (by omega)) (by assumption)) (dz 5 rfl (zae ?_));refine za 3 rfl ?_;refine nf_ [4,5] [so 6 _,so 16 _] [none,none,_,none,none,none,hb_ 118 [El.row tmE ((zf0 (fSc p (zcn (lvz s.lems (zam s.lems (j:Int)).1).q (lvz s.lems (zam s.lems (j:Int)).2).q)) (fN (zco (lvz s.lems (zam s.lems (j:Int)).1).q (lvz s.lems (zam s.lems (j:Int)).2).q))).ts),Leaf.val (.bool (zaP ((zf0 (fSc p (zcn (lvz s.lems (zam s.lems (j:Int)).1).q (lvz s.lems (zam s.lems (j:Int)).2).q)) (fN (zco (lvz s.lems (zam s.lems (j:Int)).1).q (lvz s.lems (zam s.lems (j:Int)).2).q))).c))),zaf (zaa (zav ((zf0 (fSc p (zcn (lvz s.lems (zam s.lems (j:Int)).1).q (lvz s.lems (zam s.lems (j:Int)).2).q)) (fN (zco (lvz s.lems (zam s.lems (j:Int)).1).q (lvz s.lems (zam s.lems (j:Int)).2).q))).c))),zaf (zaa (zaz ((zf0 (fSc p (zcn (lvz s.lems (zam s.lems (j:Int)).1).q (lvz s.lems (zam s.lems (j:Int)).2).q)) (fN (zco (lvz s.lems (zam s.lems (j:Int)).1).q (lvz s.lems (zam s.lems (j:Int)).2).q))).c))),Leaf.val (.int .i64 13),Leaf.val (.int .i64 (j:Int)),Leaf.val (.int .i64 (((zam s.lems (j:Int)).1:Nat):Int)),Leaf.val (.int .i64 (((zam s.lems (j:Int)).2:Nat):Int)),Leaf.val (.bool (zaP ((mx (c) (-(c)))/(((lvz s.lems (zam s.lems (j:Int)).2).q)-((lvz s.lems (zam s.lems (j:Int)).1).q))))),zaf (zaa (zav ((mx (c) (-(c)))/(((lvz s.lems (zam s.lems (j:Int)).2).q)-((lvz s.lems (zam s.lems (j:Int)).1).q))))),zaf (zaa (zaz ((mx (c) (-(c)))/(((lvz s.lems (zam s.lems (j:Int)).2).q)-((lvz s.lems (zam s.lems (j:Int)).1).q)))))],none,none] rfl rfl rfl ?_;refine zc 6 rfl ?_;exact r2_ hq_ rfl (by rw[zbI (zoz hon hoff hps1 h1 h2),<-zhE h1,<-zhE h2] <;> rfl)
set_option maxHeartbeats 2000000 in
theorem rpl_r(s:Sc)(hs:SB 135001 s)(j:Nat)(p:Af)(hp:s.q.g.us[j]?=some p)(f:Af){F:Nat}(hff:FL F (s.q.g.inp+s.q.g.us.length) f)(hF:F<=1000000000)(l:List Mu){K:Nat}(hMl:MB K l)(hK:K<=100000000000)(hll:l.length<=1000):Ctr Tryz.prog 57 [scV s,afV f,V.one (El.row muE l),V.one (Leaf.val (.int .i64 ((j:Int))))] (R.tup [afV (bkP s f l j).1,V.one (El.row muE (bkP s f l j).2.1),V.one (Leaf.val (.bool (bkP s f l j).2.2))]):=by
 refine bd_ Tryz.func57 Tryz.ntmps57 rfl (fun w0 A0=>?_);have hB:=hs.B;have hq:=hs.q;have hd:=hs.d;have hpl:=hs.pl;have hl:=hs.ll;have hg:=hq.g;have hr:=hq.r;have hlo:=hr.lo;have hhi:=hr.hi;have h1:=hg.i1;have h2:=hg.i3;have h3:=hg.u4;have h4:=hg.o1;have h5:=hg.o3;have hj:=(zFj.1 hp).1;have hpf:FL 4 (s.q.g.inp+s.q.g.us.length) p:=((hq.g.us j p hp).fl).mono (by omega) (by omega);haveI:=hpf.fm (by omega);haveI:=hpf.cb;haveI:=hff.fm (by omega);haveI:=hff.cb;haveI hcb:Br (co f.ts (s.q.g.inp+j)) F:=zqw hff.bd _;haveI:Br (zc6 (co f.ts (s.q.g.inp+j))) (F+1):=znX hcb;refine zc 16 rfl (tq_ rfl (jad (s.q.g.inp+j) rfl) (zl 4 rfl (nz_ [so 2 (D.v (V.one (El.row muE l))),so 3 (D.val (.int .i64 (j:Int))),so 4 (D.ptr 0 0),so 5 (D.ptr 1 0),so 8 (D.ptr 2 0),so 11 (D.val (.int .i64 ((s.q.g.inp+j:Nat):Int)))] [hb_ 43 (scL s),hb_ 38 (afL f),hb_ 38 [El.row tmE ([]),Leaf.val (.bool false),zaf ([]),zaf ([])]] rfl rfl (zc 6 rfl ?_))));refine tq_ rfl (jix j hp rfl) (tq_ rfl (jlr rfl) (zl 5 rfl (nz_ [so 2 _,so 3 _,so 4 _,so 5 _,so 8 _,so 11 _,so 12 (D.ptr 3 0)] [_,_,_,hb_ 38 (afL p)] rfl rfl (zc 3 rfl (tc_ zD6 rfl (zxL f hff (by omega) (by omega) (s.q.g.inp+j) (by omega)) (zl 7 rfl (tc_ zgt rfl (zbx (qOf ((co f.ts (s.q.g.inp+j)))) ((co f.ts (s.q.g.inp+j))) (zah _) (Br.use (by omega))) ?_)))))));refine zl 5 rfl (nz_ [so 2 _,so 3 _,so 4 _,so 5 _,so 8 _,so 11 _,so 12 _,so 13 (D.ptr 4 0),so 14 (D.val (.int .i64 (sg ((co f.ts (s.q.g.inp+j))))))] [_,_,_,_,hb_ 36 (qL (co f.ts (s.q.g.inp+j)))] rfl rfl (zc 2 rfl ?_));by_cases h0:(co f.ts (s.q.g.inp+j))=0
 .refine tq_ rfl (eqT rfl (by rw[h0];rfl)) (zl 12 rfl ?_);exact r3_ hq_ rfl (by rw[zcj (zfs hp h0)] <;> rfl)
 .refine tq_ rfl (eqF rfl (zio h0)) (zl 6 rfl (nz_ [so 2 _,so 3 _,so 4 _,so 5 _,so 8 _,so 11 _,so 12 _,so 13 _,so 14 _] [_,_,_,_,_] rfl rfl (zc 16 rfl (tc_ zxq rfl (zhu s (by assumption) (by omega) (by omega) (j:Int)) (zl 8 rfl ?_)))));refine nf_ [4] [so 2 _,so 3 _,so 4 _,so 5 _,so 8 _,so 11 _,so 12 _,so 14 _,so 15 (D.ptr 5 0),so 16 (D.val (.int .i64 (((zam s.lems (j:Int)).1:Nat):Int))),so 17 (D.val (.int .i64 (((zam s.lems (j:Int)).2:Nat):Int)))] [_,_,_,_,none,hb_ 36 [Leaf.val (.bool false),zaf (zaa (zav (co f.ts (s.q.g.inp+j)))),zaf (zaa (zaz (co f.ts (s.q.g.inp+j))))]] rfl rfl rfl ?_;refine zc 3 rfl (tc_ zD5 rfl (on_r s (by assumption) j (by omega)) (zl 9 rfl ?_));refine nz_ [so 2 _,so 3 _,so 4 _,so 5 _,so 8 _,so 11 _,so 12 _,so 14 _,so 15 _,so 16 _,so 17 _,so 18 (D.ptr 6 0),so 19 (D.bool (zcd s j))] [_,_,_,_,none,_,hb_ 107 [Leaf.val (.int .i64 ((zdk s j).kind)),Leaf.val (.int .i64 ((zdk s j).idx)),Leaf.val (.int .i64 ((zdk s j).lo)),Leaf.val (.int .i64 ((zdk s j).hi))]] rfl rfl (zc 3 rfl ?_);refine tc_ zD4 rfl (zCd s (by assumption) j (by omega)) (zl 9 rfl ?_);refine nz_ [so 2 _,so 3 _,so 4 _,so 5 _,so 8 _,so 11 _,so 12 _,so 14 _,so 15 _,so 16 _,so 17 _,so 18 _,so 19 _,so 20 (D.ptr 7 0),so 21 (D.bool (zaW s j))] [_,_,_,_,none,_,_,hb_ 107 [Leaf.val (.int .i64 ((zcx s j).kind)),Leaf.val (.int .i64 ((zcx s j).idx)),Leaf.val (.int .i64 ((zcx s j).lo)),Leaf.val (.int .i64 ((zcx s j).hi))]] rfl rfl (zc 20 rfl ?_);refine zap rfl (fun hon=>?_) (fun hon=>?_)
  .refine zc 1 rfl (dr_ 0 [(2,8),(3,9)] [8,9] (dz 4 rfl (zae (za 2 rfl ?_))));refine nf_ [0,3,6,7] [so 2 _,so 3 _,so 5 _,so 8 _,so 11 _,so 14 _,so 15 _,so 22 (D.ptr 8 0),so 23 (D.ptr 9 0)] [none,_,_,none,none,_,none,none,hb_ 107 [Leaf.val (.int .i64 ((zdk s j).kind)),Leaf.val (.int .i64 ((zdk s j).idx)),Leaf.val (.int .i64 ((zdk s j).lo)),Leaf.val (.int .i64 ((zdk s j).hi))],hb_ 38 (afL p)] rfl rfl rfl (zc 2 rfl ?_);by_cases hps:0<(co f.ts (s.q.g.inp+j))
   .refine tq_ rfl (gtT rfl (zd3.2 hps)) (zl 11 rfl (dr_ 0 [(8,2)] [2] (dz 3 rfl (kc_ zkX rfl (zeu f p hff hpf (by omega) (by omega) (by omega) (s.q.g.inp+j) (by omega)) (dz 3 rfl (zjC (D.agg (qL (zc6 (co f.ts (s.q.g.inp+j))))) rfl (by rw[zdE];exact ze9 _) ?_))))));refine kc_ zsR rfl (zeV l ⟨6,(j:Int),0,0⟩ ((zc6 (co f.ts (s.q.g.inp+j)))) hMl (by omega) (by omega)) (dz 3 rfl (zae (za 1 rfl ?_)));exact r3_ hq_ rfl (by rw[zcj (zcb hp h0 (ziy hon)),if_pos hps] <;> rfl)
   .refine tq_ rfl (gtF rfl (fun e=>hps (zd3.1 e))) (zl 7 rfl (nz_ [so 2 _,so 5 _,so 8 _,so 11 _,so 15 _,so 22 _,so 23 _] [none,_,_,none,none,_,none,none,_,_] rfl rfl (dr_ 0 [(8,2)] [2] (dz 3 rfl (kc_ zkX rfl (zeu f p hff hpf (by omega) (by omega) (by omega) (s.q.g.inp+j) (by omega)) (dz 3 rfl ?_))))));refine zjC (D.agg (qL (zc6 (co f.ts (s.q.g.inp+j))))) rfl (by rw[zdE];exact ze9 _) (kc_ zsR rfl (zeV l (zdk s j) ((zc6 (co f.ts (s.q.g.inp+j)))) hMl (by omega) (by omega)) (dz 3 rfl (zae (za 1 rfl ?_))));exact r3_ hq_ rfl (by rw[zcj (zcb hp h0 (ziy hon)),if_neg hps] <;> rfl)
  .refine zc 1 rfl ?_;refine nf_ [6] [so 2 _,so 3 _,so 4 _,so 5 _,so 8 _,so 11 _,so 12 _,so 14 _,so 15 _,so 16 _,so 17 _,so 20 _,so 21 _,so 22 (D.ptr 8 0),so 23 (D.ptr 9 0)] [_,_,_,_,none,_,none,_,hb_ 107 [Leaf.val (.int .i64 5),Leaf.val (.int .i64 (j:Int)),Leaf.val (.int .i64 0),Leaf.val (.int .i64 0)],hb_ 38 [El.row tmE ([]),Leaf.val (.bool false),zaf ([]),zaf ([])]] rfl rfl rfl ?_;refine zc 5 rfl ?_;refine zap rfl (fun hoff=>?_) (fun hoff=>?_)
   .refine zc 3 rfl ?_;by_cases hps:(co f.ts (s.q.g.inp+j))<0
    .refine tq_ rfl (ltT rfl (zkx.2 hps)) (zl 10 rfl (dr_ 0 [(8,2)] [2] (dz 3 rfl (zjC (D.agg (afL fZ)) rfl (congrArg D.agg fZ_ls.symm) (kc_ zkX rfl (zeu f fZ hff FL.z (by omega) (by omega) (by omega) (s.q.g.inp+j) (by omega)) (dz 3 rfl (zjC (D.agg (qL (zc6 (co f.ts (s.q.g.inp+j))))) rfl (by rw[zdE];exact ze9 _) ?_)))))));refine kc_ zsR rfl (zeV l (zcx s j) ((zc6 (co f.ts (s.q.g.inp+j)))) hMl (by omega) (by omega)) (dz 3 rfl (zae (za 1 rfl ?_)));exact r3_ hq_ rfl (by rw[zcj (zcb hp h0 (zgg hon hoff)),if_neg (by grind)] <;> rfl)
    .refine tq_ rfl (ltF rfl (fun e=>hps (zkx.1 e))) (zl 7 rfl (nf_ [0,3,7] [so 2 _,so 5 _,so 8 _,so 11 _,so 15 _,so 22 _,so 23 _] [none,_,_,none,none,_,none,none,_,_] rfl rfl rfl (dr_ 0 [(8,2)] [2] (dz 3 rfl (zjC (D.agg (afL fZ)) rfl (congrArg D.agg fZ_ls.symm) (kc_ zkX rfl (zeu f fZ hff FL.z (by omega) (by omega) (by omega) (s.q.g.inp+j) (by omega)) ?_))))));refine dz 3 rfl (zjC (D.agg (qL (zc6 (co f.ts (s.q.g.inp+j))))) rfl (by rw[zdE];exact ze9 _) (kc_ zsR rfl (zeV l ⟨5,(j:Int),0,0⟩ ((zc6 (co f.ts (s.q.g.inp+j)))) hMl (by omega) (by omega)) (dz 3 rfl (zae (za 1 rfl ?_)))));exact r3_ hq_ rfl (by rw[zcj (zcb hp h0 (zgg hon hoff)),if_pos (by grind)] <;> rfl)
   .refine zc 1 rfl (nf_ [7] [so 2 _,so 3 _,so 4 _,so 5 _,so 8 _,so 11 _,so 12 _,so 14 _,so 15 _,so 16 _,so 17 _,so 22 _,so 23 _] [_,_,_,_,none,_,none,none,_,_] rfl rfl rfl (zc 2 rfl ?_));by_cases hps:0<(co f.ts (s.q.g.inp+j))
    .refine tq_ rfl (gtT rfl (zd3.2 hps)) (zl 5 rfl (dr_ 0 [] [] (dz 1 rfl ?_)));by_cases h1:(zam s.lems (j:Int)).1≠0
     .refine kq_ rfl (gtT rfl) (dz 2 rfl ?_);by_cases h2:(zam s.lems (j:Int)).2≠0
      .refine kq_ rfl (gtT rfl) (dz 2 rfl ?_);obtain⟨y,hy,_,_,hly,hy0,hyl⟩:=zbe h1;haveI:=hB y (zFi hy);obtain⟨z,hz,_,_,hlz,hz0,hzl⟩:=zbj h2;haveI:=hB z (zFi hz);refine dz 3 rfl (kq_ rfl (jsb (((zam s.lems (j:Int)).1)-1) rfl) (kq_ rfl (jix ((zam s.lems (j:Int)).1-1) hy rfl) (kq_ rfl (jft rfl) (kq_ rfl (jlr rfl) (dz 3 rfl (kq_ rfl (jsb (((zam s.lems (j:Int)).2)-1) rfl) (kq_ rfl (jix ((zam s.lems (j:Int)).2-1) hz rfl) (kq_ rfl (jft rfl) (kq_ rfl (jlr rfl) ?_)))))))));refine kc_ zD3 rfl (zrl y.v y.v.q rfl (Fq.use (x:=y.v) (by omega)) z.v z.v.q rfl (Fq.use (x:=z.v) (by omega))) ?_;by_cases h3:slp y.v.q z.v.q=true
       .refine kq_ rfl (eqT rfl (by rw[if_pos h3])) (dz 1 rfl (zae (za 2 rfl (nf_ [0] [so 2 _,so 3 _,so 5 _,so 8 _,so 11 _,so 12 _,so 15 _,so 22 _,so 23 _] [none,_,_,_,none,_,none,none,_,_] rfl rfl rfl (dr_ 0 [(3,8),(4,9)] [8,9] (dz 5 rfl (zae (za 3 rfl (dr_ 0 [(8,2)] [2] ?_)))))))));refine dz 3 rfl (kc_ zkX rfl (zeu f p hff hpf (by omega) (by omega) (by omega) (s.q.g.inp+j) (by omega)) (dz 3 rfl (zjC (D.agg (qL (zc6 (co f.ts (s.q.g.inp+j))))) rfl (by rw[zdE];exact ze9 _) (kc_ zsR rfl (zeV l ⟨6,(j:Int),0,0⟩ ((zc6 (co f.ts (s.q.g.inp+j)))) hMl (by omega) (by omega)) (dz 3 rfl (zae (za 1 rfl ?_)))))));exact r3_ hq_ rfl (by rw[zcj (zcb hp h0 (zrP hon hoff hps ⟨h1,h2,by rw[hly,hlz];exact h3⟩))] <;> rfl)
       .refine kq_ rfl (eqF rfl (by rw[if_neg h3];decide)) (dz 1 rfl (zae (za 6 rfl (nf_ [0,3] [so 2 _,so 5 _,so 8 _,so 11 _,so 15 _,so 22 _,so 23 _] [none,_,_,none,none,_,none,none,_,_] rfl rfl rfl (dr_ 0 [(8,2)] [2] (dz 3 rfl (zjC (D.agg (afL fZ)) rfl (congrArg D.agg fZ_ls.symm) ?_)))))));refine kc_ zkX rfl (zeu f fZ hff FL.z (by omega) (by omega) (by omega) (s.q.g.inp+j) (by omega)) (dz 3 rfl (zjC (D.agg (qL (zc6 (co f.ts (s.q.g.inp+j))))) rfl (by rw[zdE];exact ze9 _) (kc_ zsR rfl (zeV l ⟨5,(j:Int),0,0⟩ ((zc6 (co f.ts (s.q.g.inp+j)))) hMl (by omega) (by omega)) (dz 3 rfl (zae (za 1 rfl ?_))))));exact r3_ hq_ rfl (by rw[zcj (zcb hp h0 (zgW hon hoff hps (fun e=>h3 (by have:=e.2.2;rwa [hly,hlz] at this))))] <;> rfl)
      .refine kq_ rfl (gtF rfl) (dz 19 rfl (zae (za 6 rfl (nf_ [0,3] [so 2 _,so 5 _,so 8 _,so 11 _,so 15 _,so 22 _,so 23 _] [none,_,_,none,none,_,none,none,_,_] rfl rfl rfl (dr_ 0 [(8,2)] [2] (dz 3 rfl (zjC (D.agg (afL fZ)) rfl (congrArg D.agg fZ_ls.symm) (kc_ zkX rfl (zeu f fZ hff FL.z (by omega) (by omega) (by omega) (s.q.g.inp+j) (by omega)) (dz 3 rfl ?_)))))))));refine zjC (D.agg (qL (zc6 (co f.ts (s.q.g.inp+j))))) rfl (by rw[zdE];exact ze9 _) (kc_ zsR rfl (zeV l ⟨5,(j:Int),0,0⟩ ((zc6 (co f.ts (s.q.g.inp+j)))) hMl (by omega) (by omega)) (dz 3 rfl (zae (za 1 rfl ?_))));exact r3_ hq_ rfl (by rw[zcj (zcb hp h0 (zgW hon hoff hps (fun e=>h2 e.2.1)))] <;> rfl)
     .refine kq_ rfl (gtF rfl) (dz 22 rfl (zae (za 6 rfl (nf_ [0,3] [so 2 _,so 5 _,so 8 _,so 11 _,so 15 _,so 22 _,so 23 _] [none,_,_,none,none,_,none,none,_,_] rfl rfl rfl (dr_ 0 [(8,2)] [2] (dz 3 rfl (zjC (D.agg (afL fZ)) rfl (congrArg D.agg fZ_ls.symm) (kc_ zkX rfl (zeu f fZ hff FL.z (by omega) (by omega) (by omega) (s.q.g.inp+j) (by omega)) (dz 3 rfl ?_)))))))));refine zjC (D.agg (qL (zc6 (co f.ts (s.q.g.inp+j))))) rfl (by rw[zdE];exact ze9 _) (kc_ zsR rfl (zeV l ⟨5,(j:Int),0,0⟩ ((zc6 (co f.ts (s.q.g.inp+j)))) hMl (by omega) (by omega)) (dz 3 rfl (zae (za 1 rfl ?_))));exact r3_ hq_ rfl (by rw[zcj (zcb hp h0 (zgW hon hoff hps (fun e=>h1 e.1)))] <;> rfl)
    .refine tq_ rfl (gtF rfl (fun e=>hps (zd3.1 e))) (zl 5 rfl (nz_ [so 2 _,so 3 _,so 4 _,so 5 _,so 8 _,so 11 _,so 12 _,so 15 _,so 16 _,so 17 _,so 22 _,so 23 _] [_,_,_,_,none,_,none,none,_,_] rfl rfl (zc 2 rfl ?_)));by_cases h1:(zam s.lems (j:Int)).1=0
     .refine tq_ rfl (eqT rfl) (zl 9 rfl (nf_ [0,1,3,5,8,9] [so 8 _] [none,none,_,none,none,none,none,none,none,none] rfl rfl rfl (zc 7 rfl ?_)));exact r3_ hq_ rfl (by rw[zlj (zgy hp h0 (zoA hon hoff hps (.inl h1)))];show _=R.tup [afV fZ,V.one (El.row muE []),_];rw[afZ] <;> rfl)
     .refine tq_ rfl (eqF rfl) (zl 2 rfl ?_);by_cases h2:(zam s.lems (j:Int)).2=0
      .refine tq_ rfl (eqT rfl) (zl 6 rfl (nf_ [0,1,3,5,8,9] [so 8 _] [none,none,_,none,none,none,none,none,none,none] rfl rfl rfl (zc 7 rfl ?_)));exact r3_ hq_ rfl (by rw[zlj (zgy hp h0 (zoA hon hoff hps (.inr h2)))];show _=R.tup [afV fZ,V.one (El.row muE []),_];rw[afZ] <;> rfl)
      .refine tq_ rfl (eqF rfl) (zl 6 rfl ?_);obtain⟨y,hy,_,_,hly,hy0,hyl⟩:=zbe h1;haveI:=hB y (zFi hy);obtain⟨z,hz,_,_,hlz,hz0,hzl⟩:=zbj h2;haveI:=hB z (zFi hz);have hl0:y.v.q<0:=by rw[<-hly];exact zCc hon h1
       have hu0:0<z.v.q:=by rw[<-hlz];exact zxb hoff h2
       obtain⟨ib1,ib2⟩:=zsv (l:=y.v.q) (u:=z.v.q) (B:=135001) (by omega);haveI:=ib1;haveI:=ib2;have hne:z.v.q-y.v.q≠0:=by grind
       have hfs:=FL.sc (c:=(zcn y.v.q z.v.q)) hpf;have hfn:FL 100000000 (s.q.g.inp+s.q.g.us.length) (fN (zco y.v.q z.v.q)):=FL.n ib2;have hbf:=hfs.add hfn;haveI:=hfs.fm (by omega);haveI:=hfs.cb;haveI:=hfn.fm (by omega);haveI:=hfn.cb;refine dr_ 2 [(14,10),(15,11),(16,10),(17,11)] [10,11] (dz 3 rfl (kq_ rfl (jsb (((zam s.lems (j:Int)).1)-1) rfl) (kq_ rfl (jix ((zam s.lems (j:Int)).1-1) hy rfl) (kq_ rfl (jft rfl) (kq_ rfl (jlr rfl) (dz 3 rfl (kq_ rfl (jsb (((zam s.lems (j:Int)).2)-1) rfl) (kq_ rfl (jix ((zam s.lems (j:Int)).2-1) hz rfl) ?_))))))));refine kq_ rfl (jft rfl) (kq_ rfl (jlr rfl) (dz 4 rfl (zae (za 2 rfl ?_))));refine nf_ [0] [so 2 _,so 3 _,so 5 _,so 8 _,so 11 _,so 12 _,so 15 _,so 16 _,so 17 _,so 22 _,so 23 _,so 24 (D.ptr 10 0),so 25 (D.ptr 11 0)] [none,_,_,_,none,_,none,none,_,_,hb_ 36 [Leaf.val (.bool y.v.neg),zaf y.v.n,zaf y.v.d],hb_ 36 [Leaf.val (.bool z.v.neg),zaf z.v.n,zaf z.v.d]] rfl rfl rfl (zc 3 rfl ?_);refine tc_ fn128 rfl (zyX y.v y.v.q rfl (Fq.use (x:=y.v) (by omega)) z.v z.v.q rfl (Fq.use (x:=z.v) (by omega)) hl0 hu0) (zl 14 rfl ?_);refine nz_ [so 2 _,so 3 _,so 5 _,so 8 _,so 11 _,so 12 _,so 15 _,so 16 _,so 17 _,so 22 _,so 23 _,so 24 _,so 25 _,so 27 (D.ptr 12 0),so 28 (D.ptr 13 0)] [none,_,_,_,none,_,none,none,_,_,_,_,hb_ 36 (qL (zcn y.v.q z.v.q)),hb_ 36 (qL (zco y.v.q z.v.q))] rfl rfl (zc 9 rfl (dr_ 0 [(6,9)] [9] (dz 2 rfl ?_)));refine kc_ zqQ rfl (zci p (zcn y.v.q z.v.q) (by omega) (by omega)) (dz 1 rfl (kc_ zAc rfl (zfR (zco y.v.q z.v.q)) (kc_ zDz rfl (ziE (fSc p (zcn y.v.q z.v.q)) (fN (zco y.v.q z.v.q)) (by omega) (by omega) (by omega)) (dz 1 rfl (zae (za 1 rfl ?_))))));refine nf_ [3,12,13] [so 2 _,so 5 _,so 8 _,so 11 _,so 15 _,so 22 _,so 23 _,so 24 _,so 25 _] [none,_,_,none,none,_,none,none,hb_ 107 [Leaf.val (.int .i64 13),Leaf.val (.int .i64 (j:Int)),Leaf.val (.int .i64 (((zam s.lems (j:Int)).1:Nat):Int)),Leaf.val (.int .i64 (((zam s.lems (j:Int)).2:Nat):Int))],hb_ 38 (afL (zf0 (fSc p (zcn y.v.q z.v.q)) (fN (zco y.v.q z.v.q)))),_,_,none,none] rfl rfl rfl ?_;refine dr_ 0 [(8,5)] [5] (kp_ [] rfl (zaC rfl rfl rfl (by decide) zhM (by decide) (zFo rfl) rfl) (zjC (D.agg (qL (zc6 (co f.ts (s.q.g.inp+j))))) rfl (by rw[zdE];exact ze9 _) (dz 2 rfl (kc_ zvA rfl (zky z.v (z.v.q) rfl (Fq.use (x:=z.v) (by omega)) y.v (y.v.q) rfl (Fq.use (x:=y.v) (by omega))) ?_))));refine kc_ zvJ rfl (zuZ (qOf ((zc6 (co f.ts (s.q.g.inp+j))))) ((zc6 (co f.ts (s.q.g.inp+j)))) (zah _) (Br.use (by omega)) (qOf ((z.v.q)-(y.v.q))) ((z.v.q)-(y.v.q)) (zah _) (Br.use (by omega)) (by assumption)) (dz 4 rfl (zae (za 3 rfl ?_)));refine nf_ [10,11] [so 2 _,so 5 _,so 8 _,so 11 _,so 15 _,so 22 _,so 23 _] [none,_,_,none,none,hb_ 36 (qL (((zc6 (co f.ts (s.q.g.inp+j))))/((z.v.q)-(y.v.q)))),none,none,_,_,none,none,none,none] rfl rfl rfl (dr_ 0 [(8,2)] [2] (dz 3 rfl ?_));refine kc_ zkX rfl (zeu f (zf0 (fSc p (zcn y.v.q z.v.q)) (fN (zco y.v.q z.v.q))) hff hbf (by omega) (by omega) (by omega) (s.q.g.inp+j) (by omega)) (dz 3 rfl (kc_ zsR rfl (zeV l ⟨13,(j:Int),((zam s.lems (j:Int)).1:Int),((zam s.lems (j:Int)).2:Int)⟩ ((zc6 (co f.ts (s.q.g.inp+j)))/(z.v.q-y.v.q)) hMl (by omega) (by omega)) (dz 3 rfl ?_)));refine zae (za 1 rfl ?_);exact r3_ hq_ rfl (by rw[zcj (zcb hp h0 (zoz hon hoff hps h1 h2)),hly,hlz] <;> rfl)
end Go.Proofs.YtjeiacoegppoiaaGreatDoor
namespace Rc
open Go Go.RowKit
def zgR(φ:Nat->Rat):Nat->Rat
 |0=>0
 |n+1=>zgR φ n+φ n
theorem zea{φ ψ:Nat->Rat}:∀n,(∀i,i<n->φ i=ψ i)->zgR φ n=zgR ψ n
 |0,_=>rfl
 |n+1,h=>by simp only[zgR,zea n (fun i hi=>h i (by omega)),h n (by omega)]
theorem zks{φ ψ:Nat->Rat}{c:Rat}:∀n,zgR (fun i=>φ i+c*ψ i) n=zgR φ n+c*zgR ψ n
 |0=>by simp only[zgR];grind
 |n+1=>by simp only[zgR,zks n];grind
theorem zol{φ:Nat->Rat}{v:Nat}{a:Rat}:∀n,n<=v->zgR (fun i=>φ i+if i=v then a else 0) n=zgR φ n
 |0,_=>rfl
 |n+1,h=>by
  have ih:=zol (φ:=φ) (v:=v) (a:=a) n (by omega);simp only[zgR] at ih ⊢;rw[ih,if_neg (by omega)];grind
theorem zm8{φ:Nat->Rat}{v:Nat}{a:Rat}:∀n,v<n->zgR (fun i=>φ i+if i=v then a else 0) n=zgR φ n+a
 |0,h=>by omega
 |n+1,h=>by
  simp only[zgR];by_cases e:n=v
  .rw[zol (φ:=φ) (v:=v) (a:=a) n (by omega),if_pos e];grind
  .rw[zm8 (φ:=φ) (v:=v) (a:=a) n (by omega),if_neg e];grind
@[reducible] def vl(x:List Rat)(i:Nat):Rat:=(x[i]?).getD 0
def evT(x:List Rat):List Tm->Rat
 |[]=>0
 |t::ts=>t.2*vl x t.1+evT x ts
theorem zsQ(x:List Rat):∀(ts:List Tm) (c:Rat),ts.foldl (fun s t=>s+t.2*(x[t.1]?).getD 0) c=c+evT x ts
 |[],c=>by simp only[List.foldl_nil,evT];grind
 |t::ts,c=>by rw[List.foldl_cons,zsQ x ts];simp only[evT];grind
theorem zxu{x:List Rat}{n:Nat}:∀{ts:List Tm},CanT ts->(∀t∈ts,t.1<n)->evT x ts=zgR (fun w=>co ts w*vl x w) n
 |[],_,_=>by
  have:∀n,zgR (fun w=>co [] w*vl x w) n=0:=by
   intro n
   induction n with
   |zero=>rfl
   |succ n ih=>simp only[zgR,ih];show 0+0*vl x n=0;grind
  rw[this];rfl
 |(w0,d)::ts,hc,hv=>by
  have ih:=zxu (x:=x) (n:=n) hc.2.2 (fun t ht=>hv t (by simp[ht]));have h0:co ts w0=0:=zcS hc.2.1;have h1:w0<n:=hv (w0,d) (by simp);simp only[evT,ih];rw[show zgR (fun w=>co ((w0,d)::ts) w*vl x w) n=zgR (fun w=>co ts w*vl x w+if w=w0 then d*vl x w0 else 0) n from zea n (fun i _=>by
   show(if w0=i then d else co ts i)*vl x i=_;by_cases e:i=w0
   .rw[if_pos e.symm,if_pos e,e,h0];grind
   .rw[if_neg (fun e2=>e e2.symm),if_neg e];grind),zm8 n h1]
  grind
theorem zi6{f:Af}{x:List Rat}{n:Nat}(hc:CanT f.ts)(hv:∀t∈f.ts,t.1<n):evM f x=f.c+zgR (fun w=>co f.ts w*vl x w) n:=by
 unfold evM evN;rw[zFE,zsQ,zxu hc hv]
theorem zAj{f g:Af}{x:List Rat}{v n:Nat}(hf:CanT f.ts)(hg:CanT g.ts)(h1:∀t∈f.ts,t.1<n)(h2:∀t∈g.ts,t.1<n)(hv:v<n):evM (zoo f v g) x=evM f x+co f.ts v*(evM g x-vl x v):=by
 have h3:∀t∈(zoo f v g).ts,t.1<n:=zdM (fun t ht=>h1 t (List.mem_filter.1 ht).1) (ziq hg h2);rw[zi6 (zon hf) h3,zi6 hf h1,zi6 hg h2,zrj];rw[show zgR (fun w=>co (zoo f v g).ts w*vl x w) n=zgR (fun w=>(co f.ts w*vl x w+co f.ts v*(co g.ts w*vl x w))+if w=v then -(co f.ts v*vl x v) else 0) n from zea n (fun i _=>by
  rw[znF hf hg];by_cases e:i=v
  .rw[if_pos e,if_pos e,e];grind
  .rw[if_neg e,if_neg e];grind),zm8 n hv,zks]
 grind
theorem zAk{p:Af}{x:List Rat}{n:Nat}{s o:Rat}(hp:CanT p.ts)(hv:∀t∈p.ts,t.1<n):evM (zf0 (fSc p s) (fN o)) x=evM p x*s+o:=by
 have h2:∀t∈(zf0 (fSc p s) (fN o)).ts,t.1<n:=zdM (ziq hp hv) (fun t ht=>by simp[fN] at ht);rw[zi6 (zch (zdf hp)) h2,zi6 hp hv];rw[show zgR (fun w=>co (zf0 (fSc p s) (fN o)).ts w*vl x w) n=zgR (fun w=>0+s*(co p.ts w*vl x w)) n from zea n (fun i _=>by
  rw[zte (zdf hp) (zhI _),zfJ hp,zqR];grind),zks]
 have h0:∀n,zgR (fun _=>(0:Rat)) n=0:=fun n=>by
  induction n with
  |zero=>rfl
  |succ n ih=>simp only[zgR,ih];grind
 rw[h0];show p.c*s+o+_=_;grind
section
variable {s:Sc}{x:List Rat}
theorem zsw(hl:Holds s.q.g x s.lems){j:Nat}{p:Af}(hp:s.q.g.us[j]?=some p):(bHi s j≠0->evM p (zbn s.q.g x)<=lv s.lems (bHi s j))/\(bLo s j≠0->lv s.lems (bLo s j)<=evM p (zbn s.q.g x)):=by
 constructor
 .intro hn;obtain⟨m,m1,m2,m3,m4,_⟩:=zbj hn;have hh:=(hl m (zFi m1) p (by rw[m2];exact hp)).1 m3;rw[m4];exact hh
 .intro hn;obtain⟨m,m1,m2,m3,m4,_⟩:=zbe hn;have hh:=(hl m (zFi m1) p (by rw[m2];exact hp)).2 m3;rw[m4];exact hh
theorem on_at(hs:SOk s)(hp:zcw s x)(hl:Holds s.q.g x s.lems){j:Nat}{p:Af}(hpj:s.q.g.us[j]?=some p):(zcd s j=true->0<=evM p (zbn s.q.g x))/\(zaW s j=true->evM p (zbn s.q.g x)<=0):=by
 obtain⟨d1,d2⟩:=zxJ hs hp hpj;obtain⟨b1,b2⟩:=zsw hl hpj;constructor
 .intro h;rcases zca.1 h with h|⟨h1,h2⟩
  .exact d1 h
  .exact Rat.le_trans h2 (b2 h1)
 .intro h;rcases zbp.1 h with h|⟨h1,h2⟩
  .exact d2 h
  .exact Rat.le_trans (b1 h1) h2
theorem zxw:evM fZ x=0:=rfl
theorem zBV(hs:SOk s)(hp:zcw s x)(hl:Holds s.q.g x s.lems){j:Nat}{p:Af}(hpj:s.q.g.us[j]?=some p){c:Rat}(hc:c≠0){b:Af}{r:Rw}{k:Rat}(h:zff s j p c=some (b,r,k)) :
  0<=c*(mx (evM p (zbn s.q.g x)) 0-evM b (zbn s.q.g x))/\((zcd s j=true\/zaW s j=true)->c*(mx (evM p (zbn s.q.g x)) 0-evM b (zbn s.q.g x))=0):=by
 have hpo:=hs.q.g.us j p hpj;obtain⟨o1,o2⟩:=on_at hs hp hl hpj;obtain⟨b1,b2⟩:=zsw hl hpj;obtain⟨k1,k2,k3⟩:=zyR (a:=evM p (zbn s.q.g x)) (b:=0);unfold zff at h;split at h
 .rename_i hon;simp only[zFk,zFm] at h;rw[<-h.1];have h0:=o1 hon;have e:mx (evM p (zbn s.q.g x)) 0-evM p (zbn s.q.g x)=0:=by rcases k3 with k3|k3 <;> grind
  rw[e,Rat.mul_zero];exact⟨Rat.le_refl,fun _=>rfl⟩
 .rename_i hon;split at h
  .rename_i hoff;simp only[zFk,zFm] at h;rw[<-h.1,zxw];have h0:=o2 hoff;have e:mx (evM p (zbn s.q.g x)) 0-0=0:=by rcases k3 with k3|k3 <;> grind
   rw[e,Rat.mul_zero];exact⟨Rat.le_refl,fun _=>rfl⟩
  .rename_i hoff;have hno:¬(zcd s j=true\/zaW s j=true):=fun e=>e.elim hon hoff;refine⟨?_,fun e=>absurd e hno⟩;split at h
   .rename_i hpos;split at h
    .simp only[zFk,zFm] at h;rw[<-h.1];exact Rat.mul_nonneg (Rat.le_of_lt hpos) (by grind)
    .simp only[zFk,zFm] at h;rw[<-h.1,zxw];exact Rat.mul_nonneg (Rat.le_of_lt hpos) (by grind)
   .rename_i hneg;split at h
    .cases h
    .rename_i hlh;have hlo:bLo s j≠0:=fun e=>hlh (.inl e);have hhi:bHi s j≠0:=fun e=>hlh (.inr e);have q1:=b1 hhi;have q2:=b2 hlo;have hl0:lv s.lems (bLo s j)<0:=Rat.not_le.1 (fun e=>hon (zca.2 (.inr ⟨hlo,e⟩)));have hu0:0<lv s.lems (bHi s j):=Rat.not_le.1 (fun e=>hoff (zbp.2 (.inr ⟨hhi,e⟩)));simp only[zFk,zFm] at h;rw[<-h.1,zAk hpo.can hpo.var];generalize lv s.lems (bLo s j)=l at *;generalize lv s.lems (bHi s j)=u at *;generalize evM p (zbn s.q.g x)=y at *;have h2:0<u-l:=by grind
     have h4:(u-l)*(u-l)⁻¹=1:=Rat.mul_inv_cancel _ (by grind);have h5:0<(u-l)⁻¹:=Rat.inv_pos.2 h2;have key:mx y 0<=y*zcn l u+zco l u:=by
      unfold zcn zco;rw[Rat.div_def,Rat.div_def];have e1:y*(u*(u-l)⁻¹) + -(l*u)*(u-l)⁻¹=(u*(y-l))*(u-l)⁻¹:=by grind
      rw[e1];have a1:0<=(u*(y-l))*(u-l)⁻¹:=Rat.mul_nonneg (Rat.mul_nonneg (by grind) (by grind)) (by grind);have a2:0<=((-l)*(u-y))*(u-l)⁻¹:=Rat.mul_nonneg (Rat.mul_nonneg (by grind) (by grind)) (by grind);have a3:(u*(y-l))*(u-l)⁻¹-y=((-l)*(u-y))*(u-l)⁻¹:=by
       have:y=y*((u-l)*(u-l)⁻¹):=by rw[h4,Rat.mul_one]
       grind
      rcases k3 with k3|k3 <;> grind
     have:0<=(-c)*((y*zcn l u+zco l u)-mx y 0):=Rat.mul_nonneg (by grind) (by grind);grind
theorem znU(hs:SOk s)(hx:InB s.q.r x)(hp:zcw s x)(hl:Holds s.q.g x s.lems){f:Af}(hf:FOk 3 (s.q.g.inp+s.q.g.us.length) f):∀k,k<=s.q.g.us.length->∀g l,bkN s f k=some (g,l)->evM g (zbn s.q.g x)<=evM f (zbn s.q.g x)/\((∀j,j<s.q.g.us.length->zcd s j=true\/zaW s j=true)->evM g (zbn s.q.g x)=evM f (zbn s.q.g x))
 |0,_,g,l,h=>by
  have h:some (f,[])=some (g,l):=h;simp only[zFk,zFm] at h;rw[<-h.1];exact⟨Rat.le_refl,fun _=>rfl⟩
 |k+1,hk,g,l,h=>by
  rw[zft] at h
  cases ho:bkN s f k with
  |none=>rw[ho] at h;cases h
  |some a=>
   obtain⟨g0,l0⟩:=a;rw[ho] at h;obtain⟨i1,i2⟩:=znU hs hx hp hl hf k (by omega) g0 l0 ho;have hj:s.q.g.us.length-1-k<s.q.g.us.length:=by omega
   obtain⟨p,hpj⟩:∃p,s.q.g.us[s.q.g.us.length-1-k]?=some p:=⟨_,zFh hj⟩;have hbk:=zhc (kf:=fun _=>135000) hs.sb (fun m hm j hu=>by
    have h1:=hs.l m hm;refine h1.hb.mono (zjL ?_);have:=h1.u;have:=hs.q.g.u4;omega) (zFl _) hf.cq k (by omega) g0 l0 (by rw[Nat.sub_self,Nat.zero_add];exact ho)
   obtain⟨b,_,hcd⟩:=hbk.cd;have hvar:∀t∈g0.ts,t.1<s.q.g.inp+s.q.g.us.length:=fun t ht=>by have:=hcd.var t ht;omega
   by_cases h0:co g0.ts (s.q.g.inp+(s.q.g.us.length-1-k))=0
   .rw[zfs hpj h0] at h;simp only[zFk,zFm] at h;rw[<-h.1];exact⟨i1,i2⟩
   .cases hr:zff s (s.q.g.us.length-1-k) p (co g0.ts (s.q.g.inp+(s.q.g.us.length-1-k))) with
    |none=>rw[zgy hpj h0 hr] at h;cases h
    |some a=>
     obtain⟨b',r,c⟩:=a;rw[zcb hpj h0 hr] at h;simp only[zFk,zFm] at h;rw[<-h.1];have hcb:=zrN (K:=135000) hs.q (fun m hm hu=>by
      have h1:=hs.l m hm;refine h1.hb.mono (zjL ?_);have:=h1.u;have:=hs.q.g.u4;omega) hpj hr
     rw[zAj (n:=s.q.g.inp+s.q.g.us.length) hcd.can hcb.can hvar (fun t ht=>by have:=hcb.var t ht;omega) (by omega)];obtain⟨r1,r2⟩:=zBV hs hp hl hpj h0 hr;have hv:vl (zbn s.q.g x) (s.q.g.inp+(s.q.g.us.length-1-k))=mx (evM p (zbn s.q.g x)) 0:=by
      show((zbn s.q.g x)[_]?).getD 0=_;rw[zpx hs hx hpj];rfl
     rw[hv];refine⟨by grind,fun ha=>?_⟩;have:=r2 (ha _ hj);have:=i2 ha;grind
theorem zrb(hs:SOk s)(hx:InB s.q.r x)(hp:zcw s x)(hl:Holds s.q.g x s.lems){f:Af}(hf:FOk 3 (s.q.g.inp+s.q.g.us.length) f)(h:(zb1 s f).2.2=true):(zb1 s f).1<=evM f (zbn s.q.g x):=by
 cases hb:bkO s f with
 |none=>rw[zdt hb] at h;cases h
 |some a=>
  obtain⟨g,l⟩:=a;have hbk:=zhc (kf:=fun _=>135000) hs.sb (fun m hm j hu=>by
   have h1:=hs.l m hm;refine h1.hb.mono (zjL ?_);have:=h1.u;have:=hs.q.g.u4;omega) (zFl _) hf.cq _ (zFl _) g l (by rw[Nat.sub_self,Nat.zero_add];exact hb)
  obtain⟨b,_,hcd⟩:=hbk.cd;rw[Nat.sub_self] at hcd;have hcd:Cd b b s.q.g.inp g:=hcd;obtain⟨y,m,h1,_⟩:=znO hs.sb hcd;rw[zc0 hb h1];have h2:=ztx hs hx hp hl (f:=g) (fun t ht=>by have:=hcd.var t ht;omega) (by rw[zbW h1]);rw[zbW h1] at h2;exact Rat.le_trans h2 (znU hs hx hp hl hf _ (zFl _) g l hb).1
end
def zgA(a b:Dom):Dom:=fun s f=>
 if (b s f).2.2=true/\((a s f).2.2=false\/(a s f).1<(b s f).1) then((b s f).1,(b s f).2.1,true) else a s f
theorem znQ{a b:Dom}{s:Sc}{f:Af}(h:(b s f).2.2=true)(h2:(a s f).2.2=false\/(a s f).1<(b s f).1):zgA a b s f=((b s f).1,(b s f).2.1,true):=if_pos ⟨h,h2⟩
theorem zlk{a b:Dom}{s:Sc}{f:Af}(h:¬((b s f).2.2=true/\((a s f).2.2=false\/(a s f).1<(b s f).1))):zgA a b s f=a s f:=if_neg h
theorem zAJ:∀j,bS KB j+5000<=KB j+15*j
 |0=>by show 0+5000<=5000*3^0+0;decide
 |j+1=>by
  have ih:=zAJ j;have h1:KB (j+1)=3*KB j:=by unfold KB;rw[zFA];omega
  simp only[bS];omega
theorem SOk.kb{s:Sc}(hs:SOk s):∀m∈s.lems,∀j:Nat,m.unit=(j:Int)->Hb m.v.q (KB j):=fun m hm j hj=>by
 have h:=(hs.l m hm).hb;rw[hj] at h;exact h
theorem zpv{n:Nat}(h:n<=4):bS KB n<=400060:=by
 have h1:=ztO KB h;have h2:=zAJ 4;have h3:KB 4=405000:=by decide
 omega
theorem zok{s:Sc}{f:Af}(h:(zb1 s f).2.2=true):∃g l,bkO s f=some (g,l):=by
 cases hb:bkO s f with
 |none=>rw[zdt hb] at h;cases h
 |some a=>exact⟨a.1,a.2,rfl⟩
theorem zm5:zfC zb1:=by
 intro s hs j f hj hf hb;obtain⟨g,l,h⟩:=zok hb;obtain⟨x,m,h1,h2⟩:=zwT hs.sb hs.kb (top:=j) (by omega) hf.cq h;rw[zc0 h h1];refine h2.hb.mono ?_;have h3:=zAJ j;have:=hs.q.g.u4;omega
theorem zlF{s:Sc}(hs:SOk s){f g:Af}{l:List Mu}(hf:FOk 3 (s.q.g.inp+s.q.g.us.length) f)(h:bkO s f=some (g,l)):∃x m,zlg s g=some (x,m)/\SyOk s 13 135001 KB s.q.g.us.length f x (zaS l m ((1:Int):Rat)):=
 zwT hs.sb hs.kb (zFl _) hf.cq h
theorem zuG{s:Sc}(hs:SOk s){f:Af}(hf:FOk 3 (s.q.g.inp+s.q.g.us.length) f):DerOk s 60000000 14 (zb1 s f).2.1:=by
 cases hb:bkO s f with
 |none=>rw[zdt hb];exact⟨fun m hm=>by simp at hm,trivial,fun m hm=>by simp at hm,by simp⟩
 |some a=>
  obtain⟨g,l⟩:=a;obtain⟨x,m,h1,h2⟩:=zlF hs hf hb;rw[zc0 hb h1];have hd:=h2.der;have h4:=zpv hs.q.g.u4;exact⟨hd.ok,hd.can,hd.bd.mono (by unfold bX;omega),zFr hd.len (by decide)⟩
theorem zuF{s:Sc}(hs:SOk s){f:Af}(hf:FOk 3 (s.q.g.inp+s.q.g.us.length) f)(h:(zb1 s f).2.2=true):zqM s f (zb1 s f).1 (zb1 s f).2.1:=by
 obtain⟨g,l,hb⟩:=zok h;obtain⟨x,m,h1,h2⟩:=zlF hs hf hb;rw[zc0 hb h1];exact h2.sum
theorem zwV:DomD zb1:=⟨zm5,fun s hs f hf=>zuG hs hf,fun s hs f hf h=>zuF hs hf h⟩
section
variable {a b:Dom}{s:Sc}{f:Af}
theorem zjj:(zgA a b s f=a s f)\/((b s f).2.2=true/\zgA a b s f=b s f):=by
 by_cases h:(b s f).2.2=true/\((a s f).2.2=false\/(a s f).1<(b s f).1)
 .refine .inr ⟨h.1,?_⟩;rw[znQ h.1 h.2];rcases hb:b s f with⟨x,l,o⟩;rw[hb] at h;show(x,l,true)=(x,l,o);rw[show o=true from h.1]
 .exact .inl (zlk h)
end
theorem zwa{a b:Dom}(ha:zfC a)(hb:zfC b):zfC (zgA a b):=fun s hs j f hj hf h=>by
 rcases zjj (a:=a) (b:=b) (s:=s) (f:=f) with e|⟨_,e⟩
 .rw[e] at h ⊢;exact ha s hs j f hj hf h
 .rw[e] at h ⊢;exact hb s hs j f hj hf h
theorem zAG{a b:Dom}(ha:DomD a)(hb:DomD b):DomD (zgA a b):=⟨zwa ha.ok hb.ok,fun s hs f hf=>by
 rcases zjj (a:=a) (b:=b) (s:=s) (f:=f) with e|⟨_,e⟩
 .rw[e];exact ha.der s hs f hf
 .rw[e];exact hb.der s hs f hf,fun s hs f hf h=>by
 rcases zjj (a:=a) (b:=b) (s:=s) (f:=f) with e|⟨_,e⟩
 .rw[e] at h ⊢;exact ha.sum s hs f hf h
 .rw[e] at h ⊢;exact hb.sum s hs f hf h⟩
def zbm(n:Nat):Dom:=if n=0 then zb9 else if n=1 then zb1 else zgA zb9 zb1
theorem zj2(n:Nat):DomD (zbm n):=by
 unfold zbm;repeat' split
 .exact zxT
 .exact zwV
 .exact zAG zxT zwV
theorem zwn{P:Program}{ops:Array Oper}{Q:Exit->Act->World->Prop}{w0:Frm}{A0:Foot}{N:Nat}{Γ:Gam}{H:Hp}{l:List Oper}(s:Nat){r n q:Nat}{ls:List Leaf}{x x':V}(hs:zby Γ s=some (D.v x))(hR:RowAt H r n q ls)
  (hx:subV (Leaf.own r n) (Leaf.rep (zas q ls)) x x') (h:Tl P ops Q w0 A0 N ((s,some (D.v x'))::Γ) H l):Tl P ops Q w0 A0 N Γ H l:=
 fun a w hSt=>let ⟨E,g⟩:=hSt;h a w ⟨E,g.viewS hs hR hx⟩
theorem zBW{s:Sc}{j:Nat}{p:Af}{c:Rat}(h:(zgf s j p c).2=true):zff s j p c=some ((zgf s j p c).1.1,(zgf s j p c).1.2.1,(zgf s j p c).1.2.2):=by
 cases e:zff s j p c with
 |none=>rw[zix e] at h;cases h
 |some x=>rw[zbI e]
theorem zrO{s:Sc}{j:Nat}{p:Af}{c:Rat}(h:(zgf s j p c).2=false):zff s j p c=none:=by
 cases e:zff s j p c with
 |none=>rfl
 |some x=>rw[zbI e] at h;cases h
theorem bkP_t{s:Sc}{f:Af}{l:List Mu}{j:Nat}(h:(bkP s f l j).2.2=true):bkS s (some (f,l)) j=some ((bkP s f l j).1,(bkP s f l j).2.1):=by
 cases e:bkS s (some (f,l)) j with
 |none=>rw[zlj e] at h;cases h
 |some x=>rw[zcj e]
theorem bkP_f{s:Sc}{f:Af}{l:List Mu}{j:Nat}(h:(bkP s f l j).2.2=false):bkS s (some (f,l)) j=none:=by
 cases e:bkS s (some (f,l)) j with
 |none=>rfl
 |some x=>rw[zcj e] at h;cases h
def zbG(s:Sc)(f:Af):Af×List Mu×Bool:=match bkO s f with|some x=>(x.1,x.2,true)|none=>(fZ,[],false)
section
variable {s:Sc}{f g:Af}{l:List Mu}
theorem zgC(h:bkO s f=some (g,l)):zbG s f=(g,l,true):=by unfold zbG;rw[h]
theorem zgD(h:bkO s f=none):zbG s f=(fZ,[],false):=by unfold zbG;rw[h]
theorem zwc(h:(zbG s f).2.2=true):bkO s f=some ((zbG s f).1,(zbG s f).2.1):=by
 cases e:bkO s f with
 |none=>rw[zgD e] at h;cases h
 |some x=>obtain⟨a,b⟩:=x;rw[zgC e]
theorem zEL(h:(zbG s f).2.2=false):bkO s f=none:=by
 cases e:bkO s f with
 |none=>rfl
 |some x=>obtain⟨a,b⟩:=x;rw[zgC e] at h;cases h
end
theorem bS_ge(kf:Nat->Nat){j top:Nat}(h:j<top):2*kf j+15<=bS kf top:=by
 have:=ztO kf (show j+1<=top from h);simp only[bS] at this;omega
theorem zta(l:List Mu)(r:Rw)(c:Rat):zcA (l++[⟨r,qOf c⟩])=zb2 (zcA l) r c:=by
 rw[zk4];simp only[List.foldl_cons,List.foldl_nil,zah]
theorem zp7(a:List Mu):∀b:List Mu,zaS a b ((1:Int):Rat)=b.foldl (fun a m=>zb2 a m.r m.c.q) a:=fun b=>by
 unfold zaS;congr 1;funext a m;show zb2 a m.r (m.c.q*1)=_;rw[Rat.mul_one]
theorem ztb{l:List Mu}(h:CanM l):zcA l=l:=zlc (zpi fun m hm=>⟨(h.pos m hm).2,Rat.le_of_lt (h.pos m hm).1⟩) h fun r=>zxK _ l
theorem zvT{a b:List Mu}(h:CanM a):zcA (a++b)=zaS a b ((1:Int):Rat):=by rw[zk4,ztb h,zp7]
theorem zAq{a b:List Mu}(ha:CanM a)(hb:CanM b):zju (a++b):=fun m hm=>by
 rcases zFC.1 hm with hm|hm
 .exact⟨(ha.pos m hm).2,Rat.le_of_lt (ha.pos m hm).1⟩
 .exact⟨(hb.pos m hm).2,Rat.le_of_lt (hb.pos m hm).1⟩
theorem zCw{B C D:Nat}{a b:List Mu}(ha:MB B a)(hb:MB C b)(h1:B<=D)(h2:C<=D):MB D (a++b):=fun m hm=>by
 rcases zFC.1 hm with hm|hm
 .exact(ha m hm).mono h1
 .exact(hb m hm).mono h2
structure BkA(s:Sc)(kf:Nat->Nat)(d:Nat)(f:Af):Prop where
 sb:SB 135001 s
 kb:∀m∈s.lems,∀j:Nat,m.unit=(j:Int)->Hb m.v.q (kf j)
 cd:Cd d d (s.q.g.inp+s.q.g.us.length) f
 lim:d+bS kf s.q.g.us.length<=600000000
section
variable {s:Sc}{kf:Nat->Nat}{d n:Nat}{f g:Af}{l out:List Mu}
structure BkQ(s:Sc)(f:Af)(n:Nat)(g:Af)(l:List Mu):Prop where
 le:n<=s.q.g.us.length
 run:bkN s f (s.q.g.us.length-n)=some (g,l)
theorem BkQ.start:BkQ s f s.q.g.us.length f []:=⟨zFl _,by rw[Nat.sub_self];rfl⟩
theorem BkQ.i(h:BkQ s f n g l)(ha:BkA s kf d f):BkI s d 135001 kf s.q.g.us.length f n g l:=by
 have hle:=h.le;have:=zhc ha.sb ha.kb (zFl _) ha.cd (s.q.g.us.length-n) (by omega) g l (by rw[Nat.sub_self,Nat.zero_add];exact h.run)
 rwa [show s.q.g.us.length-(s.q.g.us.length-n)=n by omega] at this
theorem BkQ.cb(h:BkQ s f n g l)(ha:BkA s kf d f):∃b,b<=600000000/\Cd b b (s.q.g.inp+n) g:=by
 obtain⟨b,h1,h2⟩:=(h.i ha).cd;have:=ha.lim;exact⟨b,by omega,h2⟩
theorem BkQ.fok(h:BkQ s f n g l)(ha:BkA s kf d f):FOk 600000000 (s.q.g.inp+n) g:=by
 obtain⟨b,h1,h2⟩:=h.cb ha;exact h2.fok.mono (by omega) (zFl _)
theorem BkQ.fl(h:BkQ s f n g l)(ha:BkA s kf d f):FL 600000001 (s.q.g.inp+s.q.g.us.length) g:=((h.fok ha).mono (zFl _) (by have:=h.le;omega)).fl
theorem BkQ.bd(h:BkQ s f n g l)(ha:BkA s kf d f):MB 2500000000 l/\l.length<=4:=by
 have h1:=(h.i ha).bd;have h2:=(h.i ha).len;have h3:=ha.sb.q.g.u4;have h4:=ha.lim;refine⟨h1.mono ?_,by omega⟩;have hX:bX d 135001 kf s.q.g.us.length<=601000000:=by show d+1+bS kf s.q.g.us.length+5*135001+12<=_;omega
 exact zFr (Nat.mul_le_mul (show s.q.g.us.length-n<=4 by omega) hX) (by decide)
theorem BkQ.idx(h:BkQ s f n g l)(h0:0<n):bkN s f (s.q.g.us.length-(n-1))=bkS s (some (g,l)) (n-1):=by
 have hle:=h.le;rw[show s.q.g.us.length-(n-1)=s.q.g.us.length-n+1 by omega,zft,h.run,show s.q.g.us.length-1-(s.q.g.us.length-n)=n-1 by omega]
theorem BkQ.next(h:BkQ s f n g l)(h0:0<n)(hb:(bkP s g l (n-1)).2.2=true):BkQ s f (n-1) (bkP s g l (n-1)).1 (bkP s g l (n-1)).2.1:=
 ⟨by have:=h.le;omega,by rw[h.idx h0,bkP_t hb]⟩
theorem BkQ.stop(h:BkQ s f n g l)(h0:0<n)(hb:bkS s (some (g,l)) (n-1)=none):bkO s f=none:=
 zv9 (n:=s.q.g.us.length-(n-1)) (by omega) (by rw[h.idx h0,hb])
theorem BkQ.fin(h:BkQ s f 0 g l):bkO s f=some (g,l):=h.run
structure BkR(s:Sc)(f:Af)(n:Nat)(g:Af)(out:List Mu):Prop where
 q:BkQ s f n g (zcA out)
 cof:zju out
 mb:MB 700000000 out
 len:out.length+n<=s.q.g.us.length
theorem BkR.start:BkR s f s.q.g.us.length f []:=⟨BkQ.start,fun m hm=>by simp at hm,fun m hm=>by simp at hm,by simp⟩
theorem BkR.zero{p:Af}(h:BkR s f n g out)(h0:0<n)(hp:s.q.g.us[n-1]?=some p)(hc:co g.ts (s.q.g.inp+(n-1))=0):BkR s f (n-1) g out:=
 ⟨⟨by have:=h.q.le;omega,by rw[h.q.idx h0,zfs hp hc]⟩,h.cof,h.mb,by have:=h.len;omega⟩
structure RpB(s:Sc)(b:Af)(k:Rat):Prop where
 fl:FL 700000000 (s.q.g.inp+s.q.g.us.length) b
 pos:0<k
 br:Br k 700000000
theorem BkR.rp{p b:Af}{r:Rw}{k:Rat}(h:BkR s f n g out)(ha:BkA s kf d f)(h0:0<n)(hp:s.q.g.us[n-1]?=some p)(hc:co g.ts (s.q.g.inp+(n-1))≠0)(hr:zff s (n-1) p (co g.ts (s.q.g.inp+(n-1)))=some (b,r,k)):RpB s b k:=by
 have hle:=h.q.le;have hg:=h.q.fok ha;have hlim:=ha.lim;have hb2:=bS_ge kf (show n-1<s.q.g.us.length by omega);haveI hcb:Br (co g.ts (s.q.g.inp+(n-1))) 600000001:=by
  obtain⟨t,h1,h2⟩:=zkg hc;rw[<-h2,zfH hg.can h1];exact(hg.bd t h1).br
 have hro:=zw2 (C:=600000001) ha.sb hp hc hr;have hcd:=(zrN ha.sb.q (fun m hm hu=>ha.kb m hm (n-1) hu) hp hr).fok;exact⟨((hcd.mono (c:=600000000) (by omega) (show _<=s.q.g.inp+s.q.g.us.length by omega)).fl).mono (by omega) (zFl _),hro.pos,hro.br.mono (by omega)⟩
theorem BkR.step{p b:Af}{r:Rw}{k:Rat}(h:BkR s f n g out)(h0:0<n)(hp:s.q.g.us[n-1]?=some p)(hc:co g.ts (s.q.g.inp+(n-1))≠0)(hr:zff s (n-1) p (co g.ts (s.q.g.inp+(n-1)))=some (b,r,k))(hb:RpB s b k) :
  BkR s f (n-1) (zoo g (s.q.g.inp+(n-1)) b) (out++[⟨r,qOf k⟩]):=by
 refine⟨⟨by have:=h.q.le;omega,by rw[h.q.idx h0,zcb hp hc hr,zta]⟩,fun m hm=>?_,fun m hm=>?_,by have:=h.len;rw[zFx,List.length_singleton];omega⟩
 .rcases zFC.1 hm with hm|hm
  .exact h.cof m hm
  .rw[List.mem_singleton] at hm;rw[hm];exact⟨by rw[zah],by rw[zah];exact Rat.le_of_lt hb.pos⟩
 .rcases zFC.1 hm with hm|hm
  .exact h.mb m hm
  .rw[List.mem_singleton] at hm;rw[hm];haveI:=hb.br;exact Fq.of
theorem BkR.stop{p:Af}(h:BkR s f n g out)(h0:0<n)(hp:s.q.g.us[n-1]?=some p)(hc:co g.ts (s.q.g.inp+(n-1))≠0)(hr:zff s (n-1) p (co g.ts (s.q.g.inp+(n-1)))=none):bkO s f=none:=
 h.q.stop h0 (zgy hp hc hr)
structure BkF(s:Sc)(f g:Af)(l:List Mu):Prop where
 fok:FOk 600000000 s.q.g.inp g
 can:CanM l
 mb:MB 2500000000 l
 len:l.length<=4
theorem znS(ha:BkA s kf d f)(h:bkO s f=some (g,l)):BkF s f g l:=by
 have hq:BkQ s f 0 g l:=⟨zFn _,h⟩;exact⟨hq.fok ha,(hq.i ha).can,(hq.bd ha).1,(hq.bd ha).2⟩
theorem znT(ha:BkA s kf d f)(h:bkO s f=some (g,l)):(zb9 s g).2.2=true/\zb1 s f=((zb9 s g).1,zaS l (zb9 s g).2.1 ((1:Int):Rat),true):=by
 have hq:BkQ s f 0 g l:=⟨zFn _,h⟩;obtain⟨b,hb,hcd⟩:=hq.cb ha;obtain⟨x,m,h1,_⟩:=znO ha.sb (show Cd b b s.q.g.inp g from hcd);rw[zbW h1];exact⟨rfl,zc0 h h1⟩
theorem zv8(ha:BkA s kf d f):Br (zb9 s f).1 5000000000:=by
 have h:=ha.lim;have hf:=ha.cd.fok;exact(ztz ha.sb (hf.mono (c:=600000000) (by omega) (zFl _)).fl).mono (by omega)
theorem ztN(ha:BkA s kf d f)(h:bkO s f=some (g,l)):Br (zb9 s g).1 5000000000:=by
 have hf:=(znS ha h).fok;exact(ztz ha.sb (hf.mono (zFl _) (show _<=s.q.g.inp+s.q.g.us.length by omega)).fl).mono (by omega)
theorem zyl(ha:BkA s kf d f):Br (zb1 s f).1 5000000000:=by
 cases h:bkO s f with
 |none=>rw[zdt h];exact Br.zero.mono (zFn _)
 |some a=>obtain⟨g,l⟩:=a;rw[(znT ha h).2];exact ztN ha h
theorem zty(h:(zb9 s f).2.2=false):zb9 s f=(0,[],false):=by
 unfold zb9 at *;split at h
 .cases h
 .rfl
theorem zrc(h:(zb1 s f).2.2=false):zb1 s f=(0,[],false):=by
 unfold zb1 at *;split at h
 .cases h
 .rfl
theorem zEE(h:(zb9 s f).2.2=false):zgA zb9 zb1 s f=zb1 s f:=by
 cases e:(zb1 s f).2.2 with
 |false=>rw[zlk (fun h=>by rw[e] at h;cases h.1),zty h,zrc e]
 |true=>
  rw[znQ e (.inl h)];rcases hb:zb1 s f with⟨x,l,o⟩;rw[hb] at e;rw[show o=true from e]
theorem zAE(h2:(zb1 s f).2.2=false):zgA zb9 zb1 s f=zb9 s f:=zlk (fun e=>by rw[h2] at e;cases e.1)
theorem zAD(h:(zb9 s f).2.2=true)(h2:(zb1 s f).1<=(zb9 s f).1):zgA zb9 zb1 s f=zb9 s f:=
 zlk (fun e=>e.2.elim (fun e=>by rw[e] at h;cases h) (fun e=>Rat.not_le.2 e h2))
theorem zAC(h:(zb1 s f).2.2=true)(h2:¬(zb1 s f).1<=(zb9 s f).1):zgA zb9 zb1 s f=zb1 s f:=by
 rw[znQ h (.inr (Rat.not_le.1 h2))];rcases hb:zb1 s f with⟨x,l,o⟩;rw[hb] at h;rw[show o=true from h]
theorem zCj{n:Nat}(h:n=0):zbm n=zb9:=if_pos h
theorem zCi{n:Nat}(h:n≠0)(h1:n≠2)(h2:n<=2):zbm n=zb1:=by unfold zbm;rw[if_neg h,if_pos (by omega)]
theorem zoJ{n:Nat}(h:n=2):zbm n=zgA zb9 zb1:=by unfold zbm;rw[if_neg (by omega),if_neg (by omega)]
theorem zCh(n:Nat):zbm n=zb9\/zbm n=zb1\/zbm n=zgA zb9 zb1:=by
 unfold zbm;split
 .exact .inl rfl
 .split
  .exact .inr (.inl rfl)
  .exact .inr (.inr rfl)
theorem zCg(n:Nat)(h:(zbm n s f).2.2=false):zbm n s f=(0,[],false):=by
 rcases zCh n with e|e|e
 .rw[e] at h ⊢;exact zty h
 .rw[e] at h ⊢;exact zrc h
 .rw[e] at h ⊢;rcases zjj (a:=zb9) (b:=zb1) (s:=s) (f:=f) with e|⟨_,e⟩
  .rw[e] at h ⊢;exact zty h
  .rw[e] at h ⊢;exact zrc h
end
theorem zoI(n:Nat){s:Sc}(hs:SOk s){f:Af}{j:Nat}(hj:j<s.q.g.us.length)(hf:FOk 3 (s.q.g.inp+j) f):Hb (zbm n s f).1 (KB j-4200):=by
 cases h:(zbm n s f).2.2 with
 |false=>rw[zCg n h];exact Hb.z
 |true=>exact(zj2 n).ok s hs j f hj hf h
theorem zji{s:Sc}(hs:SOk s){f:Af}(hf:FOk 3 (s.q.g.inp+s.q.g.us.length) f):BkA s KB 13 f:=
 ⟨hs.sb,hs.kb,hf.cq,by have:=zpv hs.q.g.u4;omega⟩
end Rc
namespace Go.Proofs.YtjeiacoegppoiaaGreatDoor
open Go Go.RowKit Rc
set_option maxHeartbeats 2000000 in
theorem zxY(s:Sc)(f:Af){kf:Nat->Nat}{d:Nat}(ha:BkA s kf d f):CtrT Tryz.prog 15 109 7 (El.all muE ((zbG s f).2.1)) [afV (zbG s f).1] [V.one (Leaf.val (.bool (zbG s f).2.2))] [scV s,afV f]:=by
 refine CtrT.of_body Tryz.func15 rfl Tryz.ntmps15 (zFo rfl) (fun w0 A0 hX=>?_);refine qc_ ?_;have hs:=ha.sb;have hB:=hs.B;have hq:=hs.q;have hd:=hs.d;have hpl:=hs.pl;have hl:=hs.ll;have hg:=hq.g;have hr:=hq.r;have hlo:=hr.lo;have hhi:=hr.hi;have h1:=hg.i1;have h2:=hg.i3;have h3:=hg.u4;have h4:=hg.o1;have h5:=hg.o3;have hfd:=ha.cd.fok;have hlim:=ha.lim;refine zc 5 rfl (tq_ rfl (zbC rfl (rfl)) (zl 5 rfl (dr_ 0 [] [] (dz 2 rfl (kc_ zFe rfl (zhT s.q hq) (dz 6 rfl (kc_ fn50 rfl (zsN s.q.g (by assumption)) (kc_ zBq rfl (zj5 f hfd (by omega) (s.q.g.inp+s.q.g.us.length) (zFl _) (by omega)) (dz 2 rfl ?_)))))))));refine zae (za 5 rfl (nz_ [so 2 (D.ptr 0 0),so 3 (D.ptr 1 0),so 4 (D.ptr 2 0)] [hb_ 43 (scL s),hb_ 38 (afL f),hb_ 38 [El.row tmE ([]),Leaf.val (.bool false),zaf ([]),zaf ([])]] rfl rfl (zc 10 rfl (tq_ rfl (zbC rfl (rfl)) (zl 4 rfl (zdl 8 109 7 rfl rfl (zc 3 rfl (tq_ rfl (jln rfl) ?_))))))));refine tq_ rfl (zaQ rfl rfl rfl (r:=(((s.q.g.us.length:Nat):Int)-1)) (w64 (by omega) (by omega) (by omega))) (zl 4 rfl ?_);refine zbo (fun m Γ H=>∃(n:Nat) (v_:Nat) (g:Af) (out:List Mu),n=m/\Γ=[(2,some (D.ptr 0 0)),(3,some (D.ptr 1 0)),(4,some (D.ptr 2 0)),(7,some (D.ptr 3 0)),(8,some (D.v (V.one (Leaf.own 4 v_)))),(9,some (D.val (.int .i64 ((n:Int)-1))))]/\H=[hb_ 43 (scL s),hb_ 38 (afL g),hb_ 38 [El.row tmE ([]),Leaf.val (.bool false),zaf ([]),zaf ([])],hb_ 28 [Leaf.val (.int .i64 ((s.q.g.inp:Nat):Int)),El.row afE s.q.g.us,El.row afE s.q.g.os],hgr 109 7 muE out v_]/\BkR s f n g out) ⟨s.q.g.us.length,0,f,[],rfl,rfl,rfl,BkR.start⟩ rfl ?_;rintro m Γ H ⟨n,v_,g,out,rfl,rfl,rfl,hR⟩;refine zc 2 rfl ?_;refine nz_ [so 2 (D.ptr 0 0),so 3 (D.ptr 1 0),so 4 (D.ptr 2 0),so 7 (D.ptr 3 0),so 8 (D.v (V.one (Leaf.own 4 v_))),so 9 (D.val (.int .i64 ((n:Int)-1)))] [hb_ 43 (scL s),hb_ 38 (afL g),hb_ 38 [El.row tmE ([]),Leaf.val (.bool false),zaf ([]),zaf ([])],hb_ 28 [Leaf.val (.int .i64 ((s.q.g.inp:Nat):Int)),El.row afE s.q.g.us,El.row afE s.q.g.os],hgr 109 7 muE out v_] rfl rfl ?_;refine zc 2 rfl ?_;by_cases h0:0<n
 .refine tq_ rfl (geT rfl) (zl 8 rfl ?_);have hnl:=hR.q.le;obtain⟨p,hp⟩:∃p,s.q.g.us[n-1]?=some p:=⟨_,zFh (by omega)⟩;have hfg:=hR.q.fl ha;haveI:=hfg.fm (by omega);haveI:=hfg.cb;haveI hcb:Br (co g.ts (s.q.g.inp+(n-1))) 600000001:=zqw hfg.bd _;refine zc 4 rfl (tq_ rfl (jad (s.q.g.inp+(n-1)) rfl) (zl 4 rfl (nz_ [so 2 _,so 3 _,so 4 _,so 7 _,so 8 _,so 9 _,so 10 (D.val (.int .i64 ((s.q.g.inp+(n-1):Nat):Int)))] [_,_,_,_,_] rfl rfl (zc 3 rfl (tc_ fn51 rfl (zEB g hfg (by omega) (by omega) (s.q.g.inp+(n-1)) (by omega)) (zl 8 rfl ?_))))));refine tc_ zjF rfl (zd4 (qOf ((co g.ts (s.q.g.inp+(n-1))))) ((co g.ts (s.q.g.inp+(n-1)))) (zah _) (Br.use (by omega))) ?_;by_cases hc:(co g.ts (s.q.g.inp+(n-1)))=0
  .refine tq_ rfl (eqT rfl (by rw[hc];rfl)) (zl 7 rfl (nf_ [5] [so 2 _,so 3 _,so 4 _,so 7 _,so 8 _,so 9 _] [_,_,_,_,_,none] rfl rfl rfl (zc 2 rfl (tq_ rfl (zaQ rfl rfl rfl (r:=(((n-1:Nat):Int)-1)) (w64 (by omega) (by omega) (by omega))) (zl 2 rfl (zaJ 5 rfl ?_))))));exact nx_ ⟨n-1,v_,g,out,rfl,rfl,rfl,hR.zero h0 hp hc⟩ rfl
  .refine tq_ rfl (eqF rfl (zio hc)) (zl 9 rfl (eq_ (D.val (.int .i64 (((n-1):Nat):Int))) rfl (congrArg (fun z=>D.val (.int .i64 z)) (show((n:Int)-1)=(((n-1):Nat):Int) by omega)) (zl 1 rfl (tc_ fn53 rfl (rpl_p s hs (n-1) p hp (co g.ts (s.q.g.inp+(n-1))) (by omega)) (zl 10 rfl ?_)))));refine nf_ [5] [so 2 _,so 3 _,so 4 _,so 7 _,so 8 _,so 9 _,so 10 _,so 12 (D.ptr 6 0),so 13 (D.bool ((zgf s (n-1) p (co g.ts (s.q.g.inp+(n-1)))).2))] [_,_,_,_,_,none,hb_ 118 [El.row tmE ((zgf s (n-1) p (co g.ts (s.q.g.inp+(n-1)))).1.1.ts),Leaf.val (.bool (zaP ((zgf s (n-1) p (co g.ts (s.q.g.inp+(n-1)))).1.1.c))),zaf (zaa (zav ((zgf s (n-1) p (co g.ts (s.q.g.inp+(n-1)))).1.1.c))),zaf (zaa (zaz ((zgf s (n-1) p (co g.ts (s.q.g.inp+(n-1)))).1.1.c))),Leaf.val (.int .i64 ((zgf s (n-1) p (co g.ts (s.q.g.inp+(n-1)))).1.2.1.kind)),Leaf.val (.int .i64 ((zgf s (n-1) p (co g.ts (s.q.g.inp+(n-1)))).1.2.1.idx)),Leaf.val (.int .i64 ((zgf s (n-1) p (co g.ts (s.q.g.inp+(n-1)))).1.2.1.lo)),Leaf.val (.int .i64 ((zgf s (n-1) p (co g.ts (s.q.g.inp+(n-1)))).1.2.1.hi)),Leaf.val (.bool (zaP ((zgf s (n-1) p (co g.ts (s.q.g.inp+(n-1)))).1.2.2))),zaf (zaa (zav ((zgf s (n-1) p (co g.ts (s.q.g.inp+(n-1)))).1.2.2))),zaf (zaa (zaz ((zgf s (n-1) p (co g.ts (s.q.g.inp+(n-1)))).1.2.2)))]] rfl rfl rfl ?_;refine zc 5 rfl ?_;refine zap rfl (fun hok=>?_) (fun hok=>?_)
   .refine zc 4 rfl (tq_ rfl (zbC rfl (rfl)) (zl 3 rfl ?_));exact zpB (fun _ _ h=>h) hX rfl (rA zkr rfl rfl rfl rfl) (rowOk.nil rfl (by rw[zgD (hR.stop h0 hp hc (zrO (by simpa using hok)))] <;> rfl)) rfl (by rw[zgD (hR.stop h0 hp hc (zrO (by simpa using hok)))];exact afZ.symm) (by rw[zgD (hR.stop h0 hp hc (zrO (by simpa using hok)))])
   .refine zc 3 rfl ?_;have hrm:=zBW (s:=s) (j:=(n-1)) (p:=p) (c:=(co g.ts (s.q.g.inp+(n-1)))) (by simpa using hok);have hrb:=hR.rp ha h0 hp hc hrm;have hol:=hR.len;have hfl2:=hrb.fl;haveI:=hrb.br;refine zc 5 rfl (tc_ fn54 rfl (zym g (zgf s (n-1) p (co g.ts (s.q.g.inp+(n-1)))).1.1 hfg hfl2 (by omega) (by omega) (by omega) (s.q.g.inp+(n-1)) (by omega)) (zl 3 rfl (nz_ [so 2 _,so 3 _,so 4 _,so 7 _,so 8 _,so 9 _,so 12 _] [_,hb_ 38 (afL (zoo g (s.q.g.inp+(n-1)) (zgf s (n-1) p (co g.ts (s.q.g.inp+(n-1)))).1.1)),_,_,_,none,_] rfl rfl (zc 7 rfl ?_))));refine te_ rfl (zad rfl zcH zbi zcZ rfl (by decide) (by decide) rfl (by decide) rfl) (te_ rfl (jap (e:=muE) (⟨(zgf s (n-1) p (co g.ts (s.q.g.inp+(n-1)))).1.2.1,qOf (zgf s (n-1) p (co g.ts (s.q.g.inp+(n-1)))).1.2.2⟩) rfl rfl) (zl 4 rfl ?_));refine nf_ [6] [so 2 _,so 3 _,so 4 _,so 7 _,so 8 (D.v (V.one (Leaf.own 4 (v_+1)))),so 9 _] [_,_,_,_,hgr 109 7 muE (out++[⟨(zgf s (n-1) p (co g.ts (s.q.g.inp+(n-1)))).1.2.1,qOf (zgf s (n-1) p (co g.ts (s.q.g.inp+(n-1)))).1.2.2⟩]) (v_+1),none,none] rfl rfl rfl (zc 2 rfl ?_);refine tq_ rfl (zaQ rfl rfl rfl (r:=(((n-1:Nat):Int)-1)) (w64 (by omega) (by omega) (by omega))) (zl 2 rfl (zaJ 5 rfl ?_));exact nx_ ⟨n-1,_,_,_,rfl,rfl,rfl,hR.step h0 hp hc hrm hrb⟩ rfl
 .refine tq_ rfl (geF rfl) (zl 9 rfl ?_);have hn0:n=0:=by omega
  subst hn0;have hcof:=hR.cof;have hmb:=hR.mb;have hlen:=hR.len;have hbk:=zgC hR.q.fin;refine zc 1 rfl (tq_ rfl (zd6 (r:=4) (n:=v_) (x:=V.one (Leaf.own 4 v_)) (x':=V.one (El.row muE out)) (zhe rfl rfl) (RowAt.ofE muE out rfl (by decide)) (by decide) (.inr ⟨rfl,rfl⟩)) (zjn (te_ rfl (zgJ (i:=5) rfl fn55 rfl (znE out (by assumption) (by assumption) (by omega) (by omega)) (by decide) rfl) (zl 7 rfl ?_))));refine nf_ [0,3] [so 3 _,so 4 _,so 8 (D.v (V.one (Leaf.own 5 0)))] [none,_,_,none,_,hgr 109 7 muE (zcA out) 0] rfl rfl rfl (zc 8 rfl ?_);exact zpB (fun _ _ h=>h) hX rfl (rA zkr rfl rfl rfl rfl) (rowOk.own rfl rfl (by rw[hbk])) rfl (by rw[hbk]) (by rw[hbk])
set_option maxHeartbeats 2000000 in
theorem zEM(s:Sc)(f:Af){kf:Nat->Nat}{d:Nat}(ha:BkA s kf d f):Ctr Tryz.prog 16 [scV s,afV f] (R.tup [afV (zbG s f).1,V.one (El.row muE (zbG s f).2.1),V.one (Leaf.val (.bool (zbG s f).2.2))]):=by
 refine bd_ Tryz.func16 Tryz.ntmps16 rfl (fun w0 A0=>?_);have hs:=ha.sb;have hB:=hs.B;have hq:=hs.q;have hd:=hs.d;have hpl:=hs.pl;have hl:=hs.ll;have hg:=hq.g;have hr:=hq.r;have hlo:=hr.lo;have hhi:=hr.hi;have h1:=hg.i1;have h2:=hg.i3;have h3:=hg.u4;have h4:=hg.o1;have h5:=hg.o3;have hfd:=ha.cd.fok;have hlim:=ha.lim;refine zc 11 rfl (dr_ 0 [] [] (dz 2 rfl (kc_ zvB rfl (zdi s.q hq) (dz 6 rfl (kc_ zDA rfl (zlA s.q.g (by assumption)) (kc_ zBr rfl (zeS f hfd (by omega) (s.q.g.inp+s.q.g.us.length) (zFl _) (by omega)) (dz 2 rfl (zae (za 5 rfl ?_)))))))));refine nz_ [so 2 (D.ptr 0 0),so 3 _,so 4 _] [hb_ 43 (scL s),hb_ 38 (afL f),_] rfl rfl (zc 16 rfl (tq_ rfl (jln rfl) (tq_ rfl (zaQ rfl rfl rfl (r:=(((s.q.g.us.length:Nat):Int)-1)) (w64 (by omega) (by omega) (by omega))) (zl 4 rfl ?_))));refine zbo (fun m Γ H=>∃(n:Nat) (g:Af) (l:List Mu),n=m/\Γ=[(2,some (D.ptr 0 0)),(3,some (D.ptr 1 0)),(4,some (D.ptr 2 0)),(7,some (D.v (V.one (El.row muE l)))),(9,some (D.val (.int .i64 ((n:Int)-1))))]/\H=[hb_ 43 (scL s),hb_ 38 (afL g),hb_ 38 [El.row tmE ([]),Leaf.val (.bool false),zaf ([]),zaf ([])]]/\BkQ s f n g l) ⟨s.q.g.us.length,f,[],rfl,rfl,rfl,BkQ.start⟩ rfl ?_;rintro m Γ H ⟨n,g,l,rfl,rfl,rfl,hR⟩;refine zc 2 rfl (nz_ [so 2 (D.ptr 0 0),so 3 (D.ptr 1 0),so 4 (D.ptr 2 0),so 7 (D.v (V.one (El.row muE l))),so 9 (D.val (.int .i64 ((n:Int)-1)))] [hb_ 43 (scL s),hb_ 38 (afL g),hb_ 38 [El.row tmE ([]),Leaf.val (.bool false),zaf ([]),zaf ([])]] rfl rfl (zc 2 rfl ?_));by_cases h0:0<n
 .refine tq_ rfl (geT rfl) (zl 8 rfl ?_);have hnl:=hR.le;obtain⟨p,hp⟩:∃p,s.q.g.us[n-1]?=some p:=⟨_,zFh (by omega)⟩;have hfg:=hR.fl ha;haveI:=hfg.fm (by omega);haveI:=hfg.cb;obtain⟨hMl,hll⟩:=hR.bd ha;refine zc 5 rfl (eq_ (D.val (.int .i64 (((n-1):Nat):Int))) rfl (congrArg (fun z=>D.val (.int .i64 z)) (show((n:Int)-1)=(((n-1):Nat):Int) by omega)) (tc_ fn57 rfl (rpl_r s hs (n-1) p hp g hfg (by omega) l hMl (by omega) (by omega)) (zl 10 rfl ?_)));refine nz_ [so 2 _,so 3 _,so 4 _,so 7 (D.v (V.one (El.row muE ((bkP s g l (n-1)).2.1)))),so 8 (D.bool ((bkP s g l (n-1)).2.2)),so 9 _] [_,hb_ 38 (afL ((bkP s g l (n-1)).1)),_] rfl rfl (zc 5 rfl ?_);refine zap rfl (fun hok=>?_) (fun hok=>?_)
  .refine zc 8 rfl ?_;exact r3_ hq_ rfl (by rw[zgD (hR.stop h0 (bkP_f (by simpa using hok)))];show _=R.tup [afV fZ,V.one (El.row muE []),_];rw[afZ] <;> rfl)
  .refine zc 5 rfl (tq_ rfl (zaQ rfl rfl rfl (r:=(((n-1:Nat):Int)-1)) (w64 (by omega) (by omega) (by omega))) (zl 2 rfl ?_));exact nx_ ⟨n-1,_,_,rfl,rfl,rfl,hR.next h0 (by simpa using hok)⟩ rfl
 .refine tq_ rfl (geF rfl) (zl 9 rfl ?_);have hn0:n=0:=by omega
  subst hn0;refine nf_ [0] [so 3 _,so 4 _,so 7 _] [none,_,_] rfl rfl rfl (zc 8 rfl ?_);exact r3_ hq_ rfl (by rw[zgC hR.fin])
set_option maxHeartbeats 2000000 in
theorem zra(s:Sc)(f:Af){kf:Nat->Nat}{d:Nat}(ha:BkA s kf d f):Ctr Tryz.prog 19 [V.agg [],scV s,afV f] (R.tup [qV (qOf (zb1 s f).1),V.one (El.row muE (zb1 s f).2.1),V.one (Leaf.val (.bool (zb1 s f).2.2))]):=by
 refine bd_ Tryz.func19 Tryz.ntmps19 rfl (fun w0 A0=>?_);have hs:=ha.sb;have hB:=hs.B;have hq:=hs.q;have hd:=hs.d;have hpl:=hs.pl;have hl:=hs.ll;have hg:=hq.g;have hr:=hq.r;have hlo:=hr.lo;have hhi:=hr.hi;have h1:=hg.i1;have h2:=hg.i3;have h3:=hg.u4;have h4:=hg.o1;have h5:=hg.o3;refine zc 14 rfl (zjn (te_ rfl (zgJ (i:=4) rfl fn15 rfl (zxY s f ha) (by decide) rfl) (zl 11 rfl ?_)));refine nz_ [so 3 (D.ptr 0 0),so 4 (D.ptr 1 0),so 5 (D.ptr 2 0),so 6 (D.ptr 3 0),so 9 (D.v (V.one (Leaf.own 4 0))),so 10 (D.bool ((zbG s f).2.2))] [hb_ 56 [],hb_ 43 (scL s),hb_ 38 (afL ((zbG s f).1)),hb_ 36 [Leaf.val (.bool false),zaf ([]),zaf ([])],hgr 109 7 muE ((zbG s f).2.1) 0] rfl rfl (zc 5 rfl ?_);refine zap rfl (fun hok=>?_) (fun hok=>?_)
 .refine zc 8 rfl ?_;exact r3_ hq_ rfl (by rw[zdt (zEL (by simpa using hok))];show _=R.tup [qV (qOf 0),_,_];rw[<-zc8] <;> rfl)
 .refine zc 3 rfl ?_;have hbk:=zwc (s:=s) (f:=f) (by simpa using hok);have hbf:=znS ha hbk;obtain⟨hbx,hsy⟩:=znT ha hbk;have hgf:FOk 600000000 (s.q.g.inp+s.q.g.us.length) (zbG s f).1:=hbf.fok.mono (zFl _) (by omega);haveI:=ztN ha hbk;have hbd:=zlh hs hgf.fl;have hl1:=hbf.len;have hl2:=hbd.len;have hmA:=hbf.mb;have hmB:=hbd.bd;have hcof:zju ((zbG s f).2.1++(zb9 s (zbG s f).1).2.1):=zAq hbf.can hbd.can;have hmb:MB 9000000000 ((zbG s f).2.1++(zb9 s (zbG s f).1).2.1):=zCw hmA hmB (by omega) (by omega);have hcl:((zbG s f).2.1++(zb9 s (zbG s f).1).2.1).length<=19:=by rw[zFx];omega
  refine zc 1 rfl (tq_ rfl (zlq (i:=0) rfl rfl rfl (by decide) rfl (by kernel_rfl) (by kernel_rfl)) (tq_ rfl (zww (i:=0) rfl rfl rfl (by decide) ty54 rfl (zFo rfl) rfl) (zl 2 rfl (tc_ fn58 rfl (box_p s hs (zbG s f).1 hgf (by omega)) (zl 4 rfl (is_ true rfl (hbx) (zl 8 rfl ?_)))))));refine nf_ [0,1,2] [so 6 _,so 9 _,so 10 (D.bool true),so 11 (D.ptr 5 0),so 12 (D.v (V.one (El.row muE ((zb9 s ((zbG s f).1)).2.1))))] [none,none,none,_,_,hb_ 36 (qL ((zb9 s ((zbG s f).1)).1))] rfl rfl rfl (zc 12 rfl (te_ rfl (jal rfl rfl) ?_));refine zwn 40 (x':=V.one (El.row muE ((zbG s f).2.1++(zb9 s ((zbG s f).1)).2.1))) rfl (RowAt.ofE muE ((zbG s f).2.1++(zb9 s ((zbG s f).1)).2.1) rfl (by decide)) (.inr ⟨rfl,rfl⟩) (zjn (te_ rfl (zgJ (i:=6) rfl fn55 rfl (znE ((zbG s f).2.1++(zb9 s ((zbG s f).1)).2.1) (by assumption) (by assumption) (by omega) (by omega)) (by decide) rfl) (zl 8 rfl ?_)));refine nz_ [so 6 _,so 11 _,so 13 (D.v (V.one (Leaf.own 6 0)))] [none,none,none,_,hgr 109 7 muE ((zbG s f).2.1++(zb9 s ((zbG s f).1)).2.1) 1,_,hgr 109 7 muE (zcA ((zbG s f).2.1++(zb9 s ((zbG s f).1)).2.1)) 0] rfl rfl (zc 8 rfl ?_);refine zdW 7 (x':=V.one (El.row muE (zcA ((zbG s f).2.1++(zb9 s ((zbG s f).1)).2.1)))) rfl (RowAt.ofE muE (zcA ((zbG s f).2.1++(zb9 s ((zbG s f).1)).2.1)) rfl (by decide)) (.inr ⟨rfl,rfl⟩) ?_;exact r3_ hq_ rfl (by rw[hsy,<-zvT hbf.can])
set_option maxHeartbeats 2000000 in
theorem symr(s:Sc)(f:Af){kf:Nat->Nat}{d:Nat}(ha:BkA s kf d f):Ctr Tryz.prog 20 [scV s,afV f] (R.tup [qV (qOf (zb1 s f).1),V.one (El.row muE (zb1 s f).2.1),V.one (Leaf.val (.bool (zb1 s f).2.2))]):=by
 refine bd_ Tryz.func20 Tryz.ntmps20 rfl (fun w0 A0=>?_);have hs:=ha.sb;have hB:=hs.B;have hq:=hs.q;have hd:=hs.d;have hpl:=hs.pl;have hl:=hs.ll;have hg:=hq.g;have hr:=hq.r;have hlo:=hr.lo;have hhi:=hr.hi;have h1:=hg.i1;have h2:=hg.i3;have h3:=hg.u4;have h4:=hg.o1;have h5:=hg.o3;refine zc 13 rfl (tc_ fn16 rfl (zEM s f ha) (zl 12 rfl (nf_ [1] [so 2 (D.ptr 0 0),so 4 (D.ptr 2 0),so 7 (D.ptr 3 0),so 8 (D.v (V.one (El.row muE ((zbG s f).2.1)))),so 9 (D.bool ((zbG s f).2.2))] [hb_ 43 (scL s),none,hb_ 36 [Leaf.val (.bool false),zaf ([]),zaf ([])],hb_ 38 (afL ((zbG s f).1))] rfl rfl rfl (zc 5 rfl ?_))));refine zap rfl (fun hok=>?_) (fun hok=>?_)
 .refine zc 8 rfl ?_;exact r3_ hq_ rfl (by rw[zdt (zEL (by simpa using hok))];show _=R.tup [qV (qOf 0),_,_];rw[<-zc8] <;> rfl)
 .refine zc 3 rfl ?_;have hbk:=zwc (s:=s) (f:=f) (by simpa using hok);have hbf:=znS ha hbk;obtain⟨hbx,hsy⟩:=znT ha hbk;have hgf:FOk 600000000 (s.q.g.inp+s.q.g.us.length) (zbG s f).1:=hbf.fok.mono (zFl _) (by omega);haveI:=ztN ha hbk;have hbd:=zlh hs hgf.fl;have hl1:=hbf.len;have hl2:=hbd.len;have hmA:=hbf.mb;have hmB:=hbd.bd;refine zc 3 rfl (tc_ fn41 rfl (boxr s hs (zbG s f).1 hgf (by omega)) (zl 11 rfl (nf_ [0,3] [so 4 _,so 8 _,so 10 (D.ptr 4 0),so 11 (D.v (V.one (El.row muE ((zb9 s ((zbG s f).1)).2.1))))] [none,none,_,none,hb_ 36 (qL ((zb9 s ((zbG s f).1)).1))] rfl rfl rfl (dr_ 0 [(5,2)] [2] (dz 3 rfl (kc_ zm1 rfl (zm0 1 (by decide) (by decide)) ?_))))));refine kc_ fn59 rfl (zsp (zbG s f).2.1 (zb9 s (zbG s f).1).2.1 ((1:Int):Rat) hmA hmB (by omega) (by omega) (by omega)) (dz 3 rfl (zae (za 1 rfl ?_)));exact r3_ hq_ rfl (by rw[hsy])
set_option maxHeartbeats 2000000 in
theorem zCe(n:Nat)(hn:n<=2)(s:Sc)(f:Af){kf:Nat->Nat}{d:Nat}(ha:BkA s kf d f):Ctr Tryz.prog 43 [V.one (Leaf.val (.int .i64 ((n:Int)))),scV s,afV f] (R.tup [qV (qOf ((zbm n) s f).1),V.one (El.row muE ((zbm n) s f).2.1),V.one (Leaf.val (.bool ((zbm n) s f).2.2))]):=by
 refine bd_ Tryz.func43 Tryz.ntmps43 rfl (fun w0 A0=>?_);have hs:=ha.sb;have hB:=hs.B;have hq:=hs.q;have hd:=hs.d;have hpl:=hs.pl;have hl:=hs.ll;have hg:=hq.g;have hr:=hq.r;have hlo:=hr.lo;have hhi:=hr.hi;have h1:=hg.i1;have h2:=hg.i3;have h3:=hg.u4;have h4:=hg.o1;have h5:=hg.o3;have hlim:=ha.lim;have hfo:=ha.cd.fok;haveI:=zv8 ha;haveI:=zyl ha;refine zc 13 rfl (tc_ fn41 rfl (boxr s hs f hfo (by omega)) (zl 11 rfl (nz_ [so 0 (D.val (.int .i64 (n:Int))),so 4 (D.ptr 0 0),so 5 (D.ptr 1 0),so 6 (D.ptr 2 0),so 9 (D.ptr 3 0),so 10 (D.v (V.one (El.row muE ((zb9 s f).2.1)))),so 11 (D.bool ((zb9 s f).2.2))] [hb_ 43 (scL s),hb_ 38 (afL f),_,hb_ 36 (qL ((zb9 s f).1))] rfl rfl (zc 3 rfl ?_))));refine tc_ fn20 rfl (symr s f ha) (zl 12 rfl (nf_ [0,1] [so 0 _,so 6 _,so 9 _,so 10 _,so 11 _,so 12 (D.ptr 4 0),so 13 (D.v (V.one (El.row muE ((zb1 s f).2.1)))),so 14 (D.bool ((zb1 s f).2.2))] [none,none,_,_,hb_ 36 (qL ((zb1 s f).1))] rfl rfl rfl (zc 2 rfl ?_)));by_cases h0:n=0
 .refine tq_ rfl (eqT rfl) (zl 21 rfl (nf_ [4] [so 6 _,so 9 _,so 10 _,so 11 _] [none,none,_,_,none] rfl rfl rfl (zc 9 rfl ?_)));exact r3_ hq_ rfl (by rw[zCj h0])
 .refine tq_ rfl (eqF rfl) (zl 2 rfl ?_);by_cases h2:n=2
  .refine tq_ rfl (eqT rfl) (zl 4 rfl ?_);refine zdH rfl (fun hok=>?_) (fun hok=>?_)
   .refine zl 16 rfl (nf_ [3] [so 6 _,so 12 _,so 13 _,so 14 _] [none,none,_,none,_] rfl rfl rfl (zc 9 rfl ?_));exact r3_ hq_ rfl (by rw[zoJ h2,zEE hok])
   .refine zl 3 rfl ?_;refine zdH rfl (fun his=>?_) (fun his=>?_)
    .refine zl 2 rfl (tc_ zo7 rfl (zgd (qOf ((zb9 s f).1)) ((zb9 s f).1) (zah _) (Br.use (by omega)) (qOf ((zb1 s f).1)) ((zb1 s f).1) (zah _) (Br.use (by omega))) ?_);by_cases hle:(zb1 s f).1<=(zb9 s f).1
     .refine tq_ rfl (geT rfl (ze8.2 hle)) (zl 7 rfl (nf_ [4] [so 6 _,so 9 _,so 10 _,so 11 _] [none,none,_,_,none] rfl rfl rfl (zc 9 rfl ?_)));exact r3_ hq_ rfl (by rw[zoJ h2,zAD hok hle])
     .refine tq_ rfl (geF rfl (fun e=>hle (ze8.1 e))) (zl 9 rfl (nf_ [3] [so 6 _,so 12 _,so 13 _,so 14 _] [none,none,_,none,_] rfl rfl rfl (zc 9 rfl ?_)));exact r3_ hq_ rfl (by rw[zoJ h2,zAC (by simpa using his) hle])
    .refine zl 11 rfl (nf_ [4] [so 6 _,so 9 _,so 10 _,so 11 _] [none,none,_,_,none] rfl rfl rfl (zc 9 rfl ?_));exact r3_ hq_ rfl (by rw[zoJ h2,zAE (by simpa using his)])
  .refine tq_ rfl (eqF rfl) (zl 20 rfl (nf_ [3] [so 6 _,so 12 _,so 13 _,so 14 _] [none,none,_,none,_] rfl rfl rfl (zc 9 rfl ?_)));exact r3_ hq_ rfl (by rw[zCi h0 h2 hn])
theorem zoq(s:Sc)(hs:SOk s)(j:Nat)(up:Bool)(x:Rat)(pf:List Mu){B:Nat}[Br x B](hx:B<=100000000):Ctr Tryz.prog 92 [scV s,lmV ⟨(j:Int),up,qOf x,pf⟩] (R.one (V.one (Leaf.val (.bool (zcr s.lems j up x))))):=by
 refine bd_ Tryz.func92 Tryz.ntmps92 rfl (fun w0 A0=>?_);have hq:=hs.q;have hd:=hs.d;have hpl:=hs.pl;have hB:=hs.B;have hll:=hs.ll;have hg:=hq.g;have hr:=hq.r;have hlo:=hr.lo;have hhi:=hr.hi;have g1:=hg.i1;have g2:=hg.i3;have g3:=hg.u4;have g4:=hg.o1;have g5:=hg.o3;refine zc 12 rfl (tc_ zxq rfl (zhu s (by assumption) (by omega) (by omega) (j:Int)) (zl 14 rfl ?_));refine zap rfl (fun hup=>?_) (fun hup=>?_)
 .refine zc 1 rfl (dr_ 0 [] [] (dz 1 rfl ?_));by_cases hv:(zam s.lems (j:Int)).2=0
  .refine kq_ rfl (eqT rfl) (dz 14 rfl (zae (za 1 rfl ?_)));exact r1_ hq_ rfl (by have hu_:up=true:=hup;rw[hu_,zf8 (.inl hv)])
  .refine kq_ rfl (eqF rfl) (dz 5 rfl ?_);obtain⟨y,hy,_,_,hly,hy0,hyl⟩:=zbj hv;haveI hyB:=hB y (zFi hy);refine dz 1 rfl (kq_ rfl (jsb (((zam s.lems (j:Int)).2)-1) rfl) (kq_ rfl (jix ((zam s.lems (j:Int)).2-1) hy rfl) (kq_ rfl (jft rfl) (kq_ rfl (jlr rfl) (kc_ zo7 rfl (zgd (qOf (x)) (x) (zah _) (Br.use (by omega)) y.v (y.v.q) rfl (Fq.use (x:=y.v) (by omega))) ?_)))));by_cases hc:x<lv s.lems (zam s.lems (j:Int)).2
   .refine kq_ rfl (ltT rfl (by rw[ze7,<-hly];exact hc)) (dz 2 rfl (zae (za 1 rfl ?_)));exact r1_ hq_ rfl (by have hu_:up=true:=hup;rw[hu_,zf8 (.inr hc)])
   .refine kq_ rfl (ltF rfl (by rw[ze7,<-hly];exact hc)) (dz 2 rfl (zae (za 1 rfl ?_)));exact r1_ hq_ rfl (by have hu_:up=true:=hup;rw[hu_,zlI hv hc])
 .refine zc 3 rfl (dr_ 0 [] [] (dz 1 rfl ?_));by_cases hv:(zam s.lems (j:Int)).1=0
  .refine kq_ rfl (eqT rfl) (dz 14 rfl (zae (za 1 rfl ?_)));exact r1_ hq_ rfl (by have hu_:up=false:=hup;rw[hu_,zf9 (.inl hv)])
  .refine kq_ rfl (eqF rfl) (dz 5 rfl ?_);obtain⟨y,hy,_,_,hly,hy0,hyl⟩:=zbe hv;haveI hyB:=hB y (zFi hy);refine dz 1 rfl (kq_ rfl (jsb (((zam s.lems (j:Int)).1)-1) rfl) (kq_ rfl (jix ((zam s.lems (j:Int)).1-1) hy rfl) (kq_ rfl (jft rfl) (kq_ rfl (jlr rfl) (kc_ zo7 rfl (zgd (qOf (x)) (x) (zah _) (Br.use (by omega)) y.v (y.v.q) rfl (Fq.use (x:=y.v) (by omega))) ?_)))));by_cases hc:lv s.lems (zam s.lems (j:Int)).1<x
   .refine kq_ rfl (gtT rfl (by rw[zeD,<-hly];exact hc)) (dz 2 rfl (zae (za 1 rfl ?_)));exact r1_ hq_ rfl (by have hu_:up=false:=hup;rw[hu_,zf9 (.inr hc)])
   .refine kq_ rfl (gtF rfl (by rw[zeD,<-hly];exact hc)) (dz 2 rfl (zae (za 1 rfl ?_)));exact r1_ hq_ rfl (by have hu_:up=false:=hup;rw[hu_,zlJ hv hc])
end Go.Proofs.YtjeiacoegppoiaaGreatDoor
namespace Rc
open Go Go.RowKit
def zwC(d:Dom):Prop:=∀(s:Sc),SOk s->∀x:List Rat,InB s.q.r x->zcw s x->Holds s.q.g x s.lems->∀f:Af,FOk 3 (s.q.g.inp+s.q.g.us.length) f->(d s f).2.2=true->(d s f).1<=evM f (zbn s.q.g x)
theorem zxS:zwC zb9:=fun s hs x hx hp hl f hf h=>ztx hs hx hp hl hf.var h
theorem zwU:zwC zb1:=fun s hs x hx hp hl f hf h=>zrb hs hx hp hl hf h
theorem zAF{a b:Dom}(ha:zwC a)(hb:zwC b):zwC (zgA a b):=fun s hs x hx hp hl f hf h=>by
 rcases zjj (a:=a) (b:=b) (s:=s) (f:=f) with e|⟨_,e⟩
 .rw[e] at h ⊢;exact ha s hs x hx hp hl f hf h
 .rw[e] at h ⊢;exact hb s hs x hx hp hl f hf h
theorem zCf(n:Nat):zwC (zbm n):=by
 unfold zbm;repeat' split
 .exact zxS
 .exact zwU
 .exact zAF zxS zwU
section
variable {s:Sc}{x:List Rat}{d:Dom}
theorem zin(hd:zfC d)(hle:zwC d)(hs:SOk s)(hx:InB s.q.r x)(hp:zcw s x)(hl:Holds s.q.g x s.lems){bits:Int}(h0:0<=bits)(h4:bits<=4096){j:Nat}{up:Bool}{p:Af}(hpj:s.q.g.us[j]?=some p):Holds s.q.g x (zfy d s bits j up p):=by
 have hj:=(zFj.1 hpj).1;have hK:=zjL (j:=j) (by have:=hs.q.g.u4;omega);have hpo:=hs.q.g.us j p hpj;have hpf:=zog hs.q hpj;unfold zfy;split
 .rename_i hb;rw[zFv] at hb;have hb1:=hb.1;unfold zpQ at hb1;refine zgr hpj ⟨fun hu=>?_,fun hu=>?_⟩
  .rw[if_pos hu] at hb1;unfold zjy;rw[if_pos hu];have h1:=hle s hs x hx hp hl _ hpf.neg hb1;rw[zxt] at h1;haveI h2:=hd s hs j _ hj hpo.neg hb1;have h3:Hb (-(d s (zbO p)).1) (KB j-4200):=Hb.neg;exact Rat.le_trans (by grind) (zkA h3 (by omega) h0 h4).2
  .have hu':¬up=true:=by rw[hu];decide
   rw[if_neg hu'] at hb1;unfold zjy;rw[if_neg hu'];exact Rat.le_trans (zkA (hd s hs j _ hj hpo hb1) (by omega) h0 h4).1 (hle s hs x hx hp hl _ hpf hb1)
 .exact fun m hm=>by simp at hm
theorem zis(hd:zfC d)(hle:zwC d)(hs:SOk s)(h80:s.lems.length<=80)(hx:InB s.q.r x)(hp:zcw s x)(hl:Holds s.q.g x s.lems){bits:Int}(h0:0<=bits)(h4:bits<=4096):∀n,n<=s.q.g.us.length->Holds s.q.g x (Rc.runN d s bits n)
 |0,_=>hl
 |n+1,hn=>by
  obtain⟨p,hpj⟩:∃p,s.q.g.us[n]?=some p:=⟨_,zFh (by omega)⟩;have ih:=zis hd hle hs h80 hx hp hl h0 h4 n (by omega);have h1:=zgc hd hs h80 (bits:=bits) (n:=n) (by omega);have h2:=zfP hd hs h80 bits n (by omega);have h3:=zit hd hs (bits:=bits) h1 hpj;have h4':=hs.q.g.u4;have hA:Holds s.q.g x (zbb d s bits (Rc.runN d s bits n) n p):=ih.app (zin hd hle h1 hx hp ih h0 h4 (by exact hpj));rw[zdh hpj];exact hA.app (zin (s:=withL s (zbb d s bits (Rc.runN d s bits n) n p)) hd hle (LOk.withL hs h3.1 (by omega)) hx hp hA h0 h4 (by exact hpj))
theorem zne(hd:zfC d)(hle:zwC d)(hs:SOk s)(h80:s.lems.length<=80)(hx:InB s.q.r x)(hp:zcw s x)(hl:Holds s.q.g x s.lems){bits:Int}(h0:0<=bits)(h4:bits<=4096):Holds s.q.g x (zup d s bits).lems:=zis hd hle hs h80 hx hp hl h0 h4 _ (zFl _)
end
def zak(l:List Nat):Sc:=if zhB l%5<3 then zup (zbm (zhB l%5)) (zhq l) 0 else zhq l
theorem zEv{l:List Nat}(h:zhB l%5<3):zak l=zup (zbm (zhB l%5)) (zhq l) 0:=if_pos h
theorem zEw{l:List Nat}(h:¬zhB l%5<3):zak l=zhq l:=if_neg h
theorem zk3(l:List Nat):SOk (zak l)/\(zak l).lems.length<=16/\(zak l).q=(zhq l).q/\(zak l).path=(zhq l).path:=by
 obtain⟨h,h8⟩:=znC l;unfold zak;split
 .obtain⟨h1,h2⟩:=zrC (zj2 (zhB l%5)).ok h (by omega) 0;exact⟨h1,by omega,rfl,rfl⟩
 .exact⟨h,by omega,rfl,rfl⟩
theorem zqt(l:List Nat){x:List Rat}(hx:InB (zhq l).q.r x)(hp:zcw (zhq l) x):Holds (zak l).q.g x (zak l).lems:=by
 obtain⟨h,h8⟩:=znC l;have hh:=zqq l hx;unfold zak;split
 .exact zne (zj2 _).ok (zCf _) h (by omega) hx hp hh (by decide) (by decide)
 .exact hh
@[reducible] def zrn(s:Sc)(j:Nat):Prop:=zcd s j=true\/zaW s j=true
theorem zph{a b:List Dc}{k:Nat}{u:Int}(h:zet a k u=true):zet (a++b) k u=true:=by
 unfold zet at *;rw[List.any_append,h];rfl
theorem zuO{s:Sc}{e:List Dc}{j:Nat}(h:zrn s j):zrn ⟨s.q,s.path++e,s.lems⟩ j:=by
 rcases h with h|h
 .refine .inl (zca.2 ?_);rcases zca.1 h with h|h
  .exact .inl (zph h)
  .exact .inr h
 .refine .inr (zbp.2 ?_);rcases zbp.1 h with h|h
  .exact .inl (zph h)
  .exact .inr h
theorem zuM{s:Sc}{k:Nat}{j:Nat}(h:k=1\/k=2):zrn ⟨s.q,s.path++[⟨k,j,0⟩],s.lems⟩ j:=by
 rcases h with h|h
 .subst h;refine .inl (zca.2 (.inl ?_));show zet (s.path++_) 1 (j:Int)=true;unfold zet;simp
 .subst h;refine .inr (zbp.2 (.inl ?_));show zet (s.path++_) 2 (j:Int)=true;unfold zet;simp
theorem zu0{s:Sc}{j:Nat}{p:Af}{c:Rat}(h:zrn s j):∃b r k,zff s j p c=some (b,r,k):=by
 unfold zff;split
 .exact⟨_,_,_,rfl⟩
 .rename_i h1;split
  .exact⟨_,_,_,rfl⟩
  .rename_i h2;exact(h.elim h1 h2).elim
theorem zmK{s:Sc}(h:∀j,j<s.q.g.us.length->zrn s j){f:Af}:∀k,k<=s.q.g.us.length->∃g l,bkN s f k=some (g,l)
 |0,_=>⟨f,[],rfl⟩
 |k+1,hk=>by
  obtain⟨g,l,h1⟩:=zmK h (f:=f) k (by omega);rw[zft,h1];obtain⟨p,hp⟩:∃p,s.q.g.us[s.q.g.us.length-1-k]?=some p:=⟨_,zFh (by omega)⟩;by_cases h0:co g.ts (s.q.g.inp+(s.q.g.us.length-1-k))=0
  .exact⟨_,_,zfs hp h0⟩
  .obtain⟨b,r,c,hr⟩:=zu0 (p:=p) (c:=co g.ts (s.q.g.inp+(s.q.g.us.length-1-k))) (h (s.q.g.us.length-1-k) (by omega));exact⟨_,_,zcb hp h0 hr⟩
theorem znV{s:Sc}(hs:SOk s){f g:Af}{l:List Mu}(hf:FOk 3 (s.q.g.inp+s.q.g.us.length) f)(h:bkO s f=some (g,l)):Cd 400073 400073 s.q.g.inp g:=by
 have hbk:=zhc hs.sb hs.kb (zFl _) hf.cq _ (zFl _) g l (by rw[Nat.sub_self,Nat.zero_add];exact h);obtain⟨b,hb,hcd⟩:=hbk.cd;rw[Nat.sub_self] at hcd hb;have h4:=zpv hs.q.g.u4;simp only[bS] at hb;exact Cd.mono (m:=s.q.g.inp+0) hcd (by omega) (by omega) (zFl _)
def ivE:El (Rat×Rat):=⟨fun p=>[Leaf.val (.bool (zaP p.1)),zaf (zaa (zav p.1)),zaf (zaa (zaz p.1)),Leaf.val (.bool (zaP p.2)),zaf (zaa (zav p.2)),zaf (zaa (zaz p.2))],6,fun _=>rfl,fun _=>rfl⟩
def rngS(bx:List (Rat×Rat))(a:Rat×Rat)(t:Tm):Rat×Rat:=match bx[t.1]? with|some p=>(a.1+mn (t.2*p.1) (t.2*p.2),a.2+mx (t.2*p.1) (t.2*p.2))|none=>a
def zjX(bx:List (Rat×Rat))(f:Af)(n:Nat):Rat×Rat:=(f.ts.take n).foldl (rngS bx) (f.c,f.c)
theorem ziz{bx:List (Rat×Rat)}{f:Af}{n:Nat}{t:Tm}{p:Rat×Rat}(h:f.ts[n]?=some t)(hp:bx[t.1]?=some p) :
  zjX bx f (n+1)=((zjX bx f n).1+mn (t.2*p.1) (t.2*p.2),(zjX bx f n).2+mx (t.2*p.1) (t.2*p.2)):=by
 unfold zjX;rw[zaF h,zFJ];show rngS bx _ t=_;unfold rngS;rw[hp]
theorem zrS{bx:List (Rat×Rat)}{f:Af}{b m:Nat}(hf:FOk b m f)(hm:m<=bx.length)(hb:∀p∈bx,Br p.1 10/\Br p.2 10):∀n,n<=f.ts.length->Br (zjX bx f n).1 (b+7+n*(2*b+60))/\Br (zjX bx f n).2 (b+7+n*(2*b+60))
 |0,_=>⟨hf.cb.br.mono (by omega),hf.cb.br.mono (by omega)⟩
 |n+1,hn=>by
  obtain⟨t,ht⟩:∃t,f.ts[n]?=some t:=⟨_,zFh (by omega)⟩;have htm:=zFi ht;have htv:=hf.var t htm;obtain⟨p,hp⟩:∃p,bx[t.1]?=some p:=⟨_,zFh (by omega)⟩;obtain⟨i1,i2⟩:=zrS hf hm hb n (by omega);obtain⟨b1,b2⟩:=hb p (zFi hp);haveI:=i1;haveI:=i2;haveI:=b1;haveI:=b2;haveI:Br t.2 (b+1):=(hf.bd t htm).br;rw[ziz ht hp,Nat.succ_mul];exact⟨(inferInstance:Br ((zjX bx f n).1+mn (t.2*p.1) (t.2*p.2)) (b+7+n*(2*b+60)+(b+1+10+1+(b+1+10+1))+1)).mono (by omega),(inferInstance:Br ((zjX bx f n).2+mx (t.2*p.1) (t.2*p.2)) (b+7+n*(2*b+60)+(b+1+10+1+(b+1+10+1))+1)).mono (by omega)⟩
theorem zqY{α β:Type}{a:List α}{b:List β}{i:Nat}{x:α}{y:β}(h1:a[i]?=some x)(h2:b[i]?=some y):(a.zip b)[i]?=some (x,y):=by
 rw[List.getElem?_zip_eq_some];exact⟨h1,h2⟩
theorem mn_iv{c a b:Rat}(h:a<=b):mn (c*a) (c*b)=c*(if c<0 then b else a):=by
 by_cases hc:c<0
 .rw[if_pos hc];have:0<=(-c)*(b-a):=Rat.mul_nonneg (by grind) (by grind);unfold mn;split <;> grind
 .rw[if_neg hc];have:0<=c*(b-a):=Rat.mul_nonneg (by grind) (by grind);unfold mn;split <;> grind
def ivM(r:Rg):List (Rat×Rat):=r.lo.zip r.hi
theorem zsB{n:Nat}{r:Rg}(hr:ROk n r):(ivM r).length=n:=by unfold ivM;rw[List.length_zip,hr.lo,hr.hi];exact Nat.min_self n
theorem zCF{n:Nat}{r:Rg}(hr:ROk n r):∀p∈ivM r,Br p.1 10/\Br p.2 10:=fun p hp=>by
 obtain⟨i,hi⟩:=zfW hp;have hi:(r.lo.zip r.hi)[i]?=some p:=hi;obtain⟨x,y⟩:=p;rw[List.getElem?_zip_eq_some] at hi;obtain⟨b1,b2,_⟩:=hr.bd i x y hi.1 hi.2;exact⟨b1.br.mono (by omega),b2.br.mono (by omega)⟩
theorem zpp{B:Nat}{s:Sc}(hs:SB B s)(hp:∀i up,ziZ s i up=zjw s i up){f:Af}(hv:∀t∈f.ts,t.1<s.q.g.inp):∀n,n<=f.ts.length->∃l,zh7 s f n=some ((zjX (ivM s.q.r) f n).1,l)
 |0,_=>⟨[],rfl⟩
 |n+1,hn=>by
  obtain⟨t,ht⟩:∃t,f.ts[n]?=some t:=⟨_,zFh (by omega)⟩;have htv:=hv t (zFi ht);obtain⟨l,h1⟩:=zpp hs hp hv n (by omega);have hlo:=hs.q.r.lo;have hhi:=hs.q.r.hi;obtain⟨a,ha⟩:∃a,s.q.r.lo[t.1]?=some a:=⟨_,zFh (by omega)⟩;obtain⟨b,hb⟩:∃a,s.q.r.hi[t.1]?=some a:=⟨_,zFh (by omega)⟩;obtain⟨_,_,hab⟩:=hs.q.r.bd t.1 a b ha hb;rw[zc5 ht,h1,ziz ht (show(ivM s.q.r)[t.1]?=some (a,b) from zqY ha hb),mn_iv hab];unfold zmE zjK;simp only;rw[if_pos htv];refine⟨zaS l (zj0 (ziZ s t.1 (decide (t.2<0))).2) (rq false (zav t.2) (zaz t.2)),?_⟩;refine congrArg some (Prod.ext ?_ rfl);dsimp only;rw[zah,hp];unfold zjw;by_cases hc:t.2<0
  .rw[decide_eq_true hc,if_pos rfl,hb,if_pos hc];rfl
  .rw[decide_eq_false hc,if_neg (by decide),ha,if_neg hc];rfl
theorem zv7{B:Nat}{s:Sc}(hs:SB B s)(hp:∀i up,ziZ s i up=zjw s i up){f:Af}(hv:∀t∈f.ts,t.1<s.q.g.inp):(zb9 s f).1=(zjX (ivM s.q.r) f f.ts.length).1/\(zb9 s f).2.2=true:=by
 obtain⟨l,h⟩:=zpp hs hp hv f.ts.length (zFl _);rw[zbW (show zlg s f=_ from h)];exact⟨rfl,rfl⟩
theorem zuL{s:Sc}(hs:SOk s)(h4:s.path.length<=4){e:List Dc}(he:∀d∈e,DOk 200 s.q d)(hl:e.length<=6):SOk ⟨s.q,s.path++e,s.lems⟩:=by
 refine⟨hs.q,fun d hd=>?_,?_,hs.l,hs.ll⟩
 .rcases zFC.1 hd with h|h
  .exact hs.d d h
  .exact he d h
 .show(s.path++e).length<=100;rw[zFx];omega
theorem zsq{q:Qu}{e:List Dc}{d:Dc}(h:∀x∈e,DOk 200 q x)(hd:DOk 200 q d):∀x∈e++[d],DOk 200 q x:=fun x hx=>by
 rcases zFC.1 hx with h1|h1
 .exact h x h1
 .rw[List.mem_singleton] at h1;subst h1;exact hd
def zcY(l:List Dc):Bool:=l.all fun d=>decide (d.kind=1\/d.kind=2)
theorem zfb{l:List Dc}{i:Nat}{d:Dc}(h:l[i]?=some d):zcY (l.take (i+1))=(zcY (l.take i)&&decide (d.kind=1\/d.kind=2)):=by
 unfold zcY;rw[zaF h,List.all_append];simp
theorem zoY{s:Sc}(h:zcY s.path=true){i:Nat}{up:Bool}:∀n,n<=s.path.length->zgK s i up n=zjw s i up
 |0,_=>rfl
 |n+1,hn=>by
  obtain⟨d,hd⟩:∃d,s.path[n]?=some d:=⟨_,zFh (by omega)⟩;rw[ze1 hd,zoY h n (by omega)];have hk:d.kind=1\/d.kind=2:=of_decide_eq_true (List.all_eq_true.1 h d (zFi hd));refine if_neg (fun e=>?_);have h1:=e.1;split at h1 <;> omega
theorem zvt{s:Sc}(h:zcY s.path=true)(i:Nat)(up:Bool):ziZ s i up=zjw s i up:=zoY h _ (zFl _)
theorem zEe{s:Sc}(hs:SOk s){x:List Rat}(hx:InB s.q.r x){g:Af}(hc:CanT g.ts)(hv:∀t∈g.ts,t.1<s.q.g.inp):evM g (zbn s.q.g x)=evM g x:=by
 rw[zi6 hc hv,zi6 hc hv,zea (φ:=fun w=>co g.ts w*vl (zbn s.q.g x) w) (ψ:=fun w=>co g.ts w*vl x w) _ (fun i hi=>by
  show co g.ts i*((zbn s.q.g x)[i]?).getD 0=co g.ts i*((x[i]?).getD 0);rw[ztT hs hx hi])]
theorem zvN{s:Sc}(hs:SOk s){x:List Rat}(hx:InB s.q.r x)(hp:zcw s x)(hl:Holds s.q.g x s.lems)(hsh:∀j,j<s.q.g.us.length->zrn s j){f g:Af}{l:List Mu}(hf:FOk 3 (s.q.g.inp+s.q.g.us.length) f)(h:bkO s f=some (g,l)) :
  evM f (zbn s.q.g x)=evM g x:=by
 have h1:=(znU hs hx hp hl hf _ (zFl _) g l h).2 hsh;have h2:=znV hs hf h;rw[<-zEe hs hx h2.can h2.var,h1]
theorem zs1{s:Sc}(hs:SOk s)(hu:zcY s.path=true){f g:Af}{l:List Mu}(hf:FOk 3 (s.q.g.inp+s.q.g.us.length) f)(h:bkO s f=some (g,l)):(zb1 s f).1=(zjX (ivM s.q.r) g g.ts.length).1:=by
 obtain⟨x,m,h1,_⟩:=zlF hs hf h;have h2:=znV hs hf h;have h3:=(zv7 hs.sb (zvt hu) h2.var).1;rw[zbW h1] at h3;rw[zc0 h h1];exact h3
theorem zyk{s:Sc}(hs:SOk s){f g:Af}{l:List Mu}(hf:FOk 3 (s.q.g.inp+s.q.g.us.length) f)(h:bkO s f=some (g,l)):(zb1 s f).2.2=true:=by
 obtain⟨x,m,h1,_⟩:=zlF hs hf h;rw[zc0 h h1]
def phM(s:Sc)(j:Nat):Nat:=if zcd s j=true then 1 else if zaW s j=true then 2 else 0
theorem zB8{s:Sc}{j:Nat}(h:zcd s j=true):phM s j=1:=if_pos h
theorem zyI{s:Sc}{j:Nat}(h:zcd s j=false)(h2:zaW s j=true):phM s j=2:=by unfold phM;rw[h,h2];rfl
theorem zve{s:Sc}{j:Nat}(h:zcd s j=false)(h2:zaW s j=false):phM s j=0:=by unfold phM;rw[h,h2];rfl
theorem zvd{s:Sc}{j:Nat}(h:phM s j≠0):zrn s j:=by
 unfold phM at h;split at h
 .rename_i h1;exact .inl h1
 .split at h
  .rename_i h1;exact .inr h1
  .exact absurd rfl h
structure ExI(s:Sc)(j:Nat)(out:List Dc):Prop where
 ex:∃e,out=s.path++e/\(∀d∈e,DOk 200 s.q d)/\e.length<=j
 sh:∀i,i<j->zrn ⟨s.q,out,s.lems⟩ i
section
variable {s:Sc}{j:Nat}{out:List Dc}
theorem ExI.zero:ExI s 0 s.path:=⟨⟨[],(zFF _).symm,fun d hd=>by simp at hd,zFl _⟩,fun i hi=>by omega⟩
theorem ExI.skip(h:ExI s j out)(h0:zrn ⟨s.q,out,s.lems⟩ j):ExI s (j+1) out:=by
 obtain⟨e,h1,h2,h3⟩:=h.ex;refine⟨⟨e,h1,h2,by omega⟩,fun i hi=>?_⟩;by_cases e:i=j
 .subst e;exact h0
 .exact h.sh i (by omega)
theorem ExI.add(h:ExI s j out)(hj:j<s.q.g.us.length){k:Nat}(hk:k=1\/k=2):ExI s (j+1) (out++[⟨k,j,0⟩]):=by
 obtain⟨e,h1,h2,h3⟩:=h.ex;refine⟨⟨e++[⟨k,j,0⟩],by rw[h1,zFK],zsq h2 ⟨.inl ⟨hk,hj,rfl⟩,Hb.z⟩,by rw[zFx,List.length_singleton];omega⟩,fun i hi=>?_⟩;by_cases e:i=j
 .subst e;exact zuM (s:=⟨s.q,out,s.lems⟩) hk
 .exact zuO (s:=⟨s.q,out,s.lems⟩) (h.sh i (by omega))
theorem ExI.ok(h:ExI s j out)(hs:SOk s)(h4:s.path.length<=4)(hj:j<=4):SOk ⟨s.q,out,s.lems⟩:=by
 obtain⟨e,h1,h2,h3⟩:=h.ex;rw[h1];exact zuL hs h4 h2 (by omega)
theorem ExI.len(h:ExI s j out)(h4:s.path.length<=4)(hj:j<=4):out.length<=8:=by
 obtain⟨e,h1,h2,h3⟩:=h.ex;rw[h1,zFx];omega
theorem ExI.pathAt(h:ExI s j out){x:List Rat}(hp:zcw ⟨s.q,out,s.lems⟩ x):zcw s x:=fun d hd=>by
 obtain⟨e,h1,_⟩:=h.ex;exact hp d (by show d∈out;rw[h1];exact List.mem_append_left _ hd)
end
end Rc
namespace Rc
open Go Go.RowKit Go.ChangeShapes Go.WideShapes
section
variable {H:Type}{enc:TypeId×Value->H}{P:Program}{w:World}{base:Nat}{held:Bool}
@[reducible] def here(w:World):Foot:=Foot.of fun k _=>k<w.heap.size
theorem zBw{n:Int}(h:(Lit.int .u8 n).wf=true):0<=n/\n<=255:=by
 simp[Lit.wf,IntKind.min,IntKind.max,IntKind.bits,IntKind.signed] at h;omega
theorem zAv{a:Addr}{v:Value}(h:w.cell? a=some v):a.block<w.heap.size:=by
 unfold World.cell? at h
 cases hb:w.heap[a.block]? with
 |none=>rw[hb] at h;simp at h
 |some o=>exact(zFG.1 hb).1
variable {tb tn tu tr:Nat}
end
theorem zmd{P:Program}{f:Nat}{xs:List V}{w:World}{vs:List Value}(h:Ctr P f xs (R.one (V.one (Leaf.val (.bool true)))))(hg:zul w)(hd:denVs (here w) xs vs w) :
  Calls P f vs.toArray w fun e w'=>e = .returned (.bool true)/\Below w.heap.size w w':=by
 refine Calls.mono (h w vs (fun k _=>k<w.heap.size) hg (fun _ _ hk=>hk) hd) ?_;rintro e w' ⟨v,rfl,hv,hb⟩;obtain⟨rfl,_⟩:v = .bool true/\_:=hv;exact⟨rfl,hb⟩
theorem zwN:∀l:List Nat,u8E.all l=l.map fun(x:Nat)=>Leaf.val (.int .u8 (x:Int))
 |[]=>rfl
 |x::l=>by show u8E.f x++u8E.all l=_;rw[zwN l];rfl
section
variable {H:Type}{enc:TypeId×Value->H}{P:Program}{w:World}{base:Nat}{held:Bool}
theorem zdu{t u:Nat}(ht:P.underlying t=some (.slice u))(hu:P.underlying u=some (.int .u8))(hc:P.cellsOf u=1){r:Reach}{b0:Nat}{v:Value}{d:DataW H}{p:List MemPlace}(hv:Value.okWide P w r b0 t v)
  (h:DataW.Trod enc P w base (fun _=>true) held t v d p):∃l:List Nat,l.length<=maxLen/\(∀x∈l,x<256)/\(V.one (u8E.row l)).den (here w) v w:=by
 obtain⟨a0,len0,cap0,rfl⟩:=okWide_slice ht hv;obtain⟨fuel,hf⟩:=h;rcases open_ints ht hu hc hf with⟨hcs,_⟩|⟨a,len,cap,zs,hcs,_,hl,hm,hz,_,hcell,hwf⟩
 .simp[Value.cells] at hcs;obtain⟨rfl,rfl,rfl⟩:=hcs;exact⟨[],zFn _,fun x hx=>by simp at hx,zdv _ _⟩
 .simp[Value.cells] at hcs;obtain⟨rfl,rfl,rfl⟩:=hcs;simp only[if_true] at hz;have hlen:((zs.take len0).map Int.toNat).length=len0:=by simp;omega
  refine⟨(zs.take len0).map Int.toNat,by rw[hlen];omega,?_,?_⟩
  .intro y hy;obtain⟨n,hn,rfl⟩:=List.mem_map.1 hy;have:=zBw (hwf n (List.mem_of_mem_take hn));omega
  .show(zas ((zs.take len0).map Int.toNat).length _).P _ _ _;rw[hlen,zwN];refine⟨some a,cap0,rfl,hl,hm,fun h=>by simp at h,fun ad had=>?_⟩;cases had;refine⟨fun h0=>?_,fun i lf hi=>?_⟩
   .obtain⟨b,off,rfl,_⟩:=ints_at hcell (by first|omega|(simp at h0;omega));rfl
   .rw[List.getElem?_map,List.getElem?_map,List.getElem?_take] at hi;split at hi
    .rename_i hil;have hiz:i<zs.length:=by omega
     obtain⟨b,off,rfl,hc2⟩:=ints_at hcell (by omega);have hci:=hc2 i hiz;rw[zFh hiz] at hi;simp only[Option.map_some,zFk] at hi;subst hi;have hw:=zBw (hwf zs[i] (List.getElem_mem hiz));have hlt:b<w.heap.size:=zAv hci;refine⟨hlt,_,hci,?_,rfl⟩;rw[List.getD_eq_getElem?_getD,zFh hiz];simp only[Option.getD_some];congr 1;omega
    .simp at hi
variable {tb tn tu tr:Nat}
end
structure Tr where
 v:Int
 c:Qr
structure Ar where
 ts:List Tr
 c:Qr
end Rc
namespace Rc
open Go Go.RowKit
theorem zuH{s:Sc}(hs:SOk s){f:Af}(hf:FOk 3 (s.q.g.inp+s.q.g.us.length) f):Br (zb1 s f).1 500000:=by
 cases h:bkO s f with
 |none=>rw[zdt h];exact Br.zero.mono (zFn _)
 |some x=>
  obtain⟨g,l⟩:=x;obtain⟨x,m,h1,h2⟩:=zlF hs hf h;have h3:=zpv hs.q.g.u4;rw[zc0 h h1];exact(h2.hb.br).mono (by omega)
theorem zmt(l:List Nat){x:List Rat}(hx:InB (zak l).q.r x)(hp:zcw (zak l) x):Holds (zak l).q.g x (zak l).lems:=by
 obtain⟨_,_,hq,_⟩:=zk3 l;have h1:InB (zhq l).q.r x:=by rw[<-hq];exact hx
 have h2:zcw (zhq l) x:=by
  unfold zak at hp;split at hp <;> exact hp
 exact zqt l h1 h2
theorem zs9(l:List Nat):(zak l).path.length<=4:=by
 obtain⟨_,_,_,h⟩:=zk3 l;rw[h];exact zs0 l
def exK(l:List Nat)(j:Nat):Nat:=match l[j]? with
 |some z=>if z%2=1 then 2 else 1
 |none=>1
theorem exK_c(l:List Nat)(j:Nat):exK l j=1\/exK l j=2:=by
 unfold exK;repeat' split
 .exact .inr rfl
 .exact .inl rfl
 .exact .inl rfl
theorem exK_n{l:List Nat}{j:Nat}(h:¬j<l.length):exK l j=1:=by unfold exK;rw[List.getElem?_eq_none (by omega)]
theorem exK_t{l:List Nat}{j z:Nat}(h:l[j]?=some z)(h2:z%2=1):exK l j=2:=by unfold exK;rw[h];exact if_pos h2
theorem exK_f{l:List Nat}{j z:Nat}(h:l[j]?=some z)(h2:¬z%2=1):exK l j=1:=by unfold exK;rw[h];exact if_neg h2
section
variable {s:Sc}{f:Af}
theorem zuN(h:∀j,j<s.q.g.us.length->zrn s j):(zbG s f).2.2=true:=by
 obtain⟨g,l,h1⟩:=zmK h (f:=f) _ (zFl _);rw[zgC h1]
theorem zAH(hs:SOk s)(hf:FOk 3 (s.q.g.inp+s.q.g.us.length) f)(h:(zbG s f).2.2=true):FOk 400073 s.q.g.inp (zbG s f).1:=(znV hs hf (zwc h)).fok
end
def clD:D->Bool
 |.inl x=>x.cl
 |.inr (.inl xs)=>zg7 xs
 |_=>true
def zvp:Option D->Option D
 |none=>none
 |some d=>bif clD d then some d else none
def zs6:Gam->Gam
 |[]=>[]
 |(s,d)::g=>(s,zvp d)::zs6 g
def zns:Option HE->Option HE
 |none=>none
 |some e=>bif e.ver then none else some e
def clH:Hp->Bool
 |[]=>true
 |none::H=>clH H
 |some e::H=>(e.ver||clL e.ls)&&clH H
theorem zp8(g:Gam)(s:Nat):zby (zs6 g) s=zvp (zby g s):=by
 induction g with
 |nil=>rfl
 |cons p g ih=>
  obtain⟨k,d⟩:=p;simp only[zs6,zeZ];cases Nat.beq k s
  .simpa using ih
  .rfl
theorem znJ:∀{H:Hp} {i:Nat} {e:HE},clH H=true->H[i]?=some (some e)->e.ver=false->clL e.ls=true
 |[],i,e,_,h,_=>by simp at h
 |none::H,0,e,_,h,_=>by simp at h
 |none::H,i+1,e,hc,h,hv=>znJ (H:=H) hc (by simpa using h) hv
 |some e0::H,0,e,hc,h,hv=>by
  simp only[List.getElem?_cons_zero,zFk] at h;subst h;simp only[clH,hv,Bool.false_or,zFv] at hc;exact hc.1
 |some e0::H,i+1,e,hc,h,hv=>by
  simp only[clH,zFv] at hc;exact znJ (H:=H) hc.2 (by simpa using h) hv
theorem zgp{H:Hp}{i:Nat}{e:HE}(h:(H.map zns)[i]?=some (some e)):H[i]?=some (some e)/\e.ver=false:=by
 rw[List.getElem?_map] at h
 cases hi:H[i]? with
 |none=>rw[hi] at h;simp at h
 |some o=>
  rw[hi] at h
  cases o with
  |none=>simp[zns] at h
  |some e0=>
   simp only[Option.map_some,zns,zFk] at h
   cases hv:e0.ver with
   |true=>rw[hv] at h;simp at h
   |false=>rw[hv] at h;simp at h;subst h;exact⟨rfl,hv⟩
theorem zsA{H:Hp}{i:Nat}{e:HE}(h:H[i]?=some (some e))(hv:e.ver=false):(H.map zns)[i]?=some (some e):=by
 rw[List.getElem?_map,h];simp[zns,hv]
theorem Good.dropg{w0:Frm}{A0:Foot}{N:Nat}{Γ:Gam}{H:Hp}{E:Env}{a:Act}{w:World}(h:Good w0 A0 N Γ H E a w)(hc:clH H=true):Good w0 A0 N (zs6 Γ) (H.map zns) ⟨E.b,E.cap,E.nil,Foot.of E.A.c⟩ a w:=by
 refine⟨h.below,h.foot,h.foot0,h.defers,h.size,fun s d hs=>?_,fun i e hi=>?_,fun i j e1 e2 h1 h2=>h.apart i j e1 e2 (zgp h1).1 (zgp h2).1,fun i e n hi hp=>?_,fun i m v hg=>by simp at hg,h.old⟩
 .rw[zp8] at hs
  cases hl:zby Γ s with
  |none=>rw[hl] at hs;simp[zvp] at hs
  |some d0=>
   rw[hl] at hs;simp only[zvp] at hs
   cases hcd:clD d0 with
   |false=>rw[hcd] at hs;simp at hs
   |true=>
    rw[hcd] at hs;simp only[cond_true,zFk] at hs;subst hs;obtain⟨ho,v,hv,hd⟩:=h.slots s d0 hl;refine⟨D.okn_mono ho (fun j e _ he hv=>⟨e,zsA he hv,hv⟩),v,hv,?_⟩;rcases d0 with x|xs|⟨i,o⟩|⟨i,n⟩
    .exact V.den_pure hcd hd
    .obtain⟨vs,h1,h2⟩:=hd;exact⟨vs,h1,denVs.pure hcd h2⟩
    .exact hd
    .exact hd
 .obtain⟨h1,hv⟩:=zgp hi;obtain⟨g1,g2⟩:=h.boxes i e h1;have hcl:=znJ hc h1 hv;refine⟨?_,g2⟩;unfold HE.ok at g1 ⊢
  cases hr:e.row with
  |none=>
   rw[hr] at g1;obtain⟨k1,cs,k2,k3⟩:=g1;exact⟨k1,cs,k2,denL.pure hcl k3⟩
  |some sz=>
   rw[hr] at g1;simp only at g1 ⊢;split
   .rename_i hn;rw[if_pos hn] at g1;exact g1
   .rename_i hn;rw[if_neg hn] at g1;obtain⟨k1,cs,rest,k2,k3,k4⟩:=g1;exact⟨k1,cs,rest,k2,k3,denL.pure hcl k4⟩
 .obtain⟨h1,hv⟩:=zgp hi;obtain⟨k,hk⟩:=hp;unfold HE.ver at hv;rw[hk] at hv;simp at hv
theorem zwE{Q:Exit->Act->World->Prop}{w0:Frm}{A0:Foot}{N:Nat}{Γ:Gam}{H:Hp}{ex:Exit}(h:At Q w0 A0 N (zs6 Γ) (H.map zns) ex)(hc:clH H=true:=by rfl):At Q w0 A0 N Γ H ex:=
 fun a w ⟨_,hG⟩=>h a w ⟨_,hG.dropg hc⟩
end Rc
namespace Go.Proofs.YtjeiacoegppoiaaGreatDoor
open Go Go.RowKit Rc
theorem zCB:zsn Tryz.prog 56 "Lower" = some 19:=by kernel_rfl
end Go.Proofs.YtjeiacoegppoiaaGreatDoor
