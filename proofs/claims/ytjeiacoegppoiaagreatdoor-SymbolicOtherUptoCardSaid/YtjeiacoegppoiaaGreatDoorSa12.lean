/- Parts of the proof, 12: the texts WlE2, WlF2, Sym, SymB, SymC, SymW, WlJ2, WlK2, as far as they are used. -/
import Derived.Test.YtjeiacoegppoiaaGreatDoorSa11
set_option linter.unusedSimpArgs false
set_option linter.unusedVariables false
set_option maxRecDepth 10000
namespace Go.Proofs.YtjeiacoegppoiaaGreatDoor
open Go Go.RowKit Rc
theorem zlN(r:Rw):Ctr Tryz.prog 216 [rwV r] (R.one (V.one (El.row muE (zko r)))):=by
 refine bd_ Tryz.func216 Tryz.ntmps216 rfl (fun w0 A0=>?_);refine zc 7 rfl (dr_ 0 [] [] (dz 1 rfl (kc_ zmA rfl (zmy 1 (by decide) (by decide)) (dz 1 rfl (ke_ rfl (fun _=>zae rfl zcE zbi zcU rfl (by decide) (by decide) rfl (by decide) rfl) (dz 1 rfl (zad (za 1 rfl ?_))))))));exact r1_ hq_ rfl rfl
theorem zBh(r:Rw):Ctr Tryz.prog 216 [rwV r] (R.one (V.one (Leaf.rep (zd3 1 (muE.all (zko r)))))):=by
 refine bd_ Tryz.func216 Tryz.ntmps216 rfl (fun w0 A0=>?_);refine zc 7 rfl (dr_ 0 [] [] (dz 1 rfl (kc_ zmA rfl (zmy 1 (by decide) (by decide)) (dz 1 rfl (ke_ rfl (fun _=>zmv rfl zcE zbi zcU rfl (by decide) (by decide) rfl (by decide) rfl) (dz 1 rfl (zad (za 1 rfl ?_))))))));exact r1_ hq_ rfl rfl
theorem zDB(s:Sc)(hs:SB 135001 s)(k:Nat)(j:Int):Ctr Tryz.prog 190 [scV s,V.one (Leaf.val (.int .i64 ((k:Int)))),V.one (Leaf.val (.int .i64 (j)))] (R.one (V.one (Leaf.val (.bool (zfm s.path k j))))):=by
 refine bd_ Tryz.func190 Tryz.ntmps190 rfl (fun w0 A0=>?_);have hB:=hs.B;have hq:=hs.q;have hd:=hs.d;have hpl:=hs.pl;have hl:=hs.ll;have hg:=hq.g;have hr:=hq.r;have hlo:=hr.lo;have hhi:=hr.hi;have h1:=hg.i1;have h2:=hg.i3;have h3:=hg.u4;have h4:=hg.o1;have h5:=hg.o3;refine zc 13 rfl (zbq (fun m Γ H=>∃(i:Nat),s.path.length-i=m/\Γ=[(1,some (D.val (.int .i64 (k:Int)))),(2,some (D.val (.int .i64 j))),(3,some (D.ptr 0 0)),(7,some (D.val (.int .i64 (i:Int))))]/\H=[hb_ 43 (scL s)]/\i<=s.path.length/\zuX s.path k j i=false) ⟨0,rfl,rfl,rfl,zEs _,rfl⟩ rfl ?_);rintro m Γ H ⟨i,rfl,rfl,rfl,hi0,hno⟩;refine zc 6 rfl (tq_ rfl (jln rfl) ?_);by_cases hi:i<s.path.length
 .refine tq_ rfl (ltT rfl) (zl 8 rfl ?_);obtain⟨x,hx⟩:∃x,s.path[i]?=some x:=⟨_,zEm hi⟩;have hxd:=hd x (zEn hx);refine dr_ 0 [] [] (dz 3 rfl (kq_ rfl (jix i hx rfl) (kq_ rfl (jfr rfl) (kq_ rfl (jli rfl) (dz 3 rfl ?_)))));refine zqg rfl (fun hk1=>?_) (fun hk1=>?_)
  .refine dz 19 rfl (zad (za 7 rfl (tq_ rfl (jad (i+1) rfl) (zl 2 rfl ?_))));exact nx_ ⟨i+1,rfl,rfl,rfl,hi,by rw[zcY hx,hno,hk1];rfl⟩ rfl
  .refine dz 3 rfl (kq_ rfl (jix i hx rfl) (kq_ rfl (jfr rfl) (kq_ rfl (jli rfl) (dz 4 rfl ?_))));refine zqg rfl (fun hk2=>?_) (fun hk2=>?_)
   .refine dz 9 rfl (zad (za 7 rfl (tq_ rfl (jad (i+1) rfl) (zl 2 rfl ?_))));exact nx_ ⟨i+1,rfl,rfl,rfl,hi,by rw[zcY hx,hno,hk1,hk2];rfl⟩ rfl
   .refine dz 5 rfl (kq_ rfl (jix i hx rfl) (kq_ rfl (jlr rfl) (kc_ fn96 rfl (zoB s.q hq x hxd (by omega)) (dz 1 rfl (zad (za 7 rfl ?_))))));exact r1_ hq_ rfl (by rw[zoG hx hk1 hk2])
 .refine tq_ rfl (ltF rfl) (zl 13 rfl ?_);exact r1_ hq_ rfl (by rw[<-zhK,<-show i=s.path.length by omega,hno])
theorem zBj(s:Sc)(hs:SB 135001 s)(j:Nat)(hj:j<s.q.g.us.length):Ctr Tryz.prog 126 [scV s,V.one (Leaf.val (.int .i64 ((j:Int))))] (R.tup [rwV (zcs s j),V.one (Leaf.val (.bool (zbr s j)))]):=by
 refine bd_ Tryz.func126 Tryz.ntmps126 rfl (fun w0 A0=>?_);have hB:=hs.B;have hq:=hs.q;have hd:=hs.d;have hpl:=hs.pl;have hl:=hs.ll;have hg:=hq.g;have hr:=hq.r;have hlo:=hr.lo;have hhi:=hr.hi;have h1:=hg.i1;have h2:=hg.i3;have h3:=hg.u4;have h4:=hg.o1;have h5:=hg.o3;refine zc 11 rfl (tc_ zzh rfl (ziR s (by assumption) (by omega) (by omega) (j:Int)) (zl 12 rfl (tc_ zCV rfl (zDB s (by assumption) 2 (j:Int)) (zl 2 rfl ?_))));refine zao rfl (fun hd1=>?_) (fun hd1=>?_)
 .refine zc 8 rfl ?_;exact r2_ hq_ rfl (by rw[zhB hd1,show zbr s j=true from by simp[zbr,hd1]])
 .refine zc 8 rfl ?_;by_cases h1:(zak s.lems (j:Int)).2≠0
  .refine tq_ rfl (gtT rfl) (zl 1 rfl ?_);obtain⟨z,hz,_,_,hlz,hz0,hzl⟩:=zbJ h1;haveI:=hB z (zEn hz);refine zl 3 rfl (tq_ rfl (jsb (((zak s.lems (j:Int)).2)-1) rfl) (tq_ rfl (jix ((zak s.lems (j:Int)).2-1) hz rfl) (tq_ rfl (jft rfl) (tq_ rfl (jlr rfl) (tc_ zg9 rfl (zbG z.v (z.v.q) rfl (Fq.use (x:=z.v) (by omega))) ?_)))));by_cases h2:z.v.q<=0
   .refine tq_ rfl (leT rfl (zh5.2 h2)) (zl 5 rfl ?_);exact r2_ hq_ rfl (by rw[ze7 hd1,show zbr s j=true from by simp[zbr,hd1,h1,hlz,h2]])
   .refine tq_ rfl (leF rfl (fun e=>h2 (zh5.1 e))) (zl 5 rfl ?_);exact r2_ hq_ rfl (by rw[ze7 hd1,show zbr s j=false from by simp[zbr,hd1,h1,hlz,h2]])
  .refine tq_ rfl (gtF rfl) (zl 15 rfl ?_);exact r2_ hq_ rfl (by rw[ze7 hd1,show zbr s j=false from by simp[zbr,hd1,h1]])
theorem on_r(s:Sc)(hs:SB 135001 s)(j:Nat)(hj:j<s.q.g.us.length):Ctr Tryz.prog 125 [scV s,V.one (Leaf.val (.int .i64 ((j:Int))))] (R.tup [rwV (zdd s j),V.one (Leaf.val (.bool (zdC s j)))]):=by
 refine bd_ Tryz.func125 Tryz.ntmps125 rfl (fun w0 A0=>?_);have hB:=hs.B;have hq:=hs.q;have hd:=hs.d;have hpl:=hs.pl;have hl:=hs.ll;have hg:=hq.g;have hr:=hq.r;have hlo:=hr.lo;have hhi:=hr.hi;have h1:=hg.i1;have h2:=hg.i3;have h3:=hg.u4;have h4:=hg.o1;have h5:=hg.o3;refine zc 11 rfl (tc_ zzh rfl (ziR s (by assumption) (by omega) (by omega) (j:Int)) (zl 12 rfl (tc_ zCV rfl (zDB s (by assumption) 1 (j:Int)) (zl 2 rfl ?_))));refine zao rfl (fun hd1=>?_) (fun hd1=>?_)
 .refine zc 8 rfl ?_;exact r2_ hq_ rfl (by rw[zkp hd1,show zdC s j=true from by simp[zdC,hd1]])
 .refine zc 8 rfl ?_;by_cases h1:(zak s.lems (j:Int)).1≠0
  .refine tq_ rfl (gtT rfl) (zl 1 rfl ?_);obtain⟨y,hy,_,_,hly,hy0,hyl⟩:=zbv h1;haveI:=hB y (zEn hy);refine zl 3 rfl (tq_ rfl (jsb (((zak s.lems (j:Int)).1)-1) rfl) (tq_ rfl (jix ((zak s.lems (j:Int)).1-1) hy rfl) (tq_ rfl (jft rfl) (tq_ rfl (jlr rfl) (tc_ zg9 rfl (zbG y.v (y.v.q) rfl (Fq.use (x:=y.v) (by omega))) ?_)))));by_cases h2:0<=y.v.q
   .refine tq_ rfl (geT rfl (zjb.2 h2)) (zl 5 rfl ?_);exact r2_ hq_ rfl (by rw[zgM hd1,show zdC s j=true from by simp[zdC,hd1,h1,hly,h2]])
   .refine tq_ rfl (geF rfl (fun e=>h2 (zjb.1 e))) (zl 5 rfl ?_);exact r2_ hq_ rfl (by rw[zgM hd1,show zdC s j=false from by simp[zdC,hd1,h1,hly,h2]])
  .refine tq_ rfl (gtF rfl) (zl 15 rfl ?_);exact r2_ hq_ rfl (by rw[zgM hd1,show zdC s j=false from by simp[zdC,hd1,h1]])
theorem zx7(s:Sc)(hs:SB 135001 s)(j:Nat)(hj:j<s.q.g.us.length):Ctr Tryz.prog 164 [scV s,V.one (Leaf.val (.int .i64 ((j:Int))))] (R.one (bdV (zpD s j).1.q (zpD s j).2 true)):=by
 refine bd_ Tryz.func164 Tryz.ntmps164 rfl (fun w0 A0=>?_);have hB:=hs.B;have hq:=hs.q;have hd:=hs.d;have hpl:=hs.pl;have hl:=hs.ll;have hg:=hq.g;have hr:=hq.r;have hlo:=hr.lo;have hhi:=hr.hi;have h1:=hg.i1;have h2:=hg.i3;have h3:=hg.u4;have h4:=hg.o1;have h5:=hg.o3;refine zc 10 rfl (tc_ zzh rfl (ziR s (by assumption) (by omega) (by omega) (j:Int)) (zl 9 rfl ?_));refine nz_ [so 1 (D.val (.int .i64 (j:Int))),so 2 (D.ptr 0 0),so 4 (D.ptr 1 0),so 5 (D.val (.int .i64 (((zak s.lems (j:Int)).1:Nat):Int)))] [hb_ 43 (scL s),hb_ 150 [Leaf.val (.bool false),zaf ([]),zaf ([]),El.row muE ([]),Leaf.val (.bool false)]] rfl rfl (zc 2 rfl ?_);by_cases h1:(zak s.lems (j:Int)).1=0
 .refine tq_ rfl (eqT rfl) (zl 15 rfl (nf_ [0] [so 1 _,so 4 _] [none,_] rfl rfl rfl (zc 2 rfl (eq_ (D.agg (qL 0)) rfl (zBa) (zl 2 rfl (tc_ zjh rfl (zlN ⟨5,(j:Int),0,0⟩) (zl 4 rfl ?_)))))));exact r1_ hq_ rfl (by rw[zoj (fun e=>e.1 h1)];show R.one (bdV 0 _ _)=R.one (bdV qZero.q _ _);rw[zdW])
 .refine tq_ rfl (eqF rfl) (zl 1 rfl ?_);obtain⟨y,hy,_,_,hly,hy0,hyl⟩:=zbv h1;haveI:=hB y (zEn hy);refine zl 3 rfl (tq_ rfl (jsb (((zak s.lems (j:Int)).1)-1) rfl) (tq_ rfl (jix ((zak s.lems (j:Int)).1-1) hy rfl) (tq_ rfl (jft rfl) (tq_ rfl (jlr rfl) (tc_ zg9 rfl (zbG y.v (y.v.q) rfl (Fq.use (x:=y.v) (by omega))) ?_)))));by_cases h2:y.v.q<=0
  .refine tq_ rfl (leT rfl (zh5.2 h2)) (zl 5 rfl (nf_ [0] [so 1 _,so 4 _] [none,_] rfl rfl rfl (zc 2 rfl (eq_ (D.agg (qL 0)) rfl (zBa) (zl 2 rfl (tc_ zjh rfl (zlN ⟨5,(j:Int),0,0⟩) (zl 4 rfl ?_)))))));exact r1_ hq_ rfl (by rw[zoj (fun e=>by rw[hly] at e;grind)];show R.one (bdV 0 _ _)=R.one (bdV qZero.q _ _);rw[zdW])
  .refine tq_ rfl (leF rfl (fun e=>h2 (zh5.1 e))) (zl 7 rfl (nz_ [so 1 _,so 2 _,so 4 _,so 5 _] [_,_] rfl rfl (zc 3 rfl (tc_ zjh rfl (zBh ⟨6,(j:Int),0,0⟩) (zl 3 rfl (tc_ zjh rfl (zlN ⟨11,(j:Int),((zak s.lems (j:Int)).1:Int),0⟩) ?_))))));obtain⟨ti3,hi3,hz3,hs3,hb3⟩:=zuy;refine te_ rfl (zdf rfl rfl rfl rfl rfl (by decide) Nat.zero_lt_one zcE zcE hi3 hz3 hs3 rfl (by show 1+1<=maxLen;decide) (by show(1+1)*_<=_;rw[hb3];omega) (nm:=2) rfl (ls:=(muE.all [⟨⟨6,(j:Int),0,0⟩,qOf ((1:Int):Rat)⟩,⟨⟨11,(j:Int),((zak s.lems (j:Int)).1:Int),0⟩,qOf ((1:Int):Rat)⟩])) rfl _) (zl 8 rfl ?_);refine tq_ rfl (jsb (((zak s.lems (j:Int)).1)-1) rfl) (tq_ rfl (jix ((zak s.lems (j:Int)).1-1) hy rfl) (tq_ rfl (jft rfl) (tq_ rfl (jlr rfl) (tc_ zmz rfl (zb6 y.v (y.v.q) rfl (Fq.use (x:=y.v) (by omega))) (zl 5 rfl ?_)))));exact r1_ hq_ rfl (by rw[zwu ⟨h1,by rw[hly];grind⟩,zc6 hy] <;> rfl)
set_option maxHeartbeats 2000000 in
theorem zBC(s:Sc)(hs:SB 135001 s)(j:Nat)(hj:j<s.q.g.us.length):Ctr Tryz.prog 163 [scV s,V.one (Leaf.val (.int .i64 ((j:Int))))] (R.one (bdV (zhm s j).1.q (zhm s j).2.1 (zhm s j).2.2)):=by
 refine bd_ Tryz.func163 Tryz.ntmps163 rfl (fun w0 A0=>?_);have hB:=hs.B;have hq:=hs.q;have hd:=hs.d;have hpl:=hs.pl;have hl:=hs.ll;have hg:=hq.g;have hr:=hq.r;have hlo:=hr.lo;have hhi:=hr.hi;have h1:=hg.i1;have h2:=hg.i3;have h3:=hg.u4;have h4:=hg.o1;have h5:=hg.o3;refine zc 10 rfl (tc_ zDb rfl (zBj s (by assumption) j (by omega)) (zl 10 rfl (nz_ [so 1 _,so 2 _,so 4 _,so 5 (D.ptr 2 0),so 6 (D.bool (zbr s j))] [_,_,hb_ 107 [Leaf.val (.int .i64 ((zcs s j).kind)),Leaf.val (.int .i64 ((zcs s j).idx)),Leaf.val (.int .i64 ((zcs s j).lo)),Leaf.val (.int .i64 ((zcs s j).hi))]] rfl rfl (zc 4 rfl ?_))));refine zao rfl (fun hof=>?_) (fun hof=>?_)
 .refine zc 3 rfl (eq_ (D.agg (qL 0)) rfl (zBa) (zl 1 rfl (tc_ zjh rfl (zlN (zcs s j)) (zl 4 rfl ?_))));exact r1_ hq_ rfl (by rw[zcn (ziw hof)];show R.one (bdV 0 _ _)=R.one (bdV qZero.q _ _);rw[zdW])
 .refine zc 6 rfl (tc_ zzh rfl (ziR s (by assumption) (by omega) (by omega) (j:Int)) (zl 8 rfl (nz_ [so 1 _,so 2 _,so 4 _,so 5 _,so 7 (D.val (.int .i64 (((zak s.lems (j:Int)).1:Nat):Int))),so 8 (D.val (.int .i64 (((zak s.lems (j:Int)).2:Nat):Int)))] [_,_,_] rfl rfl (zc 3 rfl (tc_ zDc rfl (on_r s (by assumption) j (by omega)) ?_)))));refine zl 9 rfl (nz_ [so 1 _,so 2 _,so 4 _,so 5 _,so 7 _,so 8 _,so 9 (D.bool (zdC s j))] [_,_,hb_ 107 [Leaf.val (.int .i64 ((zdd s j).kind)),Leaf.val (.int .i64 ((zdd s j).idx)),Leaf.val (.int .i64 ((zdd s j).lo)),Leaf.val (.int .i64 ((zdd s j).hi))]] rfl rfl (zc 2 rfl ?_));by_cases hh:(zak s.lems (j:Int)).2=0
  .refine tq_ rfl (eqT rfl) (zl 12 rfl (nf_ [0,2] [so 4 _] [none,_,none] rfl rfl rfl (zc 2 rfl (eq_ (D.agg (bdL 0 [] false)) rfl (bdZ) (zl 3 rfl ?_)))));exact r1_ hq_ rfl (by rw[zfd (zos hof hh)];show R.one (bdV 0 _ _)=R.one (bdV qZero.q _ _);rw[zdW])
  .refine tq_ rfl (eqF rfl) ?_;obtain⟨z,hz,_,_,hlz,hz0,hzl⟩:=zbJ hh;haveI:=hB z (zEn hz);refine zl 4 rfl ?_;refine zdT rfl (fun hon=>?_) (fun hon=>?_)
   .have hon1:zdC s j=true:=by simpa using hon
    refine zl 10 rfl (nz_ [so 1 _,so 2 _,so 4 _,so 5 _,so 7 _,so 8 _,so 9 _] [_,_,_] rfl rfl (zc 4 rfl (tq_ rfl (jsb (((zak s.lems (j:Int)).2)-1) rfl) (tq_ rfl (jix ((zak s.lems (j:Int)).2-1) hz rfl) (tq_ rfl (jft rfl) (tq_ rfl (jlr rfl) (zl 5 rfl ?_)))))));refine nz_ [so 1 _,so 2 _,so 4 _,so 5 _,so 7 _,so 8 _,so 9 _,so 10 (D.ptr 3 0)] [_,_,_,hb_ 36 [Leaf.val (.bool z.v.neg),zaf z.v.n,zaf z.v.d]] rfl rfl (zc 14 rfl ?_);refine zao rfl (fun hon2=>?_) (fun hon2=>?_)
    .refine zc 1 rfl (dr_ 0 [(8,1)] [1] (dz 1 rfl (kc_ zmz rfl (zb6 z.v (z.v.q) rfl (Fq.use (x:=z.v) (by omega))) (dz 1 rfl (kc_ zjh rfl (zBh (zdd s j)) (dz 1 rfl (kc_ zjh rfl (zlN ⟨12,(j:Int),0,((zak s.lems (j:Int)).2:Int)⟩) ?_)))))));obtain⟨ti2,hi2,hz2,hs2,hb2⟩:=zuy;refine ke_ rfl (fun _=>zdf rfl rfl rfl rfl rfl (by decide) Nat.zero_lt_one zcE zcE hi2 hz2 hs2 rfl (by show 1+1<=maxLen;decide) (by show(1+1)*_<=_;rw[hb2];omega) (nm:=2) rfl (ls:=(muE.all [⟨(zdd s j),qOf ((1:Int):Rat)⟩,⟨⟨12,(j:Int),0,((zak s.lems (j:Int)).2:Int)⟩,qOf ((1:Int):Rat)⟩])) rfl _) (dz 2 rfl (zad (za 1 rfl ?_)));exact r1_ hq_ rfl (by rw[zcn (zkw hof hh hon1),zc6 hz] <;> rfl)
    .rw[hon1] at hon2;cases hon2
   .have hnon:zdC s j=false:=by simpa using hon
    refine zl 1 rfl ?_;by_cases hl0:(zak s.lems (j:Int)).1=0
    .refine tq_ rfl (eqT rfl) (zl 6 rfl (nf_ [0,2] [so 4 _] [none,_,none] rfl rfl rfl (zc 2 rfl (eq_ (D.agg (bdL 0 [] false)) rfl (bdZ) (zl 3 rfl ?_)))));exact r1_ hq_ rfl (by rw[zfd (zor hof hh hnon hl0)];show R.one (bdV 0 _ _)=R.one (bdV qZero.q _ _);rw[zdW])
    .refine tq_ rfl (eqF rfl) (zl 12 rfl (tq_ rfl (jsb (((zak s.lems (j:Int)).2)-1) rfl) (tq_ rfl (jix ((zak s.lems (j:Int)).2-1) hz rfl) (tq_ rfl (jft rfl) (tq_ rfl (jlr rfl) (zl 5 rfl (nz_ [so 1 _,so 2 _,so 4 _,so 5 _,so 7 _,so 8 _,so 9 _,so 10 (D.ptr 3 0)] [_,_,_,hb_ 36 [Leaf.val (.bool z.v.neg),zaf z.v.n,zaf z.v.d]] rfl rfl (zc 14 rfl ?_))))))));refine zao rfl (fun hon2=>?_) (fun hon2=>?_)
     .rw[hnon] at hon2;cases hon2
     .refine zc 3 rfl ?_;obtain⟨y,hy,_,_,hly,hy0,hyl⟩:=zbv hl0;haveI:=hB y (zEn hy);have hne:z.v.q-y.v.q≠0:=by have:=zvY hof hh hnon hl0;rwa [zc6 hz,zc6 hy] at this
      refine dr_ 1 [(14,5),(15,5)] [5] (kc_ zmA rfl (zmy 1 (by decide) (by decide)) (dz 4 rfl (kq_ rfl (jsb (((zak s.lems (j:Int)).1)-1) rfl) (kq_ rfl (jix ((zak s.lems (j:Int)).1-1) hy rfl) (kq_ rfl (jft rfl) (kq_ rfl (jlr rfl) (kc_ zzd rfl (zmO z.v (z.v.q) rfl (Fq.use (x:=z.v) (by omega)) y.v (y.v.q) rfl (Fq.use (x:=y.v) (by omega))) ?_)))))));refine kc_ zuN rfl (zt8 (qOf (((1:Int):Rat))) (((1:Int):Rat)) (zaj _) (Br.use (by omega)) (qOf ((z.v.q)-(y.v.q))) ((z.v.q)-(y.v.q)) (zaj _) (Br.use (by omega)) (by assumption)) (dz 6 rfl (zad (za 2 rfl ?_)));refine nf_ [0,2] [so 1 _,so 4 _,so 7 _,so 8 _,so 10 _,so 11 (D.ptr 4 0),so 12 (D.ptr 5 0)] [none,_,none,_,hb_ 107 [Leaf.val (.int .i64 12),Leaf.val (.int .i64 (j:Int)),Leaf.val (.int .i64 0),Leaf.val (.int .i64 (((zak s.lems (j:Int)).2:Nat):Int))],hb_ 36 (qL ((((1:Int):Rat))/((z.v.q)-(y.v.q))))] rfl rfl rfl (zc 10 rfl ?_);refine dr_ 0 [(12,1)] [1] (dz 1 rfl (kc_ zmz rfl (zb6 z.v (z.v.q) rfl (Fq.use (x:=z.v) (by omega))) (dz 3 rfl (kc_ zwC rfl (zlz (qOf ((((1:Int):Rat))/((z.v.q)-(y.v.q)))) ((((1:Int):Rat))/((z.v.q)-(y.v.q))) (zaj _) (Br.use (by omega)) z.v (z.v.q) rfl (Fq.use (x:=z.v) (by omega))) (dz 4 rfl ?_)))));refine ke_ rfl (fun _=>zae rfl zcE zbi zcU rfl (by decide) (by decide) rfl (by decide) rfl) (dz 2 rfl (zad (za 1 rfl ?_)));exact r1_ hq_ rfl (by rw[zcn (zlV hof hh hnon hl0),zc6 hz,zc6 hy,Rat.mul_comm] <;> rfl)
theorem zBO(s:Sc)(hs:SB 135001 s)(i:Nat)(hi:i<s.q.g.inp)(up:Bool):Ctr Tryz.prog 162 [scV s,V.one (Leaf.val (.int .i64 ((i:Int)))),V.one (Leaf.val (.bool up))] (R.one (bdV (zkv s i up).1 (zko (zkv s i up).2) true)):=by
 refine bd_ Tryz.func162 Tryz.ntmps162 rfl (fun w0 A0=>?_);have hB:=hs.B;have hq:=hs.q;have hd:=hs.d;have hpl:=hs.pl;have hl:=hs.ll;have hg:=hq.g;have hr:=hq.r;have hlo:=hr.lo;have hhi:=hr.hi;have h1:=hg.i1;have h2:=hg.i3;have h3:=hg.u4;have h4:=hg.o1;have h5:=hg.o3;obtain⟨a0,ha0⟩:∃a,s.q.r.lo[i]?=some a:=⟨_,zEm (by omega)⟩;obtain⟨c0,hc0⟩:∃a,s.q.r.hi[i]?=some a:=⟨_,zEm (by omega)⟩;have ha:s.q.r.lo[i]?=some ((s.q.r.lo[i]?).getD 0):=by rw[ha0];rfl
 have hc_:s.q.r.hi[i]?=some ((s.q.r.hi[i]?).getD 0):=by rw[hc0];rfl
 refine zc 16 rfl (dr_ 1 [(9,3),(10,3)] [3] (dz 3 rfl (kq_ rfl (jix i ha rfl) (kq_ rfl (jlr rfl) (dz 2 rfl (kc_ zjh rfl (zlN ⟨1,(i:Int),0,0⟩) (dz 3 rfl (zad (za 2 rfl ?_)))))))));refine nz_ [so 1 (D.val (.int .i64 (i:Int))),so 2 (D.bool up),so 3 (D.ptr 0 0),so 6 (D.ptr 1 0),so 7 (D.ptr 2 0),so 8 (D.ptr 3 0)] [hb_ 43 (scL s),_,hb_ 31 [El.row ratE s.q.r.lo,El.row ratE s.q.r.hi,El.row afE s.q.r.rows],hb_ 150 [Leaf.val (.bool (zaR ((s.q.r.lo[i]?).getD 0))),zaf (zaa (zav ((s.q.r.lo[i]?).getD 0))),zaf (zaa (zaC ((s.q.r.lo[i]?).getD 0))),El.row muE (zko ⟨1,(i:Int),0,0⟩),Leaf.val (.bool true)]] rfl rfl ?_;refine zc 5 rfl ?_;refine mt_ [so 1 (D.val (.int .i64 (i:Int))),so 3 (D.ptr 0 0),so 6 (D.ptr 1 0),so 8 (D.ptr 3 0),so 9 (D.val (.int .i64 (((if up=true then 4 else 3):Nat):Int))),so 10 (D.val (.int .i64 (if up=true then(-1:Int) else 1)))] [hb_ 43 (scL s),hb_ 150 [Leaf.val (.bool false),zaf ([]),zaf ([]),El.row muE ([]),Leaf.val (.bool false)],none,hb_ 150 [Leaf.val (.bool (zaR ((zoq s i up).1))),zaf (zaa (zav ((zoq s i up).1))),zaf (zaa (zaC ((zoq s i up).1))),El.row muE (zko (zoq s i up).2),Leaf.val (.bool true)]] ?_ ?_
 .refine zc 5 rfl ?_;refine zao rfl (fun hup=>?_) (fun hup=>?_)
  .subst hup;refine zc 1 rfl (dr_ 0 [(9,3)] [3] (dz 3 rfl (kq_ rfl (jix i hc_ rfl) (kq_ rfl (jlr rfl) (dz 2 rfl (kc_ zjh rfl (zlN ⟨2,(i:Int),0,0⟩) (dz 2 rfl (zad (za 1 rfl ?_)))))))));refine nf_ [2] [so 1 _,so 3 _,so 6 _,so 8 _] [_,_,none,hb_ 150 [Leaf.val (.bool (zaR ((s.q.r.hi[i]?).getD 0))),zaf (zaa (zav ((s.q.r.hi[i]?).getD 0))),zaf (zaa (zaC ((s.q.r.hi[i]?).getD 0))),El.row muE (zko ⟨2,(i:Int),0,0⟩),Leaf.val (.bool true)]] rfl rfl rfl (zc 4 rfl ?_);exact mx_ rfl
  .subst hup;refine zc 1 rfl (zal 2 ?_);exact mx_ rfl
 .refine zc 7 rfl ?_;refine zbq (fun m Γ H=>∃(n:Nat) (b:Rat×Rw),s.path.length-n=m/\Γ=[(1,some (D.val (.int .i64 (i:Int)))),(3,some (D.ptr 0 0)),(6,some (D.ptr 1 0)),(8,some (D.ptr 3 0)),(9,some (D.val (.int .i64 (((if up=true then 4 else 3):Nat):Int)))),(10,some (D.val (.int .i64 (if up=true then(-1:Int) else 1)))),(11,some (D.val (.int .i64 (n:Int))))]/\H=[hb_ 43 (scL s),hb_ 150 [Leaf.val (.bool false),zaf ([]),zaf ([]),El.row muE ([]),Leaf.val (.bool false)],none,hb_ 150 [Leaf.val (.bool (zaR b.1)),zaf (zaa (zav b.1)),zaf (zaa (zaC b.1)),El.row muE (zko b.2),Leaf.val (.bool true)]]/\n<=s.path.length/\b=zjJ s i up n) ⟨0,zoq s i up,rfl,rfl,rfl,zEs _,rfl⟩ rfl ?_;rintro m Γ H ⟨n,b,rfl,rfl,rfl,hn0,hb⟩;refine zc 6 rfl (tq_ rfl (jln rfl) ?_);by_cases hn:n<s.path.length
  .refine tq_ rfl (ltT rfl) (zl 8 rfl ?_);obtain⟨d,hdx⟩:∃d,s.path[n]?=some d:=⟨_,zEm hn⟩;have hdo:=hd d (zEn hdx);haveI:=hdo.2.br;haveI hbb:Br b.1 201:=by rw[hb];exact zrU hs hi up (by omega)
   obtain⟨hg1,hg2⟩:=zBP (up:=up) (a:=d.pt) (b:=b.1);refine zc 4 rfl (tq_ rfl (jix n hdx rfl) (tq_ rfl (jlr rfl) (zl 5 rfl ?_)));refine nz_ [so 1 (D.val (.int .i64 (i:Int))),so 3 (D.ptr 0 0),so 6 (D.ptr 1 0),so 8 (D.ptr 3 0),so 9 (D.val (.int .i64 (((if up=true then 4 else 3):Nat):Int))),so 10 (D.val (.int .i64 (if up=true then(-1:Int) else 1))),so 11 (D.val (.int .i64 (n:Int))),so 12 (D.ptr 4 0)] [hb_ 43 (scL s),hb_ 150 [Leaf.val (.bool false),zaf ([]),zaf ([]),El.row muE ([]),Leaf.val (.bool false)],none,hb_ 150 [Leaf.val (.bool (zaR b.1)),zaf (zaa (zav b.1)),zaf (zaa (zaC b.1)),El.row muE (zko b.2),Leaf.val (.bool true)],hb_ 76 [Leaf.val (.int .i64 ((d.kind:Nat):Int)),Leaf.val (.int .i64 ((d.idx:Nat):Int)),Leaf.val (.bool (zaR d.pt)),zaf (zaa (zav d.pt)),zaf (zaa (zaC d.pt))]] rfl rfl ?_;refine zc 4 rfl ?_;by_cases hk:d.kind=(if up=true then 4 else 3)
   .refine tq_ rfl (eqT rfl (by rw[hk])) (zl 4 rfl ?_);by_cases hx:d.idx=i
    .refine tq_ rfl (eqT rfl) (zl 5 rfl (tc_ fn96 rfl (zoB s.q hq d hdo (by omega)) (zl 7 rfl (tc_ zzi rfl (zmP (qOf (d.pt)) (d.pt) (zaj _) (Br.use (by omega)) (qOf (b.1)) (b.1) (zaj _) (Br.use (by omega))) (tq_ rfl (zfv rfl rfl rfl (r:=((if up=true then(-1:Int) else 1)*zfg d.pt b.1)) (w64 rfl (by omega) (by omega))) ?_)))));by_cases hc:(if up=true then d.pt<b.1 else b.1<d.pt)
     .refine tq_ rfl (gtT rfl (zrT.2 hc)) (zl 4 rfl (nz_ [so 1 _,so 3 _,so 6 _,so 8 _,so 9 _,so 10 _,so 11 _,so 12 _] [_,_,none,_,_] rfl rfl (dr_ 0 [(6,3)] [3] (dz 4 rfl (kc_ zjh rfl (zlN ⟨4,(n:Int),0,0⟩) (dz 2 rfl (zad (za 4 rfl (tq_ rfl (jad (n+1) rfl) ?_)))))))));refine zl 2 rfl (zal 4 (zaK 4 rfl ?_));exact nx_ ⟨n+1,(d.pt,⟨4,(n:Int),0,0⟩),rfl,rfl,rfl,hn,(by rw[hb] at hc;exact(zwA hdx ⟨hk,hx,hc⟩).symm)⟩ rfl
     .refine tq_ rfl (gtF rfl (fun e=>hc (zrT.1 e))) (zl 7 rfl (nf_ [4] [so 1 _,so 3 _,so 6 _,so 8 _,so 9 _,so 10 _,so 11 _] [_,_,none,_,none] rfl rfl rfl (zc 2 rfl (tq_ rfl (jad (n+1) rfl) (zl 2 rfl (zaK 4 rfl ?_))))));exact nx_ ⟨n+1,b,rfl,rfl,rfl,hn,(by rw[hb];exact(zjI hdx (fun e=>hc (by rw[hb];exact e.2.2))).symm)⟩ rfl
    .refine tq_ rfl (eqF rfl) (zl 23 rfl (nf_ [4] [so 1 _,so 3 _,so 6 _,so 8 _,so 9 _,so 10 _,so 11 _] [_,_,none,_,none] rfl rfl rfl (zc 2 rfl (tq_ rfl (jad (n+1) rfl) (zl 2 rfl (zaK 4 rfl ?_))))));exact nx_ ⟨n+1,b,rfl,rfl,rfl,hn,(by rw[hb];exact(zjI hdx (fun e=>hx e.2.1)).symm)⟩ rfl
   .refine tq_ rfl (eqF rfl (fun e=>hk (Int.ofNat_inj.1 e))) (zl 24 rfl (zc 4 rfl (nf_ [4] [so 1 _,so 3 _,so 6 _,so 8 _,so 9 _,so 10 _,so 11 _] [_,_,none,_,none] rfl rfl rfl (zc 2 rfl (tq_ rfl (jad (n+1) rfl) (zl 2 rfl (zaK 4 rfl ?_)))))));exact nx_ ⟨n+1,b,rfl,rfl,rfl,hn,(by rw[hb];exact(zjI hdx (fun e=>hk e.1)).symm)⟩ rfl
  .refine tq_ rfl (ltF rfl) (zl 9 rfl ?_);have hie:n=s.path.length:=by omega
   rw[hie] at hb;refine zc 5 rfl ?_;exact r1_ hq_ rfl (by unfold zkv;rw[<-hb])
theorem of_r(s:Sc)(hs:SB 135001 s)(v:Nat)(hv:v<(s.q.g.inp+s.q.g.us.length))(up:Bool):Ctr Tryz.prog 94 [scV s,V.one (Leaf.val (.int .i64 ((v:Int)))),V.one (Leaf.val (.bool up))] (R.one (bdV (zbF s v up).1.q (zbF s v up).2.1 (zbF s v up).2.2)):=by
 refine bd_ Tryz.func94 Tryz.ntmps94 rfl (fun w0 A0=>?_);have hB:=hs.B;have hq:=hs.q;have hd:=hs.d;have hpl:=hs.pl;have hl:=hs.ll;have hg:=hq.g;have hr:=hq.r;have hlo:=hr.lo;have hhi:=hr.hi;have h1:=hg.i1;have h2:=hg.i3;have h3:=hg.u4;have h4:=hg.o1;have h5:=hg.o3;refine zc 21 rfl (tc_ zzf rfl (zeq s.q hq) (zl 3 rfl (tq_ rfl (ltF rfl) (zl 6 rfl (tc_ zAv rfl (zjo s.q.g (by assumption)) (tq_ rfl (geF rfl) (zl 9 rfl ?_)))))));by_cases hvi:v<s.q.g.inp
 .refine tq_ rfl (ltT rfl) (zl 9 rfl (tc_ fn162 rfl (zBO s hs v hvi up) (zl 3 rfl ?_)));exact r1_ hq_ rfl (by rw[zsP hvi];show R.one (bdV (zkv s v up).1 _ _)=R.one (bdV (qOf (zkv s v up).1).q _ _);rw[zaj])
 .refine tq_ rfl (ltF rfl) (zl 10 rfl ?_);refine zao rfl (fun hup=>?_) (fun hup=>?_)
  .refine zc 5 rfl (tq_ rfl (jsb (v-s.q.g.inp) rfl) (tc_ fn163 rfl (zBC s (by assumption) (v-s.q.g.inp) (by omega)) (zl 3 rfl ?_)));exact r1_ hq_ rfl (by rw[hup,zsN hvi])
  .refine zc 8 rfl (tq_ rfl (jsb (v-s.q.g.inp) rfl) (tc_ fn164 rfl (zx7 s (by assumption) (v-s.q.g.inp) (by omega)) (zl 3 rfl ?_)));exact r1_ hq_ rfl (by rw[hup,zsO hvi])
set_option maxHeartbeats 2000000 in
theorem boxr(s:Sc)(hs:SB 135001 s)(f:Af){b:Nat}(hf:FOk b (s.q.g.inp+s.q.g.us.length) f)(hb:b<=600000000):Ctr Tryz.prog 41 [scV s,afV f] (R.tup [qV (qOf (zb4 s f).1),V.one (El.row muE (zb4 s f).2.1),V.one (Leaf.val (.bool (zb4 s f).2.2))]):=by
 refine bd_ Tryz.func41 Tryz.ntmps41 rfl (fun w0 A0=>?_);have hB:=hs.B;have hq:=hs.q;have hd:=hs.d;have hpl:=hs.pl;have hl:=hs.ll;have hg:=hq.g;have hr:=hq.r;have hlo:=hr.lo;have hhi:=hr.hi;have h1:=hg.i1;have h2:=hg.i3;have h3:=hg.u4;have h4:=hg.o1;have h5:=hg.o3;have hfl:=hf.fl;haveI:=hfl.fm (by omega);haveI:=hfl.cb;have h7:=hfl.len7 hq;refine zc 11 rfl (dr_ 0 [] [] (dz 2 rfl (kc_ zzf rfl (zeq s.q hq) (dz 6 rfl (kc_ zAv rfl (zjo s.q.g (by assumption)) (kc_ zAw rfl (zfT f hf (by omega) (s.q.g.inp+s.q.g.us.length) (zEq _) (by omega)) (dz 2 rfl (zad (za 5 rfl ?_)))))))));refine nz_ [so 2 (D.ptr 0 0),so 3 (D.ptr 1 0),so 4 (D.ptr 2 0)] [hb_ 43 (scL s),hb_ 38 (afL f),hb_ 36 [Leaf.val (.bool false),zaf ([]),zaf ([])]] rfl rfl (zc 19 rfl ?_);refine zbq (fun m Γ H=>∃(i:Nat) (x:Rat) (l:List Mu),f.ts.length-i=m/\Γ=[(2,some (D.ptr 0 0)),(3,some (D.ptr 1 0)),(4,some (D.ptr 2 0)),(7,some (D.ptr 3 0)),(8,some (D.v (V.one (El.row muE l)))),(9,some (D.val (.int .i64 (i:Int))))]/\H=[hb_ 43 (scL s),hb_ 38 (afL f),hb_ 36 [Leaf.val (.bool false),zaf ([]),zaf ([])],hb_ 36 (qL x)]/\i<=f.ts.length/\zjP s f i=some (x,l)) ⟨0,f.c,[],rfl,rfl,rfl,zEs _,rfl⟩ rfl ?_;rintro m Γ H ⟨i,x,l,rfl,rfl,rfl,hi0,hR⟩;refine zc 6 rfl (tq_ rfl (jln rfl) ?_);by_cases hi:i<f.ts.length
 .refine tq_ rfl (ltT rfl) (zl 8 rfl ?_);obtain⟨t,ht⟩:∃t,f.ts[i]?=some t:=⟨_,zEm hi⟩;have htm:=zEn ht;have htv:=hf.var t htm;haveI htb:Br t.2 (b+1):=(hf.bd t htm).br;have hbo:=zmc hs hfl i (by omega) x _ hR;have htl:(f.ts.take i).length<=7:=by rw[zED];omega
  have hmul:=zEx (135001+(b+1)+210) htl;have hmul2:=zEx (8*135001+2*(b+1)+40) htl;haveI:Br x (b+1+7*(135001+(b+1)+210)):=hbo.br.mono (by omega);have hlb:=hbo.der.bd;have hll:=hbo.der.len;refine nz_ [so 2 (D.ptr 0 0),so 3 (D.ptr 1 0),so 4 (D.ptr 2 0),so 7 (D.ptr 3 0),so 8 (D.v (V.one (El.row muE l))),so 9 (D.val (.int .i64 (i:Int)))] [hb_ 43 (scL s),hb_ 38 (afL f),hb_ 36 [Leaf.val (.bool false),zaf ([]),zaf ([])],hb_ 36 (qL x)] rfl rfl (zc 4 rfl (tq_ rfl (jix i ht rfl) (tq_ rfl (jlr rfl) (zl 5 rfl (dr_ 1 [(8,5),(9,5)] [5] (dz 5 rfl ?_))))));refine kc_ zg9 rfl (zbG (qOf (t.2)) (t.2) (zaj _) (Br.use (by omega))) (kq_ rfl (zmo rfl rfl rfl (b:=(decide (t.2<0))) (decide_eq_decide.2 zkb)) (kc_ fn94 rfl (of_r s hs t.1 htv (decide (t.2<0))) (dz 2 rfl (zad (za 3 rfl ?_)))));refine nz_ [so 2 _,so 3 _,so 4 _,so 7 _,so 8 _,so 9 _,so 10 (D.ptr 4 0),so 11 (D.ptr 5 0)] [_,_,_,_,hb_ 103 [Leaf.val (.int .i64 ((t.1:Nat):Int)),Leaf.val (.bool (zaR t.2)),zaf (zaa (zav t.2)),zaf (zaa (zaC t.2))],hb_ 150 [Leaf.val (.bool (zaR ((zbF s t.1 (decide (t.2<0))).1.q))),zaf (zaa (zav ((zbF s t.1 (decide (t.2<0))).1.q))),zaf (zaa (zaC ((zbF s t.1 (decide (t.2<0))).1.q))),El.row muE ((zbF s t.1 (decide (t.2<0))).2.1),Leaf.val (.bool ((zbF s t.1 (decide (t.2<0))).2.2))]] rfl rfl ?_;refine zc 6 rfl ?_;refine zao rfl (fun hok=>?_) (fun hok=>?_)
  .refine zc 8 rfl ?_;exact r3_ hq_ rfl (by rw[zsE ht hR (by simpa using hok)];show _=R.tup [qV (qOf 0),_,_];rw[<-zcf] <;> rfl)
  .refine zc 3 rfl ?_;have hok1:(zbF s t.1 (decide (t.2<0))).2.2=true:=by simpa using hok
   have hbk:=zsL hs htv (zoT hok1);haveI:Br (zbF s t.1 (decide (t.2<0))).1.q 135202:=by haveI:=hbk.fq;exact(inferInstance:Fq (zbF s t.1 (decide (t.2<0))).1 _).br
   have hst:=hbk.step;have hsl:=hst.len;refine dr_ 0 [(7,3)] [3] (kp_ [] rfl (zaJ rfl rfl rfl (by decide) zmx (by decide) (zEt rfl) rfl) (dz 4 rfl (kc_ zwC rfl (zlz (qOf (t.2)) (t.2) (zaj _) (Br.use (by omega)) (qOf ((zbF s t.1 (decide (t.2<0))).1.q)) ((zbF s t.1 (decide (t.2<0))).1.q) (zaj _) (Br.use (by omega))) ?_)));refine kc_ zze rfl (zmQ (qOf (x)) (x) (zaj _) (Br.use (by omega)) (qOf ((t.2)*((zbF s t.1 (decide (t.2<0))).1.q))) ((t.2)*((zbF s t.1 (decide (t.2<0))).1.q)) (zaj _) (Br.use (by omega))) (dz 1 rfl (zad (za 2 rfl ?_)));refine nz_ [so 2 _,so 3 _,so 4 _,so 7 _,so 8 _,so 9 _,so 10 _,so 11 _] [_,_,_,hb_ 36 (qL ((x)+((t.2)*((zbF s t.1 (decide (t.2<0))).1.q)))),_,_] rfl rfl (zc 19 rfl (fr_ [4] rfl ?_));refine zbq (fun m Γ H=>∃(k:Nat) (l2:List Mu),(zbF s t.1 (decide (t.2<0))).2.1.length-k=m/\Γ=[(2,some (D.ptr 0 0)),(3,some (D.ptr 1 0)),(4,some (D.ptr 2 0)),(7,some (D.ptr 3 0)),(8,some (D.v (V.one (El.row muE l2)))),(9,some (D.val (.int .i64 (i:Int)))),(11,some (D.ptr 5 0)),(12,some (D.ptr 6 0)),(13,some (D.val (.int .i64 (k:Int))))]/\H=[hb_ 43 (scL s),hb_ 38 (afL f),hb_ 36 [Leaf.val (.bool false),zaf ([]),zaf ([])],hb_ 36 (qL ((x)+((t.2)*((zbF s t.1 (decide (t.2<0))).1.q)))),none,hb_ 150 [Leaf.val (.bool (zaR ((zbF s t.1 (decide (t.2<0))).1.q))),zaf (zaa (zav ((zbF s t.1 (decide (t.2<0))).1.q))),zaf (zaa (zaC ((zbF s t.1 (decide (t.2<0))).1.q))),El.row muE ((zbF s t.1 (decide (t.2<0))).2.1),Leaf.val (.bool ((zbF s t.1 (decide (t.2<0))).2.2))],hb_ 36 [Leaf.val (.bool false),zaf (zaa (zav t.2)),zaf (zaa (zaC t.2))]]/\k<=(zbF s t.1 (decide (t.2<0))).2.1.length/\l2=zaV l ((zbF s t.1 (decide (t.2<0))).2.1.take k) (rq false (zav t.2) (zaC t.2))) ⟨0,l,rfl,rfl,rfl,zEs _,rfl⟩ rfl ?_;rintro m Γ H ⟨k,l2,rfl,rfl,rfl,hk0,hl2⟩;refine zc 6 rfl (tq_ rfl (jln rfl) ?_);by_cases hk:k<(zbF s t.1 (decide (t.2<0))).2.1.length
   .refine tq_ rfl (ltT rfl) (zl 7 rfl ?_);obtain⟨y,hy⟩:∃y,(zbF s t.1 (decide (t.2<0))).2.1[k]?=some y:=⟨_,zEm hk⟩;haveI hyb:=hst.bd y (zEn hy);have hMB:MB (7*(8*135001+2*(b+1)+40)+2*(4*135001+12+(b+1+1)+2)) l2:=by
     rw[hl2];refine(zd8 (c:=rq false (zav t.2) (zaC t.2)) (D:=b+1+1) hlb (fun m hm=>hst.bd m (List.mem_of_mem_take hm))).mono ?_;have:=zEx (4*135001+12+(b+1+1)+2) (show((zbF s t.1 (decide (t.2<0))).2.1.take k).length<=2 by rw[zED];omega);omega
    have hl2l:l2.length<=100:=by rw[hl2];refine zEw (zcI _ _ _) ?_;rw[zED];omega
    refine nz_ [so 2 (D.ptr 0 0),so 3 (D.ptr 1 0),so 4 (D.ptr 2 0),so 7 (D.ptr 3 0),so 8 (D.v (V.one (El.row muE l2))),so 9 (D.val (.int .i64 (i:Int))),so 11 (D.ptr 5 0),so 12 (D.ptr 6 0),so 13 (D.val (.int .i64 (k:Int)))] [hb_ 43 (scL s),hb_ 38 (afL f),hb_ 36 [Leaf.val (.bool false),zaf ([]),zaf ([])],hb_ 36 (qL ((x)+((t.2)*((zbF s t.1 (decide (t.2<0))).1.q)))),none,hb_ 150 [Leaf.val (.bool (zaR ((zbF s t.1 (decide (t.2<0))).1.q))),zaf (zaa (zav ((zbF s t.1 (decide (t.2<0))).1.q))),zaf (zaa (zaC ((zbF s t.1 (decide (t.2<0))).1.q))),El.row muE ((zbF s t.1 (decide (t.2<0))).2.1),Leaf.val (.bool ((zbF s t.1 (decide (t.2<0))).2.2))],hb_ 36 [Leaf.val (.bool false),zaf (zaa (zav t.2)),zaf (zaa (zaC t.2))]] rfl rfl ?_;refine dr_ 0 [] [] (dz 4 rfl (kq_ rfl (jix k hy rfl) (kq_ rfl (jft rfl) (kq_ rfl (jlr rfl) (dz 4 rfl (kq_ rfl (jix k hy rfl) (kq_ rfl (jfr rfl) (kq_ rfl (jlr rfl) ?_))))))));refine kc_ zwC rfl (zlz (Qr.mk false (zaa (zav t.2)) (zaa (zaC t.2)) (zab _) (zab _)) (rq false (zav t.2) (zaC t.2)) (zpu (zac _) (zac _)) (Fit.mk (Br.use (r:=t.2) (by omega)).n (Br.use (r:=t.2) (by omega)).d) y.c (y.c.q) rfl (Fq.use (x:=y.c) (by omega))) ?_;refine kc_ zr0 rfl (zeP l2 y.r ((rq false (zav t.2) (zaC t.2))*(y.c.q)) (by assumption) (by omega) (by omega)) (dz 1 rfl (zad (za 2 rfl (nz_ [so 2 _,so 3 _,so 4 _,so 7 _,so 8 (D.v (V.one (El.row muE (zbT l2 y.r ((rq false (zav t.2) (zaC t.2))*(y.c.q)))))),so 9 _,so 11 _,so 12 _,so 13 _] [_,_,_,_,none,_,_] rfl rfl (zc 2 rfl (tq_ rfl (jad (k+1) rfl) ?_))))));refine zl 2 rfl ?_;exact nx_ ⟨k+1,_,rfl,rfl,rfl,hk,(by rw[hl2,zim hy,Rat.mul_comm])⟩ rfl
   .refine tq_ rfl (ltF rfl) (zl 9 rfl ?_);rw[show k=(zbF s t.1 (decide (t.2<0))).2.1.length by omega,zEJ] at hl2;refine zc 2 rfl (tq_ rfl (jad (i+1) rfl) (zl 2 rfl (zal 5 (zal 6 (zaK 4 rfl ?_)))));exact nx_ ⟨i+1,_,_,rfl,rfl,rfl,hi,(by rw[hl2];exact zsF ht hR hok1)⟩ rfl
 .refine tq_ rfl (ltF rfl) (zl 9 rfl ?_);have hie:i=f.ts.length:=by omega
  have hbo:=zmc hs hfl i (by omega) x _ hR;have htl:(f.ts.take i).length<=7:=by rw[zED];omega
  have hmul:=zEx (135001+(b+1)+210) htl;haveI:Br x (b+1+7*(135001+(b+1)+210)):=hbo.br.mono (by omega);rw[hie] at hR;refine nf_ [0,1] [so 4 (D.ptr 2 0),so 7 (D.ptr 3 0),so 8 (D.v (V.one (El.row muE l)))] [none,none,hb_ 36 [Leaf.val (.bool false),zaf ([]),zaf ([])],hb_ 36 (qL x)] rfl rfl rfl (zc 2 rfl (tc_ zmz rfl (zb6 (qOf (x)) (x) (zaj _) (Br.use (by omega))) (zl 6 rfl ?_)));exact r3_ hq_ rfl (by rw[zdv (show zmf s f=_ from hR)])
end Go.Proofs.YtjeiacoegppoiaaGreatDoor
namespace Rc
open Go Go.RowKit
def zh9(f:List Tm)(v:Nat):List Tm:=f.filter fun t=>decide (t.1≠v)
theorem zgG:∀{f:List Tm} {v:Nat},CanT f->CanT (zh9 f v)
 |[],_,_=>trivial
 |(w,d)::f,v,h=>by
  unfold zh9;rw[List.filter_cons];split
  .exact⟨h.1,fun u hu=>h.2.1 u (List.mem_filter.1 hu).1,zgG h.2.2⟩
  .exact zgG h.2.2
theorem zsl:∀{f:List Tm} {v:Nat},CanT f->∀w,co (zh9 f v) w=if w=v then 0 else co f w
 |[],_,_,w=>by show(0:Rat)=_;split <;> rfl
 |(u,d)::f,v,h,w=>by
  have ih:=zsl (v:=v) h.2.2 w;unfold zh9 at *;rw[List.filter_cons];by_cases e:u=v
  .rw[if_neg (by simp[e]),ih];by_cases e2:w=v
   .rw[if_pos e2,if_pos e2]
   .rw[if_neg e2,if_neg e2];show _=if u=w then d else co f w;rw[if_neg (by omega)]
  .rw[if_pos (by simp[e])];show(if u=w then d else co _ w)=_;rw[ih];by_cases e2:u=w
   .rw[if_pos e2,if_neg (by omega)];show _=if u=w then d else co f w;rw[if_pos e2]
   .rw[if_neg e2];show _=if w=v then 0 else if u=w then d else co f w;rw[if_neg e2]
theorem zxz{f:List Tm}{v:Nat}(h:∀t∈f,t.1<v+1):∀t∈zh9 f v,t.1<v:=fun t ht=>by
 obtain⟨h1,h2⟩:=List.mem_filter.1 ht;have:=h t h1;have h3:t.1≠v:=by simpa using h2
 omega
theorem ziH:∀{l:List Tm} {v:Nat},co l v≠0->∃t∈l,t.1=v
 |[],_,h=>absurd rfl h
 |(w,d)::l,v,h=>by
  by_cases e:w=v
  .exact⟨(w,d),by simp,e⟩
  .have h:(if w=v then d else co l v)≠0:=h;rw[if_neg e] at h;obtain⟨t,ht,e2⟩:=ziH h;exact⟨t,by simp[ht],e2⟩
theorem zmJ{g:List Tm}{c:Rat}{n:Nat}(hg:CanT g)(h:∀t∈g,t.1<n):∀t∈scT g c,t.1<n:=fun t ht=>by
 have h1:=zeT (zdN (c:=c) hg) ht;have h2:t.2≠0:=by
  obtain⟨i,hi⟩:=zes ht;exact((zdN (c:=c) hg).get hi).1
 rw[zpX hg] at h1;apply Classical.byContradiction;intro hn;have h3:co g t.1=0:=by
  apply Classical.byContradiction;intro hne;obtain⟨u,hu,e⟩:=ziH hne;have:=h u hu;omega
 rw[h3] at h1;exact h2 (by rw[<-h1];grind)
def zqH(f:Af)(v:Nat)(g:Af):Af:=zgy ⟨zh9 f.ts v,f.c⟩ (fSc g (co f.ts v))
section
variable {f g:Af}{v:Nat}
theorem ztT(hf:CanT f.ts):CanT (zqH f v g).ts:=zcp (zgG hf)
theorem zsk(hf:CanT f.ts)(hg:CanT g.ts)(w:Nat):co (zqH f v g).ts w=(if w=v then 0 else co f.ts w)+co g.ts w*co f.ts v:=by
 show co (zgE (zh9 f.ts v) (scT g.ts (co f.ts v))) w=_;rw[zfH (zgG hf) (zdN hg),zsl hf,zpX hg]
theorem zv3:(zqH f v g).c=f.c+g.c*co f.ts v:=rfl
theorem ztS(hg:CanT g.ts)(h1:∀t∈f.ts,t.1<v+1)(h2:∀t∈g.ts,t.1<v):∀t∈(zqH f v g).ts,t.1<v:=
 ze4 (zxz h1) (zmJ hg h2)
end
def Nd(D n:Nat)(x:Rat):Prop:=∃N:Int,x*(D:Rat)=(N:Rat)/\N.natAbs<2^n
theorem Nd.mono{D n m:Nat}{x:Rat}(h:Nd D n x)(hn:n<=m):Nd D m x:=
 let ⟨N,h1,h2⟩:=h;⟨N,h1,zEv h2 (zEz (by decide) hn)⟩
theorem Nd.zero{D n:Nat}:Nd D n 0:=⟨0,by rw[Rat.zero_mul];rfl,Nat.two_pow_pos n⟩
theorem Nd.mul{D E n m:Nat}{x y:Rat}(h:Nd D n x)(h':Nd E m y):Nd (D*E) (n+m) (x*y):=by
 obtain⟨N,h1,h2⟩:=h;obtain⟨M,h3,h4⟩:=h';refine⟨N*M,?_,?_⟩
 .rw[Rat.natCast_mul,Rat.intCast_mul,<-h1,<-h3];grind
 .rw[Int.natAbs_mul,zEG];exact Nat.mul_lt_mul'' h2 h4
theorem Nd.up{D n:Nat}{x:Rat}(h:Nd D n x){E e:Nat}(he:E<2^e):Nd (D*E) (n+e) x:=by
 obtain⟨N,h1,h2⟩:=h;refine⟨N*E,?_,?_⟩
 .rw[Rat.natCast_mul,Rat.intCast_mul,<-h1];show x*((D:Rat)*(E:Rat))=x*(D:Rat)*((E:Int):Rat);rw[Rat.intCast_natCast];grind
 .rw[Int.natAbs_mul,zEG,Int.natAbs_natCast];exact Nat.mul_lt_mul'' h2 he
theorem Nd.comm{D E n:Nat}{x:Rat}(h:Nd (D*E) n x):Nd (E*D) n x:=by rw[zER];exact h
theorem Nd.add{D n:Nat}{x y:Rat}(h:Nd D n x)(h':Nd D n y):Nd D (n+1) (x+y):=by
 obtain⟨N,h1,h2⟩:=h;obtain⟨M,h3,h4⟩:=h';refine⟨N+M,?_,?_⟩
 .rw[Rat.intCast_add,<-h1,<-h3];grind
 .rw[zEF];have:=Int.natAbs_add_le N M;omega
theorem Nd.hb{D n d:Nat}{x:Rat}(h:Nd D n x)(h0:0<D)(hd:D<2^d):Hb x (max n d):=by
 obtain⟨N,h1,h2⟩:=h;have hx:x=Rc.rq (decide (N<0)) N.natAbs D:=by
  have e:=zn4 (decide (N<0)) false N.natAbs D (by omega);rw[Bool.bne_false] at e;rw[e];have e1:sgn (decide (N<0)) N.natAbs=N:=by unfold sgn;split <;> simp_all <;> omega
  have e2:sgn false D=(D:Int):=rfl;rw[e1,e2,<-h1];show x=x*(D:Rat)/((D:Int):Rat);rw[Rat.intCast_natCast,Rat.div_def,Rat.mul_assoc,Rat.mul_inv_cancel _ (by
   intro e3;have:((D:Int):Rat)=((0:Int):Rat):=by rw[Rat.intCast_natCast];exact e3
   have:=Rat.intCast_inj.1 this;omega),Rat.mul_one]
 rw[hx];refine Hb.rq (zEv h2 (zEz (by decide) (Nat.le_max_left _ _))) ?_;rw[zc7 (by omega)];exact zEw (Nat.le_of_lt hd) (zEz (by decide) (Nat.le_max_right _ _))
theorem zlG(x:Rat):x*((x.den:Nat):Rat)=((x.num:Int):Rat):=by
 have h:(x.num:Rat)/((x.den:Nat):Rat)=x:=by
  have:=Rat.num_divInt_den x;rw[Rat.divInt_eq_div] at this;exact this
 have h2:((x.den:Nat):Rat)≠0:=fun e=>by
  have e:((x.den:Int):Rat)=((0:Int):Rat):=e;have:=Rat.intCast_inj.1 e;have:=x.den_pos;omega
 have h3:x*((x.den:Nat):Rat)=(x.num:Rat)/((x.den:Nat):Rat)*((x.den:Nat):Rat):=by rw[h]
 rw[h3,Rat.div_def,Rat.mul_assoc,Rat.inv_mul_cancel _ h2,Rat.mul_one]
theorem Hb.nd{x:Rat}{k:Nat}(h:Hb x k):Nd x.den k x:=⟨x.num,zlG x,h.num⟩
structure Cd(d n m:Nat)(f:Af):Prop where
 can:CanT f.ts
 var:∀t∈f.ts,t.1<m
 cd:∃D:Nat,0<D/\D<2^d/\(∀w,Nd D n (co f.ts w))/\Nd D n f.c
theorem Cd.mono{d n m d' n' m':Nat}{f:Af}(h:Cd d n m f)(h1:d<=d')(h2:n<=n')(h3:m<=m'):Cd d' n' m' f:=by
 obtain⟨D,a1,a2,a3,a4⟩:=h.cd;exact⟨h.can,fun t ht=>zEv (h.var t ht) h3,D,a1,zEv a2 (zEz (by decide) h1),fun w=>(a3 w).mono h2,a4.mono h2⟩
theorem Cd.fok{d n m:Nat}{f:Af}(h:Cd d n m f):FOk (max n d) m f:=by
 obtain⟨D,a1,a2,a3,a4⟩:=h.cd;refine⟨h.can,fun t ht=>?_,a4.hb a1 a2,h.var⟩;rw[<-zeT h.can ht];exact(a3 t.1).hb a1 a2
theorem zBt{x:Rat}(h:Hb x 3):Nd 840 13 x:=by
 have h1:=h.den;have h2:=h.num;have h0:=x.den_pos;have h3:x.den ∣ 840:=by
  have:∀k:Fin 9,0<k.val->k.val ∣ 840:=by decide
  exact this ⟨x.den,by omega⟩ h0
 obtain⟨k,hk⟩:=h3;refine⟨x.num*k,?_,?_⟩
 .have e:((840:Nat):Rat)=(x.den:Rat)*(k:Rat):=by rw[<-Rat.natCast_mul,<-hk]
  rw[e,Rat.intCast_mul,<-Rat.mul_assoc,zlG];congr 1
 .rw[Int.natAbs_mul,Int.natAbs_natCast];have hk2:k<=840:=Nat.le_of_dvd (by decide) ⟨x.den,by rw[hk,zER]⟩;have:=Nat.mul_le_mul (show x.num.natAbs<=7 by omega) hk2;omega
theorem FOk.cd{m:Nat}{f:Af}(h:FOk 3 m f):Cd 10 13 m f:=
 ⟨h.can,h.var,840,by decide,by decide,fun w=>by
  by_cases e:co f.ts w=0
  .rw[e];exact Nd.zero
  .obtain⟨u,hu,e2⟩:=ziH e;rw[<-e2,zeT h.can hu];exact zBt (h.bd u hu),zBt h.cb⟩
theorem fZ_cd{m:Nat}:Cd 10 13 m fZ:=⟨trivial,fun t ht=>by simp[fZ] at ht,840,by decide,by decide,fun w=>Nd.zero,Nd.zero⟩
theorem Cd.line{d n m e a:Nat}{p:Af}(h:Cd d n m p){s o:Rat}{E:Nat}(hE:0<E)(he:E<2^e)(hs:Nd E a s)(ho:Nd E a o):Cd (d+e) (max n d+a+1) m (zgy (fSc p s) (fN o)):=by
 obtain⟨D,a1,a2,a3,a4⟩:=h.cd;refine⟨zcp (zdN h.can),ze4 (zmJ h.can h.var) (fun t ht=>by simp[fN] at ht),D*E,Nat.mul_pos a1 hE,?_,fun w=>?_,?_⟩
 .rw[zEG];exact Nat.mul_lt_mul'' a2 he
 .show Nd _ _ (co (zgE (scT p.ts s) []) w);rw[zfH (zdN h.can) (show CanT [] from trivial),zpX h.can];show Nd _ _ (co p.ts w*s+0);rw[Rat.add_zero];exact((a3 w).mul hs).mono (by omega)
 .show Nd _ _ (p.c*s+o);refine Nd.add ((a4.mul hs).mono (by omega)) ?_;exact(ho.up a2).comm.mono (by omega)
theorem Cd.sub{d n d' n' v:Nat}{f g:Af}(hf:Cd d n (v+1) f)(hg:Cd d' n' v g):Cd (d+d') (n+max d' n'+1) v (zqH f v g):=by
 obtain⟨D,a1,a2,a3,a4⟩:=hf.cd;obtain⟨E,b1,b2,b3,b4⟩:=hg.cd;refine⟨ztT hf.can,ztS hg.can hf.var hg.var,D*E,Nat.mul_pos a1 b1,?_,fun w=>?_,?_⟩
 .rw[zEG];exact Nat.mul_lt_mul'' a2 b2
 .rw[zsk hf.can hg.can];refine Nd.add ?_ ?_
  .split
   .exact Nd.zero
   .exact((a3 w).up b2).mono (by omega)
  .exact((b3 w).mul (a3 v)).comm.mono (by omega)
 .rw[zv3];exact Nd.add ((a4.up b2).mono (by omega)) ((b4.mul (a3 v)).comm.mono (by omega))
def zcB(l u:Rat):Rat:=u/(u-l)
def zcC(l u:Rat):Rat:=-(l*u)/(u-l)
theorem zx4{l u:Rat}(hl:l<0)(hu:0<u){a b:Nat}(h1:Hb l a)(h2:Hb u b):∃E:Nat,0<E/\E<2^(a+b+1)/\Nd E (a+b) (zcB l u)/\Nd E (a+b) (zcC l u):=by
 have hn1:=h1.num;have hd1:=h1.den;have hn2:=h2.num;have hd2:=h2.den;have p1:=l.den_pos;have p2:=u.den_pos;have hln:l.num<0:=Int.not_le.1 (fun e=>Rat.not_le.2 hl (Rat.num_nonneg.1 e));have hun:0<u.num:=by
  have h0:=Rat.num_nonneg.2 (Rat.le_of_lt hu);have h1:u.num≠0:=fun e=>by
   have e2:=zlG u;rw[e] at e2;have h2:0<u*((u.den:Nat):Rat):=Rat.mul_pos hu (by
    have h3:((0:Int):Rat)<((u.den:Int):Rat):=Rat.intCast_lt_intCast.2 (by omega);exact h3)
   rw[e2] at h2;exact absurd h2 (by decide)
  omega
 have e1:=zlG l;have e2:=zlG u;obtain⟨E,hE⟩:∃E:Nat,(E:Int)=u.num*l.den-l.num*u.den:=⟨(u.num*l.den-l.num*u.den).toNat,by
  have q1:0<u.num*l.den:=Int.mul_pos hun (by omega);have q2:0<(-l.num)*u.den:=Int.mul_pos (by omega) (by omega);have q3:(-l.num)*u.den = -(l.num*u.den):=Int.neg_mul _ _;omega⟩
 have q1:0<u.num*l.den:=Int.mul_pos hun (by omega);have q2:0<(-l.num)*u.den:=Int.mul_pos (by omega) (by omega);have q3:(-l.num)*u.den = -(l.num*u.den):=Int.neg_mul _ _;have hEq:(E:Rat)=(u-l)*((l.den:Rat)*(u.den:Rat)):=by
  have h:((E:Int):Rat)=((u.num*l.den-l.num*u.den:Int):Rat):=by rw[hE]
  rw[Rat.intCast_natCast,Rat.intCast_sub,Rat.intCast_mul,Rat.intCast_mul,<-e1,<-e2,Rat.intCast_natCast,Rat.intCast_natCast] at h;rw[h];grind
 have hne:u-l≠0:=by grind
 have hE0:0<E:=by omega
 have bU:(u.num*l.den).natAbs<2^(a+b):=by
  rw[Int.natAbs_mul,Int.natAbs_natCast,zEG,zER (2^a)];exact Nat.mul_lt_mul_of_lt_of_le hn2 hd1 (Nat.two_pow_pos a)
 have bL:(l.num*u.den).natAbs<2^(a+b):=by
  rw[Int.natAbs_mul,Int.natAbs_natCast,zEG];exact Nat.mul_lt_mul_of_lt_of_le hn1 hd2 (Nat.two_pow_pos b)
 have bLU:(l.num*u.num).natAbs<2^(a+b):=by
  rw[Int.natAbs_mul,zEG];exact Nat.mul_lt_mul'' hn1 hn2
 refine⟨E,hE0,?_,⟨u.num*l.den,?_,bU⟩,⟨-(l.num*u.num),?_,by rw[Int.natAbs_neg];exact bLU⟩⟩
 .rw[zEF];omega
 .unfold zcB;rw[hEq,Rat.div_def,Rat.intCast_mul,<-e2,Rat.intCast_natCast];have:=Rat.mul_inv_cancel _ hne;grind
 .unfold zcC;rw[hEq,Rat.div_def,Rat.intCast_neg,Rat.intCast_mul,<-e1,<-e2];have:=Rat.mul_inv_cancel _ hne;grind
def slp(l u:Rat):Bool:=decide (l<0)&&(decide (0<u)&&decide (-l<u))
def zfW(s:Sc)(j:Nat)(p:Af)(c:Rat):Option (Af×Rw×Rat):=
 if zdC s j=true then some (p,if 0<c then⟨6,(j:Int),0,0⟩ else zdd s j,zc0 c)
 else if zbr s j=true then some (fZ,if 0<c then⟨5,(j:Int),0,0⟩ else zcs s j,zc0 c)
 else if 0<c then
  if bLo s j≠0/\bHi s j≠0/\slp (lv s.lems (bLo s j)) (lv s.lems (bHi s j))=true then some (p,⟨6,(j:Int),0,0⟩,zc0 c) else some (fZ,⟨5,(j:Int),0,0⟩,zc0 c)
 else if bLo s j=0\/bHi s j=0 then none
 else some (zgy (fSc p (zcB (lv s.lems (bLo s j)) (lv s.lems (bHi s j)))) (fN (zcC (lv s.lems (bLo s j)) (lv s.lems (bHi s j)))),⟨13,(j:Int),(bLo s j:Int),(bHi s j:Int)⟩,zc0 c/(lv s.lems (bHi s j)-lv s.lems (bLo s j)))
def bkS(s:Sc)(a:Option (Af×List Mu))(j:Nat):Option (Af×List Mu):=
 match a with
 |none=>none
 |some (f,l)=>match s.q.g.us[j]? with
  |none=>some (f,l)
  |some p=>if co f.ts (s.q.g.inp+j)=0 then some (f,l) else match zfW s j p (co f.ts (s.q.g.inp+j)) with
   |none=>none
   |some (b,r,c)=>some (zqH f (s.q.g.inp+j) b,zbT l r c)
def bkN(s:Sc)(f:Af)(n:Nat):Option (Af×List Mu):=(List.range n).foldl (fun a i=>bkS s a (s.q.g.us.length-1-i)) (some (f,[]))
def bkO(s:Sc)(f:Af):Option (Af×List Mu):=bkN s f s.q.g.us.length
theorem zhP{s:Sc}{f:Af}{n:Nat}:bkN s f (n+1)=bkS s (bkN s f n) (s.q.g.us.length-1-n):=by
 unfold bkN;rw[List.range_succ,zEO];rfl
theorem zhN{s:Sc}{f:Af}{l:List Mu}{j:Nat}{p:Af}(hp:s.q.g.us[j]?=some p)(h:co f.ts (s.q.g.inp+j)=0):bkS s (some (f,l)) j=some (f,l):=by
 unfold bkS;simp only[hp,if_pos h]
theorem zcx{s:Sc}{f:Af}{l:List Mu}{j:Nat}{p:Af}{b:Af}{r:Rw}{c:Rat}(hp:s.q.g.us[j]?=some p)(h:co f.ts (s.q.g.inp+j)≠0)(hr:zfW s j p (co f.ts (s.q.g.inp+j))=some (b,r,c)) :
  bkS s (some (f,l)) j=some (zqH f (s.q.g.inp+j) b,zbT l r c):=by
 unfold bkS;simp only[hp,if_neg h,hr]
theorem zhO{s:Sc}{f:Af}{l:List Mu}{j:Nat}{p:Af}(hp:s.q.g.us[j]?=some p)(h:co f.ts (s.q.g.inp+j)≠0)(hr:zfW s j p (co f.ts (s.q.g.inp+j))=none):bkS s (some (f,l)) j=none:=by
 unfold bkS;simp only[hp,if_neg h,hr]
theorem zoV{s:Sc}{f:Af}{n:Nat}(h:bkN s f n=none):∀k,bkN s f (n+k)=none
 |0=>h
 |k+1=>by rw[<-Nat.add_assoc,zhP,zoV h k];rfl
theorem zvg{s:Sc}{f:Af}{n:Nat}(hn:n<=s.q.g.us.length)(h:bkN s f n=none):bkO s f=none:=by
 have:=zoV h (s.q.g.us.length-n)
 rwa [show n+(s.q.g.us.length-n)=s.q.g.us.length by omega] at this
def symO(s:Sc)(f:Af):Option (Rat×List Mu):=
 match bkO s f with
 |none=>none
 |some (g,l)=>match zmf s g with
  |none=>none
  |some (x,m)=>some (x,zaV l m ((1:Int):Rat))
def zbw:Dom:=fun s f=>match symO s f with|some (x,l)=>(x,l,true)|none=>(0,[],false)
theorem zdl{s:Sc}{f:Af}(h:bkO s f=none):zbw s f=(0,[],false):=by unfold zbw symO;rw[h]
theorem zeJ{s:Sc}{f g:Af}{l m:List Mu}{x:Rat}(h:bkO s f=some (g,l))(h2:zmf s g=some (x,m)):zbw s f=(x,zaV l m ((1:Int):Rat),true):=by
 unfold zbw symO;simp only[h,h2]
theorem zvt{c:Rat}(h:c≠0):0<zc0 c:=by unfold zc0 mx;split <;> grind
theorem zhe{c:Rat}(h:0<c):zc0 c=c:=by unfold zc0 mx;split <;> grind
theorem zjS{c:Rat}(h:¬0<c):zc0 c = -c:=by unfold zc0 mx;split <;> grind
structure RpOk(s:Sc)(B C j:Nat)(c:Rat)(b:Af)(r:Rw)(k:Rat):Prop where
 row:(zaI s r).2=true
 pos:0<k
 can:CanT b.ts
 var:∀t∈b.ts,t.1<s.q.g.inp+j
 co:∀w,co (zaI s r).1.ts w*k=c*((if s.q.g.inp+j=w then 1 else 0)-co b.ts w)
 wc:(zaI s r).1.c*k = -(c*b.c)
 br:Br k (C+5*B+10)
theorem zwc{B C:Nat}{s:Sc}(hs:SB B s){j:Nat}{p:Af}(hp:s.q.g.us[j]?=some p){c:Rat}(hc:c≠0)[hbc:Br c C]{b:Af}{r:Rw}{k:Rat}(h:zfW s j p c=some (b,r,k)):RpOk s B C j c b r k:=by
 have hj:=(zEo.1 hp).1;have hpo:=hs.q.g.us j p hp;have hpc:=hpo.can;have hpv:=hpo.var;have ha:=zvt hc;haveI hab:Br (zc0 c) (C+1):=znw hbc;have hzv:∀t∈fZ.ts,t.1<s.q.g.inp+j:=fun t ht=>by simp[fZ] at ht
 have habr:Br (zc0 c) (C+5*B+10):=hab.mono (by omega);have f5:=zgd hp;have f6:=zjK hp;unfold zfW at h;split at h
 .rename_i hon;simp only[zEp,zEr] at h;obtain⟨rfl,rfl,rfl⟩:=h;by_cases hpos:0<c
  .rw[if_pos hpos];refine⟨by rw[f6],ha,hpc,hpv,fun w=>?_,?_,habr⟩
   .rw[f6,zhe hpos,zcZ (zfn _) hpc,zmB];grind
   .rw[f6,zhe hpos];simp only[zca,fV,m1];grind
  .rw[if_neg hpos];have f8:zaI s (zdd s j)=(zca p (fV (s.q.g.inp+j)),true):=by
    by_cases hd:zuW s j=true
    .rw[zkp hd];exact zox hp hd
    .rw[zgM (by simpa using hd)];rcases zdK.1 hon with h1|h1
     .exact absurd h1 hd
     .obtain⟨y,hy,yu,yp,hly,hy0,hyl⟩:=zbv h1.1;exact zkA hp hy0 hy yu yp (by rw[<-hly];exact h1.2)
   refine⟨by rw[f8],ha,hpc,hpv,fun w=>?_,?_,habr⟩
   .rw[f8,zjS hpos,zcZ hpc (zfn _),zmB];grind
   .rw[f8,zjS hpos];simp only[zca,fV,m1];grind
 .rename_i hon;split at h
  .rename_i hoff;simp only[zEp,zEr] at h;obtain⟨rfl,rfl,rfl⟩:=h;by_cases hpos:0<c
   .rw[if_pos hpos];refine⟨by rw[f5],ha,trivial,hzv,fun w=>?_,?_,habr⟩
    .rw[f5,zhe hpos,zmB];show _=c*(_-0);grind
    .rw[f5,zhe hpos];simp only[fV,fZ];grind
   .rw[if_neg hpos];have f10:zaI s (zcs s j)=(fSc (fV (s.q.g.inp+j)) ((-1:Int):Rat),true):=by
     by_cases hd:zuY s j=true
     .rw[zhB hd];exact zlX hp hd
     .rw[ze7 (by simpa using hd)];rcases zb9.1 hoff with h1|h1
      .exact absurd h1 hd
      .obtain⟨z,hz,zu,zp,hlz,hz0,hzl⟩:=zbJ h1.1;exact zhG hp hz0 hz zu zp (by rw[<-hlz];exact h1.2)
    refine⟨by rw[f10],ha,trivial,hzv,fun w=>?_,?_,habr⟩
    .rw[f10,zjS hpos,zgh (zfn _),zmB,m1];show _=c*(_-0);grind
    .rw[f10,zjS hpos];simp only[fSc,fV,fZ,m1];grind
  .rename_i hoff;split at h
   .rename_i hpos;split at h
    .simp only[zEp,zEr] at h;obtain⟨rfl,rfl,rfl⟩:=h;refine⟨by rw[f6],ha,hpc,hpv,fun w=>?_,?_,habr⟩
     .rw[f6,zhe hpos,zcZ (zfn _) hpc,zmB];grind
     .rw[f6,zhe hpos];simp only[zca,fV,m1];grind
    .simp only[zEp,zEr] at h;obtain⟨rfl,rfl,rfl⟩:=h;refine⟨by rw[f5],ha,trivial,hzv,fun w=>?_,?_,habr⟩
     .rw[f5,zhe hpos,zmB];show _=c*(_-0);grind
     .rw[f5,zhe hpos];simp only[fV,fZ];grind
   .rename_i hneg;split at h
    .cases h
    .rename_i hlh;have hl:bLo s j≠0:=fun e=>hlh (.inl e);have hh:bHi s j≠0:=fun e=>hlh (.inr e);obtain⟨y,hy,yu,yp,hly,hy0,hyl⟩:=zbv hl;obtain⟨z,hz,zu,zp,hlz,hz0,hzl⟩:=zbJ hh;haveI:=hs.B y (zEn hy);haveI:=hs.B z (zEn hz);have hl0:y.v.q<0:=by
      have:¬0<=y.v.q:=fun e=>hon (zdK.2 (.inr ⟨hl,by rw[hly];exact e⟩));grind
     have hu0:0<z.v.q:=by
      have:¬z.v.q<=0:=fun e=>hoff (zb9.2 (.inr ⟨hh,by rw[hlz];exact e⟩));grind
     have f13:=zhF hp hy0 hy yu yp hz0 hz zu zp hl0 hu0;simp only[zEp,zEr] at h;obtain⟨rfl,rfl,rfl⟩:=h;rw[hly,hlz];have h2:0<z.v.q-y.v.q:=by grind
     have h4:(z.v.q-y.v.q)*(z.v.q-y.v.q)⁻¹=1:=Rat.mul_inv_cancel _ (by grind);refine⟨by rw[f13],?_,zcp (zdN hpc),ze4 (zmJ hpc hpv) (fun t ht=>by simp[fN] at ht),fun w=>?_,?_,?_⟩
     .rw[Rat.div_def];exact Rat.mul_pos ha (Rat.inv_pos.2 h2)
     .rw[f13,zjS hneg,zcZ (zdN (zgV hpc)) (zdN (zfn _)),zgh (zgV hpc),zcZ hpc (ziL _),zgh (zfn _),zmB,zsm,zwU (zdN hpc) (ziL _),zgh hpc,zsm];unfold zcB;rw[Rat.div_def,Rat.div_def];generalize (z.v.q-y.v.q)⁻¹=t at *;split <;> grind
     .rw[f13,zjS hneg];simp only[zca,fSc,fV,fN,zgy,m1];unfold zcB zcC;rw[Rat.div_def,Rat.div_def,Rat.div_def];generalize (z.v.q-y.v.q)⁻¹=t at *;grind
     .have hbr:Br (zc0 c/(z.v.q-y.v.q)) (C+1+(B+B+1+1)+1):=by
       haveI h7:Br z.v.q B:=inferInstance;haveI h8:Br y.v.q B:=inferInstance;haveI h9:Br (z.v.q-y.v.q) (B+B+1):=Br.sub;haveI h10:Br (zc0 c) (C+1):=hab;exact Br.div
      exact hbr.mono (by omega)
section
variable {s:Sc}
theorem zwd{K j:Nat}(hq:QOk s.q)(hK:∀m∈s.lems,m.unit=(j:Int)->Hb m.v.q K){p:Af}(hp:s.q.g.us[j]?=some p){c:Rat}{b:Af}{r:Rw}{k:Rat}(h:zfW s j p c=some (b,r,k)):Cd (2*K+11) (2*K+14) (s.q.g.inp+j) b:=by
 have hpo:=hq.g.us j p hp;have h1:Cd (2*K+11) (2*K+14) (s.q.g.inp+j) p:=hpo.cd.mono (by omega) (by omega) (zEq _);have h2:Cd (2*K+11) (2*K+14) (s.q.g.inp+j) fZ:=fZ_cd.mono (by omega) (by omega) (zEq _);unfold zfW at h;split at h
 .simp only[zEp,zEr] at h;rw[<-h.1];exact h1
 .rename_i hon;split at h
  .simp only[zEp,zEr] at h;rw[<-h.1];exact h2
  .rename_i hoff;split at h
   .split at h
    .simp only[zEp,zEr] at h;rw[<-h.1];exact h1
    .simp only[zEp,zEr] at h;rw[<-h.1];exact h2
   .split at h
    .cases h
    .rename_i hlh;have hl:bLo s j≠0:=fun e=>hlh (.inl e);have hh:bHi s j≠0:=fun e=>hlh (.inr e);obtain⟨y,hy,yu,yp,hly,hy0,hyl⟩:=zbv hl;obtain⟨z,hz,zu,zp,hlz,hz0,hzl⟩:=zbJ hh;have hl0:y.v.q<0:=by
      have:¬0<=y.v.q:=fun e=>hon (zdK.2 (.inr ⟨hl,by rw[hly];exact e⟩));grind
     have hu0:0<z.v.q:=by
      have:¬z.v.q<=0:=fun e=>hoff (zb9.2 (.inr ⟨hh,by rw[hlz];exact e⟩));grind
     obtain⟨E,e1,e2,e3,e4⟩:=zx4 hl0 hu0 (hK y (zEn hy) yu) (hK z (zEn hz) zu);simp only[zEp,zEr] at h;rw[<-h.1,hly,hlz];exact(hpo.cd.line e1 e2 e3 e4).mono (by omega) (by omega) (zEq _)
def bS(kf:Nat->Nat):Nat->Nat
 |0=>0
 |i+1=>bS kf i+2*kf i+15
theorem znt(kf:Nat->Nat){a b:Nat}(h:a<=b):bS kf a<=bS kf b:=by
 induction b with
 |zero=>
      have:a=0:=by omega
      subst this;exact zEq _
 |succ b ih=>
  by_cases e:a=b+1
  .subst e;exact zEq _
  .have:=ih (by omega);simp only[bS];omega
@[reducible] def bX(d B:Nat)(kf:Nat->Nat)(top:Nat):Nat:=d+1+bS kf top+5*B+12
structure BkI(s:Sc)(d B:Nat)(kf:Nat->Nat)(top:Nat)(f:Af)(m:Nat)(g:Af)(l:List Mu):Prop where
 cd:∃b,b+bS kf m<=d+bS kf top/\Cd b b (s.q.g.inp+m) g
 ok:∀x∈l,(zaI s x.r).2=true
 can:CanM l
 bd:MB ((top-m)*bX d B kf top) l
 len:l.length+m<=top
 co:∀w,W (coR s w) l=co f.ts w-Rc.co g.ts w
 wc:W (zg4 s) l=f.c-g.c
theorem FOk.cq{m:Nat}{f:Af}(h:FOk 3 m f):Cd 13 13 m f:=h.cd.mono (by omega) (zEq _) (zEq _)
theorem Cd.drop{d n v:Nat}{f:Af}(h:Cd d n (v+1) f)(h0:co f.ts v=0):Cd d n v f:=by
 refine⟨h.can,fun t ht=>?_,h.cd⟩;have h1:=h.var t ht;have h2:=zeT h.can ht;obtain⟨i,hi⟩:=zes ht;have h3:=(h.can.get hi).1;by_cases e:t.1=v
 .rw[e,h0] at h2;exact absurd h2.symm h3
 .omega
theorem zoU{f:Af}{top:Nat}(ht:top<=s.q.g.us.length)(hf:CanT f.ts)(hv:∀t∈f.ts,t.1<s.q.g.inp+top):∀n,n<=s.q.g.us.length-top->bkN s f n=some (f,[])
 |0,_=>rfl
 |n+1,hn=>by
  rw[zhP,zoU ht hf hv n (by omega)];obtain⟨p,hp⟩:∃p,s.q.g.us[s.q.g.us.length-1-n]?=some p:=⟨_,zEm (by omega)⟩;refine zhN hp ?_;apply Classical.byContradiction;intro hne;obtain⟨t,h1,h2⟩:=ziH hne;have:=hv t h1;omega
theorem zns{B:Nat}(hs:SB B s){kf:Nat->Nat}(hK:∀m∈s.lems,∀j:Nat,m.unit=(j:Int)->Hb m.v.q (kf j)){f:Af}{d top:Nat}(ht:top<=s.q.g.us.length)(hf:Cd d d (s.q.g.inp+top) f) :
  ∀k,k<=top->∀g l,bkN s f (s.q.g.us.length-top+k)=some (g,l)->BkI s d B kf top f (top-k) g l
 |0,_,g,l,h=>by
  rw[Nat.add_zero,zoU ht hf.can hf.var _ (zEq _)] at h;simp only[zEp,zEr] at h;obtain⟨rfl,rfl⟩:=h;exact⟨⟨d,by rw[Nat.sub_zero];omega,Cd.mono hf (by omega) (by omega) (by omega)⟩,fun x hx=>by simp at hx,trivial,fun x hx=>by simp at hx,by simp,fun w=>by show(0:Rat)=_;grind,by show(0:Rat)=_;grind⟩
 |k+1,hk,g,l,h=>by
  rw[<-Nat.add_assoc,zhP] at h;have hj:s.q.g.us.length-1-(s.q.g.us.length-top+k)=top-(k+1):=by omega
  rw[hj] at h
  cases ho:bkN s f (s.q.g.us.length-top+k) with
  |none=>rw[ho] at h;cases h
  |some a=>
   obtain⟨g0,l0⟩:=a;rw[ho] at h;have ih:=zns hs hK ht hf k (by omega) g0 l0 ho;obtain⟨m,hm⟩:∃m,top-k=m+1:=⟨top-k-1,by omega⟩;have hm2:top-(k+1)=m:=by omega
   rw[hm] at ih;rw[hm2] at h ⊢;obtain⟨b,hb1,hb2⟩:=ih.cd;simp only[bS] at hb1;have hb2:Cd b b (s.q.g.inp+m+1) g0:=hb2;obtain⟨p,hp⟩:∃p,s.q.g.us[m]?=some p:=⟨_,zEm (by omega)⟩;have hlen:=ih.len;have hmul:(top-(m+1))*bX d B kf top<=(top-m)*bX d B kf top:=zEx _ (by omega);by_cases h0:co g0.ts (s.q.g.inp+m)=0
   .rw[zhN hp h0] at h;simp only[zEp,zEr] at h;obtain⟨rfl,rfl⟩:=h;exact⟨⟨b,by omega,hb2.drop h0⟩,ih.ok,ih.can,ih.bd.mono hmul,by omega,ih.co,ih.wc⟩
   .cases hr:zfW s m p (co g0.ts (s.q.g.inp+m)) with
    |none=>rw[zhO hp h0 hr] at h;cases h
    |some a=>
     obtain⟨b',r,c⟩:=a;rw[zcx hp h0 hr] at h;simp only[zEp,zEr] at h;obtain⟨rfl,rfl⟩:=h;have hcd:=zwd hs.q (fun x hx hu=>hK x hx m hu) hp hr;have hfk:=hb2.fok;haveI hcb:Br (co g0.ts (s.q.g.inp+m)) (b+1):=by
      obtain⟨t,h1,h2⟩:=ziH h0;rw[<-h2,zeT hb2.can h1];exact((hfk.bd t h1).mono (by omega)).br
     have hro:=zwc (C:=b+1) hs hp h0 hr;refine⟨⟨b+2*kf m+15,by omega,(hb2.sub hcd).mono (by omega) (by omega) (zEq _)⟩,fun x hx=>?_,zif (Rat.le_of_lt hro.pos) ih.can,?_,?_,fun w=>?_,?_⟩
     .rcases zlL hx with e|hx
      .rw[e];exact hro.row
      .exact ih.ok x hx
     .haveI:=hro.br;refine(zn9 (C:=b+1+5*B+10) ih.bd).mono ?_;have:(top-m)*bX d B kf top=(top-(m+1))*bX d B kf top+bX d B kf top:=by
       rw[show top-m=top-(m+1)+1 by omega,Nat.succ_mul]
      rw[this];unfold bX;omega
     .have:=zlM l0 r c;omega
     .rw[zo1,ih.co w,zsk hb2.can hcd.can];have h1:=hro.co w;show _+c*co (zaI s r).1.ts w=_;by_cases e:w=s.q.g.inp+m
      .subst e;rw[if_pos rfl] at h1 ⊢;clear ih hro hcd hb2 hfk hs hK hf;grind
      .rw[if_neg (fun e2=>e e2.symm)] at h1;rw[if_neg e];clear ih hro hcd hb2 hfk hs hK hf;grind
     .rw[zo1,ih.wc,zv3];have h1:=hro.wc;show _+c*(zaI s r).1.c=_;grind
theorem zsG{B:Nat}(hs:SB B s){g:Af}(hv:∀t∈g.ts,t.1<s.q.g.inp){D n:Nat}(hd:∀t∈g.ts,Nd D n t.2)(hc:Nd D n g.c):∀k,k<=g.ts.length->∃x l,zjP s g k=some (x,l)/\∃E,0<E/\E<2^(201*k+1)/\Nd (D*E) (n+202*k+1) x
 |0,_=>⟨g.c,[],rfl,1,by decide,by decide,by rw[Nat.mul_one];exact hc.mono (by omega)⟩
 |k+1,hk=>by
  obtain⟨t,ht⟩:∃t,g.ts[k]?=some t:=⟨_,zEm (by omega)⟩;have htm:=zEn ht;have htv:=hv t htm;obtain⟨x,l,h1,E,e1,e2,e3⟩:=zsG hs hv hd hc k (by omega);rw[zed ht,h1];unfold zoQ zmg;simp only;rw[if_pos htv];have hb:=(zlU hs htv (decide (t.2<0)) s.path.length (zEq _)).hb;have hb:Hb (zkv s t.1 (decide (t.2<0))).1 200:=hb;refine⟨_,_,rfl,E*(zkv s t.1 (decide (t.2<0))).1.den,Nat.mul_pos e1 (Rat.den_pos _),?_,?_⟩
  .have:(zkv s t.1 (decide (t.2<0))).1.den<2^201:=zEN hb.den (zES (by decide) (by decide));rw[show 201*(k+1)+1=201*k+1+201 by omega,zEG];exact Nat.mul_lt_mul'' e2 this
  .rw[zaj,<-Nat.mul_assoc];have hden:(zkv s t.1 (decide (t.2<0))).1.den<2^201:=zEN hb.den (zES (by decide) (by decide));have q1:=e3.up hden;have q2:=((hd t htm).mul hb.nd).up e2;have q3:Nd (D*E*(zkv s t.1 (decide (t.2<0))).1.den) (n+200+(201*k+1)) (t.2*(zkv s t.1 (decide (t.2<0))).1):=by
    rw[Nat.mul_assoc,zER E,<-Nat.mul_assoc];exact q2
   exact(Nd.add (q1.mono (show _<=n+202*k+202 by omega)) (q3.mono (by omega))).mono (by omega)
theorem zsH{B:Nat}(hs:SB B s){g:Af}{b:Nat}(hg:Cd b b s.q.g.inp g):∃x l,zmf s g=some (x,l)/\Hb x (b+610):=by
 obtain⟨D,a1,a2,a3,a4⟩:=hg.cd;obtain⟨x,l,h1,E,e1,e2,e3⟩:=zsG hs hg.var (fun t ht=>by rw[<-zeT hg.can ht];exact a3 t.1) a4 g.ts.length (zEq _);have h3:g.ts.length<=3:=by
  have:=hs.q.g.i3;have:=hg.fok.len;omega
 refine⟨x,l,h1,?_⟩;have hDE:D*E<2^(b+(201*g.ts.length+1)):=by rw[zEG];exact Nat.mul_lt_mul'' a2 e2
 exact(e3.hb (Nat.mul_pos a1 e1) hDE).mono (by omega)
structure SyOk(s:Sc)(d B:Nat)(kf:Nat->Nat)(top:Nat)(f:Af)(x:Rat)(l:List Mu):Prop where
 der:DerOk s (4*bX d B kf top+6*(3*(8*B+2*(d+1+bS kf top)+40)+4)) 10 l
 sum:zqf s f x l
 hb:Hb x (d+610+bS kf top)
theorem zv0{B:Nat}(hs:SB B s){kf:Nat->Nat}(hK:∀m∈s.lems,∀j:Nat,m.unit=(j:Int)->Hb m.v.q (kf j)){f:Af}{d top:Nat}(ht:top<=s.q.g.us.length)(hf:Cd d d (s.q.g.inp+top) f){g:Af}{l:List Mu}(h:bkO s f=some (g,l)) :
  ∃x m,zmf s g=some (x,m)/\SyOk s d B kf top f x (zaV l m ((1:Int):Rat)):=by
 have hu4:=hs.q.g.u4;have hi3:=hs.q.g.i3;have h0:=zns hs hK ht hf top (zEq _) g l (by rw[show s.q.g.us.length-top+top=s.q.g.us.length by omega];exact h);rw[Nat.sub_self] at h0;obtain⟨b,hb1,hb2⟩:=h0.cd;simp only[bS,Nat.add_zero] at hb1 hb2;obtain⟨x,m,h1,h2⟩:=zsH hs hb2;have hfl:FL (b+1) (s.q.g.inp+s.q.g.us.length) g:=(hb2.fok.mono (c:=b) (by omega) (show s.q.g.inp<=s.q.g.inp+s.q.g.us.length by omega)).fl;have hall:=zoR hs hfl h1;have hgl:g.ts.length<=3:=by have:=hb2.fok.len;omega
 refine⟨x,m,h1,⟨zf7 (P:=fun r=>(zaI s r).2=true) h0.ok hall.der.ok,ze8 (by decide) h0.can (fun y hy=>(hall.der.can.pos y hy).1),?_,?_⟩,?_,h2.mono (by omega)⟩
 .haveI:Br ((1:Int):Rat) 2:=Br.int2 (by decide) (by decide);refine(zd8 h0.bd hall.der.bd).mono ?_;have q1:(top-0)*bX d B kf top<=4*bX d B kf top:=zEx _ (by omega);have q3:g.ts.length*(8*B+2*(b+1)+40)<=3*(8*B+2*(d+1+bS kf top)+40):=Nat.mul_le_mul hgl (by omega);have q2:m.length*(g.ts.length*(8*B+2*(b+1)+40)+2+2)<=6*(3*(8*B+2*(d+1+bS kf top)+40)+4):=Nat.mul_le_mul (by have:=hall.der.len;omega) (by omega);omega
 .have q1:=zcI m l ((1:Int):Rat);have q2:=h0.len;have q3:=hall.der.len;omega
 .refine zwN hs hf.can (fun w=>?_) ?_
  .rw[zfK,h0.co w,hall.co w,zso hfl.can];grind
  .rw[zfK,h0.wc,hall.wc];grind
end
section
variable {ts:List Tm}{i v:Nat}{x:Tm}
theorem zwR(hx:ts[i]?=some x)(e:x.1=v):co (ts.drop i) v=x.2:=by
 rw[zbc hx];obtain⟨w,d⟩:=x;show(if w=v then d else _)=_;exact if_pos e
theorem zsn(hx:ts[i]?=some x)(e:x.1≠v):co (ts.drop (i+1)) v=co (ts.drop i) v:=by
 rw[zbc hx];obtain⟨w,d⟩:=x;exact(if_neg e).symm
theorem zwS(h:ts.length<=i):co (ts.drop i) v=0:=by rw[List.drop_eq_nil_of_le h];rfl
theorem zwT:∀{l:List Tm},x.1≠v->co (l++[x]) v=co l v
 |[],e=>if_neg e
 |(w,d)::l,e=>by
  show(if w=v then d else co (l++[x]) v)=if w=v then d else co l v;rw[zwT e]
theorem zu3(hc:CanT ts)(hx:ts[i]?=some x)(e:x.1=v):co (ts.take (i+1)) v=x.2:=by
 rw[<-e];exact zeT (ziM hc) (by rw[zaP hx];simp)
theorem zu2(hx:ts[i]?=some x)(e:x.1≠v):co (ts.take (i+1)) v=co (ts.take i) v:=by rw[zaP hx,zwT e]
theorem zq6(hx:ts[i]?=some x)(e:x.1=v):zh9 (ts.take (i+1)) v=zh9 (ts.take i) v:=by
 unfold zh9;rw[zaP hx,List.filter_append,List.filter_cons_of_neg (by simp[e])];simp
theorem zq5(hx:ts[i]?=some x)(e:x.1≠v):zh9 (ts.take (i+1)) v=zh9 (ts.take i) v++[x]:=by
 unfold zh9;rw[zaP hx,List.filter_append,List.filter_cons_of_pos (by simp[e])];simp
theorem zxA(ts:List Tm)(v:Nat):(zh9 ts v).length<=ts.length:=List.length_filter_le _ _
theorem zzT(hc:CanT ts):zdZ ts v (-(co ts v))=zh9 ts v:=by
 refine zjO (zhQ hc) (zgG hc) fun w=>?_;rw[znh hc,zsl hc];by_cases e:w=v
 .rw[if_pos e,if_pos e,e];grind
 .rw[if_neg e,if_neg e];grind
end
theorem zv8{B n v:Nat}{f:Af}(h:FL B n f):FL B n ⟨zh9 f.ts v,f.c⟩:=
 ⟨zgG h.can,fun t ht=>h.bd t (List.mem_filter.1 ht).1,h.cb,fun t ht=>h.var t (List.mem_filter.1 ht).1⟩
theorem zAP{l u:Rat}(h:l<0/\0<u)(h2:-l<u):slp l u=true:=by unfold slp;rw[decide_eq_true h.1,decide_eq_true h.2,decide_eq_true h2];rfl
theorem zAQ{l u:Rat}(h2:¬ -l<u):slp l u=false:=by unfold slp;rw[decide_eq_false h2,Bool.and_false,Bool.and_false]
theorem zqs{l u:Rat}(h:¬(l<0/\0<u)):(decide (l<0)&&decide (0<u))=false:=by
 by_cases h1:l<0
 .rw[decide_eq_false (fun e=>h ⟨h1,e⟩),Bool.and_false]
 .rw[decide_eq_false h1,Bool.false_and]
theorem zjp{l u:Rat}(h:l<0/\0<u):(decide (l<0)&&decide (0<u))=true:=by rw[decide_eq_true h.1,decide_eq_true h.2];rfl
theorem zAO{l u:Rat}(h:¬(l<0/\0<u)):slp l u=false:=by
 unfold slp;rw[<-Bool.and_assoc,zqs h,Bool.false_and]
def lvz(l:List Lm)(n:Nat):Qr:=if n=0 then qZero else lvr l n
theorem zBG{l:List Lm}{n:Nat}(h:n=0):lvz l n=qZero:=if_pos h
theorem zrI{l:List Lm}{n:Nat}{m:Lm}(h0:n≠0)(h:l[n-1]?=some m):lvz l n=m.v:=by unfold lvz;rw[if_neg h0,zc6 h]
theorem zhl{l:List Lm}{n:Nat}(h0:n≠0):(lvz l n).q=lv l n:=by unfold lvz;rw[if_neg h0,zip]
theorem zws{l:List Lm}{B:Nat}(hB:∀m∈l,Fq m.v B)(n:Nat):Fq (lvz l n) B:=by
 unfold lvz;split
 .exact⟨zf3⟩
 .exact zlQ hB n
def zfU(s:Sc)(j:Nat)(p:Af)(c:Rat):(Af×Rw×Rat)×Bool:=match zfW s j p c with|some x=>(x,true)|none=>((fZ,⟨0,0,0,0⟩,0),false)
@[reducible] def rpL(x:Af×Rw×Rat):List Leaf:=[tmE.row x.1.ts,Leaf.val (.bool (zaR x.1.c)),zaf (zaa (zav x.1.c)),zaf (zaa (zaC x.1.c)),Leaf.val (.int .i64 x.2.1.kind),Leaf.val (.int .i64 x.2.1.idx),Leaf.val (.int .i64 x.2.1.lo),Leaf.val (.int .i64 x.2.1.hi),Leaf.val (.bool (zaR x.2.2)),zaf (zaa (zav x.2.2)),zaf (zaa (zaC x.2.2))]
theorem zbB{s:Sc}{j:Nat}{p:Af}{c:Rat}{x:Af×Rw×Rat}(h:zfW s j p c=some x):zfU s j p c=(x,true):=by unfold zfU;rw[h]
theorem zia{s:Sc}{j:Nat}{p:Af}{c:Rat}(h:zfW s j p c=none):zfU s j p c=((fZ,⟨0,0,0,0⟩,0),false):=by unfold zfU;rw[h]
theorem rpZ:V.agg [tmE.row [],Leaf.val (.bool false),nilL,nilL,Leaf.val (.int .i64 0),Leaf.val (.int .i64 0),Leaf.val (.int .i64 0),Leaf.val (.int .i64 0),Leaf.val (.bool false),nilL,nilL]=V.agg (rpL (fZ,⟨0,0,0,0⟩,0)):=by
 show _=V.agg [tmE.row [],Leaf.val (.bool (zaR 0)),zaf (zaa (zav 0)),zaf (zaa (zaC 0)),Leaf.val (.int .i64 0),Leaf.val (.int .i64 0),Leaf.val (.int .i64 0),Leaf.val (.int .i64 0),Leaf.val (.bool (zaR 0)),zaf (zaa (zav 0)),zaf (zaa (zaC 0))];rw[zbm,zbn,zai];rfl
theorem rp0(r:Rw)(k:Rat):R.tup [V.agg [tmE.row [],Leaf.val (.bool false),nilL,nilL,Leaf.val (.int .i64 r.kind),Leaf.val (.int .i64 r.idx),Leaf.val (.int .i64 r.lo),Leaf.val (.int .i64 r.hi),Leaf.val (.bool (zaR k)),zaf (zaa (zav k)),zaf (zaa (zaC k))],V.one (Leaf.val (.bool true))]=R.tup [V.agg (rpL (fZ,r,k)),V.one (Leaf.val (.bool true))]:=by
 show _=R.tup [V.agg [tmE.row [],Leaf.val (.bool (zaR 0)),zaf (zaa (zav 0)),zaf (zaa (zaC 0)),Leaf.val (.int .i64 r.kind),Leaf.val (.int .i64 r.idx),Leaf.val (.int .i64 r.lo),Leaf.val (.int .i64 r.hi),Leaf.val (.bool (zaR k)),zaf (zaa (zav k)),zaf (zaa (zaC k))],_];rw[zbm,zbn,zai];rfl
theorem afZ:afV fZ=V.agg [nilL,Leaf.val (.bool false),nilL,nilL]:=congrArg V.agg fZ_ls
section
variable {s:Sc}{j:Nat}{p:Af}{c:Rat}
theorem zib(h:zdC s j=true):zfW s j p c=some (p,if 0<c then⟨6,(j:Int),0,0⟩ else zdd s j,zc0 c):=if_pos h
theorem zfV(h:zdC s j=false)(h2:zbr s j=true):zfW s j p c=some (fZ,if 0<c then⟨5,(j:Int),0,0⟩ else zcs s j,zc0 c):=by
 unfold zfW;rw[if_neg (by rw[h];decide),if_pos h2]
theorem zra(h:zdC s j=false)(h2:zbr s j=false)(hc:0<c)(h3:bLo s j≠0/\bHi s j≠0/\slp (lv s.lems (bLo s j)) (lv s.lems (bHi s j))=true):zfW s j p c=some (p,⟨6,(j:Int),0,0⟩,zc0 c):=by
 unfold zfW;rw[if_neg (by rw[h];decide),if_neg (by rw[h2];decide),if_pos hc,if_pos h3]
theorem zgI(h:zdC s j=false)(h2:zbr s j=false)(hc:0<c)(h3:¬(bLo s j≠0/\bHi s j≠0/\slp (lv s.lems (bLo s j)) (lv s.lems (bHi s j))=true)):zfW s j p c=some (fZ,⟨5,(j:Int),0,0⟩,zc0 c):=by
 unfold zfW;rw[if_neg (by rw[h];decide),if_neg (by rw[h2];decide),if_pos hc,if_neg h3]
theorem zn7(h:zdC s j=false)(h2:zbr s j=false)(hc:¬0<c)(h3:bLo s j=0\/bHi s j=0):zfW s j p c=none:=by
 unfold zfW;rw[if_neg (by rw[h];decide),if_neg (by rw[h2];decide),if_neg hc,if_pos h3]
theorem zn6(h:zdC s j=false)(h2:zbr s j=false)(hc:¬0<c)(h3:bLo s j≠0)(h4:bHi s j≠0):zfW s j p c=some (zgy (fSc p (zcB (lv s.lems (bLo s j)) (lv s.lems (bHi s j)))) (fN (zcC (lv s.lems (bLo s j)) (lv s.lems (bHi s j)))),⟨13,(j:Int),(bLo s j:Int),(bHi s j:Int)⟩,zc0 c/(lv s.lems (bHi s j)-lv s.lems (bLo s j))):=by
 unfold zfW;rw[if_neg (by rw[h];decide),if_neg (by rw[h2];decide),if_neg hc,if_neg (fun e=>e.elim h3 h4)]
theorem zBi(h:zdC s j=false)(h1:bLo s j≠0):lv s.lems (bLo s j)<0:=Rat.not_le.1 fun e=>by
 have:=zdK.2 (.inr ⟨h1,e⟩);rw[h] at this;cases this
theorem zwn(h:zbr s j=false)(h1:bHi s j≠0):0<lv s.lems (bHi s j):=Rat.not_le.1 fun e=>by
 have:=zb9.2 (.inr ⟨h1,e⟩);rw[h] at this;cases this
end
theorem zrL{l u:Rat}{B:Nat}[Br l B][Br u B](hB:B<=1000000):Br (zcB l u) 100000000/\Br (zcC l u) 100000000:=by
 constructor
 .unfold zcB;exact(inferInstance:Br (u/(u-l)) _).mono (by omega)
 .unfold zcC;exact(inferInstance:Br (-(l*u)/(u-l)) _).mono (by omega)
theorem zAS{g:List Tm}(h:CanT g):scT g ((1:Int):Rat)=g:=zjO (zdN h) h fun w=>by
 rw[zpX h];show co g w*1=_;rw[Rat.mul_one]
def bkP(s:Sc)(f:Af)(l:List Mu)(j:Nat):Af×List Mu×Bool:=match bkS s (some (f,l)) j with|some x=>(x.1,x.2,true)|none=>(fZ,[],false)
theorem zcd{s:Sc}{f:Af}{l:List Mu}{j:Nat}{x:Af×List Mu}(h:bkS s (some (f,l)) j=some x):bkP s f l j=(x.1,x.2,true):=by unfold bkP;rw[h]
theorem zkX{s:Sc}{f:Af}{l:List Mu}{j:Nat}(h:bkS s (some (f,l)) j=none):bkP s f l j=(fZ,[],false):=by unfold bkP;rw[h]
end Rc
namespace Go.Proofs.YtjeiacoegppoiaaGreatDoor
open Go Go.RowKit Rc
theorem znL(x:Qr)(r:Rat)(hr:x.q=r)(hfx:Fit 10000000000 x)(y:Qr)(s:Rat)(hs:y.q=s)(hfy:Fit 10000000000 y):Ctr Tryz.prog 177 [qV x,qV y] (R.one (V.one (Leaf.val (.bool ((decide (r<0)&&decide (0<s))))))):=by
 refine bd_ Tryz.func177 Tryz.ntmps177 rfl (fun w0 A0=>?_);refine zc 10 rfl (tc_ ziB rfl (zdm x (r) hr (hfx.mono (by omega))) ?_);by_cases h1:r<0
 .refine tq_ rfl (ltT rfl (zkb.2 h1)) (zl 2 rfl (tc_ ziB rfl (zdm y (s) hs (hfy.mono (by omega))) ?_));by_cases h2:0<s
  .refine tq_ rfl (gtT rfl (zdU.2 h2)) (zl 4 rfl ?_);exact r1_ hq_ rfl (by rw[decide_eq_true h1,decide_eq_true h2] <;> rfl)
  .refine tq_ rfl (gtF rfl (fun e=>h2 (zdU.1 e))) (zl 4 rfl ?_);exact r1_ hq_ rfl (by rw[decide_eq_false h2,Bool.and_false])
 .refine tq_ rfl (ltF rfl (fun e=>h1 (zkb.1 e))) (zl 8 rfl ?_);exact r1_ hq_ rfl (by rw[decide_eq_false h1] <;> rfl)
theorem zwi(x:Qr)(r:Rat)(hr:x.q=r)(hfx:Fit 1000000000000 x)(y:Qr)(s:Rat)(hs:y.q=s)(hfy:Fit 1000000000000 y)(hs0:s≠0):Ctr Tryz.prog 178 [qV x,qV y] (R.one (qV (qOf (r/s)))):=by
 refine bd_ Tryz.func178 Tryz.ntmps178 rfl (fun w0 A0=>?_);refine zc 11 rfl (tc_ zzn rfl (qdiv x (r) hr (hfx.mono (by omega)) y (s) hs (hfy.mono (by omega)) (by assumption)) (zl 14 rfl ?_));exact r1_ hq_ rfl rfl
theorem zqL(x:Qr)(r:Rat)(hr:x.q=r)(hfx:Fit 10000000000 x)(y:Qr)(s:Rat)(hs:y.q=s)(hfy:Fit 10000000000 y):Ctr Tryz.prog 110 [qV x,qV y] (R.one (V.one (Leaf.val (.int .i64 ((if slp r s=true then 1 else 0)))))):=by
 refine bd_ Tryz.func110 Tryz.ntmps110 rfl (fun w0 A0=>?_);haveI ixn:Bn (val x.n) 10000000000:=Bn.val x.hn hfx.n;haveI ixd:Bn (val x.d) 10000000000:=Bn.val x.hd hfx.d;haveI iyn:Bn (val y.n) 10000000000:=Bn.val y.hn hfy.n;haveI iyd:Bn (val y.d) 10000000000:=Bn.val y.hd hfy.d;haveI ir:Br r 10000000000:=hr ▸ Br.q hfx;haveI is:Br s 10000000000:=hs ▸ Br.q hfy;refine zc 9 rfl ?_;by_cases hu:r<0/\0<s
 .refine dr_ 0 [] [] (dz 2 rfl (kc_ zuJ rfl (znL x r hr (hfx.mono (by omega)) y s hs (hfy.mono (by omega))) (zgQ true rfl (zjp hu) (dz 3 rfl (kc_ zCC rfl (zBc x (r) hr (hfx.mono (by omega))) (kc_ zuE rfl (zui y (s) hs (hfy.mono (by omega)) (qOf (-(r))) (-(r)) (zaj _) (Br.use (by omega))) ?_))))));by_cases h3:-r<s
  .refine kq_ rfl (gtT rfl (by rw[zdu];exact h3)) (dz 1 rfl (zad (za 7 rfl ?_)));exact r1_ hq_ rfl (by rw[if_pos (zAP hu h3)])
  .refine kq_ rfl (gtF rfl (by rw[zdu];exact h3)) (dz 1 rfl (zad (za 9 rfl ?_)));exact r1_ hq_ rfl (by rw[zAQ h3] <;> rfl)
 .refine dr_ 0 [] [] (dz 2 rfl (kc_ zuJ rfl (znL x r hr (hfx.mono (by omega)) y s hs (hfy.mono (by omega))) (zgQ false rfl (zqs hu) (dz 7 rfl (zad (za 9 rfl ?_))))));exact r1_ hq_ rfl (by rw[zAO hu] <;> rfl)
theorem gap_p(x:Qr)(r:Rat)(hr:x.q=r)(hfx:Fit 10000000000 x)(y:Qr)(s:Rat)(hs:y.q=s)(hfy:Fit 10000000000 y)(h1:r<0)(h2:0<s):Ctr Tryz.prog 179 [qV x,qV y] (R.one (qV (qOf (zcC r s)))):=by
 refine bd_ Tryz.func179 Tryz.ntmps179 rfl (fun w0 A0=>?_);haveI ixn:Bn (val x.n) 10000000000:=Bn.val x.hn hfx.n;haveI ixd:Bn (val x.d) 10000000000:=Bn.val x.hd hfx.d;haveI iyn:Bn (val y.n) 10000000000:=Bn.val y.hn hfy.n;haveI iyd:Bn (val y.d) 10000000000:=Bn.val y.hd hfy.d;haveI ir:Br r 10000000000:=hr ▸ Br.q hfx;haveI is:Br s 10000000000:=hs ▸ Br.q hfy;have hne:s-r≠0:=by grind
 refine zc 12 rfl (tc_ zuJ rfl (znL x r hr (hfx.mono (by omega)) y s hs (hfy.mono (by omega))) (is_ true rfl (zjp ⟨h1,h2⟩) (zl 7 rfl (dr_ 0 [(8,2)] [2] (dz 2 rfl (kc_ zlZ rfl (zwj x (r) hr (hfx.mono (by omega)) y (s) hs (hfy.mono (by omega))) (kc_ zCC rfl (zBc (qOf ((r)*(s))) ((r)*(s)) (zaj _) (Br.use (by omega))) (dz 2 rfl ?_))))))));refine kc_ zuO rfl (zEf y (s) hs (hfy.mono (by omega)) x (r) hr (hfx.mono (by omega))) (kc_ zCX rfl (zwi (qOf (-((r)*(s)))) (-((r)*(s))) (zaj _) (Br.use (by omega)) (qOf ((s)-(r))) ((s)-(r)) (zaj _) (Br.use (by omega)) (by assumption)) (dz 1 rfl (zad (za 1 rfl ?_))));exact r1_ hq_ rfl rfl
theorem zx3(x:Qr)(r:Rat)(hr:x.q=r)(hfx:Fit 10000000000 x)(y:Qr)(s:Rat)(hs:y.q=s)(hfy:Fit 10000000000 y)(h1:r<0)(h2:0<s):Ctr Tryz.prog 111 [qV x,qV y] (R.tup [V.one (Leaf.val (.int .i64 ((if slp r s=true then 1 else 0)))),qV (qOf (zcB r s)),qV (qOf (zcC r s)),V.one (Leaf.val (.int .i64 0))]):=by
 refine bd_ Tryz.func111 Tryz.ntmps111 rfl (fun w0 A0=>?_);haveI ixn:Bn (val x.n) 10000000000:=Bn.val x.hn hfx.n;haveI ixd:Bn (val x.d) 10000000000:=Bn.val x.hd hfx.d;haveI iyn:Bn (val y.n) 10000000000:=Bn.val y.hn hfy.n;haveI iyd:Bn (val y.d) 10000000000:=Bn.val y.hd hfy.d;haveI ir:Br r 10000000000:=hr ▸ Br.q hfx;haveI is:Br s 10000000000:=hs ▸ Br.q hfy;have hne:s-r≠0:=by grind
 refine zc 15 rfl (tc_ zuJ rfl (znL x r hr (hfx.mono (by omega)) y s hs (hfy.mono (by omega))) (is_ true rfl (zjp ⟨h1,h2⟩) (zl 7 rfl (dr_ 0 [(12,2),(13,3)] [2,3] (dz 2 rfl (kc_ zDe rfl (zqL x r hr (hfx.mono (by omega)) y s hs (hfy.mono (by omega))) (dz 3 rfl (kc_ zuO rfl (zEf y (s) hs (hfy.mono (by omega)) x (r) hr (hfx.mono (by omega))) ?_))))))));refine kc_ zCX rfl (zwi y (s) hs (hfy.mono (by omega)) (qOf ((s)-(r))) ((s)-(r)) (zaj _) (Br.use (by omega)) (by assumption)) (dz 2 rfl (kc_ fn179 rfl (gap_p x r hr (hfx.mono (by omega)) y s hs (hfy.mono (by omega)) h1 h2) (dz 4 rfl (zad (za 1 rfl ?_)))));exact ztb hq_ rfl rfl (rA zmx rfl rfl rfl rfl) (rA zmx rfl rfl rfl rfl) rfl rfl
theorem znK(x:Qr)(r:Rat)(hr:x.q=r)(hfx:Fit 10000000000 x)(y:Qr)(s:Rat)(hs:y.q=s)(hfy:Fit 10000000000 y):Ctr Tryz.prog 191 [qV x,qV y] (R.one (V.one (Leaf.val (.bool ((decide (r<0)&&decide (0<s))))))):=by
 refine bd_ Tryz.func191 Tryz.ntmps191 rfl (fun w0 A0=>?_);refine zc 10 rfl (tc_ zg9 rfl (zbG x (r) hr (hfx.mono (by omega))) ?_);by_cases h1:r<0
 .refine tq_ rfl (ltT rfl (zkb.2 h1)) (zl 2 rfl (tc_ zg9 rfl (zbG y (s) hs (hfy.mono (by omega))) ?_));by_cases h2:0<s
  .refine tq_ rfl (gtT rfl (zdU.2 h2)) (zl 4 rfl ?_);exact r1_ hq_ rfl (by rw[decide_eq_true h1,decide_eq_true h2] <;> rfl)
  .refine tq_ rfl (gtF rfl (fun e=>h2 (zdU.1 e))) (zl 4 rfl ?_);exact r1_ hq_ rfl (by rw[decide_eq_false h2,Bool.and_false])
 .refine tq_ rfl (ltF rfl (fun e=>h1 (zkb.1 e))) (zl 8 rfl ?_);exact r1_ hq_ rfl (by rw[decide_eq_false h1] <;> rfl)
theorem zwh(x:Qr)(r:Rat)(hr:x.q=r)(hfx:Fit 1000000000000 x)(y:Qr)(s:Rat)(hs:y.q=s)(hfy:Fit 1000000000000 y)(hs0:s≠0):Ctr Tryz.prog 192 [qV x,qV y] (R.one (qV (qOf (r/s)))):=by
 refine bd_ Tryz.func192 Tryz.ntmps192 rfl (fun w0 A0=>?_);refine zc 11 rfl (tc_ zuN rfl (zt8 x (r) hr (hfx.mono (by omega)) y (s) hs (hfy.mono (by omega)) (by assumption)) (zl 14 rfl ?_));exact r1_ hq_ rfl rfl
theorem zqK(x:Qr)(r:Rat)(hr:x.q=r)(hfx:Fit 10000000000 x)(y:Qr)(s:Rat)(hs:y.q=s)(hfy:Fit 10000000000 y):Ctr Tryz.prog 127 [qV x,qV y] (R.one (V.one (Leaf.val (.int .i64 ((if slp r s=true then 1 else 0)))))):=by
 refine bd_ Tryz.func127 Tryz.ntmps127 rfl (fun w0 A0=>?_);haveI ixn:Bn (val x.n) 10000000000:=Bn.val x.hn hfx.n;haveI ixd:Bn (val x.d) 10000000000:=Bn.val x.hd hfx.d;haveI iyn:Bn (val y.n) 10000000000:=Bn.val y.hn hfy.n;haveI iyd:Bn (val y.d) 10000000000:=Bn.val y.hd hfy.d;haveI ir:Br r 10000000000:=hr ▸ Br.q hfx;haveI is:Br s 10000000000:=hs ▸ Br.q hfy;refine zc 9 rfl ?_;by_cases hu:r<0/\0<s
 .refine zc 3 rfl (tc_ zuG rfl (znK x r hr (hfx.mono (by omega)) y s hs (hfy.mono (by omega))) (is_ true rfl (zjp hu) (zl 3 rfl (tc_ zze rfl (zmQ x (r) hr (hfx.mono (by omega)) y (s) hs (hfy.mono (by omega))) (tc_ zg9 rfl (zbG (qOf ((r)+(s))) ((r)+(s)) (zaj _) (Br.use (by omega))) ?_)))));by_cases h3:-r<s
  .refine tq_ rfl (gtT rfl (zdU.2 (by grind))) (zl 9 rfl ?_);exact r1_ hq_ rfl (by rw[if_pos (zAP hu h3)])
  .refine tq_ rfl (gtF rfl (fun e=>h3 (by have:=zdU.1 e;grind))) (zl 11 rfl ?_);exact r1_ hq_ rfl (by rw[zAQ h3] <;> rfl)
 .refine zc 3 rfl (tc_ zuG rfl (znK x r hr (hfx.mono (by omega)) y s hs (hfy.mono (by omega))) (is_ false rfl (zqs hu) (zl 17 rfl ?_)));exact r1_ hq_ rfl (by rw[zAO hu] <;> rfl)
theorem gap_r(x:Qr)(r:Rat)(hr:x.q=r)(hfx:Fit 10000000000 x)(y:Qr)(s:Rat)(hs:y.q=s)(hfy:Fit 10000000000 y)(h1:r<0)(h2:0<s):Ctr Tryz.prog 193 [qV x,qV y] (R.one (qV (qOf (zcC r s)))):=by
 refine bd_ Tryz.func193 Tryz.ntmps193 rfl (fun w0 A0=>?_);haveI ixn:Bn (val x.n) 10000000000:=Bn.val x.hn hfx.n;haveI ixd:Bn (val x.d) 10000000000:=Bn.val x.hd hfx.d;haveI iyn:Bn (val y.n) 10000000000:=Bn.val y.hn hfy.n;haveI iyd:Bn (val y.d) 10000000000:=Bn.val y.hd hfy.d;haveI ir:Br r 10000000000:=hr ▸ Br.q hfx;haveI is:Br s 10000000000:=hs ▸ Br.q hfy;have hne:s-r≠0:=by grind
 refine zc 12 rfl (tc_ zuG rfl (znK x r hr (hfx.mono (by omega)) y s hs (hfy.mono (by omega))) (is_ true rfl (zjp ⟨h1,h2⟩) (zl 7 rfl (dr_ 0 [(8,2)] [2] (dz 2 rfl (kc_ zwC rfl (zlz x (r) hr (hfx.mono (by omega)) y (s) hs (hfy.mono (by omega))) (kc_ zAt rfl (zpo (qOf ((r)*(s))) ((r)*(s)) (zaj _) (Br.use (by omega))) (dz 2 rfl ?_))))))));refine kc_ zzd rfl (zmO y (s) hs (hfy.mono (by omega)) x (r) hr (hfx.mono (by omega))) (kc_ zCU rfl (zwh (qOf (-((r)*(s)))) (-((r)*(s))) (zaj _) (Br.use (by omega)) (qOf ((s)-(r))) ((s)-(r)) (zaj _) (Br.use (by omega)) (by assumption)) (dz 1 rfl (zad (za 1 rfl ?_))));exact r1_ hq_ rfl rfl
theorem zx2(x:Qr)(r:Rat)(hr:x.q=r)(hfx:Fit 10000000000 x)(y:Qr)(s:Rat)(hs:y.q=s)(hfy:Fit 10000000000 y)(h1:r<0)(h2:0<s):Ctr Tryz.prog 128 [qV x,qV y] (R.tup [V.one (Leaf.val (.int .i64 ((if slp r s=true then 1 else 0)))),qV (qOf (zcB r s)),qV (qOf (zcC r s)),V.one (Leaf.val (.int .i64 0))]):=by
 refine bd_ Tryz.func128 Tryz.ntmps128 rfl (fun w0 A0=>?_);haveI ixn:Bn (val x.n) 10000000000:=Bn.val x.hn hfx.n;haveI ixd:Bn (val x.d) 10000000000:=Bn.val x.hd hfx.d;haveI iyn:Bn (val y.n) 10000000000:=Bn.val y.hn hfy.n;haveI iyd:Bn (val y.d) 10000000000:=Bn.val y.hd hfy.d;haveI ir:Br r 10000000000:=hr ▸ Br.q hfx;haveI is:Br s 10000000000:=hs ▸ Br.q hfy;have hne:s-r≠0:=by grind
 refine zc 15 rfl (tc_ zuG rfl (znK x r hr (hfx.mono (by omega)) y s hs (hfy.mono (by omega))) (is_ true rfl (zjp ⟨h1,h2⟩) (zl 7 rfl (dr_ 0 [(12,2),(13,3)] [2,3] (dz 2 rfl (kc_ zDa rfl (zqK x r hr (hfx.mono (by omega)) y s hs (hfy.mono (by omega))) (dz 3 rfl (kc_ zzd rfl (zmO y (s) hs (hfy.mono (by omega)) x (r) hr (hfx.mono (by omega))) ?_))))))));refine kc_ zCU rfl (zwh y (s) hs (hfy.mono (by omega)) (qOf ((s)-(r))) ((s)-(r)) (zaj _) (Br.use (by omega)) (by assumption)) (dz 2 rfl (kc_ fn193 rfl (gap_r x r hr (hfx.mono (by omega)) y s hs (hfy.mono (by omega)) h1 h2) (dz 4 rfl (zad (za 1 rfl ?_)))));exact ztb hq_ rfl rfl (rA zmx rfl rfl rfl rfl) (rA zmx rfl rfl rfl rfl) rfl rfl
theorem zuZ(x:Rat){B:Nat}[Br x B](hB:B<=10000000000):Ctr Tryz.prog 105 [V.agg (qL (x))] (R.one (V.agg (qL (x)))):=by
 refine bd_ Tryz.func105 Tryz.ntmps105 rfl (fun w0 A0=>?_);refine zc 7 rfl (dr_ 0 [(9,1)] [1] (dz 4 rfl (kc_ zkC rfl (zin (zaa (zav x)) (zab _) (Br.use (r:=x) (by omega)).n (zav x) (zac _)) (dz 2 rfl (kc_ zkC rfl (zin (zaa (zaC x)) (zab _) (Br.use (r:=x) (by omega)).d (zaC x) (zac _)) (dz 2 rfl (zad (za 1 rfl ?_))))))));exact r1_ hq_ rfl rfl
theorem zDE(f:Af){B n:Nat}(hf:FL B n f)(hB:B<=10000000000)(hn:n<=400)(v:Nat)(hv:v<=1000000):Ctr Tryz.prog 51 [afV f,V.one (Leaf.val (.int .i64 ((v:Int))))] (R.one (V.agg (qL (co f.ts v)))):=by
 refine bd_ Tryz.func51 Tryz.ntmps51 rfl (fun w0 A0=>?_);haveI:=hf.fm (by omega);haveI:=hf.cb;have hfl:=(hf.fm (by omega)).len;refine zc 11 rfl (tq_ rfl (jln rfl) (zl 4 rfl (fr_ [0] rfl ?_)));refine zbq (fun m Γ H=>∃(i:Nat),f.ts.length-i=m/\Γ=[(1,some (D.val (.int .i64 (v:Int)))),(4,some (D.ptr 1 0)),(8,some (D.v (V.one (El.row tmE f.ts)))),(9,some (D.val (.int .i64 ((f.ts.length:Nat):Int)))),(10,some (D.val (.int .i64 (i:Int))))]/\H=[none,hb_ 36 [Leaf.val (.bool false),zaf ([]),zaf ([])]]/\i<=f.ts.length/\co (f.ts.drop i) v=co f.ts v) ⟨0,rfl,rfl,rfl,zEs _,rfl⟩ rfl ?_;rintro m Γ H ⟨i,rfl,rfl,rfl,hi0,hco⟩;refine zc 2 rfl ?_;by_cases hi:i<f.ts.length
 .refine tq_ rfl (ltT rfl) (zl 9 rfl ?_);obtain⟨x,hx⟩:∃x,f.ts[i]?=some x:=⟨_,zEm hi⟩;haveI hxb:=hf.bd x (zEn hx);refine zc 1 rfl (tq_ rfl (jix i hx rfl) (tq_ rfl (jlr rfl) (zl 9 rfl ?_)));by_cases hv_:x.1=v
  .refine tq_ rfl (eqT rfl) (zl 7 rfl (tc_ fn105 rfl (zuZ x.2 (by omega)) (zl 3 rfl ?_)));exact r1_ hq_ rfl (by rw[<-hco,zwR hx hv_] <;> rfl)
  .refine tq_ rfl (eqF rfl) (zl 7 rfl (tq_ rfl (jad (i+1) rfl) (zl 2 rfl (zal 2 (zaK 2 rfl ?_)))));exact nx_ ⟨i+1,rfl,rfl,rfl,hi,(by rw[zsn hx hv_];exact hco)⟩ rfl
 .refine tq_ rfl (ltF rfl) (zl 15 rfl ?_);exact r1_ hq_ rfl (by rw[<-hco,zwS (by omega)];show _=R.one (qV (qOf 0));rw[<-zcf] <;> rfl)
theorem zwQ(f:Af){B n:Nat}(hf:FL B n f)(hB:B<=10000000000)(hn:n<=400)(v:Nat)(hv:v<=1000000):Ctr Tryz.prog 124 [afV f,V.one (Leaf.val (.int .i64 ((v:Int))))] (R.one (V.agg (qL (co f.ts v)))):=by
 refine bd_ Tryz.func124 Tryz.ntmps124 rfl (fun w0 A0=>?_);haveI:=hf.fm (by omega);haveI:=hf.cb;have hfl:=(hf.fm (by omega)).len;refine zc 13 rfl ?_;refine zbq (fun m Γ H=>∃(i:Nat),f.ts.length-i=m/\Γ=[(1,some (D.val (.int .i64 (v:Int)))),(2,some (D.ptr 0 0)),(4,some (D.ptr 1 0)),(5,some (D.val (.int .i64 (i:Int))))]/\H=[hb_ 38 (afL f),hb_ 36 [Leaf.val (.bool false),zaf ([]),zaf ([])]]/\i<=f.ts.length/\co (f.ts.drop i) v=co f.ts v) ⟨0,rfl,rfl,rfl,zEs _,rfl⟩ rfl ?_;rintro m Γ H ⟨i,rfl,rfl,rfl,hi0,hco⟩;refine zc 6 rfl (tq_ rfl (jln rfl) ?_);by_cases hi:i<f.ts.length
 .refine tq_ rfl (ltT rfl) (zl 8 rfl ?_);obtain⟨x,hx⟩:∃x,f.ts[i]?=some x:=⟨_,zEm hi⟩;haveI hxb:=hf.bd x (zEn hx);refine zc 4 rfl (tq_ rfl (jix i hx rfl) (tq_ rfl (jfr rfl) (tq_ rfl (jli rfl) (zl 1 rfl ?_))));by_cases hv_:x.1=v
  .refine tq_ rfl (eqT rfl) (zl 8 rfl (tq_ rfl (jix i hx rfl) (tq_ rfl (jfr rfl) (tq_ rfl (jlr rfl) (zl 3 rfl ?_)))));exact r1_ hq_ rfl (by rw[<-hco,zwR hx hv_] <;> rfl)
  .refine tq_ rfl (eqF rfl) (zl 8 rfl (tq_ rfl (jad (i+1) rfl) (zl 2 rfl ?_)));exact nx_ ⟨i+1,rfl,rfl,rfl,hi,(by rw[zsn hx hv_];exact hco)⟩ rfl
 .refine tq_ rfl (ltF rfl) (zl 14 rfl ?_);exact r1_ hq_ rfl (by rw[<-hco,zwS (by omega)];show _=R.one (qV (qOf 0));rw[<-zcf] <;> rfl)
theorem add_p(f g:Af){B C n:Nat}(hf:FL B n f)(hg:FL C n g)(h1:B<=10000000000)(h2:C<=10000000000)(hn:n<=400):Ctr Tryz.prog 112 [afV f,afV g] (R.one (afV (zgy f g))):=by
 refine bd_ Tryz.func112 Tryz.ntmps112 rfl (fun w0 A0=>?_);haveI:Br ((1:Int):Rat) 2:=Br.int2 (by decide) (by decide);refine zc 8 rfl (dr_ 0 [(4,2)] [2] (dz 2 rfl (kc_ zCE rfl (zf1 1 (by decide) (by decide)) (kc_ zzm rfl (zm1 f g ((1:Int):Rat) hf hg (by omega) (by omega) (by omega) (by omega)) (dz 1 rfl (zad (za 1 rfl ?_)))))));exact r1_ hq_ rfl (by show R.one (afV ⟨mrg _ f.ts g.ts,f.c+g.c*1⟩)=R.one (afV ⟨zgE f.ts g.ts,f.c+g.c⟩);rw[Rat.mul_one,zrD hf.can hg.can,zAS hg.can])
theorem zxo(f g:Af){B C n:Nat}(hf:FL B n f)(hg:FL C n g)(h1:B<=10000000000)(h2:C<=10000000000)(hn:n<=400)(v:Nat)(hv:v<=1000000):Ctr Tryz.prog 54 [afV f,V.one (Leaf.val (.int .i64 ((v:Int)))),afV g] (R.one (afV (zqH f v g))):=by
 refine bd_ Tryz.func54 Tryz.ntmps54 rfl (fun w0 A0=>?_);haveI:=hf.fm (by omega);haveI:=hf.cb;haveI:=hg.fm (by omega);haveI:=hg.cb;have hfl:=(hf.fm (by omega)).len;haveI hcb:Br (co f.ts v) B:=zpY hf.bd v;have hr:=zv8 (v:=v) hf;have hsg:=FL.sc (c:=co f.ts v) hg;haveI:=hsg.fm (by omega);haveI:=hsg.cb;refine zc 11 rfl (tq_ rfl (zey rfl zAm rfl zEg rfl) (te_ rfl (zdQ (n:=3) rfl zAm rfl) (zl 4 rfl (zcS 3 103 4 (ls':=[Leaf.own 4 0,Leaf.val (.bool (zaR f.c)),zaf (zaa (zav f.c)),zaf (zaa (zaC f.c))]) rfl rfl rfl ⟨.inr ⟨rfl,rfl⟩,.inl rfl,.inl rfl,.inl rfl,trivial⟩ (zc 2 rfl (eq_ (D.agg (qL 0)) rfl (zBa) (zl 9 rfl (tq_ rfl (jln rfl) (zl 4 rfl ?_)))))))));refine fr_ [0] rfl ?_;refine zbq (fun m Γ H=>∃(i:Nat) (n_:Nat) (out:List Tm),f.ts.length-i=m/\Γ=[(1,some (D.val (.int .i64 (v:Int)))),(5,some (D.ptr 1 0)),(6,some (D.ptr 2 0)),(7,some (D.ptr 3 0)),(8,some (D.ptr 5 0)),(16,some (D.v (V.one (El.row tmE f.ts)))),(17,some (D.val (.int .i64 ((f.ts.length:Nat):Int)))),(18,some (D.val (.int .i64 (i:Int))))]/\H=[none,hb_ 38 (afL g),hb_ 38 [El.row tmE ([]),Leaf.val (.bool false),zaf ([]),zaf ([])],hb_ 38 [Leaf.own 4 n_,Leaf.val (.bool (zaR f.c)),zaf (zaa (zav f.c)),zaf (zaa (zaC f.c))],hgr 103 4 tmE out n_,hb_ 36 (qL (co (f.ts.take i) v))]/\i<=f.ts.length/\out=zh9 (f.ts.take i) v) ⟨0,0,[],rfl,rfl,rfl,zEs _,rfl⟩ rfl ?_;rintro m Γ H ⟨i,n_,out,rfl,rfl,rfl,hi0,hout⟩;refine zc 2 rfl ?_;by_cases hi:i<f.ts.length
 .refine tq_ rfl (ltT rfl) (zl 9 rfl ?_);obtain⟨x,hx⟩:∃x,f.ts[i]?=some x:=⟨_,zEm hi⟩;haveI hxb:=hf.bd x (zEn hx);have hol:out.length<=400:=by rw[hout];refine zEw (zxA _ _) ?_;rw[zED];omega
  refine zc 1 rfl (tq_ rfl (jix i hx rfl) (tq_ rfl (jlr rfl) (zl 9 rfl ?_)));by_cases hv_:x.1=v
  .refine tq_ rfl (eqT rfl) (zl 11 rfl (tq_ rfl (jad (i+1) rfl) (zl 2 rfl (zal 6 (zaK 6 rfl ?_)))));exact nx_ ⟨i+1,n_,out,rfl,rfl,(by rw[zu3 hf.can hx hv_];rfl),hi,(by rw[hout,zq6 hx hv_])⟩ rfl
  .refine tq_ rfl (eqF rfl) (zl 7 rfl (te_ rfl (zae rfl zlh zfw zlk rfl (by decide) (by decide) rfl (by decide) rfl) (te_ rfl (jap x rfl rfl) (zl 6 rfl (tq_ rfl (jad (i+1) rfl) (zl 2 rfl (zal 6 (zaK 6 rfl ?_))))))));exact nx_ ⟨i+1,(n_+1),(out++[x]),rfl,rfl,(by rw[zu2 hx hv_];rfl),hi,(by rw[hout,zq5 hx hv_])⟩ rfl
 .refine tq_ rfl (ltF rfl) (zl 10 rfl ?_);have hie:i=f.ts.length:=by omega
  rw[hie,zEJ] at hout;subst hout;rw[hie,zEJ];refine zc 1 rfl (tq_ rfl (jvl 0 rfl rfl) (zl 2 rfl (tc_ zzm rfl (zm1 ⟨zh9 f.ts v,f.c⟩ g (co f.ts v) hr hg (by omega) (by omega) (by omega) (by omega)) (zl 3 rfl ?_))));exact r1_ hq_ rfl (by show R.one (afV ⟨mrg _ (zh9 f.ts v) g.ts,_⟩)=R.one (afV ⟨zgE (zh9 f.ts v) (scT g.ts (co f.ts v)),f.c+g.c*co f.ts v⟩);rw[zrD hr.can hg.can])
theorem zej(f g:Af){B C n:Nat}(hf:FL B n f)(hg:FL C n g)(h1:B<=10000000000)(h2:C<=10000000000)(hn:n<=400)(v:Nat)(hv:v<=1000000):Ctr Tryz.prog 130 [afV f,V.one (Leaf.val (.int .i64 ((v:Int)))),afV g] (R.one (afV (zqH f v g))):=by
 refine bd_ Tryz.func130 Tryz.ntmps130 rfl (fun w0 A0=>?_);haveI:=hf.fm (by omega);haveI:=hf.cb;haveI:=hg.fm (by omega);haveI:=hg.cb;have hfl:=(hf.fm (by omega)).len;haveI hcb:Br (co f.ts v) B:=zpY hf.bd v;have hr:=zv8 (v:=v) hf;have hsg:=FL.sc (c:=co f.ts v) hg;haveI:=hsg.fm (by omega);haveI:=hsg.cb;haveI:Fm (zh9 f.ts v) B n:=hr.fm (by omega);haveI:Br (-(co f.ts v)) B:=hcb.neg;refine zc 11 rfl (tc_ zDd rfl (zwQ f hf (by omega) (by omega) v (by omega)) (zl 5 rfl (dr_ 0 [(9,2)] [2] (dz 3 rfl (kc_ zAt rfl (zpo (qOf ((co f.ts v))) ((co f.ts v)) (zaj _) (Br.use (by omega))) (kc_ zC7 rfl (zA3 f v (-(co f.ts v)) (B:=B) (C:=B) hf.can hf.bd (by omega) (by omega) (by omega)) (zi8 (D.agg (afL ⟨zh9 f.ts v,f.c⟩)) rfl (by rw[<-zzT hf.can]) ?_)))))));refine dz 2 rfl (kc_ zqh rfl (zcc g (co f.ts v) (by omega) (by omega)) (kc_ zCF rfl (zie ⟨(zh9 f.ts v),f.c⟩ (fSc g (co f.ts v)) (by omega) (by omega) (by omega)) (dz 1 rfl (zad (za 1 rfl ?_)))));exact r1_ hq_ rfl rfl
theorem zv6(s:Sc)(hs:SB 135001 s)(k:Nat)(j:Int):Ctr Tryz.prog 108 [scV s,V.one (Leaf.val (.int .i64 ((k:Int)))),V.one (Leaf.val (.int .i64 (j)))] (R.one (V.one (Leaf.val (.bool (zfm s.path k j))))):=by
 refine bd_ Tryz.func108 Tryz.ntmps108 rfl (fun w0 A0=>?_);have hB:=hs.B;have hq:=hs.q;have hd:=hs.d;have hpl:=hs.pl;have hl:=hs.ll;have hg:=hq.g;have hr:=hq.r;have hlo:=hr.lo;have hhi:=hr.hi;have h1:=hg.i1;have h2:=hg.i3;have h3:=hg.u4;have h4:=hg.o1;have h5:=hg.o3;refine zc 11 rfl (tq_ rfl (jln rfl) (zl 4 rfl ?_));refine zbq (fun m Γ H=>∃(i:Nat),s.path.length-i=m/\Γ=[(1,some (D.val (.int .i64 (k:Int)))),(2,some (D.val (.int .i64 j))),(3,some (D.ptr 0 0)),(10,some (D.v (V.one (El.row dcE s.path)))),(11,some (D.val (.int .i64 ((s.path.length:Nat):Int)))),(12,some (D.val (.int .i64 (i:Int))))]/\H=[hb_ 43 (scL s)]/\i<=s.path.length/\zuX s.path k j i=false) ⟨0,rfl,rfl,rfl,zEs _,rfl⟩ rfl ?_;rintro m Γ H ⟨i,rfl,rfl,rfl,hi0,hno⟩;refine zc 2 rfl ?_;by_cases hi:i<s.path.length
 .refine tq_ rfl (ltT rfl) (zl 9 rfl ?_);obtain⟨x,hx⟩:∃x,s.path[i]?=some x:=⟨_,zEm hi⟩;have hxd:=hd x (zEn hx);refine zc 1 rfl (tq_ rfl (jix i hx rfl) (tq_ rfl (jlr rfl) (zl 11 rfl ?_)));refine zdT rfl (fun hk1=>?_) (fun hk1=>?_)
  .refine zl 18 rfl (tq_ rfl (jad (i+1) rfl) (zl 2 rfl (zal 1 (zaK 1 rfl ?_))));exact nx_ ⟨i+1,rfl,rfl,rfl,hi,by rw[zcY hx,hno,hk1];rfl⟩ rfl
  .refine zl 6 rfl ?_;refine zdT rfl (fun hk2=>?_) (fun hk2=>?_)
   .refine zl 12 rfl (tq_ rfl (jad (i+1) rfl) (zl 2 rfl (zal 1 (zaK 1 rfl ?_))));exact nx_ ⟨i+1,rfl,rfl,rfl,hi,by rw[zcY hx,hno,hk1,hk2];rfl⟩ rfl
   .refine zl 3 rfl (tc_ zCY rfl (zwE s.q hq x hxd (by omega)) (zl 9 rfl ?_));exact r1_ hq_ rfl (by rw[zoG hx hk1 hk2])
 .refine tq_ rfl (ltF rfl) (zl 14 rfl ?_);exact r1_ hq_ rfl (by rw[<-zhK,<-show i=s.path.length by omega,hno])
end Go.Proofs.YtjeiacoegppoiaaGreatDoor
