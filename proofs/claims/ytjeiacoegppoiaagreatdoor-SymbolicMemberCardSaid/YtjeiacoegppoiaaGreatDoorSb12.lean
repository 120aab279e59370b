/- Parts of the proof, 12: the texts WlC2, WlD2, WlY, WlE2, WlF2, Sym, SymB, SymC, SymW, WlJ2, as far as they are used. -/
import Derived.Test.YtjeiacoegppoiaaGreatDoorSb11
set_option linter.unusedSimpArgs false
set_option linter.unusedVariables false
set_option maxRecDepth 10000
namespace Go.Proofs.YtjeiacoegppoiaaGreatDoor
open Go Go.RowKit Rc
theorem zy7(s:Sc)(hs:SB 135001 s)(i:Nat)(hi:i<s.q.g.inp)(up:Bool):Ctr Tryz.prog 194 [vwV s,V.one (Leaf.val (.int .i64 ((i:Int)))),V.one (Leaf.val (.bool up))] (R.tup [qV (qOf (ziZ s i up).1),V.one (El.row muE (zj0 (ziZ s i up).2)),V.one (Leaf.val (.bool true))]):=by
 refine bd_ Tryz.func194 Tryz.ntmps194 rfl (fun w0 A0=>?_);have hB:=hs.B;have hq:=hs.q;have hd:=hs.d;have hpl:=hs.pl;have hl:=hs.ll;have hg:=hq.g;have hr:=hq.r;have hlo:=hr.lo;have hhi:=hr.hi;have h1:=hg.i1;have h2:=hg.i3;have h3:=hg.u4;have h4:=hg.o1;have h5:=hg.o3;obtain⟨a0,ha0⟩:∃a,s.q.r.lo[i]?=some a:=⟨_,zFh (by omega)⟩;obtain⟨c0,hc0⟩:∃a,s.q.r.hi[i]?=some a:=⟨_,zFh (by omega)⟩;have ha:s.q.r.lo[i]?=some ((s.q.r.lo[i]?).getD 0):=by rw[ha0];rfl
 have hc_:s.q.r.hi[i]?=some ((s.q.r.hi[i]?).getD 0):=by rw[hc0];rfl
 obtain⟨hb1,hb2,_⟩:=hr.bd i a0 c0 ha0 hc0;haveI:Br ((s.q.r.lo[i]?).getD 0) 4:=by rw[ha0];exact hb1.br
 haveI:Br ((s.q.r.hi[i]?).getD 0) 8:=by rw[hc0];exact hb2.br.mono (by omega)
 refine zc 10 rfl (tq_ rfl (zbl rfl rfl) (tq_ rfl (jft rfl) (tq_ rfl (jft rfl) (tq_ rfl (jft rfl) (tq_ rfl (jlr rfl) (zl 5 rfl ?_))))));refine nz_ [so 0 (D.rep (zaV (vwL s))),so 1 (D.val (.int .i64 (i:Int))),so 2 (D.bool up),so 6 (D.ptr 0 0),so 9 (D.ptr 1 0)] [hb_ 36 [Leaf.val (.bool false),zaf ([]),zaf ([])],hb_ 31 [El.row ratE s.q.r.lo,El.row ratE s.q.r.hi,El.row afE s.q.r.rows]] rfl rfl (zc 4 rfl (tq_ rfl (jix i ha rfl) (tq_ rfl (jlr rfl) (zl 10 rfl ?_))));refine mt_ [so 0 (D.rep (zaV (vwL s))),so 1 (D.val (.int .i64 (i:Int))),so 6 (D.ptr 0 0),so 10 (D.ptr 2 0),so 11 (D.ptr 3 0),so 12 (D.val (.int .i64 (((if up=true then 4 else 3):Nat):Int))),so 13 (D.val (.int .i64 (if up=true then -1 else 1)))] [hb_ 36 [Leaf.val (.bool false),zaf ([]),zaf ([])],none,hb_ 36 (qL ((zjw s i up).1)),hb_ 107 [Leaf.val (.int .i64 ((zjw s i up).2.kind)),Leaf.val (.int .i64 ((zjw s i up).2.idx)),Leaf.val (.int .i64 ((zjw s i up).2.lo)),Leaf.val (.int .i64 ((zjw s i up).2.hi))]] ?_ ?_
 .refine zc 1 rfl (nz_ [so 0 _,so 1 _,so 2 _,so 6 _,so 9 _,so 10 (D.ptr 2 0),so 11 (D.ptr 3 0),so 12 (D.val (.int .i64 3)),so 13 (D.val (.int .i64 1))] [_,_,hb_ 36 (qL ((s.q.r.lo[i]?).getD 0)),hb_ 107 [Leaf.val (.int .i64 1),Leaf.val (.int .i64 (i:Int)),Leaf.val (.int .i64 0),Leaf.val (.int .i64 0)]] rfl rfl (zc 4 rfl ?_));refine zap rfl (fun hup=>?_) (fun hup=>?_)
  .subst hup;refine zc 4 rfl (tq_ rfl (jix i hc_ rfl) (tq_ rfl (jlr rfl) (zl 7 rfl (zal 1 ?_))));exact mx_ rfl
  .subst hup;refine zc 1 rfl (zal 1 ?_);exact mx_ rfl
 .refine zc 4 rfl (tq_ rfl (zbl rfl rfl) (tq_ rfl (jft rfl) (tq_ rfl (jfr rfl) (tq_ rfl (jli rfl) (tq_ rfl (jln rfl) (zl 4 rfl ?_))))));refine zbo (fun m Γ H=>∃(n:Nat) (b:Rat×Rw),s.path.length-n=m/\Γ=[(0,some (D.rep (zaV (vwL s)))),(1,some (D.val (.int .i64 (i:Int)))),(6,some (D.ptr 0 0)),(10,some (D.ptr 2 0)),(11,some (D.ptr 3 0)),(12,some (D.val (.int .i64 (((if up=true then 4 else 3):Nat):Int)))),(13,some (D.val (.int .i64 (if up=true then -1 else 1)))),(41,some (D.v (V.one (El.row dcE s.path)))),(42,some (D.val (.int .i64 ((s.path.length:Nat):Int)))),(43,some (D.val (.int .i64 (n:Int))))]/\H=[hb_ 36 [Leaf.val (.bool false),zaf ([]),zaf ([])],none,hb_ 36 (qL b.1),hb_ 107 [Leaf.val (.int .i64 b.2.kind),Leaf.val (.int .i64 b.2.idx),Leaf.val (.int .i64 b.2.lo),Leaf.val (.int .i64 b.2.hi)]]/\n<=s.path.length/\b=zgK s i up n) ⟨0,zjw s i up,rfl,rfl,rfl,zFn _,rfl⟩ rfl ?_;rintro m Γ H ⟨n,b,rfl,rfl,rfl,hn0,hb⟩;refine zc 2 rfl ?_;by_cases hn:n<s.path.length
  .refine tq_ rfl (ltT rfl) (zl 9 rfl ?_);obtain⟨d,hdx⟩:∃d,s.path[n]?=some d:=⟨_,zFh hn⟩;have hdo:=hd d (zFi hdx);haveI:=hdo.2.br;haveI hbb:Br b.1 201:=by rw[hb];exact zsJ hs hi up (by omega)
   refine nz_ [so 0 (D.rep (zaV (vwL s))),so 1 (D.val (.int .i64 (i:Int))),so 6 (D.ptr 0 0),so 10 (D.ptr 2 0),so 11 (D.ptr 3 0),so 12 (D.val (.int .i64 (((if up=true then 4 else 3):Nat):Int))),so 13 (D.val (.int .i64 (if up=true then -1 else 1))),so 41 (D.v (V.one (El.row dcE s.path))),so 42 (D.val (.int .i64 ((s.path.length:Nat):Int))),so 43 (D.val (.int .i64 (n:Int)))] [hb_ 36 [Leaf.val (.bool false),zaf ([]),zaf ([])],none,hb_ 36 (qL b.1),hb_ 107 [Leaf.val (.int .i64 b.2.kind),Leaf.val (.int .i64 b.2.idx),Leaf.val (.int .i64 b.2.lo),Leaf.val (.int .i64 b.2.hi)]] rfl rfl ?_;refine zc 2 rfl (tq_ rfl (jix n hdx rfl) (tq_ rfl (jlr rfl) (zl 8 rfl (tq_ rfl (zbl rfl rfl) (tq_ rfl (jfr rfl) (tq_ rfl (jli rfl) (zl 1 rfl (tq_ rfl (jix n (zrX hn) rfl) (tq_ rfl (jli rfl) ?_)))))))));refine zl 4 rfl ?_;by_cases hk:d.kind=(if up=true then 4 else 3)
   .refine tq_ rfl (eqT rfl (by rw[hk])) (zl 5 rfl ?_);by_cases hx:d.idx=i
    .refine tq_ rfl (eqT rfl) (zl 5 rfl (tc_ zxp rfl (zw8 (qOf (d.pt)) (d.pt) (zah _) (Br.use (by omega)) (qOf (b.1)) (b.1) (zah _) (Br.use (by omega))) (zl 1 rfl ?_)));by_cases hc:(if up=true then d.pt<b.1 else b.1<d.pt)
     .refine tq_ rfl (eqT rfl (zxl.2 hc)) (zl 4 rfl ?_);refine nz_ [so 0 _,so 1 _,so 6 _,so 10 _,so 11 _,so 12 _,so 13 _,so 14 (D.val (.int .i64 (n:Int))),so 15 (D.ptr 4 0),so 41 _,so 42 _,so 43 _] [_,none,_,_,hb_ 76 [Leaf.val (.int .i64 ((d.kind:Nat):Int)),Leaf.val (.int .i64 ((d.idx:Nat):Int)),Leaf.val (.bool (zaP d.pt)),zaf (zaa (zav d.pt)),zaf (zaa (zaz d.pt))]] rfl rfl (zc 11 rfl ?_);refine tq_ rfl (jad (n+1) rfl) (zl 2 rfl (zal 4 (zaJ 4 rfl ?_)));exact nx_ ⟨n+1,(d.pt,⟨4,(n:Int),0,0⟩),rfl,rfl,rfl,hn,(by rw[hb] at hc;exact(zxm hdx ⟨hk,hx,hc⟩).symm)⟩ rfl
     .refine tq_ rfl (eqF rfl (fun e=>hc (zxl.1 e))) (zl 7 rfl (nf_ [4] [so 0 _,so 1 _,so 6 _,so 10 _,so 11 _,so 12 _,so 13 _,so 41 _,so 42 _,so 43 _] [_,none,_,_,none] rfl rfl rfl (zc 1 rfl (tq_ rfl (jad (n+1) rfl) (zl 2 rfl (zaJ 4 rfl ?_))))));exact nx_ ⟨n+1,b,rfl,rfl,rfl,hn,(by rw[hb];exact(zj9 hdx (fun e=>hc (by rw[hb];exact e.2.2))).symm)⟩ rfl
    .refine tq_ rfl (eqF rfl) (zl 15 rfl (nf_ [4] [so 0 _,so 1 _,so 6 _,so 10 _,so 11 _,so 12 _,so 13 _,so 41 _,so 42 _,so 43 _] [_,none,_,_,none] rfl rfl rfl (zc 1 rfl (tq_ rfl (jad (n+1) rfl) (zl 2 rfl (zaJ 4 rfl ?_))))));exact nx_ ⟨n+1,b,rfl,rfl,rfl,hn,(by rw[hb];exact(zj9 hdx (fun e=>hx e.2.1)).symm)⟩ rfl
   .refine tq_ rfl (eqF rfl (fun e=>hk (Int.ofNat_inj.1 e))) (zl 21 rfl (nf_ [4] [so 0 _,so 1 _,so 6 _,so 10 _,so 11 _,so 12 _,so 13 _,so 41 _,so 42 _,so 43 _] [_,none,_,_,none] rfl rfl rfl (zc 1 rfl (tq_ rfl (jad (n+1) rfl) (zl 2 rfl (zaJ 4 rfl ?_))))));exact nx_ ⟨n+1,b,rfl,rfl,rfl,hn,(by rw[hb];exact(zj9 hdx (fun e=>hk e.1)).symm)⟩ rfl
  .refine tq_ rfl (ltF rfl) (zl 10 rfl ?_);have hie:n=s.path.length:=by omega
   rw[hie] at hb;refine dr_ 0 [(5,0)] [0] (dz 2 rfl (kc_ zDy rfl (zgj 1 (by decide) (by decide)) (kc_ zgu rfl (zdS b.2 (qOf (((1:Int):Rat)))) (ke_ rfl (fun _=>zad rfl zcH zbi zcZ rfl (by decide) (by decide) rfl (by decide) rfl) (dz 3 rfl (zae (za 1 rfl ?_)))))));exact r3_ hq_ rfl (by unfold ziZ;rw[<-hb] <;> rfl)
theorem low_p(s:Sc)(hs:SB 135001 s)(j:Nat)(hj:j<s.q.g.us.length):Ctr Tryz.prog 196 [vwV s,V.one (Leaf.val (.int .i64 ((j:Int))))] (R.tup [qV (zoQ s j).1,V.one (El.row muE (zoQ s j).2),V.one (Leaf.val (.bool true))]):=by
 refine bd_ Tryz.func196 Tryz.ntmps196 rfl (fun w0 A0=>?_);have hB:=hs.B;have hq:=hs.q;have hd:=hs.d;have hpl:=hs.pl;have hl:=hs.ll;have hg:=hq.g;have hr:=hq.r;have hlo:=hr.lo;have hhi:=hr.hi;have h1:=hg.i1;have h2:=hg.i3;have h3:=hg.u4;have h4:=hg.o1;have h5:=hg.o3;haveI:=zmb hB (bLo s j);haveI:=zmb hB (bHi s j);refine zc 9 rfl (tc_ zDy rfl (zgj 1 (by decide) (by decide)) (zl 7 rfl (tq_ rfl (zbl rfl rfl) (tq_ rfl (jft rfl) (tq_ rfl (jlr rfl) (zl 1 rfl (tc_ zDx rfl (zmI s (by assumption) (by omega) (by omega) (j:Int)) (zl 9 rfl ?_))))))));refine nz_ [so 0 (D.rep (zaV (vwL s))),so 1 (D.val (.int .i64 (j:Int))),so 4 (D.ptr 0 0),so 7 (D.ptr 1 0),so 8 (D.val (.int .i64 (((zam s.lems (j:Int)).1:Nat):Int)))] [hb_ 36 [Leaf.val (.bool false),zaf ([]),zaf ([])],hb_ 36 (qL ((1:Int):Rat))] rfl rfl (zc 2 rfl ?_);by_cases h1:(zam s.lems (j:Int)).1≠0
 .refine tq_ rfl (gtT rfl) ?_;obtain⟨y,hy,_,_,hly,hy0,hyl⟩:=zbe h1;refine zl 3 rfl (tc_ zqh rfl (zgM s (by assumption) ((zam s.lems (j:Int)).1) (by omega) (by omega)) (tc_ zjF rfl (zd4 (lvr s.lems ((zam s.lems (j:Int)).1)) ((lvr s.lems ((zam s.lems (j:Int)).1)).q) rfl (Fq.use (x:=(lvr s.lems ((zam s.lems (j:Int)).1))) (by omega))) ?_));by_cases h2:0<lv s.lems (zam s.lems (j:Int)).1
  .refine tq_ rfl (gtT rfl (by rw[ziR];exact zd3.2 h2)) (zl 5 rfl (nz_ [so 0 _,so 1 _,so 4 _,so 7 _,so 8 _] [_,_] rfl rfl (dr_ 0 [(13,0)] [0] (dz 2 rfl (kc_ zqh rfl (zgM s (by assumption) ((zam s.lems (j:Int)).1) (by omega) (by omega)) (dz 3 rfl (kc_ zgu rfl (zdS ⟨6,(j:Int),0,0⟩ (qOf (((1:Int):Rat)))) (dz 4 rfl ?_))))))));refine kc_ zgu rfl (zdS ⟨11,(j:Int),(((zam s.lems (j:Int)).1:Nat):Int),0⟩ (qOf (((1:Int):Rat)))) (ke_ rfl (fun _=>zad rfl zcH zbi zcZ rfl (by decide) (by decide) rfl (by decide) rfl) (dz 3 rfl (zae (za 1 rfl ?_))));exact r3_ hq_ rfl (by rw[zxg ⟨h1,h2⟩] <;> rfl)
  .refine tq_ rfl (gtF rfl (by rw[ziR];exact fun e=>h2 (zd3.1 e))) (zl 7 rfl (nz_ [so 1 _,so 4 _,so 7 _] [_,_] rfl rfl (zc 5 rfl (tc_ zgu rfl (zdS ⟨5,(j:Int),0,0⟩ (qOf (((1:Int):Rat)))) (te_ rfl (zad rfl zcH zbi zcZ rfl (by decide) (by decide) rfl (by decide) rfl) (zl 5 rfl ?_))))));exact r3_ hq_ rfl (by rw[zoP (fun e=>h2 e.2)] <;> rfl)
 .refine tq_ rfl (gtF rfl) (zl 13 rfl (nz_ [so 1 _,so 4 _,so 7 _] [_,_] rfl rfl (zc 5 rfl (tc_ zgu rfl (zdS ⟨5,(j:Int),0,0⟩ (qOf (((1:Int):Rat)))) (te_ rfl (zad rfl zcH zbi zcZ rfl (by decide) (by decide) rfl (by decide) rfl) (zl 5 rfl ?_))))));exact r3_ hq_ rfl (by rw[zoP (fun e=>h1 e.1)] <;> rfl)
set_option maxHeartbeats 2000000 in
theorem zCM(s:Sc)(hs:SB 135001 s)(j:Nat)(hj:j<s.q.g.us.length):Ctr Tryz.prog 195 [vwV s,V.one (Leaf.val (.int .i64 ((j:Int))))] (R.tup [qV (zhF s j).1,V.one (El.row muE (zhF s j).2.1),V.one (Leaf.val (.bool (zhF s j).2.2))]):=by
 refine bd_ Tryz.func195 Tryz.ntmps195 rfl (fun w0 A0=>?_);have hB:=hs.B;have hq:=hs.q;have hd:=hs.d;have hpl:=hs.pl;have hl:=hs.ll;have hg:=hq.g;have hr:=hq.r;have hlo:=hr.lo;have hhi:=hr.hi;have h1:=hg.i1;have h2:=hg.i3;have h3:=hg.u4;have h4:=hg.o1;have h5:=hg.o3;haveI:=zmb hB (bLo s j);haveI:=zmb hB (bHi s j);refine zc 9 rfl (tc_ zDy rfl (zgj 1 (by decide) (by decide)) (zl 7 rfl (tq_ rfl (zbl rfl rfl) (tq_ rfl (jft rfl) (tq_ rfl (jlr rfl) (zl 1 rfl (tc_ zDx rfl (zmI s (by assumption) (by omega) (by omega) (j:Int)) (zl 8 rfl ?_))))))));refine nz_ [so 0 (D.rep (zaV (vwL s))),so 1 _,so 4 _,so 7 _,so 8 (D.val (.int .i64 (((zam s.lems (j:Int)).1:Nat):Int))),so 9 (D.val (.int .i64 (((zam s.lems (j:Int)).2:Nat):Int)))] [_,_] rfl rfl (zc 3 rfl (tc_ zDF rfl (zEy s (by assumption) 1 (j:Int)) (zl 2 rfl (tc_ zDF rfl (zEy s (by assumption) 2 (j:Int)) ?_))));refine zl 5 rfl ?_;refine mt_ [so 0 (D.rep (zaV (vwL s))),so 1 (D.val (.int .i64 (j:Int))),so 4 (D.ptr 0 0),so 7 (D.ptr 1 0),so 8 (D.val (.int .i64 (((zam s.lems (j:Int)).1:Nat):Int))),so 9 (D.val (.int .i64 (((zam s.lems (j:Int)).2:Nat):Int))),so 10 (D.bool (zet s.path 1 (j:Int))),so 11 (D.bool (zet s.path 2 (j:Int))),so 45 (D.bool (zaW s j))] [hb_ 36 [Leaf.val (.bool false),zaf ([]),zaf ([])],hb_ 36 (qL ((1:Int):Rat))] ?_ ?_
 .refine nz_ [so 0 _,so 1 _,so 4 _,so 7 _,so 8 _,so 9 _,so 10 (D.bool (zet s.path 1 (j:Int))),so 11 (D.bool (zet s.path 2 (j:Int)))] [_,_] rfl rfl (zc 3 rfl ?_);refine zdH rfl (fun hf1=>?_) (fun hf1=>?_)
  .refine zl 1 rfl ?_;by_cases h1:(zam s.lems (j:Int)).2≠0
   .refine tq_ rfl (gtT rfl) ?_;obtain⟨z,hz,_,_,hlz,hz0,hzl⟩:=zbj h1;refine zl 3 rfl (tc_ zqh rfl (zgM s (by assumption) ((zam s.lems (j:Int)).2) (by omega) (by omega)) (tc_ zjF rfl (zd4 (lvr s.lems ((zam s.lems (j:Int)).2)) ((lvr s.lems ((zam s.lems (j:Int)).2)).q) rfl (Fq.use (x:=(lvr s.lems ((zam s.lems (j:Int)).2))) (by omega))) ?_));by_cases h2:lv s.lems (zam s.lems (j:Int)).2<=0
    .refine tq_ rfl (leT rfl (by rw[ziR];exact zgb.2 h2)) (zl 2 rfl (is_ (zaW s j) rfl (by simp[zaW,hf1,h1,h2]) (zl 1 rfl ?_)));exact mx_ rfl
    .refine tq_ rfl (leF rfl (by rw[ziR];exact fun e=>h2 (zgb.1 e))) (zl 2 rfl (is_ (zaW s j) rfl (by simp[zaW,hf1,h1,h2]) (zl 1 rfl ?_)));exact mx_ rfl
   .refine tq_ rfl (gtF rfl) (zl 8 rfl (is_ (zaW s j) rfl (by simp[zaW,hf1,h1]) (zl 1 rfl ?_)));exact mx_ rfl
  .refine zl 10 rfl (is_ (zaW s j) rfl (by simp[zaW,hf1]) (zl 1 rfl ?_));exact mx_ rfl
 .refine zap rfl (fun hof=>?_) (fun hof=>?_)
  .refine zc 15 rfl ?_;refine zap rfl (fun hd1=>?_) (fun hd1=>?_)
   .refine zc 7 rfl (nz_ [so 4 _,so 7 _,so 12 (D.ptr 2 0)] [_,_,hb_ 107 [Leaf.val (.int .i64 10),Leaf.val (.int .i64 (j:Int)),Leaf.val (.int .i64 0),Leaf.val (.int .i64 (((zam s.lems (j:Int)).2:Nat):Int))]] rfl rfl (zc 4 rfl (tc_ zgu rfl (zdS ⟨10,(j:Int),0,(((zam s.lems (j:Int)).2:Nat):Int)⟩ (qOf (((1:Int):Rat)))) ?_)));refine te_ rfl (zad rfl zcH zbi zcZ rfl (by decide) (by decide) rfl (by decide) rfl) (zl 5 rfl ?_);exact r3_ hq_ rfl (by rw[zct (zi1 hof),zfh (by simpa using hd1)] <;> rfl)
   .refine zc 3 rfl (nz_ [so 4 _,so 7 _,so 12 (D.ptr 2 0)] [_,_,hb_ 107 [Leaf.val (.int .i64 10),Leaf.val (.int .i64 (j:Int)),Leaf.val (.int .i64 0),Leaf.val (.int .i64 0)]] rfl rfl (zc 4 rfl (tc_ zgu rfl (zdS ⟨10,(j:Int),0,0⟩ (qOf (((1:Int):Rat)))) (te_ rfl (zad rfl zcH zbi zcZ rfl (by decide) (by decide) rfl (by decide) rfl) ?_))));refine zl 5 rfl ?_;exact r3_ hq_ rfl (by rw[zct (zi1 hof),zhW (by simpa using hd1)] <;> rfl)
  .refine zc 4 rfl (nz_ [so 0 _,so 1 _,so 4 _,so 7 _,so 8 _,so 9 _,so 10 (D.bool (zet s.path 1 (j:Int)))] [_,_] rfl rfl (zc 2 rfl ?_));by_cases hh:(zam s.lems (j:Int)).2=0
   .refine tq_ rfl (eqT rfl) (zl 11 rfl ?_);exact r3_ hq_ rfl (by rw[zfo (zo0 hof hh)] <;> rfl)
   .refine tq_ rfl (eqF rfl) (zl 6 rfl ?_);obtain⟨z,hz,_,_,hlz,hz0,hzl⟩:=zbj hh;refine nz_ [so 0 _,so 1 _,so 4 _,so 7 _,so 8 _,so 9 _,so 10 _] [_,_] rfl rfl (zc 3 rfl (tc_ zqh rfl (zgM s (by assumption) ((zam s.lems (j:Int)).2) (by omega) (by omega)) (zl 10 rfl ?_)));refine mt_ [so 0 (D.rep (zaV (vwL s))),so 1 (D.val (.int .i64 (j:Int))),so 4 (D.ptr 0 0),so 7 (D.ptr 1 0),so 8 (D.val (.int .i64 (((zam s.lems (j:Int)).1:Nat):Int))),so 9 (D.val (.int .i64 (((zam s.lems (j:Int)).2:Nat):Int))),so 10 (D.bool (zet s.path 1 (j:Int))),so 13 (D.ptr 2 0),so 14 (D.ptr 3 0),so 77 (D.bool (zcd s j))] [hb_ 36 [Leaf.val (.bool false),zaf ([]),zaf ([])],hb_ 36 (qL ((1:Int):Rat)),hb_ 36 [Leaf.val (.bool (lvr s.lems ((zam s.lems (j:Int)).2)).neg),zaf (lvr s.lems ((zam s.lems (j:Int)).2)).n,zaf (lvr s.lems ((zam s.lems (j:Int)).2)).d],hb_ 107 [Leaf.val (.int .i64 12),Leaf.val (.int .i64 (j:Int)),Leaf.val (.int .i64 0),Leaf.val (.int .i64 (((zam s.lems (j:Int)).2:Nat):Int))]] ?_ ?_
    .refine nz_ [so 0 _,so 1 _,so 4 _,so 7 _,so 8 _,so 9 _,so 10 _,so 13 (D.ptr 2 0),so 14 (D.ptr 3 0)] [_,_,hb_ 36 [Leaf.val (.bool (lvr s.lems ((zam s.lems (j:Int)).2)).neg),zaf (lvr s.lems ((zam s.lems (j:Int)).2)).n,zaf (lvr s.lems ((zam s.lems (j:Int)).2)).d],hb_ 107 [Leaf.val (.int .i64 12),Leaf.val (.int .i64 (j:Int)),Leaf.val (.int .i64 0),Leaf.val (.int .i64 (((zam s.lems (j:Int)).2:Nat):Int))]] rfl rfl ?_;refine zc 3 rfl ?_;refine zdH rfl (fun hn1=>?_) (fun hn1=>?_)
     .refine zl 1 rfl ?_;by_cases h1:(zam s.lems (j:Int)).1≠0
      .refine tq_ rfl (gtT rfl) ?_;obtain⟨y,hy,_,_,hly,hy0,hyl⟩:=zbe h1;refine zl 3 rfl (tc_ zqh rfl (zgM s (by assumption) ((zam s.lems (j:Int)).1) (by omega) (by omega)) (tc_ zjF rfl (zd4 (lvr s.lems ((zam s.lems (j:Int)).1)) ((lvr s.lems ((zam s.lems (j:Int)).1)).q) rfl (Fq.use (x:=(lvr s.lems ((zam s.lems (j:Int)).1))) (by omega))) ?_));by_cases h2:0<=lv s.lems (zam s.lems (j:Int)).1
       .refine tq_ rfl (geT rfl (by rw[ziR];exact zgS.2 h2)) (zl 2 rfl (is_ (zcd s j) rfl (by simp[zcd,hn1,h1,h2]) (zl 1 rfl ?_)));exact mx_ rfl
       .refine tq_ rfl (geF rfl (by rw[ziR];exact fun e=>h2 (zgS.1 e))) (zl 2 rfl (is_ (zcd s j) rfl (by simp[zcd,hn1,h1,h2]) (zl 1 rfl ?_)));exact mx_ rfl
      .refine tq_ rfl (gtF rfl) (zl 8 rfl (is_ (zcd s j) rfl (by simp[zcd,hn1,h1]) (zl 1 rfl ?_)));exact mx_ rfl
     .refine zl 10 rfl (is_ (zcd s j) rfl (by simp[zcd,hn1]) (zl 1 rfl ?_));exact mx_ rfl
    .refine zap rfl (fun hon=>?_) (fun hon=>?_)
     .refine zc 15 rfl ?_;refine zap rfl (fun hd1=>?_) (fun hd1=>?_)
      .refine zc 7 rfl ?_;refine nz_ [so 4 _,so 7 _,so 13 (D.ptr 2 0),so 14 (D.ptr 3 0),so 15 (D.ptr 4 0)] [_,_,hb_ 36 [Leaf.val (.bool (lvr s.lems ((zam s.lems (j:Int)).2)).neg),zaf (lvr s.lems ((zam s.lems (j:Int)).2)).n,zaf (lvr s.lems ((zam s.lems (j:Int)).2)).d],hb_ 107 [Leaf.val (.int .i64 12),Leaf.val (.int .i64 (j:Int)),Leaf.val (.int .i64 0),Leaf.val (.int .i64 (((zam s.lems (j:Int)).2:Nat):Int))],hb_ 107 [Leaf.val (.int .i64 8),Leaf.val (.int .i64 (j:Int)),Leaf.val (.int .i64 (((zam s.lems (j:Int)).1:Nat):Int)),Leaf.val (.int .i64 0)]] rfl rfl ?_;refine dr_ 0 [(8,0)] [0] (dz 3 rfl (kc_ zgu rfl (zdS ⟨8,(j:Int),(((zam s.lems (j:Int)).1:Nat):Int),0⟩ (qOf (((1:Int):Rat)))) (dz 2 rfl (kc_ zgu rfl (zdS ⟨12,(j:Int),0,(((zam s.lems (j:Int)).2:Nat):Int)⟩ (qOf (((1:Int):Rat)))) ?_))));refine ke_ rfl (fun _=>zad rfl zcH zbi zcZ rfl (by decide) (by decide) rfl (by decide) rfl) (dz 3 rfl (zae (za 1 rfl ?_)));exact r3_ hq_ rfl (by rw[zct (zkN hof hh hon),zg0 (by simpa using hd1)] <;> rfl)
      .refine zc 3 rfl ?_;refine nz_ [so 4 _,so 7 _,so 13 (D.ptr 2 0),so 14 (D.ptr 3 0),so 15 (D.ptr 4 0)] [_,_,hb_ 36 [Leaf.val (.bool (lvr s.lems ((zam s.lems (j:Int)).2)).neg),zaf (lvr s.lems ((zam s.lems (j:Int)).2)).n,zaf (lvr s.lems ((zam s.lems (j:Int)).2)).d],hb_ 107 [Leaf.val (.int .i64 12),Leaf.val (.int .i64 (j:Int)),Leaf.val (.int .i64 0),Leaf.val (.int .i64 (((zam s.lems (j:Int)).2:Nat):Int))],hb_ 107 [Leaf.val (.int .i64 8),Leaf.val (.int .i64 (j:Int)),Leaf.val (.int .i64 0),Leaf.val (.int .i64 0)]] rfl rfl ?_;refine dr_ 0 [(8,0)] [0] (dz 3 rfl (kc_ zgu rfl (zdS ⟨8,(j:Int),0,0⟩ (qOf (((1:Int):Rat)))) (dz 2 rfl (kc_ zgu rfl (zdS ⟨12,(j:Int),0,(((zam s.lems (j:Int)).2:Nat):Int)⟩ (qOf (((1:Int):Rat)))) (ke_ rfl (fun _=>zad rfl zcH zbi zcZ rfl (by decide) (by decide) rfl (by decide) rfl) (dz 3 rfl (zae ?_)))))));refine za 1 rfl ?_;exact r3_ hq_ rfl (by rw[zct (zkN hof hh hon),zkI (by simpa using hd1)] <;> rfl)
     .refine zc 4 rfl ?_;refine nz_ [so 0 _,so 1 _,so 4 _,so 7 _,so 8 _,so 9 _,so 13 (D.ptr 2 0),so 14 (D.ptr 3 0)] [_,_,hb_ 36 [Leaf.val (.bool (lvr s.lems ((zam s.lems (j:Int)).2)).neg),zaf (lvr s.lems ((zam s.lems (j:Int)).2)).n,zaf (lvr s.lems ((zam s.lems (j:Int)).2)).d],hb_ 107 [Leaf.val (.int .i64 12),Leaf.val (.int .i64 (j:Int)),Leaf.val (.int .i64 0),Leaf.val (.int .i64 (((zam s.lems (j:Int)).2:Nat):Int))]] rfl rfl ?_;refine zc 2 rfl ?_;by_cases hl0:(zam s.lems (j:Int)).1=0
      .refine tq_ rfl (eqT rfl) (zl 11 rfl ?_);exact r3_ hq_ rfl (by rw[zfo (zoZ hof hh hon hl0)] <;> rfl)
      .refine tq_ rfl (eqF rfl) (zl 6 rfl ?_);obtain⟨y,hy,_,_,hly,hy0,hyl⟩:=zbe hl0;have hne:=zwS hof hh hon hl0;refine nz_ [so 0 _,so 1 _,so 4 _,so 7 _,so 8 _,so 9 _,so 13 _,so 14 _] [_,_,_,_] rfl rfl (dr_ 1 [(10,4),(11,4)] [4] (dz 4 rfl (kc_ zqh rfl (zgM s (by assumption) ((zam s.lems (j:Int)).1) (by omega) (by omega)) ?_)));refine kc_ zvK rfl (zFb (lvr s.lems ((zam s.lems (j:Int)).2)) ((lvr s.lems ((zam s.lems (j:Int)).2)).q) rfl (Fq.use (x:=(lvr s.lems ((zam s.lems (j:Int)).2))) (by omega)) (lvr s.lems ((zam s.lems (j:Int)).1)) ((lvr s.lems ((zam s.lems (j:Int)).1)).q) rfl (Fq.use (x:=(lvr s.lems ((zam s.lems (j:Int)).1))) (by omega))) ?_;refine kc_ zAg rfl (qdiv (qOf (((1:Int):Rat))) (((1:Int):Rat)) (zah _) (Br.use (by omega)) (qOf (((lvr s.lems ((zam s.lems (j:Int)).2)).q)-((lvr s.lems ((zam s.lems (j:Int)).1)).q))) (((lvr s.lems ((zam s.lems (j:Int)).2)).q)-((lvr s.lems ((zam s.lems (j:Int)).1)).q)) (zah _) (Br.use (by omega)) (by assumption)) (dz 6 rfl ?_);refine zae (za 2 rfl (nf_ [1] [so 1 _,so 4 _,so 8 _,so 9 _,so 13 _,so 14 _,so 16 (D.ptr 4 0)] [_,none,_,_,hb_ 36 (qL ((((1:Int):Rat))/(((lvr s.lems ((zam s.lems (j:Int)).2)).q)-((lvr s.lems ((zam s.lems (j:Int)).1)).q))))] rfl rfl rfl (dr_ 0 [(13,0)] [0] (dz 4 rfl ?_))));refine kc_ zmn rfl (zw6 (lvr s.lems ((zam s.lems (j:Int)).2)) ((lvr s.lems ((zam s.lems (j:Int)).2)).q) rfl (Fq.use (x:=(lvr s.lems ((zam s.lems (j:Int)).2))) (by omega)) (qOf ((((1:Int):Rat))/(((lvr s.lems ((zam s.lems (j:Int)).2)).q)-((lvr s.lems ((zam s.lems (j:Int)).1)).q)))) ((((1:Int):Rat))/(((lvr s.lems ((zam s.lems (j:Int)).2)).q)-((lvr s.lems ((zam s.lems (j:Int)).1)).q))) (zah _) (Br.use (by omega))) ?_;refine kc_ zgu rfl (zdS ⟨12,(j:Int),0,(((zam s.lems (j:Int)).2:Nat):Int)⟩ (qOf (((lvr s.lems ((zam s.lems (j:Int)).2)).q)*((((1:Int):Rat))/(((lvr s.lems ((zam s.lems (j:Int)).2)).q)-((lvr s.lems ((zam s.lems (j:Int)).1)).q)))))) (dz 5 rfl ?_);refine kc_ zgu rfl (zdS ⟨13,(j:Int),(((zam s.lems (j:Int)).1:Nat):Int),(((zam s.lems (j:Int)).2:Nat):Int)⟩ (qOf ((((1:Int):Rat))/(((lvr s.lems ((zam s.lems (j:Int)).2)).q)-((lvr s.lems ((zam s.lems (j:Int)).1)).q))))) ?_;refine ke_ rfl (fun _=>zad rfl zcH zbi zcZ rfl (by decide) (by decide) rfl (by decide) rfl) (dz 3 rfl (zae (za 1 rfl ?_)));exact r3_ hq_ rfl (by rw[zct (zmj hof hh hon hl0)] <;> rfl)
theorem zAy(s:Sc)(hs:SB 135001 s)(v:Nat)(hv:v<(s.q.g.inp+s.q.g.us.length))(up:Bool):Ctr Tryz.prog 132 [vwV s,V.one (Leaf.val (.int .i64 ((v:Int)))),V.one (Leaf.val (.bool up))] (R.tup [qV (zbM s v up).1,V.one (El.row muE (zbM s v up).2.1),V.one (Leaf.val (.bool (zbM s v up).2.2))]):=by
 refine bd_ Tryz.func132 Tryz.ntmps132 rfl (fun w0 A0=>?_);have hB:=hs.B;have hq:=hs.q;have hd:=hs.d;have hpl:=hs.pl;have hl:=hs.ll;have hg:=hq.g;have hr:=hq.r;have hlo:=hr.lo;have hhi:=hr.hi;have h1:=hg.i1;have h2:=hg.i3;have h3:=hg.u4;have h4:=hg.o1;have h5:=hg.o3;refine zc 8 rfl ?_;by_cases hvi:v<s.q.g.inp
 .refine zc 3 rfl (tq_ rfl (zbl rfl rfl) (tq_ rfl (jft rfl) (tq_ rfl (jft rfl) (tq_ rfl (jft rfl) (tq_ rfl (jfr rfl) (tq_ rfl (jli rfl) (tq_ rfl (zaQ rfl rfl rfl (r:=((v:Int)-(s.q.g.inp:Int))) (w64 (by omega) (by omega) (by omega))) (zl 8 rfl (tq_ rfl (ltT rfl) ?_)))))))));refine zl 9 rfl (tc_ fn194 rfl (zy7 s hs v hvi up) (zl 8 rfl ?_));exact r3_ hq_ rfl (by rw[ztF hvi])
 .refine zc 3 rfl (tq_ rfl (zbl rfl rfl) (tq_ rfl (jft rfl) (tq_ rfl (jft rfl) (tq_ rfl (jft rfl) (tq_ rfl (jfr rfl) (tq_ rfl (jli rfl) (tq_ rfl (jsb (v-s.q.g.inp) rfl) (zl 8 rfl (tq_ rfl (ltF rfl) ?_)))))))));refine zl 10 rfl ?_;refine zap rfl (fun hup=>?_) (fun hup=>?_)
  .refine zc 4 rfl (tc_ fn195 rfl (zCM s (by assumption) (v-s.q.g.inp) (by omega)) (zl 8 rfl ?_));exact r3_ hq_ rfl (by rw[hup,ztD hvi])
  .refine zc 7 rfl (tc_ fn196 rfl (low_p s (by assumption) (v-s.q.g.inp) (by omega)) (zl 8 rfl ?_));exact r3_ hq_ rfl (by rw[hup,ztE hvi])
set_option maxHeartbeats 2000000 in
theorem box_p(s:Sc)(hs:SB 135001 s)(f:Af){b:Nat}(hf:FOk b (s.q.g.inp+s.q.g.us.length) f)(hb:b<=600000000):Ctr Tryz.prog 58 [V.agg [],scV s,afV f] (R.tup [qV (qOf (zb9 s f).1),V.one (El.row muE (zb9 s f).2.1),V.one (Leaf.val (.bool (zb9 s f).2.2))]):=by
 refine bd_ Tryz.func58 Tryz.ntmps58 rfl (fun w0 A0=>?_);have hB:=hs.B;have hq:=hs.q;have hd:=hs.d;have hpl:=hs.pl;have hl:=hs.ll;have hg:=hq.g;have hr:=hq.r;have hlo:=hr.lo;have hhi:=hr.hi;have h1:=hg.i1;have h2:=hg.i3;have h3:=hg.u4;have h4:=hg.o1;have h5:=hg.o3;have hfl:=hf.fl;haveI:=hfl.fm (by omega);haveI:=hfl.cb;have h7:=hfl.len7 hq;refine zc 13 rfl (tc_ fn131 rfl (zCC s hs) (zl 9 rfl (nf_ [0] [so 4 (D.ptr 1 0),so 5 (D.ptr 2 0),so 6 (D.ptr 3 0),so 9 (D.rep (zaV (vwL s))),so 10 (D.bool true)] [none,hb_ 43 (scL s),hb_ 38 (afL f),hb_ 36 [Leaf.val (.bool false),zaf ([]),zaf ([])]] rfl rfl rfl (dr_ 0 [] [] (dz 7 rfl (kc_ fn50 rfl (zsN s.q.g (by assumption)) ?_))))));refine kc_ zBq rfl (zj5 f hf (by omega) (s.q.g.inp+s.q.g.us.length) (zFl _) (by omega)) (dz 2 rfl (zae (za 5 rfl (nf_ [1] [so 5 _,so 6 _,so 9 _] [none,none,_,_] rfl rfl rfl (zc 9 rfl (tq_ rfl (zbC rfl (rfl)) (zl 4 rfl (zdl 12 109 7 rfl rfl (zc 3 rfl ?_)))))))));refine tq_ rfl (jln rfl) (zl 4 rfl (fr_ [2] rfl ?_));refine zbo (fun m Γ H=>∃(i:Nat) (n:Nat) (x:Rat) (out:List Mu),f.ts.length-i=m/\Γ=[(6,some (D.ptr 3 0)),(9,some (D.rep (zaV (vwL s)))),(11,some (D.ptr 4 0)),(12,some (D.v (V.one (Leaf.own 5 n)))),(41,some (D.v (V.one (El.row tmE f.ts)))),(42,some (D.val (.int .i64 ((f.ts.length:Nat):Int)))),(43,some (D.val (.int .i64 (i:Int))))]/\H=[none,none,none,hb_ 36 [Leaf.val (.bool false),zaf ([]),zaf ([])],hb_ 36 (qL x),hgr 109 7 muE out n]/\i<=f.ts.length/\zts s f i=some (x,out)/\PlOk 135001 (b+1) i out) ⟨0,0,f.c,[],rfl,rfl,rfl,zFn _,rfl,PlOk.start⟩ rfl ?_;rintro m Γ H ⟨i,n,x,out,rfl,rfl,rfl,hi0,hR,hP⟩;refine zc 1 rfl (nz_ [so 6 (D.ptr 3 0),so 9 (D.rep (zaV (vwL s))),so 11 (D.ptr 4 0),so 12 (D.v (V.one (Leaf.own 5 n))),so 41 (D.v (V.one (El.row tmE f.ts))),so 42 (D.val (.int .i64 ((f.ts.length:Nat):Int))),so 43 (D.val (.int .i64 (i:Int)))] [none,none,none,hb_ 36 [Leaf.val (.bool false),zaf ([]),zaf ([])],hb_ 36 (qL x),hgr 109 7 muE out n] rfl rfl ?_);refine zc 1 rfl ?_;by_cases hi:i<f.ts.length
 .refine tq_ rfl (ltT rfl) (zl 9 rfl ?_);obtain⟨t,ht⟩:∃t,f.ts[i]?=some t:=⟨_,zFh hi⟩;have htm:=zFi ht;have htv:=hf.var t htm;haveI htb:Br t.2 (b+1):=(hf.bd t htm).br;have hxb:=(zmC hs hfl i (by omega) x _ (zlf hR)).br;have hmul:=zFs (135001+(b+1)+210) (show(f.ts.take i).length<=7 by rw[zFy];omega);haveI:Br x (b+1+7*(135001+(b+1)+210)):=hxb.mono (by omega);have hol:=hP.len;refine zc 1 rfl (tq_ rfl (jix i ht rfl) (tq_ rfl (jlr rfl) (zl 5 rfl (dr_ 1 [(12,7),(13,7)] [7] (dz 5 rfl (kc_ zjF rfl (zd4 (qOf (t.2)) (t.2) (zah _) (Br.use (by omega))) (kq_ rfl (zmQ rfl rfl rfl (b:=(decide (t.2<0))) (decide_eq_decide.2 zkx)) (kc_ fn132 rfl (zAy s hs t.1 htv (decide (t.2<0))) (dz 8 rfl ?_)))))))));refine zae (za 3 rfl ?_);refine nz_ [so 6 _,so 9 _,so 11 _,so 12 _,so 14 (D.ptr 6 0),so 15 (D.ptr 7 0),so 16 (D.v (V.one (El.row muE (((zbM s t.1 (decide (t.2<0)))).2.1)))),so 17 (D.bool (((zbM s t.1 (decide (t.2<0)))).2.2)),so 41 _,so 42 _,so 43 _] [none,none,none,_,_,_,hb_ 103 [Leaf.val (.int .i64 ((t.1:Nat):Int)),Leaf.val (.bool (zaP t.2)),zaf (zaa (zav t.2)),zaf (zaa (zaz t.2))],hb_ 36 [Leaf.val (.bool ((zbM s t.1 (decide (t.2<0)))).1.neg),zaf ((zbM s t.1 (decide (t.2<0)))).1.n,zaf ((zbM s t.1 (decide (t.2<0)))).1.d]] rfl rfl ?_;refine zc 5 rfl ?_;refine zap rfl (fun hok=>?_) (fun hok=>?_)
  .refine zc 8 rfl ?_;exact r3_ hq_ rfl (by rw[ztp ht hR (by simpa using hok)];show _=R.tup [qV (qOf 0),_,_];rw[<-zc8] <;> rfl)
  .refine zc 3 rfl ?_;have hok1:(zbM s t.1 (decide (t.2<0))).2.2=true:=by simpa using hok
   have hbk:=ztB hs htv (zpq hok1);haveI:=hbk.fq;have hst:=hbk.step;have hsl:=hst.len;refine dr_ 0 [(6,4)] [4] (kp_ [] rfl (zaC rfl rfl rfl (by decide) zhM (by decide) (zFo rfl) rfl) (dz 3 rfl (kc_ zmn rfl (zw6 (qOf (t.2)) (t.2) (zah _) (Br.use (by omega)) ((zbM s t.1 (decide (t.2<0)))).1 (((zbM s t.1 (decide (t.2<0)))).1.q) rfl (Fq.use (x:=((zbM s t.1 (decide (t.2<0)))).1) (by omega))) ?_)));refine kc_ zsY rfl (zB5 (qOf (x)) (x) (zah _) (Br.use (by omega)) (qOf ((t.2)*(((zbM s t.1 (decide (t.2<0)))).1.q))) ((t.2)*(((zbM s t.1 (decide (t.2<0)))).1.q)) (zah _) (Br.use (by omega))) (dz 1 rfl (zae (za 2 rfl ?_)));refine nf_ [7] [so 6 _,so 9 _,so 11 _,so 12 _,so 14 _,so 16 _,so 41 _,so 42 _,so 43 _] [none,none,none,_,hb_ 36 (qL ((x)+((t.2)*(((zbM s t.1 (decide (t.2<0)))).1.q)))),_,_,none] rfl rfl rfl (dr_ 1 [(6,8),(7,8)] [8] (dz 4 rfl (kc_ zDw rfl (zB4 (qOf (t.2)) (t.2) (zah _) (Br.use (by omega))) ?_)));refine kc_ zD9 rfl (qmax (qOf (t.2)) (t.2) (zah _) (Br.use (by omega)) (qOf (-(t.2))) (-(t.2)) (zah _) (Br.use (by omega))) (dz 2 rfl (zae (za 2 rfl (nf_ [6] [so 6 _,so 9 _,so 11 _,so 12 _,so 16 _,so 18 (D.ptr 8 0),so 41 _,so 42 _,so 43 _] [none,none,none,_,_,_,none,none,hb_ 36 (qL (mx (t.2) (-(t.2))))] rfl rfl rfl (zc 2 rfl (tq_ rfl (jln rfl) (zl 4 rfl ?_)))))));refine zbo (fun m Γ H=>∃(k:Nat) (n2:Nat) (out2:List Mu),(zbM s t.1 (decide (t.2<0))).2.1.length-k=m/\Γ=[(6,some (D.ptr 3 0)),(9,some (D.rep (zaV (vwL s)))),(11,some (D.ptr 4 0)),(12,some (D.v (V.one (Leaf.own 5 n2)))),(18,some (D.ptr 8 0)),(41,some (D.v (V.one (El.row tmE f.ts)))),(42,some (D.val (.int .i64 ((f.ts.length:Nat):Int)))),(43,some (D.val (.int .i64 (i:Int)))),(74,some (D.v (V.one (El.row muE (((zbM s t.1 (decide (t.2<0)))).2.1))))),(75,some (D.val (.int .i64 (((((zbM s t.1 (decide (t.2<0)))).2.1).length:Nat):Int)))),(76,some (D.val (.int .i64 (k:Int))))]/\H=[none,none,none,hb_ 36 [Leaf.val (.bool false),zaf ([]),zaf ([])],hb_ 36 (qL ((x)+((t.2)*(((zbM s t.1 (decide (t.2<0)))).1.q)))),hgr 109 7 muE out2 n2,none,none,hb_ 36 (qL (mx (t.2) (-(t.2))))]/\k<=(zbM s t.1 (decide (t.2<0))).2.1.length/\out2=out++zou (zc6 t.2) ((zbM s t.1 (decide (t.2<0))).2.1.take k)) ⟨0,n,out,rfl,rfl,rfl,zFn _,by simp[zou]⟩ rfl ?_;rintro m Γ H ⟨k,n2,out2,rfl,rfl,rfl,hk0,hout2⟩;refine zc 2 rfl ?_;by_cases hk:k<(zbM s t.1 (decide (t.2<0))).2.1.length
   .refine tq_ rfl (ltT rfl) (zl 9 rfl ?_);obtain⟨y,hy⟩:∃y,(zbM s t.1 (decide (t.2<0))).2.1[k]?=some y:=⟨_,zFh hk⟩;haveI hyb:=hst.bd y (zFi hy);have hol2:out2.length<=30:=by rw[hout2,zFx,zou,List.length_map,zFy];omega
    refine zc 1 rfl (tq_ rfl (jix k hy rfl) (tq_ rfl (jlr rfl) (zl 4 rfl ?_)));refine nz_ [so 6 (D.ptr 3 0),so 9 (D.rep (zaV (vwL s))),so 11 (D.ptr 4 0),so 12 (D.v (V.one (Leaf.own 5 n2))),so 18 (D.ptr 8 0),so 20 (D.ptr 9 0),so 41 (D.v (V.one (El.row tmE f.ts))),so 42 (D.val (.int .i64 ((f.ts.length:Nat):Int))),so 43 (D.val (.int .i64 (i:Int))),so 74 (D.v (V.one (El.row muE (((zbM s t.1 (decide (t.2<0)))).2.1)))),so 75 (D.val (.int .i64 (((((zbM s t.1 (decide (t.2<0)))).2.1).length:Nat):Int))),so 76 (D.val (.int .i64 (k:Int)))] [none,none,none,hb_ 36 [Leaf.val (.bool false),zaf ([]),zaf ([])],hb_ 36 (qL ((x)+((t.2)*(((zbM s t.1 (decide (t.2<0)))).1.q)))),hgr 109 7 muE out2 n2,none,none,hb_ 36 (qL (mx (t.2) (-(t.2)))),hb_ 109 [Leaf.val (.int .i64 y.r.kind),Leaf.val (.int .i64 y.r.idx),Leaf.val (.int .i64 y.r.lo),Leaf.val (.int .i64 y.r.hi),Leaf.val (.bool y.c.neg),zaf y.c.n,zaf y.c.d]] rfl rfl ?_;refine dr_ 0 [(9,5)] [5] (dz 6 rfl (kc_ zmn rfl (zw6 (qOf (mx (t.2) (-(t.2)))) (mx (t.2) (-(t.2))) (zah _) (Br.use (by omega)) y.c (y.c.q) rfl (Fq.use (x:=y.c) (by omega))) (kc_ zgu rfl (zdS y.r (qOf ((mx (t.2) (-(t.2)))*(y.c.q)))) (ke_ rfl (fun _=>zad rfl zcH zbi zcZ rfl (by decide) (by decide) rfl (by decide) rfl) ?_))));refine ki_ 5 rfl (dap (e:=muE) (⟨⟨y.r.kind,y.r.idx,y.r.lo,y.r.hi⟩,(qOf ((mx (t.2) (-(t.2)))*(y.c.q)))⟩) rfl rfl) (dz 1 rfl (zae (za 2 rfl ?_)));refine nf_ [9] [so 6 _,so 9 _,so 11 _,so 12 (D.v (V.one (Leaf.own 5 (n2+1)))),so 18 _,so 41 _,so 42 _,so 43 _,so 74 _,so 75 _,so 76 _] [none,none,none,_,_,hgr 109 7 muE (out2++[⟨⟨y.r.kind,y.r.idx,y.r.lo,y.r.hi⟩,(qOf ((mx (t.2) (-(t.2)))*(y.c.q)))⟩]) (n2+1),none,none,_,none] rfl rfl rfl (zc 1 rfl (tq_ rfl (jad (k+1) rfl) (zl 2 rfl (zaJ 9 rfl ?_))));exact nx_ ⟨k+1,_,_,rfl,rfl,rfl,hk,(by rw[hout2,zFK,zuR hy])⟩ rfl
   .refine tq_ rfl (ltF rfl) (zl 10 rfl ?_);rw[show k=(zbM s t.1 (decide (t.2<0))).2.1.length by omega,zFE] at hout2;subst hout2;refine zc 1 rfl (tq_ rfl (jad (i+1) rfl) (zl 2 rfl (zal 8 (zaJ 6 rfl ?_))));exact nx_ ⟨i+1,_,_,_,rfl,rfl,rfl,hi,ztq ht hR hok1,hP.next hst htb⟩ rfl
 .refine tq_ rfl (ltF rfl) (zl 10 rfl ?_);have hie:i=f.ts.length:=by omega
  rw[hie] at hR;have hc:=hP.cof;have hmb:=hP.mb;have hol:=hP.len;refine zc 1 rfl (tq_ rfl (zd6 (r:=5) (n:=n) (x:=V.one (Leaf.own 5 n)) (x':=V.one (El.row muE out)) (zhe rfl rfl) (RowAt.ofE muE out rfl (by decide)) (by decide) (.inr ⟨rfl,rfl⟩)) (zjn (te_ rfl (zgJ (i:=6) rfl fn55 rfl (znE out (by assumption) (by assumption) (by omega) (by omega)) (by decide) rfl) (zl 7 rfl ?_))));refine nz_ [so 6 _,so 11 _,so 12 (D.v (V.one (Leaf.own 6 0)))] [none,none,none,_,_,_,hgr 109 7 muE (zcA out) 0] rfl rfl (zc 8 rfl (zdW 7 (x':=V.one (El.row muE (zcA out))) rfl (RowAt.ofE muE (zcA out) rfl (by decide)) (.inr ⟨rfl,rfl⟩) ?_));exact r3_ hq_ rfl (by rw[zv5 hR])
theorem zo9(q:Qu)(hq:QOk q)(d:Dc){b:Nat}(hd:DOk b q d)(hb:b<=1000000):Ctr Tryz.prog 96 [quV q,dcV d] (R.one (V.one (Leaf.val (.bool true)))):=by
 refine bd_ Tryz.func96 Tryz.ntmps96 rfl (fun w0 A0=>?_);refine zc 10 rfl (tc_ zvB rfl (zdi q hq) (zl 3 rfl (tc_ zvI rfl (zo8 q d hd hb) (zl 4 rfl ?_))));exact r1_ hq_ rfl rfl
theorem zl6(r:Rw):Ctr Tryz.prog 216 [rwV r] (R.one (V.one (El.row muE (zj0 r)))):=by
 refine bd_ Tryz.func216 Tryz.ntmps216 rfl (fun w0 A0=>?_);refine zc 7 rfl (dr_ 0 [] [] (dz 1 rfl (kc_ zm1 rfl (zm0 1 (by decide) (by decide)) (dz 1 rfl (ke_ rfl (fun _=>zad rfl zcH zbi zcZ rfl (by decide) (by decide) rfl (by decide) rfl) (dz 1 rfl (zae (za 1 rfl ?_))))))));exact r1_ hq_ rfl rfl
theorem zCb(r:Rw):Ctr Tryz.prog 216 [rwV r] (R.one (V.one (Leaf.rep (zec 1 (muE.all (zj0 r)))))):=by
 refine bd_ Tryz.func216 Tryz.ntmps216 rfl (fun w0 A0=>?_);refine zc 7 rfl (dr_ 0 [] [] (dz 1 rfl (kc_ zm1 rfl (zm0 1 (by decide) (by decide)) (dz 1 rfl (ke_ rfl (fun _=>zmX rfl zcH zbi zcZ rfl (by decide) (by decide) rfl (by decide) rfl) (dz 1 rfl (zae (za 1 rfl ?_))))))));exact r1_ hq_ rfl rfl
theorem zEx(s:Sc)(hs:SB 135001 s)(k:Nat)(j:Int):Ctr Tryz.prog 190 [scV s,V.one (Leaf.val (.int .i64 ((k:Int)))),V.one (Leaf.val (.int .i64 (j)))] (R.one (V.one (Leaf.val (.bool (zet s.path k j))))):=by
 refine bd_ Tryz.func190 Tryz.ntmps190 rfl (fun w0 A0=>?_);have hB:=hs.B;have hq:=hs.q;have hd:=hs.d;have hpl:=hs.pl;have hl:=hs.ll;have hg:=hq.g;have hr:=hq.r;have hlo:=hr.lo;have hhi:=hr.hi;have h1:=hg.i1;have h2:=hg.i3;have h3:=hg.u4;have h4:=hg.o1;have h5:=hg.o3;refine zc 13 rfl (zbo (fun m Γ H=>∃(i:Nat),s.path.length-i=m/\Γ=[(1,some (D.val (.int .i64 (k:Int)))),(2,some (D.val (.int .i64 j))),(3,some (D.ptr 0 0)),(7,some (D.val (.int .i64 (i:Int))))]/\H=[hb_ 43 (scL s)]/\i<=s.path.length/\zvR s.path k j i=false) ⟨0,rfl,rfl,rfl,zFn _,rfl⟩ rfl ?_);rintro m Γ H ⟨i,rfl,rfl,rfl,hi0,hno⟩;refine zc 6 rfl (tq_ rfl (jln rfl) ?_);by_cases hi:i<s.path.length
 .refine tq_ rfl (ltT rfl) (zl 8 rfl ?_);obtain⟨x,hx⟩:∃x,s.path[i]?=some x:=⟨_,zFh hi⟩;have hxd:=hd x (zFi hx);refine dr_ 0 [] [] (dz 3 rfl (kq_ rfl (jix i hx rfl) (kq_ rfl (jfr rfl) (kq_ rfl (jli rfl) (dz 3 rfl ?_)))));refine zqO rfl (fun hk1=>?_) (fun hk1=>?_)
  .refine dz 19 rfl (zae (za 7 rfl (tq_ rfl (jad (i+1) rfl) (zl 2 rfl ?_))));exact nx_ ⟨i+1,rfl,rfl,rfl,hi,by rw[zc3 hx,hno,hk1];rfl⟩ rfl
  .refine dz 3 rfl (kq_ rfl (jix i hx rfl) (kq_ rfl (jfr rfl) (kq_ rfl (jli rfl) (dz 4 rfl ?_))));refine zqO rfl (fun hk2=>?_) (fun hk2=>?_)
   .refine dz 9 rfl (zae (za 7 rfl (tq_ rfl (jad (i+1) rfl) (zl 2 rfl ?_))));exact nx_ ⟨i+1,rfl,rfl,rfl,hi,by rw[zc3 hx,hno,hk1,hk2];rfl⟩ rfl
   .refine dz 5 rfl (kq_ rfl (jix i hx rfl) (kq_ rfl (jlr rfl) (kc_ fn96 rfl (zo9 s.q hq x hxd (by omega)) (dz 1 rfl (zae (za 7 rfl ?_))))));exact r1_ hq_ rfl (by rw[zpg hx hk1 hk2])
 .refine tq_ rfl (ltF rfl) (zl 13 rfl ?_);exact r1_ hq_ rfl (by rw[<-zh6,<-show i=s.path.length by omega,hno])
theorem zCd(s:Sc)(hs:SB 135001 s)(j:Nat)(hj:j<s.q.g.us.length):Ctr Tryz.prog 126 [scV s,V.one (Leaf.val (.int .i64 ((j:Int))))] (R.tup [rwV (zcx s j),V.one (Leaf.val (.bool (zaW s j)))]):=by
 refine bd_ Tryz.func126 Tryz.ntmps126 rfl (fun w0 A0=>?_);have hB:=hs.B;have hq:=hs.q;have hd:=hs.d;have hpl:=hs.pl;have hl:=hs.ll;have hg:=hq.g;have hr:=hq.r;have hlo:=hr.lo;have hhi:=hr.hi;have h1:=hg.i1;have h2:=hg.i3;have h3:=hg.u4;have h4:=hg.o1;have h5:=hg.o3;refine zc 11 rfl (tc_ zxq rfl (zhu s (by assumption) (by omega) (by omega) (j:Int)) (zl 12 rfl (tc_ zDP rfl (zEx s (by assumption) 2 (j:Int)) (zl 2 rfl ?_))));refine zap rfl (fun hd1=>?_) (fun hd1=>?_)
 .refine zc 8 rfl ?_;exact r2_ hq_ rfl (by rw[zhW hd1,show zaW s j=true from by simp[zaW,hd1]])
 .refine zc 8 rfl ?_;by_cases h1:(zam s.lems (j:Int)).2≠0
  .refine tq_ rfl (gtT rfl) (zl 1 rfl ?_);obtain⟨z,hz,_,_,hlz,hz0,hzl⟩:=zbj h1;haveI:=hB z (zFi hz);refine zl 3 rfl (tq_ rfl (jsb (((zam s.lems (j:Int)).2)-1) rfl) (tq_ rfl (jix ((zam s.lems (j:Int)).2-1) hz rfl) (tq_ rfl (jft rfl) (tq_ rfl (jlr rfl) (tc_ zgt rfl (zbx z.v (z.v.q) rfl (Fq.use (x:=z.v) (by omega))) ?_)))));by_cases h2:z.v.q<=0
   .refine tq_ rfl (leT rfl (zgb.2 h2)) (zl 5 rfl ?_);exact r2_ hq_ rfl (by rw[zfh hd1,show zaW s j=true from by simp[zaW,hd1,h1,hlz,h2]])
   .refine tq_ rfl (leF rfl (fun e=>h2 (zgb.1 e))) (zl 5 rfl ?_);exact r2_ hq_ rfl (by rw[zfh hd1,show zaW s j=false from by simp[zaW,hd1,h1,hlz,h2]])
  .refine tq_ rfl (gtF rfl) (zl 15 rfl ?_);exact r2_ hq_ rfl (by rw[zfh hd1,show zaW s j=false from by simp[zaW,hd1,h1]])
theorem on_r(s:Sc)(hs:SB 135001 s)(j:Nat)(hj:j<s.q.g.us.length):Ctr Tryz.prog 125 [scV s,V.one (Leaf.val (.int .i64 ((j:Int))))] (R.tup [rwV (zdk s j),V.one (Leaf.val (.bool (zcd s j)))]):=by
 refine bd_ Tryz.func125 Tryz.ntmps125 rfl (fun w0 A0=>?_);have hB:=hs.B;have hq:=hs.q;have hd:=hs.d;have hpl:=hs.pl;have hl:=hs.ll;have hg:=hq.g;have hr:=hq.r;have hlo:=hr.lo;have hhi:=hr.hi;have h1:=hg.i1;have h2:=hg.i3;have h3:=hg.u4;have h4:=hg.o1;have h5:=hg.o3;refine zc 11 rfl (tc_ zxq rfl (zhu s (by assumption) (by omega) (by omega) (j:Int)) (zl 12 rfl (tc_ zDP rfl (zEx s (by assumption) 1 (j:Int)) (zl 2 rfl ?_))));refine zap rfl (fun hd1=>?_) (fun hd1=>?_)
 .refine zc 8 rfl ?_;exact r2_ hq_ rfl (by rw[zkI hd1,show zcd s j=true from by simp[zcd,hd1]])
 .refine zc 8 rfl ?_;by_cases h1:(zam s.lems (j:Int)).1≠0
  .refine tq_ rfl (gtT rfl) (zl 1 rfl ?_);obtain⟨y,hy,_,_,hly,hy0,hyl⟩:=zbe h1;haveI:=hB y (zFi hy);refine zl 3 rfl (tq_ rfl (jsb (((zam s.lems (j:Int)).1)-1) rfl) (tq_ rfl (jix ((zam s.lems (j:Int)).1-1) hy rfl) (tq_ rfl (jft rfl) (tq_ rfl (jlr rfl) (tc_ zgt rfl (zbx y.v (y.v.q) rfl (Fq.use (x:=y.v) (by omega))) ?_)))));by_cases h2:0<=y.v.q
   .refine tq_ rfl (geT rfl (zgS.2 h2)) (zl 5 rfl ?_);exact r2_ hq_ rfl (by rw[zg0 hd1,show zcd s j=true from by simp[zcd,hd1,h1,hly,h2]])
   .refine tq_ rfl (geF rfl (fun e=>h2 (zgS.1 e))) (zl 5 rfl ?_);exact r2_ hq_ rfl (by rw[zg0 hd1,show zcd s j=false from by simp[zcd,hd1,h1,hly,h2]])
  .refine tq_ rfl (gtF rfl) (zl 15 rfl ?_);exact r2_ hq_ rfl (by rw[zg0 hd1,show zcd s j=false from by simp[zcd,hd1,h1]])
theorem zy2(s:Sc)(hs:SB 135001 s)(j:Nat)(hj:j<s.q.g.us.length):Ctr Tryz.prog 164 [scV s,V.one (Leaf.val (.int .i64 ((j:Int))))] (R.one (bdV (zoQ s j).1.q (zoQ s j).2 true)):=by
 refine bd_ Tryz.func164 Tryz.ntmps164 rfl (fun w0 A0=>?_);have hB:=hs.B;have hq:=hs.q;have hd:=hs.d;have hpl:=hs.pl;have hl:=hs.ll;have hg:=hq.g;have hr:=hq.r;have hlo:=hr.lo;have hhi:=hr.hi;have h1:=hg.i1;have h2:=hg.i3;have h3:=hg.u4;have h4:=hg.o1;have h5:=hg.o3;refine zc 10 rfl (tc_ zxq rfl (zhu s (by assumption) (by omega) (by omega) (j:Int)) (zl 9 rfl ?_));refine nz_ [so 1 (D.val (.int .i64 (j:Int))),so 2 (D.ptr 0 0),so 4 (D.ptr 1 0),so 5 (D.val (.int .i64 (((zam s.lems (j:Int)).1:Nat):Int)))] [hb_ 43 (scL s),hb_ 150 [Leaf.val (.bool false),zaf ([]),zaf ([]),El.row muE ([]),Leaf.val (.bool false)]] rfl rfl (zc 2 rfl ?_);by_cases h1:(zam s.lems (j:Int)).1=0
 .refine tq_ rfl (eqT rfl) (zl 15 rfl (nf_ [0] [so 1 _,so 4 _] [none,_] rfl rfl rfl (zc 2 rfl (eq_ (D.agg (qL 0)) rfl (zB2) (zl 2 rfl (tc_ zjH rfl (zl6 ⟨5,(j:Int),0,0⟩) (zl 4 rfl ?_)))))));exact r1_ hq_ rfl (by rw[zoP (fun e=>e.1 h1)];show R.one (bdV 0 _ _)=R.one (bdV qZero.q _ _);rw[zcJ])
 .refine tq_ rfl (eqF rfl) (zl 1 rfl ?_);obtain⟨y,hy,_,_,hly,hy0,hyl⟩:=zbe h1;haveI:=hB y (zFi hy);refine zl 3 rfl (tq_ rfl (jsb (((zam s.lems (j:Int)).1)-1) rfl) (tq_ rfl (jix ((zam s.lems (j:Int)).1-1) hy rfl) (tq_ rfl (jft rfl) (tq_ rfl (jlr rfl) (tc_ zgt rfl (zbx y.v (y.v.q) rfl (Fq.use (x:=y.v) (by omega))) ?_)))));by_cases h2:y.v.q<=0
  .refine tq_ rfl (leT rfl (zgb.2 h2)) (zl 5 rfl (nf_ [0] [so 1 _,so 4 _] [none,_] rfl rfl rfl (zc 2 rfl (eq_ (D.agg (qL 0)) rfl (zB2) (zl 2 rfl (tc_ zjH rfl (zl6 ⟨5,(j:Int),0,0⟩) (zl 4 rfl ?_)))))));exact r1_ hq_ rfl (by rw[zoP (fun e=>by rw[hly] at e;grind)];show R.one (bdV 0 _ _)=R.one (bdV qZero.q _ _);rw[zcJ])
  .refine tq_ rfl (leF rfl (fun e=>h2 (zgb.1 e))) (zl 7 rfl (nz_ [so 1 _,so 2 _,so 4 _,so 5 _] [_,_] rfl rfl (zc 3 rfl (tc_ zjH rfl (zCb ⟨6,(j:Int),0,0⟩) (zl 3 rfl (tc_ zjH rfl (zl6 ⟨11,(j:Int),((zam s.lems (j:Int)).1:Int),0⟩) ?_))))));obtain⟨ti3,hi3,hz3,hs3,hb3⟩:=zvu;refine te_ rfl (zdm rfl rfl rfl rfl rfl (by decide) Nat.zero_lt_one zcH zcH hi3 hz3 hs3 rfl (by show 1+1<=maxLen;decide) (by show(1+1)*_<=_;rw[hb3];omega) (nm:=2) rfl (ls:=(muE.all [⟨⟨6,(j:Int),0,0⟩,qOf ((1:Int):Rat)⟩,⟨⟨11,(j:Int),((zam s.lems (j:Int)).1:Int),0⟩,qOf ((1:Int):Rat)⟩])) rfl _) (zl 8 rfl ?_);refine tq_ rfl (jsb (((zam s.lems (j:Int)).1)-1) rfl) (tq_ rfl (jix ((zam s.lems (j:Int)).1-1) hy rfl) (tq_ rfl (jft rfl) (tq_ rfl (jlr rfl) (tc_ zjE rfl (zbD y.v (y.v.q) rfl (Fq.use (x:=y.v) (by omega))) (zl 5 rfl ?_)))));exact r1_ hq_ rfl (by rw[zxg ⟨h1,by rw[hly];grind⟩,zcN hy] <;> rfl)
set_option maxHeartbeats 2000000 in
theorem zCu(s:Sc)(hs:SB 135001 s)(j:Nat)(hj:j<s.q.g.us.length):Ctr Tryz.prog 163 [scV s,V.one (Leaf.val (.int .i64 ((j:Int))))] (R.one (bdV (zhF s j).1.q (zhF s j).2.1 (zhF s j).2.2)):=by
 refine bd_ Tryz.func163 Tryz.ntmps163 rfl (fun w0 A0=>?_);have hB:=hs.B;have hq:=hs.q;have hd:=hs.d;have hpl:=hs.pl;have hl:=hs.ll;have hg:=hq.g;have hr:=hq.r;have hlo:=hr.lo;have hhi:=hr.hi;have h1:=hg.i1;have h2:=hg.i3;have h3:=hg.u4;have h4:=hg.o1;have h5:=hg.o3;refine zc 10 rfl (tc_ zD4 rfl (zCd s (by assumption) j (by omega)) (zl 10 rfl (nz_ [so 1 _,so 2 _,so 4 _,so 5 (D.ptr 2 0),so 6 (D.bool (zaW s j))] [_,_,hb_ 107 [Leaf.val (.int .i64 ((zcx s j).kind)),Leaf.val (.int .i64 ((zcx s j).idx)),Leaf.val (.int .i64 ((zcx s j).lo)),Leaf.val (.int .i64 ((zcx s j).hi))]] rfl rfl (zc 4 rfl ?_))));refine zap rfl (fun hof=>?_) (fun hof=>?_)
 .refine zc 3 rfl (eq_ (D.agg (qL 0)) rfl (zB2) (zl 1 rfl (tc_ zjH rfl (zl6 (zcx s j)) (zl 4 rfl ?_))));exact r1_ hq_ rfl (by rw[zct (zi1 hof)];show R.one (bdV 0 _ _)=R.one (bdV qZero.q _ _);rw[zcJ])
 .refine zc 6 rfl (tc_ zxq rfl (zhu s (by assumption) (by omega) (by omega) (j:Int)) (zl 8 rfl (nz_ [so 1 _,so 2 _,so 4 _,so 5 _,so 7 (D.val (.int .i64 (((zam s.lems (j:Int)).1:Nat):Int))),so 8 (D.val (.int .i64 (((zam s.lems (j:Int)).2:Nat):Int)))] [_,_,_] rfl rfl (zc 3 rfl (tc_ zD5 rfl (on_r s (by assumption) j (by omega)) ?_)))));refine zl 9 rfl (nz_ [so 1 _,so 2 _,so 4 _,so 5 _,so 7 _,so 8 _,so 9 (D.bool (zcd s j))] [_,_,hb_ 107 [Leaf.val (.int .i64 ((zdk s j).kind)),Leaf.val (.int .i64 ((zdk s j).idx)),Leaf.val (.int .i64 ((zdk s j).lo)),Leaf.val (.int .i64 ((zdk s j).hi))]] rfl rfl (zc 2 rfl ?_));by_cases hh:(zam s.lems (j:Int)).2=0
  .refine tq_ rfl (eqT rfl) (zl 12 rfl (nf_ [0,2] [so 4 _] [none,_,none] rfl rfl rfl (zc 2 rfl (eq_ (D.agg (bdL 0 [] false)) rfl (bdZ) (zl 3 rfl ?_)))));exact r1_ hq_ rfl (by rw[zfo (zo0 hof hh)];show R.one (bdV 0 _ _)=R.one (bdV qZero.q _ _);rw[zcJ])
  .refine tq_ rfl (eqF rfl) ?_;obtain⟨z,hz,_,_,hlz,hz0,hzl⟩:=zbj hh;haveI:=hB z (zFi hz);refine zl 4 rfl ?_;refine zdH rfl (fun hon=>?_) (fun hon=>?_)
   .have hon1:zcd s j=true:=by simpa using hon
    refine zl 10 rfl (nz_ [so 1 _,so 2 _,so 4 _,so 5 _,so 7 _,so 8 _,so 9 _] [_,_,_] rfl rfl (zc 4 rfl (tq_ rfl (jsb (((zam s.lems (j:Int)).2)-1) rfl) (tq_ rfl (jix ((zam s.lems (j:Int)).2-1) hz rfl) (tq_ rfl (jft rfl) (tq_ rfl (jlr rfl) (zl 5 rfl ?_)))))));refine nz_ [so 1 _,so 2 _,so 4 _,so 5 _,so 7 _,so 8 _,so 9 _,so 10 (D.ptr 3 0)] [_,_,_,hb_ 36 [Leaf.val (.bool z.v.neg),zaf z.v.n,zaf z.v.d]] rfl rfl (zc 14 rfl ?_);refine zap rfl (fun hon2=>?_) (fun hon2=>?_)
    .refine zc 1 rfl (dr_ 0 [(8,1)] [1] (dz 1 rfl (kc_ zjE rfl (zbD z.v (z.v.q) rfl (Fq.use (x:=z.v) (by omega))) (dz 1 rfl (kc_ zjH rfl (zCb (zdk s j)) (dz 1 rfl (kc_ zjH rfl (zl6 ⟨12,(j:Int),0,((zam s.lems (j:Int)).2:Int)⟩) ?_)))))));obtain⟨ti2,hi2,hz2,hs2,hb2⟩:=zvu;refine ke_ rfl (fun _=>zdm rfl rfl rfl rfl rfl (by decide) Nat.zero_lt_one zcH zcH hi2 hz2 hs2 rfl (by show 1+1<=maxLen;decide) (by show(1+1)*_<=_;rw[hb2];omega) (nm:=2) rfl (ls:=(muE.all [⟨(zdk s j),qOf ((1:Int):Rat)⟩,⟨⟨12,(j:Int),0,((zam s.lems (j:Int)).2:Int)⟩,qOf ((1:Int):Rat)⟩])) rfl _) (dz 2 rfl (zae (za 1 rfl ?_)));exact r1_ hq_ rfl (by rw[zct (zkN hof hh hon1),zcN hz] <;> rfl)
    .rw[hon1] at hon2;cases hon2
   .have hnon:zcd s j=false:=by simpa using hon
    refine zl 1 rfl ?_;by_cases hl0:(zam s.lems (j:Int)).1=0
    .refine tq_ rfl (eqT rfl) (zl 6 rfl (nf_ [0,2] [so 4 _] [none,_,none] rfl rfl rfl (zc 2 rfl (eq_ (D.agg (bdL 0 [] false)) rfl (bdZ) (zl 3 rfl ?_)))));exact r1_ hq_ rfl (by rw[zfo (zoZ hof hh hnon hl0)];show R.one (bdV 0 _ _)=R.one (bdV qZero.q _ _);rw[zcJ])
    .refine tq_ rfl (eqF rfl) (zl 12 rfl (tq_ rfl (jsb (((zam s.lems (j:Int)).2)-1) rfl) (tq_ rfl (jix ((zam s.lems (j:Int)).2-1) hz rfl) (tq_ rfl (jft rfl) (tq_ rfl (jlr rfl) (zl 5 rfl (nz_ [so 1 _,so 2 _,so 4 _,so 5 _,so 7 _,so 8 _,so 9 _,so 10 (D.ptr 3 0)] [_,_,_,hb_ 36 [Leaf.val (.bool z.v.neg),zaf z.v.n,zaf z.v.d]] rfl rfl (zc 14 rfl ?_))))))));refine zap rfl (fun hon2=>?_) (fun hon2=>?_)
     .rw[hnon] at hon2;cases hon2
     .refine zc 3 rfl ?_;obtain⟨y,hy,_,_,hly,hy0,hyl⟩:=zbe hl0;haveI:=hB y (zFi hy);have hne:z.v.q-y.v.q≠0:=by have:=zwS hof hh hnon hl0;rwa [zcN hz,zcN hy] at this
      refine dr_ 1 [(14,5),(15,5)] [5] (kc_ zm1 rfl (zm0 1 (by decide) (by decide)) (dz 4 rfl (kq_ rfl (jsb (((zam s.lems (j:Int)).1)-1) rfl) (kq_ rfl (jix ((zam s.lems (j:Int)).1-1) hy rfl) (kq_ rfl (jft rfl) (kq_ rfl (jlr rfl) (kc_ zvA rfl (zky z.v (z.v.q) rfl (Fq.use (x:=z.v) (by omega)) y.v (y.v.q) rfl (Fq.use (x:=y.v) (by omega))) ?_)))))));refine kc_ zvJ rfl (zuZ (qOf (((1:Int):Rat))) (((1:Int):Rat)) (zah _) (Br.use (by omega)) (qOf ((z.v.q)-(y.v.q))) ((z.v.q)-(y.v.q)) (zah _) (Br.use (by omega)) (by assumption)) (dz 6 rfl (zae (za 2 rfl ?_)));refine nf_ [0,2] [so 1 _,so 4 _,so 7 _,so 8 _,so 10 _,so 11 (D.ptr 4 0),so 12 (D.ptr 5 0)] [none,_,none,_,hb_ 107 [Leaf.val (.int .i64 12),Leaf.val (.int .i64 (j:Int)),Leaf.val (.int .i64 0),Leaf.val (.int .i64 (((zam s.lems (j:Int)).2:Nat):Int))],hb_ 36 (qL ((((1:Int):Rat))/((z.v.q)-(y.v.q))))] rfl rfl rfl (zc 10 rfl ?_);refine dr_ 0 [(12,1)] [1] (dz 1 rfl (kc_ zjE rfl (zbD z.v (z.v.q) rfl (Fq.use (x:=z.v) (by omega))) (dz 3 rfl (kc_ zqf rfl (zgU (qOf ((((1:Int):Rat))/((z.v.q)-(y.v.q)))) ((((1:Int):Rat))/((z.v.q)-(y.v.q))) (zah _) (Br.use (by omega)) z.v (z.v.q) rfl (Fq.use (x:=z.v) (by omega))) (dz 4 rfl ?_)))));refine ke_ rfl (fun _=>zad rfl zcH zbi zcZ rfl (by decide) (by decide) rfl (by decide) rfl) (dz 2 rfl (zae (za 1 rfl ?_)));exact r1_ hq_ rfl (by rw[zct (zmj hof hh hnon hl0),zcN hz,zcN hy,Rat.mul_comm] <;> rfl)
theorem zCI(s:Sc)(hs:SB 135001 s)(i:Nat)(hi:i<s.q.g.inp)(up:Bool):Ctr Tryz.prog 162 [scV s,V.one (Leaf.val (.int .i64 ((i:Int)))),V.one (Leaf.val (.bool up))] (R.one (bdV (ziZ s i up).1 (zj0 (ziZ s i up).2) true)):=by
 refine bd_ Tryz.func162 Tryz.ntmps162 rfl (fun w0 A0=>?_);have hB:=hs.B;have hq:=hs.q;have hd:=hs.d;have hpl:=hs.pl;have hl:=hs.ll;have hg:=hq.g;have hr:=hq.r;have hlo:=hr.lo;have hhi:=hr.hi;have h1:=hg.i1;have h2:=hg.i3;have h3:=hg.u4;have h4:=hg.o1;have h5:=hg.o3;obtain⟨a0,ha0⟩:∃a,s.q.r.lo[i]?=some a:=⟨_,zFh (by omega)⟩;obtain⟨c0,hc0⟩:∃a,s.q.r.hi[i]?=some a:=⟨_,zFh (by omega)⟩;have ha:s.q.r.lo[i]?=some ((s.q.r.lo[i]?).getD 0):=by rw[ha0];rfl
 have hc_:s.q.r.hi[i]?=some ((s.q.r.hi[i]?).getD 0):=by rw[hc0];rfl
 refine zc 16 rfl (dr_ 1 [(9,3),(10,3)] [3] (dz 3 rfl (kq_ rfl (jix i ha rfl) (kq_ rfl (jlr rfl) (dz 2 rfl (kc_ zjH rfl (zl6 ⟨1,(i:Int),0,0⟩) (dz 3 rfl (zae (za 2 rfl ?_)))))))));refine nz_ [so 1 (D.val (.int .i64 (i:Int))),so 2 (D.bool up),so 3 (D.ptr 0 0),so 6 (D.ptr 1 0),so 7 (D.ptr 2 0),so 8 (D.ptr 3 0)] [hb_ 43 (scL s),_,hb_ 31 [El.row ratE s.q.r.lo,El.row ratE s.q.r.hi,El.row afE s.q.r.rows],hb_ 150 [Leaf.val (.bool (zaP ((s.q.r.lo[i]?).getD 0))),zaf (zaa (zav ((s.q.r.lo[i]?).getD 0))),zaf (zaa (zaz ((s.q.r.lo[i]?).getD 0))),El.row muE (zj0 ⟨1,(i:Int),0,0⟩),Leaf.val (.bool true)]] rfl rfl ?_;refine zc 5 rfl ?_;refine mt_ [so 1 (D.val (.int .i64 (i:Int))),so 3 (D.ptr 0 0),so 6 (D.ptr 1 0),so 8 (D.ptr 3 0),so 9 (D.val (.int .i64 (((if up=true then 4 else 3):Nat):Int))),so 10 (D.val (.int .i64 (if up=true then(-1:Int) else 1)))] [hb_ 43 (scL s),hb_ 150 [Leaf.val (.bool false),zaf ([]),zaf ([]),El.row muE ([]),Leaf.val (.bool false)],none,hb_ 150 [Leaf.val (.bool (zaP ((zjw s i up).1))),zaf (zaa (zav ((zjw s i up).1))),zaf (zaa (zaz ((zjw s i up).1))),El.row muE (zj0 (zjw s i up).2),Leaf.val (.bool true)]] ?_ ?_
 .refine zc 5 rfl ?_;refine zap rfl (fun hup=>?_) (fun hup=>?_)
  .subst hup;refine zc 1 rfl (dr_ 0 [(9,3)] [3] (dz 3 rfl (kq_ rfl (jix i hc_ rfl) (kq_ rfl (jlr rfl) (dz 2 rfl (kc_ zjH rfl (zl6 ⟨2,(i:Int),0,0⟩) (dz 2 rfl (zae (za 1 rfl ?_)))))))));refine nf_ [2] [so 1 _,so 3 _,so 6 _,so 8 _] [_,_,none,hb_ 150 [Leaf.val (.bool (zaP ((s.q.r.hi[i]?).getD 0))),zaf (zaa (zav ((s.q.r.hi[i]?).getD 0))),zaf (zaa (zaz ((s.q.r.hi[i]?).getD 0))),El.row muE (zj0 ⟨2,(i:Int),0,0⟩),Leaf.val (.bool true)]] rfl rfl rfl (zc 4 rfl ?_);exact mx_ rfl
  .subst hup;refine zc 1 rfl (zal 2 ?_);exact mx_ rfl
 .refine zc 7 rfl ?_;refine zbo (fun m Γ H=>∃(n:Nat) (b:Rat×Rw),s.path.length-n=m/\Γ=[(1,some (D.val (.int .i64 (i:Int)))),(3,some (D.ptr 0 0)),(6,some (D.ptr 1 0)),(8,some (D.ptr 3 0)),(9,some (D.val (.int .i64 (((if up=true then 4 else 3):Nat):Int)))),(10,some (D.val (.int .i64 (if up=true then(-1:Int) else 1)))),(11,some (D.val (.int .i64 (n:Int))))]/\H=[hb_ 43 (scL s),hb_ 150 [Leaf.val (.bool false),zaf ([]),zaf ([]),El.row muE ([]),Leaf.val (.bool false)],none,hb_ 150 [Leaf.val (.bool (zaP b.1)),zaf (zaa (zav b.1)),zaf (zaa (zaz b.1)),El.row muE (zj0 b.2),Leaf.val (.bool true)]]/\n<=s.path.length/\b=zgK s i up n) ⟨0,zjw s i up,rfl,rfl,rfl,zFn _,rfl⟩ rfl ?_;rintro m Γ H ⟨n,b,rfl,rfl,rfl,hn0,hb⟩;refine zc 6 rfl (tq_ rfl (jln rfl) ?_);by_cases hn:n<s.path.length
  .refine tq_ rfl (ltT rfl) (zl 8 rfl ?_);obtain⟨d,hdx⟩:∃d,s.path[n]?=some d:=⟨_,zFh hn⟩;have hdo:=hd d (zFi hdx);haveI:=hdo.2.br;haveI hbb:Br b.1 201:=by rw[hb];exact zsJ hs hi up (by omega)
   obtain⟨hg1,hg2⟩:=zCJ (up:=up) (a:=d.pt) (b:=b.1);refine zc 4 rfl (tq_ rfl (jix n hdx rfl) (tq_ rfl (jlr rfl) (zl 5 rfl ?_)));refine nz_ [so 1 (D.val (.int .i64 (i:Int))),so 3 (D.ptr 0 0),so 6 (D.ptr 1 0),so 8 (D.ptr 3 0),so 9 (D.val (.int .i64 (((if up=true then 4 else 3):Nat):Int))),so 10 (D.val (.int .i64 (if up=true then(-1:Int) else 1))),so 11 (D.val (.int .i64 (n:Int))),so 12 (D.ptr 4 0)] [hb_ 43 (scL s),hb_ 150 [Leaf.val (.bool false),zaf ([]),zaf ([]),El.row muE ([]),Leaf.val (.bool false)],none,hb_ 150 [Leaf.val (.bool (zaP b.1)),zaf (zaa (zav b.1)),zaf (zaa (zaz b.1)),El.row muE (zj0 b.2),Leaf.val (.bool true)],hb_ 76 [Leaf.val (.int .i64 ((d.kind:Nat):Int)),Leaf.val (.int .i64 ((d.idx:Nat):Int)),Leaf.val (.bool (zaP d.pt)),zaf (zaa (zav d.pt)),zaf (zaa (zaz d.pt))]] rfl rfl ?_;refine zc 4 rfl ?_;by_cases hk:d.kind=(if up=true then 4 else 3)
   .refine tq_ rfl (eqT rfl (by rw[hk])) (zl 4 rfl ?_);by_cases hx:d.idx=i
    .refine tq_ rfl (eqT rfl) (zl 5 rfl (tc_ fn96 rfl (zo9 s.q hq d hdo (by omega)) (zl 7 rfl (tc_ zo7 rfl (zgd (qOf (d.pt)) (d.pt) (zah _) (Br.use (by omega)) (qOf (b.1)) (b.1) (zah _) (Br.use (by omega))) (tq_ rfl (zfK rfl rfl rfl (r:=((if up=true then(-1:Int) else 1)*zeo d.pt b.1)) (w64 rfl (by omega) (by omega))) ?_)))));by_cases hc:(if up=true then d.pt<b.1 else b.1<d.pt)
     .refine tq_ rfl (gtT rfl (zsI.2 hc)) (zl 4 rfl (nz_ [so 1 _,so 3 _,so 6 _,so 8 _,so 9 _,so 10 _,so 11 _,so 12 _] [_,_,none,_,_] rfl rfl (dr_ 0 [(6,3)] [3] (dz 4 rfl (kc_ zjH rfl (zl6 ⟨4,(n:Int),0,0⟩) (dz 2 rfl (zae (za 4 rfl (tq_ rfl (jad (n+1) rfl) ?_)))))))));refine zl 2 rfl (zal 4 (zaJ 4 rfl ?_));exact nx_ ⟨n+1,(d.pt,⟨4,(n:Int),0,0⟩),rfl,rfl,rfl,hn,(by rw[hb] at hc;exact(zxm hdx ⟨hk,hx,hc⟩).symm)⟩ rfl
     .refine tq_ rfl (gtF rfl (fun e=>hc (zsI.1 e))) (zl 7 rfl (nf_ [4] [so 1 _,so 3 _,so 6 _,so 8 _,so 9 _,so 10 _,so 11 _] [_,_,none,_,none] rfl rfl rfl (zc 2 rfl (tq_ rfl (jad (n+1) rfl) (zl 2 rfl (zaJ 4 rfl ?_))))));exact nx_ ⟨n+1,b,rfl,rfl,rfl,hn,(by rw[hb];exact(zj9 hdx (fun e=>hc (by rw[hb];exact e.2.2))).symm)⟩ rfl
    .refine tq_ rfl (eqF rfl) (zl 23 rfl (nf_ [4] [so 1 _,so 3 _,so 6 _,so 8 _,so 9 _,so 10 _,so 11 _] [_,_,none,_,none] rfl rfl rfl (zc 2 rfl (tq_ rfl (jad (n+1) rfl) (zl 2 rfl (zaJ 4 rfl ?_))))));exact nx_ ⟨n+1,b,rfl,rfl,rfl,hn,(by rw[hb];exact(zj9 hdx (fun e=>hx e.2.1)).symm)⟩ rfl
   .refine tq_ rfl (eqF rfl (fun e=>hk (Int.ofNat_inj.1 e))) (zl 24 rfl (zc 4 rfl (nf_ [4] [so 1 _,so 3 _,so 6 _,so 8 _,so 9 _,so 10 _,so 11 _] [_,_,none,_,none] rfl rfl rfl (zc 2 rfl (tq_ rfl (jad (n+1) rfl) (zl 2 rfl (zaJ 4 rfl ?_)))))));exact nx_ ⟨n+1,b,rfl,rfl,rfl,hn,(by rw[hb];exact(zj9 hdx (fun e=>hk e.1)).symm)⟩ rfl
  .refine tq_ rfl (ltF rfl) (zl 9 rfl ?_);have hie:n=s.path.length:=by omega
   rw[hie] at hb;refine zc 5 rfl ?_;exact r1_ hq_ rfl (by unfold ziZ;rw[<-hb])
theorem of_r(s:Sc)(hs:SB 135001 s)(v:Nat)(hv:v<(s.q.g.inp+s.q.g.us.length))(up:Bool):Ctr Tryz.prog 94 [scV s,V.one (Leaf.val (.int .i64 ((v:Int)))),V.one (Leaf.val (.bool up))] (R.one (bdV (zbM s v up).1.q (zbM s v up).2.1 (zbM s v up).2.2)):=by
 refine bd_ Tryz.func94 Tryz.ntmps94 rfl (fun w0 A0=>?_);have hB:=hs.B;have hq:=hs.q;have hd:=hs.d;have hpl:=hs.pl;have hl:=hs.ll;have hg:=hq.g;have hr:=hq.r;have hlo:=hr.lo;have hhi:=hr.hi;have h1:=hg.i1;have h2:=hg.i3;have h3:=hg.u4;have h4:=hg.o1;have h5:=hg.o3;refine zc 21 rfl (tc_ zvB rfl (zdi s.q hq) (zl 3 rfl (tq_ rfl (ltF rfl) (zl 6 rfl (tc_ zDA rfl (zlA s.q.g (by assumption)) (tq_ rfl (geF rfl) (zl 9 rfl ?_)))))));by_cases hvi:v<s.q.g.inp
 .refine tq_ rfl (ltT rfl) (zl 9 rfl (tc_ fn162 rfl (zCI s hs v hvi up) (zl 3 rfl ?_)));exact r1_ hq_ rfl (by rw[ztF hvi];show R.one (bdV (ziZ s v up).1 _ _)=R.one (bdV (qOf (ziZ s v up).1).q _ _);rw[zah])
 .refine tq_ rfl (ltF rfl) (zl 10 rfl ?_);refine zap rfl (fun hup=>?_) (fun hup=>?_)
  .refine zc 5 rfl (tq_ rfl (jsb (v-s.q.g.inp) rfl) (tc_ fn163 rfl (zCu s (by assumption) (v-s.q.g.inp) (by omega)) (zl 3 rfl ?_)));exact r1_ hq_ rfl (by rw[hup,ztD hvi])
  .refine zc 8 rfl (tq_ rfl (jsb (v-s.q.g.inp) rfl) (tc_ fn164 rfl (zy2 s (by assumption) (v-s.q.g.inp) (by omega)) (zl 3 rfl ?_)));exact r1_ hq_ rfl (by rw[hup,ztE hvi])
set_option maxHeartbeats 2000000 in
theorem boxr(s:Sc)(hs:SB 135001 s)(f:Af){b:Nat}(hf:FOk b (s.q.g.inp+s.q.g.us.length) f)(hb:b<=600000000):Ctr Tryz.prog 41 [scV s,afV f] (R.tup [qV (qOf (zb9 s f).1),V.one (El.row muE (zb9 s f).2.1),V.one (Leaf.val (.bool (zb9 s f).2.2))]):=by
 refine bd_ Tryz.func41 Tryz.ntmps41 rfl (fun w0 A0=>?_);have hB:=hs.B;have hq:=hs.q;have hd:=hs.d;have hpl:=hs.pl;have hl:=hs.ll;have hg:=hq.g;have hr:=hq.r;have hlo:=hr.lo;have hhi:=hr.hi;have h1:=hg.i1;have h2:=hg.i3;have h3:=hg.u4;have h4:=hg.o1;have h5:=hg.o3;have hfl:=hf.fl;haveI:=hfl.fm (by omega);haveI:=hfl.cb;have h7:=hfl.len7 hq;refine zc 11 rfl (dr_ 0 [] [] (dz 2 rfl (kc_ zvB rfl (zdi s.q hq) (dz 6 rfl (kc_ zDA rfl (zlA s.q.g (by assumption)) (kc_ zBr rfl (zeS f hf (by omega) (s.q.g.inp+s.q.g.us.length) (zFl _) (by omega)) (dz 2 rfl (zae (za 5 rfl ?_)))))))));refine nz_ [so 2 (D.ptr 0 0),so 3 (D.ptr 1 0),so 4 (D.ptr 2 0)] [hb_ 43 (scL s),hb_ 38 (afL f),hb_ 36 [Leaf.val (.bool false),zaf ([]),zaf ([])]] rfl rfl (zc 19 rfl ?_);refine zbo (fun m Γ H=>∃(i:Nat) (x:Rat) (l:List Mu),f.ts.length-i=m/\Γ=[(2,some (D.ptr 0 0)),(3,some (D.ptr 1 0)),(4,some (D.ptr 2 0)),(7,some (D.ptr 3 0)),(8,some (D.v (V.one (El.row muE l)))),(9,some (D.val (.int .i64 (i:Int))))]/\H=[hb_ 43 (scL s),hb_ 38 (afL f),hb_ 36 [Leaf.val (.bool false),zaf ([]),zaf ([])],hb_ 36 (qL x)]/\i<=f.ts.length/\zh7 s f i=some (x,l)) ⟨0,f.c,[],rfl,rfl,rfl,zFn _,rfl⟩ rfl ?_;rintro m Γ H ⟨i,x,l,rfl,rfl,rfl,hi0,hR⟩;refine zc 6 rfl (tq_ rfl (jln rfl) ?_);by_cases hi:i<f.ts.length
 .refine tq_ rfl (ltT rfl) (zl 8 rfl ?_);obtain⟨t,ht⟩:∃t,f.ts[i]?=some t:=⟨_,zFh hi⟩;have htm:=zFi ht;have htv:=hf.var t htm;haveI htb:Br t.2 (b+1):=(hf.bd t htm).br;have hbo:=zmC hs hfl i (by omega) x _ hR;have htl:(f.ts.take i).length<=7:=by rw[zFy];omega
  have hmul:=zFs (135001+(b+1)+210) htl;have hmul2:=zFs (8*135001+2*(b+1)+40) htl;haveI:Br x (b+1+7*(135001+(b+1)+210)):=hbo.br.mono (by omega);have hlb:=hbo.der.bd;have hll:=hbo.der.len;refine nz_ [so 2 (D.ptr 0 0),so 3 (D.ptr 1 0),so 4 (D.ptr 2 0),so 7 (D.ptr 3 0),so 8 (D.v (V.one (El.row muE l))),so 9 (D.val (.int .i64 (i:Int)))] [hb_ 43 (scL s),hb_ 38 (afL f),hb_ 36 [Leaf.val (.bool false),zaf ([]),zaf ([])],hb_ 36 (qL x)] rfl rfl (zc 4 rfl (tq_ rfl (jix i ht rfl) (tq_ rfl (jlr rfl) (zl 5 rfl (dr_ 1 [(8,5),(9,5)] [5] (dz 5 rfl ?_))))));refine kc_ zgt rfl (zbx (qOf (t.2)) (t.2) (zah _) (Br.use (by omega))) (kq_ rfl (zmQ rfl rfl rfl (b:=(decide (t.2<0))) (decide_eq_decide.2 zkx)) (kc_ fn94 rfl (of_r s hs t.1 htv (decide (t.2<0))) (dz 2 rfl (zae (za 3 rfl ?_)))));refine nz_ [so 2 _,so 3 _,so 4 _,so 7 _,so 8 _,so 9 _,so 10 (D.ptr 4 0),so 11 (D.ptr 5 0)] [_,_,_,_,hb_ 103 [Leaf.val (.int .i64 ((t.1:Nat):Int)),Leaf.val (.bool (zaP t.2)),zaf (zaa (zav t.2)),zaf (zaa (zaz t.2))],hb_ 150 [Leaf.val (.bool (zaP ((zbM s t.1 (decide (t.2<0))).1.q))),zaf (zaa (zav ((zbM s t.1 (decide (t.2<0))).1.q))),zaf (zaa (zaz ((zbM s t.1 (decide (t.2<0))).1.q))),El.row muE ((zbM s t.1 (decide (t.2<0))).2.1),Leaf.val (.bool ((zbM s t.1 (decide (t.2<0))).2.2))]] rfl rfl ?_;refine zc 6 rfl ?_;refine zap rfl (fun hok=>?_) (fun hok=>?_)
  .refine zc 8 rfl ?_;exact r3_ hq_ rfl (by rw[ztu ht hR (by simpa using hok)];show _=R.tup [qV (qOf 0),_,_];rw[<-zc8] <;> rfl)
  .refine zc 3 rfl ?_;have hok1:(zbM s t.1 (decide (t.2<0))).2.2=true:=by simpa using hok
   have hbk:=ztB hs htv (zpq hok1);haveI:Br (zbM s t.1 (decide (t.2<0))).1.q 135202:=by haveI:=hbk.fq;exact(inferInstance:Fq (zbM s t.1 (decide (t.2<0))).1 _).br
   have hst:=hbk.step;have hsl:=hst.len;refine dr_ 0 [(7,3)] [3] (kp_ [] rfl (zaC rfl rfl rfl (by decide) zhM (by decide) (zFo rfl) rfl) (dz 4 rfl (kc_ zqf rfl (zgU (qOf (t.2)) (t.2) (zah _) (Br.use (by omega)) (qOf ((zbM s t.1 (decide (t.2<0))).1.q)) ((zbM s t.1 (decide (t.2<0))).1.q) (zah _) (Br.use (by omega))) ?_)));refine kc_ zqP rfl (zhC (qOf (x)) (x) (zah _) (Br.use (by omega)) (qOf ((t.2)*((zbM s t.1 (decide (t.2<0))).1.q))) ((t.2)*((zbM s t.1 (decide (t.2<0))).1.q)) (zah _) (Br.use (by omega))) (dz 1 rfl (zae (za 2 rfl ?_)));refine nz_ [so 2 _,so 3 _,so 4 _,so 7 _,so 8 _,so 9 _,so 10 _,so 11 _] [_,_,_,hb_ 36 (qL ((x)+((t.2)*((zbM s t.1 (decide (t.2<0))).1.q)))),_,_] rfl rfl (zc 19 rfl (fr_ [4] rfl ?_));refine zbo (fun m Γ H=>∃(k:Nat) (l2:List Mu),(zbM s t.1 (decide (t.2<0))).2.1.length-k=m/\Γ=[(2,some (D.ptr 0 0)),(3,some (D.ptr 1 0)),(4,some (D.ptr 2 0)),(7,some (D.ptr 3 0)),(8,some (D.v (V.one (El.row muE l2)))),(9,some (D.val (.int .i64 (i:Int)))),(11,some (D.ptr 5 0)),(12,some (D.ptr 6 0)),(13,some (D.val (.int .i64 (k:Int))))]/\H=[hb_ 43 (scL s),hb_ 38 (afL f),hb_ 36 [Leaf.val (.bool false),zaf ([]),zaf ([])],hb_ 36 (qL ((x)+((t.2)*((zbM s t.1 (decide (t.2<0))).1.q)))),none,hb_ 150 [Leaf.val (.bool (zaP ((zbM s t.1 (decide (t.2<0))).1.q))),zaf (zaa (zav ((zbM s t.1 (decide (t.2<0))).1.q))),zaf (zaa (zaz ((zbM s t.1 (decide (t.2<0))).1.q))),El.row muE ((zbM s t.1 (decide (t.2<0))).2.1),Leaf.val (.bool ((zbM s t.1 (decide (t.2<0))).2.2))],hb_ 36 [Leaf.val (.bool false),zaf (zaa (zav t.2)),zaf (zaa (zaz t.2))]]/\k<=(zbM s t.1 (decide (t.2<0))).2.1.length/\l2=zaS l ((zbM s t.1 (decide (t.2<0))).2.1.take k) (rq false (zav t.2) (zaz t.2))) ⟨0,l,rfl,rfl,rfl,zFn _,rfl⟩ rfl ?_;rintro m Γ H ⟨k,l2,rfl,rfl,rfl,hk0,hl2⟩;refine zc 6 rfl (tq_ rfl (jln rfl) ?_);by_cases hk:k<(zbM s t.1 (decide (t.2<0))).2.1.length
   .refine tq_ rfl (ltT rfl) (zl 7 rfl ?_);obtain⟨y,hy⟩:∃y,(zbM s t.1 (decide (t.2<0))).2.1[k]?=some y:=⟨_,zFh hk⟩;haveI hyb:=hst.bd y (zFi hy);have hMB:MB (7*(8*135001+2*(b+1)+40)+2*(4*135001+12+(b+1+1)+2)) l2:=by
     rw[hl2];refine(zei (c:=rq false (zav t.2) (zaz t.2)) (D:=b+1+1) hlb (fun m hm=>hst.bd m (List.mem_of_mem_take hm))).mono ?_;have:=zFs (4*135001+12+(b+1+1)+2) (show((zbM s t.1 (decide (t.2<0))).2.1.take k).length<=2 by rw[zFy];omega);omega
    have hl2l:l2.length<=100:=by rw[hl2];refine zFr (zdo _ _ _) ?_;rw[zFy];omega
    refine nz_ [so 2 (D.ptr 0 0),so 3 (D.ptr 1 0),so 4 (D.ptr 2 0),so 7 (D.ptr 3 0),so 8 (D.v (V.one (El.row muE l2))),so 9 (D.val (.int .i64 (i:Int))),so 11 (D.ptr 5 0),so 12 (D.ptr 6 0),so 13 (D.val (.int .i64 (k:Int)))] [hb_ 43 (scL s),hb_ 38 (afL f),hb_ 36 [Leaf.val (.bool false),zaf ([]),zaf ([])],hb_ 36 (qL ((x)+((t.2)*((zbM s t.1 (decide (t.2<0))).1.q)))),none,hb_ 150 [Leaf.val (.bool (zaP ((zbM s t.1 (decide (t.2<0))).1.q))),zaf (zaa (zav ((zbM s t.1 (decide (t.2<0))).1.q))),zaf (zaa (zaz ((zbM s t.1 (decide (t.2<0))).1.q))),El.row muE ((zbM s t.1 (decide (t.2<0))).2.1),Leaf.val (.bool ((zbM s t.1 (decide (t.2<0))).2.2))],hb_ 36 [Leaf.val (.bool false),zaf (zaa (zav t.2)),zaf (zaa (zaz t.2))]] rfl rfl ?_;refine dr_ 0 [] [] (dz 4 rfl (kq_ rfl (jix k hy rfl) (kq_ rfl (jft rfl) (kq_ rfl (jlr rfl) (dz 4 rfl (kq_ rfl (jix k hy rfl) (kq_ rfl (jfr rfl) (kq_ rfl (jlr rfl) ?_))))))));refine kc_ zqf rfl (zgU (Qr.mk false (zaa (zav t.2)) (zaa (zaz t.2)) (zab _) (zab _)) (rq false (zav t.2) (zaz t.2)) (zp1 (zac _) (zac _)) (Fit.mk (Br.use (r:=t.2) (by omega)).n (Br.use (r:=t.2) (by omega)).d) y.c (y.c.q) rfl (Fq.use (x:=y.c) (by omega))) ?_;refine kc_ zsR rfl (zeV l2 y.r ((rq false (zav t.2) (zaz t.2))*(y.c.q)) (by assumption) (by omega) (by omega)) (dz 1 rfl (zae (za 2 rfl (nz_ [so 2 _,so 3 _,so 4 _,so 7 _,so 8 (D.v (V.one (El.row muE (zb2 l2 y.r ((rq false (zav t.2) (zaz t.2))*(y.c.q)))))),so 9 _,so 11 _,so 12 _,so 13 _] [_,_,_,_,none,_,_] rfl rfl (zc 2 rfl (tq_ rfl (jad (k+1) rfl) ?_))))));refine zl 2 rfl ?_;exact nx_ ⟨k+1,_,rfl,rfl,rfl,hk,(by rw[hl2,ziO hy,Rat.mul_comm])⟩ rfl
   .refine tq_ rfl (ltF rfl) (zl 9 rfl ?_);rw[show k=(zbM s t.1 (decide (t.2<0))).2.1.length by omega,zFE] at hl2;refine zc 2 rfl (tq_ rfl (jad (i+1) rfl) (zl 2 rfl (zal 5 (zal 6 (zaJ 4 rfl ?_)))));exact nx_ ⟨i+1,_,_,rfl,rfl,rfl,hi,(by rw[hl2];exact ztv ht hR hok1)⟩ rfl
 .refine tq_ rfl (ltF rfl) (zl 9 rfl ?_);have hie:i=f.ts.length:=by omega
  have hbo:=zmC hs hfl i (by omega) x _ hR;have htl:(f.ts.take i).length<=7:=by rw[zFy];omega
  have hmul:=zFs (135001+(b+1)+210) htl;haveI:Br x (b+1+7*(135001+(b+1)+210)):=hbo.br.mono (by omega);rw[hie] at hR;refine nf_ [0,1] [so 4 (D.ptr 2 0),so 7 (D.ptr 3 0),so 8 (D.v (V.one (El.row muE l)))] [none,none,hb_ 36 [Leaf.val (.bool false),zaf ([]),zaf ([])],hb_ 36 (qL x)] rfl rfl rfl (zc 2 rfl (tc_ zjE rfl (zbD (qOf (x)) (x) (zah _) (Br.use (by omega))) (zl 6 rfl ?_)));exact r3_ hq_ rfl (by rw[zbW (show zlg s f=_ from hR)])
end Go.Proofs.YtjeiacoegppoiaaGreatDoor
namespace Rc
open Go Go.RowKit
def ziu(f:List Tm)(v:Nat):List Tm:=f.filter fun t=>decide (t.1≠v)
theorem zgT:∀{f:List Tm} {v:Nat},CanT f->CanT (ziu f v)
 |[],_,_=>trivial
 |(w,d)::f,v,h=>by
  unfold ziu;rw[List.filter_cons];split
  .exact⟨h.1,fun u hu=>h.2.1 u (List.mem_filter.1 hu).1,zgT h.2.2⟩
  .exact zgT h.2.2
theorem ztc:∀{f:List Tm} {v:Nat},CanT f->∀w,co (ziu f v) w=if w=v then 0 else co f w
 |[],_,_,w=>by show(0:Rat)=_;split <;> rfl
 |(u,d)::f,v,h,w=>by
  have ih:=ztc (v:=v) h.2.2 w;unfold ziu at *;rw[List.filter_cons];by_cases e:u=v
  .rw[if_neg (by simp[e]),ih];by_cases e2:w=v
   .rw[if_pos e2,if_pos e2]
   .rw[if_neg e2,if_neg e2];show _=if u=w then d else co f w;rw[if_neg (by omega)]
  .rw[if_pos (by simp[e])];show(if u=w then d else co _ w)=_;rw[ih];by_cases e2:u=w
   .rw[if_pos e2,if_neg (by omega)];show _=if u=w then d else co f w;rw[if_pos e2]
   .rw[if_neg e2];show _=if w=v then 0 else if u=w then d else co f w;rw[if_neg e2]
theorem zyx{f:List Tm}{v:Nat}(h:∀t∈f,t.1<v+1):∀t∈ziu f v,t.1<v:=fun t ht=>by
 obtain⟨h1,h2⟩:=List.mem_filter.1 ht;have:=h t h1;have h3:t.1≠v:=by simpa using h2
 omega
theorem zkg:∀{l:List Tm} {v:Nat},co l v≠0->∃t∈l,t.1=v
 |[],_,h=>absurd rfl h
 |(w,d)::l,v,h=>by
  by_cases e:w=v
  .exact⟨(w,d),by simp,e⟩
  .have h:(if w=v then d else co l v)≠0:=h;rw[if_neg e] at h;obtain⟨t,ht,e2⟩:=zkg h;exact⟨t,by simp[ht],e2⟩
theorem ziq{g:List Tm}{c:Rat}{n:Nat}(hg:CanT g)(h:∀t∈g,t.1<n):∀t∈scT g c,t.1<n:=fun t ht=>by
 have h1:=zfH (zdf (c:=c) hg) ht;have h2:t.2≠0:=by
  obtain⟨i,hi⟩:=zfW ht;exact((zdf (c:=c) hg).get hi).1
 rw[zqv hg] at h1;apply Classical.byContradiction;intro hn;have h3:co g t.1=0:=by
  apply Classical.byContradiction;intro hne;obtain⟨u,hu,e⟩:=zkg hne;have:=h u hu;omega
 rw[h3] at h1;exact h2 (by rw[<-h1];grind)
def zoo(f:Af)(v:Nat)(g:Af):Af:=zf0 ⟨ziu f.ts v,f.c⟩ (fSc g (co f.ts v))
section
variable {f g:Af}{v:Nat}
theorem zon(hf:CanT f.ts):CanT (zoo f v g).ts:=zch (zgT hf)
theorem znF(hf:CanT f.ts)(hg:CanT g.ts)(w:Nat):co (zoo f v g).ts w=(if w=v then 0 else co f.ts w)+co g.ts w*co f.ts v:=by
 show co (zgQ (ziu f.ts v) (scT g.ts (co f.ts v))) w=_;rw[zf1 (zgT hf) (zdf hg),ztc hf,zqv hg]
theorem zrj:(zoo f v g).c=f.c+g.c*co f.ts v:=rfl
theorem zuJ(hg:CanT g.ts)(h1:∀t∈f.ts,t.1<v+1)(h2:∀t∈g.ts,t.1<v):∀t∈(zoo f v g).ts,t.1<v:=
 zdM (zyx h1) (ziq hg h2)
end
def Nd(D n:Nat)(x:Rat):Prop:=∃N:Int,x*(D:Rat)=(N:Rat)/\N.natAbs<2^n
theorem Nd.mono{D n m:Nat}{x:Rat}(h:Nd D n x)(hn:n<=m):Nd D m x:=
 let ⟨N,h1,h2⟩:=h;⟨N,h1,zFq h2 (zFu (by decide) hn)⟩
theorem Nd.zero{D n:Nat}:Nd D n 0:=⟨0,by rw[Rat.zero_mul];rfl,Nat.two_pow_pos n⟩
theorem Nd.mul{D E n m:Nat}{x y:Rat}(h:Nd D n x)(h':Nd E m y):Nd (D*E) (n+m) (x*y):=by
 obtain⟨N,h1,h2⟩:=h;obtain⟨M,h3,h4⟩:=h';refine⟨N*M,?_,?_⟩
 .rw[Rat.natCast_mul,Rat.intCast_mul,<-h1,<-h3];grind
 .rw[Int.natAbs_mul,zFB];exact Nat.mul_lt_mul'' h2 h4
theorem Nd.up{D n:Nat}{x:Rat}(h:Nd D n x){E e:Nat}(he:E<2^e):Nd (D*E) (n+e) x:=by
 obtain⟨N,h1,h2⟩:=h;refine⟨N*E,?_,?_⟩
 .rw[Rat.natCast_mul,Rat.intCast_mul,<-h1];show x*((D:Rat)*(E:Rat))=x*(D:Rat)*((E:Int):Rat);rw[Rat.intCast_natCast];grind
 .rw[Int.natAbs_mul,zFB,Int.natAbs_natCast];exact Nat.mul_lt_mul'' h2 he
theorem Nd.comm{D E n:Nat}{x:Rat}(h:Nd (D*E) n x):Nd (E*D) n x:=by rw[zFM];exact h
theorem Nd.add{D n:Nat}{x y:Rat}(h:Nd D n x)(h':Nd D n y):Nd D (n+1) (x+y):=by
 obtain⟨N,h1,h2⟩:=h;obtain⟨M,h3,h4⟩:=h';refine⟨N+M,?_,?_⟩
 .rw[Rat.intCast_add,<-h1,<-h3];grind
 .rw[zFA];have:=Int.natAbs_add_le N M;omega
theorem Nd.hb{D n d:Nat}{x:Rat}(h:Nd D n x)(h0:0<D)(hd:D<2^d):Hb x (max n d):=by
 obtain⟨N,h1,h2⟩:=h;have hx:x=Rc.rq (decide (N<0)) N.natAbs D:=by
  have e:=zox (decide (N<0)) false N.natAbs D (by omega);rw[Bool.bne_false] at e;rw[e];have e1:sgn (decide (N<0)) N.natAbs=N:=by unfold sgn;split <;> simp_all <;> omega
  have e2:sgn false D=(D:Int):=rfl;rw[e1,e2,<-h1];show x=x*(D:Rat)/((D:Int):Rat);rw[Rat.intCast_natCast,Rat.div_def,Rat.mul_assoc,Rat.mul_inv_cancel _ (by
   intro e3;have:((D:Int):Rat)=((0:Int):Rat):=by rw[Rat.intCast_natCast];exact e3
   have:=Rat.intCast_inj.1 this;omega),Rat.mul_one]
 rw[hx];refine Hb.rq (zFq h2 (zFu (by decide) (Nat.le_max_left _ _))) ?_;rw[zc2 (by omega)];exact zFr (Nat.le_of_lt hd) (zFu (by decide) (Nat.le_max_right _ _))
theorem zl0(x:Rat):x*((x.den:Nat):Rat)=((x.num:Int):Rat):=by
 have h:(x.num:Rat)/((x.den:Nat):Rat)=x:=by
  have:=Rat.num_divInt_den x;rw[Rat.divInt_eq_div] at this;exact this
 have h2:((x.den:Nat):Rat)≠0:=fun e=>by
  have e:((x.den:Int):Rat)=((0:Int):Rat):=e;have:=Rat.intCast_inj.1 e;have:=x.den_pos;omega
 have h3:x*((x.den:Nat):Rat)=(x.num:Rat)/((x.den:Nat):Rat)*((x.den:Nat):Rat):=by rw[h]
 rw[h3,Rat.div_def,Rat.mul_assoc,Rat.inv_mul_cancel _ h2,Rat.mul_one]
theorem Hb.nd{x:Rat}{k:Nat}(h:Hb x k):Nd x.den k x:=⟨x.num,zl0 x,h.num⟩
structure Cd(d n m:Nat)(f:Af):Prop where
 can:CanT f.ts
 var:∀t∈f.ts,t.1<m
 cd:∃D:Nat,0<D/\D<2^d/\(∀w,Nd D n (co f.ts w))/\Nd D n f.c
theorem Cd.mono{d n m d' n' m':Nat}{f:Af}(h:Cd d n m f)(h1:d<=d')(h2:n<=n')(h3:m<=m'):Cd d' n' m' f:=by
 obtain⟨D,a1,a2,a3,a4⟩:=h.cd;exact⟨h.can,fun t ht=>zFq (h.var t ht) h3,D,a1,zFq a2 (zFu (by decide) h1),fun w=>(a3 w).mono h2,a4.mono h2⟩
theorem Cd.fok{d n m:Nat}{f:Af}(h:Cd d n m f):FOk (max n d) m f:=by
 obtain⟨D,a1,a2,a3,a4⟩:=h.cd;refine⟨h.can,fun t ht=>?_,a4.hb a1 a2,h.var⟩;rw[<-zfH h.can ht];exact(a3 t.1).hb a1 a2
theorem zCo{x:Rat}(h:Hb x 3):Nd 840 13 x:=by
 have h1:=h.den;have h2:=h.num;have h0:=x.den_pos;have h3:x.den ∣ 840:=by
  have:∀k:Fin 9,0<k.val->k.val ∣ 840:=by decide
  exact this ⟨x.den,by omega⟩ h0
 obtain⟨k,hk⟩:=h3;refine⟨x.num*k,?_,?_⟩
 .have e:((840:Nat):Rat)=(x.den:Rat)*(k:Rat):=by rw[<-Rat.natCast_mul,<-hk]
  rw[e,Rat.intCast_mul,<-Rat.mul_assoc,zl0];congr 1
 .rw[Int.natAbs_mul,Int.natAbs_natCast];have hk2:k<=840:=Nat.le_of_dvd (by decide) ⟨x.den,by rw[hk,zFM]⟩;have:=Nat.mul_le_mul (show x.num.natAbs<=7 by omega) hk2;omega
theorem FOk.cd{m:Nat}{f:Af}(h:FOk 3 m f):Cd 10 13 m f:=
 ⟨h.can,h.var,840,by decide,by decide,fun w=>by
  by_cases e:co f.ts w=0
  .rw[e];exact Nd.zero
  .obtain⟨u,hu,e2⟩:=zkg e;rw[<-e2,zfH h.can hu];exact zCo (h.bd u hu),zCo h.cb⟩
theorem fZ_cd{m:Nat}:Cd 10 13 m fZ:=⟨trivial,fun t ht=>by simp[fZ] at ht,840,by decide,by decide,fun w=>Nd.zero,Nd.zero⟩
theorem Cd.line{d n m e a:Nat}{p:Af}(h:Cd d n m p){s o:Rat}{E:Nat}(hE:0<E)(he:E<2^e)(hs:Nd E a s)(ho:Nd E a o):Cd (d+e) (max n d+a+1) m (zf0 (fSc p s) (fN o)):=by
 obtain⟨D,a1,a2,a3,a4⟩:=h.cd;refine⟨zch (zdf h.can),zdM (ziq h.can h.var) (fun t ht=>by simp[fN] at ht),D*E,Nat.mul_pos a1 hE,?_,fun w=>?_,?_⟩
 .rw[zFB];exact Nat.mul_lt_mul'' a2 he
 .show Nd _ _ (co (zgQ (scT p.ts s) []) w);rw[zf1 (zdf h.can) (show CanT [] from trivial),zqv h.can];show Nd _ _ (co p.ts w*s+0);rw[Rat.add_zero];exact((a3 w).mul hs).mono (by omega)
 .show Nd _ _ (p.c*s+o);refine Nd.add ((a4.mul hs).mono (by omega)) ?_;exact(ho.up a2).comm.mono (by omega)
theorem Cd.sub{d n d' n' v:Nat}{f g:Af}(hf:Cd d n (v+1) f)(hg:Cd d' n' v g):Cd (d+d') (n+max d' n'+1) v (zoo f v g):=by
 obtain⟨D,a1,a2,a3,a4⟩:=hf.cd;obtain⟨E,b1,b2,b3,b4⟩:=hg.cd;refine⟨zon hf.can,zuJ hg.can hf.var hg.var,D*E,Nat.mul_pos a1 b1,?_,fun w=>?_,?_⟩
 .rw[zFB];exact Nat.mul_lt_mul'' a2 b2
 .rw[znF hf.can hg.can];refine Nd.add ?_ ?_
  .split
   .exact Nd.zero
   .exact((a3 w).up b2).mono (by omega)
  .exact((b3 w).mul (a3 v)).comm.mono (by omega)
 .rw[zrj];exact Nd.add ((a4.up b2).mono (by omega)) ((b4.mul (a3 v)).comm.mono (by omega))
def zcn(l u:Rat):Rat:=u/(u-l)
def zco(l u:Rat):Rat:=-(l*u)/(u-l)
theorem zyZ{l u:Rat}(hl:l<0)(hu:0<u){a b:Nat}(h1:Hb l a)(h2:Hb u b):∃E:Nat,0<E/\E<2^(a+b+1)/\Nd E (a+b) (zcn l u)/\Nd E (a+b) (zco l u):=by
 have hn1:=h1.num;have hd1:=h1.den;have hn2:=h2.num;have hd2:=h2.den;have p1:=l.den_pos;have p2:=u.den_pos;have hln:l.num<0:=Int.not_le.1 (fun e=>Rat.not_le.2 hl (Rat.num_nonneg.1 e));have hun:0<u.num:=by
  have h0:=Rat.num_nonneg.2 (Rat.le_of_lt hu);have h1:u.num≠0:=fun e=>by
   have e2:=zl0 u;rw[e] at e2;have h2:0<u*((u.den:Nat):Rat):=Rat.mul_pos hu (by
    have h3:((0:Int):Rat)<((u.den:Int):Rat):=Rat.intCast_lt_intCast.2 (by omega);exact h3)
   rw[e2] at h2;exact absurd h2 (by decide)
  omega
 have e1:=zl0 l;have e2:=zl0 u;obtain⟨E,hE⟩:∃E:Nat,(E:Int)=u.num*l.den-l.num*u.den:=⟨(u.num*l.den-l.num*u.den).toNat,by
  have q1:0<u.num*l.den:=Int.mul_pos hun (by omega);have q2:0<(-l.num)*u.den:=Int.mul_pos (by omega) (by omega);have q3:(-l.num)*u.den = -(l.num*u.den):=Int.neg_mul _ _;omega⟩
 have q1:0<u.num*l.den:=Int.mul_pos hun (by omega);have q2:0<(-l.num)*u.den:=Int.mul_pos (by omega) (by omega);have q3:(-l.num)*u.den = -(l.num*u.den):=Int.neg_mul _ _;have hEq:(E:Rat)=(u-l)*((l.den:Rat)*(u.den:Rat)):=by
  have h:((E:Int):Rat)=((u.num*l.den-l.num*u.den:Int):Rat):=by rw[hE]
  rw[Rat.intCast_natCast,Rat.intCast_sub,Rat.intCast_mul,Rat.intCast_mul,<-e1,<-e2,Rat.intCast_natCast,Rat.intCast_natCast] at h;rw[h];grind
 have hne:u-l≠0:=by grind
 have hE0:0<E:=by omega
 have bU:(u.num*l.den).natAbs<2^(a+b):=by
  rw[Int.natAbs_mul,Int.natAbs_natCast,zFB,zFM (2^a)];exact Nat.mul_lt_mul_of_lt_of_le hn2 hd1 (Nat.two_pow_pos a)
 have bL:(l.num*u.den).natAbs<2^(a+b):=by
  rw[Int.natAbs_mul,Int.natAbs_natCast,zFB];exact Nat.mul_lt_mul_of_lt_of_le hn1 hd2 (Nat.two_pow_pos b)
 have bLU:(l.num*u.num).natAbs<2^(a+b):=by
  rw[Int.natAbs_mul,zFB];exact Nat.mul_lt_mul'' hn1 hn2
 refine⟨E,hE0,?_,⟨u.num*l.den,?_,bU⟩,⟨-(l.num*u.num),?_,by rw[Int.natAbs_neg];exact bLU⟩⟩
 .rw[zFA];omega
 .unfold zcn;rw[hEq,Rat.div_def,Rat.intCast_mul,<-e2,Rat.intCast_natCast];have:=Rat.mul_inv_cancel _ hne;grind
 .unfold zco;rw[hEq,Rat.div_def,Rat.intCast_neg,Rat.intCast_mul,<-e1,<-e2];have:=Rat.mul_inv_cancel _ hne;grind
def slp(l u:Rat):Bool:=decide (l<0)&&(decide (0<u)&&decide (-l<u))
def zff(s:Sc)(j:Nat)(p:Af)(c:Rat):Option (Af×Rw×Rat):=
 if zcd s j=true then some (p,if 0<c then⟨6,(j:Int),0,0⟩ else zdk s j,zc6 c)
 else if zaW s j=true then some (fZ,if 0<c then⟨5,(j:Int),0,0⟩ else zcx s j,zc6 c)
 else if 0<c then
  if bLo s j≠0/\bHi s j≠0/\slp (lv s.lems (bLo s j)) (lv s.lems (bHi s j))=true then some (p,⟨6,(j:Int),0,0⟩,zc6 c) else some (fZ,⟨5,(j:Int),0,0⟩,zc6 c)
 else if bLo s j=0\/bHi s j=0 then none
 else some (zf0 (fSc p (zcn (lv s.lems (bLo s j)) (lv s.lems (bHi s j)))) (fN (zco (lv s.lems (bLo s j)) (lv s.lems (bHi s j)))),⟨13,(j:Int),(bLo s j:Int),(bHi s j:Int)⟩,zc6 c/(lv s.lems (bHi s j)-lv s.lems (bLo s j)))
def bkS(s:Sc)(a:Option (Af×List Mu))(j:Nat):Option (Af×List Mu):=
 match a with
 |none=>none
 |some (f,l)=>match s.q.g.us[j]? with
  |none=>some (f,l)
  |some p=>if co f.ts (s.q.g.inp+j)=0 then some (f,l) else match zff s j p (co f.ts (s.q.g.inp+j)) with
   |none=>none
   |some (b,r,c)=>some (zoo f (s.q.g.inp+j) b,zb2 l r c)
def bkN(s:Sc)(f:Af)(n:Nat):Option (Af×List Mu):=(List.range n).foldl (fun a i=>bkS s a (s.q.g.us.length-1-i)) (some (f,[]))
def bkO(s:Sc)(f:Af):Option (Af×List Mu):=bkN s f s.q.g.us.length
theorem zft{s:Sc}{f:Af}{n:Nat}:bkN s f (n+1)=bkS s (bkN s f n) (s.q.g.us.length-1-n):=by
 unfold bkN;rw[List.range_succ,zFJ];rfl
theorem zfs{s:Sc}{f:Af}{l:List Mu}{j:Nat}{p:Af}(hp:s.q.g.us[j]?=some p)(h:co f.ts (s.q.g.inp+j)=0):bkS s (some (f,l)) j=some (f,l):=by
 unfold bkS;simp only[hp,if_pos h]
theorem zcb{s:Sc}{f:Af}{l:List Mu}{j:Nat}{p:Af}{b:Af}{r:Rw}{c:Rat}(hp:s.q.g.us[j]?=some p)(h:co f.ts (s.q.g.inp+j)≠0)(hr:zff s j p (co f.ts (s.q.g.inp+j))=some (b,r,c)) :
  bkS s (some (f,l)) j=some (zoo f (s.q.g.inp+j) b,zb2 l r c):=by
 unfold bkS;simp only[hp,if_neg h,hr]
theorem zgy{s:Sc}{f:Af}{l:List Mu}{j:Nat}{p:Af}(hp:s.q.g.us[j]?=some p)(h:co f.ts (s.q.g.inp+j)≠0)(hr:zff s j p (co f.ts (s.q.g.inp+j))=none):bkS s (some (f,l)) j=none:=by
 unfold bkS;simp only[hp,if_neg h,hr]
theorem zpt{s:Sc}{f:Af}{n:Nat}(h:bkN s f n=none):∀k,bkN s f (n+k)=none
 |0=>h
 |k+1=>by rw[<-Nat.add_assoc,zft,zpt h k];rfl
theorem zv9{s:Sc}{f:Af}{n:Nat}(hn:n<=s.q.g.us.length)(h:bkN s f n=none):bkO s f=none:=by
 have:=zpt h (s.q.g.us.length-n)
 rwa [show n+(s.q.g.us.length-n)=s.q.g.us.length by omega] at this
def symO(s:Sc)(f:Af):Option (Rat×List Mu):=
 match bkO s f with
 |none=>none
 |some (g,l)=>match zlg s g with
  |none=>none
  |some (x,m)=>some (x,zaS l m ((1:Int):Rat))
def zb1:Dom:=fun s f=>match symO s f with|some (x,l)=>(x,l,true)|none=>(0,[],false)
theorem zdt{s:Sc}{f:Af}(h:bkO s f=none):zb1 s f=(0,[],false):=by unfold zb1 symO;rw[h]
theorem zc0{s:Sc}{f g:Af}{l m:List Mu}{x:Rat}(h:bkO s f=some (g,l))(h2:zlg s g=some (x,m)):zb1 s f=(x,zaS l m ((1:Int):Rat),true):=by
 unfold zb1 symO;simp only[h,h2]
theorem zwm{c:Rat}(h:c≠0):0<zc6 c:=by unfold zc6 mx;split <;> grind
theorem zhw{c:Rat}(h:0<c):zc6 c=c:=by unfold zc6 mx;split <;> grind
theorem zkk{c:Rat}(h:¬0<c):zc6 c = -c:=by unfold zc6 mx;split <;> grind
structure RpOk(s:Sc)(B C j:Nat)(c:Rat)(b:Af)(r:Rw)(k:Rat):Prop where
 row:(zaL s r).2=true
 pos:0<k
 can:CanT b.ts
 var:∀t∈b.ts,t.1<s.q.g.inp+j
 co:∀w,co (zaL s r).1.ts w*k=c*((if s.q.g.inp+j=w then 1 else 0)-co b.ts w)
 wc:(zaL s r).1.c*k = -(c*b.c)
 br:Br k (C+5*B+10)
theorem zw2{B C:Nat}{s:Sc}(hs:SB B s){j:Nat}{p:Af}(hp:s.q.g.us[j]?=some p){c:Rat}(hc:c≠0)[hbc:Br c C]{b:Af}{r:Rw}{k:Rat}(h:zff s j p c=some (b,r,k)):RpOk s B C j c b r k:=by
 have hj:=(zFj.1 hp).1;have hpo:=hs.q.g.us j p hp;have hpc:=hpo.can;have hpv:=hpo.var;have ha:=zwm hc;haveI hab:Br (zc6 c) (C+1):=znX hbc;have hzv:∀t∈fZ.ts,t.1<s.q.g.inp+j:=fun t ht=>by simp[fZ] at ht
 have habr:Br (zc6 c) (C+5*B+10):=hab.mono (by omega);have f5:=zgs hp;have f6:=zka hp;unfold zff at h;split at h
 .rename_i hon;simp only[zFk,zFm] at h;obtain⟨rfl,rfl,rfl⟩:=h;by_cases hpos:0<c
  .rw[if_pos hpos];refine⟨by rw[f6],ha,hpc,hpv,fun w=>?_,?_,habr⟩
   .rw[f6,zhw hpos,zc4 (zfA _) hpc,zm2];grind
   .rw[f6,zhw hpos];simp only[zcu,fV,m1];grind
  .rw[if_neg hpos];have f8:zaL s (zdk s j)=(zcu p (fV (s.q.g.inp+j)),true):=by
    by_cases hd:zus s j=true
    .rw[zkI hd];exact zo4 hp hd
    .rw[zg0 (by simpa using hd)];rcases zca.1 hon with h1|h1
     .exact absurd h1 hd
     .obtain⟨y,hy,yu,yp,hly,hy0,hyl⟩:=zbe h1.1;exact zkR hp hy0 hy yu yp (by rw[<-hly];exact h1.2)
   refine⟨by rw[f8],ha,hpc,hpv,fun w=>?_,?_,habr⟩
   .rw[f8,zkk hpos,zc4 hpc (zfA _),zm2];grind
   .rw[f8,zkk hpos];simp only[zcu,fV,m1];grind
 .rename_i hon;split at h
  .rename_i hoff;simp only[zFk,zFm] at h;obtain⟨rfl,rfl,rfl⟩:=h;by_cases hpos:0<c
   .rw[if_pos hpos];refine⟨by rw[f5],ha,trivial,hzv,fun w=>?_,?_,habr⟩
    .rw[f5,zhw hpos,zm2];show _=c*(_-0);grind
    .rw[f5,zhw hpos];simp only[fV,fZ];grind
   .rw[if_neg hpos];have f10:zaL s (zcx s j)=(fSc (fV (s.q.g.inp+j)) ((-1:Int):Rat),true):=by
     by_cases hd:zut s j=true
     .rw[zhW hd];exact zml hp hd
     .rw[zfh (by simpa using hd)];rcases zbp.1 hoff with h1|h1
      .exact absurd h1 hd
      .obtain⟨z,hz,zu,zp,hlz,hz0,hzl⟩:=zbj h1.1;exact zh2 hp hz0 hz zu zp (by rw[<-hlz];exact h1.2)
    refine⟨by rw[f10],ha,trivial,hzv,fun w=>?_,?_,habr⟩
    .rw[f10,zkk hpos,zfJ (zfA _),zm2,m1];show _=c*(_-0);grind
    .rw[f10,zkk hpos];simp only[fSc,fV,fZ,m1];grind
  .rename_i hoff;split at h
   .rename_i hpos;split at h
    .simp only[zFk,zFm] at h;obtain⟨rfl,rfl,rfl⟩:=h;refine⟨by rw[f6],ha,hpc,hpv,fun w=>?_,?_,habr⟩
     .rw[f6,zhw hpos,zc4 (zfA _) hpc,zm2];grind
     .rw[f6,zhw hpos];simp only[zcu,fV,m1];grind
    .simp only[zFk,zFm] at h;obtain⟨rfl,rfl,rfl⟩:=h;refine⟨by rw[f5],ha,trivial,hzv,fun w=>?_,?_,habr⟩
     .rw[f5,zhw hpos,zm2];show _=c*(_-0);grind
     .rw[f5,zhw hpos];simp only[fV,fZ];grind
   .rename_i hneg;split at h
    .cases h
    .rename_i hlh;have hl:bLo s j≠0:=fun e=>hlh (.inl e);have hh:bHi s j≠0:=fun e=>hlh (.inr e);obtain⟨y,hy,yu,yp,hly,hy0,hyl⟩:=zbe hl;obtain⟨z,hz,zu,zp,hlz,hz0,hzl⟩:=zbj hh;haveI:=hs.B y (zFi hy);haveI:=hs.B z (zFi hz);have hl0:y.v.q<0:=by
      have:¬0<=y.v.q:=fun e=>hon (zca.2 (.inr ⟨hl,by rw[hly];exact e⟩));grind
     have hu0:0<z.v.q:=by
      have:¬z.v.q<=0:=fun e=>hoff (zbp.2 (.inr ⟨hh,by rw[hlz];exact e⟩));grind
     have f13:=zh1 hp hy0 hy yu yp hz0 hz zu zp hl0 hu0;simp only[zFk,zFm] at h;obtain⟨rfl,rfl,rfl⟩:=h;rw[hly,hlz];have h2:0<z.v.q-y.v.q:=by grind
     have h4:(z.v.q-y.v.q)*(z.v.q-y.v.q)⁻¹=1:=Rat.mul_inv_cancel _ (by grind);refine⟨by rw[f13],?_,zch (zdf hpc),zdM (ziq hpc hpv) (fun t ht=>by simp[fN] at ht),fun w=>?_,?_,?_⟩
     .rw[Rat.div_def];exact Rat.mul_pos ha (Rat.inv_pos.2 h2)
     .rw[f13,zkk hneg,zc4 (zdf (zg8 hpc)) (zdf (zfA _)),zfJ (zg8 hpc),zc4 hpc (zhI _),zfJ (zfA _),zm2,zqR,zte (zdf hpc) (zhI _),zfJ hpc,zqR];unfold zcn;rw[Rat.div_def,Rat.div_def];generalize (z.v.q-y.v.q)⁻¹=t at *;split <;> grind
     .rw[f13,zkk hneg];simp only[zcu,fSc,fV,fN,zf0,m1];unfold zcn zco;rw[Rat.div_def,Rat.div_def,Rat.div_def];generalize (z.v.q-y.v.q)⁻¹=t at *;grind
     .have hbr:Br (zc6 c/(z.v.q-y.v.q)) (C+1+(B+B+1+1)+1):=by
       haveI h7:Br z.v.q B:=inferInstance;haveI h8:Br y.v.q B:=inferInstance;haveI h9:Br (z.v.q-y.v.q) (B+B+1):=Br.sub;haveI h10:Br (zc6 c) (C+1):=hab;exact Br.div
      exact hbr.mono (by omega)
section
variable {s:Sc}
theorem zrN{K j:Nat}(hq:QOk s.q)(hK:∀m∈s.lems,m.unit=(j:Int)->Hb m.v.q K){p:Af}(hp:s.q.g.us[j]?=some p){c:Rat}{b:Af}{r:Rw}{k:Rat}(h:zff s j p c=some (b,r,k)):Cd (2*K+11) (2*K+14) (s.q.g.inp+j) b:=by
 have hpo:=hq.g.us j p hp;have h1:Cd (2*K+11) (2*K+14) (s.q.g.inp+j) p:=hpo.cd.mono (by omega) (by omega) (zFl _);have h2:Cd (2*K+11) (2*K+14) (s.q.g.inp+j) fZ:=fZ_cd.mono (by omega) (by omega) (zFl _);unfold zff at h;split at h
 .simp only[zFk,zFm] at h;rw[<-h.1];exact h1
 .rename_i hon;split at h
  .simp only[zFk,zFm] at h;rw[<-h.1];exact h2
  .rename_i hoff;split at h
   .split at h
    .simp only[zFk,zFm] at h;rw[<-h.1];exact h1
    .simp only[zFk,zFm] at h;rw[<-h.1];exact h2
   .split at h
    .cases h
    .rename_i hlh;have hl:bLo s j≠0:=fun e=>hlh (.inl e);have hh:bHi s j≠0:=fun e=>hlh (.inr e);obtain⟨y,hy,yu,yp,hly,hy0,hyl⟩:=zbe hl;obtain⟨z,hz,zu,zp,hlz,hz0,hzl⟩:=zbj hh;have hl0:y.v.q<0:=by
      have:¬0<=y.v.q:=fun e=>hon (zca.2 (.inr ⟨hl,by rw[hly];exact e⟩));grind
     have hu0:0<z.v.q:=by
      have:¬z.v.q<=0:=fun e=>hoff (zbp.2 (.inr ⟨hh,by rw[hlz];exact e⟩));grind
     obtain⟨E,e1,e2,e3,e4⟩:=zyZ hl0 hu0 (hK y (zFi hy) yu) (hK z (zFi hz) zu);simp only[zFk,zFm] at h;rw[<-h.1,hly,hlz];exact(hpo.cd.line e1 e2 e3 e4).mono (by omega) (by omega) (zFl _)
def bS(kf:Nat->Nat):Nat->Nat
 |0=>0
 |i+1=>bS kf i+2*kf i+15
theorem ztO(kf:Nat->Nat){a b:Nat}(h:a<=b):bS kf a<=bS kf b:=by
 induction b with
 |zero=>
      have:a=0:=by omega
      subst this;exact zFl _
 |succ b ih=>
  by_cases e:a=b+1
  .subst e;exact zFl _
  .have:=ih (by omega);simp only[bS];omega
@[reducible] def bX(d B:Nat)(kf:Nat->Nat)(top:Nat):Nat:=d+1+bS kf top+5*B+12
structure BkI(s:Sc)(d B:Nat)(kf:Nat->Nat)(top:Nat)(f:Af)(m:Nat)(g:Af)(l:List Mu):Prop where
 cd:∃b,b+bS kf m<=d+bS kf top/\Cd b b (s.q.g.inp+m) g
 ok:∀x∈l,(zaL s x.r).2=true
 can:CanM l
 bd:MB ((top-m)*bX d B kf top) l
 len:l.length+m<=top
 co:∀w,W (coR s w) l=co f.ts w-Rc.co g.ts w
 wc:W (zhk s) l=f.c-g.c
theorem FOk.cq{m:Nat}{f:Af}(h:FOk 3 m f):Cd 13 13 m f:=h.cd.mono (by omega) (zFl _) (zFl _)
theorem Cd.drop{d n v:Nat}{f:Af}(h:Cd d n (v+1) f)(h0:co f.ts v=0):Cd d n v f:=by
 refine⟨h.can,fun t ht=>?_,h.cd⟩;have h1:=h.var t ht;have h2:=zfH h.can ht;obtain⟨i,hi⟩:=zfW ht;have h3:=(h.can.get hi).1;by_cases e:t.1=v
 .rw[e,h0] at h2;exact absurd h2.symm h3
 .omega
theorem zps{f:Af}{top:Nat}(ht:top<=s.q.g.us.length)(hf:CanT f.ts)(hv:∀t∈f.ts,t.1<s.q.g.inp+top):∀n,n<=s.q.g.us.length-top->bkN s f n=some (f,[])
 |0,_=>rfl
 |n+1,hn=>by
  rw[zft,zps ht hf hv n (by omega)];obtain⟨p,hp⟩:∃p,s.q.g.us[s.q.g.us.length-1-n]?=some p:=⟨_,zFh (by omega)⟩;refine zfs hp ?_;apply Classical.byContradiction;intro hne;obtain⟨t,h1,h2⟩:=zkg hne;have:=hv t h1;omega
theorem zhc{B:Nat}(hs:SB B s){kf:Nat->Nat}(hK:∀m∈s.lems,∀j:Nat,m.unit=(j:Int)->Hb m.v.q (kf j)){f:Af}{d top:Nat}(ht:top<=s.q.g.us.length)(hf:Cd d d (s.q.g.inp+top) f) :
  ∀k,k<=top->∀g l,bkN s f (s.q.g.us.length-top+k)=some (g,l)->BkI s d B kf top f (top-k) g l
 |0,_,g,l,h=>by
  rw[Nat.add_zero,zps ht hf.can hf.var _ (zFl _)] at h;simp only[zFk,zFm] at h;obtain⟨rfl,rfl⟩:=h;exact⟨⟨d,by rw[Nat.sub_zero];omega,Cd.mono hf (by omega) (by omega) (by omega)⟩,fun x hx=>by simp at hx,trivial,fun x hx=>by simp at hx,by simp,fun w=>by show(0:Rat)=_;grind,by show(0:Rat)=_;grind⟩
 |k+1,hk,g,l,h=>by
  rw[<-Nat.add_assoc,zft] at h;have hj:s.q.g.us.length-1-(s.q.g.us.length-top+k)=top-(k+1):=by omega
  rw[hj] at h
  cases ho:bkN s f (s.q.g.us.length-top+k) with
  |none=>rw[ho] at h;cases h
  |some a=>
   obtain⟨g0,l0⟩:=a;rw[ho] at h;have ih:=zhc hs hK ht hf k (by omega) g0 l0 ho;obtain⟨m,hm⟩:∃m,top-k=m+1:=⟨top-k-1,by omega⟩;have hm2:top-(k+1)=m:=by omega
   rw[hm] at ih;rw[hm2] at h ⊢;obtain⟨b,hb1,hb2⟩:=ih.cd;simp only[bS] at hb1;have hb2:Cd b b (s.q.g.inp+m+1) g0:=hb2;obtain⟨p,hp⟩:∃p,s.q.g.us[m]?=some p:=⟨_,zFh (by omega)⟩;have hlen:=ih.len;have hmul:(top-(m+1))*bX d B kf top<=(top-m)*bX d B kf top:=zFs _ (by omega);by_cases h0:co g0.ts (s.q.g.inp+m)=0
   .rw[zfs hp h0] at h;simp only[zFk,zFm] at h;obtain⟨rfl,rfl⟩:=h;exact⟨⟨b,by omega,hb2.drop h0⟩,ih.ok,ih.can,ih.bd.mono hmul,by omega,ih.co,ih.wc⟩
   .cases hr:zff s m p (co g0.ts (s.q.g.inp+m)) with
    |none=>rw[zgy hp h0 hr] at h;cases h
    |some a=>
     obtain⟨b',r,c⟩:=a;rw[zcb hp h0 hr] at h;simp only[zFk,zFm] at h;obtain⟨rfl,rfl⟩:=h;have hcd:=zrN hs.q (fun x hx hu=>hK x hx m hu) hp hr;have hfk:=hb2.fok;haveI hcb:Br (co g0.ts (s.q.g.inp+m)) (b+1):=by
      obtain⟨t,h1,h2⟩:=zkg h0;rw[<-h2,zfH hb2.can h1];exact((hfk.bd t h1).mono (by omega)).br
     have hro:=zw2 (C:=b+1) hs hp h0 hr;refine⟨⟨b+2*kf m+15,by omega,(hb2.sub hcd).mono (by omega) (by omega) (zFl _)⟩,fun x hx=>?_,ziI (Rat.le_of_lt hro.pos) ih.can,?_,?_,fun w=>?_,?_⟩
     .rcases zl4 hx with e|hx
      .rw[e];exact hro.row
      .exact ih.ok x hx
     .haveI:=hro.br;refine(zoD (C:=b+1+5*B+10) ih.bd).mono ?_;have:(top-m)*bX d B kf top=(top-(m+1))*bX d B kf top+bX d B kf top:=by
       rw[show top-m=top-(m+1)+1 by omega,Nat.succ_mul]
      rw[this];unfold bX;omega
     .have:=zl5 l0 r c;omega
     .rw[zpA,ih.co w,znF hb2.can hcd.can];have h1:=hro.co w;show _+c*co (zaL s r).1.ts w=_;by_cases e:w=s.q.g.inp+m
      .subst e;rw[if_pos rfl] at h1 ⊢;clear ih hro hcd hb2 hfk hs hK hf;grind
      .rw[if_neg (fun e2=>e e2.symm)] at h1;rw[if_neg e];clear ih hro hcd hb2 hfk hs hK hf;grind
     .rw[zpA,ih.wc,zrj];have h1:=hro.wc;show _+c*(zaL s r).1.c=_;grind
theorem ztw{B:Nat}(hs:SB B s){g:Af}(hv:∀t∈g.ts,t.1<s.q.g.inp){D n:Nat}(hd:∀t∈g.ts,Nd D n t.2)(hc:Nd D n g.c):∀k,k<=g.ts.length->∃x l,zh7 s g k=some (x,l)/\∃E,0<E/\E<2^(201*k+1)/\Nd (D*E) (n+202*k+1) x
 |0,_=>⟨g.c,[],rfl,1,by decide,by decide,by rw[Nat.mul_one];exact hc.mono (by omega)⟩
 |k+1,hk=>by
  obtain⟨t,ht⟩:∃t,g.ts[k]?=some t:=⟨_,zFh (by omega)⟩;have htm:=zFi ht;have htv:=hv t htm;obtain⟨x,l,h1,E,e1,e2,e3⟩:=ztw hs hv hd hc k (by omega);rw[zc5 ht,h1];unfold zmE zjK;simp only;rw[if_pos htv];have hb:=(zmi hs htv (decide (t.2<0)) s.path.length (zFl _)).hb;have hb:Hb (ziZ s t.1 (decide (t.2<0))).1 200:=hb;refine⟨_,_,rfl,E*(ziZ s t.1 (decide (t.2<0))).1.den,Nat.mul_pos e1 (Rat.den_pos _),?_,?_⟩
  .have:(ziZ s t.1 (decide (t.2<0))).1.den<2^201:=zFI hb.den (zFN (by decide) (by decide));rw[show 201*(k+1)+1=201*k+1+201 by omega,zFB];exact Nat.mul_lt_mul'' e2 this
  .rw[zah,<-Nat.mul_assoc];have hden:(ziZ s t.1 (decide (t.2<0))).1.den<2^201:=zFI hb.den (zFN (by decide) (by decide));have q1:=e3.up hden;have q2:=((hd t htm).mul hb.nd).up e2;have q3:Nd (D*E*(ziZ s t.1 (decide (t.2<0))).1.den) (n+200+(201*k+1)) (t.2*(ziZ s t.1 (decide (t.2<0))).1):=by
    rw[Nat.mul_assoc,zFM E,<-Nat.mul_assoc];exact q2
   exact(Nd.add (q1.mono (show _<=n+202*k+202 by omega)) (q3.mono (by omega))).mono (by omega)
theorem znO{B:Nat}(hs:SB B s){g:Af}{b:Nat}(hg:Cd b b s.q.g.inp g):∃x l,zlg s g=some (x,l)/\Hb x (b+610):=by
 obtain⟨D,a1,a2,a3,a4⟩:=hg.cd;obtain⟨x,l,h1,E,e1,e2,e3⟩:=ztw hs hg.var (fun t ht=>by rw[<-zfH hg.can ht];exact a3 t.1) a4 g.ts.length (zFl _);have h3:g.ts.length<=3:=by
  have:=hs.q.g.i3;have:=hg.fok.len;omega
 refine⟨x,l,h1,?_⟩;have hDE:D*E<2^(b+(201*g.ts.length+1)):=by rw[zFB];exact Nat.mul_lt_mul'' a2 e2
 exact(e3.hb (Nat.mul_pos a1 e1) hDE).mono (by omega)
structure SyOk(s:Sc)(d B:Nat)(kf:Nat->Nat)(top:Nat)(f:Af)(x:Rat)(l:List Mu):Prop where
 der:DerOk s (4*bX d B kf top+6*(3*(8*B+2*(d+1+bS kf top)+40)+4)) 10 l
 sum:zqM s f x l
 hb:Hb x (d+610+bS kf top)
theorem zwT{B:Nat}(hs:SB B s){kf:Nat->Nat}(hK:∀m∈s.lems,∀j:Nat,m.unit=(j:Int)->Hb m.v.q (kf j)){f:Af}{d top:Nat}(ht:top<=s.q.g.us.length)(hf:Cd d d (s.q.g.inp+top) f){g:Af}{l:List Mu}(h:bkO s f=some (g,l)) :
  ∃x m,zlg s g=some (x,m)/\SyOk s d B kf top f x (zaS l m ((1:Int):Rat)):=by
 have hu4:=hs.q.g.u4;have hi3:=hs.q.g.i3;have h0:=zhc hs hK ht hf top (zFl _) g l (by rw[show s.q.g.us.length-top+top=s.q.g.us.length by omega];exact h);rw[Nat.sub_self] at h0;obtain⟨b,hb1,hb2⟩:=h0.cd;simp only[bS,Nat.add_zero] at hb1 hb2;obtain⟨x,m,h1,h2⟩:=znO hs hb2;have hfl:FL (b+1) (s.q.g.inp+s.q.g.us.length) g:=(hb2.fok.mono (c:=b) (by omega) (show s.q.g.inp<=s.q.g.inp+s.q.g.us.length by omega)).fl;have hall:=zpo hs hfl h1;have hgl:g.ts.length<=3:=by have:=hb2.fok.len;omega
 refine⟨x,m,h1,⟨zgm (P:=fun r=>(zaL s r).2=true) h0.ok hall.der.ok,zfi (by decide) h0.can (fun y hy=>(hall.der.can.pos y hy).1),?_,?_⟩,?_,h2.mono (by omega)⟩
 .haveI:Br ((1:Int):Rat) 2:=Br.int2 (by decide) (by decide);refine(zei h0.bd hall.der.bd).mono ?_;have q1:(top-0)*bX d B kf top<=4*bX d B kf top:=zFs _ (by omega);have q3:g.ts.length*(8*B+2*(b+1)+40)<=3*(8*B+2*(d+1+bS kf top)+40):=Nat.mul_le_mul hgl (by omega);have q2:m.length*(g.ts.length*(8*B+2*(b+1)+40)+2+2)<=6*(3*(8*B+2*(d+1+bS kf top)+40)+4):=Nat.mul_le_mul (by have:=hall.der.len;omega) (by omega);omega
 .have q1:=zdo m l ((1:Int):Rat);have q2:=h0.len;have q3:=hall.der.len;omega
 .refine zxH hs hf.can (fun w=>?_) ?_
  .rw[zf4,h0.co w,hall.co w,ztf hfl.can];grind
  .rw[zf4,h0.wc,hall.wc];grind
end
theorem At_heq{Q:Exit->Act->World->Prop}{w0:Frm}{A0:Foot}{N:Nat}{Γ:Gam}{H H':Hp}{ex:Exit}(hH:H=H')(h:At Q w0 A0 N Γ H' ex):At Q w0 A0 N Γ H ex:=hH ▸ h
section
variable {ts:List Tm}{i v:Nat}{x:Tm}
theorem zxM(hx:ts[i]?=some x)(e:x.1=v):co (ts.drop i) v=x.2:=by
 rw[zbc hx];obtain⟨w,d⟩:=x;show(if w=v then d else _)=_;exact if_pos e
theorem ztd(hx:ts[i]?=some x)(e:x.1≠v):co (ts.drop (i+1)) v=co (ts.drop i) v:=by
 rw[zbc hx];obtain⟨w,d⟩:=x;exact(if_neg e).symm
theorem zxN(h:ts.length<=i):co (ts.drop i) v=0:=by rw[List.drop_eq_nil_of_le h];rfl
theorem zxO:∀{l:List Tm},x.1≠v->co (l++[x]) v=co l v
 |[],e=>if_neg e
 |(w,d)::l,e=>by
  show(if w=v then d else co (l++[x]) v)=if w=v then d else co l v;rw[zxO e]
theorem zvW(hc:CanT ts)(hx:ts[i]?=some x)(e:x.1=v):co (ts.take (i+1)) v=x.2:=by
 rw[<-e];exact zfH (zje hc) (by rw[zaF hx];simp)
theorem zvV(hx:ts[i]?=some x)(e:x.1≠v):co (ts.take (i+1)) v=co (ts.take i) v:=by rw[zaF hx,zxO e]
theorem zrG(hx:ts[i]?=some x)(e:x.1=v):ziu (ts.take (i+1)) v=ziu (ts.take i) v:=by
 unfold ziu;rw[zaF hx,List.filter_append,List.filter_cons_of_neg (by simp[e])];simp
theorem zrF(hx:ts[i]?=some x)(e:x.1≠v):ziu (ts.take (i+1)) v=ziu (ts.take i) v++[x]:=by
 unfold ziu;rw[zaF hx,List.filter_append,List.filter_cons_of_pos (by simp[e])];simp
theorem zyy(ts:List Tm)(v:Nat):(ziu ts v).length<=ts.length:=List.length_filter_le _ _
theorem zAN(hc:CanT ts):zd7 ts v (-(co ts v))=ziu ts v:=by
 refine zkh (zh9 hc) (zgT hc) fun w=>?_;rw[znG hc,ztc hc];by_cases e:w=v
 .rw[if_pos e,if_pos e,e];grind
 .rw[if_neg e,if_neg e];grind
end
theorem zw0{B n v:Nat}{f:Af}(h:FL B n f):FL B n ⟨ziu f.ts v,f.c⟩:=
 ⟨zgT h.can,fun t ht=>h.bd t (List.mem_filter.1 ht).1,h.cb,fun t ht=>h.var t (List.mem_filter.1 ht).1⟩
theorem zBH{l u:Rat}(h:l<0/\0<u)(h2:-l<u):slp l u=true:=by unfold slp;rw[decide_eq_true h.1,decide_eq_true h.2,decide_eq_true h2];rfl
theorem zBI{l u:Rat}(h2:¬ -l<u):slp l u=false:=by unfold slp;rw[decide_eq_false h2,Bool.and_false,Bool.and_false]
theorem zq5{l u:Rat}(h:¬(l<0/\0<u)):(decide (l<0)&&decide (0<u))=false:=by
 by_cases h1:l<0
 .rw[decide_eq_false (fun e=>h ⟨h1,e⟩),Bool.and_false]
 .rw[decide_eq_false h1,Bool.false_and]
theorem zjP{l u:Rat}(h:l<0/\0<u):(decide (l<0)&&decide (0<u))=true:=by rw[decide_eq_true h.1,decide_eq_true h.2];rfl
theorem zBG{l u:Rat}(h:¬(l<0/\0<u)):slp l u=false:=by
 unfold slp;rw[<-Bool.and_assoc,zq5 h,Bool.false_and]
def lvz(l:List Lm)(n:Nat):Qr:=if n=0 then qZero else lvr l n
theorem zCz{l:List Lm}{n:Nat}(h:n=0):lvz l n=qZero:=if_pos h
theorem zst{l:List Lm}{n:Nat}{m:Lm}(h0:n≠0)(h:l[n-1]?=some m):lvz l n=m.v:=by unfold lvz;rw[if_neg h0,zcN h]
theorem zhE{l:List Lm}{n:Nat}(h0:n≠0):(lvz l n).q=lv l n:=by unfold lvz;rw[if_neg h0,ziR]
theorem zxf{l:List Lm}{B:Nat}(hB:∀m∈l,Fq m.v B)(n:Nat):Fq (lvz l n) B:=by
 unfold lvz;split
 .exact⟨zeU⟩
 .exact zmb hB n
def zgf(s:Sc)(j:Nat)(p:Af)(c:Rat):(Af×Rw×Rat)×Bool:=match zff s j p c with|some x=>(x,true)|none=>((fZ,⟨0,0,0,0⟩,0),false)
@[reducible] def rpL(x:Af×Rw×Rat):List Leaf:=[tmE.row x.1.ts,Leaf.val (.bool (zaP x.1.c)),zaf (zaa (zav x.1.c)),zaf (zaa (zaz x.1.c)),Leaf.val (.int .i64 x.2.1.kind),Leaf.val (.int .i64 x.2.1.idx),Leaf.val (.int .i64 x.2.1.lo),Leaf.val (.int .i64 x.2.1.hi),Leaf.val (.bool (zaP x.2.2)),zaf (zaa (zav x.2.2)),zaf (zaa (zaz x.2.2))]
theorem zbI{s:Sc}{j:Nat}{p:Af}{c:Rat}{x:Af×Rw×Rat}(h:zff s j p c=some x):zgf s j p c=(x,true):=by unfold zgf;rw[h]
theorem zix{s:Sc}{j:Nat}{p:Af}{c:Rat}(h:zff s j p c=none):zgf s j p c=((fZ,⟨0,0,0,0⟩,0),false):=by unfold zgf;rw[h]
theorem rpZ:V.agg [tmE.row [],Leaf.val (.bool false),nilL,nilL,Leaf.val (.int .i64 0),Leaf.val (.int .i64 0),Leaf.val (.int .i64 0),Leaf.val (.int .i64 0),Leaf.val (.bool false),nilL,nilL]=V.agg (rpL (fZ,⟨0,0,0,0⟩,0)):=by
 show _=V.agg [tmE.row [],Leaf.val (.bool (zaP 0)),zaf (zaa (zav 0)),zaf (zaa (zaz 0)),Leaf.val (.int .i64 0),Leaf.val (.int .i64 0),Leaf.val (.int .i64 0),Leaf.val (.int .i64 0),Leaf.val (.bool (zaP 0)),zaf (zaa (zav 0)),zaf (zaa (zaz 0))];rw[zbq,zbr,zai];rfl
theorem rp0(r:Rw)(k:Rat):R.tup [V.agg [tmE.row [],Leaf.val (.bool false),nilL,nilL,Leaf.val (.int .i64 r.kind),Leaf.val (.int .i64 r.idx),Leaf.val (.int .i64 r.lo),Leaf.val (.int .i64 r.hi),Leaf.val (.bool (zaP k)),zaf (zaa (zav k)),zaf (zaa (zaz k))],V.one (Leaf.val (.bool true))]=R.tup [V.agg (rpL (fZ,r,k)),V.one (Leaf.val (.bool true))]:=by
 show _=R.tup [V.agg [tmE.row [],Leaf.val (.bool (zaP 0)),zaf (zaa (zav 0)),zaf (zaa (zaz 0)),Leaf.val (.int .i64 r.kind),Leaf.val (.int .i64 r.idx),Leaf.val (.int .i64 r.lo),Leaf.val (.int .i64 r.hi),Leaf.val (.bool (zaP k)),zaf (zaa (zav k)),zaf (zaa (zaz k))],_];rw[zbq,zbr,zai];rfl
theorem afZ:afV fZ=V.agg [nilL,Leaf.val (.bool false),nilL,nilL]:=congrArg V.agg fZ_ls
section
variable {s:Sc}{j:Nat}{p:Af}{c:Rat}
theorem ziy(h:zcd s j=true):zff s j p c=some (p,if 0<c then⟨6,(j:Int),0,0⟩ else zdk s j,zc6 c):=if_pos h
theorem zgg(h:zcd s j=false)(h2:zaW s j=true):zff s j p c=some (fZ,if 0<c then⟨5,(j:Int),0,0⟩ else zcx s j,zc6 c):=by
 unfold zff;rw[if_neg (by rw[h];decide),if_pos h2]
theorem zrP(h:zcd s j=false)(h2:zaW s j=false)(hc:0<c)(h3:bLo s j≠0/\bHi s j≠0/\slp (lv s.lems (bLo s j)) (lv s.lems (bHi s j))=true):zff s j p c=some (p,⟨6,(j:Int),0,0⟩,zc6 c):=by
 unfold zff;rw[if_neg (by rw[h];decide),if_neg (by rw[h2];decide),if_pos hc,if_pos h3]
theorem zgW(h:zcd s j=false)(h2:zaW s j=false)(hc:0<c)(h3:¬(bLo s j≠0/\bHi s j≠0/\slp (lv s.lems (bLo s j)) (lv s.lems (bHi s j))=true)):zff s j p c=some (fZ,⟨5,(j:Int),0,0⟩,zc6 c):=by
 unfold zff;rw[if_neg (by rw[h];decide),if_neg (by rw[h2];decide),if_pos hc,if_neg h3]
theorem zoA(h:zcd s j=false)(h2:zaW s j=false)(hc:¬0<c)(h3:bLo s j=0\/bHi s j=0):zff s j p c=none:=by
 unfold zff;rw[if_neg (by rw[h];decide),if_neg (by rw[h2];decide),if_neg hc,if_pos h3]
theorem zoz(h:zcd s j=false)(h2:zaW s j=false)(hc:¬0<c)(h3:bLo s j≠0)(h4:bHi s j≠0):zff s j p c=some (zf0 (fSc p (zcn (lv s.lems (bLo s j)) (lv s.lems (bHi s j)))) (fN (zco (lv s.lems (bLo s j)) (lv s.lems (bHi s j)))),⟨13,(j:Int),(bLo s j:Int),(bHi s j:Int)⟩,zc6 c/(lv s.lems (bHi s j)-lv s.lems (bLo s j))):=by
 unfold zff;rw[if_neg (by rw[h];decide),if_neg (by rw[h2];decide),if_neg hc,if_neg (fun e=>e.elim h3 h4)]
theorem zCc(h:zcd s j=false)(h1:bLo s j≠0):lv s.lems (bLo s j)<0:=Rat.not_le.1 fun e=>by
 have:=zca.2 (.inr ⟨h1,e⟩);rw[h] at this;cases this
theorem zxb(h:zaW s j=false)(h1:bHi s j≠0):0<lv s.lems (bHi s j):=Rat.not_le.1 fun e=>by
 have:=zbp.2 (.inr ⟨h1,e⟩);rw[h] at this;cases this
end
theorem zsv{l u:Rat}{B:Nat}[Br l B][Br u B](hB:B<=1000000):Br (zcn l u) 100000000/\Br (zco l u) 100000000:=by
 constructor
 .unfold zcn;exact(inferInstance:Br (u/(u-l)) _).mono (by omega)
 .unfold zco;exact(inferInstance:Br (-(l*u)/(u-l)) _).mono (by omega)
theorem zBK{g:List Tm}(h:CanT g):scT g ((1:Int):Rat)=g:=zkh (zdf h) h fun w=>by
 rw[zqv h];show co g w*1=_;rw[Rat.mul_one]
def bkP(s:Sc)(f:Af)(l:List Mu)(j:Nat):Af×List Mu×Bool:=match bkS s (some (f,l)) j with|some x=>(x.1,x.2,true)|none=>(fZ,[],false)
theorem zcj{s:Sc}{f:Af}{l:List Mu}{j:Nat}{x:Af×List Mu}(h:bkS s (some (f,l)) j=some x):bkP s f l j=(x.1,x.2,true):=by unfold bkP;rw[h]
theorem zlj{s:Sc}{f:Af}{l:List Mu}{j:Nat}(h:bkS s (some (f,l)) j=none):bkP s f l j=(fZ,[],false):=by unfold bkP;rw[h]
end Rc
namespace Go.Proofs.YtjeiacoegppoiaaGreatDoor
open Go Go.RowKit Rc
theorem zof(x:Qr)(r:Rat)(hr:x.q=r)(hfx:Fit 10000000000 x)(y:Qr)(s:Rat)(hs:y.q=s)(hfy:Fit 10000000000 y):Ctr Tryz.prog 177 [qV x,qV y] (R.one (V.one (Leaf.val (.bool ((decide (r<0)&&decide (0<s))))))):=by
 refine bd_ Tryz.func177 Tryz.ntmps177 rfl (fun w0 A0=>?_);refine zc 10 rfl (tc_ zjF rfl (zd4 x (r) hr (hfx.mono (by omega))) ?_);by_cases h1:r<0
 .refine tq_ rfl (ltT rfl (zkx.2 h1)) (zl 2 rfl (tc_ zjF rfl (zd4 y (s) hs (hfy.mono (by omega))) ?_));by_cases h2:0<s
  .refine tq_ rfl (gtT rfl (zd3.2 h2)) (zl 4 rfl ?_);exact r1_ hq_ rfl (by rw[decide_eq_true h1,decide_eq_true h2] <;> rfl)
  .refine tq_ rfl (gtF rfl (fun e=>h2 (zd3.1 e))) (zl 4 rfl ?_);exact r1_ hq_ rfl (by rw[decide_eq_false h2,Bool.and_false])
 .refine tq_ rfl (ltF rfl (fun e=>h1 (zkx.1 e))) (zl 8 rfl ?_);exact r1_ hq_ rfl (by rw[decide_eq_false h1] <;> rfl)
theorem zw5(x:Qr)(r:Rat)(hr:x.q=r)(hfx:Fit 1000000000000 x)(y:Qr)(s:Rat)(hs:y.q=s)(hfy:Fit 1000000000000 y)(hs0:s≠0):Ctr Tryz.prog 178 [qV x,qV y] (R.one (qV (qOf (r/s)))):=by
 refine bd_ Tryz.func178 Tryz.ntmps178 rfl (fun w0 A0=>?_);refine zc 11 rfl (tc_ zAg rfl (qdiv x (r) hr (hfx.mono (by omega)) y (s) hs (hfy.mono (by omega)) (by assumption)) (zl 14 rfl ?_));exact r1_ hq_ rfl rfl
theorem zrm(x:Qr)(r:Rat)(hr:x.q=r)(hfx:Fit 10000000000 x)(y:Qr)(s:Rat)(hs:y.q=s)(hfy:Fit 10000000000 y):Ctr Tryz.prog 110 [qV x,qV y] (R.one (V.one (Leaf.val (.int .i64 ((if slp r s=true then 1 else 0)))))):=by
 refine bd_ Tryz.func110 Tryz.ntmps110 rfl (fun w0 A0=>?_);haveI ixn:Bn (val x.n) 10000000000:=Bn.val x.hn hfx.n;haveI ixd:Bn (val x.d) 10000000000:=Bn.val x.hd hfx.d;haveI iyn:Bn (val y.n) 10000000000:=Bn.val y.hn hfy.n;haveI iyd:Bn (val y.d) 10000000000:=Bn.val y.hd hfy.d;haveI ir:Br r 10000000000:=hr ▸ Br.q hfx;haveI is:Br s 10000000000:=hs ▸ Br.q hfy;refine zc 9 rfl ?_;by_cases hu:r<0/\0<s
 .refine dr_ 0 [] [] (dz 2 rfl (kc_ zvF rfl (zof x r hr (hfx.mono (by omega)) y s hs (hfy.mono (by omega))) (ziX true rfl (zjP hu) (dz 3 rfl (kc_ zDw rfl (zB4 x (r) hr (hfx.mono (by omega))) (kc_ zxp rfl (zw8 y (s) hs (hfy.mono (by omega)) (qOf (-(r))) (-(r)) (zah _) (Br.use (by omega))) ?_))))));by_cases h3:-r<s
  .refine kq_ rfl (gtT rfl (by rw[zeD];exact h3)) (dz 1 rfl (zae (za 7 rfl ?_)));exact r1_ hq_ rfl (by rw[if_pos (zBH hu h3)])
  .refine kq_ rfl (gtF rfl (by rw[zeD];exact h3)) (dz 1 rfl (zae (za 9 rfl ?_)));exact r1_ hq_ rfl (by rw[zBI h3] <;> rfl)
 .refine dr_ 0 [] [] (dz 2 rfl (kc_ zvF rfl (zof x r hr (hfx.mono (by omega)) y s hs (hfy.mono (by omega))) (ziX false rfl (zq5 hu) (dz 7 rfl (zae (za 9 rfl ?_))))));exact r1_ hq_ rfl (by rw[zBG hu] <;> rfl)
theorem gap_p(x:Qr)(r:Rat)(hr:x.q=r)(hfx:Fit 10000000000 x)(y:Qr)(s:Rat)(hs:y.q=s)(hfy:Fit 10000000000 y)(h1:r<0)(h2:0<s):Ctr Tryz.prog 179 [qV x,qV y] (R.one (qV (qOf (zco r s)))):=by
 refine bd_ Tryz.func179 Tryz.ntmps179 rfl (fun w0 A0=>?_);haveI ixn:Bn (val x.n) 10000000000:=Bn.val x.hn hfx.n;haveI ixd:Bn (val x.d) 10000000000:=Bn.val x.hd hfx.d;haveI iyn:Bn (val y.n) 10000000000:=Bn.val y.hn hfy.n;haveI iyd:Bn (val y.d) 10000000000:=Bn.val y.hd hfy.d;haveI ir:Br r 10000000000:=hr ▸ Br.q hfx;haveI is:Br s 10000000000:=hs ▸ Br.q hfy;have hne:s-r≠0:=by grind
 refine zc 12 rfl (tc_ zvF rfl (zof x r hr (hfx.mono (by omega)) y s hs (hfy.mono (by omega))) (is_ true rfl (zjP ⟨h1,h2⟩) (zl 7 rfl (dr_ 0 [(8,2)] [2] (dz 2 rfl (kc_ zmn rfl (zw6 x (r) hr (hfx.mono (by omega)) y (s) hs (hfy.mono (by omega))) (kc_ zDw rfl (zB4 (qOf ((r)*(s))) ((r)*(s)) (zah _) (Br.use (by omega))) (dz 2 rfl ?_))))))));refine kc_ zvK rfl (zFb y (s) hs (hfy.mono (by omega)) x (r) hr (hfx.mono (by omega))) (kc_ zDS rfl (zw5 (qOf (-((r)*(s)))) (-((r)*(s))) (zah _) (Br.use (by omega)) (qOf ((s)-(r))) ((s)-(r)) (zah _) (Br.use (by omega)) (by assumption)) (dz 1 rfl (zae (za 1 rfl ?_))));exact r1_ hq_ rfl rfl
theorem zyY(x:Qr)(r:Rat)(hr:x.q=r)(hfx:Fit 10000000000 x)(y:Qr)(s:Rat)(hs:y.q=s)(hfy:Fit 10000000000 y)(h1:r<0)(h2:0<s):Ctr Tryz.prog 111 [qV x,qV y] (R.tup [V.one (Leaf.val (.int .i64 ((if slp r s=true then 1 else 0)))),qV (qOf (zcn r s)),qV (qOf (zco r s)),V.one (Leaf.val (.int .i64 0))]):=by
 refine bd_ Tryz.func111 Tryz.ntmps111 rfl (fun w0 A0=>?_);haveI ixn:Bn (val x.n) 10000000000:=Bn.val x.hn hfx.n;haveI ixd:Bn (val x.d) 10000000000:=Bn.val x.hd hfx.d;haveI iyn:Bn (val y.n) 10000000000:=Bn.val y.hn hfy.n;haveI iyd:Bn (val y.d) 10000000000:=Bn.val y.hd hfy.d;haveI ir:Br r 10000000000:=hr ▸ Br.q hfx;haveI is:Br s 10000000000:=hs ▸ Br.q hfy;have hne:s-r≠0:=by grind
 refine zc 15 rfl (tc_ zvF rfl (zof x r hr (hfx.mono (by omega)) y s hs (hfy.mono (by omega))) (is_ true rfl (zjP ⟨h1,h2⟩) (zl 7 rfl (dr_ 0 [(12,2),(13,3)] [2,3] (dz 2 rfl (kc_ zD8 rfl (zrm x r hr (hfx.mono (by omega)) y s hs (hfy.mono (by omega))) (dz 3 rfl (kc_ zvK rfl (zFb y (s) hs (hfy.mono (by omega)) x (r) hr (hfx.mono (by omega))) ?_))))))));refine kc_ zDS rfl (zw5 y (s) hs (hfy.mono (by omega)) (qOf ((s)-(r))) ((s)-(r)) (zah _) (Br.use (by omega)) (by assumption)) (dz 2 rfl (kc_ fn179 rfl (gap_p x r hr (hfx.mono (by omega)) y s hs (hfy.mono (by omega)) h1 h2) (dz 4 rfl (zae (za 1 rfl ?_)))));exact zt1 hq_ rfl rfl (rA zhM rfl rfl rfl rfl) (rA zhM rfl rfl rfl rfl) rfl rfl
theorem zoe(x:Qr)(r:Rat)(hr:x.q=r)(hfx:Fit 10000000000 x)(y:Qr)(s:Rat)(hs:y.q=s)(hfy:Fit 10000000000 y):Ctr Tryz.prog 191 [qV x,qV y] (R.one (V.one (Leaf.val (.bool ((decide (r<0)&&decide (0<s))))))):=by
 refine bd_ Tryz.func191 Tryz.ntmps191 rfl (fun w0 A0=>?_);refine zc 10 rfl (tc_ zgt rfl (zbx x (r) hr (hfx.mono (by omega))) ?_);by_cases h1:r<0
 .refine tq_ rfl (ltT rfl (zkx.2 h1)) (zl 2 rfl (tc_ zgt rfl (zbx y (s) hs (hfy.mono (by omega))) ?_));by_cases h2:0<s
  .refine tq_ rfl (gtT rfl (zd3.2 h2)) (zl 4 rfl ?_);exact r1_ hq_ rfl (by rw[decide_eq_true h1,decide_eq_true h2] <;> rfl)
  .refine tq_ rfl (gtF rfl (fun e=>h2 (zd3.1 e))) (zl 4 rfl ?_);exact r1_ hq_ rfl (by rw[decide_eq_false h2,Bool.and_false])
 .refine tq_ rfl (ltF rfl (fun e=>h1 (zkx.1 e))) (zl 8 rfl ?_);exact r1_ hq_ rfl (by rw[decide_eq_false h1] <;> rfl)
theorem zw4(x:Qr)(r:Rat)(hr:x.q=r)(hfx:Fit 1000000000000 x)(y:Qr)(s:Rat)(hs:y.q=s)(hfy:Fit 1000000000000 y)(hs0:s≠0):Ctr Tryz.prog 192 [qV x,qV y] (R.one (qV (qOf (r/s)))):=by
 refine bd_ Tryz.func192 Tryz.ntmps192 rfl (fun w0 A0=>?_);refine zc 11 rfl (tc_ zvJ rfl (zuZ x (r) hr (hfx.mono (by omega)) y (s) hs (hfy.mono (by omega)) (by assumption)) (zl 14 rfl ?_));exact r1_ hq_ rfl rfl
theorem zrl(x:Qr)(r:Rat)(hr:x.q=r)(hfx:Fit 10000000000 x)(y:Qr)(s:Rat)(hs:y.q=s)(hfy:Fit 10000000000 y):Ctr Tryz.prog 127 [qV x,qV y] (R.one (V.one (Leaf.val (.int .i64 ((if slp r s=true then 1 else 0)))))):=by
 refine bd_ Tryz.func127 Tryz.ntmps127 rfl (fun w0 A0=>?_);haveI ixn:Bn (val x.n) 10000000000:=Bn.val x.hn hfx.n;haveI ixd:Bn (val x.d) 10000000000:=Bn.val x.hd hfx.d;haveI iyn:Bn (val y.n) 10000000000:=Bn.val y.hn hfy.n;haveI iyd:Bn (val y.d) 10000000000:=Bn.val y.hd hfy.d;haveI ir:Br r 10000000000:=hr ▸ Br.q hfx;haveI is:Br s 10000000000:=hs ▸ Br.q hfy;refine zc 9 rfl ?_;by_cases hu:r<0/\0<s
 .refine zc 3 rfl (tc_ zvD rfl (zoe x r hr (hfx.mono (by omega)) y s hs (hfy.mono (by omega))) (is_ true rfl (zjP hu) (zl 3 rfl (tc_ zqP rfl (zhC x (r) hr (hfx.mono (by omega)) y (s) hs (hfy.mono (by omega))) (tc_ zgt rfl (zbx (qOf ((r)+(s))) ((r)+(s)) (zah _) (Br.use (by omega))) ?_)))));by_cases h3:-r<s
  .refine tq_ rfl (gtT rfl (zd3.2 (by grind))) (zl 9 rfl ?_);exact r1_ hq_ rfl (by rw[if_pos (zBH hu h3)])
  .refine tq_ rfl (gtF rfl (fun e=>h3 (by have:=zd3.1 e;grind))) (zl 11 rfl ?_);exact r1_ hq_ rfl (by rw[zBI h3] <;> rfl)
 .refine zc 3 rfl (tc_ zvD rfl (zoe x r hr (hfx.mono (by omega)) y s hs (hfy.mono (by omega))) (is_ false rfl (zq5 hu) (zl 17 rfl ?_)));exact r1_ hq_ rfl (by rw[zBG hu] <;> rfl)
theorem gap_r(x:Qr)(r:Rat)(hr:x.q=r)(hfx:Fit 10000000000 x)(y:Qr)(s:Rat)(hs:y.q=s)(hfy:Fit 10000000000 y)(h1:r<0)(h2:0<s):Ctr Tryz.prog 193 [qV x,qV y] (R.one (qV (qOf (zco r s)))):=by
 refine bd_ Tryz.func193 Tryz.ntmps193 rfl (fun w0 A0=>?_);haveI ixn:Bn (val x.n) 10000000000:=Bn.val x.hn hfx.n;haveI ixd:Bn (val x.d) 10000000000:=Bn.val x.hd hfx.d;haveI iyn:Bn (val y.n) 10000000000:=Bn.val y.hn hfy.n;haveI iyd:Bn (val y.d) 10000000000:=Bn.val y.hd hfy.d;haveI ir:Br r 10000000000:=hr ▸ Br.q hfx;haveI is:Br s 10000000000:=hs ▸ Br.q hfy;have hne:s-r≠0:=by grind
 refine zc 12 rfl (tc_ zvD rfl (zoe x r hr (hfx.mono (by omega)) y s hs (hfy.mono (by omega))) (is_ true rfl (zjP ⟨h1,h2⟩) (zl 7 rfl (dr_ 0 [(8,2)] [2] (dz 2 rfl (kc_ zqf rfl (zgU x (r) hr (hfx.mono (by omega)) y (s) hs (hfy.mono (by omega))) (kc_ zBp rfl (zpV (qOf ((r)*(s))) ((r)*(s)) (zah _) (Br.use (by omega))) (dz 2 rfl ?_))))))));refine kc_ zvA rfl (zky y (s) hs (hfy.mono (by omega)) x (r) hr (hfx.mono (by omega))) (kc_ zDO rfl (zw4 (qOf (-((r)*(s)))) (-((r)*(s))) (zah _) (Br.use (by omega)) (qOf ((s)-(r))) ((s)-(r)) (zah _) (Br.use (by omega)) (by assumption)) (dz 1 rfl (zae (za 1 rfl ?_))));exact r1_ hq_ rfl rfl
theorem zyX(x:Qr)(r:Rat)(hr:x.q=r)(hfx:Fit 10000000000 x)(y:Qr)(s:Rat)(hs:y.q=s)(hfy:Fit 10000000000 y)(h1:r<0)(h2:0<s):Ctr Tryz.prog 128 [qV x,qV y] (R.tup [V.one (Leaf.val (.int .i64 ((if slp r s=true then 1 else 0)))),qV (qOf (zcn r s)),qV (qOf (zco r s)),V.one (Leaf.val (.int .i64 0))]):=by
 refine bd_ Tryz.func128 Tryz.ntmps128 rfl (fun w0 A0=>?_);haveI ixn:Bn (val x.n) 10000000000:=Bn.val x.hn hfx.n;haveI ixd:Bn (val x.d) 10000000000:=Bn.val x.hd hfx.d;haveI iyn:Bn (val y.n) 10000000000:=Bn.val y.hn hfy.n;haveI iyd:Bn (val y.d) 10000000000:=Bn.val y.hd hfy.d;haveI ir:Br r 10000000000:=hr ▸ Br.q hfx;haveI is:Br s 10000000000:=hs ▸ Br.q hfy;have hne:s-r≠0:=by grind
 refine zc 15 rfl (tc_ zvD rfl (zoe x r hr (hfx.mono (by omega)) y s hs (hfy.mono (by omega))) (is_ true rfl (zjP ⟨h1,h2⟩) (zl 7 rfl (dr_ 0 [(12,2),(13,3)] [2,3] (dz 2 rfl (kc_ zD3 rfl (zrl x r hr (hfx.mono (by omega)) y s hs (hfy.mono (by omega))) (dz 3 rfl (kc_ zvA rfl (zky y (s) hs (hfy.mono (by omega)) x (r) hr (hfx.mono (by omega))) ?_))))))));refine kc_ zDO rfl (zw4 y (s) hs (hfy.mono (by omega)) (qOf ((s)-(r))) ((s)-(r)) (zah _) (Br.use (by omega)) (by assumption)) (dz 2 rfl (kc_ fn193 rfl (gap_r x r hr (hfx.mono (by omega)) y s hs (hfy.mono (by omega)) h1 h2) (dz 4 rfl (zae (za 1 rfl ?_)))));exact zt1 hq_ rfl rfl (rA zhM rfl rfl rfl rfl) (rA zhM rfl rfl rfl rfl) rfl rfl
theorem zvS(x:Rat){B:Nat}[Br x B](hB:B<=10000000000):Ctr Tryz.prog 105 [V.agg (qL (x))] (R.one (V.agg (qL (x)))):=by
 refine bd_ Tryz.func105 Tryz.ntmps105 rfl (fun w0 A0=>?_);refine zc 7 rfl (dr_ 0 [(9,1)] [1] (dz 4 rfl (kc_ zkT rfl (ziP (zaa (zav x)) (zab _) (Br.use (r:=x) (by omega)).n (zav x) (zac _)) (dz 2 rfl (kc_ zkT rfl (ziP (zaa (zaz x)) (zab _) (Br.use (r:=x) (by omega)).d (zaz x) (zac _)) (dz 2 rfl (zae (za 1 rfl ?_))))))));exact r1_ hq_ rfl rfl
theorem zEB(f:Af){B n:Nat}(hf:FL B n f)(hB:B<=10000000000)(hn:n<=400)(v:Nat)(hv:v<=1000000):Ctr Tryz.prog 51 [afV f,V.one (Leaf.val (.int .i64 ((v:Int))))] (R.one (V.agg (qL (co f.ts v)))):=by
 refine bd_ Tryz.func51 Tryz.ntmps51 rfl (fun w0 A0=>?_);haveI:=hf.fm (by omega);haveI:=hf.cb;have hfl:=(hf.fm (by omega)).len;refine zc 11 rfl (tq_ rfl (jln rfl) (zl 4 rfl (fr_ [0] rfl ?_)));refine zbo (fun m Γ H=>∃(i:Nat),f.ts.length-i=m/\Γ=[(1,some (D.val (.int .i64 (v:Int)))),(4,some (D.ptr 1 0)),(8,some (D.v (V.one (El.row tmE f.ts)))),(9,some (D.val (.int .i64 ((f.ts.length:Nat):Int)))),(10,some (D.val (.int .i64 (i:Int))))]/\H=[none,hb_ 36 [Leaf.val (.bool false),zaf ([]),zaf ([])]]/\i<=f.ts.length/\co (f.ts.drop i) v=co f.ts v) ⟨0,rfl,rfl,rfl,zFn _,rfl⟩ rfl ?_;rintro m Γ H ⟨i,rfl,rfl,rfl,hi0,hco⟩;refine zc 2 rfl ?_;by_cases hi:i<f.ts.length
 .refine tq_ rfl (ltT rfl) (zl 9 rfl ?_);obtain⟨x,hx⟩:∃x,f.ts[i]?=some x:=⟨_,zFh hi⟩;haveI hxb:=hf.bd x (zFi hx);refine zc 1 rfl (tq_ rfl (jix i hx rfl) (tq_ rfl (jlr rfl) (zl 9 rfl ?_)));by_cases hv_:x.1=v
  .refine tq_ rfl (eqT rfl) (zl 7 rfl (tc_ fn105 rfl (zvS x.2 (by omega)) (zl 3 rfl ?_)));exact r1_ hq_ rfl (by rw[<-hco,zxM hx hv_] <;> rfl)
  .refine tq_ rfl (eqF rfl) (zl 7 rfl (tq_ rfl (jad (i+1) rfl) (zl 2 rfl (zal 2 (zaJ 2 rfl ?_)))));exact nx_ ⟨i+1,rfl,rfl,rfl,hi,(by rw[ztd hx hv_];exact hco)⟩ rfl
 .refine tq_ rfl (ltF rfl) (zl 15 rfl ?_);exact r1_ hq_ rfl (by rw[<-hco,zxN (by omega)];show _=R.one (qV (qOf 0));rw[<-zc8] <;> rfl)
theorem zxL(f:Af){B n:Nat}(hf:FL B n f)(hB:B<=10000000000)(hn:n<=400)(v:Nat)(hv:v<=1000000):Ctr Tryz.prog 124 [afV f,V.one (Leaf.val (.int .i64 ((v:Int))))] (R.one (V.agg (qL (co f.ts v)))):=by
 refine bd_ Tryz.func124 Tryz.ntmps124 rfl (fun w0 A0=>?_);haveI:=hf.fm (by omega);haveI:=hf.cb;have hfl:=(hf.fm (by omega)).len;refine zc 13 rfl ?_;refine zbo (fun m Γ H=>∃(i:Nat),f.ts.length-i=m/\Γ=[(1,some (D.val (.int .i64 (v:Int)))),(2,some (D.ptr 0 0)),(4,some (D.ptr 1 0)),(5,some (D.val (.int .i64 (i:Int))))]/\H=[hb_ 38 (afL f),hb_ 36 [Leaf.val (.bool false),zaf ([]),zaf ([])]]/\i<=f.ts.length/\co (f.ts.drop i) v=co f.ts v) ⟨0,rfl,rfl,rfl,zFn _,rfl⟩ rfl ?_;rintro m Γ H ⟨i,rfl,rfl,rfl,hi0,hco⟩;refine zc 6 rfl (tq_ rfl (jln rfl) ?_);by_cases hi:i<f.ts.length
 .refine tq_ rfl (ltT rfl) (zl 8 rfl ?_);obtain⟨x,hx⟩:∃x,f.ts[i]?=some x:=⟨_,zFh hi⟩;haveI hxb:=hf.bd x (zFi hx);refine zc 4 rfl (tq_ rfl (jix i hx rfl) (tq_ rfl (jfr rfl) (tq_ rfl (jli rfl) (zl 1 rfl ?_))));by_cases hv_:x.1=v
  .refine tq_ rfl (eqT rfl) (zl 8 rfl (tq_ rfl (jix i hx rfl) (tq_ rfl (jfr rfl) (tq_ rfl (jlr rfl) (zl 3 rfl ?_)))));exact r1_ hq_ rfl (by rw[<-hco,zxM hx hv_] <;> rfl)
  .refine tq_ rfl (eqF rfl) (zl 8 rfl (tq_ rfl (jad (i+1) rfl) (zl 2 rfl ?_)));exact nx_ ⟨i+1,rfl,rfl,rfl,hi,(by rw[ztd hx hv_];exact hco)⟩ rfl
 .refine tq_ rfl (ltF rfl) (zl 14 rfl ?_);exact r1_ hq_ rfl (by rw[<-hco,zxN (by omega)];show _=R.one (qV (qOf 0));rw[<-zc8] <;> rfl)
end Go.Proofs.YtjeiacoegppoiaaGreatDoor
