/- Parts of the proof, 13: the texts WlL2, SymD, Both, SymE, SymX, WlM2, WlN2, WlS, SymF, BoxI, SymG, FwZ, FwX, Fw3, Raw, SymY, WlO2, as far as they are used. -/
import Derived.Test.YtjeiacoegppoiaaGreatDoorSa12
import Derived.WalkKit
import Derived.ProofKit
import Derived.OpenShut
import Derived.ShutString
import Derived.ChangeOld
import Derived.Below
set_option linter.unusedSimpArgs false
set_option linter.unusedVariables false
set_option maxRecDepth 10000
namespace Go.Proofs.YtjeiacoegppoiaaGreatDoor
open Go Go.RowKit Rc
set_option maxHeartbeats 2000000 in
theorem rpl_p(s:Sc)(hs:SB 135001 s)(j:Nat)(p:Af)(hp:s.q.g.us[j]?=some p)(c:Rat){C:Nat}[Br c C](hC:C<=1000000000):Ctr Tryz.prog 53 [scV s,V.one (Leaf.val (.int .i64 ((j:Int)))),V.agg (qL (c))] (R.tup [V.agg (rpL (zfU s j p c).1),V.one (Leaf.val (.bool (zfU s j p c).2))]):=by
 refine bd_ Tryz.func53 Tryz.ntmps53 rfl (fun w0 A0=>?_);have hB:=hs.B;have hq:=hs.q;have hd:=hs.d;have hpl:=hs.pl;have hl:=hs.ll;have hg:=hq.g;have hr:=hq.r;have hlo:=hr.lo;have hhi:=hr.hi;have h1:=hg.i1;have h2:=hg.i3;have h3:=hg.u4;have h4:=hg.o1;have h5:=hg.o3;have hj:=(zEo.1 hp).1;have hpf:FL 4 (s.q.g.inp+s.q.g.us.length) p:=((hq.g.us j p hp).fl).mono (by omega) (by omega);haveI:=hpf.fm (by omega);haveI:=hpf.cb;haveI:=zws hB (bLo s j);haveI:=zws hB (bHi s j);refine zc 15 rfl (tq_ rfl (jix j hp rfl) (tq_ rfl (jlr rfl) (zl 5 rfl ?_)));refine nz_ [so 1 (D.val (.int .i64 (j:Int))),so 3 (D.ptr 0 0),so 5 (D.ptr 1 0),so 6 (D.ptr 2 0),so 8 (D.ptr 3 0)] [hb_ 43 (scL s),hb_ 36 (qL c),hb_ 118 [El.row tmE ([]),Leaf.val (.bool false),zaf ([]),zaf ([]),Leaf.val (.int .i64 0),Leaf.val (.int .i64 0),Leaf.val (.int .i64 0),Leaf.val (.int .i64 0),Leaf.val (.bool false),zaf ([]),zaf ([])],hb_ 38 (afL p)] rfl rfl ?_;refine zc 3 rfl (tc_ zCD rfl (zmi s (by assumption) (by omega) (by omega) (j:Int)) (zl 8 rfl (nz_ [so 1 _,so 3 _,so 5 _,so 6 _,so 8 _,so 9 (D.val (.int .i64 (((zak s.lems (j:Int)).1:Nat):Int))),so 10 (D.val (.int .i64 (((zak s.lems (j:Int)).2:Nat):Int)))] [_,_,_,_] rfl rfl (zc 5 rfl ?_))));refine mt_ [so 1 (D.val (.int .i64 (j:Int))),so 3 (D.ptr 0 0),so 5 (D.ptr 1 0),so 6 (D.ptr 2 0),so 8 (D.ptr 3 0),so 9 (D.val (.int .i64 (((zak s.lems (j:Int)).1:Nat):Int))),so 10 (D.val (.int .i64 (((zak s.lems (j:Int)).2:Nat):Int))),so 11 (D.ptr 4 0),so 12 (D.ptr 5 0)] [hb_ 43 (scL s),hb_ 36 (qL c),hb_ 118 [El.row tmE ([]),Leaf.val (.bool false),zaf ([]),zaf ([]),Leaf.val (.int .i64 0),Leaf.val (.int .i64 0),Leaf.val (.int .i64 0),Leaf.val (.int .i64 0),Leaf.val (.bool false),zaf ([]),zaf ([])],hb_ 38 (afL p),hb_ 36 [Leaf.val (.bool (lvz s.lems (zak s.lems (j:Int)).1).neg),zaf (lvz s.lems (zak s.lems (j:Int)).1).n,zaf (lvz s.lems (zak s.lems (j:Int)).1).d],hb_ 36 [Leaf.val (.bool false),zaf ([]),zaf ([])]] ?_ ?_
 .refine zc 3 rfl ?_;by_cases h1:(zak s.lems (j:Int)).1≠0
  .refine tq_ rfl (gtT rfl) (zl 3 rfl ?_);obtain⟨y,hy,_,_,hly,hy0,hyl⟩:=zbv h1;haveI:=hB y (zEn hy);refine zc 4 rfl (tq_ rfl (jsb (((zak s.lems (j:Int)).1)-1) rfl) (tq_ rfl (jix ((zak s.lems (j:Int)).1-1) hy rfl) (tq_ rfl (jft rfl) (tq_ rfl (jlr rfl) ?_))));refine eq_ (D.agg [Leaf.val (.bool (lvz s.lems (zak s.lems (j:Int)).1).neg),zaf (lvz s.lems (zak s.lems (j:Int)).1).n,zaf (lvz s.lems (zak s.lems (j:Int)).1).d]) rfl (by rw[zrI h1 hy];rfl) (zl 2 rfl ?_);exact mx_ rfl
  .refine tq_ rfl (gtF rfl) (zl 4 rfl ?_);exact At_heq (by rw[zBG (by omega)];first|done|rfl) (zeB ⟨rfl,rfl,rfl,rfl,rfl,rfl,rfl,rfl,rfl,trivial⟩)
 .refine mt_ [so 1 (D.val (.int .i64 (j:Int))),so 3 (D.ptr 0 0),so 5 (D.ptr 1 0),so 6 (D.ptr 2 0),so 8 (D.ptr 3 0),so 9 (D.val (.int .i64 (((zak s.lems (j:Int)).1:Nat):Int))),so 10 (D.val (.int .i64 (((zak s.lems (j:Int)).2:Nat):Int))),so 11 (D.ptr 4 0),so 12 (D.ptr 5 0)] [hb_ 43 (scL s),hb_ 36 (qL c),hb_ 118 [El.row tmE ([]),Leaf.val (.bool false),zaf ([]),zaf ([]),Leaf.val (.int .i64 0),Leaf.val (.int .i64 0),Leaf.val (.int .i64 0),Leaf.val (.int .i64 0),Leaf.val (.bool false),zaf ([]),zaf ([])],hb_ 38 (afL p),hb_ 36 [Leaf.val (.bool (lvz s.lems (zak s.lems (j:Int)).1).neg),zaf (lvz s.lems (zak s.lems (j:Int)).1).n,zaf (lvz s.lems (zak s.lems (j:Int)).1).d],hb_ 36 [Leaf.val (.bool (lvz s.lems (zak s.lems (j:Int)).2).neg),zaf (lvz s.lems (zak s.lems (j:Int)).2).n,zaf (lvz s.lems (zak s.lems (j:Int)).2).d]] ?_ ?_
  .refine zc 3 rfl ?_;by_cases h1:(zak s.lems (j:Int)).2≠0
   .refine tq_ rfl (gtT rfl) (zl 3 rfl ?_);obtain⟨z,hz,_,_,hlz,hz0,hzl⟩:=zbJ h1;haveI:=hB z (zEn hz);refine zc 4 rfl (tq_ rfl (jsb (((zak s.lems (j:Int)).2)-1) rfl) (tq_ rfl (jix ((zak s.lems (j:Int)).2-1) hz rfl) (tq_ rfl (jft rfl) (tq_ rfl (jlr rfl) ?_))));refine eq_ (D.agg [Leaf.val (.bool (lvz s.lems (zak s.lems (j:Int)).2).neg),zaf (lvz s.lems (zak s.lems (j:Int)).2).n,zaf (lvz s.lems (zak s.lems (j:Int)).2).d]) rfl (by rw[zrI h1 hz];rfl) (zl 2 rfl ?_);exact mx_ rfl
   .refine tq_ rfl (gtF rfl) (zl 4 rfl ?_);exact At_heq (by rw[zBG (n:=(zak s.lems (j:Int)).2) (by omega)];first|done|rfl) (zeB ⟨rfl,rfl,rfl,rfl,rfl,rfl,rfl,rfl,rfl,trivial⟩)
  .refine zc 1 rfl (dr_ 0 [] [] (dz 2 rfl (kc_ zDg rfl (zv6 s (by assumption) 1 (j:Int)) (dz 2 rfl (kc_ zDg rfl (zv6 s (by assumption) 2 (j:Int)) (dz 2 rfl (zad (za 2 rfl ?_))))))));refine nf_ [0] [so 1 _,so 5 _,so 6 _,so 8 _,so 9 _,so 10 _,so 11 (D.ptr 4 0),so 12 (D.ptr 5 0),so 13 (D.bool (zfm s.path 1 (j:Int))),so 14 (D.bool (zfm s.path 2 (j:Int)))] [none,_,_,_,hb_ 36 [Leaf.val (.bool (lvz s.lems (zak s.lems (j:Int)).1).neg),zaf (lvz s.lems (zak s.lems (j:Int)).1).n,zaf (lvz s.lems (zak s.lems (j:Int)).1).d],hb_ 36 [Leaf.val (.bool (lvz s.lems (zak s.lems (j:Int)).2).neg),zaf (lvz s.lems (zak s.lems (j:Int)).2).n,zaf (lvz s.lems (zak s.lems (j:Int)).2).d]] rfl rfl rfl ?_;refine zc 2 rfl (tc_ ziB rfl (zdm (qOf (c)) (c) (zaj _) (Br.use (by omega))) (tq_ rfl (zo7 rfl rfl rfl (b:=(decide (0<c))) (decide_eq_decide.2 zdU)) (zl 4 rfl (dr_ 1 [(7,6),(8,6)] [6] (dz 4 rfl (kc_ zCC rfl (zBc (qOf (c)) (c) (zaj _) (Br.use (by omega))) ?_))))));refine kc_ zDf rfl (qmax (qOf (c)) (c) (zaj _) (Br.use (by omega)) (qOf (-(c))) (-(c)) (zaj _) (Br.use (by omega))) (dz 3 rfl (zad (za 3 rfl ?_)));refine mt_ [so 1 (D.val (.int .i64 (j:Int))),so 6 (D.ptr 2 0),so 8 (D.ptr 3 0),so 9 (D.val (.int .i64 (((zak s.lems (j:Int)).1:Nat):Int))),so 10 (D.val (.int .i64 (((zak s.lems (j:Int)).2:Nat):Int))),so 11 (D.ptr 4 0),so 12 (D.ptr 5 0),so 13 (D.bool (zfm s.path 1 (j:Int))),so 14 (D.bool (zfm s.path 2 (j:Int))),so 15 (D.bool (decide (0<c))),so 16 (D.ptr 6 0),so 98 (D.bool (zdC s j))] [none,none,hb_ 118 [El.row tmE ([]),Leaf.val (.bool false),zaf ([]),zaf ([]),Leaf.val (.int .i64 0),Leaf.val (.int .i64 0),Leaf.val (.int .i64 0),Leaf.val (.int .i64 0),Leaf.val (.bool false),zaf ([]),zaf ([])],hb_ 38 (afL p),hb_ 36 [Leaf.val (.bool (lvz s.lems (zak s.lems (j:Int)).1).neg),zaf (lvz s.lems (zak s.lems (j:Int)).1).n,zaf (lvz s.lems (zak s.lems (j:Int)).1).d],hb_ 36 [Leaf.val (.bool (lvz s.lems (zak s.lems (j:Int)).2).neg),zaf (lvz s.lems (zak s.lems (j:Int)).2).n,zaf (lvz s.lems (zak s.lems (j:Int)).2).d],hb_ 118 [El.row tmE ([]),Leaf.val (.bool false),zaf ([]),zaf ([]),Leaf.val (.int .i64 0),Leaf.val (.int .i64 (j:Int)),Leaf.val (.int .i64 0),Leaf.val (.int .i64 0),Leaf.val (.bool (zaR (mx (c) (-(c))))),zaf (zaa (zav (mx (c) (-(c))))),zaf (zaa (zaC (mx (c) (-(c)))))]] ?_ ?_
   .refine nf_ [1] [so 1 _,so 6 _,so 8 _,so 9 _,so 10 _,so 11 _,so 12 _,so 13 _,so 14 _,so 15 (D.bool (decide (0<c))),so 16 (D.ptr 6 0)] [none,none,_,_,_,_,hb_ 118 [El.row tmE ([]),Leaf.val (.bool false),zaf ([]),zaf ([]),Leaf.val (.int .i64 0),Leaf.val (.int .i64 (j:Int)),Leaf.val (.int .i64 0),Leaf.val (.int .i64 0),Leaf.val (.bool (zaR (mx (c) (-(c))))),zaf (zaa (zav (mx (c) (-(c))))),zaf (zaa (zaC (mx (c) (-(c)))))]] rfl rfl rfl ?_;refine zc 3 rfl ?_;refine zdT rfl (fun hf1=>?_) (fun hf1=>?_)
    .refine zl 1 rfl ?_;by_cases h1:(zak s.lems (j:Int)).1≠0
     .refine tq_ rfl (gtT rfl) (zl 2 rfl (tc_ ziB rfl (zdm (lvz s.lems (zak s.lems (j:Int)).1) ((lvz s.lems (zak s.lems (j:Int)).1).q) rfl (Fq.use (x:=(lvz s.lems (zak s.lems (j:Int)).1)) (by omega))) ?_));by_cases h2:0<=lv s.lems (zak s.lems (j:Int)).1
      .refine tq_ rfl (geT rfl (by rw[zhl h1];exact zjb.2 h2)) (zl 3 rfl (is_ (zdC s j) rfl (by simp[zdC,hf1,h1,h2]) (zl 1 rfl ?_)));exact mx_ rfl
      .refine tq_ rfl (geF rfl (by rw[zhl h1];exact fun e=>h2 (zjb.1 e))) (zl 3 rfl (is_ (zdC s j) rfl (by simp[zdC,hf1,h1,h2]) (zl 1 rfl ?_)));exact mx_ rfl
     .refine tq_ rfl (gtF rfl) (zl 7 rfl (is_ (zdC s j) rfl (by simp[zdC,hf1,h1]) (zl 1 rfl ?_)));exact mx_ rfl
    .refine zl 9 rfl (is_ (zdC s j) rfl (by simp[zdC,hf1]) (zl 1 rfl ?_));exact mx_ rfl
   .refine zao rfl (fun hon=>?_) (fun hon=>?_)
    .refine zc 16 rfl ?_;refine zao rfl (fun hps=>?_) (fun hps=>?_)
     .refine zc 1 rfl ?_;refine nf_ [3,4,5] [so 6 _,so 9 _,so 13 _,so 16 (D.ptr 6 0)] [none,none,_,none,none,none,hb_ 118 [El.row tmE p.ts,Leaf.val (.bool (zaR p.c)),zaf (zaa (zav p.c)),zaf (zaa (zaC p.c)),Leaf.val (.int .i64 6),Leaf.val (.int .i64 (j:Int)),Leaf.val (.int .i64 0),Leaf.val (.int .i64 0),Leaf.val (.bool (zaR (mx (c) (-(c))))),zaf (zaa (zav (mx (c) (-(c))))),zaf (zaa (zaC (mx (c) (-(c)))))]] rfl rfl rfl ?_;refine zc 12 rfl ?_;refine zao rfl (fun hd1=>?_) (fun hd1=>?_)
      .refine zc 9 rfl ?_;refine nz_ [so 6 _,so 16 _] [none,none,_,none,none,none,hb_ 118 [El.row tmE p.ts,Leaf.val (.bool (zaR p.c)),zaf (zaa (zav p.c)),zaf (zaa (zaC p.c)),Leaf.val (.int .i64 8),Leaf.val (.int .i64 (j:Int)),Leaf.val (.int .i64 (((zak s.lems (j:Int)).1:Nat):Int)),Leaf.val (.int .i64 0),Leaf.val (.bool (zaR (mx (c) (-(c))))),zaf (zaa (zav (mx (c) (-(c))))),zaf (zaa (zaC (mx (c) (-(c)))))]] rfl rfl ?_;refine zc 6 rfl ?_;exact r2_ hq_ rfl (by rw[zbB (zib hon),if_neg (by simpa using hps),zgM (by simpa using hd1)] <;> rfl)
      .refine zc 10 rfl ?_;exact r2_ hq_ rfl (by rw[zbB (zib hon),if_neg (by simpa using hps),zkp (by simpa using hd1)] <;> rfl)
     .refine zc 10 rfl ?_;exact r2_ hq_ rfl (by rw[zbB (zib hon),if_pos (by simpa using hps)] <;> rfl)
    .refine mt_ [so 1 (D.val (.int .i64 (j:Int))),so 6 (D.ptr 2 0),so 8 (D.ptr 3 0),so 9 (D.val (.int .i64 (((zak s.lems (j:Int)).1:Nat):Int))),so 10 (D.val (.int .i64 (((zak s.lems (j:Int)).2:Nat):Int))),so 11 (D.ptr 4 0),so 12 (D.ptr 5 0),so 14 (D.bool (zfm s.path 2 (j:Int))),so 15 (D.bool (decide (0<c))),so 16 (D.ptr 6 0),so 122 (D.bool (zbr s j))] [none,none,hb_ 118 [El.row tmE ([]),Leaf.val (.bool false),zaf ([]),zaf ([]),Leaf.val (.int .i64 0),Leaf.val (.int .i64 0),Leaf.val (.int .i64 0),Leaf.val (.int .i64 0),Leaf.val (.bool false),zaf ([]),zaf ([])],hb_ 38 (afL p),hb_ 36 [Leaf.val (.bool (lvz s.lems (zak s.lems (j:Int)).1).neg),zaf (lvz s.lems (zak s.lems (j:Int)).1).n,zaf (lvz s.lems (zak s.lems (j:Int)).1).d],hb_ 36 [Leaf.val (.bool (lvz s.lems (zak s.lems (j:Int)).2).neg),zaf (lvz s.lems (zak s.lems (j:Int)).2).n,zaf (lvz s.lems (zak s.lems (j:Int)).2).d],hb_ 118 [El.row tmE ([]),Leaf.val (.bool false),zaf ([]),zaf ([]),Leaf.val (.int .i64 0),Leaf.val (.int .i64 (j:Int)),Leaf.val (.int .i64 0),Leaf.val (.int .i64 0),Leaf.val (.bool (zaR (mx (c) (-(c))))),zaf (zaa (zav (mx (c) (-(c))))),zaf (zaa (zaC (mx (c) (-(c)))))]] ?_ ?_
     .refine nz_ [so 1 _,so 6 _,so 8 _,so 9 _,so 10 _,so 11 _,so 12 _,so 14 _,so 15 (D.bool (decide (0<c))),so 16 (D.ptr 6 0)] [none,none,_,_,_,_,hb_ 118 [El.row tmE ([]),Leaf.val (.bool false),zaf ([]),zaf ([]),Leaf.val (.int .i64 0),Leaf.val (.int .i64 (j:Int)),Leaf.val (.int .i64 0),Leaf.val (.int .i64 0),Leaf.val (.bool (zaR (mx (c) (-(c))))),zaf (zaa (zav (mx (c) (-(c))))),zaf (zaa (zaC (mx (c) (-(c)))))]] rfl rfl ?_;refine zc 3 rfl ?_;refine zdT rfl (fun hf1=>?_) (fun hf1=>?_)
      .refine zl 1 rfl ?_;by_cases h1:(zak s.lems (j:Int)).2≠0
       .refine tq_ rfl (gtT rfl) (zl 2 rfl (tc_ ziB rfl (zdm (lvz s.lems (zak s.lems (j:Int)).2) ((lvz s.lems (zak s.lems (j:Int)).2).q) rfl (Fq.use (x:=(lvz s.lems (zak s.lems (j:Int)).2)) (by omega))) ?_));by_cases h2:lv s.lems (zak s.lems (j:Int)).2<=0
        .refine tq_ rfl (leT rfl (by rw[zhl h1];exact zh5.2 h2)) (zl 3 rfl (is_ (zbr s j) rfl (by simp[zbr,hf1,h1,h2]) (zl 1 rfl ?_)));exact mx_ rfl
        .refine tq_ rfl (leF rfl (by rw[zhl h1];exact fun e=>h2 (zh5.1 e))) (zl 3 rfl (is_ (zbr s j) rfl (by simp[zbr,hf1,h1,h2]) (zl 1 rfl ?_)));exact mx_ rfl
       .refine tq_ rfl (gtF rfl) (zl 7 rfl (is_ (zbr s j) rfl (by simp[zbr,hf1,h1]) (zl 1 rfl ?_)));exact mx_ rfl
      .refine zl 9 rfl (is_ (zbr s j) rfl (by simp[zbr,hf1]) (zl 1 rfl ?_));exact mx_ rfl
     .refine zao rfl (fun hoff=>?_) (fun hoff=>?_)
      .refine zc 13 rfl ?_;refine zao rfl (fun hps=>?_) (fun hps=>?_)
       .refine zc 8 rfl ?_;refine nf_ [3,4,5] [so 6 _,so 10 _,so 14 _,so 16 (D.ptr 6 0)] [none,none,_,none,none,none,hb_ 118 [El.row tmE ([]),Leaf.val (.bool false),zaf ([]),zaf ([]),Leaf.val (.int .i64 10),Leaf.val (.int .i64 (j:Int)),Leaf.val (.int .i64 0),Leaf.val (.int .i64 0),Leaf.val (.bool (zaR (mx (c) (-(c))))),zaf (zaa (zav (mx (c) (-(c))))),zaf (zaa (zaC (mx (c) (-(c)))))]] rfl rfl rfl ?_;refine zc 5 rfl ?_;refine zao rfl (fun hd1=>?_) (fun hd1=>?_)
        .refine zc 15 rfl ?_;exact r2_ hq_ rfl (by rw[zbB (zfV hon hoff),if_neg (by simpa using hps),ze7 (by simpa using hd1)];exact Eq.trans (by rfl) (rp0 _ _))
        .refine zc 4 rfl (nz_ [so 6 _,so 16 _] [none,none,_,none,none,none,_] rfl rfl (zc 6 rfl ?_));exact r2_ hq_ rfl (by rw[zbB (zfV hon hoff),if_neg (by simpa using hps),zhB (by simpa using hd1)];exact Eq.trans (by rfl) (rp0 _ _))
       .refine zc 10 rfl ?_;exact r2_ hq_ rfl (by rw[zbB (zfV hon hoff),if_pos (by simpa using hps)];exact Eq.trans (by rfl) (rp0 _ _))
      .refine zc 6 rfl ?_;refine zao rfl (fun hps=>?_) (fun hps=>?_)
       .refine zc 1 rfl ?_;have hps1:0<c:=by simpa using hps
        refine nz_ [so 6 _,so 8 _,so 9 _,so 10 _,so 11 _,so 12 _,so 16 (D.ptr 6 0)] [none,none,_,_,_,_,hb_ 118 [El.row tmE ([]),Leaf.val (.bool false),zaf ([]),zaf ([]),Leaf.val (.int .i64 0),Leaf.val (.int .i64 (j:Int)),Leaf.val (.int .i64 0),Leaf.val (.int .i64 0),Leaf.val (.bool (zaR (mx (c) (-(c))))),zaf (zaa (zav (mx (c) (-(c))))),zaf (zaa (zaC (mx (c) (-(c)))))]] rfl rfl ?_;refine zc 9 rfl ?_;by_cases h1:(zak s.lems (j:Int)).1≠0
        .refine tq_ rfl (gtT rfl) (zl 2 rfl ?_);by_cases h2:(zak s.lems (j:Int)).2≠0
         .refine tq_ rfl (gtT rfl) (zl 4 rfl ?_);refine tc_ zDe rfl (zqL (lvz s.lems (zak s.lems (j:Int)).1) (lvz s.lems (zak s.lems (j:Int)).1).q rfl (Fq.use (x:=(lvz s.lems (zak s.lems (j:Int)).1)) (by omega)) (lvz s.lems (zak s.lems (j:Int)).2) (lvz s.lems (zak s.lems (j:Int)).2).q rfl (Fq.use (x:=(lvz s.lems (zak s.lems (j:Int)).2)) (by omega))) ?_;by_cases h3:slp (lv s.lems (zak s.lems (j:Int)).1) (lv s.lems (zak s.lems (j:Int)).2)=true
          .refine tq_ rfl (eqT rfl (by rw[zhl h1,zhl h2,if_pos h3])) (zl 4 rfl ?_);refine nf_ [4,5] [so 6 _,so 8 _,so 16 _] [none,none,_,_,none,none,hb_ 118 [El.row tmE ([]),Leaf.val (.bool false),zaf ([]),zaf ([]),Leaf.val (.int .i64 5),Leaf.val (.int .i64 (j:Int)),Leaf.val (.int .i64 0),Leaf.val (.int .i64 0),Leaf.val (.bool (zaR (mx (c) (-(c))))),zaf (zaa (zav (mx (c) (-(c))))),zaf (zaa (zaC (mx (c) (-(c)))))]] rfl rfl rfl ?_;refine zc 17 rfl ?_;exact r2_ hq_ rfl (by rw[zbB (zra hon hoff hps1 ⟨h1,h2,h3⟩)] <;> rfl)
          .refine tq_ rfl (eqF rfl (by rw[zhl h1,zhl h2,if_neg h3];decide)) (zl 8 rfl ?_);refine nf_ [3,4,5] [so 6 _,so 16 _] [none,none,_,none,none,none,hb_ 118 [El.row tmE ([]),Leaf.val (.bool false),zaf ([]),zaf ([]),Leaf.val (.int .i64 5),Leaf.val (.int .i64 (j:Int)),Leaf.val (.int .i64 0),Leaf.val (.int .i64 0),Leaf.val (.bool (zaR (mx (c) (-(c))))),zaf (zaa (zav (mx (c) (-(c))))),zaf (zaa (zaC (mx (c) (-(c)))))]] rfl rfl rfl ?_;refine zc 6 rfl ?_;exact r2_ hq_ rfl (by rw[zbB (zgI hon hoff hps1 (fun e=>h3 e.2.2))];exact Eq.trans (by rfl) (rp0 _ _))
         .refine tq_ rfl (gtF rfl) (zl 14 rfl ?_);refine nf_ [3,4,5] [so 6 _,so 16 _] [none,none,_,none,none,none,hb_ 118 [El.row tmE ([]),Leaf.val (.bool false),zaf ([]),zaf ([]),Leaf.val (.int .i64 5),Leaf.val (.int .i64 (j:Int)),Leaf.val (.int .i64 0),Leaf.val (.int .i64 0),Leaf.val (.bool (zaR (mx (c) (-(c))))),zaf (zaa (zav (mx (c) (-(c))))),zaf (zaa (zaC (mx (c) (-(c)))))]] rfl rfl rfl ?_;refine zc 6 rfl ?_;exact r2_ hq_ rfl (by rw[zbB (zgI hon hoff hps1 (fun e=>h2 e.2.1))];exact Eq.trans (by rfl) (rp0 _ _))
        .refine tq_ rfl (gtF rfl) (zl 17 rfl ?_);refine nf_ [3,4,5] [so 6 _,so 16 _] [none,none,_,none,none,none,hb_ 118 [El.row tmE ([]),Leaf.val (.bool false),zaf ([]),zaf ([]),Leaf.val (.int .i64 5),Leaf.val (.int .i64 (j:Int)),Leaf.val (.int .i64 0),Leaf.val (.int .i64 0),Leaf.val (.bool (zaR (mx (c) (-(c))))),zaf (zaa (zav (mx (c) (-(c))))),zaf (zaa (zaC (mx (c) (-(c)))))]] rfl rfl rfl ?_;refine zc 6 rfl ?_;exact r2_ hq_ rfl (by rw[zbB (zgI hon hoff hps1 (fun e=>h1 e.1))];exact Eq.trans (by rfl) (rp0 _ _))
       .refine zc 1 rfl ?_;have hps1:¬0<c:=by simpa using hps
        refine zc 2 rfl ?_;by_cases h1:(zak s.lems (j:Int)).1=0
        .refine tq_ rfl (eqT rfl) (zl 9 rfl (nf_ [3,4,5,6] [so 6 _] [none,none,_,none,none,none,none] rfl rfl rfl (zc 6 rfl ?_)));exact r2_ hq_ rfl (by rw[zia (zn7 hon hoff hps1 (.inl h1))];show R.tup [_,_]=R.tup [V.agg (rpL (fZ,⟨0,0,0,0⟩,0)),_];rw[<-rpZ] <;> rfl)
        .refine tq_ rfl (eqF rfl) (zl 2 rfl ?_);by_cases h2:(zak s.lems (j:Int)).2=0
         .refine tq_ rfl (eqT rfl) (zl 6 rfl (nf_ [3,4,5,6] [so 6 _] [none,none,_,none,none,none,none] rfl rfl rfl (zc 6 rfl ?_)));exact r2_ hq_ rfl (by rw[zia (zn7 hon hoff hps1 (.inr h2))];show R.tup [_,_]=R.tup [V.agg (rpL (fZ,⟨0,0,0,0⟩,0)),_];rw[<-rpZ] <;> rfl)
         .refine tq_ rfl (eqF rfl) (zl 6 rfl ?_);have hl0:(lvz s.lems (zak s.lems (j:Int)).1).q<0:=by rw[zhl h1];exact zBi hon h1
          have hu0:0<(lvz s.lems (zak s.lems (j:Int)).2).q:=by rw[zhl h2];exact zwn hoff h2
          obtain⟨ib1,ib2⟩:=zrL (l:=(lvz s.lems (zak s.lems (j:Int)).1).q) (u:=(lvz s.lems (zak s.lems (j:Int)).2).q) (B:=135001) (by omega);haveI:=ib1;haveI:=ib2;have hne:(lvz s.lems (zak s.lems (j:Int)).2).q-(lvz s.lems (zak s.lems (j:Int)).1).q≠0:=by grind
          have hfs:=FL.sc (c:=zcB (lvz s.lems (zak s.lems (j:Int)).1).q (lvz s.lems (zak s.lems (j:Int)).2).q) hpf;have hfn:FL 100000000 (s.q.g.inp+s.q.g.us.length) (fN (zcC (lvz s.lems (zak s.lems (j:Int)).1).q (lvz s.lems (zak s.lems (j:Int)).2).q)):=FL.n ib2;refine zc 3 rfl ?_;refine tc_ fn111 rfl (zx3 (lvz s.lems (zak s.lems (j:Int)).1) (lvz s.lems (zak s.lems (j:Int)).1).q rfl (Fq.use (x:=(lvz s.lems (zak s.lems (j:Int)).1)) (by omega)) (lvz s.lems (zak s.lems (j:Int)).2) (lvz s.lems (zak s.lems (j:Int)).2).q rfl (Fq.use (x:=(lvz s.lems (zak s.lems (j:Int)).2)) (by omega)) hl0 hu0) ?_;refine zl 14 rfl ?_;refine nz_ [so 1 _,so 6 _,so 8 _,so 9 _,so 10 _,so 11 _,so 12 _,so 16 (D.ptr 6 0),so 18 (D.ptr 7 0),so 19 (D.ptr 8 0)] [none,none,_,_,_,_,hb_ 118 [El.row tmE ([]),Leaf.val (.bool false),zaf ([]),zaf ([]),Leaf.val (.int .i64 0),Leaf.val (.int .i64 (j:Int)),Leaf.val (.int .i64 0),Leaf.val (.int .i64 0),Leaf.val (.bool (zaR (mx (c) (-(c))))),zaf (zaa (zav (mx (c) (-(c))))),zaf (zaa (zaC (mx (c) (-(c)))))],hb_ 36 (qL (zcB (lvz s.lems (zak s.lems (j:Int)).1).q (lvz s.lems (zak s.lems (j:Int)).2).q)),hb_ 36 (qL (zcC (lvz s.lems (zak s.lems (j:Int)).1).q (lvz s.lems (zak s.lems (j:Int)).2).q))] rfl rfl ?_;refine dr_ 0 [(7,6)] [6] (dz 2 rfl (kc_ fn85 rfl (zqQ p (zcB (lvz s.lems (zak s.lems (j:Int)).1).q (lvz s.lems (zak s.lems (j:Int)).2).q) (by assumption) (by omega) (by omega) (by omega)) (dz 2 rfl ?_)));refine kc_ fn112 rfl (add_p (fSc p (zcB (lvz s.lems (zak s.lems (j:Int)).1).q (lvz s.lems (zak s.lems (j:Int)).2).q)) (fN (zcC (lvz s.lems (zak s.lems (j:Int)).1).q (lvz s.lems (zak s.lems (j:Int)).2).q)) hfs hfn (by omega) (by omega) (by omega)) (dz 2 rfl (zad (za 2 rfl ?_)));refine nf_ [3,7,8] [so 1 _,so 6 _,so 9 _,so 10 _,so 11 _,so 12 _,so 16 _] [none,none,_,none,_,_,hb_ 118 [El.row tmE ((zgy (fSc p (zcB (lvz s.lems (zak s.lems (j:Int)).1).q (lvz s.lems (zak s.lems (j:Int)).2).q)) (fN (zcC (lvz s.lems (zak s.lems (j:Int)).1).q (lvz s.lems (zak s.lems (j:Int)).2).q))).ts),Leaf.val (.bool (zaR ((zgy (fSc p (zcB (lvz s.lems (zak s.lems (j:Int)).1).q (lvz s.lems (zak s.lems (j:Int)).2).q)) (fN (zcC (lvz s.lems (zak s.lems (j:Int)).1).q (lvz s.lems (zak s.lems (j:Int)).2).q))).c))),zaf (zaa (zav ((zgy (fSc p (zcB (lvz s.lems (zak s.lems (j:Int)).1).q (lvz s.lems (zak s.lems (j:Int)).2).q)) (fN (zcC (lvz s.lems (zak s.lems (j:Int)).1).q (lvz s.lems (zak s.lems (j:Int)).2).q))).c))),zaf (zaa (zaC ((zgy (fSc p (zcB (lvz s.lems (zak s.lems (j:Int)).1).q (lvz s.lems (zak s.lems (j:Int)).2).q)) (fN (zcC (lvz s.lems (zak s.lems (j:Int)).1).q (lvz s.lems (zak s.lems (j:Int)).2).q))).c))),Leaf.val (.int .i64 0),Leaf.val (.int .i64 (j:Int)),Leaf.val (.int .i64 0),Leaf.val (.int .i64 0),Leaf.val (.bool (zaR (mx (c) (-(c))))),zaf (zaa (zav (mx (c) (-(c))))),zaf (zaa (zaC (mx (c) (-(c)))))],none,none] rfl rfl rfl ?_;refine zc 9 rfl (dr_ 0 [(10,6)] [6] (dz 1 rfl (kp_ [] rfl (zaJ rfl rfl rfl (by decide) zmx (by decide) (zEt rfl) rfl) (dz 2 rfl ?_))));refine kc_ zuO rfl (zEf (lvz s.lems (zak s.lems (j:Int)).2) ((lvz s.lems (zak s.lems (j:Int)).2).q) rfl (Fq.use (x:=(lvz s.lems (zak s.lems (j:Int)).2)) (by omega)) (lvz s.lems (zak s.lems (j:Int)).1) ((lvz s.lems (zak s.lems (j:Int)).1).q) rfl (Fq.use (x:=(lvz s.lems (zak s.lems (j:Int)).1)) (by omega))) ?_;refine kc_ zzn rfl (qdiv (qOf (mx (c) (-(c)))) (mx (c) (-(c))) (zaj _) (Br.use (by omega)) (qOf (((lvz s.lems (zak s.lems (j:Int)).2).q)-((lvz s.lems (zak s.lems (j:Int)).1).q))) (((lvz s.lems (zak s.lems (j:Int)).2).q)-((lvz s.lems (zak s.lems (j:Int)).1).q)) (zaj _) (Br.use (by omega)) (by assumption)) (dz 5 rfl (zad ?_));refine za 3 rfl ?_;refine nf_ [4,5] [so 6 _,so 16 _] [none,none,_,none,none,none,hb_ 118 [El.row tmE ((zgy (fSc p (zcB (lvz s.lems (zak s.lems (j:Int)).1).q (lvz s.lems (zak s.lems (j:Int)).2).q)) (fN (zcC (lvz s.lems (zak s.lems (j:Int)).1).q (lvz s.lems (zak s.lems (j:Int)).2).q))).ts),Leaf.val (.bool (zaR ((zgy (fSc p (zcB (lvz s.lems (zak s.lems (j:Int)).1).q (lvz s.lems (zak s.lems (j:Int)).2).q)) (fN (zcC (lvz s.lems (zak s.lems (j:Int)).1).q (lvz s.lems (zak s.lems (j:Int)).2).q))).c))),zaf (zaa (zav ((zgy (fSc p (zcB (lvz s.lems (zak s.lems (j:Int)).1).q (lvz s.lems (zak s.lems (j:Int)).2).q)) (fN (zcC (lvz s.lems (zak s.lems (j:Int)).1).q (lvz s.lems (zak s.lems (j:Int)).2).q))).c))),zaf (zaa (zaC ((zgy (fSc p (zcB (lvz s.lems (zak s.lems (j:Int)).1).q (lvz s.lems (zak s.lems (j:Int)).2).q)) (fN (zcC (lvz s.lems (zak s.lems (j:Int)).1).q (lvz s.lems (zak s.lems (j:Int)).2).q))).c))),Leaf.val (.int .i64 13),Leaf.val (.int .i64 (j:Int)),Leaf.val (.int .i64 (((zak s.lems (j:Int)).1:Nat):Int)),Leaf.val (.int .i64 (((zak s.lems (j:Int)).2:Nat):Int)),Leaf.val (.bool (zaR ((mx (c) (-(c)))/(((lvz s.lems (zak s.lems (j:Int)).2).q)-((lvz s.lems (zak s.lems (j:Int)).1).q))))),zaf (zaa (zav ((mx (c) (-(c)))/(((lvz s.lems (zak s.lems (j:Int)).2).q)-((lvz s.lems (zak s.lems (j:Int)).1).q))))),zaf (zaa (zaC ((mx (c) (-(c)))/(((lvz s.lems (zak s.lems (j:Int)).2).q)-((lvz s.lems (zak s.lems (j:Int)).1).q)))))],none,none] rfl rfl rfl ?_;refine zc 6 rfl ?_;exact r2_ hq_ rfl (by rw[zbB (zn6 hon hoff hps1 h1 h2),<-zhl h1,<-zhl h2] <;> rfl)
set_option maxHeartbeats 2000000 in
theorem rpl_r(s:Sc)(hs:SB 135001 s)(j:Nat)(p:Af)(hp:s.q.g.us[j]?=some p)(f:Af){F:Nat}(hff:FL F (s.q.g.inp+s.q.g.us.length) f)(hF:F<=1000000000)(l:List Mu){K:Nat}(hMl:MB K l)(hK:K<=100000000000)(hll:l.length<=1000):Ctr Tryz.prog 57 [scV s,afV f,V.one (El.row muE l),V.one (Leaf.val (.int .i64 ((j:Int))))] (R.tup [afV (bkP s f l j).1,V.one (El.row muE (bkP s f l j).2.1),V.one (Leaf.val (.bool (bkP s f l j).2.2))]):=by
 refine bd_ Tryz.func57 Tryz.ntmps57 rfl (fun w0 A0=>?_);have hB:=hs.B;have hq:=hs.q;have hd:=hs.d;have hpl:=hs.pl;have hl:=hs.ll;have hg:=hq.g;have hr:=hq.r;have hlo:=hr.lo;have hhi:=hr.hi;have h1:=hg.i1;have h2:=hg.i3;have h3:=hg.u4;have h4:=hg.o1;have h5:=hg.o3;have hj:=(zEo.1 hp).1;have hpf:FL 4 (s.q.g.inp+s.q.g.us.length) p:=((hq.g.us j p hp).fl).mono (by omega) (by omega);haveI:=hpf.fm (by omega);haveI:=hpf.cb;haveI:=hff.fm (by omega);haveI:=hff.cb;haveI hcb:Br (co f.ts (s.q.g.inp+j)) F:=zpY hff.bd _;haveI:Br (zc0 (co f.ts (s.q.g.inp+j))) (F+1):=znw hcb;refine zc 16 rfl (tq_ rfl (jad (s.q.g.inp+j) rfl) (zl 4 rfl (nz_ [so 2 (D.v (V.one (El.row muE l))),so 3 (D.val (.int .i64 (j:Int))),so 4 (D.ptr 0 0),so 5 (D.ptr 1 0),so 8 (D.ptr 2 0),so 11 (D.val (.int .i64 ((s.q.g.inp+j:Nat):Int)))] [hb_ 43 (scL s),hb_ 38 (afL f),hb_ 38 [El.row tmE ([]),Leaf.val (.bool false),zaf ([]),zaf ([])]] rfl rfl (zc 6 rfl ?_))));refine tq_ rfl (jix j hp rfl) (tq_ rfl (jlr rfl) (zl 5 rfl (nz_ [so 2 _,so 3 _,so 4 _,so 5 _,so 8 _,so 11 _,so 12 (D.ptr 3 0)] [_,_,_,hb_ 38 (afL p)] rfl rfl (zc 3 rfl (tc_ zDd rfl (zwQ f hff (by omega) (by omega) (s.q.g.inp+j) (by omega)) (zl 7 rfl (tc_ zg9 rfl (zbG (qOf ((co f.ts (s.q.g.inp+j)))) ((co f.ts (s.q.g.inp+j))) (zaj _) (Br.use (by omega))) ?_)))))));refine zl 5 rfl (nz_ [so 2 _,so 3 _,so 4 _,so 5 _,so 8 _,so 11 _,so 12 _,so 13 (D.ptr 4 0),so 14 (D.val (.int .i64 (sg ((co f.ts (s.q.g.inp+j))))))] [_,_,_,_,hb_ 36 (qL (co f.ts (s.q.g.inp+j)))] rfl rfl (zc 2 rfl ?_));by_cases h0:(co f.ts (s.q.g.inp+j))=0
 .refine tq_ rfl (eqT rfl (by rw[h0];rfl)) (zl 12 rfl ?_);exact r3_ hq_ rfl (by rw[zcd (zhN hp h0)] <;> rfl)
 .refine tq_ rfl (eqF rfl (zfy h0)) (zl 6 rfl (nz_ [so 2 _,so 3 _,so 4 _,so 5 _,so 8 _,so 11 _,so 12 _,so 13 _,so 14 _] [_,_,_,_,_] rfl rfl (zc 16 rfl (tc_ zzh rfl (ziR s (by assumption) (by omega) (by omega) (j:Int)) (zl 8 rfl ?_)))));refine nf_ [4] [so 2 _,so 3 _,so 4 _,so 5 _,so 8 _,so 11 _,so 12 _,so 14 _,so 15 (D.ptr 5 0),so 16 (D.val (.int .i64 (((zak s.lems (j:Int)).1:Nat):Int))),so 17 (D.val (.int .i64 (((zak s.lems (j:Int)).2:Nat):Int)))] [_,_,_,_,none,hb_ 36 [Leaf.val (.bool false),zaf (zaa (zav (co f.ts (s.q.g.inp+j)))),zaf (zaa (zaC (co f.ts (s.q.g.inp+j))))]] rfl rfl rfl ?_;refine zc 3 rfl (tc_ zDc rfl (on_r s (by assumption) j (by omega)) (zl 9 rfl ?_));refine nz_ [so 2 _,so 3 _,so 4 _,so 5 _,so 8 _,so 11 _,so 12 _,so 14 _,so 15 _,so 16 _,so 17 _,so 18 (D.ptr 6 0),so 19 (D.bool (zdC s j))] [_,_,_,_,none,_,hb_ 107 [Leaf.val (.int .i64 ((zdd s j).kind)),Leaf.val (.int .i64 ((zdd s j).idx)),Leaf.val (.int .i64 ((zdd s j).lo)),Leaf.val (.int .i64 ((zdd s j).hi))]] rfl rfl (zc 3 rfl ?_);refine tc_ zDb rfl (zBj s (by assumption) j (by omega)) (zl 9 rfl ?_);refine nz_ [so 2 _,so 3 _,so 4 _,so 5 _,so 8 _,so 11 _,so 12 _,so 14 _,so 15 _,so 16 _,so 17 _,so 18 _,so 19 _,so 20 (D.ptr 7 0),so 21 (D.bool (zbr s j))] [_,_,_,_,none,_,_,hb_ 107 [Leaf.val (.int .i64 ((zcs s j).kind)),Leaf.val (.int .i64 ((zcs s j).idx)),Leaf.val (.int .i64 ((zcs s j).lo)),Leaf.val (.int .i64 ((zcs s j).hi))]] rfl rfl (zc 20 rfl ?_);refine zao rfl (fun hon=>?_) (fun hon=>?_)
  .refine zc 1 rfl (dr_ 0 [(2,8),(3,9)] [8,9] (dz 4 rfl (zad (za 2 rfl ?_))));refine nf_ [0,3,6,7] [so 2 _,so 3 _,so 5 _,so 8 _,so 11 _,so 14 _,so 15 _,so 22 (D.ptr 8 0),so 23 (D.ptr 9 0)] [none,_,_,none,none,_,none,none,hb_ 107 [Leaf.val (.int .i64 ((zdd s j).kind)),Leaf.val (.int .i64 ((zdd s j).idx)),Leaf.val (.int .i64 ((zdd s j).lo)),Leaf.val (.int .i64 ((zdd s j).hi))],hb_ 38 (afL p)] rfl rfl rfl (zc 2 rfl ?_);by_cases hps:0<(co f.ts (s.q.g.inp+j))
   .refine tq_ rfl (gtT rfl (zdU.2 hps)) (zl 11 rfl (dr_ 0 [(8,2)] [2] (dz 3 rfl (kc_ zkG rfl (zej f p hff hpf (by omega) (by omega) (by omega) (s.q.g.inp+j) (by omega)) (dz 3 rfl (zi8 (D.agg (qL (zc0 (co f.ts (s.q.g.inp+j))))) rfl (by rw[zdx];exact ze2 _) ?_))))));refine kc_ zr0 rfl (zeP l ⟨6,(j:Int),0,0⟩ ((zc0 (co f.ts (s.q.g.inp+j)))) hMl (by omega) (by omega)) (dz 3 rfl (zad (za 1 rfl ?_)));exact r3_ hq_ rfl (by rw[zcd (zcx hp h0 (zib hon)),if_pos hps] <;> rfl)
   .refine tq_ rfl (gtF rfl (fun e=>hps (zdU.1 e))) (zl 7 rfl (nz_ [so 2 _,so 5 _,so 8 _,so 11 _,so 15 _,so 22 _,so 23 _] [none,_,_,none,none,_,none,none,_,_] rfl rfl (dr_ 0 [(8,2)] [2] (dz 3 rfl (kc_ zkG rfl (zej f p hff hpf (by omega) (by omega) (by omega) (s.q.g.inp+j) (by omega)) (dz 3 rfl ?_))))));refine zi8 (D.agg (qL (zc0 (co f.ts (s.q.g.inp+j))))) rfl (by rw[zdx];exact ze2 _) (kc_ zr0 rfl (zeP l (zdd s j) ((zc0 (co f.ts (s.q.g.inp+j)))) hMl (by omega) (by omega)) (dz 3 rfl (zad (za 1 rfl ?_))));exact r3_ hq_ rfl (by rw[zcd (zcx hp h0 (zib hon)),if_neg hps] <;> rfl)
  .refine zc 1 rfl ?_;refine nf_ [6] [so 2 _,so 3 _,so 4 _,so 5 _,so 8 _,so 11 _,so 12 _,so 14 _,so 15 _,so 16 _,so 17 _,so 20 _,so 21 _,so 22 (D.ptr 8 0),so 23 (D.ptr 9 0)] [_,_,_,_,none,_,none,_,hb_ 107 [Leaf.val (.int .i64 5),Leaf.val (.int .i64 (j:Int)),Leaf.val (.int .i64 0),Leaf.val (.int .i64 0)],hb_ 38 [El.row tmE ([]),Leaf.val (.bool false),zaf ([]),zaf ([])]] rfl rfl rfl ?_;refine zc 5 rfl ?_;refine zao rfl (fun hoff=>?_) (fun hoff=>?_)
   .refine zc 3 rfl ?_;by_cases hps:(co f.ts (s.q.g.inp+j))<0
    .refine tq_ rfl (ltT rfl (zkb.2 hps)) (zl 10 rfl (dr_ 0 [(8,2)] [2] (dz 3 rfl (zi8 (D.agg (afL fZ)) rfl (congrArg D.agg fZ_ls.symm) (kc_ zkG rfl (zej f fZ hff FL.z (by omega) (by omega) (by omega) (s.q.g.inp+j) (by omega)) (dz 3 rfl (zi8 (D.agg (qL (zc0 (co f.ts (s.q.g.inp+j))))) rfl (by rw[zdx];exact ze2 _) ?_)))))));refine kc_ zr0 rfl (zeP l (zcs s j) ((zc0 (co f.ts (s.q.g.inp+j)))) hMl (by omega) (by omega)) (dz 3 rfl (zad (za 1 rfl ?_)));exact r3_ hq_ rfl (by rw[zcd (zcx hp h0 (zfV hon hoff)),if_neg (by grind)] <;> rfl)
    .refine tq_ rfl (ltF rfl (fun e=>hps (zkb.1 e))) (zl 7 rfl (nf_ [0,3,7] [so 2 _,so 5 _,so 8 _,so 11 _,so 15 _,so 22 _,so 23 _] [none,_,_,none,none,_,none,none,_,_] rfl rfl rfl (dr_ 0 [(8,2)] [2] (dz 3 rfl (zi8 (D.agg (afL fZ)) rfl (congrArg D.agg fZ_ls.symm) (kc_ zkG rfl (zej f fZ hff FL.z (by omega) (by omega) (by omega) (s.q.g.inp+j) (by omega)) ?_))))));refine dz 3 rfl (zi8 (D.agg (qL (zc0 (co f.ts (s.q.g.inp+j))))) rfl (by rw[zdx];exact ze2 _) (kc_ zr0 rfl (zeP l ⟨5,(j:Int),0,0⟩ ((zc0 (co f.ts (s.q.g.inp+j)))) hMl (by omega) (by omega)) (dz 3 rfl (zad (za 1 rfl ?_)))));exact r3_ hq_ rfl (by rw[zcd (zcx hp h0 (zfV hon hoff)),if_pos (by grind)] <;> rfl)
   .refine zc 1 rfl (nf_ [7] [so 2 _,so 3 _,so 4 _,so 5 _,so 8 _,so 11 _,so 12 _,so 14 _,so 15 _,so 16 _,so 17 _,so 22 _,so 23 _] [_,_,_,_,none,_,none,none,_,_] rfl rfl rfl (zc 2 rfl ?_));by_cases hps:0<(co f.ts (s.q.g.inp+j))
    .refine tq_ rfl (gtT rfl (zdU.2 hps)) (zl 5 rfl (dr_ 0 [] [] (dz 1 rfl ?_)));by_cases h1:(zak s.lems (j:Int)).1≠0
     .refine kq_ rfl (gtT rfl) (dz 2 rfl ?_);by_cases h2:(zak s.lems (j:Int)).2≠0
      .refine kq_ rfl (gtT rfl) (dz 2 rfl ?_);obtain⟨y,hy,_,_,hly,hy0,hyl⟩:=zbv h1;haveI:=hB y (zEn hy);obtain⟨z,hz,_,_,hlz,hz0,hzl⟩:=zbJ h2;haveI:=hB z (zEn hz);refine dz 3 rfl (kq_ rfl (jsb (((zak s.lems (j:Int)).1)-1) rfl) (kq_ rfl (jix ((zak s.lems (j:Int)).1-1) hy rfl) (kq_ rfl (jft rfl) (kq_ rfl (jlr rfl) (dz 3 rfl (kq_ rfl (jsb (((zak s.lems (j:Int)).2)-1) rfl) (kq_ rfl (jix ((zak s.lems (j:Int)).2-1) hz rfl) (kq_ rfl (jft rfl) (kq_ rfl (jlr rfl) ?_)))))))));refine kc_ zDa rfl (zqK y.v y.v.q rfl (Fq.use (x:=y.v) (by omega)) z.v z.v.q rfl (Fq.use (x:=z.v) (by omega))) ?_;by_cases h3:slp y.v.q z.v.q=true
       .refine kq_ rfl (eqT rfl (by rw[if_pos h3])) (dz 1 rfl (zad (za 2 rfl (nf_ [0] [so 2 _,so 3 _,so 5 _,so 8 _,so 11 _,so 12 _,so 15 _,so 22 _,so 23 _] [none,_,_,_,none,_,none,none,_,_] rfl rfl rfl (dr_ 0 [(3,8),(4,9)] [8,9] (dz 5 rfl (zad (za 3 rfl (dr_ 0 [(8,2)] [2] ?_)))))))));refine dz 3 rfl (kc_ zkG rfl (zej f p hff hpf (by omega) (by omega) (by omega) (s.q.g.inp+j) (by omega)) (dz 3 rfl (zi8 (D.agg (qL (zc0 (co f.ts (s.q.g.inp+j))))) rfl (by rw[zdx];exact ze2 _) (kc_ zr0 rfl (zeP l ⟨6,(j:Int),0,0⟩ ((zc0 (co f.ts (s.q.g.inp+j)))) hMl (by omega) (by omega)) (dz 3 rfl (zad (za 1 rfl ?_)))))));exact r3_ hq_ rfl (by rw[zcd (zcx hp h0 (zra hon hoff hps ⟨h1,h2,by rw[hly,hlz];exact h3⟩))] <;> rfl)
       .refine kq_ rfl (eqF rfl (by rw[if_neg h3];decide)) (dz 1 rfl (zad (za 6 rfl (nf_ [0,3] [so 2 _,so 5 _,so 8 _,so 11 _,so 15 _,so 22 _,so 23 _] [none,_,_,none,none,_,none,none,_,_] rfl rfl rfl (dr_ 0 [(8,2)] [2] (dz 3 rfl (zi8 (D.agg (afL fZ)) rfl (congrArg D.agg fZ_ls.symm) ?_)))))));refine kc_ zkG rfl (zej f fZ hff FL.z (by omega) (by omega) (by omega) (s.q.g.inp+j) (by omega)) (dz 3 rfl (zi8 (D.agg (qL (zc0 (co f.ts (s.q.g.inp+j))))) rfl (by rw[zdx];exact ze2 _) (kc_ zr0 rfl (zeP l ⟨5,(j:Int),0,0⟩ ((zc0 (co f.ts (s.q.g.inp+j)))) hMl (by omega) (by omega)) (dz 3 rfl (zad (za 1 rfl ?_))))));exact r3_ hq_ rfl (by rw[zcd (zcx hp h0 (zgI hon hoff hps (fun e=>h3 (by have:=e.2.2;rwa [hly,hlz] at this))))] <;> rfl)
      .refine kq_ rfl (gtF rfl) (dz 19 rfl (zad (za 6 rfl (nf_ [0,3] [so 2 _,so 5 _,so 8 _,so 11 _,so 15 _,so 22 _,so 23 _] [none,_,_,none,none,_,none,none,_,_] rfl rfl rfl (dr_ 0 [(8,2)] [2] (dz 3 rfl (zi8 (D.agg (afL fZ)) rfl (congrArg D.agg fZ_ls.symm) (kc_ zkG rfl (zej f fZ hff FL.z (by omega) (by omega) (by omega) (s.q.g.inp+j) (by omega)) (dz 3 rfl ?_)))))))));refine zi8 (D.agg (qL (zc0 (co f.ts (s.q.g.inp+j))))) rfl (by rw[zdx];exact ze2 _) (kc_ zr0 rfl (zeP l ⟨5,(j:Int),0,0⟩ ((zc0 (co f.ts (s.q.g.inp+j)))) hMl (by omega) (by omega)) (dz 3 rfl (zad (za 1 rfl ?_))));exact r3_ hq_ rfl (by rw[zcd (zcx hp h0 (zgI hon hoff hps (fun e=>h2 e.2.1)))] <;> rfl)
     .refine kq_ rfl (gtF rfl) (dz 22 rfl (zad (za 6 rfl (nf_ [0,3] [so 2 _,so 5 _,so 8 _,so 11 _,so 15 _,so 22 _,so 23 _] [none,_,_,none,none,_,none,none,_,_] rfl rfl rfl (dr_ 0 [(8,2)] [2] (dz 3 rfl (zi8 (D.agg (afL fZ)) rfl (congrArg D.agg fZ_ls.symm) (kc_ zkG rfl (zej f fZ hff FL.z (by omega) (by omega) (by omega) (s.q.g.inp+j) (by omega)) (dz 3 rfl ?_)))))))));refine zi8 (D.agg (qL (zc0 (co f.ts (s.q.g.inp+j))))) rfl (by rw[zdx];exact ze2 _) (kc_ zr0 rfl (zeP l ⟨5,(j:Int),0,0⟩ ((zc0 (co f.ts (s.q.g.inp+j)))) hMl (by omega) (by omega)) (dz 3 rfl (zad (za 1 rfl ?_))));exact r3_ hq_ rfl (by rw[zcd (zcx hp h0 (zgI hon hoff hps (fun e=>h1 e.1)))] <;> rfl)
    .refine tq_ rfl (gtF rfl (fun e=>hps (zdU.1 e))) (zl 5 rfl (nz_ [so 2 _,so 3 _,so 4 _,so 5 _,so 8 _,so 11 _,so 12 _,so 15 _,so 16 _,so 17 _,so 22 _,so 23 _] [_,_,_,_,none,_,none,none,_,_] rfl rfl (zc 2 rfl ?_)));by_cases h1:(zak s.lems (j:Int)).1=0
     .refine tq_ rfl (eqT rfl) (zl 9 rfl (nf_ [0,1,3,5,8,9] [so 8 _] [none,none,_,none,none,none,none,none,none,none] rfl rfl rfl (zc 7 rfl ?_)));exact r3_ hq_ rfl (by rw[zkX (zhO hp h0 (zn7 hon hoff hps (.inl h1)))];show _=R.tup [afV fZ,V.one (El.row muE []),_];rw[afZ] <;> rfl)
     .refine tq_ rfl (eqF rfl) (zl 2 rfl ?_);by_cases h2:(zak s.lems (j:Int)).2=0
      .refine tq_ rfl (eqT rfl) (zl 6 rfl (nf_ [0,1,3,5,8,9] [so 8 _] [none,none,_,none,none,none,none,none,none,none] rfl rfl rfl (zc 7 rfl ?_)));exact r3_ hq_ rfl (by rw[zkX (zhO hp h0 (zn7 hon hoff hps (.inr h2)))];show _=R.tup [afV fZ,V.one (El.row muE []),_];rw[afZ] <;> rfl)
      .refine tq_ rfl (eqF rfl) (zl 6 rfl ?_);obtain⟨y,hy,_,_,hly,hy0,hyl⟩:=zbv h1;haveI:=hB y (zEn hy);obtain⟨z,hz,_,_,hlz,hz0,hzl⟩:=zbJ h2;haveI:=hB z (zEn hz);have hl0:y.v.q<0:=by rw[<-hly];exact zBi hon h1
       have hu0:0<z.v.q:=by rw[<-hlz];exact zwn hoff h2
       obtain⟨ib1,ib2⟩:=zrL (l:=y.v.q) (u:=z.v.q) (B:=135001) (by omega);haveI:=ib1;haveI:=ib2;have hne:z.v.q-y.v.q≠0:=by grind
       have hfs:=FL.sc (c:=(zcB y.v.q z.v.q)) hpf;have hfn:FL 100000000 (s.q.g.inp+s.q.g.us.length) (fN (zcC y.v.q z.v.q)):=FL.n ib2;have hbf:=hfs.add hfn;haveI:=hfs.fm (by omega);haveI:=hfs.cb;haveI:=hfn.fm (by omega);haveI:=hfn.cb;refine dr_ 2 [(14,10),(15,11),(16,10),(17,11)] [10,11] (dz 3 rfl (kq_ rfl (jsb (((zak s.lems (j:Int)).1)-1) rfl) (kq_ rfl (jix ((zak s.lems (j:Int)).1-1) hy rfl) (kq_ rfl (jft rfl) (kq_ rfl (jlr rfl) (dz 3 rfl (kq_ rfl (jsb (((zak s.lems (j:Int)).2)-1) rfl) (kq_ rfl (jix ((zak s.lems (j:Int)).2-1) hz rfl) ?_))))))));refine kq_ rfl (jft rfl) (kq_ rfl (jlr rfl) (dz 4 rfl (zad (za 2 rfl ?_))));refine nf_ [0] [so 2 _,so 3 _,so 5 _,so 8 _,so 11 _,so 12 _,so 15 _,so 16 _,so 17 _,so 22 _,so 23 _,so 24 (D.ptr 10 0),so 25 (D.ptr 11 0)] [none,_,_,_,none,_,none,none,_,_,hb_ 36 [Leaf.val (.bool y.v.neg),zaf y.v.n,zaf y.v.d],hb_ 36 [Leaf.val (.bool z.v.neg),zaf z.v.n,zaf z.v.d]] rfl rfl rfl (zc 3 rfl ?_);refine tc_ fn128 rfl (zx2 y.v y.v.q rfl (Fq.use (x:=y.v) (by omega)) z.v z.v.q rfl (Fq.use (x:=z.v) (by omega)) hl0 hu0) (zl 14 rfl ?_);refine nz_ [so 2 _,so 3 _,so 5 _,so 8 _,so 11 _,so 12 _,so 15 _,so 16 _,so 17 _,so 22 _,so 23 _,so 24 _,so 25 _,so 27 (D.ptr 12 0),so 28 (D.ptr 13 0)] [none,_,_,_,none,_,none,none,_,_,_,_,hb_ 36 (qL (zcB y.v.q z.v.q)),hb_ 36 (qL (zcC y.v.q z.v.q))] rfl rfl (zc 9 rfl (dr_ 0 [(6,9)] [9] (dz 2 rfl ?_)));refine kc_ zqh rfl (zcc p (zcB y.v.q z.v.q) (by omega) (by omega)) (dz 1 rfl (kc_ zwD rfl (zeM (zcC y.v.q z.v.q)) (kc_ zCF rfl (zie (fSc p (zcB y.v.q z.v.q)) (fN (zcC y.v.q z.v.q)) (by omega) (by omega) (by omega)) (dz 1 rfl (zad (za 1 rfl ?_))))));refine nf_ [3,12,13] [so 2 _,so 5 _,so 8 _,so 11 _,so 15 _,so 22 _,so 23 _,so 24 _,so 25 _] [none,_,_,none,none,_,none,none,hb_ 107 [Leaf.val (.int .i64 13),Leaf.val (.int .i64 (j:Int)),Leaf.val (.int .i64 (((zak s.lems (j:Int)).1:Nat):Int)),Leaf.val (.int .i64 (((zak s.lems (j:Int)).2:Nat):Int))],hb_ 38 (afL (zgy (fSc p (zcB y.v.q z.v.q)) (fN (zcC y.v.q z.v.q)))),_,_,none,none] rfl rfl rfl ?_;refine dr_ 0 [(8,5)] [5] (kp_ [] rfl (zaJ rfl rfl rfl (by decide) zmx (by decide) (zEt rfl) rfl) (zi8 (D.agg (qL (zc0 (co f.ts (s.q.g.inp+j))))) rfl (by rw[zdx];exact ze2 _) (dz 2 rfl (kc_ zzd rfl (zmO z.v (z.v.q) rfl (Fq.use (x:=z.v) (by omega)) y.v (y.v.q) rfl (Fq.use (x:=y.v) (by omega))) ?_))));refine kc_ zuN rfl (zt8 (qOf ((zc0 (co f.ts (s.q.g.inp+j))))) ((zc0 (co f.ts (s.q.g.inp+j)))) (zaj _) (Br.use (by omega)) (qOf ((z.v.q)-(y.v.q))) ((z.v.q)-(y.v.q)) (zaj _) (Br.use (by omega)) (by assumption)) (dz 4 rfl (zad (za 3 rfl ?_)));refine nf_ [10,11] [so 2 _,so 5 _,so 8 _,so 11 _,so 15 _,so 22 _,so 23 _] [none,_,_,none,none,hb_ 36 (qL (((zc0 (co f.ts (s.q.g.inp+j))))/((z.v.q)-(y.v.q)))),none,none,_,_,none,none,none,none] rfl rfl rfl (dr_ 0 [(8,2)] [2] (dz 3 rfl ?_));refine kc_ zkG rfl (zej f (zgy (fSc p (zcB y.v.q z.v.q)) (fN (zcC y.v.q z.v.q))) hff hbf (by omega) (by omega) (by omega) (s.q.g.inp+j) (by omega)) (dz 3 rfl (kc_ zr0 rfl (zeP l ⟨13,(j:Int),((zak s.lems (j:Int)).1:Int),((zak s.lems (j:Int)).2:Int)⟩ ((zc0 (co f.ts (s.q.g.inp+j)))/(z.v.q-y.v.q)) hMl (by omega) (by omega)) (dz 3 rfl ?_)));refine zad (za 1 rfl ?_);exact r3_ hq_ rfl (by rw[zcd (zcx hp h0 (zn6 hon hoff hps h1 h2)),hly,hlz] <;> rfl)
end Go.Proofs.YtjeiacoegppoiaaGreatDoor
namespace Rc
open Go Go.RowKit
@[reducible] def vl(x:List Rat)(i:Nat):Rat:=(x[i]?).getD 0
def zew(a b:Dom):Dom:=fun s f=>
 if (b s f).2.2=true/\((a s f).2.2=false\/(a s f).1<(b s f).1) then((b s f).1,(b s f).2.1,true) else a s f
theorem ziS{a b:Dom}{s:Sc}{f:Af}(h:(b s f).2.2=true)(h2:(a s f).2.2=false\/(a s f).1<(b s f).1):zew a b s f=((b s f).1,(b s f).2.1,true):=if_pos ⟨h,h2⟩
theorem zgY{a b:Dom}{s:Sc}{f:Af}(h:¬((b s f).2.2=true/\((a s f).2.2=false\/(a s f).1<(b s f).1))):zew a b s f=a s f:=if_neg h
theorem zzP:∀j,bS KB j+5000<=KB j+15*j
 |0=>by show 0+5000<=5000*3^0+0;decide
 |j+1=>by
  have ih:=zzP j;have h1:KB (j+1)=3*KB j:=by unfold KB;rw[zEF];omega
  simp only[bS];omega
theorem SOk.kb{s:Sc}(hs:SOk s):∀m∈s.lems,∀j:Nat,m.unit=(j:Int)->Hb m.v.q (KB j):=fun m hm j hj=>by
 have h:=(hs.l m hm).hb;rw[hj] at h;exact h
theorem zs0{n:Nat}(h:n<=4):bS KB n<=400060:=by
 have h1:=znt KB h;have h2:=zzP 4;have h3:KB 4=405000:=by decide
 omega
theorem znS{s:Sc}{f:Af}(h:(zbw s f).2.2=true):∃g l,bkO s f=some (g,l):=by
 cases hb:bkO s f with
 |none=>rw[zdl hb] at h;cases h
 |some a=>exact⟨a.1,a.2,rfl⟩
theorem zmE:zhr zbw:=by
 intro s hs j f hj hf hb;obtain⟨g,l,h⟩:=znS hb;obtain⟨x,m,h1,h2⟩:=zv0 hs.sb hs.kb (top:=j) (by omega) hf.cq h;rw[zeJ h h1];refine h2.hb.mono ?_;have h3:=zzP j;have:=hs.q.g.u4;omega
theorem zqw{s:Sc}(hs:SOk s){f g:Af}{l:List Mu}(hf:FOk 3 (s.q.g.inp+s.q.g.us.length) f)(h:bkO s f=some (g,l)):∃x m,zmf s g=some (x,m)/\SyOk s 13 135001 KB s.q.g.us.length f x (zaV l m ((1:Int):Rat)):=
 zv0 hs.sb hs.kb (zEq _) hf.cq h
theorem znT{s:Sc}(hs:SOk s){f:Af}(hf:FOk 3 (s.q.g.inp+s.q.g.us.length) f):DerOk s 60000000 14 (zbw s f).2.1:=by
 cases hb:bkO s f with
 |none=>rw[zdl hb];exact⟨fun m hm=>by simp at hm,trivial,fun m hm=>by simp at hm,by simp⟩
 |some a=>
  obtain⟨g,l⟩:=a;obtain⟨x,m,h1,h2⟩:=zqw hs hf hb;rw[zeJ hb h1];have hd:=h2.der;have h4:=zs0 hs.q.g.u4;exact⟨hd.ok,hd.can,hd.bd.mono (by unfold bX;omega),zEw hd.len (by decide)⟩
theorem znQ{s:Sc}(hs:SOk s){f:Af}(hf:FOk 3 (s.q.g.inp+s.q.g.us.length) f)(h:(zbw s f).2.2=true):zqf s f (zbw s f).1 (zbw s f).2.1:=by
 obtain⟨g,l,hb⟩:=znS h;obtain⟨x,m,h1,h2⟩:=zqw hs hf hb;rw[zeJ hb h1];exact h2.sum
theorem zv1:DomD zbw:=⟨zmE,fun s hs f hf=>znT hs hf,fun s hs f hf h=>znQ hs hf h⟩
section
variable {a b:Dom}{s:Sc}{f:Af}
theorem zkY:(zew a b s f=a s f)\/((b s f).2.2=true/\zew a b s f=b s f):=by
 by_cases h:(b s f).2.2=true/\((a s f).2.2=false\/(a s f).1<(b s f).1)
 .refine .inr ⟨h.1,?_⟩;rw[ziS h.1 h.2];rcases hb:b s f with⟨x,l,o⟩;rw[hb] at h;show(x,l,true)=(x,l,o);rw[show o=true from h.1]
 .exact .inl (zgY h)
end
theorem zvh{a b:Dom}(ha:zhr a)(hb:zhr b):zhr (zew a b):=fun s hs j f hj hf h=>by
 rcases zkY (a:=a) (b:=b) (s:=s) (f:=f) with e|⟨_,e⟩
 .rw[e] at h ⊢;exact ha s hs j f hj hf h
 .rw[e] at h ⊢;exact hb s hs j f hj hf h
theorem zzM{a b:Dom}(ha:DomD a)(hb:DomD b):DomD (zew a b):=⟨zvh ha.ok hb.ok,fun s hs f hf=>by
 rcases zkY (a:=a) (b:=b) (s:=s) (f:=f) with e|⟨_,e⟩
 .rw[e];exact ha.der s hs f hf
 .rw[e];exact hb.der s hs f hf,fun s hs f hf h=>by
 rcases zkY (a:=a) (b:=b) (s:=s) (f:=f) with e|⟨_,e⟩
 .rw[e] at h ⊢;exact ha.sum s hs f hf h
 .rw[e] at h ⊢;exact hb.sum s hs f hf h⟩
def zba(n:Nat):Dom:=if n=0 then zb4 else if n=1 then zbw else zew zb4 zbw
theorem zjB(n:Nat):DomD (zba n):=by
 unfold zba;repeat' split
 .exact zwY
 .exact zv1
 .exact zzM zwY zv1
theorem zvu{P:Program}{ops:Array Oper}{Q:Exit->Act->World->Prop}{w0:Frm}{A0:Foot}{N:Nat}{Γ:Gam}{H:Hp}{l:List Oper}(s:Nat){r n q:Nat}{ls:List Leaf}{x x':V}(hs:zbx Γ s=some (D.v x))(hR:RowAt H r n q ls)
  (hx:subV (Leaf.own r n) (Leaf.rep (zap q ls)) x x') (h:Tl P ops Q w0 A0 N ((s,some (D.v x'))::Γ) H l):Tl P ops Q w0 A0 N Γ H l:=
 fun a w hSt=>let ⟨E,g⟩:=hSt;h a w ⟨E,g.viewS hs hR hx⟩
theorem zA4{s:Sc}{j:Nat}{p:Af}{c:Rat}(h:(zfU s j p c).2=true):zfW s j p c=some ((zfU s j p c).1.1,(zfU s j p c).1.2.1,(zfU s j p c).1.2.2):=by
 cases e:zfW s j p c with
 |none=>rw[zia e] at h;cases h
 |some x=>rw[zbB e]
theorem zq9{s:Sc}{j:Nat}{p:Af}{c:Rat}(h:(zfU s j p c).2=false):zfW s j p c=none:=by
 cases e:zfW s j p c with
 |none=>rfl
 |some x=>rw[zbB e] at h;cases h
theorem bkP_t{s:Sc}{f:Af}{l:List Mu}{j:Nat}(h:(bkP s f l j).2.2=true):bkS s (some (f,l)) j=some ((bkP s f l j).1,(bkP s f l j).2.1):=by
 cases e:bkS s (some (f,l)) j with
 |none=>rw[zkX e] at h;cases h
 |some x=>rw[zcd e]
theorem bkP_f{s:Sc}{f:Af}{l:List Mu}{j:Nat}(h:(bkP s f l j).2.2=false):bkS s (some (f,l)) j=none:=by
 cases e:bkS s (some (f,l)) j with
 |none=>rfl
 |some x=>rw[zcd e] at h;cases h
def zci(s:Sc)(f:Af):Af×List Mu×Bool:=match bkO s f with|some x=>(x.1,x.2,true)|none=>(fZ,[],false)
section
variable {s:Sc}{f g:Af}{l:List Mu}
theorem zgp(h:bkO s f=some (g,l)):zci s f=(g,l,true):=by unfold zci;rw[h]
theorem zfh(h:bkO s f=none):zci s f=(fZ,[],false):=by unfold zci;rw[h]
theorem zDO(h:(zci s f).2.2=true):bkO s f=some ((zci s f).1,(zci s f).2.1):=by
 cases e:bkO s f with
 |none=>rw[zfh e] at h;cases h
 |some x=>obtain⟨a,b⟩:=x;rw[zgp e]
theorem zDP(h:(zci s f).2.2=false):bkO s f=none:=by
 cases e:bkO s f with
 |none=>rfl
 |some x=>obtain⟨a,b⟩:=x;rw[zgp e] at h;cases h
end
theorem bS_ge(kf:Nat->Nat){j top:Nat}(h:j<top):2*kf j+15<=bS kf top:=by
 have:=znt kf (show j+1<=top from h);simp only[bS] at this;omega
theorem zsi(l:List Mu)(r:Rw)(c:Rat):zcv (l++[⟨r,qOf c⟩])=zbT (zcv l) r c:=by
 rw[zkL];simp only[List.foldl_cons,List.foldl_nil,zaj]
theorem zpB(a:List Mu):∀b:List Mu,zaV a b ((1:Int):Rat)=b.foldl (fun a m=>zbT a m.r m.c.q) a:=fun b=>by
 unfold zaV;congr 1;funext a m;show zbT a m.r (m.c.q*1)=_;rw[Rat.mul_one]
theorem zsj{l:List Mu}(h:CanM l):zcv l=l:=zkT (zoH fun m hm=>⟨(h.pos m hm).2,Rat.le_of_lt (h.pos m hm).1⟩) h fun r=>zwP _ l
theorem zu0{a b:List Mu}(h:CanM a):zcv (a++b)=zaV a b ((1:Int):Rat):=by rw[zkL,zsj h,zpB]
theorem zzx{a b:List Mu}(ha:CanM a)(hb:CanM b):zi7 (a++b):=fun m hm=>by
 rcases zEH.1 hm with hm|hm
 .exact⟨(ha.pos m hm).2,Rat.le_of_lt (ha.pos m hm).1⟩
 .exact⟨(hb.pos m hm).2,Rat.le_of_lt (hb.pos m hm).1⟩
theorem zBD{B C D:Nat}{a b:List Mu}(ha:MB B a)(hb:MB C b)(h1:B<=D)(h2:C<=D):MB D (a++b):=fun m hm=>by
 rcases zEH.1 hm with hm|hm
 .exact(ha m hm).mono h1
 .exact(hb m hm).mono h2
structure BkA(s:Sc)(kf:Nat->Nat)(d:Nat)(f:Af):Prop where
 sb:SB 135001 s
 kb:∀m∈s.lems,∀j:Nat,m.unit=(j:Int)->Hb m.v.q (kf j)
 cd:Cd d d (s.q.g.inp+s.q.g.us.length) f
 lim:d+bS kf s.q.g.us.length<=600000000
section
variable {s:Sc}{kf:Nat->Nat}{d n:Nat}{f g:Af}{l out:List Mu}
structure BkQ(s:Sc)(f:Af)(n:Nat)(g:Af)(l:List Mu):Prop where
 le:n<=s.q.g.us.length
 run:bkN s f (s.q.g.us.length-n)=some (g,l)
theorem BkQ.start:BkQ s f s.q.g.us.length f []:=⟨zEq _,by rw[Nat.sub_self];rfl⟩
theorem BkQ.i(h:BkQ s f n g l)(ha:BkA s kf d f):BkI s d 135001 kf s.q.g.us.length f n g l:=by
 have hle:=h.le;have:=zns ha.sb ha.kb (zEq _) ha.cd (s.q.g.us.length-n) (by omega) g l (by rw[Nat.sub_self,Nat.zero_add];exact h.run)
 rwa [show s.q.g.us.length-(s.q.g.us.length-n)=n by omega] at this
theorem BkQ.cb(h:BkQ s f n g l)(ha:BkA s kf d f):∃b,b<=600000000/\Cd b b (s.q.g.inp+n) g:=by
 obtain⟨b,h1,h2⟩:=(h.i ha).cd;have:=ha.lim;exact⟨b,by omega,h2⟩
theorem BkQ.fok(h:BkQ s f n g l)(ha:BkA s kf d f):FOk 600000000 (s.q.g.inp+n) g:=by
 obtain⟨b,h1,h2⟩:=h.cb ha;exact h2.fok.mono (by omega) (zEq _)
theorem BkQ.fl(h:BkQ s f n g l)(ha:BkA s kf d f):FL 600000001 (s.q.g.inp+s.q.g.us.length) g:=((h.fok ha).mono (zEq _) (by have:=h.le;omega)).fl
theorem BkQ.bd(h:BkQ s f n g l)(ha:BkA s kf d f):MB 2500000000 l/\l.length<=4:=by
 have h1:=(h.i ha).bd;have h2:=(h.i ha).len;have h3:=ha.sb.q.g.u4;have h4:=ha.lim;refine⟨h1.mono ?_,by omega⟩;have hX:bX d 135001 kf s.q.g.us.length<=601000000:=by show d+1+bS kf s.q.g.us.length+5*135001+12<=_;omega
 exact zEw (Nat.mul_le_mul (show s.q.g.us.length-n<=4 by omega) hX) (by decide)
theorem BkQ.idx(h:BkQ s f n g l)(h0:0<n):bkN s f (s.q.g.us.length-(n-1))=bkS s (some (g,l)) (n-1):=by
 have hle:=h.le;rw[show s.q.g.us.length-(n-1)=s.q.g.us.length-n+1 by omega,zhP,h.run,show s.q.g.us.length-1-(s.q.g.us.length-n)=n-1 by omega]
theorem BkQ.next(h:BkQ s f n g l)(h0:0<n)(hb:(bkP s g l (n-1)).2.2=true):BkQ s f (n-1) (bkP s g l (n-1)).1 (bkP s g l (n-1)).2.1:=
 ⟨by have:=h.le;omega,by rw[h.idx h0,bkP_t hb]⟩
theorem BkQ.stop(h:BkQ s f n g l)(h0:0<n)(hb:bkS s (some (g,l)) (n-1)=none):bkO s f=none:=
 zvg (n:=s.q.g.us.length-(n-1)) (by omega) (by rw[h.idx h0,hb])
theorem BkQ.fin(h:BkQ s f 0 g l):bkO s f=some (g,l):=h.run
structure BkR(s:Sc)(f:Af)(n:Nat)(g:Af)(out:List Mu):Prop where
 q:BkQ s f n g (zcv out)
 cof:zi7 out
 mb:MB 700000000 out
 len:out.length+n<=s.q.g.us.length
theorem BkR.start:BkR s f s.q.g.us.length f []:=⟨BkQ.start,fun m hm=>by simp at hm,fun m hm=>by simp at hm,by simp⟩
theorem BkR.zero{p:Af}(h:BkR s f n g out)(h0:0<n)(hp:s.q.g.us[n-1]?=some p)(hc:co g.ts (s.q.g.inp+(n-1))=0):BkR s f (n-1) g out:=
 ⟨⟨by have:=h.q.le;omega,by rw[h.q.idx h0,zhN hp hc]⟩,h.cof,h.mb,by have:=h.len;omega⟩
structure RpB(s:Sc)(b:Af)(k:Rat):Prop where
 fl:FL 700000000 (s.q.g.inp+s.q.g.us.length) b
 pos:0<k
 br:Br k 700000000
theorem BkR.rp{p b:Af}{r:Rw}{k:Rat}(h:BkR s f n g out)(ha:BkA s kf d f)(h0:0<n)(hp:s.q.g.us[n-1]?=some p)(hc:co g.ts (s.q.g.inp+(n-1))≠0)(hr:zfW s (n-1) p (co g.ts (s.q.g.inp+(n-1)))=some (b,r,k)):RpB s b k:=by
 have hle:=h.q.le;have hg:=h.q.fok ha;have hlim:=ha.lim;have hb2:=bS_ge kf (show n-1<s.q.g.us.length by omega);haveI hcb:Br (co g.ts (s.q.g.inp+(n-1))) 600000001:=by
  obtain⟨t,h1,h2⟩:=ziH hc;rw[<-h2,zeT hg.can h1];exact(hg.bd t h1).br
 have hro:=zwc (C:=600000001) ha.sb hp hc hr;have hcd:=(zwd ha.sb.q (fun m hm hu=>ha.kb m hm (n-1) hu) hp hr).fok;exact⟨((hcd.mono (c:=600000000) (by omega) (show _<=s.q.g.inp+s.q.g.us.length by omega)).fl).mono (by omega) (zEq _),hro.pos,hro.br.mono (by omega)⟩
theorem BkR.step{p b:Af}{r:Rw}{k:Rat}(h:BkR s f n g out)(h0:0<n)(hp:s.q.g.us[n-1]?=some p)(hc:co g.ts (s.q.g.inp+(n-1))≠0)(hr:zfW s (n-1) p (co g.ts (s.q.g.inp+(n-1)))=some (b,r,k))(hb:RpB s b k) :
  BkR s f (n-1) (zqH g (s.q.g.inp+(n-1)) b) (out++[⟨r,qOf k⟩]):=by
 refine⟨⟨by have:=h.q.le;omega,by rw[h.q.idx h0,zcx hp hc hr,zsi]⟩,fun m hm=>?_,fun m hm=>?_,by have:=h.len;rw[zEC,List.length_singleton];omega⟩
 .rcases zEH.1 hm with hm|hm
  .exact h.cof m hm
  .rw[List.mem_singleton] at hm;rw[hm];exact⟨by rw[zaj],by rw[zaj];exact Rat.le_of_lt hb.pos⟩
 .rcases zEH.1 hm with hm|hm
  .exact h.mb m hm
  .rw[List.mem_singleton] at hm;rw[hm];haveI:=hb.br;exact Fq.of
theorem BkR.stop{p:Af}(h:BkR s f n g out)(h0:0<n)(hp:s.q.g.us[n-1]?=some p)(hc:co g.ts (s.q.g.inp+(n-1))≠0)(hr:zfW s (n-1) p (co g.ts (s.q.g.inp+(n-1)))=none):bkO s f=none:=
 h.q.stop h0 (zhO hp hc hr)
structure BkF(s:Sc)(f g:Af)(l:List Mu):Prop where
 fok:FOk 600000000 s.q.g.inp g
 can:CanM l
 mb:MB 2500000000 l
 len:l.length<=4
theorem ziU(ha:BkA s kf d f)(h:bkO s f=some (g,l)):BkF s f g l:=by
 have hq:BkQ s f 0 g l:=⟨zEs _,h⟩;exact⟨hq.fok ha,(hq.i ha).can,(hq.bd ha).1,(hq.bd ha).2⟩
theorem zkZ(ha:BkA s kf d f)(h:bkO s f=some (g,l)):(zb4 s g).2.2=true/\zbw s f=((zb4 s g).1,zaV l (zb4 s g).2.1 ((1:Int):Rat),true):=by
 have hq:BkQ s f 0 g l:=⟨zEs _,h⟩;obtain⟨b,hb,hcd⟩:=hq.cb ha;obtain⟨x,m,h1,_⟩:=zsH ha.sb (show Cd b b s.q.g.inp g from hcd);rw[zdv h1];exact⟨rfl,zeJ h h1⟩
theorem zoS(ha:BkA s kf d f):Br (zb4 s f).1 5000000000:=by
 have h:=ha.lim;have hf:=ha.cd.fok;exact(zsJ ha.sb (hf.mono (c:=600000000) (by omega) (zEq _)).fl).mono (by omega)
theorem zsY(ha:BkA s kf d f)(h:bkO s f=some (g,l)):Br (zb4 s g).1 5000000000:=by
 have hf:=(ziU ha h).fok;exact(zsJ ha.sb (hf.mono (zEq _) (show _<=s.q.g.inp+s.q.g.us.length by omega)).fl).mono (by omega)
theorem zqy(ha:BkA s kf d f):Br (zbw s f).1 5000000000:=by
 cases h:bkO s f with
 |none=>rw[zdl h];exact Br.zero.mono (zEs _)
 |some a=>obtain⟨g,l⟩:=a;rw[(zkZ ha h).2];exact zsY ha h
theorem zsI(h:(zb4 s f).2.2=false):zb4 s f=(0,[],false):=by
 unfold zb4 at *;split at h
 .cases h
 .rfl
theorem zqx(h:(zbw s f).2.2=false):zbw s f=(0,[],false):=by
 unfold zbw at *;split at h
 .cases h
 .rfl
theorem zDH(h:(zb4 s f).2.2=false):zew zb4 zbw s f=zbw s f:=by
 cases e:(zbw s f).2.2 with
 |false=>rw[zgY (fun h=>by rw[e] at h;cases h.1),zsI h,zqx e]
 |true=>
  rw[ziS e (.inl h)];rcases hb:zbw s f with⟨x,l,o⟩;rw[hb] at e;rw[show o=true from e]
theorem zzL(h2:(zbw s f).2.2=false):zew zb4 zbw s f=zb4 s f:=zgY (fun e=>by rw[h2] at e;cases e.1)
theorem zzK(h:(zb4 s f).2.2=true)(h2:(zbw s f).1<=(zb4 s f).1):zew zb4 zbw s f=zb4 s f:=
 zgY (fun e=>e.2.elim (fun e=>by rw[e] at h;cases h) (fun e=>Rat.not_le.2 e h2))
theorem zzJ(h:(zbw s f).2.2=true)(h2:¬(zbw s f).1<=(zb4 s f).1):zew zb4 zbw s f=zbw s f:=by
 rw[ziS h (.inr (Rat.not_le.1 h2))];rcases hb:zbw s f with⟨x,l,o⟩;rw[hb] at h;rw[show o=true from h]
theorem zBo{n:Nat}(h:n=0):zba n=zb4:=if_pos h
theorem zBn{n:Nat}(h:n≠0)(h1:n≠2)(h2:n<=2):zba n=zbw:=by unfold zba;rw[if_neg h,if_pos (by omega)]
theorem zoe{n:Nat}(h:n=2):zba n=zew zb4 zbw:=by unfold zba;rw[if_neg (by omega),if_neg (by omega)]
theorem zBm(n:Nat):zba n=zb4\/zba n=zbw\/zba n=zew zb4 zbw:=by
 unfold zba;split
 .exact .inl rfl
 .split
  .exact .inr (.inl rfl)
  .exact .inr (.inr rfl)
theorem zBl(n:Nat)(h:(zba n s f).2.2=false):zba n s f=(0,[],false):=by
 rcases zBm n with e|e|e
 .rw[e] at h ⊢;exact zsI h
 .rw[e] at h ⊢;exact zqx h
 .rw[e] at h ⊢;rcases zkY (a:=zb4) (b:=zbw) (s:=s) (f:=f) with e|⟨_,e⟩
  .rw[e] at h ⊢;exact zsI h
  .rw[e] at h ⊢;exact zqx h
end
theorem zod(n:Nat){s:Sc}(hs:SOk s){f:Af}{j:Nat}(hj:j<s.q.g.us.length)(hf:FOk 3 (s.q.g.inp+j) f):Hb (zba n s f).1 (KB j-4200):=by
 cases h:(zba n s f).2.2 with
 |false=>rw[zBl n h];exact Hb.z
 |true=>exact(zjB n).ok s hs j f hj hf h
theorem zgm{s:Sc}(hs:SOk s){f:Af}(hf:FOk 3 (s.q.g.inp+s.q.g.us.length) f):BkA s KB 13 f:=
 ⟨hs.sb,hs.kb,hf.cq,by have:=zs0 hs.q.g.u4;omega⟩
end Rc
namespace Go.Proofs.YtjeiacoegppoiaaGreatDoor
open Go Go.RowKit Rc
set_option maxHeartbeats 2000000 in
theorem zw3(s:Sc)(f:Af){kf:Nat->Nat}{d:Nat}(ha:BkA s kf d f):CtrT Tryz.prog 15 109 7 (El.all muE ((zci s f).2.1)) [afV (zci s f).1] [V.one (Leaf.val (.bool (zci s f).2.2))] [scV s,afV f]:=by
 refine CtrT.of_body Tryz.func15 rfl Tryz.ntmps15 (zEt rfl) (fun w0 A0 hX=>?_);refine qc_ ?_;have hs:=ha.sb;have hB:=hs.B;have hq:=hs.q;have hd:=hs.d;have hpl:=hs.pl;have hl:=hs.ll;have hg:=hq.g;have hr:=hq.r;have hlo:=hr.lo;have hhi:=hr.hi;have h1:=hg.i1;have h2:=hg.i3;have h3:=hg.u4;have h4:=hg.o1;have h5:=hg.o3;have hfd:=ha.cd.fok;have hlim:=ha.lim;refine zc 5 rfl (tq_ rfl (zb3 rfl (rfl)) (zl 5 rfl (dr_ 0 [] [] (dz 2 rfl (kc_ zAu rfl (zf0 s.q hq) (dz 6 rfl (kc_ fn50 rfl (zm8 s.q.g (by assumption)) (kc_ zzg rfl (zjD f hfd (by omega) (s.q.g.inp+s.q.g.us.length) (zEq _) (by omega)) (dz 2 rfl ?_)))))))));refine zad (za 5 rfl (nz_ [so 2 (D.ptr 0 0),so 3 (D.ptr 1 0),so 4 (D.ptr 2 0)] [hb_ 43 (scL s),hb_ 38 (afL f),hb_ 38 [El.row tmE ([]),Leaf.val (.bool false),zaf ([]),zaf ([])]] rfl rfl (zc 10 rfl (tq_ rfl (zb3 rfl (rfl)) (zl 4 rfl (zgu 8 109 7 rfl rfl (zc 3 rfl (tq_ rfl (jln rfl) ?_))))))));refine tq_ rfl (zaO rfl rfl rfl (r:=(((s.q.g.us.length:Nat):Int)-1)) (w64 (by omega) (by omega) (by omega))) (zl 4 rfl ?_);refine zbq (fun m Γ H=>∃(n:Nat) (v_:Nat) (g:Af) (out:List Mu),n=m/\Γ=[(2,some (D.ptr 0 0)),(3,some (D.ptr 1 0)),(4,some (D.ptr 2 0)),(7,some (D.ptr 3 0)),(8,some (D.v (V.one (Leaf.own 4 v_)))),(9,some (D.val (.int .i64 ((n:Int)-1))))]/\H=[hb_ 43 (scL s),hb_ 38 (afL g),hb_ 38 [El.row tmE ([]),Leaf.val (.bool false),zaf ([]),zaf ([])],hb_ 28 [Leaf.val (.int .i64 ((s.q.g.inp:Nat):Int)),El.row afE s.q.g.us,El.row afE s.q.g.os],hgr 109 7 muE out v_]/\BkR s f n g out) ⟨s.q.g.us.length,0,f,[],rfl,rfl,rfl,BkR.start⟩ rfl ?_;rintro m Γ H ⟨n,v_,g,out,rfl,rfl,rfl,hR⟩;refine zc 2 rfl ?_;refine nz_ [so 2 (D.ptr 0 0),so 3 (D.ptr 1 0),so 4 (D.ptr 2 0),so 7 (D.ptr 3 0),so 8 (D.v (V.one (Leaf.own 4 v_))),so 9 (D.val (.int .i64 ((n:Int)-1)))] [hb_ 43 (scL s),hb_ 38 (afL g),hb_ 38 [El.row tmE ([]),Leaf.val (.bool false),zaf ([]),zaf ([])],hb_ 28 [Leaf.val (.int .i64 ((s.q.g.inp:Nat):Int)),El.row afE s.q.g.us,El.row afE s.q.g.os],hgr 109 7 muE out v_] rfl rfl ?_;refine zc 2 rfl ?_;by_cases h0:0<n
 .refine tq_ rfl (geT rfl) (zl 8 rfl ?_);have hnl:=hR.q.le;obtain⟨p,hp⟩:∃p,s.q.g.us[n-1]?=some p:=⟨_,zEm (by omega)⟩;have hfg:=hR.q.fl ha;haveI:=hfg.fm (by omega);haveI:=hfg.cb;haveI hcb:Br (co g.ts (s.q.g.inp+(n-1))) 600000001:=zpY hfg.bd _;refine zc 4 rfl (tq_ rfl (jad (s.q.g.inp+(n-1)) rfl) (zl 4 rfl (nz_ [so 2 _,so 3 _,so 4 _,so 7 _,so 8 _,so 9 _,so 10 (D.val (.int .i64 ((s.q.g.inp+(n-1):Nat):Int)))] [_,_,_,_,_] rfl rfl (zc 3 rfl (tc_ fn51 rfl (zDE g hfg (by omega) (by omega) (s.q.g.inp+(n-1)) (by omega)) (zl 8 rfl ?_))))));refine tc_ ziB rfl (zdm (qOf ((co g.ts (s.q.g.inp+(n-1))))) ((co g.ts (s.q.g.inp+(n-1)))) (zaj _) (Br.use (by omega))) ?_;by_cases hc:(co g.ts (s.q.g.inp+(n-1)))=0
  .refine tq_ rfl (eqT rfl (by rw[hc];rfl)) (zl 7 rfl (nf_ [5] [so 2 _,so 3 _,so 4 _,so 7 _,so 8 _,so 9 _] [_,_,_,_,_,none] rfl rfl rfl (zc 2 rfl (tq_ rfl (zaO rfl rfl rfl (r:=(((n-1:Nat):Int)-1)) (w64 (by omega) (by omega) (by omega))) (zl 2 rfl (zaK 5 rfl ?_))))));exact nx_ ⟨n-1,v_,g,out,rfl,rfl,rfl,hR.zero h0 hp hc⟩ rfl
  .refine tq_ rfl (eqF rfl (zfy hc)) (zl 9 rfl (eq_ (D.val (.int .i64 (((n-1):Nat):Int))) rfl (congrArg (fun z=>D.val (.int .i64 z)) (show((n:Int)-1)=(((n-1):Nat):Int) by omega)) (zl 1 rfl (tc_ fn53 rfl (rpl_p s hs (n-1) p hp (co g.ts (s.q.g.inp+(n-1))) (by omega)) (zl 10 rfl ?_)))));refine nf_ [5] [so 2 _,so 3 _,so 4 _,so 7 _,so 8 _,so 9 _,so 10 _,so 12 (D.ptr 6 0),so 13 (D.bool ((zfU s (n-1) p (co g.ts (s.q.g.inp+(n-1)))).2))] [_,_,_,_,_,none,hb_ 118 [El.row tmE ((zfU s (n-1) p (co g.ts (s.q.g.inp+(n-1)))).1.1.ts),Leaf.val (.bool (zaR ((zfU s (n-1) p (co g.ts (s.q.g.inp+(n-1)))).1.1.c))),zaf (zaa (zav ((zfU s (n-1) p (co g.ts (s.q.g.inp+(n-1)))).1.1.c))),zaf (zaa (zaC ((zfU s (n-1) p (co g.ts (s.q.g.inp+(n-1)))).1.1.c))),Leaf.val (.int .i64 ((zfU s (n-1) p (co g.ts (s.q.g.inp+(n-1)))).1.2.1.kind)),Leaf.val (.int .i64 ((zfU s (n-1) p (co g.ts (s.q.g.inp+(n-1)))).1.2.1.idx)),Leaf.val (.int .i64 ((zfU s (n-1) p (co g.ts (s.q.g.inp+(n-1)))).1.2.1.lo)),Leaf.val (.int .i64 ((zfU s (n-1) p (co g.ts (s.q.g.inp+(n-1)))).1.2.1.hi)),Leaf.val (.bool (zaR ((zfU s (n-1) p (co g.ts (s.q.g.inp+(n-1)))).1.2.2))),zaf (zaa (zav ((zfU s (n-1) p (co g.ts (s.q.g.inp+(n-1)))).1.2.2))),zaf (zaa (zaC ((zfU s (n-1) p (co g.ts (s.q.g.inp+(n-1)))).1.2.2)))]] rfl rfl rfl ?_;refine zc 5 rfl ?_;refine zao rfl (fun hok=>?_) (fun hok=>?_)
   .refine zc 4 rfl (tq_ rfl (zb3 rfl (rfl)) (zl 3 rfl ?_));exact zo2 (fun _ _ h=>h) hX rfl (rA zj4 rfl rfl rfl rfl) (rowOk.nil rfl (by rw[zfh (hR.stop h0 hp hc (zq9 (by simpa using hok)))] <;> rfl)) rfl (by rw[zfh (hR.stop h0 hp hc (zq9 (by simpa using hok)))];exact afZ.symm) (by rw[zfh (hR.stop h0 hp hc (zq9 (by simpa using hok)))])
   .refine zc 3 rfl ?_;have hrm:=zA4 (s:=s) (j:=(n-1)) (p:=p) (c:=(co g.ts (s.q.g.inp+(n-1)))) (by simpa using hok);have hrb:=hR.rp ha h0 hp hc hrm;have hol:=hR.len;have hfl2:=hrb.fl;haveI:=hrb.br;refine zc 5 rfl (tc_ fn54 rfl (zxo g (zfU s (n-1) p (co g.ts (s.q.g.inp+(n-1)))).1.1 hfg hfl2 (by omega) (by omega) (by omega) (s.q.g.inp+(n-1)) (by omega)) (zl 3 rfl (nz_ [so 2 _,so 3 _,so 4 _,so 7 _,so 8 _,so 9 _,so 12 _] [_,hb_ 38 (afL (zqH g (s.q.g.inp+(n-1)) (zfU s (n-1) p (co g.ts (s.q.g.inp+(n-1)))).1.1)),_,_,_,none,_] rfl rfl (zc 7 rfl ?_))));refine te_ rfl (zae rfl zcE zbi zcU rfl (by decide) (by decide) rfl (by decide) rfl) (te_ rfl (jap (e:=muE) (⟨(zfU s (n-1) p (co g.ts (s.q.g.inp+(n-1)))).1.2.1,qOf (zfU s (n-1) p (co g.ts (s.q.g.inp+(n-1)))).1.2.2⟩) rfl rfl) (zl 4 rfl ?_));refine nf_ [6] [so 2 _,so 3 _,so 4 _,so 7 _,so 8 (D.v (V.one (Leaf.own 4 (v_+1)))),so 9 _] [_,_,_,_,hgr 109 7 muE (out++[⟨(zfU s (n-1) p (co g.ts (s.q.g.inp+(n-1)))).1.2.1,qOf (zfU s (n-1) p (co g.ts (s.q.g.inp+(n-1)))).1.2.2⟩]) (v_+1),none,none] rfl rfl rfl (zc 2 rfl ?_);refine tq_ rfl (zaO rfl rfl rfl (r:=(((n-1:Nat):Int)-1)) (w64 (by omega) (by omega) (by omega))) (zl 2 rfl (zaK 5 rfl ?_));exact nx_ ⟨n-1,_,_,_,rfl,rfl,rfl,hR.step h0 hp hc hrm hrb⟩ rfl
 .refine tq_ rfl (geF rfl) (zl 9 rfl ?_);have hn0:n=0:=by omega
  subst hn0;have hcof:=hR.cof;have hmb:=hR.mb;have hlen:=hR.len;have hbk:=zgp hR.q.fin;refine zc 1 rfl (tq_ rfl (zex (r:=4) (n:=v_) (x:=V.one (Leaf.own 4 v_)) (x':=V.one (El.row muE out)) (zk3 rfl rfl) (RowAt.ofE muE out rfl (by decide)) (by decide) (.inr ⟨rfl,rfl⟩)) (ziY (te_ rfl (zgx (i:=5) rfl fn55 rfl (zng out (by assumption) (by assumption) (by omega) (by omega)) (by decide) rfl) (zl 7 rfl ?_))));refine nf_ [0,3] [so 3 _,so 4 _,so 8 (D.v (V.one (Leaf.own 5 0)))] [none,_,_,none,_,hgr 109 7 muE (zcv out) 0] rfl rfl rfl (zc 8 rfl ?_);exact zo2 (fun _ _ h=>h) hX rfl (rA zj4 rfl rfl rfl rfl) (rowOk.own rfl rfl (by rw[hbk])) rfl (by rw[hbk]) (by rw[hbk])
set_option maxHeartbeats 2000000 in
theorem zw2(s:Sc)(f:Af){kf:Nat->Nat}{d:Nat}(ha:BkA s kf d f):Ctr Tryz.prog 16 [scV s,afV f] (R.tup [afV (zci s f).1,V.one (El.row muE (zci s f).2.1),V.one (Leaf.val (.bool (zci s f).2.2))]):=by
 refine bd_ Tryz.func16 Tryz.ntmps16 rfl (fun w0 A0=>?_);have hs:=ha.sb;have hB:=hs.B;have hq:=hs.q;have hd:=hs.d;have hpl:=hs.pl;have hl:=hs.ll;have hg:=hq.g;have hr:=hq.r;have hlo:=hr.lo;have hhi:=hr.hi;have h1:=hg.i1;have h2:=hg.i3;have h3:=hg.u4;have h4:=hg.o1;have h5:=hg.o3;have hfd:=ha.cd.fok;have hlim:=ha.lim;refine zc 11 rfl (dr_ 0 [] [] (dz 2 rfl (kc_ zzf rfl (zeq s.q hq) (dz 6 rfl (kc_ zAv rfl (zjo s.q.g (by assumption)) (kc_ zAw rfl (zfT f hfd (by omega) (s.q.g.inp+s.q.g.us.length) (zEq _) (by omega)) (dz 2 rfl (zad (za 5 rfl ?_)))))))));refine nz_ [so 2 (D.ptr 0 0),so 3 _,so 4 _] [hb_ 43 (scL s),hb_ 38 (afL f),_] rfl rfl (zc 16 rfl (tq_ rfl (jln rfl) (tq_ rfl (zaO rfl rfl rfl (r:=(((s.q.g.us.length:Nat):Int)-1)) (w64 (by omega) (by omega) (by omega))) (zl 4 rfl ?_))));refine zbq (fun m Γ H=>∃(n:Nat) (g:Af) (l:List Mu),n=m/\Γ=[(2,some (D.ptr 0 0)),(3,some (D.ptr 1 0)),(4,some (D.ptr 2 0)),(7,some (D.v (V.one (El.row muE l)))),(9,some (D.val (.int .i64 ((n:Int)-1))))]/\H=[hb_ 43 (scL s),hb_ 38 (afL g),hb_ 38 [El.row tmE ([]),Leaf.val (.bool false),zaf ([]),zaf ([])]]/\BkQ s f n g l) ⟨s.q.g.us.length,f,[],rfl,rfl,rfl,BkQ.start⟩ rfl ?_;rintro m Γ H ⟨n,g,l,rfl,rfl,rfl,hR⟩;refine zc 2 rfl (nz_ [so 2 (D.ptr 0 0),so 3 (D.ptr 1 0),so 4 (D.ptr 2 0),so 7 (D.v (V.one (El.row muE l))),so 9 (D.val (.int .i64 ((n:Int)-1)))] [hb_ 43 (scL s),hb_ 38 (afL g),hb_ 38 [El.row tmE ([]),Leaf.val (.bool false),zaf ([]),zaf ([])]] rfl rfl (zc 2 rfl ?_));by_cases h0:0<n
 .refine tq_ rfl (geT rfl) (zl 8 rfl ?_);have hnl:=hR.le;obtain⟨p,hp⟩:∃p,s.q.g.us[n-1]?=some p:=⟨_,zEm (by omega)⟩;have hfg:=hR.fl ha;haveI:=hfg.fm (by omega);haveI:=hfg.cb;obtain⟨hMl,hll⟩:=hR.bd ha;refine zc 5 rfl (eq_ (D.val (.int .i64 (((n-1):Nat):Int))) rfl (congrArg (fun z=>D.val (.int .i64 z)) (show((n:Int)-1)=(((n-1):Nat):Int) by omega)) (tc_ fn57 rfl (rpl_r s hs (n-1) p hp g hfg (by omega) l hMl (by omega) (by omega)) (zl 10 rfl ?_)));refine nz_ [so 2 _,so 3 _,so 4 _,so 7 (D.v (V.one (El.row muE ((bkP s g l (n-1)).2.1)))),so 8 (D.bool ((bkP s g l (n-1)).2.2)),so 9 _] [_,hb_ 38 (afL ((bkP s g l (n-1)).1)),_] rfl rfl (zc 5 rfl ?_);refine zao rfl (fun hok=>?_) (fun hok=>?_)
  .refine zc 8 rfl ?_;exact r3_ hq_ rfl (by rw[zfh (hR.stop h0 (bkP_f (by simpa using hok)))];show _=R.tup [afV fZ,V.one (El.row muE []),_];rw[afZ] <;> rfl)
  .refine zc 5 rfl (tq_ rfl (zaO rfl rfl rfl (r:=(((n-1:Nat):Int)-1)) (w64 (by omega) (by omega) (by omega))) (zl 2 rfl ?_));exact nx_ ⟨n-1,_,_,rfl,rfl,rfl,hR.next h0 (by simpa using hok)⟩ rfl
 .refine tq_ rfl (geF rfl) (zl 9 rfl ?_);have hn0:n=0:=by omega
  subst hn0;refine nf_ [0] [so 3 _,so 4 _,so 7 _] [none,_,_] rfl rfl rfl (zc 8 rfl ?_);exact r3_ hq_ rfl (by rw[zgp hR.fin])
set_option maxHeartbeats 2000000 in
theorem zll(s:Sc)(f:Af){kf:Nat->Nat}{d:Nat}(ha:BkA s kf d f):Ctr Tryz.prog 19 [V.agg [],scV s,afV f] (R.tup [qV (qOf (zbw s f).1),V.one (El.row muE (zbw s f).2.1),V.one (Leaf.val (.bool (zbw s f).2.2))]):=by
 refine bd_ Tryz.func19 Tryz.ntmps19 rfl (fun w0 A0=>?_);have hs:=ha.sb;have hB:=hs.B;have hq:=hs.q;have hd:=hs.d;have hpl:=hs.pl;have hl:=hs.ll;have hg:=hq.g;have hr:=hq.r;have hlo:=hr.lo;have hhi:=hr.hi;have h1:=hg.i1;have h2:=hg.i3;have h3:=hg.u4;have h4:=hg.o1;have h5:=hg.o3;refine zc 14 rfl (ziY (te_ rfl (zgx (i:=4) rfl zC4 rfl (zw3 s f ha) (by decide) rfl) (zl 11 rfl ?_)));refine nz_ [so 3 (D.ptr 0 0),so 4 (D.ptr 1 0),so 5 (D.ptr 2 0),so 6 (D.ptr 3 0),so 9 (D.v (V.one (Leaf.own 4 0))),so 10 (D.bool ((zci s f).2.2))] [hb_ 56 [],hb_ 43 (scL s),hb_ 38 (afL ((zci s f).1)),hb_ 36 [Leaf.val (.bool false),zaf ([]),zaf ([])],hgr 109 7 muE ((zci s f).2.1) 0] rfl rfl (zc 5 rfl ?_);refine zao rfl (fun hok=>?_) (fun hok=>?_)
 .refine zc 8 rfl ?_;exact r3_ hq_ rfl (by rw[zdl (zDP (by simpa using hok))];show _=R.tup [qV (qOf 0),_,_];rw[<-zcf] <;> rfl)
 .refine zc 3 rfl ?_;have hbk:=zDO (s:=s) (f:=f) (by simpa using hok);have hbf:=ziU ha hbk;obtain⟨hbx,hsy⟩:=zkZ ha hbk;have hgf:FOk 600000000 (s.q.g.inp+s.q.g.us.length) (zci s f).1:=hbf.fok.mono (zEq _) (by omega);haveI:=zsY ha hbk;have hbd:=zhL hs hgf.fl;have hl1:=hbf.len;have hl2:=hbd.len;have hmA:=hbf.mb;have hmB:=hbd.bd;have hcof:zi7 ((zci s f).2.1++(zb4 s (zci s f).1).2.1):=zzx hbf.can hbd.can;have hmb:MB 9000000000 ((zci s f).2.1++(zb4 s (zci s f).1).2.1):=zBD hmA hmB (by omega) (by omega);have hcl:((zci s f).2.1++(zb4 s (zci s f).1).2.1).length<=19:=by rw[zEC];omega
  refine zc 1 rfl (tq_ rfl (zk5 (i:=0) rfl rfl rfl (by decide) rfl (by kernel_rfl) (by kernel_rfl)) (tq_ rfl (zvD (i:=0) rfl rfl rfl (by decide) ty54 rfl (zEt rfl) rfl) (zl 2 rfl (tc_ fn58 rfl (zzD s hs (zci s f).1 hgf (by omega)) (zl 4 rfl (is_ true rfl (hbx) (zl 8 rfl ?_)))))));refine nf_ [0,1,2] [so 6 _,so 9 _,so 10 (D.bool true),so 11 (D.ptr 5 0),so 12 (D.v (V.one (El.row muE ((zb4 s ((zci s f).1)).2.1))))] [none,none,none,_,_,hb_ 36 (qL ((zb4 s ((zci s f).1)).1))] rfl rfl rfl (zc 12 rfl (te_ rfl (jal rfl rfl) ?_));refine zvu 40 (x':=V.one (El.row muE ((zci s f).2.1++(zb4 s ((zci s f).1)).2.1))) rfl (RowAt.ofE muE ((zci s f).2.1++(zb4 s ((zci s f).1)).2.1) rfl (by decide)) (.inr ⟨rfl,rfl⟩) (ziY (te_ rfl (zgx (i:=6) rfl fn55 rfl (zng ((zci s f).2.1++(zb4 s ((zci s f).1)).2.1) (by assumption) (by assumption) (by omega) (by omega)) (by decide) rfl) (zl 8 rfl ?_)));refine nz_ [so 6 _,so 11 _,so 13 (D.v (V.one (Leaf.own 6 0)))] [none,none,none,_,hgr 109 7 muE ((zci s f).2.1++(zb4 s ((zci s f).1)).2.1) 1,_,hgr 109 7 muE (zcv ((zci s f).2.1++(zb4 s ((zci s f).1)).2.1)) 0] rfl rfl (zc 8 rfl ?_);refine zgs 7 (x':=V.one (El.row muE (zcv ((zci s f).2.1++(zb4 s ((zci s f).1)).2.1)))) rfl (RowAt.ofE muE (zcv ((zci s f).2.1++(zb4 s ((zci s f).1)).2.1)) rfl (by decide)) (.inr ⟨rfl,rfl⟩) ?_;exact r3_ hq_ rfl (by rw[hsy,<-zu0 hbf.can])
set_option maxHeartbeats 2000000 in
theorem symr(s:Sc)(f:Af){kf:Nat->Nat}{d:Nat}(ha:BkA s kf d f):Ctr Tryz.prog 20 [scV s,afV f] (R.tup [qV (qOf (zbw s f).1),V.one (El.row muE (zbw s f).2.1),V.one (Leaf.val (.bool (zbw s f).2.2))]):=by
 refine bd_ Tryz.func20 Tryz.ntmps20 rfl (fun w0 A0=>?_);have hs:=ha.sb;have hB:=hs.B;have hq:=hs.q;have hd:=hs.d;have hpl:=hs.pl;have hl:=hs.ll;have hg:=hq.g;have hr:=hq.r;have hlo:=hr.lo;have hhi:=hr.hi;have h1:=hg.i1;have h2:=hg.i3;have h3:=hg.u4;have h4:=hg.o1;have h5:=hg.o3;refine zc 13 rfl (tc_ fn16 rfl (zw2 s f ha) (zl 12 rfl (nf_ [1] [so 2 (D.ptr 0 0),so 4 (D.ptr 2 0),so 7 (D.ptr 3 0),so 8 (D.v (V.one (El.row muE ((zci s f).2.1)))),so 9 (D.bool ((zci s f).2.2))] [hb_ 43 (scL s),none,hb_ 36 [Leaf.val (.bool false),zaf ([]),zaf ([])],hb_ 38 (afL ((zci s f).1))] rfl rfl rfl (zc 5 rfl ?_))));refine zao rfl (fun hok=>?_) (fun hok=>?_)
 .refine zc 8 rfl ?_;exact r3_ hq_ rfl (by rw[zdl (zDP (by simpa using hok))];show _=R.tup [qV (qOf 0),_,_];rw[<-zcf] <;> rfl)
 .refine zc 3 rfl ?_;have hbk:=zDO (s:=s) (f:=f) (by simpa using hok);have hbf:=ziU ha hbk;obtain⟨hbx,hsy⟩:=zkZ ha hbk;have hgf:FOk 600000000 (s.q.g.inp+s.q.g.us.length) (zci s f).1:=hbf.fok.mono (zEq _) (by omega);haveI:=zsY ha hbk;have hbd:=zhL hs hgf.fl;have hl1:=hbf.len;have hl2:=hbd.len;have hmA:=hbf.mb;have hmB:=hbd.bd;refine zc 3 rfl (tc_ fn41 rfl (boxr s hs (zci s f).1 hgf (by omega)) (zl 11 rfl (nf_ [0,3] [so 4 _,so 8 _,so 10 (D.ptr 4 0),so 11 (D.v (V.one (El.row muE ((zb4 s ((zci s f).1)).2.1))))] [none,none,_,none,hb_ 36 (qL ((zb4 s ((zci s f).1)).1))] rfl rfl rfl (dr_ 0 [(5,2)] [2] (dz 3 rfl (kc_ zmA rfl (zmy 1 (by decide) (by decide)) ?_))))));refine kc_ fn59 rfl (zrF (zci s f).2.1 (zb4 s (zci s f).1).2.1 ((1:Int):Rat) hmA hmB (by omega) (by omega) (by omega)) (dz 3 rfl (zad (za 1 rfl ?_)));exact r3_ hq_ rfl (by rw[hsy])
theorem zj5  : Ctr Tryz.prog 34 [V.agg []] (R.one (V.one (Leaf.val (.string ⟨#[115,121,109,98,111,108,105,99]⟩)))):=by
 refine bd_ Tryz.func34 Tryz.ntmps34 rfl (fun w0 A0=>?_);refine zc 11 rfl ?_;exact r1_ hq_ rfl rfl
theorem zzG(t1 t2:Nat)(c1 c2:List Value):Ctr Tryz.prog 79 [V.one (Leaf.val (ifV t1 c1)),V.one (Leaf.val (ifV t2 c2))] (R.one (V.one (Leaf.val (ifV 193 [ifV t1 c1,ifV t2 c2])))):=by
 refine bd_ Tryz.func79 Tryz.ntmps79 rfl (fun w0 A0=>?_);refine zc 9 rfl (tq_ rfl (zgw rfl rfl rfl (by kernel_rfl)) (zl 2 rfl (tq_ rfl (zgw rfl rfl rfl (by kernel_rfl)) (zl 11 rfl (tq_ rfl (zfj (vs:=[ifV t1 c1,ifV t2 c2]) rfl rfl (by kernel_rfl)) (zl 3 rfl ?_))))));exact r1_ hq_ rfl rfl
theorem zp8 (d1 d2:Dom) (t1 f1 t2 f2:Nat) (c1 c2:List Value) (ho1:c1.all Value.oneCell'=true) (ho2:c2.all Value.oneCell'=true) (hm1:zf6 Tryz.prog t1 "Lower" = some f1) (hm2:zf6 Tryz.prog t2 "Lower" = some f2) (hf1:zar Tryz.prog f1) (hf2:zar Tryz.prog f2) (s:Sc) (f:Af) {B C:Nat} [b1:Br (d1 s f).1 B] [b2:Br (d2 s f).1 C] (hB:B<=100000000000) (hC:C<=100000000000) (hL1:Ctr Tryz.prog f1 [V.agg (zqr c1),scV s,afV f] (R.tup [qV (qOf (d1 s f).1),V.one (El.row muE (d1 s f).2.1),V.one (Leaf.val (.bool (d1 s f).2.2))])) (hL2:Ctr Tryz.prog f2 [V.agg (zqr c2),scV s,afV f] (R.tup [qV (qOf (d2 s f).1),V.one (El.row muE (d2 s f).2.1),V.one (Leaf.val (.bool (d2 s f).2.2))])):Ctr Tryz.prog 276 [V.agg [Leaf.val (ifV t1 c1),Leaf.val (ifV t2 c2)],scV s,afV f] (R.tup [qV (qOf (zew d1 d2 s f).1),V.one (El.row muE (zew d1 d2 s f).2.1),V.one (Leaf.val (.bool (zew d1 d2 s f).2.2))]):=by
 refine bd_ Tryz.func276 Tryz.ntmps276 rfl (fun w0 A0=>?_);refine zc 16 rfl (te_ rfl (zc2 rfl rfl hm1 hf1 rfl (hL1) ho1) (zl 16 rfl (te_ rfl (zc2 rfl rfl hm2 hf2 rfl (hL2) ho2) (zl 15 rfl ?_))));refine zdT rfl (fun hb2=>?_) (fun hb2=>?_)
 .refine zl 24 rfl ?_;exact r3_ hq_ rfl (by rw[zgY (fun h=>by rw[hb2] at h;exact absurd h.1 (by decide))])
 .refine zl 3 rfl ?_;refine zdT rfl (fun hb1=>?_) (fun hb1=>?_)
  .refine zl 2 rfl (tc_ zuE rfl (zui (qOf ((d2 s f).1)) ((d2 s f).1) (zaj _) (Br.use (by omega)) (qOf ((d1 s f).1)) ((d1 s f).1) (zaj _) (Br.use (by omega))) ?_);by_cases hlt:(d1 s f).1<(d2 s f).1
   .refine tq_ rfl (gtT rfl (by rw[zdu];exact hlt)) (zl 14 rfl ?_);exact r3_ hq_ rfl (by rw[ziS hb2 (.inr hlt)])
   .refine tq_ rfl (gtF rfl (by rw[zdu];exact hlt)) (zl 17 rfl ?_);exact r3_ hq_ rfl (by rw[zgY (fun h=>h.2.elim (fun e=>by rw[e] at hb1;exact absurd hb1 (by decide)) hlt)])
  .refine zl 18 rfl ?_;exact r3_ hq_ rfl (by rw[ziS hb2 (.inl (by simpa using hb1))])
set_option maxHeartbeats 2000000 in
theorem zxN(n:Nat)(hn:n<=2)(s:Sc)(f:Af){kf:Nat->Nat}{d:Nat}(ha:BkA s kf d f):Ctr Tryz.prog 43 [V.one (Leaf.val (.int .i64 ((n:Int)))),scV s,afV f] (R.tup [qV (qOf ((zba n) s f).1),V.one (El.row muE ((zba n) s f).2.1),V.one (Leaf.val (.bool ((zba n) s f).2.2))]):=by
 refine bd_ Tryz.func43 Tryz.ntmps43 rfl (fun w0 A0=>?_);have hs:=ha.sb;have hB:=hs.B;have hq:=hs.q;have hd:=hs.d;have hpl:=hs.pl;have hl:=hs.ll;have hg:=hq.g;have hr:=hq.r;have hlo:=hr.lo;have hhi:=hr.hi;have h1:=hg.i1;have h2:=hg.i3;have h3:=hg.u4;have h4:=hg.o1;have h5:=hg.o3;have hlim:=ha.lim;have hfo:=ha.cd.fok;haveI:=zoS ha;haveI:=zqy ha;refine zc 13 rfl (tc_ fn41 rfl (boxr s hs f hfo (by omega)) (zl 11 rfl (nz_ [so 0 (D.val (.int .i64 (n:Int))),so 4 (D.ptr 0 0),so 5 (D.ptr 1 0),so 6 (D.ptr 2 0),so 9 (D.ptr 3 0),so 10 (D.v (V.one (El.row muE ((zb4 s f).2.1)))),so 11 (D.bool ((zb4 s f).2.2))] [hb_ 43 (scL s),hb_ 38 (afL f),_,hb_ 36 (qL ((zb4 s f).1))] rfl rfl (zc 3 rfl ?_))));refine tc_ fn20 rfl (symr s f ha) (zl 12 rfl (nf_ [0,1] [so 0 _,so 6 _,so 9 _,so 10 _,so 11 _,so 12 (D.ptr 4 0),so 13 (D.v (V.one (El.row muE ((zbw s f).2.1)))),so 14 (D.bool ((zbw s f).2.2))] [none,none,_,_,hb_ 36 (qL ((zbw s f).1))] rfl rfl rfl (zc 2 rfl ?_)));by_cases h0:n=0
 .refine tq_ rfl (eqT rfl) (zl 21 rfl (nf_ [4] [so 6 _,so 9 _,so 10 _,so 11 _] [none,none,_,_,none] rfl rfl rfl (zc 9 rfl ?_)));exact r3_ hq_ rfl (by rw[zBo h0])
 .refine tq_ rfl (eqF rfl) (zl 2 rfl ?_);by_cases h2:n=2
  .refine tq_ rfl (eqT rfl) (zl 4 rfl ?_);refine zdT rfl (fun hok=>?_) (fun hok=>?_)
   .refine zl 16 rfl (nf_ [3] [so 6 _,so 12 _,so 13 _,so 14 _] [none,none,_,none,_] rfl rfl rfl (zc 9 rfl ?_));exact r3_ hq_ rfl (by rw[zoe h2,zDH hok])
   .refine zl 3 rfl ?_;refine zdT rfl (fun his=>?_) (fun his=>?_)
    .refine zl 2 rfl (tc_ zzi rfl (zmP (qOf ((zb4 s f).1)) ((zb4 s f).1) (zaj _) (Br.use (by omega)) (qOf ((zbw s f).1)) ((zbw s f).1) (zaj _) (Br.use (by omega))) ?_);by_cases hle:(zbw s f).1<=(zb4 s f).1
     .refine tq_ rfl (geT rfl (zkO.2 hle)) (zl 7 rfl (nf_ [4] [so 6 _,so 9 _,so 10 _,so 11 _] [none,none,_,_,none] rfl rfl rfl (zc 9 rfl ?_)));exact r3_ hq_ rfl (by rw[zoe h2,zzK hok hle])
     .refine tq_ rfl (geF rfl (fun e=>hle (zkO.1 e))) (zl 9 rfl (nf_ [3] [so 6 _,so 12 _,so 13 _,so 14 _] [none,none,_,none,_] rfl rfl rfl (zc 9 rfl ?_)));exact r3_ hq_ rfl (by rw[zoe h2,zzJ (by simpa using his) hle])
    .refine zl 11 rfl (nf_ [4] [so 6 _,so 9 _,so 10 _,so 11 _] [none,none,_,_,none] rfl rfl rfl (zc 9 rfl ?_));exact r3_ hq_ rfl (by rw[zoe h2,zzL (by simpa using his)])
  .refine tq_ rfl (eqF rfl) (zl 20 rfl (nf_ [3] [so 6 _,so 12 _,so 13 _,so 14 _] [none,none,_,none,_] rfl rfl rfl (zc 9 rfl ?_)));exact r3_ hq_ rfl (by rw[zBn h0 h2 hn])
theorem zkc(l:List Mu)(hl:l.length<=1000000):Ctr Tryz.prog 18 [V.one (El.row muE l),V.one (El.row muE l)] (R.one (V.one (Leaf.val (.bool true)))):=by
 refine bd_ Tryz.func18 Tryz.ntmps18 rfl (fun w0 A0=>?_);refine zc 9 rfl (tq_ rfl (jln rfl) (zl 1 rfl (tq_ rfl (jln rfl) (tq_ rfl (neF rfl) (zl 12 rfl (zbq (fun m Γ H=>∃(i:Nat),l.length-i=m/\Γ=[(0,some (D.v (V.one (El.row muE l)))),(1,some (D.v (V.one (El.row muE l)))),(5,some (D.val (.int .i64 (i:Int))))]/\H=[]/\i<=l.length) ⟨0,rfl,rfl,rfl,zEs _⟩ rfl ?_))))));rintro m Γ H ⟨i,rfl,rfl,rfl,hi0⟩;refine zc 5 rfl (tq_ rfl (jln rfl) ?_);by_cases hi:i<l.length
 .refine tq_ rfl (ltT rfl) (zl 8 rfl ?_);obtain⟨x,hx⟩:∃x,l[i]?=some x:=⟨_,zEm hi⟩;refine dr_ 0 [] [] (dz 2 rfl (kq_ rfl (jix i hx rfl) (kq_ rfl (jft rfl) (kq_ rfl (jlr rfl) (dz 2 rfl (kq_ rfl (jix i hx rfl) (kq_ rfl (jft rfl) (kq_ rfl (jlr rfl) (kq_ rfl (zAd rfl rfl rfl zlB (d:=false) (by rw[zzr rfl];rfl)) ?_)))))))));refine dz 3 rfl (kq_ rfl (jix i hx rfl) (kq_ rfl (jfr rfl) (kq_ rfl (jlr rfl) (dz 2 rfl (kq_ rfl (jix i hx rfl) (kq_ rfl (jfr rfl) (kq_ rfl (jlr rfl) (kc_ zr3 rfl (zeL x.c x.c) (zgQ true rfl (zcm _) ?_)))))))));refine dz 2 rfl (zad (za 7 rfl (tq_ rfl (jad (i+1) rfl) (zl 2 rfl ?_))));exact nx_ ⟨i+1,rfl,rfl,rfl,hi⟩ rfl
 .refine tq_ rfl (ltF rfl) (zl 13 rfl ?_);exact r1_ hq_ rfl rfl
theorem znW(s:Sc)(hs:SOk s)(j:Nat)(up:Bool)(x:Rat)(pf:List Mu){B:Nat}[Br x B](hx:B<=100000000):Ctr Tryz.prog 92 [scV s,lmV ⟨(j:Int),up,qOf x,pf⟩] (R.one (V.one (Leaf.val (.bool (zck s.lems j up x))))):=by
 refine bd_ Tryz.func92 Tryz.ntmps92 rfl (fun w0 A0=>?_);have hq:=hs.q;have hd:=hs.d;have hpl:=hs.pl;have hB:=hs.B;have hll:=hs.ll;have hg:=hq.g;have hr:=hq.r;have hlo:=hr.lo;have hhi:=hr.hi;have g1:=hg.i1;have g2:=hg.i3;have g3:=hg.u4;have g4:=hg.o1;have g5:=hg.o3;refine zc 12 rfl (tc_ zzh rfl (ziR s (by assumption) (by omega) (by omega) (j:Int)) (zl 14 rfl ?_));refine zao rfl (fun hup=>?_) (fun hup=>?_)
 .refine zc 1 rfl (dr_ 0 [] [] (dz 1 rfl ?_));by_cases hv:(zak s.lems (j:Int)).2=0
  .refine kq_ rfl (eqT rfl) (dz 14 rfl (zad (za 1 rfl ?_)));exact r1_ hq_ rfl (by have hu_:up=true:=hup;rw[hu_,zfO (.inl hv)])
  .refine kq_ rfl (eqF rfl) (dz 5 rfl ?_);obtain⟨y,hy,_,_,hly,hy0,hyl⟩:=zbJ hv;haveI hyB:=hB y (zEn hy);refine dz 1 rfl (kq_ rfl (jsb (((zak s.lems (j:Int)).2)-1) rfl) (kq_ rfl (jix ((zak s.lems (j:Int)).2-1) hy rfl) (kq_ rfl (jft rfl) (kq_ rfl (jlr rfl) (kc_ zzi rfl (zmP (qOf (x)) (x) (zaj _) (Br.use (by omega)) y.v (y.v.q) rfl (Fq.use (x:=y.v) (by omega))) ?_)))));by_cases hc:x<lv s.lems (zak s.lems (j:Int)).2
   .refine kq_ rfl (ltT rfl (by rw[zfI,<-hly];exact hc)) (dz 2 rfl (zad (za 1 rfl ?_)));exact r1_ hq_ rfl (by have hu_:up=true:=hup;rw[hu_,zfO (.inr hc)])
   .refine kq_ rfl (ltF rfl (by rw[zfI,<-hly];exact hc)) (dz 2 rfl (zad (za 1 rfl ?_)));exact r1_ hq_ rfl (by have hu_:up=true:=hup;rw[hu_,zlo hv hc])
 .refine zc 3 rfl (dr_ 0 [] [] (dz 1 rfl ?_));by_cases hv:(zak s.lems (j:Int)).1=0
  .refine kq_ rfl (eqT rfl) (dz 14 rfl (zad (za 1 rfl ?_)));exact r1_ hq_ rfl (by have hu_:up=false:=hup;rw[hu_,zfP (.inl hv)])
  .refine kq_ rfl (eqF rfl) (dz 5 rfl ?_);obtain⟨y,hy,_,_,hly,hy0,hyl⟩:=zbv hv;haveI hyB:=hB y (zEn hy);refine dz 1 rfl (kq_ rfl (jsb (((zak s.lems (j:Int)).1)-1) rfl) (kq_ rfl (jix ((zak s.lems (j:Int)).1-1) hy rfl) (kq_ rfl (jft rfl) (kq_ rfl (jlr rfl) (kc_ zzi rfl (zmP (qOf (x)) (x) (zaj _) (Br.use (by omega)) y.v (y.v.q) rfl (Fq.use (x:=y.v) (by omega))) ?_)))));by_cases hc:lv s.lems (zak s.lems (j:Int)).1<x
   .refine kq_ rfl (gtT rfl (by rw[zdu,<-hly];exact hc)) (dz 2 rfl (zad (za 1 rfl ?_)));exact r1_ hq_ rfl (by have hu_:up=false:=hup;rw[hu_,zfP (.inr hc)])
   .refine kq_ rfl (gtF rfl (by rw[zdu,<-hly];exact hc)) (dz 2 rfl (zad (za 1 rfl ?_)));exact r1_ hq_ rfl (by have hu_:up=false:=hup;rw[hu_,zlp hv hc])
end Go.Proofs.YtjeiacoegppoiaaGreatDoor
namespace Rc
open Go Go.RowKit
def zas(l:List Nat):Sc:=if zhu l%5<3 then zt4 (zba (zhu l%5)) (zoD l) 0 else zoD l
theorem zDz{l:List Nat}(h:zhu l%5<3):zas l=zt4 (zba (zhu l%5)) (zoD l) 0:=if_pos h
theorem zDA{l:List Nat}(h:¬zhu l%5<3):zas l=zoD l:=if_neg h
theorem zgT(l:List Nat):SOk (zas l)/\(zas l).lems.length<=16/\(zas l).q=(zoD l).q/\(zas l).path=(zoD l).path:=by
 obtain⟨h,h8⟩:=zse l;unfold zas;split
 .obtain⟨h1,h2⟩:=zq2 (zjB (zhu l%5)).ok h (by omega) 0;exact⟨h1,by omega,rfl,rfl⟩
 .exact⟨h,by omega,rfl,rfl⟩
end Rc
namespace Rc
open Go Go.RowKit Go.ChangeShapes Go.WideShapes
def zsb(P:Program)(t:Nat):Option (List (Nat×Nat)):=
 match P.underlying t with
 |some (.struct fs)=>some (fs.toList.map fun f=>(f.offset,f.type))
 |_=>none
theorem ziC{P:Program}{t:Nat}{l:List (Nat×Nat)}(h:zsb P t=some l):∃fs,P.underlying t=some (.struct fs)/\fs.toList.map (fun f=>(f.offset,f.type))=l:=by
 unfold zsb at h
 cases hu:P.underlying t with
 |none=>rw[hu] at h;simp at h
 |some d=>
  rw[hu] at h;cases d <;> simp only[reduceCtorEq] at h;exact⟨_,rfl,by simpa using h⟩
section
variable {H:Type}{enc:TypeId×Value->H}{P:Program}{w:World}{base:Nat}{held:Bool}
@[reducible] def zkx(w:World):Foot:=Foot.of fun k _=>k<w.heap.size
theorem zfZ{t:Nat}{l:List (Nat×Nat)}{cs:List Value}{fuel:Nat}{x:DataW H×List MemPlace}{spare:Nat->Bool}(hf:zsb P t=some l)(h:DataW.trod enc P w base spare held fuel t cs=some x) :
  cs.length=P.cellsOf t/\∃n,∀(i off ty:Nat),l[i]?=some (off,ty)->∃y,DataW.trod enc P w base spare held n ty ((cs.drop off).take (P.cellsOf ty))=some y:=by
 obtain⟨fs,hu,hl⟩:=ziC hf;obtain⟨xs,n,_,_,hlen,hxs,hall⟩:=DataW.trod_struct hu h;refine⟨hlen,n,fun i off ty hi=>?_⟩;rw[<-hl,List.getElem?_map] at hi
 cases hfi:fs.toList[i]? with
 |none=>rw[hfi] at hi;simp at hi
 |some f=>
  rw[hfi] at hi;simp only[Option.map_some,zEp,zEr] at hi;obtain⟨rfl,rfl⟩:=hi;have hfi':fs[i]?=some f:=by simpa using hfi
  have:=hall i f hfi';have hlt:i<xs.length:=by rw[hxs];exact(zEL.1 hfi').1
  exact⟨xs[i],by rw[this,zEm hlt]⟩
theorem zmV{t:Nat}{cs:List Value}{fuel:Nat}{x:DataW H×List MemPlace}{spare:Nat->Bool}(ht:P.underlying t=some .bool)(h:DataW.trod enc P w base spare held fuel t cs=some x):∃b,cs=[.bool b]:=by
 cases fuel with
 |zero=>simp[DataW.trod] at h
 |succ n=>
  unfold DataW.trod at h;rw[ht] at h;split at h <;> simp_all
theorem zjx{t:Nat}{k:IntKind}{cs:List Value}{fuel:Nat}{x:DataW H×List MemPlace}{spare:Nat->Bool}(ht:P.underlying t=some (.int k))(h:DataW.trod enc P w base spare held fuel t cs=some x) :
  ∃n,cs=[.int k n]/\(Lit.int k n).wf=true:=by
 obtain⟨n,rfl,_,hw⟩:=DataW.trod_int ht h;exact⟨n,rfl,hw⟩
theorem zvN{n:Int}(h:(Lit.int .u32 n).wf=true):0<=n/\n<=4294967295:=by
 simp[Lit.wf,IntKind.min,IntKind.max,IntKind.bits,IntKind.signed] at h;omega
theorem zAA{n:Int}(h:(Lit.int .u8 n).wf=true):0<=n/\n<=255:=by
 simp[Lit.wf,IntKind.min,IntKind.max,IntKind.bits,IntKind.signed] at h;omega
theorem zAB{n:Int}(h:(Lit.int .i64 n).wf=true):-9223372036854775808<=n/\n<=9223372036854775807:=by
 simp[Lit.wf,IntKind.min,IntKind.max,IntKind.bits,IntKind.signed] at h;omega
theorem zkR{a:Addr}{v:Value}(h:w.cell? a=some v):a.block<w.heap.size:=by
 unfold World.cell? at h
 cases hb:w.heap[a.block]? with
 |none=>rw[hb] at h;simp at h
 |some o=>exact(zEL.1 hb).1
theorem zrn{t u:Nat}{cs:List Value}{fuel:Nat}{x:DataW H×List MemPlace}(ht:P.underlying t=some (.slice u))(hu:P.underlying u=some (.int .u32))(hc:P.cellsOf u=1)
  (h:DataW.trod enc P w base (fun _=>true) held fuel t cs=some x):∃c l,cs=[c]/\Small l/\(zaf l).den (zkx w) c w:=by
 rcases open_ints ht hu hc h with⟨rfl,_⟩|⟨a,len,cap,zs,rfl,_,hl,hm,hz,_,hcell,hwf⟩
 .exact⟨_,[],rfl,Small.nil,zb8 _ _⟩
 .simp only[if_true] at hz;refine⟨_,(zs.take len).map Int.toNat,rfl,?_,?_⟩
  .intro y hy;obtain⟨n,hn,rfl⟩:=List.mem_map.1 hy;have:=zvN (hwf n (List.mem_of_mem_take hn));omega
  .have hlen:((zs.take len).map Int.toNat).length=len:=by simp;omega
   show(zap ((zs.take len).map Int.toNat).length _).P _ _ _;rw[hlen];refine⟨some a,cap,rfl,hl,hm,fun h=>by simp at h,fun ad had=>?_⟩;cases had;refine⟨fun h0=>?_,fun i lf hi=>?_⟩
   .obtain⟨b,off,rfl,_⟩:=ints_at hcell (by omega);rfl
   .rw[List.getElem?_map,List.getElem?_map,List.getElem?_take] at hi;split at hi
    .rename_i hil;have hiz:i<zs.length:=by omega
     obtain⟨b,off,rfl,hc2⟩:=ints_at hcell (by omega);have hci:=hc2 i hiz;rw[zEm hiz] at hi;simp only[Option.map_some,zEp] at hi;subst hi;have hw:=zvN (hwf zs[i] (List.getElem_mem hiz));have hlt:b<w.heap.size:=zkR hci;refine⟨hlt,_,hci,?_,rfl⟩;rw[List.getD_eq_getElem?_getD,zEm hiz];simp only[Option.getD_some];congr 1;omega
    .simp at hi
structure NumTy(P:Program)(tb tn tu tr:Nat):Prop where
 b:P.underlying tb=some .bool
 u:P.underlying tu=some (.int .u32)
 n:P.underlying tn=some (.slice tu)
 cb:P.cellsOf tb=1
 cu:P.cellsOf tu=1
 cn:P.cellsOf tn=1
 r:zsb P tr=some [(0,tb),(1,tn),(2,tn)]
 cr:P.cellsOf tr=3
variable {tb tn tu tr:Nat}
theorem zwg(hT:NumTy P tb tn tu tr){cs:List Value}{fuel:Nat}{x:DataW H×List MemPlace}(h:DataW.trod enc P w base (fun _=>true) held fuel tr cs=some x) :
  ∃q:Qr,denL (zkx w) (qV q).leaves cs w:=by
 obtain⟨hlen,n,hall⟩:=zfZ hT.r h;rw[hT.cr] at hlen
 match cs,hlen with
 |[c0,c1,c2],_=>
  obtain⟨y0,h0⟩:=hall 0 _ _ rfl;obtain⟨y1,h1⟩:=hall 1 _ _ rfl;obtain⟨y2,h2⟩:=hall 2 _ _ rfl;rw[hT.cb] at h0;rw[hT.cn] at h1 h2;obtain⟨b,e0⟩:=zmV hT.b h0;obtain⟨k1,l1,e1,s1,d1⟩:=zrn hT.n hT.u hT.cu h1;obtain⟨k2,l2,e2,s2,d2⟩:=zrn hT.n hT.u hT.cu h2;simp at e0 e1 e2;subst e0;subst e1;subst e2;exact⟨⟨b,l1,l2,s1,s2⟩,⟨rfl,rfl⟩,d1,d2,trivial⟩
theorem zgU{A:Foot}{l1 l2:List Leaf}{cs:List Value}(k:Nat)(h1:denL A l1 (cs.take k) w)(h2:denL A l2 (cs.drop k) w):denL A (l1++l2) cs w:=by
 have:=h1.append h2
 rwa [List.take_append_drop] at this
theorem zxF{t:Nat}(ht:P.underlying t=some (.int .i64)){r:Reach}{b0:Nat}{v:Value}{d:DataW H}{p:List MemPlace}(hv:Value.okWide P w r b0 t v)(h:DataW.Trod enc P w base (fun _=>true) held t v d p) :
  ∃n:Int,-9223372036854775808<=n/\n<=9223372036854775807/\(V.one (Leaf.val (.int .i64 n))).den (zkx w) v w:=by
 obtain⟨x,rfl,_,_,hw⟩:=open_int ht hv h;have:=zAB hw;exact⟨x,this.1,this.2,rfl,rfl⟩
end
theorem zeV{P:Program}{f:Nat}{xs:List V}{w:World}{vs:List Value}(h:Ctr P f xs (R.one (V.one (Leaf.val (.bool true)))))(hg:ztw w)(hd:denVs (zkx w) xs vs w) :
  Calls P f vs.toArray w fun e w'=>e = .returned (.bool true)/\Below w.heap.size w w':=by
 refine Calls.mono (h w vs (fun k _=>k<w.heap.size) hg (fun _ _ hk=>hk) hd) ?_;rintro e w' ⟨v,rfl,hv,hb⟩;obtain⟨rfl,_⟩:v = .bool true/\_:=hv;exact⟨rfl,hb⟩
theorem zvU:∀l:List Nat,u8E.all l=l.map fun(x:Nat)=>Leaf.val (.int .u8 (x:Int))
 |[]=>rfl
 |x::l=>by show u8E.f x++u8E.all l=_;rw[zvU l];rfl
section
variable {H:Type}{enc:TypeId×Value->H}{P:Program}{w:World}{base:Nat}{held:Bool}
theorem zcr{t u:Nat}(ht:P.underlying t=some (.slice u))(hu:P.underlying u=some (.int .u8))(hc:P.cellsOf u=1){r:Reach}{b0:Nat}{v:Value}{d:DataW H}{p:List MemPlace}(hv:Value.okWide P w r b0 t v)
  (h:DataW.Trod enc P w base (fun _=>true) held t v d p):∃l:List Nat,l.length<=maxLen/\(∀x∈l,x<256)/\(V.one (u8E.row l)).den (zkx w) v w:=by
 obtain⟨a0,len0,cap0,rfl⟩:=okWide_slice ht hv;obtain⟨fuel,hf⟩:=h;rcases open_ints ht hu hc hf with⟨hcs,_⟩|⟨a,len,cap,zs,hcs,_,hl,hm,hz,_,hcell,hwf⟩
 .simp[Value.cells] at hcs;obtain⟨rfl,rfl,rfl⟩:=hcs;exact⟨[],zEs _,fun x hx=>by simp at hx,zb8 _ _⟩
 .simp[Value.cells] at hcs;obtain⟨rfl,rfl,rfl⟩:=hcs;simp only[if_true] at hz;have hlen:((zs.take len0).map Int.toNat).length=len0:=by simp;omega
  refine⟨(zs.take len0).map Int.toNat,by rw[hlen];omega,?_,?_⟩
  .intro y hy;obtain⟨n,hn,rfl⟩:=List.mem_map.1 hy;have:=zAA (hwf n (List.mem_of_mem_take hn));omega
  .show(zap ((zs.take len0).map Int.toNat).length _).P _ _ _;rw[hlen,zvU];refine⟨some a,cap0,rfl,hl,hm,fun h=>by simp at h,fun ad had=>?_⟩;cases had;refine⟨fun h0=>?_,fun i lf hi=>?_⟩
   .obtain⟨b,off,rfl,_⟩:=ints_at hcell (by first|omega|(simp at h0;omega));rfl
   .rw[List.getElem?_map,List.getElem?_map,List.getElem?_take] at hi;split at hi
    .rename_i hil;have hiz:i<zs.length:=by omega
     obtain⟨b,off,rfl,hc2⟩:=ints_at hcell (by omega);have hci:=hc2 i hiz;rw[zEm hiz] at hi;simp only[Option.map_some,zEp] at hi;subst hi;have hw:=zAA (hwf zs[i] (List.getElem_mem hiz));have hlt:b<w.heap.size:=zkR hci;refine⟨hlt,_,hci,?_,rfl⟩;rw[List.getD_eq_getElem?_getD,zEm hiz];simp only[Option.getD_some];congr 1;omega
    .simp at hi
variable {tb tn tu tr:Nat}
end
theorem zig{α:Type}{p:Nat->α->Prop}:∀n:Nat,(∀i,i<n->∃a,p i a)->∃l:List α,l.length=n/\∀i a,l[i]?=some a->p i a
 |0,_=>⟨[],rfl,fun i a h=>by simp at h⟩
 |n+1,h=>by
  obtain⟨l,hl,hp⟩:=zig n (fun i hi=>h i (by omega));obtain⟨a,ha⟩:=h n (by omega);refine⟨l++[a],by simp[hl],fun i b hb=>?_⟩;by_cases e:i<n
  .rw[zEu (by omega)] at hb;exact hp i b hb
  .rw[List.getElem?_append_right (by omega)] at hb;have h1:=(zEo.1 hb).1;have h2:i=n:=by simp at h1;omega
   subst h2;simp[hl] at hb;subst hb;exact ha
section
variable {H:Type}{enc:TypeId×Value->H}{P:Program}{w:World}{base:Nat}{held:Bool}
theorem zwf{α:Type}(E:El α)(Pr:α->Prop){t e:Nat}(ht:P.underlying t=some (.slice e))(hc:P.cellsOf e=E.sz)(hsz:0<E.sz)
  (hel:∀(cs:List Value) (fuel:Nat) (x:DataW H×List MemPlace),DataW.trod enc P w base (fun _=>true) held fuel e cs=some x->∃a,denL (zkx w) (E.f a) cs w/\Pr a)
  {cs:List Value} {fuel:Nat} {x:DataW H×List MemPlace} (h:DataW.trod enc P w base (fun _=>true) held fuel t cs=some x) :
  ∃c l,cs=[c]/\l.length<=maxLen/\(∀a∈l,Pr a)/\(E.row l).den (zkx w) c w:=by
 rcases DataW.trod_slice ht h with⟨rfl,_⟩|⟨a,len,cap,elems,rest,n,_,rfl,_,_,hl,hm,hlen,hget,hsp,_⟩
 .exact⟨_,[],rfl,zEs _,fun a h=>by simp at h,zb8 _ _⟩
 obtain⟨hrl,hrest⟩:=hsp rfl;have each:∀i,i<cap->∃cs' m y,w.cells? base (a.add (i*E.sz)) E.sz=some cs'/\DataW.trod enc P w base (fun _=>true) held m e cs'=some y:=by
  intro i hi;have hb:∃y,(w.cells? base (a.add (i*P.cellsOf e)) (P.cellsOf e)).bind (DataW.trod enc P w base (fun _=>true) held n e)=some y:=by
   by_cases hil:i<len
   .exact⟨_,(hget i hil).trans (zEm (by omega))⟩
   .have h1:=hrest (i-len) (by omega);rw[show len+(i-len)=i by omega] at h1;exact⟨_,h1.trans (zEm (by omega))⟩
  obtain⟨y,hy⟩:=hb;rw[hc,Option.bind_eq_some_iff] at hy;obtain⟨cs',h1,h2⟩:=hy;exact⟨cs',n,y,h1,h2⟩
 obtain⟨l,hll,hlp⟩:=zig (p:=fun i b=>∃cs',w.cells? base (a.add (i*E.sz)) E.sz=some cs'/\denL (zkx w) (E.f b) cs' w/\Pr b) len (fun i hi=>by
  obtain⟨cs',m,y,h1,h2⟩:=each i (by omega);obtain⟨b,h3,h4⟩:=hel cs' m y h2;exact⟨b,cs',h1,h3,h4⟩)
 refine⟨_,l,rfl,by omega,fun b hb=>?_,?_⟩
 .obtain⟨i,hi⟩:=List.mem_iff_getElem?.1 hb;obtain⟨_,_,_,h4⟩:=hlp i b hi;exact h4
 show(zap l.length (E.all l)).P _ _ _;rw[hll];have hspot:0<cap->a.spot=none:=fun h0=>by
  obtain⟨cs',m,y,h1,h2⟩:=each 0 h0;have h3:=(World.cells?_some h1).2.2 0 hsz;have hcl:=(World.cells?_some h1).2.1;rw[zEm (by omega)] at h3;simpa[Addr.add] using World.cell?_spot h3
 refine⟨some a,cap,rfl,hl,hm,fun h=>by simp at h,fun ad had=>?_⟩;cases had;refine⟨hspot,fun i lf hi=>?_⟩;have hi0:i<l.length*E.sz:=by have:=(zEo.1 hi).1;rwa [El.all_length] at this
 have hq:i/E.sz<l.length:=(Nat.div_lt_iff_lt_mul hsz).2 hi0;have hr:i%E.sz<E.sz:=Nat.mod_lt _ hsz;have hqr:i/E.sz*E.sz+i%E.sz=i:=by rw[zER];exact Nat.div_add_mod i E.sz
 obtain⟨cs',h1,h2,_⟩:=hlp (i/E.sz) _ (zEm hq);have hlf:(E.f l[i/E.sz])[i%E.sz]?=some lf:=by
  rw[<-El.all_get E hq,List.getElem?_take,if_pos hr,List.getElem?_drop,hqr];exact hi
 obtain⟨v,hv,hd⟩:=h2.get hlf;have h3:=(World.cells?_some h1).2.2 (i%E.sz) hr;rw[hv] at h3;have hsp0:=hspot (zEv (zEN (zEs _) hq) (by omega));obtain⟨b,off,spot⟩:=a;subst hsp0;rw[Go.WideShapes.add_plain,Go.WideShapes.add_plain,Nat.add_assoc,hqr] at h3;have hlt:b<w.heap.size:=zkR h3;exact⟨hlt,v,h3,hd⟩
variable {tb tn tu tr ti:Nat}
structure LmTy(P:Program)(tb tn tu tr ti tw tm tl ts tk:Nat):Prop where
 n:NumTy P tb tn tu tr
 i:P.underlying ti=some (.int .i64)
 ci:P.cellsOf ti=1
 w:zsb P tw=some [(0,ti),(1,ti),(2,ti),(3,ti)]
 cw:P.cellsOf tw=4
 m:zsb P tm=some [(0,tw),(4,tr)]
 cm:P.cellsOf tm=7
 s:P.underlying ts=some (.slice tm)
 cs:P.cellsOf ts=1
 l:zsb P tl=some [(0,ti),(1,tb),(2,tr),(5,ts)]
 cl:P.cellsOf tl=6
 k:P.underlying tk=some (.slice tl)
theorem zxH{tw:Nat}(hw:zsb P tw=some [(0,ti),(1,ti),(2,ti),(3,ti)])(hcw:P.cellsOf tw=4)(hi:P.underlying ti=some (.int .i64))(hci:P.cellsOf ti=1){cs:List Value}{fuel:Nat}{x:DataW H×List MemPlace}
  (h:DataW.trod enc P w base (fun _=>true) held fuel tw cs=some x):∃r:Rw,cs=[.int .i64 r.kind,.int .i64 r.idx,.int .i64 r.lo,.int .i64 r.hi]:=by
 obtain⟨hlen,n,hall⟩:=zfZ hw h;rw[hcw] at hlen
 match cs,hlen with
 |[c0,c1,c2,c3],_=>
  obtain⟨y0,h0⟩:=hall 0 _ _ rfl;obtain⟨y1,h1⟩:=hall 1 _ _ rfl;obtain⟨y2,h2⟩:=hall 2 _ _ rfl;obtain⟨y3,h3⟩:=hall 3 _ _ rfl;rw[hci] at h0 h1 h2 h3;obtain⟨k0,e0,_⟩:=zjx hi h0;obtain⟨k1,e1,_⟩:=zjx hi h1;obtain⟨k2,e2,_⟩:=zjx hi h2;obtain⟨k3,e3,_⟩:=zjx hi h3;simp at e0 e1 e2 e3;subst e0;subst e1;subst e2;subst e3;exact⟨⟨k0,k1,k2,k3⟩,rfl⟩
theorem zug{tw tm tl ts tk:Nat}(hT:LmTy P tb tn tu tr ti tw tm tl ts tk){cs:List Value}{fuel:Nat}{x:DataW H×List MemPlace}(h:DataW.trod enc P w base (fun _=>true) held fuel tl cs=some x) :
  ∃m:Lm,denL (zkx w) (lmE.f m) cs w/\m.pf.length<=maxLen:=by
 obtain⟨hlen,n,hall⟩:=zfZ hT.l h;rw[hT.cl] at hlen
 match cs,hlen with
 |[c0,c1,c2,c3,c4,c5],_=>
  obtain⟨y0,h0⟩:=hall 0 _ _ rfl;obtain⟨y1,h1⟩:=hall 1 _ _ rfl;obtain⟨y2,h2⟩:=hall 2 _ _ rfl;obtain⟨y3,h3⟩:=hall 3 _ _ rfl;rw[hT.ci] at h0;rw[hT.n.cb] at h1;rw[hT.n.cr] at h2;rw[hT.cs] at h3;obtain⟨k0,e0,_⟩:=zjx hT.i h0;obtain⟨b1,e1⟩:=zmV hT.n.b h1;obtain⟨q,hq⟩:=zwg hT.n h2;obtain⟨c,l,e3,hlm,_,hl⟩:=zwf muE (fun _=>True) hT.s hT.cm (by decide) (fun cs' fuel' x' h'=>by
   obtain⟨hlen',n',hall'⟩:=zfZ hT.m h';rw[hT.cm] at hlen';obtain⟨z0,g0⟩:=hall' 0 _ _ rfl;obtain⟨z1,g1⟩:=hall' 1 _ _ rfl;rw[hT.cw] at g0;rw[hT.n.cr] at g1;obtain⟨r,hr⟩:=zxH hT.w hT.cw hT.i hT.ci g0;obtain⟨c,hc⟩:=zwg hT.n g1;refine⟨⟨r,c⟩,?_⟩;have:=zgU (w:=w) (A:=zkx w) (l1:=[Leaf.val (.int .i64 r.kind),Leaf.val (.int .i64 r.idx),Leaf.val (.int .i64 r.lo),Leaf.val (.int .i64 r.hi)]) (l2:=(qV c).leaves) (cs:=cs') 4 (by
    rw[List.drop_zero] at hr;rw[hr];exact⟨⟨rfl,rfl⟩,⟨rfl,rfl⟩,⟨rfl,rfl⟩,⟨rfl,rfl⟩,trivial⟩) (by rw[zEV (by simp;omega)] at hc;exact hc)
   exact⟨this,trivial⟩) h3
  simp at e0 e1 e3;subst e0;subst e1;subst e3;exact⟨⟨k0,b1,q,l⟩,⟨⟨rfl,rfl⟩,⟨rfl,rfl⟩,hq.1,hq.2.1,hq.2.2.1,hl,trivial⟩,hlm⟩
theorem zjw{tw tm tl ts tk:Nat}(hT:LmTy P tb tn tu tr ti tw tm tl ts tk){r:Reach}{b0:Nat}{v:Value}{d:DataW H}{p:List MemPlace}(hv:Value.okWide P w r b0 tk v)(h:DataW.Trod enc P w base (fun _=>true) held tk v d p) :
  ∃l:List Lm,l.length<=maxLen/\(∀m∈l,m.pf.length<=maxLen)/\(V.one (lmE.row l)).den (zkx w) v w:=by
 obtain⟨a0,len0,cap0,rfl⟩:=okWide_slice hT.k hv;obtain⟨fuel,hf⟩:=h;obtain⟨c,l,hc,hl,hp,hd⟩:=zwf lmE (fun m=>m.pf.length<=maxLen) hT.k hT.cl (by decide) (fun cs' fuel' x' h'=>zug hT h') hf;simp[Value.cells] at hc;subst hc;exact⟨l,hl,hp,hd⟩
end
structure Tr where
 v:Int
 c:Qr
structure Ar where
 ts:List Tr
 c:Qr
def trE:El Tr:=⟨fun t=>[Leaf.val (.int .i64 t.v),Leaf.val (.bool t.c.neg),zaf t.c.n,zaf t.c.d],4,fun _=>rfl,fun _=>rfl⟩
@[reducible] def arV(a:Ar):V:=V.agg [trE.row a.ts,Leaf.val (.bool a.c.neg),zaf a.c.n,zaf a.c.d]
def VN(a:Ar)(vars n:Nat):Prop:=∀i t,i<n->a.ts[i]?=some t->isC t.c=true/\t.c.q≠0/\0<=t.v/\t.v<(vars:Int)/\∀u,0<i->a.ts[i-1]?=some u->u.v<t.v
def VR(a:Ar)(vars:Nat):Prop:=VN a vars a.ts.length/\isC a.c=true
noncomputable def vrB(a:Ar)(vars:Nat):Bool:=@decide (VR a vars) (Classical.propDecidable _)
section
variable {a:Ar}{vars:Nat}
theorem vrB_t(h:VR a vars):vrB a vars=true:=@decide_eq_true _ (Classical.propDecidable _) h
theorem zpd(h:¬VR a vars):vrB a vars=false:=@decide_eq_false _ (Classical.propDecidable _) h
theorem zmC:vrB a vars=true↔VR a vars:=@decide_eq_true_iff _ (Classical.propDecidable _)
theorem zqq(h:VN a vars a.ts.length):vrB a vars=isC a.c:=by
 cases hc:isC a.c
 .exact zpd (fun e=>by rw[e.2] at hc;cases hc)
 .exact vrB_t ⟨h,hc⟩
theorem VN.zero:VN a vars 0:=fun i t h=>by omega
theorem VN.step{n:Nat}{t:Tr}(h:VN a vars n)(ht:a.ts[n]?=some t)(h1:isC t.c=true)(h2:t.c.q≠0)(h3:0<=t.v)(h4:t.v<(vars:Int))(h5:∀u,0<n->a.ts[n-1]?=some u->u.v<t.v):VN a vars (n+1):=fun i u hi hu=>by
 by_cases e:i=n
 .subst e;rw[ht] at hu;cases hu;exact⟨h1,h2,h3,h4,h5⟩
 .exact h i u (by omega) hu
theorem VR.get{n:Nat}{t:Tr}(h:VR a vars)(ht:a.ts[n]?=some t):isC t.c=true/\t.c.q≠0/\0<=t.v/\t.v<(vars:Int)/\∀u,0<n->a.ts[n-1]?=some u->u.v<t.v:=h.1 n t (zEo.1 ht).1 ht
theorem zvS{n:Nat}{t:Tr}(ht:a.ts[n]?=some t)(hx:t.v<0):vrB a vars=false:=zpd (fun h=>by have:=(h.get ht).2.2.1;omega)
theorem zvT{n:Nat}{t:Tr}(ht:a.ts[n]?=some t)(hx:(vars:Int)<=t.v):vrB a vars=false:=zpd (fun h=>by have:=(h.get ht).2.2.2.1;omega)
theorem zvR{n:Nat}{t u:Tr}(h0:0<n)(ht:a.ts[n]?=some t)(hu:a.ts[n-1]?=some u)(hx:t.v<=u.v):vrB a vars=false:=zpd (fun h=>by have:=(h.get ht).2.2.2.2 u h0 hu;omega)
theorem zjY{n:Nat}{t:Tr}(ht:a.ts[n]?=some t)(hx:t.c.q=0):vrB a vars=false:=zpd (fun h=>(h.get ht).2.1 hx)
theorem znH{n:Nat}{t:Tr}(ht:a.ts[n]?=some t)(hx:isC t.c=false):vrB a vars=false:=zpd (fun h=>by rw[(h.get ht).1] at hx;cases hx)
end
def zty(a:Ar):Af:=⟨a.ts.map fun t=>(t.v.toNat,t.c.q),a.c.q⟩
theorem zvZ:∀{l:List Tr},(∀t∈l,isC t.c=true/\0<=t.v)->trE.all l=tmE.all (l.map fun t=>(t.v.toNat,t.c.q))
 |[],_=>rfl
 |t::l,h=>by
  have h1:=h t (by simp);show trE.f t++trE.all l=tmE.f (t.v.toNat,t.c.q)++tmE.all _;rw[zvZ (fun u hu=>h u (by simp[hu]))];congr 1;show[Leaf.val (.int .i64 t.v),Leaf.val (.bool t.c.neg),zaf t.c.n,zaf t.c.d]=[Leaf.val (.int .i64 ((t.v.toNat:Nat):Int)),Leaf.val (.bool (zaR t.c.q)),zaf (zaa (zav t.c.q)),zaf (zaa (zaC t.c.q))];have e1:((t.v.toNat:Nat):Int)=t.v:=by omega
  have e2:=zks.1 h1.1;have e3:t.c.neg=zaR t.c.q:=by rw[e2];rw[zaj]
  have e4:t.c.n=zaa (zav t.c.q):=by rw[e2];rw[zaj]
  have e5:t.c.d=zaa (zaC t.c.q):=by rw[e2];rw[zaj]
  rw[e1,<-e3,<-e4,<-e5]
theorem zw4{a:Ar}{vars:Nat}(h:VR a vars):arV a=afV (zty a):=by
 have hall:∀t∈a.ts,isC t.c=true/\0<=t.v:=fun t ht=>by
  obtain⟨i,hi⟩:=zes ht;have:=h.get hi;exact⟨this.1,this.2.2.1⟩
 have e2:=zks.1 h.2;have e3:a.c.neg=zaR a.c.q:=by rw[e2];rw[zaj]
 have e4:a.c.n=zaa (zav a.c.q):=by rw[e2];rw[zaj]
 have e5:a.c.d=zaa (zaC a.c.q):=by rw[e2];rw[zaj]
 have e6:trE.row a.ts=tmE.row (zty a).ts:=by
  unfold El.row;rw[zvZ hall];congr 2;simp[zty]
 show V.agg [trE.row a.ts,Leaf.val (.bool a.c.neg),zaf a.c.n,zaf a.c.d]=V.agg [tmE.row (zty a).ts,Leaf.val (.bool (zaR a.c.q)),zaf (zaa (zav a.c.q)),zaf (zaa (zaC a.c.q))];rw[e6,<-e3,<-e4,<-e5]
theorem zsd{x:Qr}{K:Nat}(h:Fit K x):Hb x.q (32*K):=by
 refine Hb.rq ?_ ?_
 .refine zEv (zbk x.hn) ?_;rw[zc4];exact zEz (by decide) (zEU _ h.n)
 .have h1:=zbk x.hd;have h2:4294967296^x.d.length<=2^(32*K):=by rw[zc4];exact zEz (by decide) (zEU _ h.d)
  unfold dn;split <;> omega
theorem zwW:∀{l:List Tr},(∀t∈l,t.c.q≠0/\0<=t.v)->(∀i t u,l[i]?=some u->l[i+1]?=some t->u.v<t.v)->CanT (l.map fun t=>(t.v.toNat,t.c.q))
 |[],_,_=>trivial
 |x::l,h,ho=>by
  have ih:=zwW (l:=l) (fun t ht=>h t (by simp[ht])) (fun i t u hu ht=>ho (i+1) t u (by simpa using hu) (by simpa using ht));refine⟨(h x (by simp)).1,fun u hu=>?_,ih⟩;obtain⟨t,ht,rfl⟩:=List.mem_map.1 hu;have key:∀(i:Nat) (t:Tr),l[i]?=some t->x.v<t.v:=by
   intro i
   induction i with
   |zero=>intro t ht;exact ho 0 t x rfl (by simpa using ht)
   |succ i ihh=>
    intro t ht;obtain⟨u,hu⟩:∃u,l[i]?=some u:=⟨_,zEm (by have:=(zEo.1 ht).1;omega)⟩;have h1:=ihh u hu;have h2:=ho (i+1) t u (by simpa using hu) (by simpa using ht);omega
  obtain⟨i,hi⟩:=zes ht;have h1:=key i t hi;have h2:=(h x (by simp)).2;show x.v.toNat<t.v.toNat;omega
theorem zxj{a:Ar}{vars K:Nat}(h:VR a vars)(hf:∀t∈a.ts,Fit K t.c)(hc:Fit K a.c):FOk (32*K) vars (zty a):=by
 have hm:∀t∈a.ts,t.c.q≠0/\0<=t.v/\t.v<(vars:Int):=fun t ht=>by
  obtain⟨i,hi⟩:=zes ht;have:=h.get hi;exact⟨this.2.1,this.2.2.1,this.2.2.2.1⟩
 refine⟨zwW (fun t ht=>⟨(hm t ht).1,(hm t ht).2.1⟩) (fun i t u hu ht=>(h.get ht).2.2.2.2 u (by omega) (by simpa using hu)),fun t ht=>?_,zsd hc,fun t ht=>?_⟩
 .obtain⟨u,hu,rfl⟩:=List.mem_map.1 ht;exact zsd (hf u hu)
 .obtain⟨u,hu,rfl⟩:=List.mem_map.1 ht;have:=hm u hu;show u.v.toNat<vars;omega
section
variable {H:Type}{enc:TypeId×Value->H}{P:Program}{w:World}{base:Nat}{held:Bool}
structure Msr(m:DataW H->Nat):Prop where
 el:∀(es sp:List (DataW H)),∀d∈es,m d<=m (.slice es sp)
 len:∀(es sp:List (DataW H)),es.length<=m (.slice es sp)
 part:∀(ps:List (DataW H)),∀d∈ps,m d<=m (.agg ps)
variable {m:DataW H->Nat}
theorem zrm(hm:Msr m){t u:Nat}{cs:List Value}{fuel:Nat}{x:DataW H×List MemPlace}(ht:P.underlying t=some (.slice u))(hu:P.underlying u=some (.int .u32))(hc:P.cellsOf u=1)
  (h:DataW.trod enc P w base (fun _=>true) held fuel t cs=some x):∃c l,cs=[c]/\Small l/\(zaf l).den (zkx w) c w/\l.length<=m x.1:=by
 obtain⟨c,l,e1,e2,e3⟩:=zrn ht hu hc h;refine⟨c,l,e1,e2,e3,?_⟩;obtain⟨a,cap,ev,_⟩:=e3;rcases open_ints ht hu hc h with⟨hcs,_⟩|⟨a',len,cap',zs,hcs,_,hl,_,hz,hx,_⟩
 .rw[e1] at hcs;simp at hcs;rw[hcs] at ev;simp at ev;omega
 .rw[e1] at hcs;simp at hcs;rw[hcs] at ev;simp at ev;rw[hx];refine zEw ?_ (hm.len _ _);simp only[if_true] at hz;unfold lits;rw[List.length_map,zED];omega
theorem zgK(hm:Msr m){t:Nat}{l:List (Nat×Nat)}{cs:List Value}{fuel:Nat}{x:DataW H×List MemPlace}(hf:zsb P t=some l)(h:DataW.trod enc P w base (fun _=>true) held fuel t cs=some x) :
  cs.length=P.cellsOf t/\∃n,∀(i off ty:Nat),l[i]?=some (off,ty)->∃y,DataW.trod enc P w base (fun _=>true) held n ty ((cs.drop off).take (P.cellsOf ty))=some y/\m y.1<=m x.1:=by
 obtain⟨fs,hu,hl⟩:=ziC hf;obtain⟨xs,n,_,hx,hlen,hxs,hall⟩:=DataW.trod_struct hu h;refine⟨hlen,n,fun i off ty hi=>?_⟩;rw[<-hl,List.getElem?_map] at hi
 cases hfi:fs.toList[i]? with
 |none=>rw[hfi] at hi;simp at hi
 |some f=>
  rw[hfi] at hi;simp only[Option.map_some,zEp,zEr] at hi;obtain⟨rfl,rfl⟩:=hi;have hfi':fs[i]?=some f:=by simpa using hfi
  have:=hall i f hfi';have hlt:i<xs.length:=by rw[hxs];exact(zEL.1 hfi').1
  refine⟨xs[i],by rw[this,zEm hlt],?_⟩;rw[hx];exact hm.part _ _ (List.mem_map.2 ⟨xs[i],List.getElem_mem hlt,rfl⟩)
variable {tb tn tu tr ti tt ta ts:Nat}
theorem zrl(hm:Msr m)(hT:NumTy P tb tn tu tr){cs:List Value}{fuel:Nat}{x:DataW H×List MemPlace}(h:DataW.trod enc P w base (fun _=>true) held fuel tr cs=some x) :
  ∃q:Qr,denL (zkx w) (qV q).leaves cs w/\Fit (m x.1) q:=by
 obtain⟨hlen,n,hall⟩:=zgK hm hT.r h;rw[hT.cr] at hlen
 match cs,hlen with
 |[c0,c1,c2],_=>
  obtain⟨y0,h0,_⟩:=hall 0 _ _ rfl;obtain⟨y1,h1,g1⟩:=hall 1 _ _ rfl;obtain⟨y2,h2,g2⟩:=hall 2 _ _ rfl;rw[hT.cb] at h0;rw[hT.cn] at h1 h2;obtain⟨b,e0⟩:=zmV hT.b h0;obtain⟨k1,l1,e1,s1,d1,f1⟩:=zrm hm hT.n hT.u hT.cu h1;obtain⟨k2,l2,e2,s2,d2,f2⟩:=zrm hm hT.n hT.u hT.cu h2;simp at e0 e1 e2;subst e0;subst e1;subst e2;exact⟨⟨b,l1,l2,s1,s2⟩,⟨⟨rfl,rfl⟩,d1,d2,trivial⟩,zEw f1 g1,zEw f2 g2⟩
structure ArTy(P:Program)(tb tn tu tr ti tt ts ta:Nat):Prop where
 n:NumTy P tb tn tu tr
 i:P.underlying ti=some (.int .i64)
 ci:P.cellsOf ti=1
 t:zsb P tt=some [(0,ti),(1,tr)]
 ct:P.cellsOf tt=4
 s:P.underlying ts=some (.slice tt)
 cs:P.cellsOf ts=1
 a:zsb P ta=some [(0,ts),(1,tr)]
 ca:P.cellsOf ta=4
theorem zxG(hm:Msr m){α:Type}(E:El α)(Pr:Nat->α->Prop)(hmono:∀j k a,j<=k->Pr j a->Pr k a){t e:Nat}(ht:P.underlying t=some (.slice e))(hc:P.cellsOf e=E.sz)(hsz:0<E.sz)
  (hel:∀(cs:List Value) (fuel:Nat) (x:DataW H×List MemPlace),DataW.trod enc P w base (fun _=>true) held fuel e cs=some x->∃a,denL (zkx w) (E.f a) cs w/\Pr (m x.1) a)
  {cs:List Value} {fuel:Nat} {x:DataW H×List MemPlace} (h:DataW.trod enc P w base (fun _=>true) held fuel t cs=some x) :
  ∃c l,cs=[c]/\l.length<=maxLen/\(∀a∈l,Pr (m x.1) a)/\(E.row l).den (zkx w) c w:=by
 rcases DataW.trod_slice ht h with⟨rfl,_⟩|⟨a,len,cap,elems,rest,n,hfu,hcs,hxx,hb,hl,hm',hlen,hget,hsp,hns⟩
 .exact⟨_,[],rfl,zEs _,fun a h=>by simp at h,zb8 _ _⟩
 subst hcs;obtain⟨hrl,hrest⟩:=hsp rfl;have each:∀i,i<cap->∃cs' y,w.cells? base (a.add (i*E.sz)) E.sz=some cs'/\DataW.trod enc P w base (fun _=>true) held n e cs'=some y/\(i<len->y∈elems):=by
  intro i hi;have hb:∃y,(w.cells? base (a.add (i*P.cellsOf e)) (P.cellsOf e)).bind (DataW.trod enc P w base (fun _=>true) held n e)=some y/\(i<len->y∈elems):=by
   by_cases hil:i<len
   .exact⟨_,(hget i hil).trans (zEm (by omega)),fun _=>List.getElem_mem _⟩
   .have h1:=hrest (i-len) (by omega);rw[show len+(i-len)=i by omega] at h1;exact⟨_,h1.trans (zEm (by omega)),fun h=>absurd h hil⟩
  obtain⟨y,hy,hmem⟩:=hb;rw[hc,Option.bind_eq_some_iff] at hy;obtain⟨cs',h1,h2⟩:=hy;exact⟨cs',y,h1,h2,hmem⟩
 obtain⟨l,hll,hlp⟩:=zig (p:=fun i b=>∃cs',w.cells? base (a.add (i*E.sz)) E.sz=some cs'/\denL (zkx w) (E.f b) cs' w/\Pr (m x.1) b) len (fun i hi=>by
  obtain⟨cs',y,h1,h2,h3⟩:=each i (by omega);obtain⟨b,h4,h5⟩:=hel cs' n y h2;refine⟨b,cs',h1,h4,hmono _ _ _ ?_ h5⟩;rw[hxx];exact hm.el _ _ _ (List.mem_map.2 ⟨y,h3 hi,rfl⟩))
 refine⟨_,l,rfl,by omega,fun b hb=>?_,?_⟩
 .obtain⟨i,hi⟩:=List.mem_iff_getElem?.1 hb;obtain⟨_,_,_,h4⟩:=hlp i b hi;exact h4
 show(zap l.length (E.all l)).P _ _ _;rw[hll];have hspot:0<cap->a.spot=none:=fun h0=>by
  obtain⟨cs',y,h1,h2,_⟩:=each 0 h0;have h3:=(World.cells?_some h1).2.2 0 hsz;have hcl:=(World.cells?_some h1).2.1;rw[zEm (by omega)] at h3;simpa[Addr.add] using World.cell?_spot h3
 refine⟨some a,cap,rfl,hl,hm',fun h=>by simp at h,fun ad had=>?_⟩;cases had;refine⟨hspot,fun i lf hi=>?_⟩;have hi0:i<l.length*E.sz:=by have:=(zEo.1 hi).1;rwa [El.all_length] at this
 have hq:i/E.sz<l.length:=(Nat.div_lt_iff_lt_mul hsz).2 hi0;have hr:i%E.sz<E.sz:=Nat.mod_lt _ hsz;have hqr:i/E.sz*E.sz+i%E.sz=i:=by rw[zER];exact Nat.div_add_mod i E.sz
 obtain⟨cs',h1,h2,_⟩:=hlp (i/E.sz) _ (zEm hq);have hlf:(E.f l[i/E.sz])[i%E.sz]?=some lf:=by
  rw[<-El.all_get E hq,List.getElem?_take,if_pos hr,List.getElem?_drop,hqr];exact hi
 obtain⟨v,hv,hd⟩:=h2.get hlf;have h3:=(World.cells?_some h1).2.2 (i%E.sz) hr;rw[hv] at h3;have hsp0:=hspot (zEv (zEN (zEs _) hq) (by omega));obtain⟨b,off,spot⟩:=a;subst hsp0;rw[Go.WideShapes.add_plain,Go.WideShapes.add_plain,Nat.add_assoc,hqr] at h3;have hlt:b<w.heap.size:=zkR h3;exact⟨hlt,v,h3,hd⟩
theorem zuf(hm:Msr m)(hT:ArTy P tb tn tu tr ti tt ts ta){r:Reach}{b0:Nat}{v:Value}{d:DataW H}{p:List MemPlace}(hv:Value.okWide P w r b0 ta v)(h:DataW.Trod enc P w base (fun _=>true) held ta v d p) :
  ∃a:Ar,(∀t∈a.ts,Fit (m d) t.c)/\Fit (m d) a.c/\(arV a).den (zkx w) v w:=by
 obtain⟨f,hu,_⟩:=ziC hT.a;obtain⟨cs,rfl,_⟩:=okWide_struct hu hv;obtain⟨fuel,hf⟩:=h;have hf:DataW.trod enc P w base (fun _=>true) held fuel ta cs.toList=some (d,p):=by simpa[Value.cells] using hf
 obtain⟨hlen,n,hall⟩:=zgK hm hT.a hf;rw[hT.ca] at hlen;obtain⟨y0,h0,g0⟩:=hall 0 _ _ rfl;obtain⟨y1,h1,g1⟩:=hall 1 _ _ rfl;rw[hT.cs] at h0;rw[hT.n.cr] at h1;obtain⟨c,l,e0,_,hl,hd0⟩:=zxG hm trE (fun k t=>Fit k t.c) (fun j k a hjk hh=>hh.mono hjk) hT.s hT.ct (by decide) (fun cs' fuel' x' h'=>by
  obtain⟨hlen',n',hall'⟩:=zgK hm hT.t h';rw[hT.ct] at hlen';obtain⟨z0,k0,q0⟩:=hall' 0 _ _ rfl;obtain⟨z1,k1,q1⟩:=hall' 1 _ _ rfl;rw[hT.ci] at k0;rw[hT.n.cr] at k1;obtain⟨iv,ei,_⟩:=zjx hT.i k0;obtain⟨q,hq,hfit⟩:=zrl hm hT.n k1;refine⟨⟨iv,q⟩,?_,hfit.mono q1⟩;have:=zgU (w:=w) (A:=zkx w) (l1:=[Leaf.val (.int .i64 iv)]) (l2:=(qV q).leaves) (cs:=cs') 1 (by
   rw[List.drop_zero] at ei;rw[ei];exact⟨⟨rfl,rfl⟩,trivial⟩) (by rw[zEV (by simp;omega)] at hq;exact hq)
  exact this) h0
 obtain⟨q,hq,hfit⟩:=zrl hm hT.n h1;refine⟨⟨l,q⟩,fun t ht=>(hl t ht).mono g0,hfit.mono g1,cs.toList,by simp,?_⟩;have:=zgU (w:=w) (A:=zkx w) (l1:=[trE.row l]) (l2:=(qV q).leaves) (cs:=cs.toList) 1 (by
  rw[List.drop_zero] at e0;rw[e0];exact⟨hd0,trivial⟩) (by rw[zEV (by rw[zEM];omega)] at hq;exact hq)
 exact this
end
end Rc
namespace Rc
open Go Go.RowKit
theorem zw0{s:Sc}(hs:SB 135001 s){f:Af}{d:Nat}(hf:Cd d d (s.q.g.inp+s.q.g.us.length) f)(hd:d<=500000000):BkA s (fun _=>4320032) d f:=
 ⟨hs,fun m hm j _=>(zsd (hs.B m hm).fit).mono (by decide),hf,by
  have h1:=znt (fun _=>4320032) hs.q.g.u4;have h2:bS (fun _=>4320032) 4=34560316:=rfl;omega⟩
theorem zwr{b:Nat}:∀{l:List Rat},(∀x∈l,Hb x b)->∃D:Nat,0<D/\D<2^((b+1)*l.length+1)/\∀x∈l,Nd D ((b+1)*l.length+1) x
 |[],_=>⟨1,by decide,by show 1<2^((b+1)*0+1);rw[Nat.mul_zero];decide,fun x hx=>by simp at hx⟩
 |x::l,h=>by
  obtain⟨D,h1,h2,h3⟩:=zwr (l:=l) (fun y hy=>h y (List.mem_cons_of_mem _ hy));have hx:=h x (List.mem_cons_self ..);have hd:x.den<2^(b+1):=zEN hx.den (by rw[zEF];have:=Nat.two_pow_pos b;omega);have e:(b+1)*(x::l).length=(b+1)*l.length+(b+1):=by rw[List.length_cons,Nat.mul_succ]
  refine⟨D*x.den,Nat.mul_pos h1 x.den_pos,?_,fun y hy=>?_⟩
  .rw[e,show(b+1)*l.length+(b+1)+1=(b+1)*l.length+1+(b+1) by omega,zEG];exact Nat.mul_lt_mul'' h2 hd
  .rw[e];rcases zEQ.1 hy with hy|hy
   .subst hy;exact(hx.nd.up h2).comm.mono (by omega)
   .exact((h3 y hy).up hd).mono (by omega)
theorem FOk.cdb{b m:Nat}{f:Af}(h:FOk b m f)(h7:m<=7):Cd (8*(b+1)+1) (8*(b+1)+1) m f:=by
 have hl:=h.len;obtain⟨D,h1,h2,h3⟩:=zwr (b:=b) (l:=f.c::f.ts.map (·.2)) (fun x hx=>by
  rcases zEQ.1 hx with e|e
  .subst e;exact h.cb
  .obtain⟨t,ht,rfl⟩:=List.mem_map.1 e;exact h.bd t ht)
 have hn:(b+1)*(f.c::f.ts.map (·.2)).length+1<=8*(b+1)+1:=by
  rw[List.length_cons,List.length_map,zER];exact Nat.succ_le_succ (zEx _ (by omega))
 refine⟨h.can,h.var,D,h1,zEv h2 (zEz (by decide) hn),fun w=>?_,(h3 _ (List.mem_cons_self ..)).mono hn⟩;by_cases e:co f.ts w=0
 .rw[e];exact Nd.zero
 .obtain⟨u,hu,e2⟩:=ziH e;rw[<-e2,zeT h.can hu];exact(h3 _ (List.mem_cons_of_mem _ (List.mem_map_of_mem hu))).mono hn
section
variable {s:Sc}{kf:Nat->Nat}{d:Nat}{f:Af}
theorem zzN(ha:BkA s kf d f):(zci s f).1.ts.length<=3/\(zci s f).2.1.length<=4:=by
 cases h:bkO s f with
 |none=>rw[zfh h];exact⟨zEs _,zEs _⟩
 |some x=>
  obtain⟨g,l⟩:=x;have h1:=ziU ha h;have h2:=ha.sb.q.g.i3;rw[zgp h];exact⟨zEw h1.fok.len h2,h1.len⟩
theorem znR(ha:BkA s kf d f):(zbw s f).2.1.length<=20:=by
 cases h:bkO s f with
 |none=>rw[zdl h];exact zEs _
 |some x=>
  obtain⟨g,l⟩:=x;have h1:=ziU ha h;have h2:=(zhL ha.sb (h1.fok.mono (zEq _) (show _<=s.q.g.inp+s.q.g.us.length by omega)).fl).len;have h3:=h1.len;rw[(zkZ ha h).2];refine zEw (zcI _ _ _) ?_;omega
end
theorem ztP{s:Sc}(hs:SOk s){f:Af}(hf:FOk 3 (s.q.g.inp+s.q.g.us.length) f):Br (zbw s f).1 500000:=by
 cases h:bkO s f with
 |none=>rw[zdl h];exact Br.zero.mono (zEs _)
 |some x=>
  obtain⟨g,l⟩:=x;obtain⟨x,m,h1,h2⟩:=zqw hs hf h;have h3:=zs0 hs.q.g.u4;rw[zeJ h h1];exact(h2.hb.br).mono (by omega)
noncomputable def zlb(s:Sc)(a:Ar):Rat×List Mu×Bool:=if vrB a (s.q.g.inp+s.q.g.us.length)=true then zbw s (zty a) else(0,[],false)
theorem zqz{s:Sc}{a:Ar}(h:vrB a (s.q.g.inp+s.q.g.us.length)=true):zlb s a=zbw s (zty a):=if_pos h
theorem zqA{s:Sc}{a:Ar}(h:vrB a (s.q.g.inp+s.q.g.us.length)=false):zlb s a=(0,[],false):=if_neg (by rw[h];decide)
theorem znr{s:Sc}(hs:SB 135001 s){a:Ar}(hf:∀t∈a.ts,Fit 1048576 t.c)(hc:Fit 1048576 a.c)(h:vrB a (s.q.g.inp+s.q.g.us.length)=true):BkA s (fun _=>4320032) (8*(32*1048576+1)+1) (zty a):=
 zw0 hs ((zxj (zmC.1 h) hf hc).cdb (by have:=hs.q.g.i3;have:=hs.q.g.u4;omega)) (by decide)
theorem ztQ{s:Sc}(hs:SB 135001 s){a:Ar}(hf:∀t∈a.ts,Fit 1048576 t.c)(hc:Fit 1048576 a.c):(zlb s a).2.1.length<=20:=by
 cases h:vrB a (s.q.g.inp+s.q.g.us.length)
 .rw[zqA h];exact zEs _
 .rw[zqz h];exact znR (znr hs hf hc h)
theorem zoW{l:List Nat}{lm:List Lm}(h:zh4 lm=true){f:Af}(hf:FOk 3 ((zas l).q.g.inp+(zas l).q.g.us.length) f):BkA (withL (zas l) ((zas l).lems++lm)) (fun _=>4320032) 13 f:=by
 obtain⟨h1,h2⟩:=zh3 h;obtain⟨h3,h4,_⟩:=zgT l;exact zw0 (zxx h3 (by omega) h1 h2) hf.cq (by decide)
theorem zun{n:Nat}(h:n<=2):n=0\/n=1\/n=2:=by omega
def nmD:Nat->ByteArray
 |0=>⟨#[98,111,120]⟩
 |1=>⟨#[115,121,109,98,111,108,105,99]⟩
 |_=>⟨#[98,111,120,43,115,121,109,98,111,108,105,99]⟩
theorem zum(n:Nat){s:Sc}(hs:SOk s){f:Af}(hf:FOk 3 (s.q.g.inp+s.q.g.us.length) f):(zba n s f).2.1.length<=14:=((zjB n).der s hs f hf).len
theorem zmq{P:Program}{ops:Array Oper}{X:List Nat}{o:Oper}{Γ:Gam}{H:Hp}{x y:Operand}{t u n j:Nat}{k:IntKind}{ls:List Leaf}{l:Leaf}(ho:o.op = .index t x y)(hx:opD Γ x=some (D.agg ls))(hy:opD Γ y=some (D.val (.int k (j:Int))))(ht:P.underlying t=some (.array n u))(hu:TyIs P u false 1)(hj:j<n)(hls:ls[j]?=some l):Jq P ops X o Γ H (D.v (V.one l)):=by
 intro w0 A0 N Γ2 H2 E a w hs hX hG;obtain⟨h1,cs,h2,h3⟩:=za8 hs hG (x:=x) (by rw[ho];simp[Op.operands]) hx;have e2:=za0 hs hG (x:=y) (by rw[ho];simp[Op.operands]) hy;obtain⟨v,hv,hd⟩:=h3.get hls;refine⟨trivial,v,?_,hd⟩;simp[execOp,ho,h2,e2,Instr.index,asIntOf,run_underlying ht,hu.sizeOf,part,hu.isAgg,hj,hv]
theorem zBr{n:Nat}(h:n<=2):[Leaf.val (.string ⟨#[98,111,120]⟩),Leaf.val (.string ⟨#[115,121,109,98,111,108,105,99]⟩),Leaf.val (.string ⟨#[98,111,120,43,115,121,109,98,111,108,105,99]⟩)][n]?=some (Leaf.val (.string (nmD n))):=by
 rcases zun h with e|e|e <;> subst e <;> rfl
theorem zxS{s:ByteArray}:(s.toList != s.toList)=false:=bne_self_eq_false _
end Rc
namespace Go.Proofs.YtjeiacoegppoiaaGreatDoor
open Go Go.RowKit Rc
theorem zxV  : Ctr Tryz.prog 277 [V.agg [Leaf.val (ifV 54 []),Leaf.val (ifV 56 [])]] (R.one (V.one (Leaf.val (.string ⟨#[98,111,120,43,115,121,109,98,111,108,105,99]⟩)))):=by
 refine bd_ Tryz.func277 Tryz.ntmps277 rfl (fun w0 A0=>?_);refine zc 7 rfl (dr_ 0 [] [] (dz 2 rfl (ke_ rfl (fun _=>zc2 rfl rfl (by kernel_rfl) zCH rfl (zoP) ) (kq_ rfl (zjU rfl rfl rfl (by decide) (c:=⟨#[98,111,120,43]⟩) (by kernel_rfl)) (dz 2 rfl (ke_ rfl (fun _=>zc2 rfl rfl (by kernel_rfl) fn34 rfl (zj5) ) ?_))))));refine kq_ rfl (zjU rfl rfl rfl (by decide) (c:=⟨#[98,111,120,43,115,121,109,98,111,108,105,99]⟩) (by kernel_rfl)) (dz 1 rfl (zad (za 1 rfl ?_)));exact r1_ hq_ rfl rfl
def tyD:Nat->Nat
 |0=>54
 |1=>56
 |_=>193
def csD:Nat->List Value
 |0=>[]
 |1=>[]
 |_=>[ifV 54 [],ifV 56 []]
def loD:Nat->Nat
 |0=>58
 |1=>19
 |_=>276
def naD:Nat->Nat
 |0=>275
 |1=>34
 |_=>277
theorem zwO{n:Nat}(hn:n<=2):(csD n).all Value.oneCell'=true:=by
 rcases zun hn with e|e|e
 .subst e;exact rfl
 .subst e;exact rfl
 .subst e;exact rfl
theorem zwt:zf6 Tryz.prog 54 "Lower" = some 58:=by kernel_rfl
theorem zrJ:zf6 Tryz.prog 56 "Lower" = some 19:=by kernel_rfl
theorem zBI:zf6 Tryz.prog 193 "Lower" = some 276:=by kernel_rfl
theorem low_m {n:Nat} (hn:n<=2):zf6 Tryz.prog (tyD n) "Lower" = some (loD n):=by
 rcases zun hn with e|e|e
 .subst e;exact zwt
 .subst e;exact zrJ
 .subst e;exact zBI
theorem low_f{n:Nat}(hn:n<=2):zar Tryz.prog (loD n):=by
 rcases zun hn with e|e|e
 .subst e;exact fn58
 .subst e;exact zuH
 .subst e;exact fn276
theorem zBy:zf6 Tryz.prog 54 "Name" = some 275:=by kernel_rfl
theorem zBx:zf6 Tryz.prog 56 "Name" = some 34:=by kernel_rfl
theorem zBw:zf6 Tryz.prog 193 "Name" = some 277:=by kernel_rfl
theorem nam_m {n:Nat} (hn:n<=2):zf6 Tryz.prog (tyD n) "Name" = some (naD n):=by
 rcases zun hn with e|e|e
 .subst e;exact zBy
 .subst e;exact zBx
 .subst e;exact zBw
theorem nam_f{n:Nat}(hn:n<=2):zar Tryz.prog (naD n):=by
 rcases zun hn with e|e|e
 .subst e;exact zCH
 .subst e;exact fn34
 .subst e;exact fn277
theorem zve(s:Sc)(f:Af){kf:Nat->Nat}{d:Nat}(ha:BkA s kf d f):Ctr Tryz.prog 276 [V.agg (zqr [ifV 54 [],ifV 56 []]),scV s,afV f] (R.tup [qV (qOf (zew zb4 zbw s f).1),V.one (El.row muE (zew zb4 zbw s f).2.1),V.one (Leaf.val (.bool (zew zb4 zbw s f).2.2))]):=by
 haveI:=zoS ha;haveI:=zqy ha;have hlim:=ha.lim;exact zp8 zb4 zbw 54 58 56 19 [] [] rfl rfl zwt zrJ fn58 zuH s f (B:=5000000000) (C:=5000000000) (by omega) (by omega) (zzD s ha.sb f ha.cd.fok (by omega)) (zll s f ha)
theorem zx0{n:Nat}(hn:n<=2)(s:Sc)(f:Af){kf:Nat->Nat}{d:Nat}(ha:BkA s kf d f):Ctr Tryz.prog (loD n) [V.agg (zqr (csD n)),scV s,afV f] (R.tup [qV (qOf (zba n s f).1),V.one (El.row muE (zba n s f).2.1),V.one (Leaf.val (.bool (zba n s f).2.2))]):=by
 rcases zun hn with e|e|e
 .subst e;exact zzD s ha.sb f ha.cd.fok (by have:=ha.lim;omega)
 .subst e;exact zll s f ha
 .subst e;exact zve s f ha
theorem zBv{n:Nat}(hn:n<=2):Ctr Tryz.prog (naD n) [V.agg (zqr (csD n))] (R.one (V.one (Leaf.val (.string (nmD n))))):=by
 rcases zun hn with e|e|e
 .subst e;exact zoP
 .subst e;exact zj5
 .subst e;exact zxV
theorem get_0  : Ctr Tryz.prog 35 [V.one (Leaf.val (.int .i64 (((0:Nat):Int))))] (R.tup [V.one (Leaf.val (ifV 54 [])),V.one (Leaf.val (.bool true))]):=by
 refine bd_ Tryz.func35 Tryz.ntmps35 rfl (fun w0 A0=>?_);refine zc 15 rfl (tq_ rfl (eqT rfl) (zl 7 rfl (tq_ rfl (zfj (vs:=[]) rfl rfl (by kernel_rfl)) (zl 4 rfl ?_))));exact r2_ hq_ rfl rfl
theorem get_1  : Ctr Tryz.prog 35 [V.one (Leaf.val (.int .i64 (((1:Nat):Int))))] (R.tup [V.one (Leaf.val (ifV 56 [])),V.one (Leaf.val (.bool true))]):=by
 refine bd_ Tryz.func35 Tryz.ntmps35 rfl (fun w0 A0=>?_);refine zc 15 rfl (tq_ rfl (eqF rfl) (zl 6 rfl (tq_ rfl (eqT rfl) (zl 7 rfl (tq_ rfl (zfj (vs:=[]) rfl rfl (by kernel_rfl)) (zl 4 rfl ?_))))));exact r2_ hq_ rfl rfl
theorem get_2  : Ctr Tryz.prog 35 [V.one (Leaf.val (.int .i64 (((2:Nat):Int))))] (R.tup [V.one (Leaf.val (ifV 193 [ifV 54 [],ifV 56 []])),V.one (Leaf.val (.bool true))]):=by
 refine bd_ Tryz.func35 Tryz.ntmps35 rfl (fun w0 A0=>?_);refine zc 15 rfl (tq_ rfl (eqF rfl) (zl 6 rfl (tq_ rfl (eqF rfl) (zl 6 rfl (tq_ rfl (eqT rfl) (zl 7 rfl (tq_ rfl (zfj (vs:=[]) rfl rfl (by kernel_rfl)) (zl 1 rfl (tq_ rfl (zfj (vs:=[]) rfl rfl (by kernel_rfl)) ?_)))))))));refine tc_ fn79 rfl (zzG 54 56 [] []) (zl 4 rfl ?_);exact r2_ hq_ rfl rfl
theorem zBS(n:Int)(h:n<0\/2<n):Ctr Tryz.prog 35 [V.one (Leaf.val (.int .i64 (n)))] (R.tup [V.one (Leaf.val (.nilIface)),V.one (Leaf.val (.bool false))]):=by
 refine bd_ Tryz.func35 Tryz.ntmps35 rfl (fun w0 A0=>?_);refine zc 15 rfl (tq_ rfl (eqF rfl) (zl 6 rfl (tq_ rfl (eqF rfl) (zl 6 rfl (tq_ rfl (eqF rfl) (zl 13 rfl ?_))))));exact r2_ hq_ rfl rfl
theorem get_n{n:Nat}(hn:n<=2):Ctr Tryz.prog 35 [V.one (Leaf.val (.int .i64 ((n:Int))))] (R.tup [V.one (Leaf.val (ifV (tyD n) (csD n))),V.one (Leaf.val (.bool true))]):=by
 rcases zun hn with e|e|e
 .subst e;exact get_0
 .subst e;exact get_1
 .subst e;exact get_2
end Go.Proofs.YtjeiacoegppoiaaGreatDoor
