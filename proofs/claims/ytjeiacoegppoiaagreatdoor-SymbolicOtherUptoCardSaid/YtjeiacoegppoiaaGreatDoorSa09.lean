/- Parts of the proof, 9: the texts WlK, WlL, Abv, WlM, WlN, Bnd, DyM, DyQ, DyR, Law5, DyO, Run, WlO, WlP, as far as they are used. -/
import Derived.Test.YtjeiacoegppoiaaGreatDoorSa08
set_option linter.unusedSimpArgs false
set_option linter.unusedVariables false
set_option maxRecDepth 10000
namespace Go.Proofs.YtjeiacoegppoiaaGreatDoor
open Go Go.RowKit Rc
set_option maxHeartbeats 2000000 in
theorem zAD(s:Sc){B:Nat}(hB:∀m∈s.lems,Fq m.v B)(hB2:B<=1000000000)(hl:s.lems.length<=1000000){b:Nat}(hq:QOk s.q)(hd:∀d∈s.path,DOk b s.q d)(hb:b<=1000000)(hpl:s.path.length<=1000)(r:Rw):Ctr Tryz.prog 136 [scV s,rwV r] (R.tup [afV (zhZ s r).1,V.one (Leaf.val (.bool (zhZ s r).2))]):=by
 refine bd_ Tryz.func136 Tryz.ntmps136 rfl (fun w0 A0=>?_);have hg:=hq.g;have hr:=hq.r;have hlo:=hr.lo;have hhi:=hr.hi;have h1:=hg.i1;have h2:=hg.i3;have h3:=hg.u4;have h4:=hg.o1;have h5:=hg.o3;refine zc 19 rfl ?_;refine nz_ [so 2 (D.ptr 0 0),so 3 (D.ptr 1 0),so 4 (D.ptr 2 0),so 6 (D.ptr 3 0)] [hb_ 43 (scL s),hb_ 107 [Leaf.val (.int .i64 r.kind),Leaf.val (.int .i64 r.idx),Leaf.val (.int .i64 r.lo),Leaf.val (.int .i64 r.hi)],hb_ 38 [El.row tmE ([]),Leaf.val (.bool false),zaf ([]),zaf ([])],hb_ 28 [Leaf.val (.int .i64 ((s.q.g.inp:Nat):Int)),El.row afE s.q.g.us,El.row afE s.q.g.os]] rfl rfl ?_;refine zc 3 rfl ?_;by_cases h1:r.idx<0
 .refine tq_ rfl (ltT rfl) (zl 12 rfl (nf_ [0,1,3] [so 4 _] [none,none,_,none] rfl rfl rfl (zc 6 rfl ?_)));exact r2_ hq_ rfl (by unfold zhZ;rw[if_pos h1];exact zby _ _ rfl)
 .refine tq_ rfl (ltF rfl) (zl 5 rfl (tq_ rfl (jln rfl) ?_));by_cases h2:(s.q.g.us.length:Int)<=r.idx
  .refine tq_ rfl (geT rfl) (zl 5 rfl (nf_ [0,1,3] [so 4 _] [none,none,_,none] rfl rfl rfl (zc 6 rfl ?_)));exact r2_ hq_ rfl (by unfold zhZ;rw[if_neg h1,List.getElem?_eq_none (by omega)];exact zby _ _ rfl)
  .refine tq_ rfl (geF rfl) (zl 7 rfl ?_);obtain⟨p,hp0⟩:∃p,s.q.g.us[r.idx.toNat]?=some p:=⟨_,zEm (by omega)⟩;have hp:FL 4 (s.q.g.inp+s.q.g.us.length) p:=(hq.g.us _ p hp0).fl.mono (by omega) (by omega);have hv:FL 2 (s.q.g.inp+s.q.g.us.length) (fV (s.q.g.inp+r.idx.toNat)):=FL.v (by omega);haveI hlq:Br (zdA s r) B:=zok hB;haveI htq:Br (zdk s r) B:=zok hB;have hnl:FL B (s.q.g.inp+s.q.g.us.length) (fN (zdA s r)):=FL.n hlq;have hnt:FL B (s.q.g.inp+s.q.g.us.length) (fN (zdk s r)):=FL.n htq;have g3:=hp.sub hnl;have g5:=FL.sc (c:=zdk s r) g3;have g6:=FL.sc (c:=zdk s r-zdA s r) hv;haveI:=hp.fm (by omega);haveI:=hp.cb;haveI:=hv.fm (by omega);haveI:=hv.cb;haveI:=hnl.fm (by omega);haveI:=hnl.cb;haveI:=hnt.fm (by omega);haveI:=hnt.cb;haveI:=g3.fm (by omega);haveI:=g3.cb;haveI:=g5.fm (by omega);haveI:=g5.cb;haveI:=g6.fm (by omega);haveI:=g6.cb;refine dr_ 2 [(12,4),(13,5),(14,4),(15,5)] [4,5] (dz 4 rfl (kq_ rfl (jad (s.q.g.inp+r.idx.toNat) rfl) (kc_ zsa rfl (zAT (s.q.g.inp+r.idx.toNat) (by omega)) (dz 4 rfl (kq_ rfl (jix r.idx.toNat hp0 rfl (by omega)) (kq_ rfl (jlr rfl) (dz 4 rfl (zad (za 2 rfl ?_)))))))));refine nf_ [3] [so 2 _,so 3 _,so 4 _,so 7 (D.ptr 4 0),so 8 (D.ptr 5 0)] [_,_,_,none,hb_ 38 (afL (fV (s.q.g.inp+r.idx.toNat))),hb_ 38 (afL p)] rfl rfl rfl (zc 6 rfl (tc_ zCT rfl (zrM s hB (by omega) hl r.lo r.idx false) (zl 9 rfl ?_)));refine nz_ [so 2 _,so 3 _,so 4 _,so 7 _,so 8 _,so 9 (D.ptr 6 0),so 10 (D.bool (zus s r))] [_,_,_,none,_,_,hb_ 36 (qL (zdA s r))] rfl rfl (zc 6 rfl (tc_ zCT rfl (zrM s hB (by omega) hl r.hi r.idx true) (zl 9 rfl ?_)));refine nz_ [so 2 _,so 3 _,so 4 _,so 7 _,so 8 _,so 9 _,so 10 _,so 11 (D.ptr 7 0),so 12 (D.bool (ztJ s r))] [_,_,_,none,_,_,_,hb_ 36 (qL (zdk s r))] rfl rfl (zc 1 rfl (tc_ zmA rfl (zmy (-1) (by decide) (by decide)) (zl 4 rfl ?_)));refine mt_ [so 2 (D.ptr 0 0),so 3 (D.ptr 1 0),so 4 (D.ptr 2 0),so 7 (D.ptr 4 0),so 8 (D.ptr 5 0),so 9 (D.ptr 6 0),so 10 (D.bool (zus s r)),so 11 (D.ptr 7 0),so 12 (D.bool (ztJ s r)),so 13 (D.ptr 8 0),so 14 (D.bool (onB s r))] [hb_ 43 (scL s),hb_ 107 [Leaf.val (.int .i64 r.kind),Leaf.val (.int .i64 r.idx),Leaf.val (.int .i64 r.lo),Leaf.val (.int .i64 r.hi)],hb_ 38 [El.row tmE ([]),Leaf.val (.bool false),zaf ([]),zaf ([])],none,hb_ 38 (afL (fV (s.q.g.inp+r.idx.toNat))),hb_ 38 (afL p),hb_ 36 (qL (zdA s r)),hb_ 36 (qL (zdk s r)),hb_ 36 (qL (((-1):Int):Rat))] ?_ ?_
   .refine zc 5 rfl ?_;refine zdT rfl (fun hb68=>?_) (fun hb68=>?_)
    .refine zl 18 rfl (is_ (onB s r) rfl (by simp[onB, *]) (zl 2 rfl ?_));exact mx_ rfl
    .refine zl 4 rfl ?_;refine zdT rfl (fun hb72=>?_) (fun hb72=>?_)
     .refine zl 8 rfl ?_;refine zdT rfl (fun hb80=>?_) (fun hb80=>?_)
      .refine zl 6 rfl (is_ (onB s r) rfl (by simp[onB, *]) (zl 2 rfl ?_));exact mx_ rfl
      .refine zl 1 rfl (tc_ zg9 rfl (zbG (qOf ((zdA s r))) ((zdA s r)) (zaj _) (Br.use (by omega))) (zl 4 rfl (is_ (onB s r) rfl (by simp[onB, *]) (zl 2 rfl ?_))));exact mx_ rfl
     .refine zl 3 rfl (tc_ zuM rfl (zgg s hq hd (by omega) hpl 1 r.idx) (zl 2 rfl ?_));refine zdT rfl (fun hb78=>?_) (fun hb78=>?_)
      .refine zl 2 rfl ?_;refine zdT rfl (fun hb80=>?_) (fun hb80=>?_)
       .refine zl 6 rfl (is_ (onB s r) rfl (by simp[onB, *]) (zl 2 rfl ?_));exact mx_ rfl
       .refine zl 1 rfl (tc_ zg9 rfl (zbG (qOf ((zdA s r))) ((zdA s r)) (zaj _) (Br.use (by omega))) (zl 4 rfl (is_ (onB s r) rfl (by simp[onB, *]) (zl 2 rfl ?_))));exact mx_ rfl
      .refine zl 8 rfl (is_ (onB s r) rfl (by simp[onB, *]) (zl 2 rfl ?_));exact mx_ rfl
   .refine mt_ [so 3 (D.ptr 1 0),so 4 (D.ptr 2 0),so 7 (D.ptr 4 0),so 8 (D.ptr 5 0),so 9 (D.ptr 6 0),so 10 (D.bool (zus s r)),so 11 (D.ptr 7 0),so 12 (D.bool (ztJ s r)),so 13 (D.ptr 8 0),so 14 (D.bool (onB s r)),so 15 (D.bool (zjA s r))] [hb_ 43 (scL s),hb_ 107 [Leaf.val (.int .i64 r.kind),Leaf.val (.int .i64 r.idx),Leaf.val (.int .i64 r.lo),Leaf.val (.int .i64 r.hi)],hb_ 38 [El.row tmE ([]),Leaf.val (.bool false),zaf ([]),zaf ([])],none,hb_ 38 (afL (fV (s.q.g.inp+r.idx.toNat))),hb_ 38 (afL p),hb_ 36 (qL (zdA s r)),hb_ 36 (qL (zdk s r)),hb_ 36 (qL (((-1):Int):Rat))] ?_ ?_
    .refine zc 5 rfl ?_;refine zdT rfl (fun hb90=>?_) (fun hb90=>?_)
     .refine zl 18 rfl (is_ (zjA s r) rfl (by simp[zjA, *]) (zl 2 rfl ?_));exact mx_ rfl
     .refine zl 4 rfl ?_;refine zdT rfl (fun hb94=>?_) (fun hb94=>?_)
      .refine zl 8 rfl ?_;refine zdT rfl (fun hb102=>?_) (fun hb102=>?_)
       .refine zl 6 rfl (is_ (zjA s r) rfl (by simp[zjA, *]) (zl 2 rfl ?_));exact mx_ rfl
       .refine zl 1 rfl (tc_ zg9 rfl (zbG (qOf ((zdk s r))) ((zdk s r)) (zaj _) (Br.use (by omega))) (zl 4 rfl (is_ (zjA s r) rfl (by simp[zjA, *]) (zl 2 rfl ?_))));exact mx_ rfl
      .refine zl 3 rfl (tc_ zuM rfl (zgg s hq hd (by omega) hpl 2 r.idx) (zl 2 rfl ?_));refine zdT rfl (fun hb100=>?_) (fun hb100=>?_)
       .refine zl 2 rfl ?_;refine zdT rfl (fun hb102=>?_) (fun hb102=>?_)
        .refine zl 6 rfl (is_ (zjA s r) rfl (by simp[zjA, *]) (zl 2 rfl ?_));exact mx_ rfl
        .refine zl 1 rfl (tc_ zg9 rfl (zbG (qOf ((zdk s r))) ((zdk s r)) (zaj _) (Br.use (by omega))) (zl 4 rfl (is_ (zjA s r) rfl (by simp[zjA, *]) (zl 2 rfl ?_))));exact mx_ rfl
       .refine zl 8 rfl (is_ (zjA s r) rfl (by simp[zjA, *]) (zl 2 rfl ?_));exact mx_ rfl
    .refine zc 18 rfl ?_;by_cases hk5:r.kind=5
     .refine tq_ rfl (eqT rfl) (zl 4 rfl (nf_ [0,5,6,7,8] [so 3 _,so 4 _,so 7 _,so 16 (D.ptr 9 0)] [none,_,_,none,_,none,none,none,none,hb_ 38 [El.row tmE ([]),Leaf.val (.bool false),zaf ([]),zaf ([])]] rfl rfl rfl (dr_ 0 [(9,9)] [9] (dz 5 rfl ?_))));refine zqg rfl (fun hb118=>?_) (fun hb118=>?_)
      .refine dz 6 rfl (zad (za 4 rfl (nf_ [1,4] [so 4 _,so 16 _,so 17 (D.bool false)] [none,none,_,none,none,none,none,none,none,hb_ 38 (afL (fV (s.q.g.inp+r.idx.toNat)))] rfl rfl rfl (zc 13 rfl ?_))));exact r2_ hq_ rfl (by rw[zbW h1 hp0 (by unfold zbe;rw[if_pos hk5];(try simp at hc212);simp[*])];exact zby _ _ rfl)
      .refine dz 6 rfl (zad (za 4 rfl (nf_ [1,4] [so 4 _,so 16 _,so 17 (D.bool (r.hi == 0))] [none,none,_,none,none,none,none,none,none,hb_ 38 (afL (fV (s.q.g.inp+r.idx.toNat)))] rfl rfl rfl (zc 5 rfl ?_))));refine zao rfl (fun hc212=>?_) (fun hc212=>?_)
       .refine zc 7 rfl ?_;exact r2_ hq_ rfl (by rw[zbW h1 hp0 (by unfold zbe;rw[if_pos hk5];(try simp at hc212);simp[*])];exact zby _ _ rfl)
       .refine zc 9 rfl ?_;exact r2_ hq_ rfl (by rw[zdR h1 hp0 (show zbe s r p=((fV (s.q.g.inp+r.idx.toNat)),true) from by unfold zbe;rw[if_pos hk5];(try simp at hc212);simp[*])] <;> rfl)
     .refine tq_ rfl (eqF rfl) (zl 5 rfl ?_);refine nf_ [0] [so 3 _,so 4 _,so 7 _,so 8 _,so 9 _,so 10 _,so 11 _,so 12 _,so 13 (D.ptr 8 0),so 14 (D.bool (onB s r)),so 15 (D.bool (zjA s r)),so 16 (D.ptr 9 0),so 17 (D.bool false),so 111 (D.val (.int .i64 r.kind))] [none,_,_,none,_,_,_,_,hb_ 36 (qL (((-1):Int):Rat)),hb_ 38 [El.row tmE ([]),Leaf.val (.bool false),zaf ([]),zaf ([])]] rfl rfl rfl ?_;refine zc 1 rfl ?_;by_cases hk6:r.kind=6
      .refine tq_ rfl (eqT rfl) (zl 4 rfl (dr_ 0 [(11,9)] [9] (dz 2 rfl (kc_ zr1 rfl (zh8 (fV (s.q.g.inp+r.idx.toNat)) p (by omega) (by omega) (by omega)) (dz 4 rfl ?_)))));refine zqg rfl (fun hb131=>?_) (fun hb131=>?_)
       .refine dz 6 rfl (zad (za 4 rfl (nf_ [1,4,5,6,7,8] [so 4 _,so 16 _,so 17 _] [none,none,_,none,none,none,none,none,none,hb_ 38 (afL (zca (fV (s.q.g.inp+r.idx.toNat)) p))] rfl rfl rfl (zc 13 rfl ?_))));exact r2_ hq_ rfl (by rw[zbW h1 hp0 (by unfold zbe;rw[if_neg hk5,if_pos hk6];(try simp at hc212);simp[*])];exact zby _ _ rfl)
       .refine dz 6 rfl (zad (za 4 rfl (nf_ [1,4,5,6,7,8] [so 4 _,so 16 _,so 17 (D.bool (r.hi == 0))] [none,none,_,none,none,none,none,none,none,hb_ 38 (afL (zca (fV (s.q.g.inp+r.idx.toNat)) p))] rfl rfl rfl (zc 5 rfl ?_))));refine zao rfl (fun hc212=>?_) (fun hc212=>?_)
        .refine zc 7 rfl ?_;exact r2_ hq_ rfl (by rw[zbW h1 hp0 (by unfold zbe;rw[if_neg hk5,if_pos hk6];(try simp at hc212);simp[*])];exact zby _ _ rfl)
        .refine zc 9 rfl ?_;exact r2_ hq_ rfl (by rw[zdR h1 hp0 (show zbe s r p=(zca (fV (s.q.g.inp+r.idx.toNat)) p,true) from by unfold zbe;rw[if_neg hk5,if_pos hk6];(try simp at hc212);simp[*])] <;> rfl)
      .refine tq_ rfl (eqF rfl) (zl 5 rfl (nz_ [so 3 _,so 4 _,so 7 _,so 8 _,so 9 _,so 10 _,so 11 _,so 12 _,so 13 _,so 14 _,so 15 _,so 16 _,so 17 _,so 111 _] [none,_,_,none,_,_,_,_,_,_] rfl rfl (zc 1 rfl ?_)));by_cases hk7:r.kind=7
       .refine tq_ rfl (eqT rfl) (zl 19 rfl ?_);refine zao rfl (fun hc212=>?_) (fun hc212=>?_)
        .refine zc 1 rfl (nf_ [1,4,5,6,7,8,9] [so 4 _] [none,none,_,none,none,none,none,none,none,none] rfl rfl rfl (zc 6 rfl ?_));exact r2_ hq_ rfl (by rw[zbW h1 hp0 (by unfold zbe;rw[if_neg hk5,if_neg hk6,if_pos hk7];(try simp at hc212);simp[*])];exact zby _ _ rfl)
        .refine zc 9 rfl ?_;exact r2_ hq_ rfl (by rw[zdR h1 hp0 (show zbe s r p=(p,true) from by unfold zbe;rw[if_neg hk5,if_neg hk6,if_pos hk7];(try simp at hc212);simp[*])] <;> rfl)
       .refine tq_ rfl (eqF rfl) (zl 5 rfl (nz_ [so 3 _,so 4 _,so 7 _,so 8 _,so 9 _,so 10 _,so 11 _,so 12 _,so 13 _,so 14 _,so 15 _,so 16 _,so 17 _,so 111 _] [none,_,_,none,_,_,_,_,_,_] rfl rfl (zc 1 rfl ?_)));by_cases hk8:r.kind=8
        .refine tq_ rfl (eqT rfl) (zl 7 rfl (tc_ zr1 rfl (zh8 p (fV (s.q.g.inp+r.idx.toNat)) (by omega) (by omega) (by omega)) (zl 8 rfl (nf_ [1,4,5,6,7,8] [so 4 _,so 16 _,so 17 (D.bool (onB s r))] [none,none,_,none,none,none,none,none,none,hb_ 38 (afL (zca p (fV (s.q.g.inp+r.idx.toNat))))] rfl rfl rfl (zc 5 rfl ?_)))));refine zao rfl (fun hc212=>?_) (fun hc212=>?_)
         .refine zc 7 rfl ?_;exact r2_ hq_ rfl (by rw[zbW h1 hp0 (by unfold zbe;rw[if_neg hk5,if_neg hk6,if_neg hk7,if_pos hk8];(try simp at hc212);simp[*])];exact zby _ _ rfl)
         .refine zc 9 rfl ?_;exact r2_ hq_ rfl (by rw[zdR h1 hp0 (show zbe s r p=(zca p (fV (s.q.g.inp+r.idx.toNat)),true) from by unfold zbe;rw[if_neg hk5,if_neg hk6,if_neg hk7,if_pos hk8];(try simp at hc212);simp[*])] <;> rfl)
        .refine tq_ rfl (eqF rfl) (zl 5 rfl (nz_ [so 3 _,so 4 _,so 7 _,so 8 _,so 9 _,so 10 _,so 11 _,so 12 _,so 13 _,so 15 _,so 16 _,so 17 _,so 111 _] [none,_,_,none,_,_,_,_,_,_] rfl rfl (zc 1 rfl ?_)));by_cases hk9:r.kind=9
         .refine tq_ rfl (eqT rfl) (zl 7 rfl (tc_ zqh rfl (zcc p (((-1):Int):Rat) (by omega) (by omega)) (zl 8 rfl (nf_ [1,4,5,6,7,8] [so 4 _,so 16 _,so 17 (D.bool (zjA s r))] [none,none,_,none,none,none,none,none,none,hb_ 38 (afL (fSc p (((-1):Int):Rat)))] rfl rfl rfl (zc 5 rfl ?_)))));refine zao rfl (fun hc212=>?_) (fun hc212=>?_)
          .refine zc 7 rfl ?_;exact r2_ hq_ rfl (by rw[zbW h1 hp0 (by unfold zbe;rw[if_neg hk5,if_neg hk6,if_neg hk7,if_neg hk8,if_pos hk9];(try simp at hc212);simp[*])];exact zby _ _ rfl)
          .refine zc 9 rfl ?_;exact r2_ hq_ rfl (by rw[zdR h1 hp0 (show zbe s r p=(fSc p ((-1:Int):Rat),true) from by unfold zbe;rw[if_neg hk5,if_neg hk6,if_neg hk7,if_neg hk8,if_pos hk9];(try simp at hc212);simp[*])] <;> rfl)
         .refine tq_ rfl (eqF rfl) (zl 5 rfl (nz_ [so 3 _,so 4 _,so 7 _,so 8 _,so 9 _,so 10 _,so 11 _,so 12 _,so 13 _,so 15 _,so 16 _,so 17 _,so 111 _] [none,_,_,none,_,_,_,_,_,_] rfl rfl (zc 1 rfl ?_)));by_cases hk10:r.kind=10
          .refine tq_ rfl (eqT rfl) (zl 7 rfl (tc_ zqh rfl (zcc (fV (s.q.g.inp+r.idx.toNat)) (((-1):Int):Rat) (by omega) (by omega)) (zl 8 rfl (nf_ [1,4,5,6,7,8] [so 4 _,so 16 _,so 17 (D.bool (zjA s r))] [none,none,_,none,none,none,none,none,none,hb_ 38 (afL (fSc (fV (s.q.g.inp+r.idx.toNat)) (((-1):Int):Rat)))] rfl rfl rfl (zc 5 rfl ?_)))));refine zao rfl (fun hc212=>?_) (fun hc212=>?_)
           .refine zc 7 rfl ?_;exact r2_ hq_ rfl (by rw[zbW h1 hp0 (by unfold zbe;rw[if_neg hk5,if_neg hk6,if_neg hk7,if_neg hk8,if_neg hk9,if_pos hk10];(try simp at hc212);simp[*])];exact zby _ _ rfl)
           .refine zc 9 rfl ?_;exact r2_ hq_ rfl (by rw[zdR h1 hp0 (show zbe s r p=(fSc (fV (s.q.g.inp+r.idx.toNat)) ((-1:Int):Rat),true) from by unfold zbe;rw[if_neg hk5,if_neg hk6,if_neg hk7,if_neg hk8,if_neg hk9,if_pos hk10];(try simp at hc212);simp[*])] <;> rfl)
          .refine tq_ rfl (eqF rfl) (zl 5 rfl (nf_ [8] [so 3 _,so 4 _,so 7 _,so 8 _,so 9 _,so 10 _,so 11 _,so 12 _,so 16 _,so 17 _,so 111 _] [none,_,_,none,_,_,_,_,none,_] rfl rfl rfl (zc 1 rfl ?_)));by_cases hk11:r.kind=11
           .refine tq_ rfl (eqT rfl) (zl 4 rfl (dr_ 0 [(10,9)] [9] (dz 2 rfl (kc_ zwD rfl (zeM (zdA s r)) (kc_ zr1 rfl (zh8 p (fN (zdA s r)) (by omega) (by omega) (by omega)) (dz 2 rfl ?_))))));refine zqg rfl (fun hb165=>?_) (fun hb165=>?_)
            .refine dz 6 rfl (zad (za 4 rfl (nf_ [1,4,5,6,7] [so 4 _,so 16 _,so 17 _] [none,none,_,none,none,none,none,none,none,hb_ 38 (afL (zca p (fN (zdA s r))))] rfl rfl rfl (zc 13 rfl ?_))));exact r2_ hq_ rfl (by rw[zbW h1 hp0 (by unfold zbe;rw[if_neg hk5,if_neg hk6,if_neg hk7,if_neg hk8,if_neg hk9,if_neg hk10,if_pos hk11];(try simp at hc212);simp[*])];exact zby _ _ rfl)
            .refine dz 6 rfl (zad (za 4 rfl (nf_ [1,4,5,6,7] [so 4 _,so 16 _,so 17 (D.bool (r.hi == 0))] [none,none,_,none,none,none,none,none,none,hb_ 38 (afL (zca p (fN (zdA s r))))] rfl rfl rfl (zc 5 rfl ?_))));refine zao rfl (fun hc212=>?_) (fun hc212=>?_)
             .refine zc 7 rfl ?_;exact r2_ hq_ rfl (by rw[zbW h1 hp0 (by unfold zbe;rw[if_neg hk5,if_neg hk6,if_neg hk7,if_neg hk8,if_neg hk9,if_neg hk10,if_pos hk11];(try simp at hc212);simp[*])];exact zby _ _ rfl)
             .refine zc 9 rfl ?_;exact r2_ hq_ rfl (by rw[zdR h1 hp0 (show zbe s r p=(zca p (fN (zdA s r)),true) from by unfold zbe;rw[if_neg hk5,if_neg hk6,if_neg hk7,if_neg hk8,if_neg hk9,if_neg hk10,if_pos hk11];(try simp at hc212);simp[*])] <;> rfl)
           .refine tq_ rfl (eqF rfl) (zl 5 rfl (nz_ [so 3 _,so 4 _,so 7 _,so 8 _,so 9 _,so 10 _,so 11 _,so 12 _,so 16 _,so 17 _,so 111 _] [none,_,_,none,_,_,_,_,none,_] rfl rfl (zc 1 rfl ?_)));by_cases hk12:r.kind=12
            .refine tq_ rfl (eqT rfl) (zl 4 rfl (dr_ 0 [(10,9)] [9] (dz 1 rfl (kc_ zwD rfl (zeM (zdk s r)) (dz 1 rfl (kc_ zr1 rfl (zh8 (fN (zdk s r)) p (by omega) (by omega) (by omega)) (dz 2 rfl ?_)))))));refine zqg rfl (fun hb177=>?_) (fun hb177=>?_)
             .refine dz 6 rfl (zad (za 4 rfl (nf_ [1,4,5,6,7] [so 4 _,so 16 _,so 17 _] [none,none,_,none,none,none,none,none,none,hb_ 38 (afL (zca (fN (zdk s r)) p))] rfl rfl rfl (zc 13 rfl ?_))));exact r2_ hq_ rfl (by rw[zbW h1 hp0 (by unfold zbe;rw[if_neg hk5,if_neg hk6,if_neg hk7,if_neg hk8,if_neg hk9,if_neg hk10,if_neg hk11,if_pos hk12];(try simp at hc212);simp[*])];exact zby _ _ rfl)
             .refine dz 6 rfl (zad (za 4 rfl (nf_ [1,4,5,6,7] [so 4 _,so 16 _,so 17 (D.bool (r.lo == 0))] [none,none,_,none,none,none,none,none,none,hb_ 38 (afL (zca (fN (zdk s r)) p))] rfl rfl rfl (zc 5 rfl ?_))));refine zao rfl (fun hc212=>?_) (fun hc212=>?_)
              .refine zc 7 rfl ?_;exact r2_ hq_ rfl (by rw[zbW h1 hp0 (by unfold zbe;rw[if_neg hk5,if_neg hk6,if_neg hk7,if_neg hk8,if_neg hk9,if_neg hk10,if_neg hk11,if_pos hk12];(try simp at hc212);simp[*])];exact zby _ _ rfl)
              .refine zc 9 rfl ?_;exact r2_ hq_ rfl (by rw[zdR h1 hp0 (show zbe s r p=(zca (fN (zdk s r)) p,true) from by unfold zbe;rw[if_neg hk5,if_neg hk6,if_neg hk7,if_neg hk8,if_neg hk9,if_neg hk10,if_neg hk11,if_pos hk12];(try simp at hc212);simp[*])] <;> rfl)
            .refine tq_ rfl (eqF rfl) (zl 5 rfl (nf_ [1] [so 4 _,so 7 _,so 8 _,so 9 _,so 10 _,so 11 _,so 12 _,so 16 _,so 17 _,so 111 _] [none,none,_,none,_,_,_,_,none,_] rfl rfl rfl (zc 1 rfl ?_)));by_cases hk13:r.kind=13
             .refine tq_ rfl (eqT rfl) (zl 5 rfl (dr_ 1 [(6,10),(7,10)] [10] (dz 2 rfl (kc_ zwD rfl (zeM (zdA s r)) (kc_ zr1 rfl (zh8 p (fN (zdA s r)) (by omega) (by omega) (by omega)) (dz 1 rfl (kc_ zqh rfl (zcc (zca p (fN (zdA s r))) (zdk s r) (by omega) (by omega)) (dz 2 rfl (zad ?_)))))))));refine za 1 rfl (nf_ [5] [so 4 _,so 7 _,so 9 _,so 10 _,so 11 _,so 12 _,so 16 _,so 18 (D.ptr 10 0)] [none,none,_,none,_,none,_,_,none,_,hb_ 38 (afL (fSc (zca p (fN (zdA s r))) (zdk s r)))] rfl rfl rfl (dr_ 0 [(21,9)] [9] (dz 4 rfl ?_)));refine kc_ zzd rfl (zmO (qOf ((zdk s r))) ((zdk s r)) (zaj _) (Br.use (by omega)) (qOf ((zdA s r))) ((zdA s r)) (zaj _) (Br.use (by omega))) (kc_ zqh rfl (zcc (fV (s.q.g.inp+r.idx.toNat)) (((zdk s r))-((zdA s r))) (by omega) (by omega)) ?_);refine kc_ zr1 rfl (zh8 (fSc (zca p (fN (zdA s r))) (zdk s r)) (fSc (fV (s.q.g.inp+r.idx.toNat)) (((zdk s r))-((zdA s r)))) (by omega) (by omega) (by omega)) (dz 2 rfl ?_);refine zqg rfl (fun hb198=>?_) (fun hb198=>?_)
              .refine dz 14 rfl (zad (za 4 rfl (nf_ [4,6,7,10] [so 4 _,so 16 _,so 17 (D.bool false)] [none,none,_,none,none,none,none,none,none,hb_ 38 (afL (zca (fSc (zca p (fN (zdA s r))) (zdk s r)) (fSc (fV (s.q.g.inp+r.idx.toNat)) (((zdk s r))-((zdA s r)))))),none] rfl rfl rfl (zc 13 rfl ?_))));exact r2_ hq_ rfl (by rw[zbW h1 hp0 (by unfold zbe;rw[if_neg hk5,if_neg hk6,if_neg hk7,if_neg hk8,if_neg hk9,if_neg hk10,if_neg hk11,if_neg hk12,if_pos hk13];(try simp at hc212);simp[*])];exact zby _ _ rfl)
              .refine dz 3 rfl ?_;refine zqg rfl (fun hb201=>?_) (fun hb201=>?_)
               .refine dz 11 rfl (zad (za 4 rfl (nf_ [4,6,7,10] [so 4 _,so 16 _,so 17 (D.bool false)] [none,none,_,none,none,none,none,none,none,hb_ 38 (afL (zca (fSc (zca p (fN (zdA s r))) (zdk s r)) (fSc (fV (s.q.g.inp+r.idx.toNat)) (((zdk s r))-((zdA s r)))))),none] rfl rfl rfl (zc 13 rfl ?_))));exact r2_ hq_ rfl (by rw[zbW h1 hp0 (by unfold zbe;rw[if_neg hk5,if_neg hk6,if_neg hk7,if_neg hk8,if_neg hk9,if_neg hk10,if_neg hk11,if_neg hk12,if_pos hk13];(try simp at hc212);simp[*])];exact zby _ _ rfl)
               .refine dz 1 rfl (kc_ zg9 rfl (zbG (qOf ((zdA s r))) ((zdA s r)) (zaj _) (Br.use (by omega))) (dz 3 rfl ?_));refine zqg rfl (fun hb206=>?_) (fun hb206=>?_)
                .refine dz 6 rfl (zad (za 4 rfl (nf_ [4,6,7,10] [so 4 _,so 16 _,so 17 (D.bool false)] [none,none,_,none,none,none,none,none,none,hb_ 38 (afL (zca (fSc (zca p (fN (zdA s r))) (zdk s r)) (fSc (fV (s.q.g.inp+r.idx.toNat)) (((zdk s r))-((zdA s r)))))),none] rfl rfl rfl (zc 13 rfl ?_))));exact r2_ hq_ rfl (by rw[zbW h1 hp0 (by unfold zbe;rw[if_neg hk5,if_neg hk6,if_neg hk7,if_neg hk8,if_neg hk9,if_neg hk10,if_neg hk11,if_neg hk12,if_pos hk13];(try simp at hc212);simp[*])];exact zby _ _ rfl)
                .refine dz 1 rfl (kc_ zg9 rfl (zbG (qOf ((zdk s r))) ((zdk s r)) (zaj _) (Br.use (by omega))) (dz 4 rfl (zad (za 4 rfl ?_))));refine nf_ [4,6,7,10] [so 4 _,so 16 _,so 17 (D.bool (decide (0<(sg ((zdk s r))))))] [none,none,_,none,none,none,none,none,none,hb_ 38 (afL (zca (fSc (zca p (fN (zdA s r))) (zdk s r)) (fSc (fV (s.q.g.inp+r.idx.toNat)) (((zdk s r))-((zdA s r)))))),none] rfl rfl rfl (zc 5 rfl ?_);refine zao rfl (fun hc212=>?_) (fun hc212=>?_)
                 .refine zc 7 rfl ?_;exact r2_ hq_ rfl (by rw[zbW h1 hp0 (by unfold zbe;rw[if_neg hk5,if_neg hk6,if_neg hk7,if_neg hk8,if_neg hk9,if_neg hk10,if_neg hk11,if_neg hk12,if_pos hk13];(try simp at hc212);simp[*])];exact zby _ _ rfl)
                 .refine zc 9 rfl ?_;exact r2_ hq_ rfl (by rw[zdR h1 hp0 (show zbe s r p=(zca (fSc (zca p (fN (zdA s r))) (zdk s r)) (fSc (fV (s.q.g.inp+r.idx.toNat)) (zdk s r-zdA s r)),true) from by unfold zbe;rw[if_neg hk5,if_neg hk6,if_neg hk7,if_neg hk8,if_neg hk9,if_neg hk10,if_neg hk11,if_neg hk12,if_pos hk13];(try simp at hc212);simp[*])] <;> rfl)
             .refine tq_ rfl (eqF rfl) (zl 9 rfl (nf_ [4,5,6,7] [so 4 _,so 16 _,so 17 _] [none,none,_,none,none,none,none,none,none,_] rfl rfl rfl (zc 13 rfl ?_)));exact r2_ hq_ rfl (by rw[zbW h1 hp0 (by unfold zbe;rw[if_neg hk5,if_neg hk6,if_neg hk7,if_neg hk8,if_neg hk9,if_neg hk10,if_neg hk11,if_neg hk12,if_neg hk13])];exact zby _ _ rfl)
set_option maxHeartbeats 2000000 in
theorem zCf(s:Sc){B:Nat}(hB:∀m∈s.lems,Fq m.v B)(hB2:B<=1000000000)(hl:s.lems.length<=1000000){b:Nat}(hq:QOk s.q)(hd:∀d∈s.path,DOk b s.q d)(hb:b<=1000000)(hpl:s.path.length<=1000)(r:Rw):Ctr Tryz.prog 62 [scV s,rwV r] (R.tup [afV (zaI s r).1,V.one (Leaf.val (.bool (zaI s r).2))]):=by
 refine bd_ Tryz.func62 Tryz.ntmps62 rfl (fun w0 A0=>?_);have hg:=hq.g;have hr:=hq.r;have hlo:=hr.lo;have hhi:=hr.hi;have h1:=hg.i1;have h2:=hg.i3;have h3:=hg.u4;have h4:=hg.o1;have h5:=hg.o3;refine zc 13 rfl (tc_ zzf rfl (zeq s.q hq) (zl 11 rfl ?_));by_cases h5:5<=r.kind
 .refine tq_ rfl (geT rfl) (zl 7 rfl (tc_ fn136 rfl (zAD s hB (by omega) (by omega) hq hd (by omega) (by omega) r) (zl 6 rfl ?_)));exact r2_ hq_ rfl (by unfold zaI;rw[if_pos h5] <;> rfl)
 .refine tq_ rfl (geF rfl) (zl 10 rfl ?_);by_cases ha:r.lo≠0
  .refine tq_ rfl (neT rfl) (zl 14 rfl ?_);have h0:r.lo≠0\/r.hi≠0\/r.idx<0:=.inl ha;refine zc 6 rfl ?_;exact r2_ hq_ rfl (by unfold zaI;rw[if_neg h5,if_pos h0];exact zby _ _ rfl)
  .refine tq_ rfl (neF rfl) (zl 3 rfl ?_);by_cases hb_:r.hi≠0
   .refine tq_ rfl (neT rfl) (zl 10 rfl ?_);have h0:r.lo≠0\/r.hi≠0\/r.idx<0:=.inr (.inl hb_);refine zc 6 rfl ?_;exact r2_ hq_ rfl (by unfold zaI;rw[if_neg h5,if_pos h0];exact zby _ _ rfl)
   .refine tq_ rfl (neF rfl) (zl 4 rfl ?_);by_cases hc_:r.idx<0
    .refine tq_ rfl (ltT rfl) (zl 5 rfl ?_);have h0:r.lo≠0\/r.hi≠0\/r.idx<0:=.inr (.inr hc_);refine zc 6 rfl ?_;exact r2_ hq_ rfl (by unfold zaI;rw[if_neg h5,if_pos h0];exact zby _ _ rfl)
    .refine tq_ rfl (ltF rfl) (zl 7 rfl ?_);have h0:¬(r.lo≠0\/r.hi≠0\/r.idx<0):=by omega
     refine zc 18 rfl ?_;by_cases hk1:r.kind=1
     .refine tq_ rfl (eqT rfl) (zl 10 rfl (tq_ rfl (jln rfl) ?_));by_cases hin:r.idx.toNat<s.q.r.lo.length
      .refine tq_ rfl (ltT rfl) (zl 4 rfl ?_);obtain⟨c,hc⟩:∃c,s.q.r.lo[r.idx.toNat]?=some c:=⟨_,zEm (by omega)⟩;obtain⟨c2,hc2⟩:∃c,s.q.r.hi[r.idx.toNat]?=some c:=⟨_,zEm (by omega)⟩;have hcb:=hr.bd _ _ _ hc hc2;have hv:FL 2 (s.q.g.inp+s.q.g.us.length) (fV r.idx.toNat):=FL.v (by omega);have hn:FL 8 (s.q.g.inp+s.q.g.us.length) (fN c):=FL.n (hcb.1.br.mono (by omega));haveI:=hv.fm (by omega);haveI:=hv.cb;haveI:=hn.fm (by omega);haveI:=hn.cb;refine dr_ 0 [(11,2)] [2] (dz 2 rfl (zi8 (D.val (.int .i64 ((r.idx.toNat:Nat):Int))) rfl (by rw[Int.toNat_of_nonneg (by omega)]) (kc_ zsa rfl (zAT r.idx.toNat (by omega)) (dz 4 rfl (kq_ rfl (jix r.idx.toNat hc rfl (by omega)) (kq_ rfl (jlr rfl) (kc_ zwD rfl (zeM c) (kc_ zr1 rfl (zh8 (fV r.idx.toNat) (fN c) (by omega) (by omega) (by omega)) (dz 2 rfl ?_)))))))));refine zad (za 1 rfl ?_);exact r2_ hq_ rfl (by unfold zaI;rw[if_neg h5,if_neg h0,if_pos hk1,hc] <;> rfl)
      .refine tq_ rfl (ltF rfl) (zl 13 rfl ?_);exact r2_ hq_ rfl (by unfold zaI;rw[if_neg h5,if_neg h0,if_pos hk1,List.getElem?_eq_none (by omega)];exact zby _ _ rfl)
     .refine tq_ rfl (eqF rfl) (zl 6 rfl ?_);by_cases hk2:r.kind=2
      .refine tq_ rfl (eqT rfl) (zl 10 rfl (tq_ rfl (jln rfl) ?_));by_cases hin:r.idx.toNat<s.q.r.hi.length
       .refine tq_ rfl (ltT rfl) (zl 4 rfl ?_);obtain⟨c,hc⟩:∃c,s.q.r.hi[r.idx.toNat]?=some c:=⟨_,zEm (by omega)⟩;obtain⟨c2,hc2⟩:∃c,s.q.r.lo[r.idx.toNat]?=some c:=⟨_,zEm (by omega)⟩;have hcb:=hr.bd _ _ _ hc2 hc;have hv:FL 2 (s.q.g.inp+s.q.g.us.length) (fV r.idx.toNat):=FL.v (by omega);have hn:FL 8 (s.q.g.inp+s.q.g.us.length) (fN c):=FL.n (hcb.2.1.br.mono (by omega));haveI:=hv.fm (by omega);haveI:=hv.cb;haveI:=hn.fm (by omega);haveI:=hn.cb;refine dr_ 0 [(11,2)] [2] (dz 4 rfl (kq_ rfl (jix r.idx.toNat hc rfl (by omega)) (kq_ rfl (jlr rfl) (kc_ zwD rfl (zeM c) (dz 2 rfl (zi8 (D.val (.int .i64 ((r.idx.toNat:Nat):Int))) rfl (by rw[Int.toNat_of_nonneg (by omega)]) (kc_ zsa rfl (zAT r.idx.toNat (by omega)) (kc_ zr1 rfl (zh8 (fN c) (fV r.idx.toNat) (by omega) (by omega) (by omega)) (dz 2 rfl ?_)))))))));refine zad (za 1 rfl ?_);exact r2_ hq_ rfl (by unfold zaI;rw[if_neg h5,if_neg h0,if_neg hk1,if_pos hk2,hc] <;> rfl)
       .refine tq_ rfl (ltF rfl) (zl 13 rfl ?_);exact r2_ hq_ rfl (by unfold zaI;rw[if_neg h5,if_neg h0,if_neg hk1,if_pos hk2,List.getElem?_eq_none (by omega)];exact zby _ _ rfl)
      .refine tq_ rfl (eqF rfl) (zl 6 rfl ?_);by_cases hk3:r.kind=3
       .refine tq_ rfl (eqT rfl) (zl 10 rfl (tq_ rfl (jln rfl) ?_));by_cases hin:r.idx.toNat<s.q.r.rows.length
        .refine tq_ rfl (ltT rfl) (zl 4 rfl ?_);obtain⟨f,hf⟩:∃f,s.q.r.rows[r.idx.toNat]?=some f:=⟨_,zEm (by omega)⟩;refine zc 5 rfl (tq_ rfl (jix r.idx.toNat hf rfl (by omega)) (tq_ rfl (jlr rfl) (zl 4 rfl ?_)));exact r2_ hq_ rfl (by unfold zaI;rw[if_neg h5,if_neg h0,if_neg hk1,if_neg hk2,if_pos hk3,hf] <;> rfl)
        .refine tq_ rfl (ltF rfl) (zl 13 rfl ?_);exact r2_ hq_ rfl (by unfold zaI;rw[if_neg h5,if_neg h0,if_neg hk1,if_neg hk2,if_pos hk3,List.getElem?_eq_none (by omega)];exact zby _ _ rfl)
       .refine tq_ rfl (eqF rfl) (zl 6 rfl ?_);by_cases hk4:r.kind=4
        .refine tq_ rfl (eqT rfl) (zl 6 rfl (dr_ 0 [] [] (dz 4 rfl (kq_ rfl (jln rfl) ?_))));by_cases hin:s.path.length<=r.idx.toNat
         .refine kq_ rfl (geT rfl) (dz 12 rfl (zad (za 9 rfl ?_)));exact r2_ hq_ rfl (by unfold zaI;rw[if_neg h5,if_neg h0,if_neg hk1,if_neg hk2,if_neg hk3,if_pos hk4,List.getElem?_eq_none (by omega)];exact zby _ _ rfl)
         .refine kq_ rfl (geF rfl) (dz 1 rfl ?_);obtain⟨d,hdd⟩:∃d,s.path[r.idx.toNat]?=some d:=⟨_,zEm (by omega)⟩;have hdo:=hd d (zEn hdd);have hdk:d.kind=1\/d.kind=2\/d.kind=3\/d.kind=4:=by rcases hdo.1 with⟨h,_⟩|⟨h,_⟩ <;> omega
          have hdi:d.idx<(s.q.g.inp+s.q.g.us.length):=by rcases hdo.1 with⟨_,h,_⟩|⟨_,h⟩ <;> omega
          have hv:FL 2 (s.q.g.inp+s.q.g.us.length) (fV d.idx):=FL.v hdi;have hn:FL (b+1) (s.q.g.inp+s.q.g.us.length) (fN d.pt):=FL.n hdo.2.br;have hs:=hv.sub hn;haveI:=hv.fm (by omega);haveI:=hv.cb;haveI:=hn.fm (by omega);haveI:=hn.cb;haveI:=hs.fm (by omega);haveI:=hs.cb;refine dz 6 rfl (kq_ rfl (jix r.idx.toNat hdd rfl (by omega)) (kq_ rfl (jlr rfl) (kc_ zzl rfl (zsc s.q d (by assumption) (by omega)) (dz 2 rfl (zad (za 10 rfl (tq_ rfl (jix r.idx.toNat hdd rfl (by omega)) (tq_ rfl (jlr rfl) (zl 5 rfl ?_)))))))));refine dr_ 1 [(7,5),(8,5)] [5] (dz 2 rfl (kc_ zsa rfl (zAT d.idx (by omega)) (dz 2 rfl (kc_ zwD rfl (zeM d.pt) (kc_ zr1 rfl (zh8 (fV d.idx) (fN d.pt) (by omega) (by omega) (by omega)) (dz 2 rfl (zad (za 6 rfl ?_))))))));by_cases hk:d.kind=3
          .refine tq_ rfl (eqT rfl) (zl 10 rfl ?_);exact r2_ hq_ rfl (by unfold zaI;rw[if_neg h5,if_neg h0,if_neg hk1,if_neg hk2,if_neg hk3,if_pos hk4,hdd];show _=R.tup [afV (if 3<=d.kind then(zeR d,true) else(fZ,false)).1,V.one (Leaf.val (.bool (if 3<=d.kind then(zeR d,true) else(fZ,false)).2))];rw[if_pos (by omega)];show _=R.tup [afV (zeR d),V.one (Leaf.val (.bool true))];unfold zeR;rw[if_pos hk] <;> rfl)
          .refine tq_ rfl (eqF rfl) (zl 9 rfl ?_);by_cases hk_:d.kind=4
           .refine tq_ rfl (eqT rfl) (zl 4 rfl (dr_ 0 [(3,2)] [2] (dz 1 rfl (kc_ zmA rfl (zmy (-1) (by decide) (by decide)) (kc_ zqh rfl (zcc (zca (fV d.idx) (fN d.pt)) (((-1):Int):Rat) (by omega) (by omega)) (dz 2 rfl (zad (za 1 rfl ?_))))))));exact r2_ hq_ rfl (by unfold zaI;rw[if_neg h5,if_neg h0,if_neg hk1,if_neg hk2,if_neg hk3,if_pos hk4,hdd];show _=R.tup [afV (if 3<=d.kind then(zeR d,true) else(fZ,false)).1,V.one (Leaf.val (.bool (if 3<=d.kind then(zeR d,true) else(fZ,false)).2))];rw[if_pos (by omega)];show _=R.tup [afV (zeR d),V.one (Leaf.val (.bool true))];unfold zeR;rw[if_neg hk] <;> rfl)
           .refine tq_ rfl (eqF rfl) (zl 13 rfl ?_);exact r2_ hq_ rfl (by unfold zaI;rw[if_neg h5,if_neg h0,if_neg hk1,if_neg hk2,if_neg hk3,if_pos hk4,hdd];show _=R.tup [afV (if 3<=d.kind then(zeR d,true) else(fZ,false)).1,V.one (Leaf.val (.bool (if 3<=d.kind then(zeR d,true) else(fZ,false)).2))];rw[if_neg (by omega)];exact zby _ _ rfl)
        .refine tq_ rfl (eqF rfl) (zl 14 rfl ?_);exact r2_ hq_ rfl (by unfold zaI;rw[if_neg h5,if_neg h0,if_neg hk1,if_neg hk2,if_neg hk3,if_neg hk4];exact zby _ _ rfl)
end Go.Proofs.YtjeiacoegppoiaaGreatDoor
namespace Rc
open Go Go.RowKit
theorem fZ_ls:[tmE.row fZ.ts,Leaf.val (.bool (zaR fZ.c)),zaf (zaa (zav fZ.c)),zaf (zaa (zaC fZ.c))]=[nilL,Leaf.val (.bool false),nilL,nilL]:=by
 show[tmE.row [],Leaf.val (.bool (zaR 0)),zaf (zaa (zav 0)),zaf (zaa (zaC 0))]=_;rw[zbm,zbn,zai];rfl
theorem zwL{x:Qr}(h:x=qOf x.q):D.agg [Leaf.val (.bool x.neg),zaf x.n,zaf x.d]=D.agg (qL x.q):=by
 rw[h,zaj];rfl
theorem zet{q:Rat}(h:0<=q):zaR q=false:=by unfold zaR;exact decide_eq_false (Int.not_lt.2 (Rat.num_nonneg.2 h))
theorem ze2(q:Rat):D.agg [Leaf.val (.bool false),zaf (zaa (zav q)),zaf (zaa (zaC q))]=D.agg (qL (rq false (zav q) (zaC q))):=by
 have h0:=zef q;rw[zo0] at h0 ⊢;split
 .rename_i h;rw[if_pos h] at h0;unfold qL;rw[zoJ,zoN,zet h0]
 .rename_i h;rw[if_neg h] at h0;unfold qL;rw[zet h0]
theorem zgD(n:Nat):(n:Int).toNat=n:=rfl
section
variable {s:Sc}
theorem zm9{v:Nat}{c:Rat}(h:s.q.r.lo[v]?=some c):zaI s ⟨1,(v:Int),0,0⟩=(zca (fV v) (fN c),true):=by
 unfold zaI;rw[if_neg (by show ¬(5:Int)<=1;decide),if_neg (by show ¬((0:Int)≠0\/(0:Int)≠0\/(v:Int)<0);omega),if_pos rfl];simp only[zgD,h]
theorem zna{v:Nat}{c:Rat}(h:s.q.r.hi[v]?=some c):zaI s ⟨2,(v:Int),0,0⟩=(zca (fN c) (fV v),true):=by
 unfold zaI;rw[if_neg (by show ¬(5:Int)<=2;decide),if_neg (by show ¬((0:Int)≠0\/(0:Int)≠0\/(v:Int)<0);omega),if_neg (by show ¬(2:Int)=1;decide),if_pos rfl];simp only[zgD,h]
theorem zcu{k lo hi:Int}{j:Nat}{p f:Af}(hk:5<=k)(hp:s.q.g.us[j]?=some p)(h:zbe s ⟨k,(j:Int),lo,hi⟩ p=(f,true)):zaI s ⟨k,(j:Int),lo,hi⟩=(f,true):=by
 unfold zaI;rw[if_pos hk];exact zdR (by show ¬(j:Int)<0;omega) hp h
theorem zgd{j:Nat}{p:Af}(hp:s.q.g.us[j]?=some p):zaI s ⟨5,(j:Int),0,0⟩=(fV (s.q.g.inp+j),true):=
 zcu (by decide) hp (by unfold zbe;rw[if_pos rfl];rfl)
theorem zjK{j:Nat}{p:Af}(hp:s.q.g.us[j]?=some p):zaI s ⟨6,(j:Int),0,0⟩=(zca (fV (s.q.g.inp+j)) p,true):=
 zcu (by decide) hp (by unfold zbe;rw[if_neg (by simp),if_pos rfl];rfl)
theorem zjG{j n:Nat}{up:Bool}{m:Lm}(hn:0<n)(hm:s.lems[n-1]?=some m)(hu:m.unit=(j:Int))(hup:m.up=up):lem s.lems (n:Int) (j:Int) up=(m.v.q,true):=
 zrN (by omega) (by rw[show((n:Int)-1).toNat=n-1 by omega];exact hm) ⟨hu,hup⟩
theorem zkA{j n:Nat}{p:Af}{m:Lm}(hp:s.q.g.us[j]?=some p)(hn:0<n)(hm:s.lems[n-1]?=some m)(hu:m.unit=(j:Int))(hup:m.up=false)(hv:0<=m.v.q) :
  zaI s ⟨8,(j:Int),(n:Int),0⟩=(zca p (fV (s.q.g.inp+j)),true):=
 zcu (by decide) hp (by
  unfold zbe;rw[if_neg (by simp),if_neg (by simp),if_neg (by simp),if_pos rfl];unfold onB zus zdA;simp only[zjG hn hm hu hup,zjb.2 hv];simp)
theorem zhG{j n:Nat}{p:Af}{m:Lm}(hp:s.q.g.us[j]?=some p)(hn:0<n)(hm:s.lems[n-1]?=some m)(hu:m.unit=(j:Int))(hup:m.up=true)(hv:m.v.q<=0) :
  zaI s ⟨10,(j:Int),0,(n:Int)⟩=(fSc (fV (s.q.g.inp+j)) ((-1:Int):Rat),true):=
 zcu (by decide) hp (by
  unfold zbe;rw[if_neg (by simp),if_neg (by simp),if_neg (by simp),if_neg (by simp),if_neg (by simp),if_pos rfl];unfold zjA ztJ zdk;simp only[zjG hn hm hu hup,zh5.2 hv];simp)
theorem ziA{j n:Nat}{p:Af}{m:Lm}(hp:s.q.g.us[j]?=some p)(hn:0<n)(hm:s.lems[n-1]?=some m)(hu:m.unit=(j:Int))(hup:m.up=true) :
  zaI s ⟨12,(j:Int),0,(n:Int)⟩=(zca (fN m.v.q) p,true):=
 zcu (by decide) hp (by
  unfold zbe;rw[if_neg (by simp),if_neg (by simp),if_neg (by simp),if_neg (by simp),if_neg (by simp),if_neg (by simp),if_neg (by simp),if_pos rfl];unfold ztJ zdk;simp only[zjG hn hm hu hup];simp)
theorem zhF{j n n':Nat}{p:Af}{m m':Lm}(hp:s.q.g.us[j]?=some p)(hn:0<n)(hm:s.lems[n-1]?=some m)(hu:m.unit=(j:Int))(hup:m.up=false)
  (hn':0<n') (hm':s.lems[n'-1]?=some m') (hu':m'.unit=(j:Int)) (hup':m'.up=true) (hv:m.v.q<0) (hv':0<m'.v.q) :
  zaI s ⟨13,(j:Int),(n:Int),(n':Int)⟩=(zca (fSc (zca p (fN m.v.q)) m'.v.q) (fSc (fV (s.q.g.inp+j)) (m'.v.q-m.v.q)),true):=
 zcu (by decide) hp (by
  unfold zbe;rw[if_neg (by simp),if_neg (by simp),if_neg (by simp),if_neg (by simp),if_neg (by simp),if_neg (by simp),if_neg (by simp),if_neg (by simp),if_pos rfl];unfold zus zdA ztJ zdk;simp only[zjG hn hm hu hup,zjG hn' hm' hu' hup',zkb.2 hv,zdU.2 hv'];simp)
structure StepOk(s:Sc)(B:Nat)(l:List Mu):Prop where
 ok:∀m∈l,(zaI s m.r).2=true
 pos:∀m∈l,0<m.c.q
 bd:MB B l
 len:l.length<=2
theorem zdH{r:Rw}{B:Nat}(h:(zaI s r).2=true):StepOk s (2*B+12) [⟨r,qOf ((1:Int):Rat)⟩]:=
 ⟨fun m hm=>by simp at hm;subst hm;exact h,fun m hm=>by simp at hm;subst hm;rw[zaj];decide,fun m hm=>by rw[List.mem_singleton] at hm;subst hm;exact Fq.of.mono (by omega),by simp⟩
theorem zjR{v B:Nat}(hq:QOk s.q)(hv:v<s.q.g.inp+s.q.g.us.length):StepOk s (2*B+12) (zdb s.q.g.inp v):=by
 unfold zdb;split
 .rename_i h;have:=hq.r.lo;obtain⟨c,hc⟩:∃c,s.q.r.lo[v]?=some c:=⟨_,zEm (by omega)⟩;exact zdH (by rw[zm9 hc])
 .obtain⟨p,hp⟩:∃p,s.q.g.us[v-s.q.g.inp]?=some p:=⟨_,zEm (by omega)⟩;exact zdH (by rw[zgd hp])
theorem zmk{v B:Nat}{l:List Mu}(hq:QOk s.q)(hB:∀m∈s.lems,Fq m.v B)(hv:v<s.q.g.inp+s.q.g.us.length)(h:zb5 s.q.g.inp s.lems v=some l):StepOk s (4*B+12) l:=by
 have one:∀{r:Rw},(zaI s r).2=true->StepOk s (4*B+12) [⟨r,qOf ((1:Int):Rat)⟩]:=fun h=>
  ⟨(zdH (B:=B) h).ok,(zdH (B:=B) h).pos,(zdH (B:=B) h).bd.mono (by omega),by simp⟩
 unfold zb5 at h;split at h
 .rename_i hi;cases h;have:=hq.r.hi;obtain⟨c,hc⟩:∃c,s.q.r.hi[v]?=some c:=⟨_,zEm (by omega)⟩;exact one (by rw[zna hc])
 .obtain⟨p,hp⟩:∃p,s.q.g.us[v-s.q.g.inp]?=some p:=⟨_,zEm (by omega)⟩;split at h
  .cases h
  .rename_i hb;obtain⟨y,hy,yu,yp,hly,hy0,hyl⟩:=zbv (fun e=>hb (.inl e));obtain⟨z,hz,zu,zp,hlz,hz0,hzl⟩:=zbJ (fun e=>hb (.inr e));haveI:=hB y (zEn hy);haveI:=hB z (zEn hz);rw[hlz,hly] at h;split at h
   .rename_i hu;cases h;exact one (by rw[zhG hp hz0 hz zu zp hu])
   .rename_i hu;split at h
    .rename_i hl;cases h;refine⟨fun m hm=>?_,fun m hm=>?_,fun m hm=>?_,by simp⟩
     .simp at hm;rcases hm with rfl|rfl
      .rw[zkA hp hy0 hy yu yp hl]
      .rw[ziA hp hz0 hz zu zp]
     .simp at hm;rcases hm with rfl|rfl <;> rw[zaj] <;> decide
     .simp only[zEQ,List.not_mem_nil,or_false] at hm;rcases hm with rfl|rfl <;> exact Fq.of.mono (by omega)
    .rename_i hl;cases h;have h1:0<z.v.q:=by grind
     have h2:0<z.v.q-y.v.q:=by grind
     have h3:0<((1:Int):Rat)/(z.v.q-y.v.q):=by
      rw[Rat.div_def];exact Rat.mul_pos (by decide) (Rat.inv_pos.2 h2)
     refine⟨fun m hm=>?_,fun m hm=>?_,fun m hm=>?_,by simp⟩
     .simp at hm;rcases hm with rfl|rfl
      .rw[ziA hp hz0 hz zu zp]
      .rw[zhF hp hy0 hy yu yp hz0 hz zu zp (by grind) h1]
     .simp only[zEQ,List.not_mem_nil,or_false] at hm;rcases hm with rfl|rfl
      .show 0<(qOf _).q;rw[zaj];exact Rat.mul_pos h3 h1
      .show 0<(qOf _).q;rw[zaj];exact h3
     .simp only[zEQ,List.not_mem_nil,or_false] at hm;rcases hm with rfl|rfl <;> exact Fq.of.mono (by omega)
theorem zlL{l:List Mu}{r:Rw}{c:Rat}{x:Mu}(h:x∈zbT l r c):x.r=r\/x∈l:=by
 unfold zbT at h;split at h
 .exact .inr h
 .exact zkt h
theorem zf7{c:Rat}{P:Rw->Prop}:∀{b a:List Mu},(∀m∈a,P m.r)->(∀m∈b,P m.r)->∀m∈zaV a b c,P m.r
 |[],a,h,_=>h
 |x::b,a,h,hb=>zf7 (b:=b) (a:=zbT a x.r (x.c.q*c)) (fun m hm=>by
   rcases zlL hm with e|hm
   .rw[e];exact hb x (by simp)
   .exact h m hm) (fun m hm=>hb m (by simp[hm]))
structure DerOk(s:Sc)(B n:Nat)(l:List Mu):Prop where
 ok:∀m∈l,(zaI s m.r).2=true
 can:CanM l
 bd:MB B l
 len:l.length<=n
theorem zzV{B C n:Nat}{a:List Mu×Bool}{t:Tm}(hq:QOk s.q)(hB:∀m∈s.lems,Fq m.v B)(hv:t.1<s.q.g.inp+s.q.g.us.length)(ht:Br t.2 10)(h:DerOk s C n a.1) :
  DerOk s (C+8*B+50) (n+2) (zhp s.q.g.inp s.lems a t).1:=by
 have mg:∀{l:List Mu},StepOk s (4*B+12) l->DerOk s (C+8*B+50) (n+2) (zaV a.1 l (rq false (zav t.2) (zaC t.2))):=fun {l} hs=>
  ⟨zf7 (P:=fun r=>(zaI s r).2=true) h.ok hs.ok,ze8 (zef _) h.can hs.pos,(zd8 h.bd hs.bd).mono (by
   have:=zEx (4*B+12+(10+1)+2) hs.len;omega),by have:=zcI l a.1 (rq false (zav t.2) (zaC t.2));have:=h.len;have:=hs.len;omega⟩
 unfold zhp;split
 .split
  .have h2:=zjR (B:=2*B) hq hv;exact mg ⟨h2.ok,h2.pos,h2.bd.mono (by omega),h2.len⟩
  .split
   .rename_i l hl;exact mg (zmk hq hB hv hl)
   .exact⟨fun m hm=>by simp at hm,trivial,fun m hm=>by simp at hm,by simp⟩
 .exact⟨h.ok,h.can,h.bd.mono (by omega),zEw h.len (by omega)⟩
theorem zs7{B:Nat}(hq:QOk s.q)(hB:∀m∈s.lems,Fq m.v B):∀(ts:List Tm) (a:List Mu×Bool) (C n:Nat),(∀t∈ts,t.1<s.q.g.inp+s.q.g.us.length/\Br t.2 10)->DerOk s C n a.1 →
  DerOk s (C+ts.length*(8*B+50)) (n+2*ts.length) (ts.foldl (zhp s.q.g.inp s.lems) a).1
 |[],a,C,n,_,h=>⟨h.ok,h.can,h.bd.mono (by omega),zEw h.len (by omega)⟩
 |t::ts,a,C,n,ht,h=>by
  have h1:=zzV (t:=t) hq hB (ht t (by simp)).1 (ht t (by simp)).2 h;have h2:=zs7 hq hB ts _ _ _ (fun x hx=>ht x (by simp[hx])) h1;refine⟨h2.ok,h2.can,h2.bd.mono ?_,zEw h2.len ?_⟩
  .simp only[List.length_cons,Nat.add_mul];omega
  .simp only[List.length_cons];omega
theorem zzw:DerOk s 0 0 []:=⟨fun m hm=>by simp at hm,trivial,fun m hm=>by simp at hm,by simp⟩
theorem zw7{B b:Nat}{f:Af}(hq:QOk s.q)(hB:∀m∈s.lems,Fq m.v B)(hf:FOk b (s.q.g.inp+s.q.g.us.length) f)(hb:b<=9)(i:Nat):DerOk s (7*(8*B+50)) 14 (znv s.q.g.inp s.lems (f.ts.take i)).1:=by
 have h:=zs7 hq hB (f.ts.take i) ([],true) 0 0 (fun t ht=>⟨hf.var t (List.mem_of_mem_take ht),(hf.bd t (List.mem_of_mem_take ht)).br.mono (by omega)⟩) zzw;have hl:(f.ts.take i).length<=7:=by rw[zED];have:=hf.len;have:=hq.g.i3;have:=hq.g.u4;omega
 refine⟨h.ok,h.can,h.bd.mono ?_,zEw h.len (by omega)⟩;have:=zEx (8*B+50) hl;omega
end
def abL(s:Sc)(f:Af):List Mu:=(znv s.q.g.inp s.lems f.ts).1
def abB(s:Sc)(f:Af):Bool:=(znv s.q.g.inp s.lems f.ts).2
def abQ(s:Sc)(f:Af):Rat:=if abB s f=true then(zca f (zlc s (abL s f))).c else 0
theorem zw5{inp:Nat}{lems:List Lm}:∀(ts:List Tm) (a:List Mu×Bool),(a.2=false->a.1=[])->(ts.foldl (zhp inp lems) a).2=false->(ts.foldl (zhp inp lems) a).1=[]
 |[],a,h,h2=>h h2
 |t::ts,a,h,h2=>zw5 ts _ (fun h3=>by
   unfold zhp at h3 ⊢;split at h3
   .rename_i ha;rw[if_pos ha];split at h3
    .simp at h3
    .rename_i hs;rw[if_neg hs];split at h3
     .simp at h3
     .rename_i he;simp only[he]
   .rename_i ha;rw[if_neg ha];exact h h3) h2
theorem abL_f{s:Sc}{f:Af}(h:abB s f=false):abL s f=[]:=zw5 _ _ (fun h=>by simp at h) h
theorem zzW{s:Sc}{f:Af}{i:Nat}(h:(znv s.q.g.inp s.lems (f.ts.take i)).2=false):abB s f=false:=zvs h
section
variable {inp:Nat}{lems:List Lm}{out:List Mu}{t:Tm}
theorem zvr(h:0<t.2):zhp inp lems (out,true) t=(zaV out (zdb inp t.1) (rq false (zav t.2) (zaC t.2)),true):=by
 unfold zhp;rw[if_pos rfl,if_pos h]
theorem zs4(h:¬0<t.2)(hl:(zb5 inp lems t.1).isSome=true):zhp inp lems (out,true) t=(zaV out ((zb5 inp lems t.1).getD []) (rq false (zav t.2) (zaC t.2)),true):=by
 obtain⟨l,hl⟩:=Option.isSome_iff_exists.1 hl;unfold zhp;rw[if_pos rfl,if_neg h,hl];rfl
theorem zs5(h:¬0<t.2)(hl:(zb5 inp lems t.1).isSome=false):(zhp inp lems (out,true) t).2=false:=by
 have hl:zb5 inp lems t.1=none:=by simpa using hl
 unfold zhp;rw[if_pos rfl,if_neg h,hl]
end
theorem zyg{s:Sc}{B v:Nat}(hq:QOk s.q)(hB:∀m∈s.lems,Fq m.v B)(hv:v<s.q.g.inp+s.q.g.us.length):MB (4*B+12) ((zb5 s.q.g.inp s.lems v).getD [])/\((zb5 s.q.g.inp s.lems v).getD []).length<=2:=by
 cases h:zb5 s.q.g.inp s.lems v with
 |none=>exact⟨fun m hm=>by simp at hm,by simp⟩
 |some l=>have:=zmk hq hB hv h;exact⟨this.bd,this.len⟩
end Rc
namespace Go.Proofs.YtjeiacoegppoiaaGreatDoor
open Go Go.RowKit Rc
theorem zzC(l:List Mu){B:Nat}(hc:CanM l)(hB:MB B l)(hB2:B<=100000000000)(hl:l.length<=100000):Ctr Tryz.prog 61 [V.one (El.row muE l)] (R.one (V.one (Leaf.val (.bool true)))):=by
 refine bd_ Tryz.func61 Tryz.ntmps61 rfl (fun w0 A0=>?_);refine zc 12 rfl (zbq (fun m Γ H=>∃(i:Nat),l.length-i=m/\Γ=[(0,some (D.v (V.one (El.row muE l)))),(3,some (D.val (.int .i64 (i:Int))))]/\H=[]/\i<=l.length) ⟨0,rfl,rfl,rfl,zEs _⟩ rfl ?_);rintro m Γ H ⟨i,rfl,rfl,rfl,hi0⟩;refine zc 5 rfl (tq_ rfl (jln rfl) ?_);by_cases hi:i<l.length
 .refine tq_ rfl (ltT rfl) (zl 8 rfl ?_);obtain⟨x,hx⟩:∃x,l[i]?=some x:=⟨_,zEm hi⟩;haveI hxB:=hB x (zEn hx);obtain⟨hpos,hcx⟩:=hc.pos x (zEn hx);refine dr_ 0 [] [] (dz 2 rfl (kq_ rfl (jix i hx rfl) (kq_ rfl (jfr rfl) (kq_ rfl (jlr rfl) (kc_ ztA rfl (zdV x.c (x.c.q) rfl (Fq.use (x:=x.c) (by omega))) (zgQ true rfl (zks.2 hcx) (dz 4 rfl (kq_ rfl (jix i hx rfl) (kq_ rfl (jfr rfl) ?_)))))))));refine kq_ rfl (jlr rfl) (kc_ zg9 rfl (zbG x.c (x.c.q) rfl (Fq.use (x:=x.c) (by omega))) (kq_ rfl (leF rfl (by have:=zdU.2 hpos;omega)) (dz 3 rfl ?_)));by_cases hi1:0<i
  .refine kq_ rfl (gtT rfl) (dz 1 rfl ?_);obtain⟨y,hy⟩:∃y,l[i-1]?=some y:=⟨_,zEm (by omega)⟩;refine dz 2 rfl (kq_ rfl (jsb (i-1) rfl) (kq_ rfl (jix (i-1) hy rfl) (kq_ rfl (jft rfl) (kq_ rfl (jlr rfl) (dz 2 rfl (kq_ rfl (jix i hx rfl) (kq_ rfl (jft rfl) (kq_ rfl (jlr rfl) (kc_ zC8 rfl (zwv y.r x.r) ?_)))))))));refine zgQ true rfl (hc.prev hi1 hx hy) (dz 3 rfl (zad (za 7 rfl (tq_ rfl (jad (i+1) rfl) (zl 2 rfl ?_)))));exact nx_ ⟨i+1,rfl,rfl,rfl,hi⟩ rfl
  .refine kq_ rfl (gtF rfl) (dz 16 rfl (zad (za 7 rfl (tq_ rfl (jad (i+1) rfl) (zl 2 rfl ?_)))));exact nx_ ⟨i+1,rfl,rfl,rfl,hi⟩ rfl
 .refine tq_ rfl (ltF rfl) (zl 13 rfl ?_);exact r1_ hq_ rfl rfl
set_option maxHeartbeats 2000000 in
theorem zAM(s:Sc){B:Nat}(hB:∀m∈s.lems,Fq m.v B)(hB2:B<=10000000)(hl:s.lems.length<=1000000){b:Nat}(hq:QOk s.q)(hd:∀d∈s.path,DOk b s.q d)(hb:b<=1000000)(hpl:s.path.length<=1000)(l:List Mu){C:Nat}(hc:CanM l)(hm:MB C l)(hC:C<=600000000)(hok:∀m∈l,(zaI s m.r).2=true)(hll:l.length<=50):Ctr Tryz.prog 22 [scV s,V.one (El.row muE l)] (R.tup [afV (zlc s l),V.one (Leaf.val (.int .i64 0))]):=by
 refine bd_ Tryz.func22 Tryz.ntmps22 rfl (fun w0 A0=>?_);have hg:=hq.g;have hr:=hq.r;have hlo:=hr.lo;have hhi:=hr.hi;have h1:=hg.i1;have h2:=hg.i3;have h3:=hg.u4;have h4:=hg.o1;have h5:=hg.o3;refine zc 11 rfl (tc_ fn61 rfl (zzC l (by assumption) (by assumption) (by omega) (by omega)) (zl 18 rfl ?_));refine zbq (fun m Γ H=>∃(i:Nat) (out:Af),l.length-i=m/\Γ=[(1,some (D.v (V.one (El.row muE l)))),(2,some (D.ptr 0 0)),(4,some (D.ptr 1 0)),(6,some (D.ptr 2 0)),(7,some (D.val (.int .i64 (i:Int))))]/\H=[hb_ 43 (scL s),hb_ 38 [El.row tmE ([]),Leaf.val (.bool false),zaf ([]),zaf ([])],hb_ 38 (afL out)]/\i<=l.length/\out=zlc s (l.take i)) ⟨0,fZ,rfl,rfl,(by unfold afL;rw[fZ_ls];rfl),zEs _,rfl⟩ rfl ?_;rintro m Γ H ⟨i,out,rfl,rfl,rfl,hi0,hout⟩;refine zc 5 rfl (tq_ rfl (jln rfl) ?_);by_cases hi:i<l.length
 .refine tq_ rfl (ltT rfl) (zl 8 rfl ?_);obtain⟨x,hx⟩:∃x,l[i]?=some x:=⟨_,zEm hi⟩;have hxm:=zEn hx;haveI hxB:=hm x hxm;have hf:=zkB (r:=x.r) hq hd hB;have hsc:=FL.sc (c:=x.c.q) hf;have ho:FL (50*(4*B+b+C+42)) (s.q.g.inp+s.q.g.us.length) out:=by
   rw[hout];refine(zqF hq hd hB hm.take).mono ?_ (zEq _);exact zEx _ (by rw[zED];omega)
  haveI:=hf.fm (by omega);haveI:=hf.cb;haveI:=hsc.fm (by omega);haveI:=hsc.cb;haveI:=ho.fm (by omega);haveI:=ho.cb;refine dr_ 1 [(10,3),(11,3)] [3] (dz 3 rfl (kq_ rfl (jix i hx rfl) (kq_ rfl (jft rfl) (kq_ rfl (jlr rfl) (kc_ fn62 rfl (zCf s hB (by omega) (by omega) hq hd (by omega) (by omega) x.r) (dz 3 rfl (zgQ true rfl (hok x hxm) (dz 3 rfl (zad ?_)))))))));refine za 11 rfl (dr_ 0 [(9,2)] [2] (kp_ [] rfl (zaJ rfl rfl rfl (by decide) zj4 (by decide) (zEt rfl) rfl) (dz 3 rfl (kq_ rfl (jix i hx rfl) (kq_ rfl (jfr rfl) (kq_ rfl (jlr rfl) (zi8 (D.agg (qL x.c.q)) rfl (zwL (hc.pos x hxm).2) (kc_ zqh rfl (zcc (zaI s x.r).1 x.c.q (by omega) (by omega)) ?_))))))));refine kc_ zCF rfl (zie out (fSc (zaI s x.r).1 x.c.q) (by omega) (by omega) (by omega)) (dz 1 rfl (zad (za 4 rfl (tq_ rfl (jad (i+1) rfl) (zl 2 rfl (zal 3 (zaK 3 rfl ?_)))))));exact nx_ ⟨i+1,_,rfl,rfl,rfl,hi,by rw[hout];exact(zqD hx).symm⟩ rfl
 .refine tq_ rfl (ltF rfl) (zl 9 rfl ?_);have hie:i=l.length:=by omega
  rw[hie,zEJ] at hout;refine zc 6 rfl ?_;exact r2_ hq_ rfl (by rw[<-hout] <;> rfl)
theorem zrE(a b:List Mu)(c:Rat){B C K:Nat}(hA:MB B a)(hB:MB C b)[Br c K](h1:B<=10000000000)(h2:C<=1000000000)(h3:K<=1000000000)(hl:a.length<=10000)(hlb:b.length<=2):Ctr Tryz.prog 59 [V.one (El.row muE a),V.one (El.row muE b),V.agg (qL (c))] (R.one (V.one (El.row muE (zaV a b c)))):=
 zrF a b c hA hB (by have:=zEx (C+K+2) hlb;omega) hl (by omega)
set_option maxHeartbeats 2000000 in
theorem zs8(s:Sc){B:Nat}(hB:∀m∈s.lems,Fq m.v B)(hB2:B<=10000000)(hl:s.lems.length<=1000000){b:Nat}(hq:QOk s.q)(hd:∀d∈s.path,DOk b s.q d)(hb:b<=1000000)(hpl:s.path.length<=1000)(f:Af){bf:Nat}(hf:FOk bf (s.q.g.inp+s.q.g.us.length) f)(hb5:bf<=9):Ctr Tryz.prog 150 [scV s,afV f] (R.tup [qV (qOf (abQ s f)),V.one (El.row muE (abL s f)),V.one (Leaf.val (.bool (abB s f)))]):=by
 refine bd_ Tryz.func150 Tryz.ntmps150 rfl (fun w0 A0=>?_);have hg:=hq.g;have hr:=hq.r;have hlo:=hr.lo;have hhi:=hr.hi;have h1:=hg.i1;have h2:=hg.i3;have h3:=hg.u4;have h4:=hg.o1;have h5:=hg.o3;have hfl:=hf.len;refine zc 21 rfl ?_;refine zbq (fun m Γ H=>∃(i:Nat) (out:List Mu),f.ts.length-i=m/\Γ=[(2,some (D.ptr 0 0)),(3,some (D.ptr 1 0)),(4,some (D.ptr 2 0)),(7,some (D.v (V.one (El.row muE out)))),(8,some (D.val (.int .i64 (i:Int))))]/\H=[hb_ 43 (scL s),hb_ 38 (afL f),hb_ 36 [Leaf.val (.bool false),zaf ([]),zaf ([])]]/\i<=f.ts.length/\znv s.q.g.inp s.lems (f.ts.take i)=(out,true)) ⟨0,[],rfl,rfl,rfl,zEs _,rfl⟩ rfl ?_;rintro m Γ H ⟨i,out,rfl,rfl,rfl,hi0,habs⟩;refine zc 6 rfl (tq_ rfl (jln rfl) ?_);by_cases hi:i<f.ts.length
 .refine tq_ rfl (ltT rfl) (zl 8 rfl ?_);obtain⟨x,hx⟩:∃x,f.ts[i]?=some x:=⟨_,zEm hi⟩;have hxm:=zEn hx;haveI hxb:=(hf.bd x hxm).br;have hxv:=hf.var x hxm;have hder:=zw7 hq hB hf hb5 i;rw[habs] at hder;have hMB:MB (7*(8*B+50)) out:=hder.bd;have hol:out.length<=14:=hder.len;have hsl:=zjR (B:=B) hq hxv;have hM1:MB (2*B+12) (zdb s.q.g.inp x.1):=hsl.bd;have hM1l:(zdb s.q.g.inp x.1).length<=2:=hsl.len;obtain⟨hM2,hM2l⟩:=zyg (v:=x.1) hq hB hxv;refine zc 4 rfl (tq_ rfl (jix i hx rfl) (tq_ rfl (jlr rfl) (zl 9 rfl (tc_ fn207 rfl (zvk s (by assumption) (by omega) (by omega) (by omega) x.1 (by omega)) (zl 12 rfl (tc_ zg9 rfl (zbG (qOf (x.2)) (x.2) (zaj _) (Br.use (by omega))) ?_))))));by_cases hpos:0<x.2
  .refine tq_ rfl (gtT rfl (zdU.2 hpos)) (zl 7 rfl (tc_ fn208 rfl (zs1 s (by omega) x.1 (by omega)) (zl 24 rfl (zl 8 rfl (eq_ (D.agg (qL (rq false (zav x.2) (zaC x.2)))) rfl (ze2 x.2) (tc_ fn59 rfl (zrE out (zdb s.q.g.inp x.1) (rq false (zav x.2) (zaC x.2)) (by assumption) (by assumption) (by omega) (by omega) (by omega) (by omega) (by omega)) (zl 6 rfl ?_)))))));refine tq_ rfl (jad (i+1) rfl) (zl 2 rfl (zal 3 (zal 4 (zaK 3 rfl ?_))));exact nx_ ⟨i+1,_,rfl,rfl,rfl,hi,by rw[ziW hx,habs];exact zvr hpos⟩ rfl
  .refine tq_ rfl (gtF rfl (fun e=>hpos (zdU.1 e))) (zl 7 rfl ?_);by_cases hm:(zb5 s.q.g.inp s.lems x.1).isSome=true
   .refine zc 2 rfl (is_ true rfl (hm) (zl 24 rfl (eq_ (D.agg (qL (rq false (zav x.2) (zaC x.2)))) rfl (ze2 x.2) (tc_ fn59 rfl (zrE out ((zb5 s.q.g.inp s.lems x.1).getD []) (rq false (zav x.2) (zaC x.2)) (by assumption) (by assumption) (by omega) (by omega) (by omega) (by omega) (by omega)) (zl 6 rfl (tq_ rfl (jad (i+1) rfl) (zl 2 rfl (zal 3 (zal 4 ?_)))))))));refine zaK 3 rfl ?_;exact nx_ ⟨i+1,_,rfl,rfl,rfl,hi,by rw[ziW hx,habs];exact zs4 hpos hm⟩ rfl
   .refine zc 2 rfl (is_ false rfl (by simpa using hm) (zl 5 rfl ?_));have hbad:abB s f=false:=zzW (i:=i+1) (by rw[ziW hx,habs];exact zs5 hpos (by simpa using hm));refine zc 7 rfl ?_;exact r3_ hq_ rfl (by unfold abQ;rw[abL_f hbad,hbad,if_neg (by decide)];show _=R.tup [qV (qOf 0),_,_];rw[<-zcf] <;> rfl)
 .refine tq_ rfl (ltF rfl) (zl 9 rfl ?_);have hie:i=f.ts.length:=by omega
  rw[hie,zEJ] at habs;have hder:=zw7 hq hB hf hb5 f.ts.length;rw[zEJ,habs] at hder;have hMB:MB (7*(8*B+50)) out:=hder.bd;have hol:out.length<=14:=hder.len;have hcan:CanM out:=hder.can;have hok:∀m∈out,(zaI s m.r).2=true:=hder.ok;have hB3:abB s f=true:=by unfold abB;rw[habs]
  have hL:abL s f=out:=by unfold abL;rw[habs]
  have hfm:=hf.fl;have hsm:FL (14*(4*B+b+7*(8*B+50)+42)) (s.q.g.inp+s.q.g.us.length) (zlc s out):=(zqF hq hd hB hMB).mono (zEx _ hol) (zEq _);haveI:=hfm.fm (by omega);haveI:=hfm.cb;haveI:=hsm.fm (by omega);haveI:=hsm.cb;refine zc 3 rfl (tc_ fn22 rfl (zAM s hB (by omega) (by omega) hq hd (by omega) (by omega) out (by assumption) (by assumption) (by omega) (by assumption) (by omega)) (zl 12 rfl (tc_ zr1 rfl (zh8 f (zlc s out) (by omega) (by omega) (by omega)) (zl 7 rfl ?_))));exact r3_ hq_ rfl (by rw[hL,hB3];unfold abQ;rw[hB3,if_pos rfl,hL] <;> rfl)
end Go.Proofs.YtjeiacoegppoiaaGreatDoor
namespace Rc
open Go Go.RowKit
def W(φ:Rw->Rat):List Mu->Rat
 |[]=>0
 |m::l=>m.c.q*φ m.r+W φ l
theorem zDW(φ:Rw->Rat)(r:Rw)(c:Rat):∀l:List Mu,W φ (zi9 l r c)=W φ l+c*φ r
 |[]=>by simp only[zi9,W,zaj];grind
 |m::l=>by
  unfold zi9;split
  .simp only[W,zDW φ r c l];grind
  .split
   .rename_i h;simp only[W,zaj,h];grind
   .simp only[W,zaj];grind
theorem zo1(φ:Rw->Rat)(r:Rw)(c:Rat)(l:List Mu):W φ (zbT l r c)=W φ l+c*φ r:=by
 unfold zbT;split
 .rename_i h;subst h;grind
 .exact zDW φ r c l
theorem zfK(φ:Rw->Rat)(c:Rat):∀(b a:List Mu),W φ (zaV a b c)=W φ a+c*W φ b
 |[],a=>by simp only[zaV,List.foldl_nil,W];grind
 |m::b,a=>by
  have e:zaV a (m::b) c=zaV (zbT a m.r (m.c.q*c)) b c:=rfl;rw[e,zfK φ c b,zo1];simp only[W];grind
theorem zzY(φ:Rw->Rat)(m:Mu):∀l:List Mu,W φ (l++[m])=W φ l+m.c.q*φ m.r
 |[]=>by simp only[List.nil_append,W];grind
 |x::l=>by simp only[List.cons_append,W,zzY φ m l];grind
def zg4(s:Sc)(r:Rw):Rat:=(zaI s r).1.c
theorem zjq(s:Sc):∀(l:List Mu) (a:Af),(l.foldl (fun a m=>zgy a (fSc (zaI s m.r).1 m.c.q)) a).c=a.c+W (zg4 s) l
 |[],a=>by simp only[List.foldl_nil,W];grind
 |m::l,a=>by
  rw[List.foldl_cons,zjq s l];simp only[W,zgy,fSc,zg4];grind
theorem zv2(s:Sc)(l:List Mu):(zlc s l).c=W (zg4 s) l:=by
 unfold zlc;rw[zjq];simp only[fZ];grind
def lb(s:Sc)(v:Nat):Rat:=if v<s.q.g.inp then(s.q.r.lo[v]?).getD 0 else 0
def ub(s:Sc)(v:Nat):Rat:=if v<s.q.g.inp then(s.q.r.hi[v]?).getD 0 else if (zak s.lems ((v-s.q.g.inp:Nat):Int)).2=0\/lv s.lems (zak s.lems ((v-s.q.g.inp:Nat):Int)).2<=0 then 0 else lv s.lems (zak s.lems ((v-s.q.g.inp:Nat):Int)).2
theorem m1:((-1:Int):Rat) = -1:=by decide
theorem p1:((1:Int):Rat)=1:=by decide
section
variable {s:Sc}
theorem zzX(hq:QOk s.q){v:Nat}(hv:v<s.q.g.inp+s.q.g.us.length):W (zg4 s) (zdb s.q.g.inp v) = - lb s v:=by
 unfold zdb lb;split
 .have:=hq.r.lo;obtain⟨c,hc⟩:∃c,s.q.r.lo[v]?=some c:=⟨_,zEm (by omega)⟩;simp only[W,zg4,zm9 hc,hc,zaj,zca,fV,fN,m1,p1,Option.getD_some];grind
 .obtain⟨p,hp⟩:∃p,s.q.g.us[v-s.q.g.inp]?=some p:=⟨_,zEm (by omega)⟩;simp only[W,zg4,zgd hp,zaj,fV,p1];grind
theorem zDV(hq:QOk s.q){v:Nat}{l:List Mu}(hv:v<s.q.g.inp+s.q.g.us.length)(h:zb5 s.q.g.inp s.lems v=some l):W (zg4 s) l=ub s v:=by
 unfold zb5 at h;unfold ub;split at h
 .rename_i hi;cases h;rw[if_pos hi];have:=hq.r.hi;obtain⟨c,hc⟩:∃c,s.q.r.hi[v]?=some c:=⟨_,zEm (by omega)⟩;simp only[W,zg4,zna hc,hc,zaj,zca,fV,fN,m1,p1,Option.getD_some];grind
 .rename_i hi;rw[if_neg hi];obtain⟨p,hp⟩:∃p,s.q.g.us[v-s.q.g.inp]?=some p:=⟨_,zEm (by omega)⟩;split at h
  .cases h
  .rename_i hb;obtain⟨y,hy,yu,yp,hly,hy0,hyl⟩:=zbv (fun e=>hb (.inl e));obtain⟨z,hz,zu,zp,hlz,hz0,hzl⟩:=zbJ (fun e=>hb (.inr e));rw[hlz,hly] at h;rw[hlz];split at h
   .rename_i hu;cases h;rw[if_pos (.inr hu)];simp only[W,zg4,zhG hp hz0 hz zu zp hu,zaj,fSc,fV,m1,p1];grind
   .rename_i hu;rw[if_neg (fun e=>e.elim (fun e=>hb (.inr e)) hu)];split at h
    .rename_i hl;cases h;simp only[W,zg4,zkA hp hy0 hy yu yp hl,ziA hp hz0 hz zu zp,zaj,zca,fV,fN,m1,p1];grind
    .rename_i hl;cases h;have h1:0<z.v.q:=by grind
     have h2:z.v.q-y.v.q≠0:=by grind
     simp only[W,zg4,ziA hp hz0 hz zu zp,zhF hp hy0 hy yu yp hz0 hz zu zp (by grind) h1,zaj,zca,fSc,fV,fN,m1,p1];have h3:(z.v.q-y.v.q)*(1/(z.v.q-y.v.q))=1:=by rw[Rat.div_def,Rat.one_mul];exact Rat.mul_inv_cancel _ h2
     generalize 1/(z.v.q-y.v.q)=k at *;grind
def zAz(s:Sc)(t:Tm):Rat:=if 0<t.2 then lb s t.1 else ub s t.1
def zvf(s:Sc):List Tm->Rat
 |[]=>0
 |t::ts=>t.2*zAz s t+zvf s ts
theorem zDR(hq:QOk s.q){a:List Mu×Bool}{t:Tm}(hv:t.1<s.q.g.inp+s.q.g.us.length)(h:(zhp s.q.g.inp s.lems a t).2=true):W (zg4 s) (zhp s.q.g.inp s.lems a t).1=W (zg4 s) a.1-t.2*zAz s t:=by
 unfold zhp at h ⊢;unfold zAz;split at h
 .rename_i ha;rw[if_pos ha];split at h
  .rename_i hp;rw[if_pos hp,if_pos hp];simp only[];rw[zfK,zzX hq hv,zo0,if_neg (by grind)];grind
  .rename_i hp;rw[if_neg hp,if_neg hp];split at h
   .rename_i l hl;simp only[hl];rw[zfK,zDV hq hv hl,zo0];split
    .grind
    .have:t.2=0:=by grind
     rw[this];grind
   .simp at h
 .rename_i ha;exact absurd h ha
theorem zw6(hq:QOk s.q):∀(ts:List Tm) (a:List Mu×Bool),(∀t∈ts,t.1<s.q.g.inp+s.q.g.us.length)->(ts.foldl (zhp s.q.g.inp s.lems) a).2=true->W (zg4 s) (ts.foldl (zhp s.q.g.inp s.lems) a).1=W (zg4 s) a.1-zvf s ts
 |[],a,_,_=>by simp only[List.foldl_nil,zvf];grind
 |t::ts,a,hv,h=>by
  have h2:(zhp s.q.g.inp s.lems a t).2=true:=by
   cases e:(zhp s.q.g.inp s.lems a t).2
   .have:=znu (inp:=s.q.g.inp) (lems:=s.lems) ts _ e;rw[List.foldl_cons] at h;rw[this] at h;simp at h
   .rfl
  rw[List.foldl_cons,zw6 hq ts _ (fun x hx=>hv x (by simp[hx])) h,zDR hq (hv t (by simp)) h2];simp only[zvf];grind
theorem zDU{f:Af}(hq:QOk s.q)(hv:∀t∈f.ts,t.1<s.q.g.inp+s.q.g.us.length)(h:abB s f=true):abQ s f=f.c+zvf s f.ts:=by
 have h1:=zw6 hq f.ts ([],true) hv h;unfold abQ;rw[if_pos h];show f.c+(zlc s (abL s f)).c*((-1:Int):Rat)=_;rw[zv2,m1];have h2:W (zg4 s) (abL s f)=0-zvf s f.ts:=h1;rw[h2];grind
end
def KB(j:Nat):Nat:=5000*3^j
structure LOk(q:Qu)(m:Lm):Prop where
 u0:0<=m.unit
 u:m.unit.toNat<q.g.us.length
 can:m.v=qOf m.v.q
 hb:Hb m.v.q (KB m.unit.toNat)
structure SOk(s:Sc):Prop where
 q:QOk s.q
 d:∀d∈s.path,DOk 200 s.q d
 pl:s.path.length<=100
 l:∀m∈s.lems,LOk s.q m
 ll:s.lems.length<=100
theorem ztd{j:Nat}(h:j<4):KB j<=135000:=by
 unfold KB;have:3^j<=3^3:=zEz (by decide) (by omega);omega
theorem zD3(j:Nat):5000<=KB j:=by
 unfold KB;have:0<3^j:=Nat.pow_pos (by decide);omega
theorem SOk.B{s:Sc}(h:SOk s):∀m∈s.lems,Fq m.v 135001:=by
 intro m hm;have h1:=h.l m hm;rw[h1.can];have h2:=h.q.g.u4;have h3:=ztd (j:=m.unit.toNat) (by have:=h1.u;omega);haveI:=(h1.hb.mono h3).br;exact Fq.of
def wgt(inp v:Nat):Nat:=if v<inp then 11 else KB (v-inp)+4
def wS(inp:Nat):Nat->Nat
 |0=>0
 |n+1=>wS inp n+wgt inp n
theorem zqn(inp:Nat){a b:Nat}(h:a<=b):wS inp a<=wS inp b:=by
 induction b with
 |zero=>
      have:a=0:=by omega
      subst this;exact zEq _
 |succ b ih=>
  by_cases e:a=b+1
  .subst e;exact zEq _
  .have:=ih (by omega);show _<=wS inp b+wgt inp b;omega
theorem zvP(inp:Nat):∀n,n<=inp->wS inp n=11*n
 |0,_=>rfl
 |n+1,h=>by
  show wS inp n+wgt inp n=_;rw[zvP inp n (by omega)];unfold wgt;rw[if_pos (by omega)];omega
theorem zqm(inp:Nat):∀j,wS inp (inp+j)+5000<=11*inp+4*j+5000*3^j
 |0=>by
  show wS inp inp+5000<=_;rw[zvP inp inp (zEq _)];omega
 |j+1=>by
  have ih:=zqm inp j;show wS inp (inp+j)+wgt inp (inp+j)+5000<=_;unfold wgt;rw[if_neg (by omega),show inp+j-inp=j by omega,zEF];unfold KB;omega
theorem Hb.z{n:Nat}:Hb 0 n:=Hb.zero.mono (zEs _)
theorem zzH{s:Sc}(h:SOk s){t:Tm}(hv:t.1<s.q.g.inp+s.q.g.us.length):Hb (zAz s t) (wgt s.q.g.inp t.1-4):=by
 have hl:=h.q.r.lo;have hh:=h.q.r.hi;unfold zAz lb ub wgt;by_cases hi:t.1<s.q.g.inp
 .obtain⟨x,hx⟩:∃x,s.q.r.lo[t.1]?=some x:=⟨_,zEm (by omega)⟩;obtain⟨y,hy⟩:∃y,s.q.r.hi[t.1]?=some y:=⟨_,zEm (by omega)⟩;obtain⟨h1,h2,_⟩:=h.q.r.bd _ _ _ hx hy;simp only[if_pos hi,hx,hy,Option.getD_some];split
  .exact h1.mono (by omega)
  .exact h2.mono (by omega)
 .simp only[if_neg hi];split
  .exact Hb.z
  .split
   .exact Hb.z
   .rename_i hne;obtain⟨z,hz,zu,zp,hlz,hz0,hzl⟩:=zbJ (fun e=>hne (.inl e));rw[hlz];have:=(h.l z (zEn hz)).hb;rw[zu] at this;exact this.mono (by show KB (t.1-s.q.g.inp)<=_;omega)
theorem zsM{s:Sc}(h:SOk s){n:Nat}(hn:n<=s.q.g.inp+s.q.g.us.length):∀(ts:List Tm) (a:Nat),CanT ts->(∀t∈ts,Hb t.2 3)->(∀t∈ts,a<=t.1/\t.1<n)->Hb (zvf s ts) (wS s.q.g.inp n-wS s.q.g.inp a)
 |[],a,_,_,_=>Hb.z
 |t::ts,a,hc,hb,hv=>by
  obtain⟨c1,c2,c3⟩:=hc;have ht:=hv t (by simp);have ih:=zsM h hn ts (t.1+1) c3 (fun x hx=>hb x (by simp[hx])) (fun x hx=>⟨c2 x hx,(hv x (by simp[hx])).2⟩);haveI h1:=hb t (by simp);haveI h2:=zzH h (t:=t) (by omega);haveI h3:=ih;have h4:Hb (t.2*zAz s t+zvf s ts) (3+(wgt s.q.g.inp t.1-4)+(wS s.q.g.inp n-wS s.q.g.inp (t.1+1))+1):=Hb.add;refine h4.mono ?_;have e1:=zqn s.q.g.inp (show t.1+1<=n by omega);have e2:=zqn s.q.g.inp ht.1;have e3:wS s.q.g.inp (t.1+1)=wS s.q.g.inp t.1+wgt s.q.g.inp t.1:=rfl;have e4:4<=wgt s.q.g.inp t.1:=by unfold wgt;split <;> omega
  omega
theorem zDT{s:Sc}(h:SOk s){f:Af}{n:Nat}(hn:n<=s.q.g.inp+s.q.g.us.length)(hf:FOk 3 n f)(hb:abB s f=true):Hb (abQ s f) (wS s.q.g.inp n+4):=by
 rw[zDU h.q (fun t ht=>by have:=hf.var t ht;omega) hb];haveI:=hf.cb;haveI:=zsM h hn f.ts 0 hf.can hf.bd (fun t ht=>⟨zEs _,hf.var t ht⟩);have h4:Hb (f.c+zvf s f.ts) (3+(wS s.q.g.inp n-wS s.q.g.inp 0)+1):=Hb.add;exact h4.mono (by have:wS s.q.g.inp 0=0:=rfl;omega)
theorem zmD{s:Sc}(h:SOk s){f:Af}{j:Nat}(hj:j<s.q.g.us.length)(hf:FOk 3 (s.q.g.inp+j) f)(hb:abB s f=true):Hb (abQ s f) (KB j-4200):=by
 refine(zDT h (by omega) hf hb).mono ?_;have h1:=zqm s.q.g.inp j;have h2:=h.q.g.i3;have h3:=h.q.g.u4;unfold KB;omega
end Rc
namespace Rc
open Go
def tzF:Nat->Nat->Nat
 |0,_=>0
 |f+1,n=>if n%2=0 then tzF f (n/2)+1 else 0
def tz(n:Nat):Nat:=tzF (bl n) n
theorem znO:∀(f n:Nat),n≠0->n<2^f->∃m,n=2^tzF f n*m/\m%2=1
 |0,n,h0,h=>by simp at h;omega
 |f+1,n,h0,h=>by
  unfold tzF;by_cases h2:n%2=0
  .rw[if_pos h2];obtain⟨m,h3,h4⟩:=znO f (n/2) (by omega) (by rw[zEF] at h;omega);refine⟨m,?_,h4⟩;rw[zEF,Nat.mul_right_comm,<-h3];omega
  .rw[if_neg h2];exact⟨n,by simp,by omega⟩
theorem zgB{n:Nat}(h:n≠0):∃m,n=2^tz n*m/\m%2=1:=znO _ n h (ziQ n)
theorem zjc{a b m m':Nat}(h:2^a*m=2^b*m')(hm:m%2=1)(hm':m'%2=1):a=b/\m=m':=by
 have key:∀(a c m m':Nat),2^a*m=2^(a+c)*m'->m%2=1->c=0:=by
  intro a c m m' h hm;rw[zEG,Nat.mul_assoc] at h;have:=Nat.eq_of_mul_eq_mul_left (Nat.two_pow_pos a) h
  cases c with
  |zero=>rfl
  |succ c=>rw[zEF,Nat.mul_right_comm] at this;omega
 have e:a=b:=by
  rcases Nat.le_total a b with hab|hab
  .have:=key a (b-a) m m' (by rw[show a+(b-a)=b from by omega];exact h) hm;omega
  .have:=key b (a-b) m' m (by rw[show b+(a-b)=a from by omega];exact h.symm) hm';omega
 subst e;exact⟨rfl,Nat.eq_of_mul_eq_mul_left (Nat.two_pow_pos a) h⟩
theorem zxg{n k m:Nat}(h:n=2^k*m)(hm:m%2=1):tz n=k:=by
 have hn:n≠0:=by
  rw[h];exact Nat.ne_of_gt (Nat.mul_pos (Nat.two_pow_pos k) (by omega))
 obtain⟨m',h1,h2⟩:=zgB hn;exact(zjc (h1.symm.trans h) h2 hm).1
theorem zvW{n:Nat}(k:Nat)(h:n≠0):tz (2^k*n)=k+tz n:=by
 obtain⟨m,h1,h2⟩:=zgB h;refine zxg (m:=m) ?_ h2;rw[zEG,Nat.mul_assoc,<-h1]
theorem zvV{n:Nat}(h:n%2=1):tz n=0:=zxg (m:=n) (by simp) h
theorem zxh{n:Nat}(h0:n≠0)(h:n%2=0):tz n=tz (n/2)+1:=by
 have:=zvW (n:=n/2) 1 (by omega);rw[show 2^1*(n/2)=n from by omega] at this;omega
theorem zAI{lo k:Nat}(hi:Nat)(h0:lo≠0)(h:lo<2^k):tz (lo+2^k*hi)=tz lo:=by
 obtain⟨m,h1,h2⟩:=zgB h0;have hk:tz lo<k:=by
  refine Nat.lt_of_not_le fun hle=>?_;have:2^k<=2^tz lo:=zEz (by decide) hle;have:2^tz lo*1<=2^tz lo*m:=zEU _ (by omega);omega
 refine zxg (m:=m+2^(k-tz lo)*hi) ?_ ?_
 .rw[Nat.mul_add,<-h1,<-Nat.mul_assoc,<-zEG,show tz lo+(k-tz lo)=k from by omega]
 .obtain⟨j,hj⟩:∃j,k-tz lo=j+1:=⟨k-tz lo-1,by omega⟩;rw[hj,zEF,Nat.mul_right_comm];omega
theorem zvX(n:Nat):2^tz n*(n/2^tz n)=n:=by
 by_cases h:n=0
 .subst h;simp
 .obtain⟨m,h1,h2⟩:=zgB h;have:n/2^tz n=m:=by
   conv=>lhs;arg 1;rw[h1]
   exact Nat.mul_div_cancel_left m (Nat.two_pow_pos _)
  rw[this,<-h1]
theorem zpg{n:Nat}(h:n≠0):n/2^tz n%2=1:=by
 obtain⟨m,h1,h2⟩:=zgB h;have:n/2^tz n=m:=by
  conv=>lhs;arg 1;rw[h1]
  exact Nat.mul_div_cancel_left m (Nat.two_pow_pos _)
 rw[this];exact h2
theorem znN{n:Nat}(h:n≠0):tz n<bl n:=by
 have h1:=zvX n;have h2:=zpg h;have h3:=ziQ n;generalize n/2^tz n=q at h1 h2;refine Nat.lt_of_not_le fun hle=>?_;have:2^bl n<=2^tz n:=zEz (by decide) hle;have:2^tz n*1<=2^tz n*q:=zEU _ (by omega);omega
theorem zzR{x:Nat}(h0:x≠0)(h:x<4294967296):x &&& (4294967296-x)=2^tz x:=by
 obtain⟨m,h1,h2⟩:=zgB h0;obtain⟨q,rfl⟩:∃q,m=2*q+1:=⟨m/2,by omega⟩;generalize hk:tz x=k at *;have hp:=Nat.two_pow_pos k;have hlt:k<32:=by
  refine Nat.lt_of_not_le fun hle=>?_;have:2^32<=2^k:=zEz (by decide) hle;have:2^k*1<=2^k*(2*q+1):=zEU _ (by omega);omega
 have e1:x=2^(k+1)*q+2^k:=by rw[h1,Nat.mul_add,Nat.mul_one,zEF,Nat.mul_assoc]
 have e2:x-1=2^(k+1)*q+(2^k-1):=by omega
 have hpk:2^k<2^(k+1):=zES (by decide) (by omega);apply Nat.eq_of_testBit_eq;intro i;rw[Nat.testBit_and,show(4294967296-x)=2^32-((x-1)+1) from by omega,Nat.testBit_two_pow_sub_succ (by omega),e2,Nat.testBit_two_pow_mul_add _ (by omega),Nat.testBit_two_pow]
 conv=>lhs;arg 1;rw[e1,Nat.testBit_two_pow_mul_add _ hpk]
 by_cases hi:i<k+1
 .rw[if_pos hi,if_pos hi,Nat.testBit_two_pow,Nat.testBit_two_pow_sub_one];by_cases hik:k=i
  .subst hik;simp[hlt]
  .simp[hik]
 .rw[if_neg hi,if_neg hi];have:¬k=i:=by omega
  simp only[this,decide_false];cases Nat.testBit q (i-(k+1)) <;> simp
theorem zqv{x:Nat}(h0:x≠0)(h:x<4294967296):tz x<32:=by
 have h1:=znN h0;have h2:=zaE (n:=x) (k:=32) h;omega
def bruijn:List Nat:=[0,1,28,2,29,14,24,3,30,22,20,15,25,17,4,8,31,27,13,23,21,19,16,7,26,12,18,6,11,5,10,9]
theorem zp7{k:Nat}(h:k<32):bruijn[2^k*125613361%4294967296/134217728]?=some k:=by
 have:∀k:Fin 32,bruijn[2^k.val*125613361%4294967296/134217728]?=some k.val:=by decide
 exact this ⟨k,h⟩
theorem zsx{k:Nat}(h:k<32):2^k*125613361%4294967296/134217728<32:=by omega
theorem ztE{l:List Nat}(hs:Small l){k:Nat}(hk:k<l.length)(h:val (l.take k)=0)(h0:l[k]≠0):tz (val l)=32*k+tz l[k]:=by
 have hb:=hs.get k hk;rw[zd0 l k hk,h,Nat.zero_add,zc4,zvW _ (by omega)];rw[show(4294967296:Nat)=2^32 from rfl,zAI _ h0 hb]
theorem zpb{l:List Nat}{k:Nat}(hk:k<l.length)(h:val (l.take k)=0)(h0:l[k]=0):val (l.take (k+1))=0:=by
 rw[zaF l k hk,h,h0];simp
theorem ztD{l:List Nat}{k:Nat}(hn:val l≠0)(h:val (l.take k)=0):k<l.length:=by
 refine Nat.lt_of_not_le fun hle=>hn ?_
 rwa [zan l k hle] at h
theorem zxr{l:List Nat}(hs:Small l)(k:Nat):val (List.replicate (k/32) 0++zg5 (l.length+1) (val l*2^(k%32)))=val l*2^k:=by
 have h1:=zbk hs;have h2:2^(k%32)<=2^32:=zEz (by decide) (by omega);have h3:val l*2^(k%32)<4294967296^(l.length+1):=by
  rw[zEF];exact Nat.mul_lt_mul_of_lt_of_le h1 h2 (by decide)
 rw[za5,zaY,List.length_replicate,zfM h3,Nat.zero_add,zc4,zER,Nat.mul_assoc,<-zEG,show k%32+32*(k/32)=k from by omega]
theorem zt7{a out:List Nat}{k i:Nat}(ha:Small a)(hi:i<a.length)(hol:k/32+out.length=i)(h:val out=val (a.drop (k/32))/2^(k%32)%4294967296^out.length) :
  val (out++[(a[i]+a.getD (i+1) 0*2^32)/2^(k%32)%4294967296])=val (a.drop (k/32))/2^(k%32)%4294967296^(out++[(a[i]+a.getD (i+1) 0*2^32)/2^(k%32)%4294967296]).length:=by
 generalize hz:a[i]+a.getD (i+1) 0*2^32=z;have hd:out.length<(a.drop (k/32)).length:=by rw[zEM];omega
 have h1:=zj9 (a:=a.drop (k/32)) (out:=out++[0]) (i:=out.length) (s:=k%32) (ha.drop _) hd (by simp) (Nat.mod_lt _ (by decide)) (by rw[List.take_left' rfl];exact h) z (by
  rw[<-hz,List.getElem_drop];simp only[hol];rw[show(a.drop (k/32)).getD (out.length+1) 0=a.getD (i+1) 0 from by simp only[List.getD_eq_getElem?_getD,List.getElem?_drop];rw[show k/32+(out.length+1)=i+1 from by omega],zER 4294967296])
 rw[List.set_append_right _ _ (zEq _),Nat.sub_self,List.set_cons_zero,zEV (by simp)] at h1;rw[h1];simp
theorem zt6{a out:List Nat}{k:Nat}(ha:Small a)(hk:a.length<=k/32+out.length)(h:val out=val (a.drop (k/32))/2^(k%32)%4294967296^out.length):val out=val a/2^k:=by
 have h1:=zbV a ha (k/32);have h2:val (a.drop (k/32))/2^(k%32)<4294967296^out.length:=by
  refine zEN (Nat.div_le_self _ _) (zEv (zbk (ha.drop _)) (zEz (by decide) ?_));rw[zEM];omega
 rw[h,Nat.mod_eq_of_lt h2,<-h1,zel]
structure Dy where
 neg:Bool
 mag:Nat
 exp:Int
def Dy.zero:Dy:=⟨false,0,0⟩
def nok(n:Nat)(e:Int):Bool:=n == 0||(decide (-1048576<=e+tz n)&&decide (e+tz n<=1048576))
def nrm(s:Bool)(n:Nat)(e:Int):Dy:=if n=0 then Dy.zero else if nok n e then⟨s,n/2^tz n,e+tz n⟩ else Dy.zero
theorem zkq(s:Bool)(e:Int):nrm s 0 e=Dy.zero:=rfl
theorem zog(e:Int):nok 0 e=true:=rfl
theorem zoh{n:Nat}{e:Int}(h:n≠0)(h1:-1048576<=e+tz n)(h2:e+tz n<=1048576):nok n e=true:=by
 unfold nok;simp[h1,h2]
theorem zkr{n:Nat}{e:Int}(h:n≠0)(h1:e+tz n < -1048576\/1048576<e+tz n):nok n e=false:=by
 unfold nok;simp[h];omega
theorem zwp{s:Bool}{n:Nat}{e:Int}(h:n≠0)(h1:-1048576<=e+tz n)(h2:e+tz n<=1048576):nrm s n e=⟨s,n/2^tz n,e+tz n⟩:=by
 unfold nrm;rw[if_neg h,if_pos (zoh h h1 h2)]
theorem zmZ{s:Bool}{n:Nat}{e:Int}(h:n≠0)(h1:e+tz n < -1048576\/1048576<e+tz n):nrm s n e=Dy.zero:=by
 unfold nrm;rw[if_neg h,zkr h h1];rfl
theorem zof{s:Bool}{n:Nat}{e:Int}(h:n≠0)(h2:n%2=0):nrm s (n/2) (e+1)=nrm s n e/\nok (n/2) (e+1)=nok n e:=by
 have h3:n/2≠0:=by omega
 have h4:=zxh h h2;have h5:nok (n/2) (e+1)=nok n e:=by
  unfold nok;rw[h4,show e+1+(tz (n/2):Int)=e+((tz (n/2)+1:Nat):Int) from by omega];rw[show(n == 0)=false from by simpa using h,show(n/2 == 0)=false from beq_eq_false_iff_ne.2 h3]
 refine⟨?_,h5⟩;unfold nrm;rw[if_neg h,if_neg h3,h5,h4,zEF,zER (2^_) 2,<-Nat.div_div_eq_div_mul,show e+1+(tz (n/2):Int)=e+((tz (n/2)+1:Nat):Int) from by omega]
theorem zpy{s:Bool}{n:Nat}{e:Int}(h:n%2=1)(h1:-1048576<=e)(h2:e<=1048576):nrm s n e=⟨s,n,e⟩/\nok n e=true:=by
 have h3:=zvV h;have h4:n≠0:=by omega
 refine⟨?_,zoh h4 (by omega) (by omega)⟩;rw[zwp h4 (by omega) (by omega),h3];simp
theorem zik{s:Bool}{n:Nat}{e:Int}(h:n%2=1)(h1:e < -1048576\/1048576<e):nrm s n e=Dy.zero/\nok n e=false:=by
 have h3:=zvV h;have h4:n≠0:=by omega
 exact⟨zmZ h4 (by omega),zkr h4 (by omega)⟩
theorem zpz(s:Bool)(n:Nat)(e:Int):(nrm s n e).mag<=n:=by
 unfold nrm;split
 .exact zEs _
 .split
  .exact Nat.div_le_self _ _
  .exact zEs _
theorem zrw(s:Bool)(n:Nat)(e:Int):-1048576<=(nrm s n e).exp/\(nrm s n e).exp<=1048576:=by
 unfold nrm;split
 .decide
 .rename_i h0;split
  .rename_i h;unfold nok at h;simp only[Bool.or_eq_true,beq_iff_eq,zEA,decide_eq_true_eq] at h;rcases h with h|h
   .exact absurd h h0
   .exact h
  .decide
theorem zrY{x:Nat}(h:x≠0):((zaa x).map zbh)[(0:Int).toNat]?=some (zbh (x%4294967296)):=by
 rw[zdn h];rfl
end Rc
namespace Rc
open Go Go.RowKit
@[reducible] def dV(d:Dy):V:=V.agg [Leaf.val (.bool d.neg),zaf (zaa d.mag),Leaf.val (.int .i64 d.exp)]
theorem zc8:dV Dy.zero=V.agg [Leaf.val (.bool false),nilL,Leaf.val (.int .i64 0)]:=by
 show V.agg [Leaf.val (.bool false),zaf (zaa 0),Leaf.val (.int .i64 0)]=_;rw[zai];rfl
structure Dfit(k:Nat)(d:Dy):Prop where
 n:(zaa d.mag).length<=k
 lo:-1048576<=d.exp
 hi:d.exp<=1048576
class Bd (d:Dy) (k:outParam Nat):Prop where
 fit:Dfit k d
theorem Dfit.mono{d:Dy}{k k':Nat}(h:Dfit k d)(hk:k<=k'):Dfit k' d:=⟨zEw h.n hk,h.lo,h.hi⟩
theorem Bd.use{d:Dy}{k k':Nat}[h:Bd d k](hk:k<=k'):Dfit k' d:=h.fit.mono hk
instance Bn.dmag{d:Dy}{k:Nat}[h:Bd d k]:Bn d.mag k:=⟨h.fit.n⟩
instance Bd.nrm{s:Bool}{n:Nat}{e:Int}{k:Nat}[h:Bn n k]:Bd (nrm s n e) k:=
 ⟨⟨(Bn.mono (zpz s n e) h).le,(zrw s n e).1,(zrw s n e).2⟩⟩
instance Bd.zero:Bd Dy.zero 0:=⟨⟨by show(zaa 0).length<=0;rw[zai];exact zEq _,by decide,by decide⟩⟩
instance Bz.num{r:Rat}{k:Nat}[h:Br r k]:Bz r.num k:=⟨h.fit.n⟩
instance Bn.den{r:Rat}{k:Nat}[h:Br r k]:Bn r.den (k+1):=Bn.of (zEN h.den (zES (by decide) (Nat.lt_succ_self _)))
theorem zwM(r:Rat):dn (val (zaa (zaC r)))=r.den:=by rw[zac,ziF]
def exD(r:Rat):Dy:=if bl r.den=tz r.den+1 then nrm (decide (r.num<0)) r.num.natAbs (-(tz r.den:Int)) else Dy.zero
instance Bd.exD{r:Rat}{k:Nat}[h:Br r k]:Bd (exD r) k:=by
 unfold Rc.exD;split
 .haveI:Bn r.num.natAbs k:=Bz.bn (Bz.num (r:=r))
  infer_instance
 .exact⟨Bd.zero.fit.mono (zEs _)⟩
def dq(d:Dy):Rat:=if 0<=d.exp then rq d.neg (d.mag*2^d.exp.toNat) 0 else rq d.neg d.mag (2^(-d.exp).toNat)
theorem zwl{k j:Nat}(h:k<32*j):2^k<4294967296^j:=by
 rw[zc4];exact zES (by decide) h
theorem Bn.shift{n i k:Nat}(j:Nat)(h:Bn n i)(hk:k<32*j):Bn (n*2^k) (i+j):=Bn.of (zgO h.lt (zwl hk))
theorem Br.dqj{d:Dy}{k:Nat}(j:Nat)(h:Bd d k)(hj:d.exp.natAbs<32*j):Br (dq d) (k+j+1):=by
 have hn:Bn d.mag k:=⟨h.fit.n⟩;unfold Rc.dq;split
 .exact Br.rqn (i:=k+j+1) (j:=0) (zEv (hn.shift (k:=d.exp.toNat) j (by omega)).lt (zEz (by decide) (by omega))) (by simp) (by omega)
 .exact Br.rq (k:=k+j+1) (zEv hn.lt (zEz (by decide) (by omega))) (zEv (zwl (k:=(-d.exp).toNat) (j:=j) (by omega)) (zEz (by decide) (by omega)))
instance Br.dq{d:Dy}{k:Nat}[h:Bd d k]:Br (dq d) (k+32769+1):=Br.dqj 32769 h (by have:=h.fit.lo;have:=h.fit.hi;omega)
theorem zcb{n k:Nat}(h:(zaa n).length<=k):bl n<=32*k:=zaE (by rw[<-zc4];exact zag.1 h)
theorem zh0{n k:Nat}(h:(zaa n).length<=k):tz n<=32*k:=by
 by_cases h0:n=0
 .subst h0;exact zEs _
 .exact zEw (Nat.le_of_lt (znN h0)) (zcb h)
def lg(a b:Nat):Int:=
 if 0<=(bl a:Int)-bl b then(if a<b*2^((bl a:Int)-bl b).toNat then(bl a:Int)-bl b-1 else(bl a:Int)-bl b)
 else(if a*2^(-((bl a:Int)-bl b)).toNat<b then(bl a:Int)-bl b-1 else(bl a:Int)-bl b)
theorem zut(a b:Nat):lg a b=(bl a:Int)-bl b\/lg a b=(bl a:Int)-bl b-1:=by
 unfold lg;split <;> split <;> simp
theorem zga{a b k j:Nat}(ha:(zaa a).length<=k)(hb:(zaa b).length<=j):-(32*j:Int)-1<=lg a b/\lg a b<=32*k:=by
 have h1:=zcb ha;have h2:=zcb hb;rcases zut a b with h|h <;> omega
def scN(n:Nat)(e:Int):Nat:=if 0<=e then n else n*2^(-e).toNat
def scD(d:Nat)(e:Int):Nat:=if 0<=e then d*2^e.toNat else d
def rndQ(a b:Nat)(e:Int)(away:Bool):Nat:=if away&&decide (scN a e%scD b e≠0) then scN a e/scD b e+1 else scN a e/scD b e
def rnd(s:Bool)(a b:Nat)(p:Int)(away:Bool):Dy:=nrm s (rndQ a b (lg a b-p+1) away) (lg a b-p+1)
def rndD(r:Rat)(p:Int)(away:Bool):Dy:=if p<1\/4096<p\/r.num=0 then Dy.zero else rnd (decide (r.num<0)) r.num.natAbs r.den p away
def zpp(p:Int):Int:=if p<1\/4096<p then 1 else 0
theorem zc3{n:Nat}{e:Int}(h:0<=e):scN n e=n:=if_pos h
theorem zgF{n:Nat}{e:Int}(h:¬0<=e):scN n e=n*2^(-e).toNat:=if_neg h
theorem zcq{n:Nat}{e:Int}(h:0<=e):scD n e=n*2^e.toNat:=if_pos h
theorem zfA{n:Nat}{e:Int}(h:¬0<=e):scD n e=n:=if_neg h
theorem zeN{r:Rat}{p:Int}{away:Bool}(h1:¬p<1)(h2:¬4096<p)(h3:¬r.num=0):rndD r p away=rnd (decide (r.num<0)) r.num.natAbs r.den p away:=if_neg (by omega)
theorem zep{p:Int}(h1:¬p<1)(h2:¬4096<p):zpp p=0:=if_neg (by omega)
theorem zkf{a b:Nat}{e:Int}:rndQ a b e false=scN a e/scD b e:=by simp[rndQ]
theorem zke{a b:Nat}{e:Int}(h:scN a e%scD b e≠0):rndQ a b e true=scN a e/scD b e+1:=by simp[rndQ,h]
theorem zkg{a b:Nat}{e:Int}(h:¬scN a e%scD b e≠0):rndQ a b e true=scN a e/scD b e:=by simp[rndQ,h]
theorem zjr{n:Nat}{e:Int}(h:e<=0):scN n e=n*2^(-e).toNat:=by
 unfold scN;split
 .have:e=0:=by omega
  subst this;simp
 .rfl
theorem zh6{n:Nat}{e:Int}(h:e<=0):scD n e=n:=by
 unfold scD;split
 .have:e=0:=by omega
  subst this;simp
 .rfl
theorem zlt{b:Nat}(h:b≠0)(e:Int):scD b e≠0:=by
 unfold scD;split
 .exact Nat.mul_ne_zero h (Nat.ne_of_gt (Nat.two_pow_pos _))
 .exact h
theorem zqR{x a b N:Nat}{e:Int}(h:0<=e+N):x*scD b e<=scN a e↔x*(b*2^(e+N).toNat)<=a*2^N:=by
 by_cases he:0<=e
 .rw[zc3 he,zcq he,show(e+N).toNat=e.toNat+N from by omega,zEG,show x*(b*(2^e.toNat*2^N))=x*(b*2^e.toNat)*2^N from by simp only[Nat.mul_assoc]];exact(Nat.mul_le_mul_right_iff (Nat.two_pow_pos N)).symm
 .rw[zgF he,zfA he];obtain⟨m,hm⟩:∃m,(e+N).toNat=m:=⟨_,rfl⟩;rw[hm,show N=(-e).toNat+m from by omega,zEG,<-Nat.mul_assoc a,<-Nat.mul_assoc x];exact(Nat.mul_le_mul_right_iff (Nat.two_pow_pos m)).symm
theorem lg_eq(a b:Nat):lg a b=if scN a ((bl a:Int)-bl b)<scD b ((bl a:Int)-bl b) then(bl a:Int)-bl b-1 else(bl a:Int)-bl b:=by
 unfold lg scN scD;split <;> rfl
theorem zx5{a b N:Nat}(ha:a≠0)(hb:b≠0)(hN:bl b+1<=N) :
  b*2^(lg a b+N).toNat<=a*2^N/\a*2^N<b*2^(lg a b+1+N).toNat:=by
 have h1:=ziQ a;have h2:=znq ha;have h3:=ziQ b;have h4:=znq hb;have p1:=zmh ha;have p2:=zmh hb;obtain⟨k,hk⟩:∃k:Int,(bl a:Int)-bl b=k:=⟨_,rfl⟩;have low:b*2^(k-1+N).toNat<=a*2^N:=by
  have e1:2^bl b*2^(k-1+N).toNat=2^(bl a-1)*2^N:=by
   rw[<-zEG,<-zEG,show bl b+(k-1+N).toNat=bl a-1+N from by omega]
  have e2:=zEx (2^(k-1+N).toNat) (Nat.le_of_lt h3);have e3:=zEx (2^N) h2;omega
 have high:a*2^N<b*2^(k+1+N).toNat:=by
  have e1:2^(bl b-1)*2^(k+1+N).toNat=2^bl a*2^N:=by
   rw[<-zEG,<-zEG,show bl b-1+(k+1+N).toNat=bl a+N from by omega]
  have e2:=zEx (2^(k+1+N).toNat) h4;have e3:=(Nat.mul_lt_mul_right (Nat.two_pow_pos N)).2 h1;omega
 have mid:=zqR (x:=1) (a:=a) (b:=b) (N:=N) (e:=k) (by omega);rw[Nat.one_mul,Nat.one_mul] at mid;rw[lg_eq,hk];split
 .rename_i h;refine⟨low,?_⟩;rw[show k-1+1+(N:Int)=k+N from by omega];exact Nat.lt_of_not_le fun hle=>absurd (mid.2 hle) (Nat.not_le.2 h)
 .rename_i h;exact⟨mid.1 (Nat.le_of_not_lt h),high⟩
theorem znp{a b:Nat}{e:Int}(ha:a≠0)(hb:b≠0)(he:e<=lg a b):(bl (scN a e/scD b e):Int)=lg a b-e+1:=by
 obtain⟨N,hN⟩:∃N,bl b+1+e.natAbs=N:=⟨_,rfl⟩;obtain⟨s1,s2⟩:=zx5 (N:=N) ha hb (by omega);obtain⟨K,hK⟩:∃K:Nat,(K:Int)=lg a b-e:=⟨(lg a b-e).toNat,by omega⟩;have hd:=Nat.pos_of_ne_zero (zlt hb e);have:bl (scN a e/scD b e)=K+1:=by
  apply ziP
  .rw[Nat.div_lt_iff_lt_mul hd];refine Nat.lt_of_not_le fun hle=>?_;have:=(zqR (N:=N) (by omega)).1 hle;rw[Nat.mul_left_comm,<-zEG,show K+1+(e+N).toNat=(lg a b+1+N).toNat from by omega] at this;omega
  .intro _;rw[Nat.le_div_iff_mul_le hd,Nat.add_sub_cancel,zqR (N:=N) (by omega),Nat.mul_left_comm,<-zEG,show K+(e+N).toNat=(lg a b+N).toNat from by omega];exact s1
 omega
theorem Bn.scN{a i:Nat}{e:Int}(j:Nat)(h:Bn a i)(hj:e.natAbs<32*j):Bn (scN a e) (i+j):=by
 unfold Rc.scN;split
 .exact⟨zEw h.le (by omega)⟩
 .exact h.shift j (by omega)
theorem Bn.rndQ{a b i:Nat}{e:Int}{up:Bool}(j:Nat)(h:Bn a i)(hj:e.natAbs<32*j):Bn (rndQ a b e up) (i+j+1):=by
 have h1:=h.scN j hj;have h2:Rc.rndQ a b e up<=Rc.scN a e+1:=by
  have:=Nat.div_le_self (Rc.scN a e) (scD b e);unfold Rc.rndQ;split <;> omega
 exact Bn.mono h2 (Bn.of (zEv (Nat.succ_lt_succ h1.lt) (by rw[zEF];have:=Nat.pow_pos (n:=i+j) (show 0<4294967296 by decide);omega)))
theorem zw1{n k i:Nat}(h:Bn n i)(hk:32*i<=k):n<2^k:=zEv h.lt (by rw[zc4];exact zEz (by decide) hk)
instance Bn.one:Bn 1 1:=⟨by rw[zdo];exact zEq _⟩
theorem zv5(r:Rat):sg r=sgz r.num:=by
 have h:=zxw (zaR r) (zav r) (zaC r);rw[zhy] at h;rw[h];show sgz (sgn (decide (r.num<0)) r.num.natAbs)=_;rw[zdg]
theorem zA6(r:Rat)(p:Int):rndD r p (false != decide (r.num<0))=rndD r p (decide (sg r<0)):=by
 rw[zv5];rcases zbX r.num with⟨h1,h2⟩|⟨h1,h2⟩|⟨h1,h2⟩
 .rw[h2,decide_eq_true h1];rfl
 .rw[h2,h1];rfl
 .rw[h2,decide_eq_false (by omega)];rfl
theorem zA5(r:Rat)(p:Int):rndD r p (true != decide (r.num<0))=rndD r p (decide (0<sg r)):=by
 rw[zv5];rcases zbX r.num with⟨h1,h2⟩|⟨h1,h2⟩|⟨h1,h2⟩
 .rw[h2,decide_eq_true h1];rfl
 .unfold rndD;rw[if_pos (.inr (.inr h1)),if_pos (.inr (.inr h1))]
 .rw[h2,decide_eq_false (by omega)];rfl
def zvO(a b:Dy):Int:=if b.mag=0 then a.exp else if a.mag=0 then b.exp else min a.exp b.exp
def wint(a:Dy)(w:Int):Int:=sgn a.neg (a.mag*2^(a.exp-w).toNat)
def mulD(a b:Dy):Dy:=nrm (a.neg != b.neg) (a.mag*b.mag) (a.exp+b.exp)
def addZ(a b:Dy):Int:=wint a (zvO a b)+wint b (zvO a b)
def addD(a b:Dy):Dy:=nrm (decide (addZ a b<0)) (addZ a b).natAbs (zvO a b)
def negD(d:Dy):Dy:=⟨!d.neg&&decide ((0:Int)<((zaa d.mag).length:Int)),d.mag,d.exp⟩
instance Bd.negD{d:Dy}{k:Nat}[h:Bd d k]:Bd (negD d) k:=⟨⟨h.fit.n,h.fit.lo,h.fit.hi⟩⟩
instance Bd.mulD{a b:Dy}{i j:Nat}[ha:Bd a i][hb:Bd b j]:Bd (mulD a b) (i+j):=by unfold Rc.mulD;infer_instance
theorem zAC{a b:Dy}{i j:Nat}(ha:Bd a i)(hb:Bd b j):-1048576<=zvO a b/\zvO a b<=1048576:=by
 have h1:=ha.fit.lo;have h2:=ha.fit.hi;have h3:=hb.fit.lo;have h4:=hb.fit.hi;unfold zvO;split
 .omega
 .split <;> omega
theorem Bz.wint{a:Dy}{w:Int}{i:Nat}(j:Nat)(h:Bd a i)(hj:(a.exp-w).natAbs<32*j):Bz (wint a w) (i+j):=by
 haveI hn:Bn a.mag i:=⟨h.fit.n⟩;haveI:Bn (a.mag*2^(a.exp-w).toNat) (i+j):=hn.shift j (by omega);unfold Rc.wint;infer_instance
instance Bz.addZ{a b:Dy}{i j:Nat}[ha:Bd a i][hb:Bd b j]:Bz (addZ a b) (i+65537+(j+65537)+1):=by
 have hw:=zAC ha hb;have h1:=ha.fit.lo;have h2:=ha.fit.hi;have h3:=hb.fit.lo;have h4:=hb.fit.hi;haveI:=Bz.wint (a:=a) (w:=zvO a b) 65537 ha (by omega);haveI:=Bz.wint (a:=b) (w:=zvO a b) 65537 hb (by omega);unfold Rc.addZ;infer_instance
instance Bd.addD{a b:Dy}{i j:Nat}[ha:Bd a i][hb:Bd b j]:Bd (addD a b) (i+65537+(j+65537)+1):=by
 haveI:Bn (Rc.addZ a b).natAbs (i+65537+(j+65537)+1):=Bz.bn inferInstance;unfold Rc.addD;infer_instance
instance Bd.rndD{r:Rat}{p:Int}{w:Bool}[h:Br r 25000]:Bd (rndD r p w) 52001:=by
 unfold Rc.rndD;split
 .exact⟨Bd.zero.fit.mono (zEs _)⟩
 .rename_i hc;have hnl:(zaa (Int.natAbs r.num)).length<=25000:=Bz.use (z:=r.num) (zEq _);have hdl:(zaa r.den).length<=25001:=Bn.use (n:=r.den) (zEq _);have hlg:=zga hnl hdl;haveI:=Bn.rndQ (b:=r.den) (e:=lg r.num.natAbs r.den-p+1) (up:=w) 27000 ⟨hnl⟩ (by omega);unfold rnd;infer_instance
theorem zwb{s:Bool}{n d n' d':Nat}(hd:d≠0)(hd':d'≠0)(h:n*d'=n'*d):rq s n d=rq s n' d':=by
 unfold rq dn;rw[if_neg hd,if_neg hd',Rat.mkRat_eq_iff hd hd'];have h1:(n:Int)*(d':Int)=(n':Int)*(d:Int):=by rw[<-Int.natCast_mul,<-Int.natCast_mul,h]
 cases s
 .exact h1
 .simp only[zdF,Int.neg_mul,h1]
theorem zmR(s:Bool)(n:Nat):rq s n 0=rq s n 1:=rfl
theorem zuR(s:Bool)(m t:Nat)(e:Int):dq ⟨s,m,e+t⟩=dq ⟨s,2^t*m,e⟩:=by
 unfold dq;simp only;by_cases h1:0<=e
 .rw[if_pos (by omega),if_pos h1,show(e+(t:Int)).toNat=t+e.toNat from by omega,zEG];congr 1;grind
 .rw[if_neg h1];by_cases h2:0<=e+t
  .rw[if_pos h2,zmR];refine zwb (by decide) (Nat.ne_of_gt (Nat.two_pow_pos _)) ?_;rw[Nat.mul_one,Nat.mul_assoc,<-zEG,zER,show(e+(t:Int)).toNat+(-e).toNat=t from by omega]
  .rw[if_neg h2];refine zwb (Nat.ne_of_gt (Nat.two_pow_pos _)) (Nat.ne_of_gt (Nat.two_pow_pos _)) ?_;rw[show(-e).toNat=t+(-(e+(t:Int))).toNat from by omega,zEG];grind
theorem zDv{s:Bool}{n:Nat}{e:Int}(h:nok n e=true):dq (nrm s n e)=dq ⟨s,n,e⟩:=by
 by_cases h0:n=0
 .subst h0;rw[zkq];unfold dq Dy.zero;simp only;have z:∀(b:Bool) (d:Nat),rq b 0 d=0:=by intro b d;unfold rq;cases b <;> simp[sgn]
  split <;> split <;> simp[z]
 .have h1:nrm s n e=⟨s,n/2^tz n,e+tz n⟩:=by unfold nrm;rw[if_neg h0,if_pos h]
  rw[h1,zuR,zvX]
def zp(e:Int):Rat:=dq ⟨false,1,e⟩
theorem zuS(s:Bool)(m:Nat)(e:Int):dq ⟨s,m,e⟩=rq s m 0*zp e:=by
 unfold zp dq;simp only;have h:=zg3 s false m (1*2^e.toNat) 0 0;have h2:=zg3 s false m 1 0 (2^(-e).toNat);by_cases he:0<=e
 .rw[if_pos he,if_pos he,<-h];simp[dn];rfl
 .rw[if_neg he,if_neg he,<-h2];simp[dn]
theorem zA1(s:Bool)(n:Nat):rq s n 0=((sgn s n:Int):Rat):=by
 unfold rq;rw[show dn 0=1 from rfl,Rat.mkRat_one]
theorem zxR{n k:Nat}{e:Int}(h:(zaa n).length<=k)(h1:-1048576<=e)(h2:e+32*k<=1048576):nok n e=true:=by
 by_cases h0:n=0
 .subst h0;rfl
 .have:=zh0 h;exact zoh h0 (by omega) (by omega)
def nzz(m:Nat)(e:Int):Rat:=((m:Int):Rat)*zp e
theorem dq_nz(s:Bool)(m:Nat)(e:Int):dq ⟨s,m,e⟩=if s then -nzz m e else nzz m e:=by
 rw[zuS,zA1];unfold nzz;cases s
 .rfl
 .rw[zdF,Rat.intCast_neg,Rat.neg_mul];rfl
theorem zzs:dq Dy.zero=0:=by
 show dq ⟨false,0,0⟩=0;rw[dq_nz];unfold nzz;exact Rat.zero_mul _
@[reducible] def dnD(r:Rat)(p:Int):Dy:=rndD r p (decide (sg r<0))
@[reducible] def upD(r:Rat)(p:Int):Dy:=rndD r p (decide (0<sg r))
theorem zrd{r:Rat}{p:Int}{w:Bool}{H:Nat}(h:Hb r H)(hH:H<=790000):Hb (dq (rndD r p w)) (H+4100):=by
 by_cases hz:p<1\/4096<p\/r.num=0
 .have:rndD r p w=Dy.zero:=if_pos hz;rw[this,zzs];exact Hb.z
 .have h1:¬p<1:=fun e=>hz (.inl e);have h2:¬4096<p:=fun e=>hz (.inr (.inl e));have h3:¬r.num=0:=fun e=>hz (.inr (.inr e));rw[zeN h1 h2 h3];unfold rnd;obtain⟨a,ha⟩:∃a,r.num.natAbs=a:=⟨_,rfl⟩;have ha0:a≠0:=by omega
  rw[ha];have hla:bl a<=H:=zaE (ha ▸ h.num);have hlb:bl r.den<=H+1:=zaE (by have:=h.den;have:=r.den_pos;rw[zEF];omega);have hlg:=zut a r.den;have hq:=znp (a:=a) (b:=r.den) (e:=lg a r.den-p+1) ha0 r.den_nz (by omega);obtain⟨e,he⟩:∃e,lg a r.den-p+1=e:=⟨_,rfl⟩;rw[he] at hq ⊢;have hq1:bl (scN a e/scD r.den e)=p.toNat:=by omega
  have hq2:scN a e/scD r.den e<2^p.toNat:=hq1 ▸ ziQ _;have hq3:rndQ a r.den e w<=2^p.toNat:=by unfold rndQ;split <;> omega
  obtain⟨q,hqq⟩:∃q,rndQ a r.den e w=q:=⟨_,rfl⟩;rw[hqq] at hq3 ⊢;have hp2:p.toNat<=4096:=by omega
  have hl0:∀k:Nat,4096<32*k->(zaa q).length<=k:=fun k hk=>by
   refine zag.2 (zEN hq3 ?_);rw[zc4];exact zES (by decide) (by omega)
  have hl:=hl0 200 (by decide);rw[zDv (zxR hl (by omega) (by omega))];unfold dq;split
  .rename_i h0;simp only[] at h0;refine Hb.rq ?_ (Nat.one_le_two_pow);refine zEN (zEx _ hq3) ?_;rw[<-zEG];exact zES (by decide) (by simp only[];omega)
  .rename_i h0;simp only[] at h0;refine Hb.rq (zEN hq3 (zES (by decide) (by omega))) ?_;rw[zc7 (Nat.ne_of_gt (Nat.pow_pos (by decide)))];exact zEz (by decide) (by simp only[];omega)
def zcV(x:Rat)(up:Bool)(bits:Int):Rat:=if bits=0 then x else if up=true then dq (upD x bits) else dq (dnD x bits)
theorem zgJ{x:Rat}{up:Bool}{bits:Int}{H:Nat}(h:Hb x H)(hH:H<=790000):Hb (zcV x up bits) (H+4100):=by
 unfold zcV;split
 .exact h.mono (by omega)
 .split
  .exact zrd h hH
  .exact zrd h hH
theorem Hb.limb{r:Rat}{n k:Nat}(h:Hb r n)(hk:n<32*k):Br r k:=by
 have h1:2^n<4294967296^k:=by rw[zc4];exact zES (by decide) hk
 have h3:=h.num;have h4:=h.den;exact Br.of (by omega) (by omega)
theorem FOk.neg{b n:Nat}{f:Af}(h:FOk b n f):FOk b n (fSc f ((-1:Int):Rat)):=by
 have hneg:∀{x:Rat},Hb x b->Hb (x*((-1:Int):Rat)) b:=fun {x} hx=>by
  have:x*((-1:Int):Rat) = -x:=by rw[m1];grind
  rw[this];haveI:=hx;exact Hb.neg
 refine⟨by show CanT (scT f.ts _);rw[zd4];exact zfz h.can,fun t ht=>?_,hneg h.cb,fun t ht=>?_⟩
 .have ht:t∈scT f.ts ((-1:Int):Rat):=ht;rw[zd4] at ht;obtain⟨u,h1,h2,h3,_⟩:=zem ht;rw[h3];exact hneg (h.bd u h1)
 .have ht:t∈scT f.ts ((-1:Int):Rat):=ht;rw[zd4] at ht;obtain⟨u,h1,h2,_⟩:=zem ht;rw[<-h2];exact h.var u h1
def withL(s:Sc)(l:List Lm):Sc:=⟨s.q,s.path,l⟩
@[reducible] def zbZ(p:Af):Af:=fSc p ((-1:Int):Rat)
def bdA(s:Sc)(l:List Lm)(j:Nat)(p:Af):List Lm:=if abB (withL s l) p=true then[⟨(j:Int),false,qOf (abQ (withL s l) p),abL (withL s l) p⟩] else[]
def bdB(s:Sc)(l:List Lm)(j:Nat)(p:Af):List Lm:=if abB (withL s l) (zbZ p)=true then[⟨(j:Int),true,qOf (-abQ (withL s l) (zbZ p)),abL (withL s l) (zbZ p)⟩] else[]
def zsV(s:Sc)(l:List Lm)(j:Nat):List Lm:=
 match s.q.g.us[j]? with
 |none=>l
 |some p=>l++bdA s l j p++bdB s l j p
def bdN(s:Sc)(n:Nat):List Lm:=(List.range n).foldl (zsV s) s.lems
theorem zvi(s:Sc)(n:Nat):bdN s (n+1)=zsV s (bdN s n) n:=by unfold bdN;rw[List.range_succ,zEO];rfl
theorem ziT{s:Sc}{n:Nat}{p:Af}(h:s.q.g.us[n]?=some p):bdN s (n+1)=bdN s n++bdA s (bdN s n) n p++bdB s (bdN s n) n p:=by
 rw[zvi];unfold zsV;rw[h]
theorem zDL{s:Sc}{l:List Lm}{j:Nat}{p:Af}(h:abB (withL s l) p=true):bdA s l j p=[⟨(j:Int),false,qOf (abQ (withL s l) p),abL (withL s l) p⟩]:=if_pos h
theorem zDN{s:Sc}{l:List Lm}{j:Nat}{p:Af}(h:abB (withL s l) p=false):bdA s l j p=[]:=if_neg (by rw[h];decide)
theorem zDI{s:Sc}{l:List Lm}{j:Nat}{p:Af}(h:abB (withL s l) (zbZ p)=true):bdB s l j p=[⟨(j:Int),true,qOf (-abQ (withL s l) (zbZ p)),abL (withL s l) (zbZ p)⟩]:=if_pos h
theorem zDK{s:Sc}{l:List Lm}{j:Nat}{p:Af}(h:abB (withL s l) (zbZ p)=false):bdB s l j p=[]:=if_neg (by rw[h];decide)
def zgl(s:Sc):Sc:=withL s (bdN s s.q.g.us.length)
theorem zrx{s:Sc}(h:SOk s){f:Af}{j:Nat}{up:Bool}{x:Rat}{l:List Mu}(hj:j<s.q.g.us.length)(hx:Hb x (KB j)):LOk s.q ⟨(j:Int),up,qOf x,l⟩:=
 ⟨by simp,by simpa using hj,by rw[zaj],by rw[zaj];simpa using hx⟩
theorem LOk.withL{s:Sc}{l:List Lm}(h:SOk s)(hl:∀m∈l,LOk s.q m)(hll:l.length<=100):SOk (Rc.withL s l):=⟨h.q,h.d,h.pl,hl,hll⟩
theorem zDM{s:Sc}(h:SOk s){l:List Lm}{j:Nat}{p:Af}(hs:SOk (withL s l))(hp:s.q.g.us[j]?=some p):(∀m∈bdA s l j p,LOk s.q m)/\(bdA s l j p).length<=1:=by
 have hj:=(zEo.1 hp).1;unfold bdA;split
 .rename_i hb;refine⟨fun m hm=>?_,by simp⟩;rw[List.mem_singleton] at hm;subst hm;exact zrx (f:=p) h hj ((zmD hs hj (hs.q.g.us _ p hp) hb).mono (by omega))
 .exact⟨fun m hm=>by simp at hm,by simp⟩
theorem zDJ{s:Sc}(h:SOk s){l:List Lm}{j:Nat}{p:Af}(hs:SOk (withL s l))(hp:s.q.g.us[j]?=some p):(∀m∈bdB s l j p,LOk s.q m)/\(bdB s l j p).length<=1:=by
 have hj:=(zEo.1 hp).1;unfold bdB;split
 .rename_i hb;refine⟨fun m hm=>?_,by simp⟩;rw[List.mem_singleton] at hm;subst hm;have h1:=zmD hs hj (hs.q.g.us _ p hp).neg hb;haveI:=h1.mono (show KB j-4200<=KB j by omega);exact zrx (f:=p) h hj Hb.neg
 .exact⟨fun m hm=>by simp at hm,by simp⟩
theorem zsX{s:Sc}(h:SOk s)(h80:s.lems.length<=80):∀n,n<=s.q.g.us.length->(∀m∈bdN s n,LOk s.q m)/\(bdN s n).length<=s.lems.length+2*n
 |0,_=>⟨h.l,zEq _⟩
 |n+1,hn=>by
  obtain⟨h1,h2⟩:=zsX h h80 n (by omega);have h4:=h.q.g.u4;have hs:=LOk.withL h h1 (by omega);obtain⟨p,hp⟩:∃p,s.q.g.us[n]?=some p:=⟨_,zEm (by omega)⟩;obtain⟨a1,a2⟩:=zDM h hs hp;obtain⟨b1,b2⟩:=zDJ h hs hp;rw[ziT hp];refine⟨fun m hm=>?_,by simp only[zEC];omega⟩;rcases zEH.1 hm with hm|hm
  .rcases zEH.1 hm with hm|hm
   .exact h1 m hm
   .exact a1 m hm
  .exact b1 m hm
theorem zsW{s:Sc}(h:SOk s)(h80:s.lems.length<=80){n:Nat}(hn:n<=s.q.g.us.length):SOk (withL s (bdN s n)):=by
 obtain⟨h1,h2⟩:=zsX h h80 n hn;have h4:=h.q.g.u4;exact LOk.withL h h1 (by omega)
theorem zno{s:Sc}(h:SOk s)(h80:s.lems.length<=80):SOk (zgl s)/\(zgl s).lems.length<=s.lems.length+8:=by
 have h4:=h.q.g.u4;obtain⟨h1,h2⟩:=zsX h h80 s.q.g.us.length (zEq _);exact⟨zsW h h80 (zEq _),by show(bdN s s.q.g.us.length).length<=_;omega⟩
theorem zw8{s:Sc}(h:SOk s){f:Af}{j:Nat}(hj:j<s.q.g.us.length)(hf:FOk 3 (s.q.g.inp+j) f):Br (abQ s f) 135002:=by
 cases hb:abB s f
 .unfold abQ;rw[hb,if_neg (by decide)];exact Br.zero.mono (by omega)
 .have h4:=h.q.g.u4;have hk:=ztd (j:=j) (by omega);exact((zmD h hj hf hb).mono (show KB j-4200<=135000 by omega)).br.mono (by omega)
def zki(l:List Nat)(q:Qu)(s:List Dc×Nat):List Dc×Nat:=
 if nx l s.2 4=2\/nx l s.2 4=3 then(s.1++[⟨1+nx l s.2 4,nx l (nk l s.2) q.g.inp,zft l (nk l (nk l s.2))⟩],nk l (nk l (nk l (nk l s.2))))
 else if q.g.us.length=0 then(s.1,nk l s.2)
 else if (zfm s.1 1 ((nx l (nk l s.2) q.g.us.length:Nat):Int)||zfm s.1 2 ((nx l (nk l s.2) q.g.us.length:Nat):Int))=true then(s.1,nk l (nk l s.2))
 else(s.1++[⟨1+nx l s.2 4,nx l (nk l s.2) q.g.us.length,0⟩],nk l (nk l s.2))
def zf5(l:List Nat)(q:Qu)(k n:Nat):List Dc×Nat:=(List.range n).foldl (fun s _=>zki l q s) ([],k)
theorem zcF(l:List Nat)(q:Qu)(k n:Nat):zf5 l q k (n+1)=zki l q (zf5 l q k n):=by unfold zf5;rw[List.range_succ,zEO];rfl
theorem zkj{l:List Nat}{q:Qu}{k:Nat}(hq:QOk q)(hk:k<=l.length):∀n,(∀d∈(zf5 l q k n).1,DOk 200 q d)/\(zf5 l q k n).1.length<=n/\(zf5 l q k n).2<=l.length
 |0=>⟨fun d hd=>by simp[zf5] at hd,by simp[zf5],hk⟩
 |n+1=>by
  obtain⟨h1,h2,h3⟩:=zkj hq hk n;rw[zcF];have h4:nx l (zf5 l q k n).2 4<4:=zde (by decide);unfold zki;split
  .rename_i hc;refine⟨fun d hd=>?_,by simp;omega,za4 (za4 (za4 (za4 h3)))⟩;rcases zEH.1 hd with hd|hd
   .exact h1 d hd
   .rw[List.mem_singleton] at hd;subst hd;have:=hq.g.i1;exact⟨.inr ⟨by show 1+nx l _ 4=3\/1+nx l _ 4=4;omega,zde (by omega)⟩,(numq_hb _ _).mono (by omega)⟩
  .rename_i hc;split
   .exact⟨h1,by show(zf5 l q k n).1.length<=n+1;omega,za4 h3⟩
   .rename_i hu;split
    .exact⟨h1,by show(zf5 l q k n).1.length<=n+1;omega,za4 (za4 h3)⟩
    .refine⟨fun d hd=>?_,by simp;omega,za4 (za4 h3)⟩;rcases zEH.1 hd with hd|hd
     .exact h1 d hd
     .rw[List.mem_singleton] at hd;subst hd;exact⟨.inl ⟨by show 1+nx l _ 4=1\/1+nx l _ 4=2;omega,zde (by omega),rfl⟩,Hb.z⟩
def zjd(l:List Nat):Sc:=⟨(zax l 0).1,(zf5 l (zax l 0).1 (nk l (zax l 0).2) (nx l (zax l 0).2 4)).1,[]⟩
theorem zoa(l:List Nat):SOk (zjd l):=by
 have hq:=zlI l 0;have h4:nx l (zax l 0).2 4<4:=zde (by decide);obtain⟨h1,h2,h3⟩:=zkj (l:=l) hq (za4 (zlJ (zEs _))) (nx l (zax l 0).2 4);exact⟨hq,h1,by show(zf5 _ _ _ _).1.length<=100;omega,fun m hm=>by simp[zjd] at hm,by simp[zjd]⟩
theorem dc0(k i:Nat):D.agg [Leaf.val (.int .i64 (k:Int)),Leaf.val (.int .i64 (i:Int)),Leaf.val (.bool false),nilL,nilL]=D.agg [Leaf.val (.int .i64 (k:Int)),Leaf.val (.int .i64 (i:Int)),Leaf.val (.bool (zaR 0)),zaf (zaa (zav 0)),zaf (zaa (zaC 0))]:=by
 rw[zbm,zbn,zai];rfl
def zhu(l:List Nat):Nat:=l.foldl (· + ·) 0
theorem zh1{l:List Nat}{i x:Nat}(h:l[i]?=some x):zhu (l.take (i+1))=zhu (l.take i)+x:=by
 unfold zhu;rw[zaP h,zEO];rfl
theorem zh2{l:List Nat}(h:∀x∈l,x<256):∀i,i<=l.length->zhu (l.take i)<=256*i
 |0,_=>by simp[zhu]
 |i+1,hi=>by
  obtain⟨x,hx⟩:∃x,l[i]?=some x:=⟨_,zEm (by omega)⟩;rw[zh1 hx];have:=zh2 h i (by omega);have:=h x (zEn hx);omega
def zoD(l:List Nat):Sc:=if 0<zhu l%3 then zgl (zjd l) else zjd l
theorem zse(l:List Nat):SOk (zoD l)/\(zoD l).lems.length<=8:=by
 have h:=zoa l;unfold zoD;split
 .have:=zno h (zEs _);exact⟨this.1,by have h2:=this.2;simpa[zjd] using h2⟩
 .exact⟨h,zEs _⟩
def zck(l:List Lm)(j:Nat)(up:Bool)(x:Rat):Bool:=
 if up=true then decide ((zak l (j:Int)).2=0)||decide (x<lv l (zak l (j:Int)).2) else decide ((zak l (j:Int)).1=0)||decide (lv l (zak l (j:Int)).1<x)
abbrev Dom:Type:=Sc->Af->Rat×List Mu×Bool
def zpj(d:Dom)(s:Sc)(bits:Int)(up:Bool)(p:Af):Rat:=if up=true then zcV (-(d s (zbZ p)).1) true bits else zcV (d s p).1 false bits
def zAR(d:Dom)(s:Sc)(up:Bool)(p:Af):List Mu:=if up=true then(d s (zbZ p)).2.1 else(d s p).2.1
def ztW(d:Dom)(s:Sc)(up:Bool)(p:Af):Bool:=if up=true then(d s (zbZ p)).2.2 else(d s p).2.2
def zhj(d:Dom)(s:Sc)(bits:Int)(j:Nat)(up:Bool)(p:Af):List Lm:=
 if ztW d s up p&&zck s.lems j up (zpj d s bits up p) then[⟨(j:Int),up,qOf (zpj d s bits up p),zAR d s up p⟩] else[]
def zbf(d:Dom)(s:Sc)(bits:Int)(l:List Lm)(j:Nat)(p:Af):List Lm:=l++zhj d (withL s l) bits j false p
def zmM(d:Dom)(s:Sc)(bits:Int)(l:List Lm)(j:Nat):List Lm:=
 match s.q.g.us[j]? with
 |none=>l
 |some p=>zbf d s bits l j p++zhj d (withL s (zbf d s bits l j p)) bits j true p
def runN(d:Dom)(s:Sc)(bits:Int)(n:Nat):List Lm:=(List.range n).foldl (zmM d s bits) s.lems
theorem zq1(d:Dom)(s:Sc)(bits:Int)(n:Nat):runN d s bits (n+1)=zmM d s bits (runN d s bits n) n:=by unfold runN;rw[List.range_succ,zEO];rfl
theorem zen{d:Dom}{s:Sc}{bits:Int}{n:Nat}{p:Af}(h:s.q.g.us[n]?=some p) :
  runN d s bits (n+1)=zbf d s bits (runN d s bits n) n p++zhj d (withL s (zbf d s bits (runN d s bits n) n p)) bits n true p:=by
 rw[zq1];unfold zmM;rw[h]
def zt4(d:Dom)(s:Sc)(bits:Int):Sc:=withL s (runN d s bits s.q.g.us.length)
def zhr(d:Dom):Prop:=∀(s:Sc),SOk s->∀(j:Nat) (f:Af),j<s.q.g.us.length->FOk 3 (s.q.g.inp+j) f->(d s f).2.2=true->Hb (d s f).1 (KB j-4200)
theorem znZ{d:Dom}(hd:zhr d){s:Sc}(h:SOk s){bits:Int}{j:Nat}{up:Bool}{p:Af}(hp:s.q.g.us[j]?=some p):(∀m∈zhj d s bits j up p,LOk s.q m)/\(zhj d s bits j up p).length<=1:=by
 have hj:=(zEo.1 hp).1;have hK:5000<=KB j:=zD3 j;have hK2:=ztd (j:=j) (by have:=h.q.g.u4;omega);unfold zhj;split
 .rename_i hb;rw[zEA] at hb;refine⟨fun m hm=>?_,by simp⟩;rw[List.mem_singleton] at hm;subst hm;refine zrx (f:=p) h hj ?_;have hb1:=hb.1;unfold ztW at hb1;unfold zpj;split
  .rename_i hu;rw[if_pos hu] at hb1;haveI:=hd s h j _ hj (h.q.g.us _ p hp).neg hb1;exact(zgJ (H:=KB j-4200) Hb.neg (by omega)).mono (by omega)
  .rename_i hu;rw[if_neg hu] at hb1;exact(zgJ (hd s h j _ hj (h.q.g.us _ p hp) hb1) (by omega)).mono (by omega)
 .exact⟨fun m hm=>by simp at hm,by simp⟩
theorem zmN{d:Dom}(hd:zhr d){s:Sc}(h:SOk s){bits:Int}{l:List Lm}{j:Nat}{p:Af}(hs:SOk (withL s l))(hp:s.q.g.us[j]?=some p) :
  (∀m∈zbf d s bits l j p,LOk s.q m)/\(zbf d s bits l j p).length<=l.length+1:=by
 obtain⟨a1,a2⟩:=znZ hd (bits:=bits) (up:=false) hs hp;unfold zbf;refine⟨fun m hm=>?_,by simp only[zEC];omega⟩;rcases zEH.1 hm with hm|hm
 .exact hs.l m hm
 .exact a1 m hm
theorem zh7{d:Dom}(hd:zhr d){s:Sc}(h:SOk s)(h80:s.lems.length<=80)(bits:Int):∀n,n<=s.q.g.us.length->(∀m∈runN d s bits n,LOk s.q m)/\(runN d s bits n).length<=s.lems.length+2*n
 |0,_=>⟨h.l,zEq _⟩
 |n+1,hn=>by
  obtain⟨h1,h2⟩:=zh7 hd h h80 bits n (by omega);have h4:=h.q.g.u4;have hs:=LOk.withL h h1 (by omega);obtain⟨p,hp⟩:∃p,s.q.g.us[n]?=some p:=⟨_,zEm (by omega)⟩;obtain⟨a1,a2⟩:=zmN hd h (bits:=bits) hs hp;have hs2:=LOk.withL h a1 (by omega);obtain⟨b1,b2⟩:=znZ hd (bits:=bits) (up:=true) hs2 hp;rw[zen hp];refine⟨fun m hm=>?_,by simp only[zEC];omega⟩;rcases zEH.1 hm with hm|hm
  .exact a1 m hm
  .exact b1 m hm
theorem zkd{d:Dom}(hd:zhr d){s:Sc}(h:SOk s)(h80:s.lems.length<=80){bits:Int}{n:Nat}(hn:n<=s.q.g.us.length):SOk (withL s (runN d s bits n)):=by
 obtain⟨h1,h2⟩:=zh7 hd h h80 bits n hn;have h4:=h.q.g.u4;exact LOk.withL h h1 (by omega)
theorem zq2{d:Dom}(hd:zhr d){s:Sc}(h:SOk s)(h80:s.lems.length<=80)(bits:Int):SOk (zt4 d s bits)/\(zt4 d s bits).lems.length<=s.lems.length+8:=by
 have h4:=h.q.g.u4;obtain⟨h1,h2⟩:=zh7 hd h h80 bits s.q.g.us.length (zEq _);exact⟨zkd hd h h80 (zEq _),by show(runN d s bits s.q.g.us.length).length<=_;omega⟩
end Rc
namespace Go.Proofs.YtjeiacoegppoiaaGreatDoor
open Go Go.RowKit Rc
set_option maxHeartbeats 2000000 in
theorem zsK(s:Sc)(hs:SOk s)(h80:s.lems.length<=80):Ctr Tryz.prog 81 [scV s] (R.one (scV (zgl s))):=by
 refine bd_ Tryz.func81 Tryz.ntmps81 rfl (fun w0 A0=>?_);have hq:=hs.q;have hd:=hs.d;have hpl:=hs.pl;have hB:=hs.B;have hll:=hs.ll;have hg:=hq.g;have hr:=hq.r;have hlo:=hr.lo;have hhi:=hr.hi;have g1:=hg.i1;have g2:=hg.i3;have g3:=hg.u4;have g4:=hg.o1;have g5:=hg.o3;refine zc 7 rfl (dr_ 2 [(4,2),(7,2),(9,3),(10,3)] [2,3] (dz 4 rfl (ki_ 2 rfl (zjX (i:=2) rfl znM zgC rfl) (dz 2 rfl (ki_ 2 rfl (dal (e:=lmE) (l:=[]) rfl rfl) (dz 3 rfl (zad (za 3 rfl ?_))))))));refine nz_ [so 1 (D.ptr 0 0),so 2 (D.ptr 1 0),so 3 (D.ptr 3 0)] [hb_ 43 (scL s),hb_ 43 scZ,hgr 105 6 lmE ([]++s.lems) 1,hb_ 43 (quL s.q++[El.row dcE s.path,Leaf.own 2 1])] rfl rfl (zc 5 rfl ?_);refine zbq (fun m Γ H=>∃(i:Nat) (n:Nat) (out:List Lm),s.q.g.us.length-i=m/\Γ=[(1,some (D.ptr 0 0)),(2,some (D.ptr 1 0)),(3,some (D.ptr 3 0)),(4,some (D.val (.int .i64 (i:Int))))]/\H=[hb_ 43 (scL s),hb_ 43 scZ,hgr 105 6 lmE out n,hb_ 43 (quL s.q++[El.row dcE s.path,Leaf.own 2 n])]/\i<=s.q.g.us.length/\out=bdN s i) ⟨0,1,s.lems,rfl,rfl,rfl,zEs _,rfl⟩ rfl ?_;rintro m Γ H ⟨i,n,out,rfl,rfl,rfl,hi0,hout⟩;refine zc 8 rfl (tq_ rfl (jln rfl) ?_);by_cases hi:i<s.q.g.us.length
 .refine tq_ rfl (ltT rfl) (zl 8 rfl ?_);obtain⟨p,hp⟩:∃p,s.q.g.us[i]?=some p:=⟨_,zEm hi⟩;have hso:=zsW hs h80 (n:=i) (by omega);rw[<-hout] at hso;have hol:=hso.ll;have hol:out.length<=100:=hol;have hoB:=hso.B;have hpf:=hq.g.us i p hp;have hpf2:FOk 3 (s.q.g.inp+s.q.g.us.length) p:=hpf.mono (zEq _) (by omega);have hnf2:=hpf2.neg;have hpl_:=hpf2.fl;haveI:=hpl_.fm (by omega);haveI:=hpl_.cb;refine nz_ [so 1 (D.ptr 0 0),so 2 (D.ptr 1 0),so 3 (D.ptr 3 0),so 4 (D.val (.int .i64 (i:Int)))] [hb_ 43 (scL s),hb_ 43 scZ,hgr 105 6 lmE out n,hb_ 43 (quL s.q++[El.row dcE s.path,Leaf.own 2 n])] rfl rfl (zc 6 rfl (tq_ rfl (jix i hp rfl) (tq_ rfl (jlr rfl) (zl 5 rfl (nz_ [so 1 _,so 2 _,so 3 _,so 4 _,so 5 (D.ptr 4 0)] [_,_,_,_,hb_ 38 (afL p)] rfl rfl ?_)))));refine zc 1 rfl (tq_ rfl (jvl 11 rfl rfl) (zl 1 rfl (tc_ zC3 rfl (zs8 (withL s out) hoB (by omega) (by show out.length<=_;omega) hso.q hso.d (by omega) (by have:=hso.pl;omega) p hpf2 (by omega)) (zl 11 rfl ?_))));refine nz_ [so 1 _,so 2 _,so 3 _,so 4 _,so 5 _,so 6 (D.ptr 5 0),so 7 (D.v (V.one (El.row muE (abL (withL s out) p)))),so 8 (D.bool (abB (withL s out) p))] [_,_,_,_,_,hb_ 36 (qL (abQ (withL s out) p))] rfl rfl (dr_ 1 [(9,6),(10,6)] [6] (kq_ rfl (jvl 11 rfl rfl) (dz 1 rfl (kc_ zmA rfl (zmy (-1) (by decide) (by decide)) ?_))));refine kc_ zqh rfl (zcc p ((-1:Int):Rat) (by omega) (by omega)) (kc_ zC3 rfl (zs8 (withL s out) hoB (by omega) (by show out.length<=_;omega) hso.q hso.d (by omega) (by have:=hso.pl;omega) (zbZ p) hnf2 (by omega)) (dz 8 rfl (zad (za 3 rfl ?_))));haveI hAq:Br (abQ (withL s out) (zbZ p)) 135002:=zw8 hso (by exact hi) (by exact hpf.neg);haveI hPq:Br (abQ (withL s out) p) 135002:=zw8 hso (by exact hi) (by exact hpf);refine nf_ [4] [so 1 _,so 2 _,so 3 _,so 4 _,so 6 _,so 7 _,so 8 _,so 9 (D.ptr 6 0),so 10 (D.v (V.one (El.row muE (abL (withL s out) (zbZ p))))),so 11 (D.bool (abB (withL s out) (zbZ p)))] [_,_,_,_,none,_,hb_ 36 (qL (abQ (withL s out) (zbZ p)))] rfl rfl rfl (zc 4 rfl ?_);refine zao rfl (fun hA=>?_) (fun hA=>?_)
  .refine zc 7 rfl (te_ rfl (zae rfl znM zgC zlj rfl (by decide) (by decide) rfl (by decide) rfl) (te_ rfl (jap (e:=lmE) (⟨(i:Int),false,(qOf ((abQ (withL s out) p))),(abL (withL s out) p)⟩) rfl rfl) (zl 5 rfl ?_)));refine nf_ [5] [so 1 _,so 2 _,so 3 _,so 4 _,so 9 _,so 10 _,so 11 _] [_,_,hgr 105 6 lmE (out++[⟨(i:Int),false,(qOf ((abQ (withL s out) p))),(abL (withL s out) p)⟩]) (n+1),hb_ 43 (quL s.q++[El.row dcE s.path,Leaf.own 2 (n+1)]),none,none,_] rfl rfl rfl (zc 4 rfl ?_);refine zao rfl (fun hB_=>?_) (fun hB_=>?_)
   .refine dr_ 0 [(8,2),(10,3)] [2,3] (dz 1 rfl (kp_ [2] rfl (jld rfl) (dz 2 rfl (kc_ zAt rfl (zpo (qOf ((abQ (withL s out) (zbZ p)))) ((abQ (withL s out) (zbZ p))) (zaj _) (Br.use (by omega))) (dz 2 rfl (ke_ rfl (fun _=>zae rfl znM zgC zlj rfl (by decide) (by decide) rfl (by decide) rfl) ?_))))));refine ki_ 2 rfl (dap (e:=lmE) (⟨(i:Int),true,(qOf (-((abQ (withL s out) (zbZ p))))),(abL (withL s out) (zbZ p))⟩) rfl rfl) (dz 2 rfl (zad (za 2 rfl ?_)));refine nf_ [6] [so 1 _,so 2 _,so 3 _,so 4 _] [_,_,hgr 105 6 lmE (out++[⟨(i:Int),false,(qOf ((abQ (withL s out) p))),(abL (withL s out) p)⟩]++[⟨(i:Int),true,(qOf (-((abQ (withL s out) (zbZ p))))),(abL (withL s out) (zbZ p))⟩]) ((n+1)+1),hb_ 43 (quL s.q++[El.row dcE s.path,Leaf.own 2 ((n+1)+1)]),none,none,none] rfl rfl rfl (zc 2 rfl ?_);refine tq_ rfl (jad (i+1) rfl) (zl 2 rfl (zaK 4 rfl ?_));exact nx_ ⟨i+1,_,_,rfl,rfl,rfl,hi,by rw[ziT hp,<-hout,zDL hA,zDI hB_]⟩ rfl
   .refine zc 5 rfl (tq_ rfl (jad (i+1) rfl) (zl 2 rfl (zal 6 (zaK 4 rfl ?_))));exact nx_ ⟨i+1,_,_,rfl,rfl,rfl,hi,by rw[ziT hp,<-hout,zDL hA,zDK hB_];simp only[zEK,zEP]⟩ rfl
  .refine zc 7 rfl ?_;refine zao rfl (fun hB_=>?_) (fun hB_=>?_)
   .refine dr_ 0 [(8,2),(10,3)] [2,3] (dz 1 rfl (kp_ [2] rfl (jld rfl) (dz 2 rfl (kc_ zAt rfl (zpo (qOf ((abQ (withL s out) (zbZ p)))) ((abQ (withL s out) (zbZ p))) (zaj _) (Br.use (by omega))) (dz 2 rfl (ke_ rfl (fun _=>zae rfl znM zgC zlj rfl (by decide) (by decide) rfl (by decide) rfl) ?_))))));refine ki_ 2 rfl (dap (e:=lmE) (⟨(i:Int),true,(qOf (-((abQ (withL s out) (zbZ p))))),(abL (withL s out) (zbZ p))⟩) rfl rfl) (dz 2 rfl (zad (za 2 rfl ?_)));refine nf_ [5,6] [so 1 _,so 2 _,so 3 _,so 4 _] [_,_,hgr 105 6 lmE (out++[⟨(i:Int),true,(qOf (-((abQ (withL s out) (zbZ p))))),(abL (withL s out) (zbZ p))⟩]) (n+1),hb_ 43 (quL s.q++[El.row dcE s.path,Leaf.own 2 (n+1)]),none,none,none] rfl rfl rfl (zc 2 rfl (tq_ rfl (jad (i+1) rfl) (zl 2 rfl (zaK 4 rfl ?_))));exact nx_ ⟨i+1,_,_,rfl,rfl,rfl,hi,by rw[ziT hp,<-hout,zDN hA,zDI hB_];simp only[zEK,zEP]⟩ rfl
   .refine zc 5 rfl (tq_ rfl (jad (i+1) rfl) (zl 2 rfl (zal 5 (zal 6 (zaK 4 rfl ?_)))));exact nx_ ⟨i+1,_,_,rfl,rfl,rfl,hi,by rw[ziT hp,<-hout,zDN hA,zDK hB_];simp only[zEK,zEP]⟩ rfl
 .refine tq_ rfl (ltF rfl) (zl 9 rfl ?_);have hie:i=s.q.g.us.length:=by omega
  rw[hie] at hout;refine zc 1 rfl (tq_ rfl (jvl 11 rfl rfl) (zl 3 rfl ?_));exact r1_ hq_ rfl (by unfold zgl;rw[<-hout] <;> rfl)
set_option maxHeartbeats 2000000 in
theorem zBg(l:List Nat)(hl:l.length<=1000000)(hb:∀x∈l,x<256):Ctr Tryz.prog 80 [V.one (El.row u8E l)] (R.one (scV (zjd l))):=by
 refine bd_ Tryz.func80 Tryz.ntmps80 rfl (fun w0 A0=>?_);have hk0:0<=l.length:=zEs _;have hkq:=zlJ (l:=l) hk0;have hk1:=za4 hkq;have hq:=zlI l 0;have hm4:(nx l (zax l 0).2 4)<4:=zde (by decide);have g1:=hq.g.i1;have g2:=hq.g.i3;have g3:=hq.g.u4;refine zc 8 rfl ?_;refine zcy rfl rfl Tryz.func45 rfl rfl Tryz.ntmps45 (zEt rfl) rfl (fun a1 d1 s1=>?_);refine qc_ (zc 7 rfl (te_ rfl (zfk rfl zxf ty5 _) (zl 1 rfl ?_)));obtain⟨ti2,hi2,hz2,hs2,hb2⟩:=in5;refine te_ rfl (zeA u8E l rfl rfl rfl (by decide) zxf zxf hi2 hz2 hs2 rfl (by simp only[maxLen];omega) (by rw[hb2];omega) (H2:=_)) (zl 5 rfl (zhT [(2,some (D.ptr 0 0))] (fun _ _ h=>h) d1 s1 rfl rfl rfl ⟨rfl,trivial⟩ (zl 6 rfl (te_ rfl (zay rfl fn149 rfl rfl rfl rfl (zpt l 0 hl (by assumption) hb)) (tq_ rfl (zey rfl tx43 rfl pl43 rfl) ?_)))));refine te_ rfl (zdQ (n:=2) rfl tx43 rfl) (zl 5 rfl ?_);refine zcS 2 76 5 (ls':=[Leaf.val (.int .i64 (((zax l 0).1.g.inp:Nat):Int)),El.row afE ((zax l 0).1.g.us),El.row afE ((zax l 0).1.g.os),El.row ratE ((zax l 0).1.r.lo),El.row ratE ((zax l 0).1.r.hi),El.row afE ((zax l 0).1.r.rows),El.row tmE ((zax l 0).1.goal.ts),Leaf.val (.bool (zaR ((zax l 0).1.goal.c))),zaf (zaa (zav ((zax l 0).1.goal.c))),zaf (zaa (zaC ((zax l 0).1.goal.c))),Leaf.own 3 0,Leaf.val (.slice none 0 0)]) rfl rfl rfl ⟨.inl rfl,.inl rfl,.inl rfl,.inl rfl,.inl rfl,.inl rfl,.inl rfl,.inl rfl,.inl rfl,.inl rfl,.inr ⟨rfl,rfl⟩,.inl rfl,trivial⟩ ?_;refine zc 2 rfl (te_ rfl (zay rfl zho rfl rfl rfl rfl (zbO l ((zax l 0).2) 4 (by first|decide|omega) (by first|decide|omega) hl (by first|assumption|exact za4 (by assumption)) hb)) (zl 4 rfl ?_));refine zbq (fun m Γ H=>∃(i:Nat) (n:Nat) (out:List Dc) (k:Nat),(nx l (zax l 0).2 4)-i=m/\Γ=[(2,some (D.ptr 0 0)),(3,some (D.ptr 1 0)),(4,some (D.ptr 2 0)),(5,some (D.val (.int .i64 ((((nx l (zax l 0).2 4)-i):Nat):Int))))]/\H=[hb_ 43 scZ,hb_ 158 [El.row u8E l,Leaf.val (.int .i64 (k:Int))],hb_ 43 (quL ((zax l 0).1)++[Leaf.own 3 n,Leaf.val (.slice none 0 0)]),hgr 76 5 dcE out n]/\i<=(nx l (zax l 0).2 4)/\(out,k)=zf5 l (zax l 0).1 (nk l (zax l 0).2) i) ⟨0,0,[],_,rfl,rfl,rfl,zEs _,rfl⟩ rfl ?_;rintro m Γ H ⟨i,n,out,k,rfl,rfl,rfl,hi0,hs⟩;refine zc 4 rfl ?_;by_cases hi:i<(nx l (zax l 0).2 4)
 .refine tq_ rfl (gtT rfl) (zl 8 rfl ?_);have hpo:=zkj (l:=l) (k:=(nk l (zax l 0).2)) hq hk1 i;rw[<-hs] at hpo;obtain⟨hd,hol,hk⟩:=hpo;have hd:∀d∈out,DOk 200 (zax l 0).1 d:=hd;have hol:out.length<=i:=hol;have hk:k<=l.length:=hk;have hka:=za4 hk;have hkb:=za4 hka;have h4k:nx l k 4<4:=zde (by decide);refine zc 2 rfl (te_ rfl (zay rfl zho rfl rfl rfl rfl (zbO l k 4 (by first|decide|omega) (by first|decide|omega) hl (by first|assumption|exact za4 (by assumption)) hb)) (tq_ rfl (jad (1+nx l k 4) rfl) (zl 10 rfl ?_)));by_cases hk3:1+nx l k 4=3
  .refine tq_ rfl (eqT rfl) (zl 14 rfl (te_ rfl (zay rfl zho rfl rfl rfl rfl (zbO l (nk l k) (zax l 0).1.g.inp (by first|decide|omega) (by first|decide|omega) hl (by first|assumption|exact za4 (by assumption)) hb)) (zl 1 rfl ?_)));refine te_ rfl (zay rfl zAs rfl rfl rfl rfl (zcG l (nk l (nk l k)) hl (by first|assumption|exact za4 (by assumption)) hb)) (zl 10 rfl (te_ rfl (zae rfl ztI zAl zAJ rfl (by decide) (by decide) rfl (by decide) rfl) (te_ rfl (jap (e:=dcE) (⟨1+nx l k 4,nx l (nk l k) (zax l 0).1.g.inp,zft l (nk l (nk l k))⟩) rfl rfl) (zl 7 rfl ?_))));refine tq_ rfl (jsb ((nx l (zax l 0).2 4)-(i+1)) rfl) (zl 2 rfl (zal 4 (zaK 4 rfl ?_)));exact nx_ ⟨i+1,_,_,_,rfl,rfl,rfl,by omega,by rw[zcF,<-hs];unfold zki;rw[if_pos (.inl (by show nx l k 4=2;omega))]⟩ rfl
  .refine tq_ rfl (eqF rfl) (zl 3 rfl ?_);by_cases hk4:1+nx l k 4=4
   .refine tq_ rfl (eqT rfl) (zl 10 rfl (te_ rfl (zay rfl zho rfl rfl rfl rfl (zbO l (nk l k) (zax l 0).1.g.inp (by first|decide|omega) (by first|decide|omega) hl (by first|assumption|exact za4 (by assumption)) hb)) (zl 1 rfl ?_)));refine te_ rfl (zay rfl zAs rfl rfl rfl rfl (zcG l (nk l (nk l k)) hl (by first|assumption|exact za4 (by assumption)) hb)) (zl 10 rfl (te_ rfl (zae rfl ztI zAl zAJ rfl (by decide) (by decide) rfl (by decide) rfl) (te_ rfl (jap (e:=dcE) (⟨1+nx l k 4,nx l (nk l k) (zax l 0).1.g.inp,zft l (nk l (nk l k))⟩) rfl rfl) (zl 7 rfl ?_))));refine tq_ rfl (jsb ((nx l (zax l 0).2 4)-(i+1)) rfl) (zl 2 rfl (zal 4 (zaK 4 rfl ?_)));exact nx_ ⟨i+1,_,_,_,rfl,rfl,rfl,by omega,by rw[zcF,<-hs];unfold zki;rw[if_pos (.inr (by show nx l k 4=3;omega))]⟩ rfl
   .refine tq_ rfl (eqF rfl) (zl 6 rfl ?_);have hnk:¬(nx l k 4=2\/nx l k 4=3):=by omega
    refine zc 5 rfl (tq_ rfl (jln rfl) ?_);by_cases hu0:(zax l 0).1.g.us.length=0
    .refine tq_ rfl (eqT rfl) (zl 10 rfl (tq_ rfl (jsb ((nx l (zax l 0).2 4)-(i+1)) rfl) (zl 2 rfl (zal 4 (zaK 4 rfl ?_)))));exact nx_ ⟨i+1,_,_,_,rfl,rfl,rfl,by omega,by rw[zcF,<-hs];unfold zki;rw[if_neg hnk,if_pos hu0]⟩ rfl
    .refine tq_ rfl (eqF rfl) (zl 6 rfl ?_);have hix:nx l (nk l k) (zax l 0).1.g.us.length<(zax l 0).1.g.us.length:=zde (by omega);refine zc 6 rfl (tq_ rfl (jln rfl) (te_ rfl (zay rfl zho rfl rfl rfl rfl (zbO l (nk l k) ((zax l 0).1.g.us).length (by first|decide|omega) (by first|decide|omega) hl (by first|assumption|exact za4 (by assumption)) hb)) (zl 6 rfl ?_)));refine tq_ rfl (zk2 (x:=V.agg (quL ((zax l 0).1)++[El.row dcE out,Leaf.val (.slice none 0 0)])) (x':=V.agg (quL ((zax l 0).1)++[El.row dcE out,El.row lmE ([])])) (zex (r:=3) (n:=n) (x:=V.agg (quL ((zax l 0).1)++[Leaf.own 3 n,Leaf.val (.slice none 0 0)])) (x':=V.agg (quL ((zax l 0).1)++[El.row dcE out,Leaf.val (.slice none 0 0)])) (zaJ rfl rfl rfl (by decide) zEe (by decide) (zEt rfl) rfl) (RowAt.ofE dcE out rfl (by decide)) (by decide) ⟨.inl rfl,.inl rfl,.inl rfl,.inl rfl,.inl rfl,.inl rfl,.inl rfl,.inl rfl,.inl rfl,.inl rfl,.inr ⟨rfl,rfl⟩,.inl rfl,trivial⟩) ⟨.inl rfl,.inl rfl,.inl rfl,.inl rfl,.inl rfl,.inl rfl,.inl rfl,.inl rfl,.inl rfl,.inl rfl,.inl rfl,.inr ⟨rfl,rfl⟩,trivial⟩) ?_;refine zl 2 rfl (tc_ zuM rfl (zgg ⟨(zax l 0).1,out,[]⟩ hq hd (by omega) (by show out.length<=_;omega) 1 ((nx l (nk l k) (zax l 0).1.g.us.length:Nat):Int)) (zl 1 rfl ?_));refine zdT rfl (fun hd1=>?_) (fun hd1=>?_)
     .refine tq_ rfl (zk2 (x:=V.agg (quL ((zax l 0).1)++[El.row dcE out,Leaf.val (.slice none 0 0)])) (x':=V.agg (quL ((zax l 0).1)++[El.row dcE out,El.row lmE ([])])) (zex (r:=3) (n:=n) (x:=V.agg (quL ((zax l 0).1)++[Leaf.own 3 n,Leaf.val (.slice none 0 0)])) (x':=V.agg (quL ((zax l 0).1)++[El.row dcE out,Leaf.val (.slice none 0 0)])) (zaJ rfl rfl rfl (by decide) zEe (by decide) (zEt rfl) rfl) (RowAt.ofE dcE out rfl (by decide)) (by decide) ⟨.inl rfl,.inl rfl,.inl rfl,.inl rfl,.inl rfl,.inl rfl,.inl rfl,.inl rfl,.inl rfl,.inl rfl,.inr ⟨rfl,rfl⟩,.inl rfl,trivial⟩) ⟨.inl rfl,.inl rfl,.inl rfl,.inl rfl,.inl rfl,.inl rfl,.inl rfl,.inl rfl,.inl rfl,.inl rfl,.inl rfl,.inr ⟨rfl,rfl⟩,trivial⟩) ?_;refine zl 2 rfl (tc_ zuM rfl (zgg ⟨(zax l 0).1,out,[]⟩ hq hd (by omega) (by show out.length<=_;omega) 2 ((nx l (nk l k) (zax l 0).1.g.us.length:Nat):Int)) (zl 3 rfl ?_));refine zao rfl (fun hd2=>?_) (fun hd2=>?_)
      .refine zc 6 rfl (tq_ rfl (jsb ((nx l (zax l 0).2 4)-(i+1)) rfl) (zl 2 rfl (zal 4 (zaK 4 rfl ?_))));exact nx_ ⟨i+1,_,_,_,rfl,rfl,rfl,by omega,by rw[zcF,<-hs];unfold zki;rw[if_neg hnk,if_neg hu0,if_pos (by show(zfm out 1 _||zfm out 2 _)=true;rw[hd1,hd2];rfl)]⟩ rfl
      .refine zc 6 rfl (eq_ (D.agg [Leaf.val (.int .i64 ((1+nx l k 4:Nat):Int)),Leaf.val (.int .i64 ((nx l (nk l k) (zax l 0).1.g.us.length:Nat):Int)),Leaf.val (.bool (zaR 0)),zaf (zaa (zav 0)),zaf (zaa (zaC 0))]) rfl (dc0 _ _) (te_ rfl (zae rfl ztI zAl zAJ rfl (by decide) (by decide) rfl (by decide) rfl) ?_));refine te_ rfl (jap (e:=dcE) (⟨1+nx l k 4,nx l (nk l k) (zax l 0).1.g.us.length,0⟩) rfl rfl) (zl 7 rfl (tq_ rfl (jsb ((nx l (zax l 0).2 4)-(i+1)) rfl) (zl 2 rfl (zal 4 (zaK 4 rfl ?_)))));exact nx_ ⟨i+1,_,_,_,rfl,rfl,rfl,by omega,by rw[zcF,<-hs];unfold zki;rw[if_neg hnk,if_neg hu0,if_neg (by show ¬(zfm out 1 _||zfm out 2 _)=true;rw[hd1,hd2];decide)]⟩ rfl
     .refine zl 14 rfl (tq_ rfl (jsb ((nx l (zax l 0).2 4)-(i+1)) rfl) (zl 2 rfl (zal 4 (zaK 4 rfl ?_))));exact nx_ ⟨i+1,_,_,_,rfl,rfl,rfl,by omega,by rw[zcF,<-hs];unfold zki;rw[if_neg hnk,if_neg hu0,if_pos (by show(zfm out 1 _||zfm out 2 _)=true;rw[hd1];rfl)]⟩ rfl
 .refine tq_ rfl (gtF rfl) (zl 9 rfl ?_);have hie:i=(nx l (zax l 0).2 4):=by omega
  rw[hie] at hs;refine zc 1 rfl ?_;refine tq_ rfl (zk2 (x:=V.agg (quL ((zax l 0).1)++[El.row dcE out,Leaf.val (.slice none 0 0)])) (x':=V.agg (quL ((zax l 0).1)++[El.row dcE out,El.row lmE ([])])) (zex (r:=3) (n:=n) (x:=V.agg (quL ((zax l 0).1)++[Leaf.own 3 n,Leaf.val (.slice none 0 0)])) (x':=V.agg (quL ((zax l 0).1)++[El.row dcE out,Leaf.val (.slice none 0 0)])) (zaJ rfl rfl rfl (by decide) zEe (by decide) (zEt rfl) rfl) (RowAt.ofE dcE out rfl (by decide)) (by decide) ⟨.inl rfl,.inl rfl,.inl rfl,.inl rfl,.inl rfl,.inl rfl,.inl rfl,.inl rfl,.inl rfl,.inl rfl,.inr ⟨rfl,rfl⟩,.inl rfl,trivial⟩) ⟨.inl rfl,.inl rfl,.inl rfl,.inl rfl,.inl rfl,.inl rfl,.inl rfl,.inl rfl,.inl rfl,.inl rfl,.inl rfl,.inr ⟨rfl,rfl⟩,trivial⟩) ?_;refine zl 3 rfl ?_;exact r1_ hq_ rfl (by unfold zjd;rw[<-hs] <;> rfl)
theorem zuQ(l:List Nat)(hl:l.length<=1000000)(hb:∀x∈l,x<256):Ctr Tryz.prog 36 [V.one (El.row u8E l)] (R.one (scV (zoD l))):=by
 refine bd_ Tryz.func36 Tryz.ntmps36 rfl (fun w0 A0=>?_);refine zc 8 rfl (tc_ fn80 rfl (zBg l hl hb) (zl 16 rfl ?_));refine zbq (fun m Γ H=>∃(i:Nat),l.length-i=m/\Γ=[(0,some (D.v (V.one (El.row u8E l)))),(2,some (D.ptr 0 0)),(3,some (D.ptr 1 0)),(4,some (D.val (.int .i64 ((zhu (l.take i):Nat):Int)))),(5,some (D.val (.int .i64 (i:Int))))]/\H=[hb_ 43 scZ,hb_ 43 (scL (zjd l))]/\i<=l.length) ⟨0,rfl,rfl,rfl,zEs _⟩ rfl ?_;rintro m Γ H ⟨i,rfl,rfl,rfl,hi0⟩;refine zc 5 rfl (tq_ rfl (jln rfl) ?_);by_cases hi:i<l.length
 .refine tq_ rfl (ltT rfl) (zl 7 rfl ?_);obtain⟨x,hx⟩:∃x,l[i]?=some x:=⟨_,zEm hi⟩;have hxb:=hb x (zEn hx);have hsb:=zh2 hb i (by omega);refine zc 4 rfl (tq_ rfl (jix i hx rfl) (tq_ rfl (jli rfl) (tq_ rfl (jci x rfl) (tq_ rfl (jad ((zhu (l.take i))+x) rfl) (eq_ (D.val (.int .i64 ((zhu (l.take (i+1)):Nat):Int))) rfl (by rw[zh1 hx]) (zl 6 rfl (tq_ rfl (jad (i+1) rfl) (zl 2 rfl ?_))))))));exact nx_ ⟨i+1,rfl,rfl,rfl,hi⟩ rfl
 .refine tq_ rfl (ltF rfl) (zl 10 rfl ?_);have hie:i=l.length:=by omega
  have hsb:=zh2 hb l.length (zEq _);rw[hie,zEJ];rw[zEJ] at hsb;refine zc 2 rfl (tq_ rfl (zcz rfl rfl rfl (by decide) (r:=((zhu l%3:Nat):Int)) (zei _ _)) ?_);by_cases hp:0<zhu l%3
  .refine tq_ rfl (gtT rfl) (zl 5 rfl (tc_ fn81 rfl (zsK (zjd l) (zoa l) (zEs _)) (zl 9 rfl ?_)));exact r1_ hq_ rfl (by unfold zoD;rw[if_pos hp] <;> rfl)
  .refine tq_ rfl (gtF rfl) (zl 11 rfl ?_);exact r1_ hq_ rfl (by unfold zoD;rw[if_neg hp] <;> rfl)
end Go.Proofs.YtjeiacoegppoiaaGreatDoor
