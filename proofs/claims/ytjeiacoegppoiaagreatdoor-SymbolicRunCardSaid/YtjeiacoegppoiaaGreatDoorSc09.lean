/- Parts of the proof, 9: the texts WlK, WlL, Abv, WlM, WlN, Bnd, DyM, DyQ, DyR, Law5, DyO, Run, as far as they are used. -/
import Derived.Test.YtjeiacoegppoiaaGreatDoorSc08
set_option linter.unusedSimpArgs false
set_option linter.unusedVariables false
set_option maxRecDepth 10000
namespace Go.Proofs.YtjeiacoegppoiaaGreatDoor
open Go Go.RowKit Rc
set_option maxHeartbeats 2000000 in
theorem zAG(s:Sc){B:Nat}(hB:∀m∈s.lems,Fq m.v B)(hB2:B<=1000000000)(hl:s.lems.length<=1000000){b:Nat}(hq:QOk s.q)(hd:∀d∈s.path,DOk b s.q d)(hb:b<=1000000)(hpl:s.path.length<=1000)(r:Rw):Ctr Tryz.prog 136 [scV s,rwV r] (R.tup [afV (zhv s r).1,V.one (Leaf.val (.bool (zhv s r).2))]):=by
 refine bd_ Tryz.func136 Tryz.ntmps136 rfl (fun w0 A0=>?_);have hg:=hq.g;have hr:=hq.r;have hlo:=hr.lo;have hhi:=hr.hi;have h1:=hg.i1;have h2:=hg.i3;have h3:=hg.u4;have h4:=hg.o1;have h5:=hg.o3;refine zc 19 rfl ?_;refine nz_ [so 2 (D.ptr 0 0),so 3 (D.ptr 1 0),so 4 (D.ptr 2 0),so 6 (D.ptr 3 0)] [hb_ 43 (scL s),hb_ 107 [Leaf.val (.int .i64 r.kind),Leaf.val (.int .i64 r.idx),Leaf.val (.int .i64 r.lo),Leaf.val (.int .i64 r.hi)],hb_ 38 [El.row tmE ([]),Leaf.val (.bool false),zaf ([]),zaf ([])],hb_ 28 [Leaf.val (.int .i64 ((s.q.g.inp:Nat):Int)),El.row afE s.q.g.us,El.row afE s.q.g.os]] rfl rfl ?_;refine zc 3 rfl ?_;by_cases h1:r.idx<0
 .refine tq_ rfl (ltT rfl) (zl 12 rfl (nf_ [0,1,3] [so 4 _] [none,none,_,none] rfl rfl rfl (zc 6 rfl ?_)));exact r2_ hq_ rfl (by unfold zhv;rw[if_pos h1];exact zbE _ _ rfl)
 .refine tq_ rfl (ltF rfl) (zl 5 rfl (tq_ rfl (jln rfl) ?_));by_cases h2:(s.q.g.us.length:Int)<=r.idx
  .refine tq_ rfl (geT rfl) (zl 5 rfl (nf_ [0,1,3] [so 4 _] [none,none,_,none] rfl rfl rfl (zc 6 rfl ?_)));exact r2_ hq_ rfl (by unfold zhv;rw[if_neg h1,List.getElem?_eq_none (by omega)];exact zbE _ _ rfl)
  .refine tq_ rfl (geF rfl) (zl 7 rfl ?_);obtain⟨p,hp0⟩:∃p,s.q.g.us[r.idx.toNat]?=some p:=⟨_,zEp (by omega)⟩;have hp:FL 4 (s.q.g.inp+s.q.g.us.length) p:=(hq.g.us _ p hp0).fl.mono (by omega) (by omega);have hv:FL 2 (s.q.g.inp+s.q.g.us.length) (fV (s.q.g.inp+r.idx.toNat)):=FL.v (by omega);haveI hlq:Br (zdk s r) B:=zoy hB;haveI htq:Br (zdd s r) B:=zoy hB;have hnl:FL B (s.q.g.inp+s.q.g.us.length) (fN (zdk s r)):=FL.n hlq;have hnt:FL B (s.q.g.inp+s.q.g.us.length) (fN (zdd s r)):=FL.n htq;have g3:=hp.sub hnl;have g5:=FL.sc (c:=zdd s r) g3;have g6:=FL.sc (c:=zdd s r-zdk s r) hv;haveI:=hp.fm (by omega);haveI:=hp.cb;haveI:=hv.fm (by omega);haveI:=hv.cb;haveI:=hnl.fm (by omega);haveI:=hnl.cb;haveI:=hnt.fm (by omega);haveI:=hnt.cb;haveI:=g3.fm (by omega);haveI:=g3.cb;haveI:=g5.fm (by omega);haveI:=g5.cb;haveI:=g6.fm (by omega);haveI:=g6.cb;refine dr_ 2 [(12,4),(13,5),(14,4),(15,5)] [4,5] (dz 4 rfl (kq_ rfl (jad (s.q.g.inp+r.idx.toNat) rfl) (kc_ zss rfl (zAY (s.q.g.inp+r.idx.toNat) (by omega)) (dz 4 rfl (kq_ rfl (jix r.idx.toNat hp0 rfl (by omega)) (kq_ rfl (jlr rfl) (dz 4 rfl (zae (za 2 rfl ?_)))))))));refine nf_ [3] [so 2 _,so 3 _,so 4 _,so 7 (D.ptr 4 0),so 8 (D.ptr 5 0)] [_,_,_,none,hb_ 38 (afL (fV (s.q.g.inp+r.idx.toNat))),hb_ 38 (afL p)] rfl rfl rfl (zc 6 rfl (tc_ zCW rfl (zr3 s hB (by omega) hl r.lo r.idx false) (zl 9 rfl ?_)));refine nz_ [so 2 _,so 3 _,so 4 _,so 7 _,so 8 _,so 9 (D.ptr 6 0),so 10 (D.bool (zpR s r))] [_,_,_,none,_,_,hb_ 36 (qL (zdk s r))] rfl rfl (zc 6 rfl (tc_ zCW rfl (zr3 s hB (by omega) hl r.hi r.idx true) (zl 9 rfl ?_)));refine nz_ [so 2 _,so 3 _,so 4 _,so 7 _,so 8 _,so 9 _,so 10 _,so 11 (D.ptr 7 0),so 12 (D.bool (zpw s r))] [_,_,_,none,_,_,_,hb_ 36 (qL (zdd s r))] rfl rfl (zc 1 rfl (tc_ zmm rfl (zlL (-1) (by decide) (by decide)) (zl 4 rfl ?_)));refine mt_ [so 2 (D.ptr 0 0),so 3 (D.ptr 1 0),so 4 (D.ptr 2 0),so 7 (D.ptr 4 0),so 8 (D.ptr 5 0),so 9 (D.ptr 6 0),so 10 (D.bool (zpR s r)),so 11 (D.ptr 7 0),so 12 (D.bool (zpw s r)),so 13 (D.ptr 8 0),so 14 (D.bool (onB s r))] [hb_ 43 (scL s),hb_ 107 [Leaf.val (.int .i64 r.kind),Leaf.val (.int .i64 r.idx),Leaf.val (.int .i64 r.lo),Leaf.val (.int .i64 r.hi)],hb_ 38 [El.row tmE ([]),Leaf.val (.bool false),zaf ([]),zaf ([])],none,hb_ 38 (afL (fV (s.q.g.inp+r.idx.toNat))),hb_ 38 (afL p),hb_ 36 (qL (zdk s r)),hb_ 36 (qL (zdd s r)),hb_ 36 (qL (((-1):Int):Rat))] ?_ ?_
   .refine zc 5 rfl ?_;refine zdM rfl (fun hb68=>?_) (fun hb68=>?_)
    .refine zl 18 rfl (is_ (onB s r) rfl (by simp[onB, *]) (zl 2 rfl ?_));exact mx_ rfl
    .refine zl 4 rfl ?_;refine zdM rfl (fun hb72=>?_) (fun hb72=>?_)
     .refine zl 8 rfl ?_;refine zdM rfl (fun hb80=>?_) (fun hb80=>?_)
      .refine zl 6 rfl (is_ (onB s r) rfl (by simp[onB, *]) (zl 2 rfl ?_));exact mx_ rfl
      .refine zl 1 rfl (tc_ zg4 rfl (zbH (qOf ((zdk s r))) ((zdk s r)) (zaj _) (Br.use (by omega))) (zl 4 rfl (is_ (onB s r) rfl (by simp[onB, *]) (zl 2 rfl ?_))));exact mx_ rfl
     .refine zl 3 rfl (tc_ zuY rfl (zgw s hq hd (by omega) hpl 1 r.idx) (zl 2 rfl ?_));refine zdM rfl (fun hb78=>?_) (fun hb78=>?_)
      .refine zl 2 rfl ?_;refine zdM rfl (fun hb80=>?_) (fun hb80=>?_)
       .refine zl 6 rfl (is_ (onB s r) rfl (by simp[onB, *]) (zl 2 rfl ?_));exact mx_ rfl
       .refine zl 1 rfl (tc_ zg4 rfl (zbH (qOf ((zdk s r))) ((zdk s r)) (zaj _) (Br.use (by omega))) (zl 4 rfl (is_ (onB s r) rfl (by simp[onB, *]) (zl 2 rfl ?_))));exact mx_ rfl
      .refine zl 8 rfl (is_ (onB s r) rfl (by simp[onB, *]) (zl 2 rfl ?_));exact mx_ rfl
   .refine mt_ [so 3 (D.ptr 1 0),so 4 (D.ptr 2 0),so 7 (D.ptr 4 0),so 8 (D.ptr 5 0),so 9 (D.ptr 6 0),so 10 (D.bool (zpR s r)),so 11 (D.ptr 7 0),so 12 (D.bool (zpw s r)),so 13 (D.ptr 8 0),so 14 (D.bool (onB s r)),so 15 (D.bool (zhy s r))] [hb_ 43 (scL s),hb_ 107 [Leaf.val (.int .i64 r.kind),Leaf.val (.int .i64 r.idx),Leaf.val (.int .i64 r.lo),Leaf.val (.int .i64 r.hi)],hb_ 38 [El.row tmE ([]),Leaf.val (.bool false),zaf ([]),zaf ([])],none,hb_ 38 (afL (fV (s.q.g.inp+r.idx.toNat))),hb_ 38 (afL p),hb_ 36 (qL (zdk s r)),hb_ 36 (qL (zdd s r)),hb_ 36 (qL (((-1):Int):Rat))] ?_ ?_
    .refine zc 5 rfl ?_;refine zdM rfl (fun hb90=>?_) (fun hb90=>?_)
     .refine zl 18 rfl (is_ (zhy s r) rfl (by simp[zhy, *]) (zl 2 rfl ?_));exact mx_ rfl
     .refine zl 4 rfl ?_;refine zdM rfl (fun hb94=>?_) (fun hb94=>?_)
      .refine zl 8 rfl ?_;refine zdM rfl (fun hb102=>?_) (fun hb102=>?_)
       .refine zl 6 rfl (is_ (zhy s r) rfl (by simp[zhy, *]) (zl 2 rfl ?_));exact mx_ rfl
       .refine zl 1 rfl (tc_ zg4 rfl (zbH (qOf ((zdd s r))) ((zdd s r)) (zaj _) (Br.use (by omega))) (zl 4 rfl (is_ (zhy s r) rfl (by simp[zhy, *]) (zl 2 rfl ?_))));exact mx_ rfl
      .refine zl 3 rfl (tc_ zuY rfl (zgw s hq hd (by omega) hpl 2 r.idx) (zl 2 rfl ?_));refine zdM rfl (fun hb100=>?_) (fun hb100=>?_)
       .refine zl 2 rfl ?_;refine zdM rfl (fun hb102=>?_) (fun hb102=>?_)
        .refine zl 6 rfl (is_ (zhy s r) rfl (by simp[zhy, *]) (zl 2 rfl ?_));exact mx_ rfl
        .refine zl 1 rfl (tc_ zg4 rfl (zbH (qOf ((zdd s r))) ((zdd s r)) (zaj _) (Br.use (by omega))) (zl 4 rfl (is_ (zhy s r) rfl (by simp[zhy, *]) (zl 2 rfl ?_))));exact mx_ rfl
       .refine zl 8 rfl (is_ (zhy s r) rfl (by simp[zhy, *]) (zl 2 rfl ?_));exact mx_ rfl
    .refine zc 18 rfl ?_;by_cases hk5:r.kind=5
     .refine tq_ rfl (eqT rfl) (zl 4 rfl (nf_ [0,5,6,7,8] [so 3 _,so 4 _,so 7 _,so 16 (D.ptr 9 0)] [none,_,_,none,_,none,none,none,none,hb_ 38 [El.row tmE ([]),Leaf.val (.bool false),zaf ([]),zaf ([])]] rfl rfl rfl (dr_ 0 [(9,9)] [9] (dz 5 rfl ?_))));refine zqt rfl (fun hb118=>?_) (fun hb118=>?_)
      .refine dz 6 rfl (zae (za 4 rfl (nf_ [1,4] [so 4 _,so 16 _,so 17 (D.bool false)] [none,none,_,none,none,none,none,none,none,hb_ 38 (afL (fV (s.q.g.inp+r.idx.toNat)))] rfl rfl rfl (zc 13 rfl ?_))));exact r2_ hq_ rfl (by rw[zb2 h1 hp0 (by unfold za5;rw[if_pos hk5];(try simp at hc212);simp[*])];exact zbE _ _ rfl)
      .refine dz 6 rfl (zae (za 4 rfl (nf_ [1,4] [so 4 _,so 16 _,so 17 (D.bool (r.hi == 0))] [none,none,_,none,none,none,none,none,none,hb_ 38 (afL (fV (s.q.g.inp+r.idx.toNat)))] rfl rfl rfl (zc 5 rfl ?_))));refine zao rfl (fun hc212=>?_) (fun hc212=>?_)
       .refine zc 7 rfl ?_;exact r2_ hq_ rfl (by rw[zb2 h1 hp0 (by unfold za5;rw[if_pos hk5];(try simp at hc212);simp[*])];exact zbE _ _ rfl)
       .refine zc 9 rfl ?_;exact r2_ hq_ rfl (by rw[zd0 h1 hp0 (show za5 s r p=((fV (s.q.g.inp+r.idx.toNat)),true) from by unfold za5;rw[if_pos hk5];(try simp at hc212);simp[*])] <;> rfl)
     .refine tq_ rfl (eqF rfl) (zl 5 rfl ?_);refine nf_ [0] [so 3 _,so 4 _,so 7 _,so 8 _,so 9 _,so 10 _,so 11 _,so 12 _,so 13 (D.ptr 8 0),so 14 (D.bool (onB s r)),so 15 (D.bool (zhy s r)),so 16 (D.ptr 9 0),so 17 (D.bool false),so 111 (D.val (.int .i64 r.kind))] [none,_,_,none,_,_,_,_,hb_ 36 (qL (((-1):Int):Rat)),hb_ 38 [El.row tmE ([]),Leaf.val (.bool false),zaf ([]),zaf ([])]] rfl rfl rfl ?_;refine zc 1 rfl ?_;by_cases hk6:r.kind=6
      .refine tq_ rfl (eqT rfl) (zl 4 rfl (dr_ 0 [(11,9)] [9] (dz 2 rfl (kc_ zqu rfl (zhx (fV (s.q.g.inp+r.idx.toNat)) p (by omega) (by omega) (by omega)) (dz 4 rfl ?_)))));refine zqt rfl (fun hb131=>?_) (fun hb131=>?_)
       .refine dz 6 rfl (zae (za 4 rfl (nf_ [1,4,5,6,7,8] [so 4 _,so 16 _,so 17 _] [none,none,_,none,none,none,none,none,none,hb_ 38 (afL (zbQ (fV (s.q.g.inp+r.idx.toNat)) p))] rfl rfl rfl (zc 13 rfl ?_))));exact r2_ hq_ rfl (by rw[zb2 h1 hp0 (by unfold za5;rw[if_neg hk5,if_pos hk6];(try simp at hc212);simp[*])];exact zbE _ _ rfl)
       .refine dz 6 rfl (zae (za 4 rfl (nf_ [1,4,5,6,7,8] [so 4 _,so 16 _,so 17 (D.bool (r.hi == 0))] [none,none,_,none,none,none,none,none,none,hb_ 38 (afL (zbQ (fV (s.q.g.inp+r.idx.toNat)) p))] rfl rfl rfl (zc 5 rfl ?_))));refine zao rfl (fun hc212=>?_) (fun hc212=>?_)
        .refine zc 7 rfl ?_;exact r2_ hq_ rfl (by rw[zb2 h1 hp0 (by unfold za5;rw[if_neg hk5,if_pos hk6];(try simp at hc212);simp[*])];exact zbE _ _ rfl)
        .refine zc 9 rfl ?_;exact r2_ hq_ rfl (by rw[zd0 h1 hp0 (show za5 s r p=(zbQ (fV (s.q.g.inp+r.idx.toNat)) p,true) from by unfold za5;rw[if_neg hk5,if_pos hk6];(try simp at hc212);simp[*])] <;> rfl)
      .refine tq_ rfl (eqF rfl) (zl 5 rfl (nz_ [so 3 _,so 4 _,so 7 _,so 8 _,so 9 _,so 10 _,so 11 _,so 12 _,so 13 _,so 14 _,so 15 _,so 16 _,so 17 _,so 111 _] [none,_,_,none,_,_,_,_,_,_] rfl rfl (zc 1 rfl ?_)));by_cases hk7:r.kind=7
       .refine tq_ rfl (eqT rfl) (zl 19 rfl ?_);refine zao rfl (fun hc212=>?_) (fun hc212=>?_)
        .refine zc 1 rfl (nf_ [1,4,5,6,7,8,9] [so 4 _] [none,none,_,none,none,none,none,none,none,none] rfl rfl rfl (zc 6 rfl ?_));exact r2_ hq_ rfl (by rw[zb2 h1 hp0 (by unfold za5;rw[if_neg hk5,if_neg hk6,if_pos hk7];(try simp at hc212);simp[*])];exact zbE _ _ rfl)
        .refine zc 9 rfl ?_;exact r2_ hq_ rfl (by rw[zd0 h1 hp0 (show za5 s r p=(p,true) from by unfold za5;rw[if_neg hk5,if_neg hk6,if_pos hk7];(try simp at hc212);simp[*])] <;> rfl)
       .refine tq_ rfl (eqF rfl) (zl 5 rfl (nz_ [so 3 _,so 4 _,so 7 _,so 8 _,so 9 _,so 10 _,so 11 _,so 12 _,so 13 _,so 14 _,so 15 _,so 16 _,so 17 _,so 111 _] [none,_,_,none,_,_,_,_,_,_] rfl rfl (zc 1 rfl ?_)));by_cases hk8:r.kind=8
        .refine tq_ rfl (eqT rfl) (zl 7 rfl (tc_ zqu rfl (zhx p (fV (s.q.g.inp+r.idx.toNat)) (by omega) (by omega) (by omega)) (zl 8 rfl (nf_ [1,4,5,6,7,8] [so 4 _,so 16 _,so 17 (D.bool (onB s r))] [none,none,_,none,none,none,none,none,none,hb_ 38 (afL (zbQ p (fV (s.q.g.inp+r.idx.toNat))))] rfl rfl rfl (zc 5 rfl ?_)))));refine zao rfl (fun hc212=>?_) (fun hc212=>?_)
         .refine zc 7 rfl ?_;exact r2_ hq_ rfl (by rw[zb2 h1 hp0 (by unfold za5;rw[if_neg hk5,if_neg hk6,if_neg hk7,if_pos hk8];(try simp at hc212);simp[*])];exact zbE _ _ rfl)
         .refine zc 9 rfl ?_;exact r2_ hq_ rfl (by rw[zd0 h1 hp0 (show za5 s r p=(zbQ p (fV (s.q.g.inp+r.idx.toNat)),true) from by unfold za5;rw[if_neg hk5,if_neg hk6,if_neg hk7,if_pos hk8];(try simp at hc212);simp[*])] <;> rfl)
        .refine tq_ rfl (eqF rfl) (zl 5 rfl (nz_ [so 3 _,so 4 _,so 7 _,so 8 _,so 9 _,so 10 _,so 11 _,so 12 _,so 13 _,so 15 _,so 16 _,so 17 _,so 111 _] [none,_,_,none,_,_,_,_,_,_] rfl rfl (zc 1 rfl ?_)));by_cases hk9:r.kind=9
         .refine tq_ rfl (eqT rfl) (zl 7 rfl (tc_ zpY rfl (zb9 p (((-1):Int):Rat) (by omega) (by omega)) (zl 8 rfl (nf_ [1,4,5,6,7,8] [so 4 _,so 16 _,so 17 (D.bool (zhy s r))] [none,none,_,none,none,none,none,none,none,hb_ 38 (afL (fSc p (((-1):Int):Rat)))] rfl rfl rfl (zc 5 rfl ?_)))));refine zao rfl (fun hc212=>?_) (fun hc212=>?_)
          .refine zc 7 rfl ?_;exact r2_ hq_ rfl (by rw[zb2 h1 hp0 (by unfold za5;rw[if_neg hk5,if_neg hk6,if_neg hk7,if_neg hk8,if_pos hk9];(try simp at hc212);simp[*])];exact zbE _ _ rfl)
          .refine zc 9 rfl ?_;exact r2_ hq_ rfl (by rw[zd0 h1 hp0 (show za5 s r p=(fSc p ((-1:Int):Rat),true) from by unfold za5;rw[if_neg hk5,if_neg hk6,if_neg hk7,if_neg hk8,if_pos hk9];(try simp at hc212);simp[*])] <;> rfl)
         .refine tq_ rfl (eqF rfl) (zl 5 rfl (nz_ [so 3 _,so 4 _,so 7 _,so 8 _,so 9 _,so 10 _,so 11 _,so 12 _,so 13 _,so 15 _,so 16 _,so 17 _,so 111 _] [none,_,_,none,_,_,_,_,_,_] rfl rfl (zc 1 rfl ?_)));by_cases hk10:r.kind=10
          .refine tq_ rfl (eqT rfl) (zl 7 rfl (tc_ zpY rfl (zb9 (fV (s.q.g.inp+r.idx.toNat)) (((-1):Int):Rat) (by omega) (by omega)) (zl 8 rfl (nf_ [1,4,5,6,7,8] [so 4 _,so 16 _,so 17 (D.bool (zhy s r))] [none,none,_,none,none,none,none,none,none,hb_ 38 (afL (fSc (fV (s.q.g.inp+r.idx.toNat)) (((-1):Int):Rat)))] rfl rfl rfl (zc 5 rfl ?_)))));refine zao rfl (fun hc212=>?_) (fun hc212=>?_)
           .refine zc 7 rfl ?_;exact r2_ hq_ rfl (by rw[zb2 h1 hp0 (by unfold za5;rw[if_neg hk5,if_neg hk6,if_neg hk7,if_neg hk8,if_neg hk9,if_pos hk10];(try simp at hc212);simp[*])];exact zbE _ _ rfl)
           .refine zc 9 rfl ?_;exact r2_ hq_ rfl (by rw[zd0 h1 hp0 (show za5 s r p=(fSc (fV (s.q.g.inp+r.idx.toNat)) ((-1:Int):Rat),true) from by unfold za5;rw[if_neg hk5,if_neg hk6,if_neg hk7,if_neg hk8,if_neg hk9,if_pos hk10];(try simp at hc212);simp[*])] <;> rfl)
          .refine tq_ rfl (eqF rfl) (zl 5 rfl (nf_ [8] [so 3 _,so 4 _,so 7 _,so 8 _,so 9 _,so 10 _,so 11 _,so 12 _,so 16 _,so 17 _,so 111 _] [none,_,_,none,_,_,_,_,none,_] rfl rfl rfl (zc 1 rfl ?_)));by_cases hk11:r.kind=11
           .refine tq_ rfl (eqT rfl) (zl 4 rfl (dr_ 0 [(10,9)] [9] (dz 2 rfl (kc_ zwN rfl (zeV (zdk s r)) (kc_ zqu rfl (zhx p (fN (zdk s r)) (by omega) (by omega) (by omega)) (dz 2 rfl ?_))))));refine zqt rfl (fun hb165=>?_) (fun hb165=>?_)
            .refine dz 6 rfl (zae (za 4 rfl (nf_ [1,4,5,6,7] [so 4 _,so 16 _,so 17 _] [none,none,_,none,none,none,none,none,none,hb_ 38 (afL (zbQ p (fN (zdk s r))))] rfl rfl rfl (zc 13 rfl ?_))));exact r2_ hq_ rfl (by rw[zb2 h1 hp0 (by unfold za5;rw[if_neg hk5,if_neg hk6,if_neg hk7,if_neg hk8,if_neg hk9,if_neg hk10,if_pos hk11];(try simp at hc212);simp[*])];exact zbE _ _ rfl)
            .refine dz 6 rfl (zae (za 4 rfl (nf_ [1,4,5,6,7] [so 4 _,so 16 _,so 17 (D.bool (r.hi == 0))] [none,none,_,none,none,none,none,none,none,hb_ 38 (afL (zbQ p (fN (zdk s r))))] rfl rfl rfl (zc 5 rfl ?_))));refine zao rfl (fun hc212=>?_) (fun hc212=>?_)
             .refine zc 7 rfl ?_;exact r2_ hq_ rfl (by rw[zb2 h1 hp0 (by unfold za5;rw[if_neg hk5,if_neg hk6,if_neg hk7,if_neg hk8,if_neg hk9,if_neg hk10,if_pos hk11];(try simp at hc212);simp[*])];exact zbE _ _ rfl)
             .refine zc 9 rfl ?_;exact r2_ hq_ rfl (by rw[zd0 h1 hp0 (show za5 s r p=(zbQ p (fN (zdk s r)),true) from by unfold za5;rw[if_neg hk5,if_neg hk6,if_neg hk7,if_neg hk8,if_neg hk9,if_neg hk10,if_pos hk11];(try simp at hc212);simp[*])] <;> rfl)
           .refine tq_ rfl (eqF rfl) (zl 5 rfl (nz_ [so 3 _,so 4 _,so 7 _,so 8 _,so 9 _,so 10 _,so 11 _,so 12 _,so 16 _,so 17 _,so 111 _] [none,_,_,none,_,_,_,_,none,_] rfl rfl (zc 1 rfl ?_)));by_cases hk12:r.kind=12
            .refine tq_ rfl (eqT rfl) (zl 4 rfl (dr_ 0 [(10,9)] [9] (dz 1 rfl (kc_ zwN rfl (zeV (zdd s r)) (dz 1 rfl (kc_ zqu rfl (zhx (fN (zdd s r)) p (by omega) (by omega) (by omega)) (dz 2 rfl ?_)))))));refine zqt rfl (fun hb177=>?_) (fun hb177=>?_)
             .refine dz 6 rfl (zae (za 4 rfl (nf_ [1,4,5,6,7] [so 4 _,so 16 _,so 17 _] [none,none,_,none,none,none,none,none,none,hb_ 38 (afL (zbQ (fN (zdd s r)) p))] rfl rfl rfl (zc 13 rfl ?_))));exact r2_ hq_ rfl (by rw[zb2 h1 hp0 (by unfold za5;rw[if_neg hk5,if_neg hk6,if_neg hk7,if_neg hk8,if_neg hk9,if_neg hk10,if_neg hk11,if_pos hk12];(try simp at hc212);simp[*])];exact zbE _ _ rfl)
             .refine dz 6 rfl (zae (za 4 rfl (nf_ [1,4,5,6,7] [so 4 _,so 16 _,so 17 (D.bool (r.lo == 0))] [none,none,_,none,none,none,none,none,none,hb_ 38 (afL (zbQ (fN (zdd s r)) p))] rfl rfl rfl (zc 5 rfl ?_))));refine zao rfl (fun hc212=>?_) (fun hc212=>?_)
              .refine zc 7 rfl ?_;exact r2_ hq_ rfl (by rw[zb2 h1 hp0 (by unfold za5;rw[if_neg hk5,if_neg hk6,if_neg hk7,if_neg hk8,if_neg hk9,if_neg hk10,if_neg hk11,if_pos hk12];(try simp at hc212);simp[*])];exact zbE _ _ rfl)
              .refine zc 9 rfl ?_;exact r2_ hq_ rfl (by rw[zd0 h1 hp0 (show za5 s r p=(zbQ (fN (zdd s r)) p,true) from by unfold za5;rw[if_neg hk5,if_neg hk6,if_neg hk7,if_neg hk8,if_neg hk9,if_neg hk10,if_neg hk11,if_pos hk12];(try simp at hc212);simp[*])] <;> rfl)
            .refine tq_ rfl (eqF rfl) (zl 5 rfl (nf_ [1] [so 4 _,so 7 _,so 8 _,so 9 _,so 10 _,so 11 _,so 12 _,so 16 _,so 17 _,so 111 _] [none,none,_,none,_,_,_,_,none,_] rfl rfl rfl (zc 1 rfl ?_)));by_cases hk13:r.kind=13
             .refine tq_ rfl (eqT rfl) (zl 5 rfl (dr_ 1 [(6,10),(7,10)] [10] (dz 2 rfl (kc_ zwN rfl (zeV (zdk s r)) (kc_ zqu rfl (zhx p (fN (zdk s r)) (by omega) (by omega) (by omega)) (dz 1 rfl (kc_ zpY rfl (zb9 (zbQ p (fN (zdk s r))) (zdd s r) (by omega) (by omega)) (dz 2 rfl (zae ?_)))))))));refine za 1 rfl (nf_ [5] [so 4 _,so 7 _,so 9 _,so 10 _,so 11 _,so 12 _,so 16 _,so 18 (D.ptr 10 0)] [none,none,_,none,_,none,_,_,none,_,hb_ 38 (afL (fSc (zbQ p (fN (zdk s r))) (zdd s r)))] rfl rfl rfl (dr_ 0 [(21,9)] [9] (dz 4 rfl ?_)));refine kc_ zzf rfl (zm9 (qOf ((zdd s r))) ((zdd s r)) (zaj _) (Br.use (by omega)) (qOf ((zdk s r))) ((zdk s r)) (zaj _) (Br.use (by omega))) (kc_ zpY rfl (zb9 (fV (s.q.g.inp+r.idx.toNat)) (((zdd s r))-((zdk s r))) (by omega) (by omega)) ?_);refine kc_ zqu rfl (zhx (fSc (zbQ p (fN (zdk s r))) (zdd s r)) (fSc (fV (s.q.g.inp+r.idx.toNat)) (((zdd s r))-((zdk s r)))) (by omega) (by omega) (by omega)) (dz 2 rfl ?_);refine zqt rfl (fun hb198=>?_) (fun hb198=>?_)
              .refine dz 14 rfl (zae (za 4 rfl (nf_ [4,6,7,10] [so 4 _,so 16 _,so 17 (D.bool false)] [none,none,_,none,none,none,none,none,none,hb_ 38 (afL (zbQ (fSc (zbQ p (fN (zdk s r))) (zdd s r)) (fSc (fV (s.q.g.inp+r.idx.toNat)) (((zdd s r))-((zdk s r)))))),none] rfl rfl rfl (zc 13 rfl ?_))));exact r2_ hq_ rfl (by rw[zb2 h1 hp0 (by unfold za5;rw[if_neg hk5,if_neg hk6,if_neg hk7,if_neg hk8,if_neg hk9,if_neg hk10,if_neg hk11,if_neg hk12,if_pos hk13];(try simp at hc212);simp[*])];exact zbE _ _ rfl)
              .refine dz 3 rfl ?_;refine zqt rfl (fun hb201=>?_) (fun hb201=>?_)
               .refine dz 11 rfl (zae (za 4 rfl (nf_ [4,6,7,10] [so 4 _,so 16 _,so 17 (D.bool false)] [none,none,_,none,none,none,none,none,none,hb_ 38 (afL (zbQ (fSc (zbQ p (fN (zdk s r))) (zdd s r)) (fSc (fV (s.q.g.inp+r.idx.toNat)) (((zdd s r))-((zdk s r)))))),none] rfl rfl rfl (zc 13 rfl ?_))));exact r2_ hq_ rfl (by rw[zb2 h1 hp0 (by unfold za5;rw[if_neg hk5,if_neg hk6,if_neg hk7,if_neg hk8,if_neg hk9,if_neg hk10,if_neg hk11,if_neg hk12,if_pos hk13];(try simp at hc212);simp[*])];exact zbE _ _ rfl)
               .refine dz 1 rfl (kc_ zg4 rfl (zbH (qOf ((zdk s r))) ((zdk s r)) (zaj _) (Br.use (by omega))) (dz 3 rfl ?_));refine zqt rfl (fun hb206=>?_) (fun hb206=>?_)
                .refine dz 6 rfl (zae (za 4 rfl (nf_ [4,6,7,10] [so 4 _,so 16 _,so 17 (D.bool false)] [none,none,_,none,none,none,none,none,none,hb_ 38 (afL (zbQ (fSc (zbQ p (fN (zdk s r))) (zdd s r)) (fSc (fV (s.q.g.inp+r.idx.toNat)) (((zdd s r))-((zdk s r)))))),none] rfl rfl rfl (zc 13 rfl ?_))));exact r2_ hq_ rfl (by rw[zb2 h1 hp0 (by unfold za5;rw[if_neg hk5,if_neg hk6,if_neg hk7,if_neg hk8,if_neg hk9,if_neg hk10,if_neg hk11,if_neg hk12,if_pos hk13];(try simp at hc212);simp[*])];exact zbE _ _ rfl)
                .refine dz 1 rfl (kc_ zg4 rfl (zbH (qOf ((zdd s r))) ((zdd s r)) (zaj _) (Br.use (by omega))) (dz 4 rfl (zae (za 4 rfl ?_))));refine nf_ [4,6,7,10] [so 4 _,so 16 _,so 17 (D.bool (decide (0<(sg ((zdd s r))))))] [none,none,_,none,none,none,none,none,none,hb_ 38 (afL (zbQ (fSc (zbQ p (fN (zdk s r))) (zdd s r)) (fSc (fV (s.q.g.inp+r.idx.toNat)) (((zdd s r))-((zdk s r)))))),none] rfl rfl rfl (zc 5 rfl ?_);refine zao rfl (fun hc212=>?_) (fun hc212=>?_)
                 .refine zc 7 rfl ?_;exact r2_ hq_ rfl (by rw[zb2 h1 hp0 (by unfold za5;rw[if_neg hk5,if_neg hk6,if_neg hk7,if_neg hk8,if_neg hk9,if_neg hk10,if_neg hk11,if_neg hk12,if_pos hk13];(try simp at hc212);simp[*])];exact zbE _ _ rfl)
                 .refine zc 9 rfl ?_;exact r2_ hq_ rfl (by rw[zd0 h1 hp0 (show za5 s r p=(zbQ (fSc (zbQ p (fN (zdk s r))) (zdd s r)) (fSc (fV (s.q.g.inp+r.idx.toNat)) (zdd s r-zdk s r)),true) from by unfold za5;rw[if_neg hk5,if_neg hk6,if_neg hk7,if_neg hk8,if_neg hk9,if_neg hk10,if_neg hk11,if_neg hk12,if_pos hk13];(try simp at hc212);simp[*])] <;> rfl)
             .refine tq_ rfl (eqF rfl) (zl 9 rfl (nf_ [4,5,6,7] [so 4 _,so 16 _,so 17 _] [none,none,_,none,none,none,none,none,none,_] rfl rfl rfl (zc 13 rfl ?_)));exact r2_ hq_ rfl (by rw[zb2 h1 hp0 (by unfold za5;rw[if_neg hk5,if_neg hk6,if_neg hk7,if_neg hk8,if_neg hk9,if_neg hk10,if_neg hk11,if_neg hk12,if_neg hk13])];exact zbE _ _ rfl)
set_option maxHeartbeats 2000000 in
theorem zCg(s:Sc){B:Nat}(hB:∀m∈s.lems,Fq m.v B)(hB2:B<=1000000000)(hl:s.lems.length<=1000000){b:Nat}(hq:QOk s.q)(hd:∀d∈s.path,DOk b s.q d)(hb:b<=1000000)(hpl:s.path.length<=1000)(r:Rw):Ctr Tryz.prog 62 [scV s,rwV r] (R.tup [afV (zaz s r).1,V.one (Leaf.val (.bool (zaz s r).2))]):=by
 refine bd_ Tryz.func62 Tryz.ntmps62 rfl (fun w0 A0=>?_);have hg:=hq.g;have hr:=hq.r;have hlo:=hr.lo;have hhi:=hr.hi;have h1:=hg.i1;have h2:=hg.i3;have h3:=hg.u4;have h4:=hg.o1;have h5:=hg.o3;refine zc 13 rfl (tc_ zwL rfl (zdQ s.q hq) (zl 11 rfl ?_));by_cases h5:5<=r.kind
 .refine tq_ rfl (geT rfl) (zl 7 rfl (tc_ fn136 rfl (zAG s hB (by omega) (by omega) hq hd (by omega) (by omega) r) (zl 6 rfl ?_)));exact r2_ hq_ rfl (by unfold zaz;rw[if_pos h5] <;> rfl)
 .refine tq_ rfl (geF rfl) (zl 10 rfl ?_);by_cases ha:r.lo≠0
  .refine tq_ rfl (neT rfl) (zl 14 rfl ?_);have h0:r.lo≠0\/r.hi≠0\/r.idx<0:=.inl ha;refine zc 6 rfl ?_;exact r2_ hq_ rfl (by unfold zaz;rw[if_neg h5,if_pos h0];exact zbE _ _ rfl)
  .refine tq_ rfl (neF rfl) (zl 3 rfl ?_);by_cases hb_:r.hi≠0
   .refine tq_ rfl (neT rfl) (zl 10 rfl ?_);have h0:r.lo≠0\/r.hi≠0\/r.idx<0:=.inr (.inl hb_);refine zc 6 rfl ?_;exact r2_ hq_ rfl (by unfold zaz;rw[if_neg h5,if_pos h0];exact zbE _ _ rfl)
   .refine tq_ rfl (neF rfl) (zl 4 rfl ?_);by_cases hc_:r.idx<0
    .refine tq_ rfl (ltT rfl) (zl 5 rfl ?_);have h0:r.lo≠0\/r.hi≠0\/r.idx<0:=.inr (.inr hc_);refine zc 6 rfl ?_;exact r2_ hq_ rfl (by unfold zaz;rw[if_neg h5,if_pos h0];exact zbE _ _ rfl)
    .refine tq_ rfl (ltF rfl) (zl 7 rfl ?_);have h0:¬(r.lo≠0\/r.hi≠0\/r.idx<0):=by omega
     refine zc 18 rfl ?_;by_cases hk1:r.kind=1
     .refine tq_ rfl (eqT rfl) (zl 10 rfl (tq_ rfl (jln rfl) ?_));by_cases hin:r.idx.toNat<s.q.r.lo.length
      .refine tq_ rfl (ltT rfl) (zl 4 rfl ?_);obtain⟨c,hc⟩:∃c,s.q.r.lo[r.idx.toNat]?=some c:=⟨_,zEp (by omega)⟩;obtain⟨c2,hc2⟩:∃c,s.q.r.hi[r.idx.toNat]?=some c:=⟨_,zEp (by omega)⟩;have hcb:=hr.bd _ _ _ hc hc2;have hv:FL 2 (s.q.g.inp+s.q.g.us.length) (fV r.idx.toNat):=FL.v (by omega);have hn:FL 8 (s.q.g.inp+s.q.g.us.length) (fN c):=FL.n (hcb.1.br.mono (by omega));haveI:=hv.fm (by omega);haveI:=hv.cb;haveI:=hn.fm (by omega);haveI:=hn.cb;refine dr_ 0 [(11,2)] [2] (dz 2 rfl (zjf (D.val (.int .i64 ((r.idx.toNat:Nat):Int))) rfl (by rw[Int.toNat_of_nonneg (by omega)]) (kc_ zss rfl (zAY r.idx.toNat (by omega)) (dz 4 rfl (kq_ rfl (jix r.idx.toNat hc rfl (by omega)) (kq_ rfl (jlr rfl) (kc_ zwN rfl (zeV c) (kc_ zqu rfl (zhx (fV r.idx.toNat) (fN c) (by omega) (by omega) (by omega)) (dz 2 rfl ?_)))))))));refine zae (za 1 rfl ?_);exact r2_ hq_ rfl (by unfold zaz;rw[if_neg h5,if_neg h0,if_pos hk1,hc] <;> rfl)
      .refine tq_ rfl (ltF rfl) (zl 13 rfl ?_);exact r2_ hq_ rfl (by unfold zaz;rw[if_neg h5,if_neg h0,if_pos hk1,List.getElem?_eq_none (by omega)];exact zbE _ _ rfl)
     .refine tq_ rfl (eqF rfl) (zl 6 rfl ?_);by_cases hk2:r.kind=2
      .refine tq_ rfl (eqT rfl) (zl 10 rfl (tq_ rfl (jln rfl) ?_));by_cases hin:r.idx.toNat<s.q.r.hi.length
       .refine tq_ rfl (ltT rfl) (zl 4 rfl ?_);obtain⟨c,hc⟩:∃c,s.q.r.hi[r.idx.toNat]?=some c:=⟨_,zEp (by omega)⟩;obtain⟨c2,hc2⟩:∃c,s.q.r.lo[r.idx.toNat]?=some c:=⟨_,zEp (by omega)⟩;have hcb:=hr.bd _ _ _ hc2 hc;have hv:FL 2 (s.q.g.inp+s.q.g.us.length) (fV r.idx.toNat):=FL.v (by omega);have hn:FL 8 (s.q.g.inp+s.q.g.us.length) (fN c):=FL.n (hcb.2.1.br.mono (by omega));haveI:=hv.fm (by omega);haveI:=hv.cb;haveI:=hn.fm (by omega);haveI:=hn.cb;refine dr_ 0 [(11,2)] [2] (dz 4 rfl (kq_ rfl (jix r.idx.toNat hc rfl (by omega)) (kq_ rfl (jlr rfl) (kc_ zwN rfl (zeV c) (dz 2 rfl (zjf (D.val (.int .i64 ((r.idx.toNat:Nat):Int))) rfl (by rw[Int.toNat_of_nonneg (by omega)]) (kc_ zss rfl (zAY r.idx.toNat (by omega)) (kc_ zqu rfl (zhx (fN c) (fV r.idx.toNat) (by omega) (by omega) (by omega)) (dz 2 rfl ?_)))))))));refine zae (za 1 rfl ?_);exact r2_ hq_ rfl (by unfold zaz;rw[if_neg h5,if_neg h0,if_neg hk1,if_pos hk2,hc] <;> rfl)
       .refine tq_ rfl (ltF rfl) (zl 13 rfl ?_);exact r2_ hq_ rfl (by unfold zaz;rw[if_neg h5,if_neg h0,if_neg hk1,if_pos hk2,List.getElem?_eq_none (by omega)];exact zbE _ _ rfl)
      .refine tq_ rfl (eqF rfl) (zl 6 rfl ?_);by_cases hk3:r.kind=3
       .refine tq_ rfl (eqT rfl) (zl 10 rfl (tq_ rfl (jln rfl) ?_));by_cases hin:r.idx.toNat<s.q.r.rows.length
        .refine tq_ rfl (ltT rfl) (zl 4 rfl ?_);obtain⟨f,hf⟩:∃f,s.q.r.rows[r.idx.toNat]?=some f:=⟨_,zEp (by omega)⟩;refine zc 5 rfl (tq_ rfl (jix r.idx.toNat hf rfl (by omega)) (tq_ rfl (jlr rfl) (zl 4 rfl ?_)));exact r2_ hq_ rfl (by unfold zaz;rw[if_neg h5,if_neg h0,if_neg hk1,if_neg hk2,if_pos hk3,hf] <;> rfl)
        .refine tq_ rfl (ltF rfl) (zl 13 rfl ?_);exact r2_ hq_ rfl (by unfold zaz;rw[if_neg h5,if_neg h0,if_neg hk1,if_neg hk2,if_pos hk3,List.getElem?_eq_none (by omega)];exact zbE _ _ rfl)
       .refine tq_ rfl (eqF rfl) (zl 6 rfl ?_);by_cases hk4:r.kind=4
        .refine tq_ rfl (eqT rfl) (zl 6 rfl (dr_ 0 [] [] (dz 4 rfl (kq_ rfl (jln rfl) ?_))));by_cases hin:s.path.length<=r.idx.toNat
         .refine kq_ rfl (geT rfl) (dz 12 rfl (zae (za 9 rfl ?_)));exact r2_ hq_ rfl (by unfold zaz;rw[if_neg h5,if_neg h0,if_neg hk1,if_neg hk2,if_neg hk3,if_pos hk4,List.getElem?_eq_none (by omega)];exact zbE _ _ rfl)
         .refine kq_ rfl (geF rfl) (dz 1 rfl ?_);obtain⟨d,hdd⟩:∃d,s.path[r.idx.toNat]?=some d:=⟨_,zEp (by omega)⟩;have hdo:=hd d (zEq hdd);have hdk:d.kind=1\/d.kind=2\/d.kind=3\/d.kind=4:=by rcases hdo.1 with⟨h,_⟩|⟨h,_⟩ <;> omega
          have hdi:d.idx<(s.q.g.inp+s.q.g.us.length):=by rcases hdo.1 with⟨_,h,_⟩|⟨_,h⟩ <;> omega
          have hv:FL 2 (s.q.g.inp+s.q.g.us.length) (fV d.idx):=FL.v hdi;have hn:FL (b+1) (s.q.g.inp+s.q.g.us.length) (fN d.pt):=FL.n hdo.2.br;have hs:=hv.sub hn;haveI:=hv.fm (by omega);haveI:=hv.cb;haveI:=hn.fm (by omega);haveI:=hn.cb;haveI:=hs.fm (by omega);haveI:=hs.cb;refine dz 6 rfl (kq_ rfl (jix r.idx.toNat hdd rfl (by omega)) (kq_ rfl (jlr rfl) (kc_ zzk rfl (zst s.q d (by assumption) (by omega)) (dz 2 rfl (zae (za 10 rfl (tq_ rfl (jix r.idx.toNat hdd rfl (by omega)) (tq_ rfl (jlr rfl) (zl 5 rfl ?_)))))))));refine dr_ 1 [(7,5),(8,5)] [5] (dz 2 rfl (kc_ zss rfl (zAY d.idx (by omega)) (dz 2 rfl (kc_ zwN rfl (zeV d.pt) (kc_ zqu rfl (zhx (fV d.idx) (fN d.pt) (by omega) (by omega) (by omega)) (dz 2 rfl (zae (za 6 rfl ?_))))))));by_cases hk:d.kind=3
          .refine tq_ rfl (eqT rfl) (zl 10 rfl ?_);exact r2_ hq_ rfl (by unfold zaz;rw[if_neg h5,if_neg h0,if_neg hk1,if_neg hk2,if_neg hk3,if_pos hk4,hdd];show _=R.tup [afV (if 3<=d.kind then(zeZ d,true) else(fZ,false)).1,V.one (Leaf.val (.bool (if 3<=d.kind then(zeZ d,true) else(fZ,false)).2))];rw[if_pos (by omega)];show _=R.tup [afV (zeZ d),V.one (Leaf.val (.bool true))];unfold zeZ;rw[if_pos hk] <;> rfl)
          .refine tq_ rfl (eqF rfl) (zl 9 rfl ?_);by_cases hk_:d.kind=4
           .refine tq_ rfl (eqT rfl) (zl 4 rfl (dr_ 0 [(3,2)] [2] (dz 1 rfl (kc_ zmm rfl (zlL (-1) (by decide) (by decide)) (kc_ zpY rfl (zb9 (zbQ (fV d.idx) (fN d.pt)) (((-1):Int):Rat) (by omega) (by omega)) (dz 2 rfl (zae (za 1 rfl ?_))))))));exact r2_ hq_ rfl (by unfold zaz;rw[if_neg h5,if_neg h0,if_neg hk1,if_neg hk2,if_neg hk3,if_pos hk4,hdd];show _=R.tup [afV (if 3<=d.kind then(zeZ d,true) else(fZ,false)).1,V.one (Leaf.val (.bool (if 3<=d.kind then(zeZ d,true) else(fZ,false)).2))];rw[if_pos (by omega)];show _=R.tup [afV (zeZ d),V.one (Leaf.val (.bool true))];unfold zeZ;rw[if_neg hk] <;> rfl)
           .refine tq_ rfl (eqF rfl) (zl 13 rfl ?_);exact r2_ hq_ rfl (by unfold zaz;rw[if_neg h5,if_neg h0,if_neg hk1,if_neg hk2,if_neg hk3,if_pos hk4,hdd];show _=R.tup [afV (if 3<=d.kind then(zeZ d,true) else(fZ,false)).1,V.one (Leaf.val (.bool (if 3<=d.kind then(zeZ d,true) else(fZ,false)).2))];rw[if_neg (by omega)];exact zbE _ _ rfl)
        .refine tq_ rfl (eqF rfl) (zl 14 rfl ?_);exact r2_ hq_ rfl (by unfold zaz;rw[if_neg h5,if_neg h0,if_neg hk1,if_neg hk2,if_neg hk3,if_neg hk4];exact zbE _ _ rfl)
end Go.Proofs.YtjeiacoegppoiaaGreatDoor
namespace Rc
open Go Go.RowKit
theorem fZ_ls:[tmE.row fZ.ts,Leaf.val (.bool (zaQ fZ.c)),zaf (zaa (zaw fZ.c)),zaf (zaa (zaE fZ.c))]=[nilL,Leaf.val (.bool false),nilL,nilL]:=by
 show[tmE.row [],Leaf.val (.bool (zaQ 0)),zaf (zaa (zaw 0)),zaf (zaa (zaE 0))]=_;rw[zbp,zbq,zah];rfl
theorem zsz{x:Qr}(h:x=qOf x.q):D.agg [Leaf.val (.bool x.neg),zaf x.n,zaf x.d]=D.agg (qL x.q):=by
 rw[h,zaj];rfl
theorem zez{q:Rat}(h:0<=q):zaQ q=false:=by unfold zaQ;exact decide_eq_false (Int.not_lt.2 (Rat.num_nonneg.2 h))
theorem ze7(q:Rat):D.agg [Leaf.val (.bool false),zaf (zaa (zaw q)),zaf (zaa (zaE q))]=D.agg (qL (rq false (zaw q) (zaE q))):=by
 have h0:=zeo q;rw[zjX] at h0 ⊢;split
 .rename_i h;rw[if_pos h] at h0;unfold qL;rw[zkL,zkQ,zez h0]
 .rename_i h;rw[if_neg h] at h0;unfold qL;rw[zez h0]
theorem zgP(n:Nat):(n:Int).toNat=n:=rfl
section
variable {s:Sc}
theorem zky{v:Nat}{c:Rat}(h:s.q.r.lo[v]?=some c):zaz s ⟨1,(v:Int),0,0⟩=(zbQ (fV v) (fN c),true):=by
 unfold zaz;rw[if_neg (by show ¬(5:Int)<=1;decide),if_neg (by show ¬((0:Int)≠0\/(0:Int)≠0\/(v:Int)<0);omega),if_pos rfl];simp only[zgP,h]
theorem zkz{v:Nat}{c:Rat}(h:s.q.r.hi[v]?=some c):zaz s ⟨2,(v:Int),0,0⟩=(zbQ (fN c) (fV v),true):=by
 unfold zaz;rw[if_neg (by show ¬(5:Int)<=2;decide),if_neg (by show ¬((0:Int)≠0\/(0:Int)≠0\/(v:Int)<0);omega),if_neg (by show ¬(2:Int)=1;decide),if_pos rfl];simp only[zgP,h]
theorem zcx{k lo hi:Int}{j:Nat}{p f:Af}(hk:5<=k)(hp:s.q.g.us[j]?=some p)(h:za5 s ⟨k,(j:Int),lo,hi⟩ p=(f,true)):zaz s ⟨k,(j:Int),lo,hi⟩=(f,true):=by
 unfold zaz;rw[if_pos hk];exact zd0 (by show ¬(j:Int)<0;omega) hp h
theorem ze2{j:Nat}{p:Af}(hp:s.q.g.us[j]?=some p):zaz s ⟨5,(j:Int),0,0⟩=(fV (s.q.g.inp+j),true):=
 zcx (by decide) hp (by unfold za5;rw[if_pos rfl];rfl)
theorem zjP{j:Nat}{p:Af}(hp:s.q.g.us[j]?=some p):zaz s ⟨6,(j:Int),0,0⟩=(zbQ (fV (s.q.g.inp+j)) p,true):=
 zcx (by decide) hp (by unfold za5;rw[if_neg (by simp),if_pos rfl];rfl)
theorem zjL{j n:Nat}{up:Bool}{m:Lm}(hn:0<n)(hm:s.lems[n-1]?=some m)(hu:m.unit=(j:Int))(hup:m.up=up):lem s.lems (n:Int) (j:Int) up=(m.v.q,true):=
 zr4 (by omega) (by rw[show((n:Int)-1).toNat=n-1 by omega];exact hm) ⟨hu,hup⟩
theorem ziO{j n:Nat}{p:Af}{m:Lm}(hp:s.q.g.us[j]?=some p)(hn:0<n)(hm:s.lems[n-1]?=some m)(hu:m.unit=(j:Int))(hup:m.up=false)(hv:0<=m.v.q) :
  zaz s ⟨8,(j:Int),(n:Int),0⟩=(zbQ p (fV (s.q.g.inp+j)),true):=
 zcx (by decide) hp (by
  unfold za5;rw[if_neg (by simp),if_neg (by simp),if_neg (by simp),if_pos rfl];unfold onB zpR zdk;simp only[zjL hn hm hu hup,zii.2 hv];simp)
theorem zgu{j n:Nat}{p:Af}{m:Lm}(hp:s.q.g.us[j]?=some p)(hn:0<n)(hm:s.lems[n-1]?=some m)(hu:m.unit=(j:Int))(hup:m.up=true)(hv:m.v.q<=0) :
  zaz s ⟨10,(j:Int),0,(n:Int)⟩=(fSc (fV (s.q.g.inp+j)) ((-1:Int):Rat),true):=
 zcx (by decide) hp (by
  unfold za5;rw[if_neg (by simp),if_neg (by simp),if_neg (by simp),if_neg (by simp),if_neg (by simp),if_pos rfl];unfold zhy zpw zdd;simp only[zjL hn hm hu hup,zih.2 hv];simp)
theorem zfT{j n:Nat}{p:Af}{m:Lm}(hp:s.q.g.us[j]?=some p)(hn:0<n)(hm:s.lems[n-1]?=some m)(hu:m.unit=(j:Int))(hup:m.up=true) :
  zaz s ⟨12,(j:Int),0,(n:Int)⟩=(zbQ (fN m.v.q) p,true):=
 zcx (by decide) hp (by
  unfold za5;rw[if_neg (by simp),if_neg (by simp),if_neg (by simp),if_neg (by simp),if_neg (by simp),if_neg (by simp),if_neg (by simp),if_pos rfl];unfold zpw zdd;simp only[zjL hn hm hu hup];simp)
theorem zgt{j n n':Nat}{p:Af}{m m':Lm}(hp:s.q.g.us[j]?=some p)(hn:0<n)(hm:s.lems[n-1]?=some m)(hu:m.unit=(j:Int))(hup:m.up=false)
  (hn':0<n') (hm':s.lems[n'-1]?=some m') (hu':m'.unit=(j:Int)) (hup':m'.up=true) (hv:m.v.q<0) (hv':0<m'.v.q) :
  zaz s ⟨13,(j:Int),(n:Int),(n':Int)⟩=(zbQ (fSc (zbQ p (fN m.v.q)) m'.v.q) (fSc (fV (s.q.g.inp+j)) (m'.v.q-m.v.q)),true):=
 zcx (by decide) hp (by
  unfold za5;rw[if_neg (by simp),if_neg (by simp),if_neg (by simp),if_neg (by simp),if_neg (by simp),if_neg (by simp),if_neg (by simp),if_neg (by simp),if_pos rfl];unfold zpR zdk zpw zdd;simp only[zjL hn hm hu hup,zjL hn' hm' hu' hup',zkb.2 hv,zd3.2 hv'];simp)
structure StepOk(s:Sc)(B:Nat)(l:List Mu):Prop where
 ok:∀m∈l,(zaz s m.r).2=true
 pos:∀m∈l,0<m.c.q
 bd:MB B l
 len:l.length<=2
theorem zdR{r:Rw}{B:Nat}(h:(zaz s r).2=true):StepOk s (2*B+12) [⟨r,qOf ((1:Int):Rat)⟩]:=
 ⟨fun m hm=>by simp at hm;subst hm;exact h,fun m hm=>by simp at hm;subst hm;rw[zaj];decide,fun m hm=>by rw[List.mem_singleton] at hm;subst hm;exact Fq.of.mono (by omega),by simp⟩
theorem zjW{v B:Nat}(hq:QOk s.q)(hv:v<s.q.g.inp+s.q.g.us.length):StepOk s (2*B+12) (zcB s.q.g.inp v):=by
 unfold zcB;split
 .rename_i h;have:=hq.r.lo;obtain⟨c,hc⟩:∃c,s.q.r.lo[v]?=some c:=⟨_,zEp (by omega)⟩;exact zdR (by rw[zky hc])
 .obtain⟨p,hp⟩:∃p,s.q.g.us[v-s.q.g.inp]?=some p:=⟨_,zEp (by omega)⟩;exact zdR (by rw[ze2 hp])
theorem zmJ{v B:Nat}{l:List Mu}(hq:QOk s.q)(hB:∀m∈s.lems,Fq m.v B)(hv:v<s.q.g.inp+s.q.g.us.length)(h:zbY s.q.g.inp s.lems v=some l):StepOk s (4*B+12) l:=by
 have one:∀{r:Rw},(zaz s r).2=true->StepOk s (4*B+12) [⟨r,qOf ((1:Int):Rat)⟩]:=fun h=>
  ⟨(zdR (B:=B) h).ok,(zdR (B:=B) h).pos,(zdR (B:=B) h).bd.mono (by omega),by simp⟩
 unfold zbY at h;split at h
 .rename_i hi;cases h;have:=hq.r.hi;obtain⟨c,hc⟩:∃c,s.q.r.hi[v]?=some c:=⟨_,zEp (by omega)⟩;exact one (by rw[zkz hc])
 .obtain⟨p,hp⟩:∃p,s.q.g.us[v-s.q.g.inp]?=some p:=⟨_,zEp (by omega)⟩;split at h
  .cases h
  .rename_i hb;obtain⟨y,hy,yu,yp,hly,hy0,hyl⟩:=zbj (fun e=>hb (.inl e));obtain⟨z,hz,zu,zp,hlz,hz0,hzl⟩:=zbu (fun e=>hb (.inr e));haveI:=hB y (zEq hy);haveI:=hB z (zEq hz);rw[hlz,hly] at h;split at h
   .rename_i hu;cases h;exact one (by rw[zgu hp hz0 hz zu zp hu])
   .rename_i hu;split at h
    .rename_i hl;cases h;refine⟨fun m hm=>?_,fun m hm=>?_,fun m hm=>?_,by simp⟩
     .simp at hm;rcases hm with rfl|rfl
      .rw[ziO hp hy0 hy yu yp hl]
      .rw[zfT hp hz0 hz zu zp]
     .simp at hm;rcases hm with rfl|rfl <;> rw[zaj] <;> decide
     .simp only[zET,List.not_mem_nil,or_false] at hm;rcases hm with rfl|rfl <;> exact Fq.of.mono (by omega)
    .rename_i hl;cases h;have h1:0<z.v.q:=by grind
     have h2:0<z.v.q-y.v.q:=by grind
     have h3:0<((1:Int):Rat)/(z.v.q-y.v.q):=by
      rw[Rat.div_def];exact Rat.mul_pos (by decide) (Rat.inv_pos.2 h2)
     refine⟨fun m hm=>?_,fun m hm=>?_,fun m hm=>?_,by simp⟩
     .simp at hm;rcases hm with rfl|rfl
      .rw[zfT hp hz0 hz zu zp]
      .rw[zgt hp hy0 hy yu yp hz0 hz zu zp (by grind) h1]
     .simp only[zET,List.not_mem_nil,or_false] at hm;rcases hm with rfl|rfl
      .show 0<(qOf _).q;rw[zaj];exact Rat.mul_pos h3 h1
      .show 0<(qOf _).q;rw[zaj];exact h3
     .simp only[zET,List.not_mem_nil,or_false] at hm;rcases hm with rfl|rfl <;> exact Fq.of.mono (by omega)
theorem zl1{l:List Mu}{r:Rw}{c:Rat}{x:Mu}(h:x∈zbZ l r c):x.r=r\/x∈l:=by
 unfold zbZ at h;split at h
 .exact .inr h
 .exact zkt h
theorem zgl{c:Rat}{P:Rw->Prop}:∀{b a:List Mu},(∀m∈a,P m.r)->(∀m∈b,P m.r)->∀m∈zaU a b c,P m.r
 |[],a,h,_=>h
 |x::b,a,h,hb=>zgl (b:=b) (a:=zbZ a x.r (x.c.q*c)) (fun m hm=>by
   rcases zl1 hm with e|hm
   .rw[e];exact hb x (by simp)
   .exact h m hm) (fun m hm=>hb m (by simp[hm]))
structure DerOk(s:Sc)(B n:Nat)(l:List Mu):Prop where
 ok:∀m∈l,(zaz s m.r).2=true
 can:CanM l
 bd:MB B l
 len:l.length<=n
theorem zzX{B C n:Nat}{a:List Mu×Bool}{t:Tm}(hq:QOk s.q)(hB:∀m∈s.lems,Fq m.v B)(hv:t.1<s.q.g.inp+s.q.g.us.length)(ht:Br t.2 10)(h:DerOk s C n a.1) :
  DerOk s (C+8*B+50) (n+2) (zfG s.q.g.inp s.lems a t).1:=by
 have mg:∀{l:List Mu},StepOk s (4*B+12) l->DerOk s (C+8*B+50) (n+2) (zaU a.1 l (rq false (zaw t.2) (zaE t.2))):=fun {l} hs=>
  ⟨zgl (P:=fun r=>(zaz s r).2=true) h.ok hs.ok,zfk (zeo _) h.can hs.pos,(zei h.bd hs.bd).mono (by
   have:=zEA (4*B+12+(10+1)+2) hs.len;omega),by have:=zdo l a.1 (rq false (zaw t.2) (zaE t.2));have:=h.len;have:=hs.len;omega⟩
 unfold zfG;split
 .split
  .have h2:=zjW (B:=2*B) hq hv;exact mg ⟨h2.ok,h2.pos,h2.bd.mono (by omega),h2.len⟩
  .split
   .rename_i l hl;exact mg (zmJ hq hB hv hl)
   .exact⟨fun m hm=>by simp at hm,trivial,fun m hm=>by simp at hm,by simp⟩
 .exact⟨h.ok,h.can,h.bd.mono (by omega),zEz h.len (by omega)⟩
theorem ztr{B:Nat}(hq:QOk s.q)(hB:∀m∈s.lems,Fq m.v B):∀(ts:List Tm) (a:List Mu×Bool) (C n:Nat),(∀t∈ts,t.1<s.q.g.inp+s.q.g.us.length/\Br t.2 10)->DerOk s C n a.1 →
  DerOk s (C+ts.length*(8*B+50)) (n+2*ts.length) (ts.foldl (zfG s.q.g.inp s.lems) a).1
 |[],a,C,n,_,h=>⟨h.ok,h.can,h.bd.mono (by omega),zEz h.len (by omega)⟩
 |t::ts,a,C,n,ht,h=>by
  have h1:=zzX (t:=t) hq hB (ht t (by simp)).1 (ht t (by simp)).2 h;have h2:=ztr hq hB ts _ _ _ (fun x hx=>ht x (by simp[hx])) h1;refine⟨h2.ok,h2.can,h2.bd.mono ?_,zEz h2.len ?_⟩
  .simp only[List.length_cons,Nat.add_mul];omega
  .simp only[List.length_cons];omega
theorem zzu:DerOk s 0 0 []:=⟨fun m hm=>by simp at hm,trivial,fun m hm=>by simp at hm,by simp⟩
theorem ztt{B b:Nat}{f:Af}(hq:QOk s.q)(hB:∀m∈s.lems,Fq m.v B)(hf:FOk b (s.q.g.inp+s.q.g.us.length) f)(hb:b<=9)(i:Nat):DerOk s (7*(8*B+50)) 14 (znG s.q.g.inp s.lems (f.ts.take i)).1:=by
 have h:=ztr hq hB (f.ts.take i) ([],true) 0 0 (fun t ht=>⟨hf.var t (List.mem_of_mem_take ht),(hf.bd t (List.mem_of_mem_take ht)).br.mono (by omega)⟩) zzu;have hl:(f.ts.take i).length<=7:=by rw[zEG];have:=hf.len;have:=hq.g.i3;have:=hq.g.u4;omega
 refine⟨h.ok,h.can,h.bd.mono ?_,zEz h.len (by omega)⟩;have:=zEA (8*B+50) hl;omega
end
def abL(s:Sc)(f:Af):List Mu:=(znG s.q.g.inp s.lems f.ts).1
def abB(s:Sc)(f:Af):Bool:=(znG s.q.g.inp s.lems f.ts).2
def abQ(s:Sc)(f:Af):Rat:=if abB s f=true then(zbQ f (zeR s (abL s f))).c else 0
theorem zw9{inp:Nat}{lems:List Lm}:∀(ts:List Tm) (a:List Mu×Bool),(a.2=false->a.1=[])->(ts.foldl (zfG inp lems) a).2=false->(ts.foldl (zfG inp lems) a).1=[]
 |[],a,h,h2=>h h2
 |t::ts,a,h,h2=>zw9 ts _ (fun h3=>by
   unfold zfG at h3 ⊢;split at h3
   .rename_i ha;rw[if_pos ha];split at h3
    .simp at h3
    .rename_i hs;rw[if_neg hs];split at h3
     .simp at h3
     .rename_i he;simp only[he]
   .rename_i ha;rw[if_neg ha];exact h h3) h2
theorem abL_f{s:Sc}{f:Af}(h:abB s f=false):abL s f=[]:=zw9 _ _ (fun h=>by simp at h) h
theorem zz0{s:Sc}{f:Af}{i:Nat}(h:(znG s.q.g.inp s.lems (f.ts.take i)).2=false):abB s f=false:=zvE h
section
variable {inp:Nat}{lems:List Lm}{out:List Mu}{t:Tm}
theorem zvD(h:0<t.2):zfG inp lems (out,true) t=(zaU out (zcB inp t.1) (rq false (zaw t.2) (zaE t.2)),true):=by
 unfold zfG;rw[if_pos rfl,if_pos h]
theorem zto(h:¬0<t.2)(hl:(zbY inp lems t.1).isSome=true):zfG inp lems (out,true) t=(zaU out ((zbY inp lems t.1).getD []) (rq false (zaw t.2) (zaE t.2)),true):=by
 obtain⟨l,hl⟩:=Option.isSome_iff_exists.1 hl;unfold zfG;rw[if_pos rfl,if_neg h,hl];rfl
theorem ztp(h:¬0<t.2)(hl:(zbY inp lems t.1).isSome=false):(zfG inp lems (out,true) t).2=false:=by
 have hl:zbY inp lems t.1=none:=by simpa using hl
 unfold zfG;rw[if_pos rfl,if_neg h,hl]
end
theorem zyi{s:Sc}{B v:Nat}(hq:QOk s.q)(hB:∀m∈s.lems,Fq m.v B)(hv:v<s.q.g.inp+s.q.g.us.length):MB (4*B+12) ((zbY s.q.g.inp s.lems v).getD [])/\((zbY s.q.g.inp s.lems v).getD []).length<=2:=by
 cases h:zbY s.q.g.inp s.lems v with
 |none=>exact⟨fun m hm=>by simp at hm,by simp⟩
 |some l=>have:=zmJ hq hB hv h;exact⟨this.bd,this.len⟩
end Rc
namespace Go.Proofs.YtjeiacoegppoiaaGreatDoor
open Go Go.RowKit Rc
theorem zzD(l:List Mu){B:Nat}(hc:CanM l)(hB:MB B l)(hB2:B<=100000000000)(hl:l.length<=100000):Ctr Tryz.prog 61 [V.one (El.row muE l)] (R.one (V.one (Leaf.val (.bool true)))):=by
 refine bd_ Tryz.func61 Tryz.ntmps61 rfl (fun w0 A0=>?_);refine zc 12 rfl (zbv (fun m Γ H=>∃(i:Nat),l.length-i=m/\Γ=[(0,some (D.v (V.one (El.row muE l)))),(3,some (D.val (.int .i64 (i:Int))))]/\H=[]/\i<=l.length) ⟨0,rfl,rfl,rfl,zEv _⟩ rfl ?_);rintro m Γ H ⟨i,rfl,rfl,rfl,hi0⟩;refine zc 5 rfl (tq_ rfl (jln rfl) ?_);by_cases hi:i<l.length
 .refine tq_ rfl (ltT rfl) (zl 8 rfl ?_);obtain⟨x,hx⟩:∃x,l[i]?=some x:=⟨_,zEp hi⟩;haveI hxB:=hB x (zEq hx);obtain⟨hpos,hcx⟩:=hc.pos x (zEq hx);refine dr_ 0 [] [] (dz 2 rfl (kq_ rfl (jix i hx rfl) (kq_ rfl (jfr rfl) (kq_ rfl (jlr rfl) (kc_ zsk rfl (zdt x.c (x.c.q) rfl (Fq.use (x:=x.c) (by omega))) (zg2 true rfl (zno.2 hcx) (dz 4 rfl (kq_ rfl (jix i hx rfl) (kq_ rfl (jfr rfl) ?_)))))))));refine kq_ rfl (jlr rfl) (kc_ zg4 rfl (zbH x.c (x.c.q) rfl (Fq.use (x:=x.c) (by omega))) (kq_ rfl (leF rfl (by have:=zd3.2 hpos;omega)) (dz 3 rfl ?_)));by_cases hi1:0<i
  .refine kq_ rfl (gtT rfl) (dz 1 rfl ?_);obtain⟨y,hy⟩:∃y,l[i-1]?=some y:=⟨_,zEp (by omega)⟩;refine dz 2 rfl (kq_ rfl (jsb (i-1) rfl) (kq_ rfl (jix (i-1) hy rfl) (kq_ rfl (jft rfl) (kq_ rfl (jlr rfl) (dz 2 rfl (kq_ rfl (jix i hx rfl) (kq_ rfl (jft rfl) (kq_ rfl (jlr rfl) (kc_ zDb rfl (zwC y.r x.r) ?_)))))))));refine zg2 true rfl (hc.prev hi1 hx hy) (dz 3 rfl (zae (za 7 rfl (tq_ rfl (jad (i+1) rfl) (zl 2 rfl ?_)))));exact nx_ ⟨i+1,rfl,rfl,rfl,hi⟩ rfl
  .refine kq_ rfl (gtF rfl) (dz 16 rfl (zae (za 7 rfl (tq_ rfl (jad (i+1) rfl) (zl 2 rfl ?_)))));exact nx_ ⟨i+1,rfl,rfl,rfl,hi⟩ rfl
 .refine tq_ rfl (ltF rfl) (zl 13 rfl ?_);exact r1_ hq_ rfl rfl
set_option maxHeartbeats 2000000 in
theorem zAS(s:Sc){B:Nat}(hB:∀m∈s.lems,Fq m.v B)(hB2:B<=10000000)(hl:s.lems.length<=1000000){b:Nat}(hq:QOk s.q)(hd:∀d∈s.path,DOk b s.q d)(hb:b<=1000000)(hpl:s.path.length<=1000)(l:List Mu){C:Nat}(hc:CanM l)(hm:MB C l)(hC:C<=600000000)(hok:∀m∈l,(zaz s m.r).2=true)(hll:l.length<=50):Ctr Tryz.prog 22 [scV s,V.one (El.row muE l)] (R.tup [afV (zeR s l),V.one (Leaf.val (.int .i64 0))]):=by
 refine bd_ Tryz.func22 Tryz.ntmps22 rfl (fun w0 A0=>?_);have hg:=hq.g;have hr:=hq.r;have hlo:=hr.lo;have hhi:=hr.hi;have h1:=hg.i1;have h2:=hg.i3;have h3:=hg.u4;have h4:=hg.o1;have h5:=hg.o3;refine zc 11 rfl (tc_ fn61 rfl (zzD l (by assumption) (by assumption) (by omega) (by omega)) (zl 18 rfl ?_));refine zbv (fun m Γ H=>∃(i:Nat) (out:Af),l.length-i=m/\Γ=[(1,some (D.v (V.one (El.row muE l)))),(2,some (D.ptr 0 0)),(4,some (D.ptr 1 0)),(6,some (D.ptr 2 0)),(7,some (D.val (.int .i64 (i:Int))))]/\H=[hb_ 43 (scL s),hb_ 38 [El.row tmE ([]),Leaf.val (.bool false),zaf ([]),zaf ([])],hb_ 38 (afL out)]/\i<=l.length/\out=zeR s (l.take i)) ⟨0,fZ,rfl,rfl,(by unfold afL;rw[fZ_ls];rfl),zEv _,rfl⟩ rfl ?_;rintro m Γ H ⟨i,out,rfl,rfl,rfl,hi0,hout⟩;refine zc 5 rfl (tq_ rfl (jln rfl) ?_);by_cases hi:i<l.length
 .refine tq_ rfl (ltT rfl) (zl 8 rfl ?_);obtain⟨x,hx⟩:∃x,l[i]?=some x:=⟨_,zEp hi⟩;have hxm:=zEq hx;haveI hxB:=hm x hxm;have hf:=zhW (r:=x.r) hq hd hB;have hsc:=FL.sc (c:=x.c.q) hf;have ho:FL (50*(4*B+b+C+42)) (s.q.g.inp+s.q.g.us.length) out:=by
   rw[hout];refine(zm1 hq hd hB hm.take).mono ?_ (zEt _);exact zEA _ (by rw[zEG];omega)
  haveI:=hf.fm (by omega);haveI:=hf.cb;haveI:=hsc.fm (by omega);haveI:=hsc.cb;haveI:=ho.fm (by omega);haveI:=ho.cb;refine dr_ 1 [(10,3),(11,3)] [3] (dz 3 rfl (kq_ rfl (jix i hx rfl) (kq_ rfl (jft rfl) (kq_ rfl (jlr rfl) (kc_ fn62 rfl (zCg s hB (by omega) (by omega) hq hd (by omega) (by omega) x.r) (dz 3 rfl (zg2 true rfl (hok x hxm) (dz 3 rfl (zae ?_)))))))));refine za 11 rfl (dr_ 0 [(9,2)] [2] (kp_ [] rfl (zaI rfl rfl rfl (by decide) zjz (by decide) (zEw rfl) rfl) (dz 3 rfl (kq_ rfl (jix i hx rfl) (kq_ rfl (jfr rfl) (kq_ rfl (jlr rfl) (zjf (D.agg (qL x.c.q)) rfl (zsz (hc.pos x hxm).2) (kc_ zpY rfl (zb9 (zaz s x.r).1 x.c.q (by omega) (by omega)) ?_))))))));refine kc_ zCH rfl (zit out (fSc (zaz s x.r).1 x.c.q) (by omega) (by omega) (by omega)) (dz 1 rfl (zae (za 4 rfl (tq_ rfl (jad (i+1) rfl) (zl 2 rfl (zal 3 (zaM 3 rfl ?_)))))));exact nx_ ⟨i+1,_,rfl,rfl,rfl,hi,by rw[hout];exact(zqO hx).symm⟩ rfl
 .refine tq_ rfl (ltF rfl) (zl 9 rfl ?_);have hie:i=l.length:=by omega
  rw[hie,zEM] at hout;refine zc 6 rfl ?_;exact r2_ hq_ rfl (by rw[<-hout] <;> rfl)
theorem zrV(a b:List Mu)(c:Rat){B C K:Nat}(hA:MB B a)(hB:MB C b)[Br c K](h1:B<=10000000000)(h2:C<=1000000000)(h3:K<=1000000000)(hl:a.length<=10000)(hlb:b.length<=2):Ctr Tryz.prog 59 [V.one (El.row muE a),V.one (El.row muE b),V.agg (qL (c))] (R.one (V.one (El.row muE (zaU a b c)))):=
 zrW a b c hA hB (by have:=zEA (C+K+2) hlb;omega) hl (by omega)
set_option maxHeartbeats 2000000 in
theorem ztu(s:Sc){B:Nat}(hB:∀m∈s.lems,Fq m.v B)(hB2:B<=10000000)(hl:s.lems.length<=1000000){b:Nat}(hq:QOk s.q)(hd:∀d∈s.path,DOk b s.q d)(hb:b<=1000000)(hpl:s.path.length<=1000)(f:Af){bf:Nat}(hf:FOk bf (s.q.g.inp+s.q.g.us.length) f)(hb5:bf<=9):Ctr Tryz.prog 150 [scV s,afV f] (R.tup [qV (qOf (abQ s f)),V.one (El.row muE (abL s f)),V.one (Leaf.val (.bool (abB s f)))]):=by
 refine bd_ Tryz.func150 Tryz.ntmps150 rfl (fun w0 A0=>?_);have hg:=hq.g;have hr:=hq.r;have hlo:=hr.lo;have hhi:=hr.hi;have h1:=hg.i1;have h2:=hg.i3;have h3:=hg.u4;have h4:=hg.o1;have h5:=hg.o3;have hfl:=hf.len;refine zc 21 rfl ?_;refine zbv (fun m Γ H=>∃(i:Nat) (out:List Mu),f.ts.length-i=m/\Γ=[(2,some (D.ptr 0 0)),(3,some (D.ptr 1 0)),(4,some (D.ptr 2 0)),(7,some (D.v (V.one (El.row muE out)))),(8,some (D.val (.int .i64 (i:Int))))]/\H=[hb_ 43 (scL s),hb_ 38 (afL f),hb_ 36 [Leaf.val (.bool false),zaf ([]),zaf ([])]]/\i<=f.ts.length/\znG s.q.g.inp s.lems (f.ts.take i)=(out,true)) ⟨0,[],rfl,rfl,rfl,zEv _,rfl⟩ rfl ?_;rintro m Γ H ⟨i,out,rfl,rfl,rfl,hi0,habs⟩;refine zc 6 rfl (tq_ rfl (jln rfl) ?_);by_cases hi:i<f.ts.length
 .refine tq_ rfl (ltT rfl) (zl 8 rfl ?_);obtain⟨x,hx⟩:∃x,f.ts[i]?=some x:=⟨_,zEp hi⟩;have hxm:=zEq hx;haveI hxb:=(hf.bd x hxm).br;have hxv:=hf.var x hxm;have hder:=ztt hq hB hf hb5 i;rw[habs] at hder;have hMB:MB (7*(8*B+50)) out:=hder.bd;have hol:out.length<=14:=hder.len;have hsl:=zjW (B:=B) hq hxv;have hM1:MB (2*B+12) (zcB s.q.g.inp x.1):=hsl.bd;have hM1l:(zcB s.q.g.inp x.1).length<=2:=hsl.len;obtain⟨hM2,hM2l⟩:=zyi (v:=x.1) hq hB hxv;refine zc 4 rfl (tq_ rfl (jix i hx rfl) (tq_ rfl (jlr rfl) (zl 9 rfl (tc_ fn207 rfl (zvw s (by assumption) (by omega) (by omega) (by omega) x.1 (by omega)) (zl 12 rfl (tc_ zg4 rfl (zbH (qOf (x.2)) (x.2) (zaj _) (Br.use (by omega))) ?_))))));by_cases hpos:0<x.2
  .refine tq_ rfl (gtT rfl (zd3.2 hpos)) (zl 7 rfl (tc_ fn208 rfl (ztl s (by omega) x.1 (by omega)) (zl 24 rfl (zl 8 rfl (eq_ (D.agg (qL (rq false (zaw x.2) (zaE x.2)))) rfl (ze7 x.2) (tc_ fn59 rfl (zrV out (zcB s.q.g.inp x.1) (rq false (zaw x.2) (zaE x.2)) (by assumption) (by assumption) (by omega) (by omega) (by omega) (by omega) (by omega)) (zl 6 rfl ?_)))))));refine tq_ rfl (jad (i+1) rfl) (zl 2 rfl (zal 3 (zal 4 (zaM 3 rfl ?_))));exact nx_ ⟨i+1,_,rfl,rfl,rfl,hi,by rw[zi6 hx,habs];exact zvD hpos⟩ rfl
  .refine tq_ rfl (gtF rfl (fun e=>hpos (zd3.1 e))) (zl 7 rfl ?_);by_cases hm:(zbY s.q.g.inp s.lems x.1).isSome=true
   .refine zc 2 rfl (is_ true rfl (hm) (zl 24 rfl (eq_ (D.agg (qL (rq false (zaw x.2) (zaE x.2)))) rfl (ze7 x.2) (tc_ fn59 rfl (zrV out ((zbY s.q.g.inp s.lems x.1).getD []) (rq false (zaw x.2) (zaE x.2)) (by assumption) (by assumption) (by omega) (by omega) (by omega) (by omega) (by omega)) (zl 6 rfl (tq_ rfl (jad (i+1) rfl) (zl 2 rfl (zal 3 (zal 4 ?_)))))))));refine zaM 3 rfl ?_;exact nx_ ⟨i+1,_,rfl,rfl,rfl,hi,by rw[zi6 hx,habs];exact zto hpos hm⟩ rfl
   .refine zc 2 rfl (is_ false rfl (by simpa using hm) (zl 5 rfl ?_));have hbad:abB s f=false:=zz0 (i:=i+1) (by rw[zi6 hx,habs];exact ztp hpos (by simpa using hm));refine zc 7 rfl ?_;exact r3_ hq_ rfl (by unfold abQ;rw[abL_f hbad,hbad,if_neg (by decide)];show _=R.tup [qV (qOf 0),_,_];rw[<-zc8] <;> rfl)
 .refine tq_ rfl (ltF rfl) (zl 9 rfl ?_);have hie:i=f.ts.length:=by omega
  rw[hie,zEM] at habs;have hder:=ztt hq hB hf hb5 f.ts.length;rw[zEM,habs] at hder;have hMB:MB (7*(8*B+50)) out:=hder.bd;have hol:out.length<=14:=hder.len;have hcan:CanM out:=hder.can;have hok:∀m∈out,(zaz s m.r).2=true:=hder.ok;have hB3:abB s f=true:=by unfold abB;rw[habs]
  have hL:abL s f=out:=by unfold abL;rw[habs]
  have hfm:=hf.fl;have hsm:FL (14*(4*B+b+7*(8*B+50)+42)) (s.q.g.inp+s.q.g.us.length) (zeR s out):=(zm1 hq hd hB hMB).mono (zEA _ hol) (zEt _);haveI:=hfm.fm (by omega);haveI:=hfm.cb;haveI:=hsm.fm (by omega);haveI:=hsm.cb;refine zc 3 rfl (tc_ fn22 rfl (zAS s hB (by omega) (by omega) hq hd (by omega) (by omega) out (by assumption) (by assumption) (by omega) (by assumption) (by omega)) (zl 12 rfl (tc_ zqu rfl (zhx f (zeR s out) (by omega) (by omega) (by omega)) (zl 7 rfl ?_))));exact r3_ hq_ rfl (by rw[hL,hB3];unfold abQ;rw[hB3,if_pos rfl,hL] <;> rfl)
end Go.Proofs.YtjeiacoegppoiaaGreatDoor
namespace Rc
open Go Go.RowKit
def W(φ:Rw->Rat):List Mu->Rat
 |[]=>0
 |m::l=>m.c.q*φ m.r+W φ l
theorem zD1(φ:Rw->Rat)(r:Rw)(c:Rat):∀l:List Mu,W φ (zjg l r c)=W φ l+c*φ r
 |[]=>by simp only[zjg,W,zaj];grind
 |m::l=>by
  unfold zjg;split
  .simp only[W,zD1 φ r c l];grind
  .split
   .rename_i h;simp only[W,zaj,h];grind
   .simp only[W,zaj];grind
theorem zpg(φ:Rw->Rat)(r:Rw)(c:Rat)(l:List Mu):W φ (zbZ l r c)=W φ l+c*φ r:=by
 unfold zbZ;split
 .rename_i h;subst h;grind
 .exact zD1 φ r c l
theorem zeB(φ:Rw->Rat)(c:Rat):∀(b a:List Mu),W φ (zaU a b c)=W φ a+c*W φ b
 |[],a=>by simp only[zaU,List.foldl_nil,W];grind
 |m::b,a=>by
  have e:zaU a (m::b) c=zaU (zbZ a m.r (m.c.q*c)) b c:=rfl;rw[e,zeB φ c b,zpg];simp only[W];grind
theorem zz2(φ:Rw->Rat)(m:Mu):∀l:List Mu,W φ (l++[m])=W φ l+m.c.q*φ m.r
 |[]=>by simp only[List.nil_append,W];grind
 |x::l=>by simp only[List.cons_append,W,zz2 φ m l];grind
def zhg(s:Sc)(r:Rw):Rat:=(zaz s r).1.c
theorem zjA(s:Sc):∀(l:List Mu) (a:Af),(l.foldl (fun a m=>zfz a (fSc (zaz s m.r).1 m.c.q)) a).c=a.c+W (zhg s) l
 |[],a=>by simp only[List.foldl_nil,W];grind
 |m::l,a=>by
  rw[List.foldl_cons,zjA s l];simp only[W,zfz,fSc,zhg];grind
theorem zwd(s:Sc)(l:List Mu):(zeR s l).c=W (zhg s) l:=by
 unfold zeR;rw[zjA];simp only[fZ];grind
def lb(s:Sc)(v:Nat):Rat:=if v<s.q.g.inp then(s.q.r.lo[v]?).getD 0 else 0
def ub(s:Sc)(v:Nat):Rat:=if v<s.q.g.inp then(s.q.r.hi[v]?).getD 0 else if (zak s.lems ((v-s.q.g.inp:Nat):Int)).2=0\/lv s.lems (zak s.lems ((v-s.q.g.inp:Nat):Int)).2<=0 then 0 else lv s.lems (zak s.lems ((v-s.q.g.inp:Nat):Int)).2
theorem m1:((-1:Int):Rat) = -1:=by decide
theorem p1:((1:Int):Rat)=1:=by decide
section
variable {s:Sc}
theorem zz1(hq:QOk s.q){v:Nat}(hv:v<s.q.g.inp+s.q.g.us.length):W (zhg s) (zcB s.q.g.inp v) = - lb s v:=by
 unfold zcB lb;split
 .have:=hq.r.lo;obtain⟨c,hc⟩:∃c,s.q.r.lo[v]?=some c:=⟨_,zEp (by omega)⟩;simp only[W,zhg,zky hc,hc,zaj,zbQ,fV,fN,m1,p1,Option.getD_some];grind
 .obtain⟨p,hp⟩:∃p,s.q.g.us[v-s.q.g.inp]?=some p:=⟨_,zEp (by omega)⟩;simp only[W,zhg,ze2 hp,zaj,fV,p1];grind
theorem zD0(hq:QOk s.q){v:Nat}{l:List Mu}(hv:v<s.q.g.inp+s.q.g.us.length)(h:zbY s.q.g.inp s.lems v=some l):W (zhg s) l=ub s v:=by
 unfold zbY at h;unfold ub;split at h
 .rename_i hi;cases h;rw[if_pos hi];have:=hq.r.hi;obtain⟨c,hc⟩:∃c,s.q.r.hi[v]?=some c:=⟨_,zEp (by omega)⟩;simp only[W,zhg,zkz hc,hc,zaj,zbQ,fV,fN,m1,p1,Option.getD_some];grind
 .rename_i hi;rw[if_neg hi];obtain⟨p,hp⟩:∃p,s.q.g.us[v-s.q.g.inp]?=some p:=⟨_,zEp (by omega)⟩;split at h
  .cases h
  .rename_i hb;obtain⟨y,hy,yu,yp,hly,hy0,hyl⟩:=zbj (fun e=>hb (.inl e));obtain⟨z,hz,zu,zp,hlz,hz0,hzl⟩:=zbu (fun e=>hb (.inr e));rw[hlz,hly] at h;rw[hlz];split at h
   .rename_i hu;cases h;rw[if_pos (.inr hu)];simp only[W,zhg,zgu hp hz0 hz zu zp hu,zaj,fSc,fV,m1,p1];grind
   .rename_i hu;rw[if_neg (fun e=>e.elim (fun e=>hb (.inr e)) hu)];split at h
    .rename_i hl;cases h;simp only[W,zhg,ziO hp hy0 hy yu yp hl,zfT hp hz0 hz zu zp,zaj,zbQ,fV,fN,m1,p1];grind
    .rename_i hl;cases h;have h1:0<z.v.q:=by grind
     have h2:z.v.q-y.v.q≠0:=by grind
     simp only[W,zhg,zfT hp hz0 hz zu zp,zgt hp hy0 hy yu yp hz0 hz zu zp (by grind) h1,zaj,zbQ,fSc,fV,fN,m1,p1];have h3:(z.v.q-y.v.q)*(1/(z.v.q-y.v.q))=1:=by rw[Rat.div_def,Rat.one_mul];exact Rat.mul_inv_cancel _ h2
     generalize 1/(z.v.q-y.v.q)=k at *;grind
def zAC(s:Sc)(t:Tm):Rat:=if 0<t.2 then lb s t.1 else ub s t.1
def zvr(s:Sc):List Tm->Rat
 |[]=>0
 |t::ts=>t.2*zAC s t+zvr s ts
theorem zDU(hq:QOk s.q){a:List Mu×Bool}{t:Tm}(hv:t.1<s.q.g.inp+s.q.g.us.length)(h:(zfG s.q.g.inp s.lems a t).2=true):W (zhg s) (zfG s.q.g.inp s.lems a t).1=W (zhg s) a.1-t.2*zAC s t:=by
 unfold zfG at h ⊢;unfold zAC;split at h
 .rename_i ha;rw[if_pos ha];split at h
  .rename_i hp;rw[if_pos hp,if_pos hp];simp only[];rw[zeB,zz1 hq hv,zjX,if_neg (by grind)];grind
  .rename_i hp;rw[if_neg hp,if_neg hp];split at h
   .rename_i l hl;simp only[hl];rw[zeB,zD0 hq hv hl,zjX];split
    .grind
    .have:t.2=0:=by grind
     rw[this];grind
   .simp at h
 .rename_i ha;exact absurd h ha
theorem zxa(hq:QOk s.q):∀(ts:List Tm) (a:List Mu×Bool),(∀t∈ts,t.1<s.q.g.inp+s.q.g.us.length)->(ts.foldl (zfG s.q.g.inp s.lems) a).2=true->W (zhg s) (ts.foldl (zfG s.q.g.inp s.lems) a).1=W (zhg s) a.1-zvr s ts
 |[],a,_,_=>by simp only[List.foldl_nil,zvr];grind
 |t::ts,a,hv,h=>by
  have h2:(zfG s.q.g.inp s.lems a t).2=true:=by
   cases e:(zfG s.q.g.inp s.lems a t).2
   .have:=zk4 (inp:=s.q.g.inp) (lems:=s.lems) ts _ e;rw[List.foldl_cons] at h;rw[this] at h;simp at h
   .rfl
  rw[List.foldl_cons,zxa hq ts _ (fun x hx=>hv x (by simp[hx])) h,zDU hq (hv t (by simp)) h2];simp only[zvr];grind
theorem zDY{f:Af}(hq:QOk s.q)(hv:∀t∈f.ts,t.1<s.q.g.inp+s.q.g.us.length)(h:abB s f=true):abQ s f=f.c+zvr s f.ts:=by
 have h1:=zxa hq f.ts ([],true) hv h;unfold abQ;rw[if_pos h];show f.c+(zeR s (abL s f)).c*((-1:Int):Rat)=_;rw[zwd,m1];have h2:W (zhg s) (abL s f)=0-zvr s f.ts:=h1;rw[h2];grind
end
def KB(j:Nat):Nat:=5000*3^j
structure LOk(q:Qu)(m:Lm):Prop where
 u0:0<=m.unit
 u:m.unit.toNat<q.g.us.length
 can:m.v=qOf m.v.q
 hb:Hb m.v.q (KB m.unit.toNat)
structure SOk(s:Sc):Prop where
 q:QOk s.q
 d:∀d∈s.path,DOk 200 s.q d
 pl:s.path.length<=100
 l:∀m∈s.lems,LOk s.q m
 ll:s.lems.length<=100
theorem zk7{j:Nat}(h:j<4):KB j<=135000:=by
 unfold KB;have:3^j<=3^3:=zEC (by decide) (by omega);omega
theorem zvP(j:Nat):5000<=KB j:=by
 unfold KB;have:0<3^j:=Nat.pow_pos (by decide);omega
theorem SOk.B{s:Sc}(h:SOk s):∀m∈s.lems,Fq m.v 135001:=by
 intro m hm;have h1:=h.l m hm;rw[h1.can];have h2:=h.q.g.u4;have h3:=zk7 (j:=m.unit.toNat) (by have:=h1.u;omega);haveI:=(h1.hb.mono h3).br;exact Fq.of
def wgt(inp v:Nat):Nat:=if v<inp then 11 else KB (v-inp)+4
def wS(inp:Nat):Nat->Nat
 |0=>0
 |n+1=>wS inp n+wgt inp n
theorem zqD(inp:Nat){a b:Nat}(h:a<=b):wS inp a<=wS inp b:=by
 induction b with
 |zero=>
      have:a=0:=by omega
      subst this;exact zEt _
 |succ b ih=>
  by_cases e:a=b+1
  .subst e;exact zEt _
  .have:=ih (by omega);show _<=wS inp b+wgt inp b;omega
theorem zv2(inp:Nat):∀n,n<=inp->wS inp n=11*n
 |0,_=>rfl
 |n+1,h=>by
  show wS inp n+wgt inp n=_;rw[zv2 inp n (by omega)];unfold wgt;rw[if_pos (by omega)];omega
theorem zqC(inp:Nat):∀j,wS inp (inp+j)+5000<=11*inp+4*j+5000*3^j
 |0=>by
  show wS inp inp+5000<=_;rw[zv2 inp inp (zEt _)];omega
 |j+1=>by
  have ih:=zqC inp j;show wS inp (inp+j)+wgt inp (inp+j)+5000<=_;unfold wgt;rw[if_neg (by omega),show inp+j-inp=j by omega,zEI];unfold KB;omega
theorem Hb.z{n:Nat}:Hb 0 n:=Hb.zero.mono (zEv _)
theorem zzI{s:Sc}(h:SOk s){t:Tm}(hv:t.1<s.q.g.inp+s.q.g.us.length):Hb (zAC s t) (wgt s.q.g.inp t.1-4):=by
 have hl:=h.q.r.lo;have hh:=h.q.r.hi;unfold zAC lb ub wgt;by_cases hi:t.1<s.q.g.inp
 .obtain⟨x,hx⟩:∃x,s.q.r.lo[t.1]?=some x:=⟨_,zEp (by omega)⟩;obtain⟨y,hy⟩:∃y,s.q.r.hi[t.1]?=some y:=⟨_,zEp (by omega)⟩;obtain⟨h1,h2,_⟩:=h.q.r.bd _ _ _ hx hy;simp only[if_pos hi,hx,hy,Option.getD_some];split
  .exact h1.mono (by omega)
  .exact h2.mono (by omega)
 .simp only[if_neg hi];split
  .exact Hb.z
  .split
   .exact Hb.z
   .rename_i hne;obtain⟨z,hz,zu,zp,hlz,hz0,hzl⟩:=zbu (fun e=>hne (.inl e));rw[hlz];have:=(h.l z (zEq hz)).hb;rw[zu] at this;exact this.mono (by show KB (t.1-s.q.g.inp)<=_;omega)
theorem zs8{s:Sc}(h:SOk s){n:Nat}(hn:n<=s.q.g.inp+s.q.g.us.length):∀(ts:List Tm) (a:Nat),CanT ts->(∀t∈ts,Hb t.2 3)->(∀t∈ts,a<=t.1/\t.1<n)->Hb (zvr s ts) (wS s.q.g.inp n-wS s.q.g.inp a)
 |[],a,_,_,_=>Hb.z
 |t::ts,a,hc,hb,hv=>by
  obtain⟨c1,c2,c3⟩:=hc;have ht:=hv t (by simp);have ih:=zs8 h hn ts (t.1+1) c3 (fun x hx=>hb x (by simp[hx])) (fun x hx=>⟨c2 x hx,(hv x (by simp[hx])).2⟩);haveI h1:=hb t (by simp);haveI h2:=zzI h (t:=t) (by omega);haveI h3:=ih;have h4:Hb (t.2*zAC s t+zvr s ts) (3+(wgt s.q.g.inp t.1-4)+(wS s.q.g.inp n-wS s.q.g.inp (t.1+1))+1):=Hb.add;refine h4.mono ?_;have e1:=zqD s.q.g.inp (show t.1+1<=n by omega);have e2:=zqD s.q.g.inp ht.1;have e3:wS s.q.g.inp (t.1+1)=wS s.q.g.inp t.1+wgt s.q.g.inp t.1:=rfl;have e4:4<=wgt s.q.g.inp t.1:=by unfold wgt;split <;> omega
  omega
theorem zDX{s:Sc}(h:SOk s){f:Af}{n:Nat}(hn:n<=s.q.g.inp+s.q.g.us.length)(hf:FOk 3 n f)(hb:abB s f=true):Hb (abQ s f) (wS s.q.g.inp n+4):=by
 rw[zDY h.q (fun t ht=>by have:=hf.var t ht;omega) hb];haveI:=hf.cb;haveI:=zs8 h hn f.ts 0 hf.can hf.bd (fun t ht=>⟨zEv _,hf.var t ht⟩);have h4:Hb (f.c+zvr s f.ts) (3+(wS s.q.g.inp n-wS s.q.g.inp 0)+1):=Hb.add;exact h4.mono (by have:wS s.q.g.inp 0=0:=rfl;omega)
theorem zeO{s:Sc}(h:SOk s){f:Af}{j:Nat}(hj:j<s.q.g.us.length)(hf:FOk 3 (s.q.g.inp+j) f)(hb:abB s f=true):Hb (abQ s f) (KB j-4200):=by
 refine(zDX h (by omega) hf hb).mono ?_;have h1:=zqC s.q.g.inp j;have h2:=h.q.g.i3;have h3:=h.q.g.u4;unfold KB;omega
end Rc
namespace Rc
open Go
def tzF:Nat->Nat->Nat
 |0,_=>0
 |f+1,n=>if n%2=0 then tzF f (n/2)+1 else 0
def tz(n:Nat):Nat:=tzF (bl n) n
theorem zn1:∀(f n:Nat),n≠0->n<2^f->∃m,n=2^tzF f n*m/\m%2=1
 |0,n,h0,h=>by simp at h;omega
 |f+1,n,h0,h=>by
  unfold tzF;by_cases h2:n%2=0
  .rw[if_pos h2];obtain⟨m,h3,h4⟩:=zn1 f (n/2) (by omega) (by rw[zEI] at h;omega);refine⟨m,?_,h4⟩;rw[zEI,Nat.mul_right_comm,<-h3];omega
  .rw[if_neg h2];exact⟨n,by simp,by omega⟩
theorem zgO{n:Nat}(h:n≠0):∃m,n=2^tz n*m/\m%2=1:=zn1 _ n h (zhF n)
theorem zjl{a b m m':Nat}(h:2^a*m=2^b*m')(hm:m%2=1)(hm':m'%2=1):a=b/\m=m':=by
 have key:∀(a c m m':Nat),2^a*m=2^(a+c)*m'->m%2=1->c=0:=by
  intro a c m m' h hm;rw[zEJ,Nat.mul_assoc] at h;have:=Nat.eq_of_mul_eq_mul_left (Nat.two_pow_pos a) h
  cases c with
  |zero=>rfl
  |succ c=>rw[zEI,Nat.mul_right_comm] at this;omega
 have e:a=b:=by
  rcases Nat.le_total a b with hab|hab
  .have:=key a (b-a) m m' (by rw[show a+(b-a)=b from by omega];exact h) hm;omega
  .have:=key b (a-b) m' m (by rw[show b+(a-b)=a from by omega];exact h.symm) hm';omega
 subst e;exact⟨rfl,Nat.eq_of_mul_eq_mul_left (Nat.two_pow_pos a) h⟩
theorem zt1{n k m:Nat}(h:n=2^k*m)(hm:m%2=1):tz n=k:=by
 have hn:n≠0:=by
  rw[h];exact Nat.ne_of_gt (Nat.mul_pos (Nat.two_pow_pos k) (by omega))
 obtain⟨m',h1,h2⟩:=zgO hn;exact(zjl (h1.symm.trans h) h2 hm).1
theorem zv6{n:Nat}(k:Nat)(h:n≠0):tz (2^k*n)=k+tz n:=by
 obtain⟨m,h1,h2⟩:=zgO h;refine zt1 (m:=m) ?_ h2;rw[zEJ,Nat.mul_assoc,<-h1]
theorem zv5{n:Nat}(h:n%2=1):tz n=0:=zt1 (m:=n) (by simp) h
theorem zxm{n:Nat}(h0:n≠0)(h:n%2=0):tz n=tz (n/2)+1:=by
 have:=zv6 (n:=n/2) 1 (by omega);rw[show 2^1*(n/2)=n from by omega] at this;omega
theorem zAO{lo k:Nat}(hi:Nat)(h0:lo≠0)(h:lo<2^k):tz (lo+2^k*hi)=tz lo:=by
 obtain⟨m,h1,h2⟩:=zgO h0;have hk:tz lo<k:=by
  refine Nat.lt_of_not_le fun hle=>?_;have:2^k<=2^tz lo:=zEC (by decide) hle;have:2^tz lo*1<=2^tz lo*m:=zEX _ (by omega);omega
 refine zt1 (m:=m+2^(k-tz lo)*hi) ?_ ?_
 .rw[Nat.mul_add,<-h1,<-Nat.mul_assoc,<-zEJ,show tz lo+(k-tz lo)=k from by omega]
 .obtain⟨j,hj⟩:∃j,k-tz lo=j+1:=⟨k-tz lo-1,by omega⟩;rw[hj,zEI,Nat.mul_right_comm];omega
theorem zv7(n:Nat):2^tz n*(n/2^tz n)=n:=by
 by_cases h:n=0
 .subst h;simp
 .obtain⟨m,h1,h2⟩:=zgO h;have:n/2^tz n=m:=by
   conv=>lhs;arg 1;rw[h1]
   exact Nat.mul_div_cancel_left m (Nat.two_pow_pos _)
  rw[this,<-h1]
theorem zjy{n:Nat}(h:n≠0):n/2^tz n%2=1:=by
 obtain⟨m,h1,h2⟩:=zgO h;have:n/2^tz n=m:=by
  conv=>lhs;arg 1;rw[h1]
  exact Nat.mul_div_cancel_left m (Nat.two_pow_pos _)
 rw[this];exact h2
theorem zn0{n:Nat}(h:n≠0):tz n<bl n:=by
 have h1:=zv7 n;have h2:=zjy h;have h3:=zhF n;generalize n/2^tz n=q at h1 h2;refine Nat.lt_of_not_le fun hle=>?_;have:2^bl n<=2^tz n:=zEC (by decide) hle;have:2^tz n*1<=2^tz n*q:=zEX _ (by omega);omega
theorem zAN(k:Nat):tz (2^k)=k:=zt1 (m:=1) (by simp) rfl
theorem zzT{x:Nat}(h0:x≠0)(h:x<4294967296):x &&& (4294967296-x)=2^tz x:=by
 obtain⟨m,h1,h2⟩:=zgO h0;obtain⟨q,rfl⟩:∃q,m=2*q+1:=⟨m/2,by omega⟩;generalize hk:tz x=k at *;have hp:=Nat.two_pow_pos k;have hlt:k<32:=by
  refine Nat.lt_of_not_le fun hle=>?_;have:2^32<=2^k:=zEC (by decide) hle;have:2^k*1<=2^k*(2*q+1):=zEX _ (by omega);omega
 have e1:x=2^(k+1)*q+2^k:=by rw[h1,Nat.mul_add,Nat.mul_one,zEI,Nat.mul_assoc]
 have e2:x-1=2^(k+1)*q+(2^k-1):=by omega
 have hpk:2^k<2^(k+1):=zEV (by decide) (by omega);apply Nat.eq_of_testBit_eq;intro i;rw[Nat.testBit_and,show(4294967296-x)=2^32-((x-1)+1) from by omega,Nat.testBit_two_pow_sub_succ (by omega),e2,Nat.testBit_two_pow_mul_add _ (by omega),Nat.testBit_two_pow]
 conv=>lhs;arg 1;rw[e1,Nat.testBit_two_pow_mul_add _ hpk]
 by_cases hi:i<k+1
 .rw[if_pos hi,if_pos hi,Nat.testBit_two_pow,Nat.testBit_two_pow_sub_one];by_cases hik:k=i
  .subst hik;simp[hlt]
  .simp[hik]
 .rw[if_neg hi,if_neg hi];have:¬k=i:=by omega
  simp only[this,decide_false];cases Nat.testBit q (i-(k+1)) <;> simp
theorem zqJ{x:Nat}(h0:x≠0)(h:x<4294967296):tz x<32:=by
 have h1:=zn0 h0;have h2:=zaA (n:=x) (k:=32) h;omega
def bruijn:List Nat:=[0,1,28,2,29,14,24,3,30,22,20,15,25,17,4,8,31,27,13,23,21,19,16,7,26,12,18,6,11,5,10,9]
theorem zqj{k:Nat}(h:k<32):bruijn[2^k*125613361%4294967296/134217728]?=some k:=by
 have:∀k:Fin 32,bruijn[2^k.val*125613361%4294967296/134217728]?=some k.val:=by decide
 exact this ⟨k,h⟩
theorem zsS{k:Nat}(h:k<32):2^k*125613361%4294967296/134217728<32:=by omega
theorem ztW{l:List Nat}(hs:Small l){k:Nat}(hk:k<l.length)(h:val (l.take k)=0)(h0:l[k]≠0):tz (val l)=32*k+tz l[k]:=by
 have hb:=hs.get k hk;rw[zd8 l k hk,h,Nat.zero_add,zdh,zv6 _ (by omega)];rw[show(4294967296:Nat)=2^32 from rfl,zAO _ h0 hb]
theorem zpq{l:List Nat}{k:Nat}(hk:k<l.length)(h:val (l.take k)=0)(h0:l[k]=0):val (l.take (k+1))=0:=by
 rw[zaF l k hk,h,h0];simp
theorem ztV{l:List Nat}{k:Nat}(hn:val l≠0)(h:val (l.take k)=0):k<l.length:=by
 refine Nat.lt_of_not_le fun hle=>hn ?_
 rwa [zan l k hle] at h
theorem zxu{l:List Nat}(hs:Small l)(k:Nat):val (List.replicate (k/32) 0++zhh (l.length+1) (val l*2^(k%32)))=val l*2^k:=by
 have h1:=zbs hs;have h2:2^(k%32)<=2^32:=zEC (by decide) (by omega);have h3:val l*2^(k%32)<4294967296^(l.length+1):=by
  rw[zEI];exact Nat.mul_lt_mul_of_lt_of_le h1 h2 (by decide)
 rw[za4,zaX,List.length_replicate,zf2 h3,Nat.zero_add,zdh,zEU,Nat.mul_assoc,<-zEJ,show k%32+32*(k/32)=k from by omega]
theorem zuk{a out:List Nat}{k i:Nat}(ha:Small a)(hi:i<a.length)(hol:k/32+out.length=i)(h:val out=val (a.drop (k/32))/2^(k%32)%4294967296^out.length) :
  val (out++[(a[i]+a.getD (i+1) 0*2^32)/2^(k%32)%4294967296])=val (a.drop (k/32))/2^(k%32)%4294967296^(out++[(a[i]+a.getD (i+1) 0*2^32)/2^(k%32)%4294967296]).length:=by
 generalize hz:a[i]+a.getD (i+1) 0*2^32=z;have hd:out.length<(a.drop (k/32)).length:=by rw[zEP];omega
 have h1:=zj9 (a:=a.drop (k/32)) (out:=out++[0]) (i:=out.length) (s:=k%32) (ha.drop _) hd (by simp) (Nat.mod_lt _ (by decide)) (by rw[List.take_left' rfl];exact h) z (by
  rw[<-hz,List.getElem_drop];simp only[hol];rw[show(a.drop (k/32)).getD (out.length+1) 0=a.getD (i+1) 0 from by simp only[List.getD_eq_getElem?_getD,List.getElem?_drop];rw[show k/32+(out.length+1)=i+1 from by omega],zEU 4294967296])
 rw[List.set_append_right _ _ (zEt _),Nat.sub_self,List.set_cons_zero,zEY (by simp)] at h1;rw[h1];simp
theorem zuj{a out:List Nat}{k:Nat}(ha:Small a)(hk:a.length<=k/32+out.length)(h:val out=val (a.drop (k/32))/2^(k%32)%4294967296^out.length):val out=val a/2^k:=by
 have h1:=zb1 a ha (k/32);have h2:val (a.drop (k/32))/2^(k%32)<4294967296^out.length:=by
  refine zEQ (Nat.div_le_self _ _) (zEy (zbs (ha.drop _)) (zEC (by decide) ?_));rw[zEP];omega
 rw[h,Nat.mod_eq_of_lt h2,<-h1,zet]
structure Dy where
 neg:Bool
 mag:Nat
 exp:Int
def Dy.zero:Dy:=⟨false,0,0⟩
def nok(n:Nat)(e:Int):Bool:=n == 0||(decide (-1048576<=e+tz n)&&decide (e+tz n<=1048576))
def nrm(s:Bool)(n:Nat)(e:Int):Dy:=if n=0 then Dy.zero else if nok n e then⟨s,n/2^tz n,e+tz n⟩ else Dy.zero
theorem zkq(s:Bool)(e:Int):nrm s 0 e=Dy.zero:=rfl
theorem zou(e:Int):nok 0 e=true:=rfl
theorem zov{n:Nat}{e:Int}(h:n≠0)(h1:-1048576<=e+tz n)(h2:e+tz n<=1048576):nok n e=true:=by
 unfold nok;simp[h1,h2]
theorem zkr{n:Nat}{e:Int}(h:n≠0)(h1:e+tz n < -1048576\/1048576<e+tz n):nok n e=false:=by
 unfold nok;simp[h];omega
theorem zww{s:Bool}{n:Nat}{e:Int}(h:n≠0)(h1:-1048576<=e+tz n)(h2:e+tz n<=1048576):nrm s n e=⟨s,n/2^tz n,e+tz n⟩:=by
 unfold nrm;rw[if_neg h,if_pos (zov h h1 h2)]
theorem znh{s:Bool}{n:Nat}{e:Int}(h:n≠0)(h1:e+tz n < -1048576\/1048576<e+tz n):nrm s n e=Dy.zero:=by
 unfold nrm;rw[if_neg h,zkr h h1];rfl
theorem zot{s:Bool}{n:Nat}{e:Int}(h:n≠0)(h2:n%2=0):nrm s (n/2) (e+1)=nrm s n e/\nok (n/2) (e+1)=nok n e:=by
 have h3:n/2≠0:=by omega
 have h4:=zxm h h2;have h5:nok (n/2) (e+1)=nok n e:=by
  unfold nok;rw[h4,show e+1+(tz (n/2):Int)=e+((tz (n/2)+1:Nat):Int) from by omega];rw[show(n == 0)=false from by simpa using h,show(n/2 == 0)=false from beq_eq_false_iff_ne.2 h3]
 refine⟨?_,h5⟩;unfold nrm;rw[if_neg h,if_neg h3,h5,h4,zEI,zEU (2^_) 2,<-Nat.div_div_eq_div_mul,show e+1+(tz (n/2):Int)=e+((tz (n/2)+1:Nat):Int) from by omega]
theorem zpO{s:Bool}{n:Nat}{e:Int}(h:n%2=1)(h1:-1048576<=e)(h2:e<=1048576):nrm s n e=⟨s,n,e⟩/\nok n e=true:=by
 have h3:=zv5 h;have h4:n≠0:=by omega
 refine⟨?_,zov h4 (by omega) (by omega)⟩;rw[zww h4 (by omega) (by omega),h3];simp
theorem ziz{s:Bool}{n:Nat}{e:Int}(h:n%2=1)(h1:e < -1048576\/1048576<e):nrm s n e=Dy.zero/\nok n e=false:=by
 have h3:=zv5 h;have h4:n≠0:=by omega
 exact⟨znh h4 (by omega),zkr h4 (by omega)⟩
theorem zjH(s:Bool)(n:Nat)(e:Int):(nrm s n e).mag<=n:=by
 unfold nrm;split
 .exact zEv _
 .split
  .exact Nat.div_le_self _ _
  .exact zEv _
theorem zrN(s:Bool)(n:Nat)(e:Int):-1048576<=(nrm s n e).exp/\(nrm s n e).exp<=1048576:=by
 unfold nrm;split
 .decide
 .rename_i h0;split
  .rename_i h;unfold nok at h;simp only[Bool.or_eq_true,beq_iff_eq,zED,decide_eq_true_eq] at h;rcases h with h|h
   .exact absurd h h0
   .exact h
  .decide
theorem zsh{x:Nat}(h:x≠0):((zaa x).map zbf)[(0:Int).toNat]?=some (zbf (x%4294967296)):=by
 rw[zdv h];rfl
end Rc
namespace Rc
open Go Go.RowKit
@[reducible] def dV(d:Dy):V:=V.agg [Leaf.val (.bool d.neg),zaf (zaa d.mag),Leaf.val (.int .i64 d.exp)]
theorem zda:dV Dy.zero=V.agg [Leaf.val (.bool false),nilL,Leaf.val (.int .i64 0)]:=by
 show V.agg [Leaf.val (.bool false),zaf (zaa 0),Leaf.val (.int .i64 0)]=_;rw[zah];rfl
structure Dfit(k:Nat)(d:Dy):Prop where
 n:(zaa d.mag).length<=k
 lo:-1048576<=d.exp
 hi:d.exp<=1048576
class Bd (d:Dy) (k:outParam Nat):Prop where
 fit:Dfit k d
theorem Dfit.mono{d:Dy}{k k':Nat}(h:Dfit k d)(hk:k<=k'):Dfit k' d:=⟨zEz h.n hk,h.lo,h.hi⟩
theorem Bd.use{d:Dy}{k k':Nat}[h:Bd d k](hk:k<=k'):Dfit k' d:=h.fit.mono hk
instance Bn.dmag{d:Dy}{k:Nat}[h:Bd d k]:Bn d.mag k:=⟨h.fit.n⟩
instance Bd.nrm{s:Bool}{n:Nat}{e:Int}{k:Nat}[h:Bn n k]:Bd (nrm s n e) k:=
 ⟨⟨(Bn.mono (zjH s n e) h).le,(zrN s n e).1,(zrN s n e).2⟩⟩
instance Bd.zero:Bd Dy.zero 0:=⟨⟨by show(zaa 0).length<=0;rw[zah];exact zEt _,by decide,by decide⟩⟩
instance Bz.num{r:Rat}{k:Nat}[h:Br r k]:Bz r.num k:=⟨h.fit.n⟩
instance Bn.den{r:Rat}{k:Nat}[h:Br r k]:Bn r.den (k+1):=Bn.of (zEQ h.den (zEV (by decide) (Nat.lt_succ_self _)))
theorem zwW(r:Rat):dn (val (zaa (zaE r)))=r.den:=by rw[zac,ziR]
def exD(r:Rat):Dy:=if bl r.den=tz r.den+1 then nrm (decide (r.num<0)) r.num.natAbs (-(tz r.den:Int)) else Dy.zero
instance Bd.exD{r:Rat}{k:Nat}[h:Br r k]:Bd (exD r) k:=by
 unfold Rc.exD;split
 .haveI:Bn r.num.natAbs k:=Bz.bn (Bz.num (r:=r))
  infer_instance
 .exact⟨Bd.zero.fit.mono (zEv _)⟩
def dq(d:Dy):Rat:=if 0<=d.exp then rq d.neg (d.mag*2^d.exp.toNat) 0 else rq d.neg d.mag (2^(-d.exp).toNat)
theorem zws{k j:Nat}(h:k<32*j):2^k<4294967296^j:=by
 rw[zdh];exact zEV (by decide) h
theorem Bn.shift{n i k:Nat}(j:Nat)(h:Bn n i)(hk:k<32*j):Bn (n*2^k) (i+j):=Bn.of (zg0 h.lt (zws hk))
theorem Br.dqj{d:Dy}{k:Nat}(j:Nat)(h:Bd d k)(hj:d.exp.natAbs<32*j):Br (dq d) (k+j+1):=by
 have hn:Bn d.mag k:=⟨h.fit.n⟩;unfold Rc.dq;split
 .exact Br.rqn (i:=k+j+1) (j:=0) (zEy (hn.shift (k:=d.exp.toNat) j (by omega)).lt (zEC (by decide) (by omega))) (by simp) (by omega)
 .exact Br.rq (k:=k+j+1) (zEy hn.lt (zEC (by decide) (by omega))) (zEy (zws (k:=(-d.exp).toNat) (j:=j) (by omega)) (zEC (by decide) (by omega)))
instance Br.dq{d:Dy}{k:Nat}[h:Bd d k]:Br (dq d) (k+32769+1):=Br.dqj 32769 h (by have:=h.fit.lo;have:=h.fit.hi;omega)
theorem zcd{n k:Nat}(h:(zaa n).length<=k):bl n<=32*k:=zaA (by rw[<-zdh];exact zag.1 h)
theorem zif{n k:Nat}(h:(zaa n).length<=k):tz n<=32*k:=by
 by_cases h0:n=0
 .subst h0;exact zEv _
 .exact zEz (Nat.le_of_lt (zn0 h0)) (zcd h)
def lg(a b:Nat):Int:=
 if 0<=(bl a:Int)-bl b then(if a<b*2^((bl a:Int)-bl b).toNat then(bl a:Int)-bl b-1 else(bl a:Int)-bl b)
 else(if a*2^(-((bl a:Int)-bl b)).toNat<b then(bl a:Int)-bl b-1 else(bl a:Int)-bl b)
theorem zuE(a b:Nat):lg a b=(bl a:Int)-bl b\/lg a b=(bl a:Int)-bl b-1:=by
 unfold lg;split <;> split <;> simp
theorem zfn{a b k j:Nat}(ha:(zaa a).length<=k)(hb:(zaa b).length<=j):-(32*j:Int)-1<=lg a b/\lg a b<=32*k:=by
 have h1:=zcd ha;have h2:=zcd hb;rcases zuE a b with h|h <;> omega
def scN(n:Nat)(e:Int):Nat:=if 0<=e then n else n*2^(-e).toNat
def scD(d:Nat)(e:Int):Nat:=if 0<=e then d*2^e.toNat else d
def rndQ(a b:Nat)(e:Int)(away:Bool):Nat:=if away&&decide (scN a e%scD b e≠0) then scN a e/scD b e+1 else scN a e/scD b e
def rnd(s:Bool)(a b:Nat)(p:Int)(away:Bool):Dy:=nrm s (rndQ a b (lg a b-p+1) away) (lg a b-p+1)
def rndD(r:Rat)(p:Int)(away:Bool):Dy:=if p<1\/4096<p\/r.num=0 then Dy.zero else rnd (decide (r.num<0)) r.num.natAbs r.den p away
def zpF(p:Int):Int:=if p<1\/4096<p then 1 else 0
theorem zcK{n:Nat}{e:Int}(h:0<=e):scN n e=n:=if_pos h
theorem zfL{n:Nat}{e:Int}(h:¬0<=e):scN n e=n*2^(-e).toNat:=if_neg h
theorem zcl{n:Nat}{e:Int}(h:0<=e):scD n e=n*2^e.toNat:=if_pos h
theorem zeT{n:Nat}{e:Int}(h:¬0<=e):scD n e=n:=if_neg h
theorem zex{r:Rat}{p:Int}{away:Bool}(h1:¬p<1)(h2:¬4096<p)(h3:¬r.num=0):rndD r p away=rnd (decide (r.num<0)) r.num.natAbs r.den p away:=if_neg (by omega)
theorem zew{p:Int}(h1:¬p<1)(h2:¬4096<p):zpF p=0:=if_neg (by omega)
theorem zgW{a b:Nat}{e:Int}:rndQ a b e false=scN a e/scD b e:=by simp[rndQ]
theorem zip{a b:Nat}{e:Int}(h:scN a e%scD b e≠0):rndQ a b e true=scN a e/scD b e+1:=by simp[rndQ,h]
theorem ziq{a b:Nat}{e:Int}(h:¬scN a e%scD b e≠0):rndQ a b e true=scN a e/scD b e:=by simp[rndQ,h]
theorem zjB{n:Nat}{e:Int}(h:e<=0):scN n e=n*2^(-e).toNat:=by
 unfold scN;split
 .have:e=0:=by omega
  subst this;simp
 .rfl
theorem zij{n:Nat}{e:Int}(h:e<=0):scD n e=n:=by
 unfold scD;split
 .have:e=0:=by omega
  subst this;simp
 .rfl
theorem zhe{b:Nat}(h:b≠0)(e:Int):scD b e≠0:=by
 unfold scD;split
 .exact Nat.mul_ne_zero h (Nat.ne_of_gt (Nat.two_pow_pos _))
 .exact h
theorem zq1{x a b N:Nat}{e:Int}(h:0<=e+N):x*scD b e<=scN a e↔x*(b*2^(e+N).toNat)<=a*2^N:=by
 by_cases he:0<=e
 .rw[zcK he,zcl he,show(e+N).toNat=e.toNat+N from by omega,zEJ,show x*(b*(2^e.toNat*2^N))=x*(b*2^e.toNat)*2^N from by simp only[Nat.mul_assoc]];exact(Nat.mul_le_mul_right_iff (Nat.two_pow_pos N)).symm
 .rw[zfL he,zeT he];obtain⟨m,hm⟩:∃m,(e+N).toNat=m:=⟨_,rfl⟩;rw[hm,show N=(-e).toNat+m from by omega,zEJ,<-Nat.mul_assoc a,<-Nat.mul_assoc x];exact(Nat.mul_le_mul_right_iff (Nat.two_pow_pos m)).symm
theorem lg_eq(a b:Nat):lg a b=if scN a ((bl a:Int)-bl b)<scD b ((bl a:Int)-bl b) then(bl a:Int)-bl b-1 else(bl a:Int)-bl b:=by
 unfold lg scN scD;split <;> rfl
theorem zx5{a b N:Nat}(ha:a≠0)(hb:b≠0)(hN:bl b+1<=N) :
  b*2^(lg a b+N).toNat<=a*2^N/\a*2^N<b*2^(lg a b+1+N).toNat:=by
 have h1:=zhF a;have h2:=zmG ha;have h3:=zhF b;have h4:=zmG hb;have p1:=zmF ha;have p2:=zmF hb;obtain⟨k,hk⟩:∃k:Int,(bl a:Int)-bl b=k:=⟨_,rfl⟩;have low:b*2^(k-1+N).toNat<=a*2^N:=by
  have e1:2^bl b*2^(k-1+N).toNat=2^(bl a-1)*2^N:=by
   rw[<-zEJ,<-zEJ,show bl b+(k-1+N).toNat=bl a-1+N from by omega]
  have e2:=zEA (2^(k-1+N).toNat) (Nat.le_of_lt h3);have e3:=zEA (2^N) h2;omega
 have high:a*2^N<b*2^(k+1+N).toNat:=by
  have e1:2^(bl b-1)*2^(k+1+N).toNat=2^bl a*2^N:=by
   rw[<-zEJ,<-zEJ,show bl b-1+(k+1+N).toNat=bl a+N from by omega]
  have e2:=zEA (2^(k+1+N).toNat) h4;have e3:=(Nat.mul_lt_mul_right (Nat.two_pow_pos N)).2 h1;omega
 have mid:=zq1 (x:=1) (a:=a) (b:=b) (N:=N) (e:=k) (by omega);rw[Nat.one_mul,Nat.one_mul] at mid;rw[lg_eq,hk];split
 .rename_i h;refine⟨low,?_⟩;rw[show k-1+1+(N:Int)=k+N from by omega];exact Nat.lt_of_not_le fun hle=>absurd (mid.2 hle) (Nat.not_le.2 h)
 .rename_i h;exact⟨mid.1 (Nat.le_of_not_lt h),high⟩
theorem zkZ{a b:Nat}{e:Int}(ha:a≠0)(hb:b≠0)(he:e<=lg a b):(bl (scN a e/scD b e):Int)=lg a b-e+1:=by
 obtain⟨N,hN⟩:∃N,bl b+1+e.natAbs=N:=⟨_,rfl⟩;obtain⟨s1,s2⟩:=zx5 (N:=N) ha hb (by omega);obtain⟨K,hK⟩:∃K:Nat,(K:Int)=lg a b-e:=⟨(lg a b-e).toNat,by omega⟩;have hd:=Nat.pos_of_ne_zero (zhe hb e);have:bl (scN a e/scD b e)=K+1:=by
  apply zi1
  .rw[Nat.div_lt_iff_lt_mul hd];refine Nat.lt_of_not_le fun hle=>?_;have:=(zq1 (N:=N) (by omega)).1 hle;rw[Nat.mul_left_comm,<-zEJ,show K+1+(e+N).toNat=(lg a b+1+N).toNat from by omega] at this;omega
  .intro _;rw[Nat.le_div_iff_mul_le hd,Nat.add_sub_cancel,zq1 (N:=N) (by omega),Nat.mul_left_comm,<-zEJ,show K+(e+N).toNat=(lg a b+N).toNat from by omega];exact s1
 omega
theorem Bn.scN{a i:Nat}{e:Int}(j:Nat)(h:Bn a i)(hj:e.natAbs<32*j):Bn (scN a e) (i+j):=by
 unfold Rc.scN;split
 .exact⟨zEz h.le (by omega)⟩
 .exact h.shift j (by omega)
theorem Bn.rndQ{a b i:Nat}{e:Int}{up:Bool}(j:Nat)(h:Bn a i)(hj:e.natAbs<32*j):Bn (rndQ a b e up) (i+j+1):=by
 have h1:=h.scN j hj;have h2:Rc.rndQ a b e up<=Rc.scN a e+1:=by
  have:=Nat.div_le_self (Rc.scN a e) (scD b e);unfold Rc.rndQ;split <;> omega
 exact Bn.mono h2 (Bn.of (zEy (Nat.succ_lt_succ h1.lt) (by rw[zEI];have:=Nat.pow_pos (n:=i+j) (show 0<4294967296 by decide);omega)))
theorem zw7{n k i:Nat}(h:Bn n i)(hk:32*i<=k):n<2^k:=zEy h.lt (by rw[zdh];exact zEC (by decide) hk)
instance Bn.one:Bn 1 1:=⟨by rw[zdw];exact zEt _⟩
theorem zlD(r:Rat):sg r=sgz r.num:=by
 have h:=zxz (zaQ r) (zaw r) (zaE r);rw[zhM] at h;rw[h];show sgz (sgn (decide (r.num<0)) r.num.natAbs)=_;rw[zdn]
theorem zBa(r:Rat)(p:Int):rndD r p (false != decide (r.num<0))=rndD r p (decide (sg r<0)):=by
 rw[zlD];rcases zbx r.num with⟨h1,h2⟩|⟨h1,h2⟩|⟨h1,h2⟩
 .rw[h2,decide_eq_true h1];rfl
 .rw[h2,h1];rfl
 .rw[h2,decide_eq_false (by omega)];rfl
theorem zA9(r:Rat)(p:Int):rndD r p (true != decide (r.num<0))=rndD r p (decide (0<sg r)):=by
 rw[zlD];rcases zbx r.num with⟨h1,h2⟩|⟨h1,h2⟩|⟨h1,h2⟩
 .rw[h2,decide_eq_true h1];rfl
 .unfold rndD;rw[if_pos (.inr (.inr h1)),if_pos (.inr (.inr h1))]
 .rw[h2,decide_eq_false (by omega)];rfl
def zv1(a b:Dy):Int:=if b.mag=0 then a.exp else if a.mag=0 then b.exp else min a.exp b.exp
def wint(a:Dy)(w:Int):Int:=sgn a.neg (a.mag*2^(a.exp-w).toNat)
theorem zrM{s:Bool}{n:Nat}{e:Int}(h:nok n e=false):nrm s n e=Dy.zero:=by
 unfold nrm;split
 .rfl
 .rw[h];rfl
def mulD(a b:Dy):Dy:=nrm (a.neg != b.neg) (a.mag*b.mag) (a.exp+b.exp)
def addZ(a b:Dy):Int:=wint a (zv1 a b)+wint b (zv1 a b)
def addD(a b:Dy):Dy:=nrm (decide (addZ a b<0)) (addZ a b).natAbs (zv1 a b)
def negD(d:Dy):Dy:=⟨!d.neg&&decide ((0:Int)<((zaa d.mag).length:Int)),d.mag,d.exp⟩
instance Bd.negD{d:Dy}{k:Nat}[h:Bd d k]:Bd (negD d) k:=⟨⟨h.fit.n,h.fit.lo,h.fit.hi⟩⟩
instance Bd.mulD{a b:Dy}{i j:Nat}[ha:Bd a i][hb:Bd b j]:Bd (mulD a b) (i+j):=by unfold Rc.mulD;infer_instance
theorem zAF{a b:Dy}{i j:Nat}(ha:Bd a i)(hb:Bd b j):-1048576<=zv1 a b/\zv1 a b<=1048576:=by
 have h1:=ha.fit.lo;have h2:=ha.fit.hi;have h3:=hb.fit.lo;have h4:=hb.fit.hi;unfold zv1;split
 .omega
 .split <;> omega
theorem Bz.wint{a:Dy}{w:Int}{i:Nat}(j:Nat)(h:Bd a i)(hj:(a.exp-w).natAbs<32*j):Bz (wint a w) (i+j):=by
 haveI hn:Bn a.mag i:=⟨h.fit.n⟩;haveI:Bn (a.mag*2^(a.exp-w).toNat) (i+j):=hn.shift j (by omega);unfold Rc.wint;infer_instance
instance Bz.addZ{a b:Dy}{i j:Nat}[ha:Bd a i][hb:Bd b j]:Bz (addZ a b) (i+65537+(j+65537)+1):=by
 have hw:=zAF ha hb;have h1:=ha.fit.lo;have h2:=ha.fit.hi;have h3:=hb.fit.lo;have h4:=hb.fit.hi;haveI:=Bz.wint (a:=a) (w:=zv1 a b) 65537 ha (by omega);haveI:=Bz.wint (a:=b) (w:=zv1 a b) 65537 hb (by omega);unfold Rc.addZ;infer_instance
instance Bd.addD{a b:Dy}{i j:Nat}[ha:Bd a i][hb:Bd b j]:Bd (addD a b) (i+65537+(j+65537)+1):=by
 haveI:Bn (Rc.addZ a b).natAbs (i+65537+(j+65537)+1):=Bz.bn inferInstance;unfold Rc.addD;infer_instance
instance Bd.rndD{r:Rat}{p:Int}{w:Bool}[h:Br r 25000]:Bd (rndD r p w) 52001:=by
 unfold Rc.rndD;split
 .exact⟨Bd.zero.fit.mono (zEv _)⟩
 .rename_i hc;have hnl:(zaa (Int.natAbs r.num)).length<=25000:=Bz.use (z:=r.num) (zEt _);have hdl:(zaa r.den).length<=25001:=Bn.use (n:=r.den) (zEt _);have hlg:=zfn hnl hdl;haveI:=Bn.rndQ (b:=r.den) (e:=lg r.num.natAbs r.den-p+1) (up:=w) 27000 ⟨hnl⟩ (by omega);unfold rnd;infer_instance
theorem zrn{s:Bool}{n d n' d':Nat}(hd:d≠0)(hd':d'≠0)(h:n*d'=n'*d):rq s n d=rq s n' d':=by
 unfold rq dn;rw[if_neg hd,if_neg hd',Rat.mkRat_eq_iff hd hd'];have h1:(n:Int)*(d':Int)=(n':Int)*(d:Int):=by rw[<-Int.natCast_mul,<-Int.natCast_mul,h]
 cases s
 .exact h1
 .simp only[zdO,Int.neg_mul,h1]
theorem zim(s:Bool)(n:Nat):rq s n 0=rq s n 1:=rfl
theorem zoP(s:Bool)(m t:Nat)(e:Int):dq ⟨s,m,e+t⟩=dq ⟨s,2^t*m,e⟩:=by
 unfold dq;simp only;by_cases h1:0<=e
 .rw[if_pos (by omega),if_pos h1,show(e+(t:Int)).toNat=t+e.toNat from by omega,zEJ];congr 1;grind
 .rw[if_neg h1];by_cases h2:0<=e+t
  .rw[if_pos h2,zim];refine zrn (by decide) (Nat.ne_of_gt (Nat.two_pow_pos _)) ?_;rw[Nat.mul_one,Nat.mul_assoc,<-zEJ,zEU,show(e+(t:Int)).toNat+(-e).toNat=t from by omega]
  .rw[if_neg h2];refine zrn (Nat.ne_of_gt (Nat.two_pow_pos _)) (Nat.ne_of_gt (Nat.two_pow_pos _)) ?_;rw[show(-e).toNat=t+(-(e+(t:Int))).toNat from by omega,zEJ];grind
theorem zwV{s:Bool}{n:Nat}{e:Int}(h:nok n e=true):dq (nrm s n e)=dq ⟨s,n,e⟩:=by
 by_cases h0:n=0
 .subst h0;rw[zkq];unfold dq Dy.zero;simp only;have z:∀(b:Bool) (d:Nat),rq b 0 d=0:=by intro b d;unfold rq;cases b <;> simp[sgn]
  split <;> split <;> simp[z]
 .have h1:nrm s n e=⟨s,n/2^tz n,e+tz n⟩:=by unfold nrm;rw[if_neg h0,if_pos h]
  rw[h1,zoP,zv7]
theorem negD_zero:negD Dy.zero=Dy.zero:=by
 show Dy.mk (!false&&decide ((0:Int)<((zaa 0).length:Int))) 0 0=_;rw[zah];rfl
theorem zxS(s:Bool)(n:Nat)(e:Int):nrm (!s) n e=negD (nrm s n e):=by
 by_cases h0:n=0
 .subst h0;exact negD_zero.symm
 .cases hk:nok n e with
  |false=>rw[zrM hk,zrM hk,negD_zero]
  |true=>
   have h1:∀s,nrm s n e=⟨s,n/2^tz n,e+tz n⟩:=fun s=>by unfold nrm;rw[if_neg h0,if_pos hk]
   rw[h1,h1];have h2:=zjy h0;generalize n/2^tz n=m at *;have h3:=zav.2 (show m≠0 by intro e;subst e;simp at h2);unfold negD;simp only;rw[decide_eq_true (by omega),Bool.and_true]
theorem zun(r:Rat)(p:Int):rndD (-r) p (decide (sg (-r)<0))=negD (rndD r p (decide (0<sg r))):=by
 rw[zlD,zlD,Rat.neg_num];unfold rndD;by_cases h:p<1\/4096<p\/r.num=0
 .rw[if_pos h,if_pos (by rw[Rat.neg_num];omega),negD_zero]
 .rw[if_neg h,if_neg (by rw[Rat.neg_num];omega),Rat.neg_num,Rat.neg_den,Int.natAbs_neg];have h1:decide (-r.num<0) = !decide (r.num<0):=by
   by_cases h2:r.num<0
   .rw[decide_eq_true h2,decide_eq_false (by omega)];rfl
   .rw[decide_eq_false (by omega:¬r.num<0),decide_eq_true (by omega)];rfl
  have h2:decide (sgz (-r.num)<0)=decide (0<sgz r.num):=by
   rcases zbx r.num with⟨a,b⟩|⟨a,b⟩|⟨a,b⟩ <;> rcases zbx (-r.num) with⟨c,d⟩|⟨c,d⟩|⟨c,d⟩ <;> rw[b,d] <;> first|rfl|omega
  rw[h1,h2];unfold rnd;exact zxS _ _ _
def zp(e:Int):Rat:=dq ⟨false,1,e⟩
theorem zoQ(s:Bool)(m:Nat)(e:Int):dq ⟨s,m,e⟩=rq s m 0*zp e:=by
 unfold zp dq;simp only;have h:=zga s false m (1*2^e.toNat) 0 0;have h2:=zga s false m 1 0 (2^(-e).toNat);by_cases he:0<=e
 .rw[if_pos he,if_pos he,<-h];simp[dn];rfl
 .rw[if_neg he,if_neg he,<-h2];simp[dn]
theorem zlN(s:Bool)(n:Nat):rq s n 0=((sgn s n:Int):Rat):=by
 unfold rq;rw[show dn 0=1 from rfl,Rat.mkRat_one]
theorem zqw:zp 0=1:=by
 unfold zp dq;simp only;rw[if_pos (by decide),zlN];rfl
theorem znU(e:Int)(t:Nat):zp (e+t)=rq false (2^t) 0*zp e:=by
 unfold zp;rw[zoP,zoQ,Nat.mul_one];rfl
theorem zvZ(t:Nat):zp t=rq false (2^t) 0:=by
 have h:=znU 0 t
 rwa [Int.zero_add,zqw,Rat.mul_one] at h
theorem zqy(e:Int)(t:Nat):zp (e+t)=zp t*zp e:=by rw[znU,zvZ]
theorem zAE(t:Nat):zp (-(t:Int))*zp t=1:=by
 have h:=zqy (-(t:Int)) t;rw[show -(t:Int)+(t:Int)=0 from by omega,zqw,Rat.mul_comm] at h;exact h.symm
theorem zrl{n d:Nat}(h:n≠0):0<rq false n d:=by
 have h1:rq false n d≠0:=fun e=>h (zfh.1 e);have h2:¬rq false n d<0:=fun e=>by
  have:=(zgU false n d).1 e;rw[zec] at this;omega
 exact Rat.lt_of_le_of_ne (Rat.not_lt.1 h2) (fun e=>h1 e.symm)
theorem zAD(e:Int):0<zp e:=by
 unfold zp dq;simp only;split
 .exact zrl (Nat.ne_of_gt (Nat.mul_pos (by decide) (Nat.two_pow_pos _)))
 .exact zrl (by decide)
theorem zrO{n k:Nat}{e:Int}(h:(zaa n).length<=k)(h1:-1048576<=e)(h2:e+32*k<=1048576):nok n e=true:=by
 by_cases h0:n=0
 .subst h0;rfl
 .have:=zif h;exact zov h0 (by omega) (by omega)
theorem zxN{p k:Nat}(h:p<32*k):2^p<4294967296^k:=by rw[zdh];exact zEV (by decide) h
theorem zrA{a b c:Rat}(h1:a<b)(h2:b<=c):a<c:=by grind
theorem zrB{a b c:Rat}(h1:a<=b)(h2:b<c):a<c:=by grind
def nzz(m:Nat)(e:Int):Rat:=((m:Int):Rat)*zp e
theorem zmr(s:Bool)(m:Nat)(e:Int):dq ⟨s,m,e⟩=if s then -nzz m e else nzz m e:=by
 rw[zoQ,zlN];unfold nzz;cases s
 .rfl
 .rw[zdO,Rat.intCast_neg,Rat.neg_mul];rfl
theorem zqx(t:Nat):zp t=(((2^t:Nat):Int):Rat):=by rw[zvZ,zlN];rfl
theorem zl5(m:Nat)(e:Int)(t:Nat):nzz (m*2^t) e=nzz m (e+t):=by
 unfold nzz;rw[zqy,zqx,Int.natCast_mul,Rat.intCast_mul];grind
theorem zoq{m n:Nat}{e:Int}:nzz m e<=nzz n e↔m<=n:=by
 have h:(nzz n e<nzz m e)↔n<m:=by
  unfold nzz;rw[Rat.mul_lt_mul_right (zAD e),Rat.intCast_lt_intCast];omega
 rw[<-Rat.not_lt,h];omega
theorem zl6{m n:Nat}{e:Int}:nzz m e<nzz n e↔m<n:=by
 rw[<-Rat.not_le,zoq];omega
theorem zeg(m:Nat)(e:Int):0<=nzz m e:=by
 have:=(zoq (m:=0) (n:=m) (e:=e)).2 (zEv _);have h0:nzz 0 e=0:=by unfold nzz;exact Rat.zero_mul _
 rwa [h0] at this
theorem zop{k f m:Nat}{e e':Int}(hf:2^k<=f)(hm:m<2^(k+1))(h:nzz f e<nzz m e'):nzz (f+1) e<=nzz m e':=by
 by_cases he:e<=e'
 .obtain⟨t,ht⟩:∃t:Nat,e'=e+t:=⟨(e'-e).toNat,by omega⟩;rw[ht,<-zl5] at h ⊢;exact zoq.2 (zl6.1 h)
 .obtain⟨t,ht⟩:∃t:Nat,e=e'+((t+1:Nat):Int):=⟨(e-e'-1).toNat,by omega⟩;rw[ht,<-zl5] at h;have h1:=zl6.1 h;have h2:2^k*2<=f*2^(t+1):=by
   rw[zEI,<-Nat.mul_assoc];refine zEA 2 (zEz hf (Nat.le_mul_of_pos_right f (Nat.two_pow_pos _)))
  rw[zEI] at hm;omega
def RepB(p:Nat)(v:Rat):Prop:=∃s m e,m<2^p/\v=dq ⟨s,m,e⟩
theorem RepB.neg{p:Nat}{v:Rat}(h:RepB p v):RepB p (-v):=by
 obtain⟨s,m,e,hm,rfl⟩:=h;refine⟨!s,m,e,hm,?_⟩;rw[zmr,zmr];cases s <;> simp
theorem zsy:dq Dy.zero=0:=by
 show dq ⟨false,0,0⟩=0;rw[zmr];unfold nzz;exact Rat.zero_mul _
theorem zzr(d:Dy):dq (negD d) = -dq d:=by
 obtain⟨s,m,e⟩:=d;unfold negD;simp only;rw[zmr,zmr];by_cases h:m=0
 .subst h;have h0:nzz 0 e=0:=by unfold nzz;exact Rat.zero_mul _
  rw[h0];split <;> split <;> rfl
 .have:=zav.2 h;rw[decide_eq_true (by omega),Bool.and_true];cases s <;> simp
theorem zrG{a b:Nat}(e:Int)(hb:b≠0):rq false a b*(((scD b e:Nat):Int):Rat)=nzz (scN a e) e:=by
 have h1:rq false a b*((b:Int):Rat)=((a:Int):Rat):=by
  have h:=zga false false a b b 0;rw[zlN] at h;have h2:rq (false != false) (a*b) (dn b*dn 0)=rq false a 0:=by
   rw[zim];refine zrn (by rw[znv,Nat.mul_one];exact zdI b) (by decide) ?_;rw[znv,zc1 hb];simp
  rw[h2,zlN] at h;exact h.symm
 unfold nzz;by_cases he:0<=e
 .obtain⟨t,ht⟩:∃t:Nat,e=t:=⟨e.toNat,by omega⟩;subst ht;rw[zcK he,zcl he,zqx,show((t:Int)).toNat=t from rfl,Int.natCast_mul,Rat.intCast_mul,<-Rat.mul_assoc,h1]
 .obtain⟨t,ht⟩:∃t:Nat,e = -(t:Int):=⟨(-e).toNat,by omega⟩;subst ht;rw[zfL he,zeT he,h1,show(-(-(t:Int))).toNat=t from by omega,Int.natCast_mul,Rat.intCast_mul,Rat.mul_assoc,<-zqx,Rat.mul_comm (zp t),zAE,Rat.mul_one]
theorem zo1{n:Nat}(h:n≠0):(0:Rat)<((n:Int):Rat):=by
 rw[show(0:Rat)=((0:Int):Rat) from rfl];exact Rat.intCast_lt_intCast.2 (by omega)
theorem zkg{a b m:Nat}{e:Int}(hb:b≠0):nzz m e<rq false a b↔m*scD b e<scN a e:=by
 have hd:=zhe hb e;rw[<-Rat.mul_lt_mul_right (zo1 hd),zrG e hb];have:nzz m e*(((scD b e:Nat):Int):Rat)=nzz (m*scD b e) e:=by
  unfold nzz;rw[Int.natCast_mul,Rat.intCast_mul];grind
 rw[this,zl6]
theorem zlX{a b m:Nat}{e:Int}(hb:b≠0):rq false a b<nzz m e↔scN a e<m*scD b e:=by
 have hd:=zhe hb e;rw[<-Rat.mul_lt_mul_right (zo1 hd),zrG e hb];have:nzz m e*(((scD b e:Nat):Int):Rat)=nzz (m*scD b e) e:=by
  unfold nzz;rw[Int.natCast_mul,Rat.intCast_mul];grind
 rw[this,zl6]
theorem zrF{a b:Nat}{e:Int}(hb:b≠0) :
  nzz (rndQ a b e false) e<=rq false a b/\rq false a b<=nzz (rndQ a b e true) e/\rndQ a b e true<=rndQ a b e false+1/\rndQ a b e false<=rndQ a b e true ∧
  (rndQ a b e true=rndQ a b e false\/nzz (rndQ a b e false) e<rq false a b)/\rq false a b<nzz (rndQ a b e false+1) e:=by
 have hd:=Nat.pos_of_ne_zero (zhe hb e);have h1:=Nat.div_add_mod (scN a e) (scD b e);have h2:=Nat.mod_lt (scN a e) hd;rw[zgW];have l1:nzz (scN a e/scD b e) e<=rq false a b:=Rat.not_lt.1 fun h=>by
  have h:=(zlX hb).1 h;rw[zEU] at h;omega
 have l3:rq false a b<nzz (scN a e/scD b e+1) e:=(zlX hb).2 (by rw[Nat.add_mul,Nat.one_mul,zEU];omega);by_cases h:scN a e%scD b e≠0
 .rw[zip h];have l2:nzz (scN a e/scD b e) e<rq false a b:=(zkg hb).2 (by rw[zEU];omega);refine⟨l1,Rat.not_lt.1 fun h=>?_,zEt _,Nat.le_succ _,.inr l2,l3⟩;have h:=(zkg hb).1 h;rw[Nat.add_mul,Nat.one_mul,zEU] at h;omega
 .rw[ziq h];refine⟨l1,Rat.not_lt.1 fun h=>?_,Nat.le_succ _,zEt _,.inl rfl,l3⟩;have h:=(zkg hb).1 h;rw[zEU] at h;omega
theorem absq(r:Rat):r=if r.num<0 then -rq false r.num.natAbs r.den else rq false r.num.natAbs r.den:=by
 have h:=zkd r;unfold zaQ zaw at h;by_cases hn:r.num<0
 .rw[if_pos hn,<-zrm];rw[decide_eq_true hn] at h;exact h.symm
 .rw[if_neg hn];rw[decide_eq_false hn] at h;exact h.symm
theorem zo9{n p:Nat}(h:bl n<=p):n<2^p:=zEy (zhF n) (zEC (by decide) h)
theorem zBx(s:Bool){q p:Nat}(e:Int)(hp:1<=p)(hq:q<=2^p):bl (nrm s q e).mag<=p:=by
 by_cases h:q<2^p
 .exact zaA (zEQ (zjH s q e) h)
 .have:q=2^p:=by omega
  subst this;have h0:2^p≠0:=Nat.ne_of_gt (Nat.two_pow_pos p)
  cases hk:nok (2^p) e with
  |false=>rw[zrM hk];exact zEz (by decide) hp
  |true=>
   have h1:(nrm s (2^p) e).mag=1:=by
    unfold nrm;rw[if_neg h0,if_pos hk,zAN];exact Nat.div_self (Nat.two_pow_pos p)
   rw[h1];exact zEz (by decide) hp
theorem zlP{r:Rat}{p:Nat}(hr:Br r 25000)(h0:r.num≠0)(h1:1<=p)(h2:p<=4096) :
  ∃(e:Int) (f g:Nat),2^(p-1)<=f/\f<2^p/\g<=f+1/\f<=g/\nzz f e<=rq false r.num.natAbs r.den/\rq false r.num.natAbs r.den<=nzz g e ∧
   (g=f\/nzz f e<rq false r.num.natAbs r.den)/\rq false r.num.natAbs r.den<nzz (f+1) e/\∀aw:Bool,rndD r p aw=nrm (decide (r.num<0)) (if aw then g else f) e/\nok (if aw then g else f) e=true:=by
 obtain⟨a,ha⟩:∃a,r.num.natAbs=a:=⟨_,rfl⟩;have hnl:(zaa a).length<=25000:=ha ▸ Bz.use (z:=r.num) (zEt _);have hdl:(zaa r.den).length<=25001:=Bn.use (n:=r.den) (zEt _);have hlg:=zfn hnl hdl;have ha0:a≠0:=by omega
 obtain⟨e,he⟩:∃e:Int,lg a r.den-p+1=e:=⟨_,rfl⟩;obtain⟨s1,s2,s3,s4,s5,s6⟩:=zrF (a:=a) (e:=e) r.den_nz;have hb:=zkZ (e:=e) ha0 r.den_nz (by omega);have hb':bl (rndQ a r.den e false)=p:=by rw[zgW];omega
 have hqf:rndQ a r.den e false<2^p:=zo9 (by omega);have hqp:(2:Nat)^p<4294967296^200:=zxN (by omega);have hbn:∀w,nok (rndQ a r.den e w) e=true:=fun w=>by
  have hle:rndQ a r.den e w<=2^p:=by cases w <;> omega
  generalize (2:Nat)^p=X at *;exact zrO (k:=200) (zag.2 (by omega)) (by omega) (by omega)
 have hf0:rndQ a r.den e false≠0:=by intro h;rw[h] at hb';have:bl 0=0:=rfl;omega
 have hl:=zmG hf0;rw[hb'] at hl;refine⟨e,rndQ a r.den e false,rndQ a r.den e true,hl,zo9 (by omega),s3,s4,ha ▸ s1,ha ▸ s2,ha ▸ s5,ha ▸ s6,fun aw=>?_⟩;have hif:(if aw then rndQ a r.den e true else rndQ a r.den e false)=rndQ a r.den e aw:=by cases aw <;> rfl
 constructor
 .rw[zex (by omega) (by omega) h0,hif,ha];unfold rnd;rw[he]
 .rw[hif];exact hbn aw
theorem rndD_bl{r:Rat}{p:Nat}(hr:Br r 25000)(h1:1<=p)(h2:p<=4096)(aw:Bool):bl (rndD r p aw).mag<=p:=by
 by_cases h0:r.num=0
 .unfold rndD;rw[if_pos (by omega)];exact zEv _
 .obtain⟨e,f,g,f1,f2,f3,f4,_,_,_,_,hd⟩:=zlP hr h0 h1 h2;rw[(hd aw).1];exact zBx _ _ h1 (by split <;> omega)
@[reducible] def dnD(r:Rat)(p:Int):Dy:=rndD r p (decide (sg r<0))
@[reducible] def upD(r:Rat)(p:Int):Dy:=rndD r p (decide (0<sg r))
theorem zsA{r:Rat}{p:Nat}(hr:Br r 25000)(h1:1<=p)(h2:p<=4096) :
  dq (dnD r p)<=r/\(∀v,RepB p v->v<=r->v<=dq (dnD r p)):=by
 by_cases h0:r.num=0
 .have:dnD r p=Dy.zero:=by unfold dnD rndD;rw[if_pos (by omega)]
  have hz:r=0:=Rat.num_eq_zero.1 h0;rw[this,zsy,hz];exact⟨Rat.le_refl,fun v _ h=>h⟩
 .obtain⟨q,rfl⟩:∃q,p=q+1:=⟨p-1,by omega⟩;obtain⟨e,f,g,f1,f2,f3,f4,f5,f6,f7,f8,hdk⟩:=zlP hr h0 h1 h2;obtain⟨hd,hk⟩:=hdk (decide (sg r<0));have hq:dq (dnD r ((q+1:Nat):Int))=_:=(congrArg dq hd).trans (zwV hk);rw[hq,zmr];have hx:=absq r;rw[zlD];generalize rq false r.num.natAbs r.den=x at *;rcases zbx r.num with⟨c1,c2⟩|⟨c1,c2⟩|⟨c1,c2⟩
  .rw[if_pos c1] at hx;rw[c2,decide_eq_true c1,if_pos rfl,if_pos (by decide)];refine⟨by grind,fun v hv hle=>?_⟩;obtain⟨s,m,e',hm,rfl⟩:=hv;rw[zmr] at hle ⊢;have hm0:=zeg m e';have hfn:=zeg f e;have key:nzz g e<=nzz m e':=by
    have hxm:x<=nzz m e':=by
     cases s
     .simp only[zEL,if_false] at hle;have hx0:=zeg f e;have hfp:0<nzz f e:=by
       have:=(zl6 (m:=0) (n:=f) (e:=e)).2 (zEy (Nat.two_pow_pos _) f1);have h0:nzz 0 e=0:=by unfold nzz;exact Rat.zero_mul _
       rwa [h0] at this
      grind
     .simp only[if_true] at hle;grind
    rcases f7 with h|h
    .rw[h];exact Rat.le_trans f5 hxm
    .have:=zop (k:=q) f1 hm (zrA h hxm);exact Rat.le_trans (zoq.2 f3) this
   cases s
   .simp only[zEL,if_false] at hle ⊢;grind
   .simp only[if_true] at hle ⊢;grind
  .exact absurd c1 h0
  .rw[if_neg (by omega)] at hx;rw[c2,decide_eq_false (by omega:¬r.num<0),if_neg (by decide),if_neg (by decide)];refine⟨by grind,fun v hv hle=>?_⟩;obtain⟨s,m,e',hm,rfl⟩:=hv;rw[zmr] at hle ⊢;have hm0:=zeg m e';have hf0:=zeg f e;cases s
   .simp only[zEL,if_false] at hle ⊢;refine Rat.not_lt.1 fun h=>?_;have h3:=zop (k:=q) f1 hm h;have h4:=zrB (Rat.le_trans h3 hle) (hx ▸ f8);exact Rat.lt_irrefl h4
   .simp only[if_true] at hle ⊢;grind
theorem zxk(r:Rat)(p:Int):dq (upD r p) = -dq (dnD (-r) p):=by
 have h:=zun r p;have h2:dq (dnD (-r) p)=dq (negD (upD r p)):=congrArg dq h;rw[h2,zzr,Rat.neg_neg]
theorem zxj{r:Rat}{p:Nat}(hr:Br r 25000)(h1:1<=p)(h2:p<=4096) :
  r<=dq (upD r p)/\(∀v,RepB p v->r<=v->dq (upD r p)<=v):=by
 haveI:=hr;obtain⟨d1,d2⟩:=zsA (r:=-r) (p:=p) ⟨⟨by show(zaa (zaw (-r))).length<=25000;rw[zkL];exact hr.fit.n,by show(zaa (zaE (-r))).length<=25000;rw[zkQ];exact hr.fit.d⟩⟩ h1 h2;rw[zxk];refine⟨by grind,fun v hv hle=>?_⟩;have:=d2 (-v) hv.neg (by grind);grind
theorem dn_le{r:Rat}{p:Int}(hr:Br r 25000)(h:¬(p<1\/4096<p)):dq (dnD r p)<=r:=by
 obtain⟨k,rfl⟩:=Int.eq_ofNat_of_zero_le (show 0<=p by omega);exact(zsA hr (by omega) (by omega)).1
theorem le_up{r:Rat}{p:Int}(hr:Br r 25000)(h:¬(p<1\/4096<p)):r<=dq (upD r p):=by
 obtain⟨k,rfl⟩:=Int.eq_ofNat_of_zero_le (show 0<=p by omega);exact(zxj hr (by omega) (by omega)).1
theorem zrs{r:Rat}{p:Int}{w:Bool}{H:Nat}(h:Hb r H)(hH:H<=790000):Hb (dq (rndD r p w)) (H+4100):=by
 by_cases hz:p<1\/4096<p\/r.num=0
 .have:rndD r p w=Dy.zero:=if_pos hz;rw[this,zsy];exact Hb.z
 .have h1:¬p<1:=fun e=>hz (.inl e);have h2:¬4096<p:=fun e=>hz (.inr (.inl e));have h3:¬r.num=0:=fun e=>hz (.inr (.inr e));rw[zex h1 h2 h3];unfold rnd;obtain⟨a,ha⟩:∃a,r.num.natAbs=a:=⟨_,rfl⟩;have ha0:a≠0:=by omega
  rw[ha];have hla:bl a<=H:=zaA (ha ▸ h.num);have hlb:bl r.den<=H+1:=zaA (by have:=h.den;have:=r.den_pos;rw[zEI];omega);have hlg:=zuE a r.den;have hq:=zkZ (a:=a) (b:=r.den) (e:=lg a r.den-p+1) ha0 r.den_nz (by omega);obtain⟨e,he⟩:∃e,lg a r.den-p+1=e:=⟨_,rfl⟩;rw[he] at hq ⊢;have hq1:bl (scN a e/scD r.den e)=p.toNat:=by omega
  have hq2:scN a e/scD r.den e<2^p.toNat:=hq1 ▸ zhF _;have hq3:rndQ a r.den e w<=2^p.toNat:=by unfold rndQ;split <;> omega
  obtain⟨q,hqq⟩:∃q,rndQ a r.den e w=q:=⟨_,rfl⟩;rw[hqq] at hq3 ⊢;have hp2:p.toNat<=4096:=by omega
  have hl0:∀k:Nat,4096<32*k->(zaa q).length<=k:=fun k hk=>by
   refine zag.2 (zEQ hq3 ?_);rw[zdh];exact zEV (by decide) (by omega)
  have hl:=hl0 200 (by decide);rw[zwV (zrO hl (by omega) (by omega))];unfold dq;split
  .rename_i h0;simp only[] at h0;refine Hb.rq ?_ (Nat.one_le_two_pow);refine zEQ (zEA _ hq3) ?_;rw[<-zEJ];exact zEV (by decide) (by simp only[];omega)
  .rename_i h0;simp only[] at h0;refine Hb.rq (zEQ hq3 (zEV (by decide) (by omega))) ?_;rw[zc1 (Nat.ne_of_gt (Nat.pow_pos (by decide)))];exact zEC (by decide) (by simp only[];omega)
def zcI(x:Rat)(up:Bool)(bits:Int):Rat:=if bits=0 then x else if up=true then dq (upD x bits) else dq (dnD x bits)
theorem zd4{x:Rat}{up:Bool}{bits:Int}{H:Nat}(h:Hb x H)(hH:H<=790000):Hb (zcI x up bits) (H+4100):=by
 unfold zcI;split
 .exact h.mono (by omega)
 .split
  .exact zrs h hH
  .exact zrs h hH
theorem Hb.limb{r:Rat}{n k:Nat}(h:Hb r n)(hk:n<32*k):Br r k:=by
 have h1:2^n<4294967296^k:=by rw[zdh];exact zEV (by decide) hk
 have h3:=h.num;have h4:=h.den;exact Br.of (by omega) (by omega)
theorem zke{x:Rat}{bits:Int}{H:Nat}(h:Hb x H)(hH:H<800000)(hb:0<=bits)(hb2:bits<=4096):zcI x false bits<=x/\x<=zcI x true bits:=by
 have hx:Br x 25000:=h.limb (by omega);unfold zcI;by_cases h0:bits=0
 .simp only[if_pos h0];exact⟨Rat.le_refl,Rat.le_refl⟩
 .simp only[if_neg h0];exact⟨dn_le hx (by omega),le_up hx (by omega)⟩
theorem FOk.neg{b n:Nat}{f:Af}(h:FOk b n f):FOk b n (fSc f ((-1:Int):Rat)):=by
 have hneg:∀{x:Rat},Hb x b->Hb (x*((-1:Int):Rat)) b:=fun {x} hx=>by
  have:x*((-1:Int):Rat) = -x:=by rw[m1];grind
  rw[this];haveI:=hx;exact Hb.neg
 refine⟨by show CanT (scT f.ts _);rw[zed];exact zfK h.can,fun t ht=>?_,hneg h.cb,fun t ht=>?_⟩
 .have ht:t∈scT f.ts ((-1:Int):Rat):=ht;rw[zed] at ht;obtain⟨u,h1,h2,h3,_⟩:=zeu ht;rw[h3];exact hneg (h.bd u h1)
 .have ht:t∈scT f.ts ((-1:Int):Rat):=ht;rw[zed] at ht;obtain⟨u,h1,h2,_⟩:=zeu ht;rw[<-h2];exact h.var u h1
def withL(s:Sc)(l:List Lm):Sc:=⟨s.q,s.path,l⟩
@[reducible] def zbo(p:Af):Af:=fSc p ((-1:Int):Rat)
def bdA(s:Sc)(l:List Lm)(j:Nat)(p:Af):List Lm:=if abB (withL s l) p=true then[⟨(j:Int),false,qOf (abQ (withL s l) p),abL (withL s l) p⟩] else[]
def bdB(s:Sc)(l:List Lm)(j:Nat)(p:Af):List Lm:=if abB (withL s l) (zbo p)=true then[⟨(j:Int),true,qOf (-abQ (withL s l) (zbo p)),abL (withL s l) (zbo p)⟩] else[]
def zth(s:Sc)(l:List Lm)(j:Nat):List Lm:=
 match s.q.g.us[j]? with
 |none=>l
 |some p=>l++bdA s l j p++bdB s l j p
def bdN(s:Sc)(n:Nat):List Lm:=(List.range n).foldl (zth s) s.lems
theorem zvv(s:Sc)(n:Nat):bdN s (n+1)=zth s (bdN s n) n:=by unfold bdN;rw[List.range_succ,zER];rfl
theorem zhb{s:Sc}{n:Nat}{p:Af}(h:s.q.g.us[n]?=some p):bdN s (n+1)=bdN s n++bdA s (bdN s n) n p++bdB s (bdN s n) n p:=by
 rw[zvv];unfold zth;rw[h]
theorem zDM{s:Sc}{l:List Lm}{j:Nat}{p:Af}(h:abB (withL s l) p=true):bdA s l j p=[⟨(j:Int),false,qOf (abQ (withL s l) p),abL (withL s l) p⟩]:=if_pos h
theorem zDO{s:Sc}{l:List Lm}{j:Nat}{p:Af}(h:abB (withL s l) p=false):bdA s l j p=[]:=if_neg (by rw[h];decide)
theorem zDJ{s:Sc}{l:List Lm}{j:Nat}{p:Af}(h:abB (withL s l) (zbo p)=true):bdB s l j p=[⟨(j:Int),true,qOf (-abQ (withL s l) (zbo p)),abL (withL s l) (zbo p)⟩]:=if_pos h
theorem zDL{s:Sc}{l:List Lm}{j:Nat}{p:Af}(h:abB (withL s l) (zbo p)=false):bdB s l j p=[]:=if_neg (by rw[h];decide)
def zfu(s:Sc):Sc:=withL s (bdN s s.q.g.us.length)
theorem zl8{s:Sc}(h:SOk s){f:Af}{j:Nat}{up:Bool}{x:Rat}{l:List Mu}(hj:j<s.q.g.us.length)(hx:Hb x (KB j)):LOk s.q ⟨(j:Int),up,qOf x,l⟩:=
 ⟨by simp,by simpa using hj,by rw[zaj],by rw[zaj];simpa using hx⟩
theorem LOk.withL{s:Sc}{l:List Lm}(h:SOk s)(hl:∀m∈l,LOk s.q m)(hll:l.length<=100):SOk (Rc.withL s l):=⟨h.q,h.d,h.pl,hl,hll⟩
theorem zDN{s:Sc}(h:SOk s){l:List Lm}{j:Nat}{p:Af}(hs:SOk (withL s l))(hp:s.q.g.us[j]?=some p):(∀m∈bdA s l j p,LOk s.q m)/\(bdA s l j p).length<=1:=by
 have hj:=(zEr.1 hp).1;unfold bdA;split
 .rename_i hb;refine⟨fun m hm=>?_,by simp⟩;rw[List.mem_singleton] at hm;subst hm;exact zl8 (f:=p) h hj ((zeO hs hj (hs.q.g.us _ p hp) hb).mono (by omega))
 .exact⟨fun m hm=>by simp at hm,by simp⟩
theorem zDK{s:Sc}(h:SOk s){l:List Lm}{j:Nat}{p:Af}(hs:SOk (withL s l))(hp:s.q.g.us[j]?=some p):(∀m∈bdB s l j p,LOk s.q m)/\(bdB s l j p).length<=1:=by
 have hj:=(zEr.1 hp).1;unfold bdB;split
 .rename_i hb;refine⟨fun m hm=>?_,by simp⟩;rw[List.mem_singleton] at hm;subst hm;have h1:=zeO hs hj (hs.q.g.us _ p hp).neg hb;haveI:=h1.mono (show KB j-4200<=KB j by omega);exact zl8 (f:=p) h hj Hb.neg
 .exact⟨fun m hm=>by simp at hm,by simp⟩
theorem zti{s:Sc}(h:SOk s)(h80:s.lems.length<=80):∀n,n<=s.q.g.us.length->(∀m∈bdN s n,LOk s.q m)/\(bdN s n).length<=s.lems.length+2*n
 |0,_=>⟨h.l,zEt _⟩
 |n+1,hn=>by
  obtain⟨h1,h2⟩:=zti h h80 n (by omega);have h4:=h.q.g.u4;have hs:=LOk.withL h h1 (by omega);obtain⟨p,hp⟩:∃p,s.q.g.us[n]?=some p:=⟨_,zEp (by omega)⟩;obtain⟨a1,a2⟩:=zDN h hs hp;obtain⟨b1,b2⟩:=zDK h hs hp;rw[zhb hp];refine⟨fun m hm=>?_,by simp only[zEF];omega⟩;rcases zEK.1 hm with hm|hm
  .rcases zEK.1 hm with hm|hm
   .exact h1 m hm
   .exact a1 m hm
  .exact b1 m hm
theorem znC{s:Sc}(h:SOk s)(h80:s.lems.length<=80){n:Nat}(hn:n<=s.q.g.us.length):SOk (withL s (bdN s n)):=by
 obtain⟨h1,h2⟩:=zti h h80 n hn;have h4:=h.q.g.u4;exact LOk.withL h h1 (by omega)
theorem znB{s:Sc}(h:SOk s)(h80:s.lems.length<=80):SOk (zfu s)/\(zfu s).lems.length<=s.lems.length+8:=by
 have h4:=h.q.g.u4;obtain⟨h1,h2⟩:=zti h h80 s.q.g.us.length (zEt _);exact⟨znC h h80 (zEt _),by show(bdN s s.q.g.us.length).length<=_;omega⟩
theorem zxb{s:Sc}(h:SOk s){f:Af}{j:Nat}(hj:j<s.q.g.us.length)(hf:FOk 3 (s.q.g.inp+j) f):Br (abQ s f) 135002:=by
 cases hb:abB s f
 .unfold abQ;rw[hb,if_neg (by decide)];exact Br.zero.mono (by omega)
 .have h4:=h.q.g.u4;have hk:=zk7 (j:=j) (by omega);exact((zeO h hj hf hb).mono (show KB j-4200<=135000 by omega)).br.mono (by omega)
def zkh(l:List Nat)(q:Qu)(s:List Dc×Nat):List Dc×Nat:=
 if nx l s.2 4=2\/nx l s.2 4=3 then(s.1++[⟨1+nx l s.2 4,nx l (nk l s.2) q.g.inp,zfD l (nk l (nk l s.2))⟩],nk l (nk l (nk l (nk l s.2))))
 else if q.g.us.length=0 then(s.1,nk l s.2)
 else if (zeM s.1 1 ((nx l (nk l s.2) q.g.us.length:Nat):Int)||zeM s.1 2 ((nx l (nk l s.2) q.g.us.length:Nat):Int))=true then(s.1,nk l (nk l s.2))
 else(s.1++[⟨1+nx l s.2 4,nx l (nk l s.2) q.g.us.length,0⟩],nk l (nk l s.2))
def zgj(l:List Nat)(q:Qu)(k n:Nat):List Dc×Nat:=(List.range n).foldl (fun s _=>zkh l q s) ([],k)
theorem zcL(l:List Nat)(q:Qu)(k n:Nat):zgj l q k (n+1)=zkh l q (zgj l q k n):=by unfold zgj;rw[List.range_succ,zER];rfl
theorem zki{l:List Nat}{q:Qu}{k:Nat}(hq:QOk q)(hk:k<=l.length):∀n,(∀d∈(zgj l q k n).1,DOk 200 q d)/\(zgj l q k n).1.length<=n/\(zgj l q k n).2<=l.length
 |0=>⟨fun d hd=>by simp[zgj] at hd,by simp[zgj],hk⟩
 |n+1=>by
  obtain⟨h1,h2,h3⟩:=zki hq hk n;rw[zcL];have h4:nx l (zgj l q k n).2 4<4:=zdj (by decide);unfold zkh;split
  .rename_i hc;refine⟨fun d hd=>?_,by simp;omega,za3 (za3 (za3 (za3 h3)))⟩;rcases zEK.1 hd with hd|hd
   .exact h1 d hd
   .rw[List.mem_singleton] at hd;subst hd;have:=hq.g.i1;exact⟨.inr ⟨by show 1+nx l _ 4=3\/1+nx l _ 4=4;omega,zdj (by omega)⟩,(numq_hb _ _).mono (by omega)⟩
  .rename_i hc;split
   .exact⟨h1,by show(zgj l q k n).1.length<=n+1;omega,za3 h3⟩
   .rename_i hu;split
    .exact⟨h1,by show(zgj l q k n).1.length<=n+1;omega,za3 (za3 h3)⟩
    .refine⟨fun d hd=>?_,by simp;omega,za3 (za3 h3)⟩;rcases zEK.1 hd with hd|hd
     .exact h1 d hd
     .rw[List.mem_singleton] at hd;subst hd;exact⟨.inl ⟨by show 1+nx l _ 4=1\/1+nx l _ 4=2;omega,zdj (by omega),rfl⟩,Hb.z⟩
def zgk(l:List Nat):Sc:=⟨(zax l 0).1,(zgj l (zax l 0).1 (nk l (zax l 0).2) (nx l (zax l 0).2 4)).1,[]⟩
theorem zkj(l:List Nat):SOk (zgk l):=by
 have hq:=zlY l 0;have h4:nx l (zax l 0).2 4<4:=zdj (by decide);obtain⟨h1,h2,h3⟩:=zki (l:=l) hq (za3 (zlZ (zEv _))) (nx l (zax l 0).2 4);exact⟨hq,h1,by show(zgj _ _ _ _).1.length<=100;omega,fun m hm=>by simp[zgk] at hm,by simp[zgk]⟩
theorem dc0(k i:Nat):D.agg [Leaf.val (.int .i64 (k:Int)),Leaf.val (.int .i64 (i:Int)),Leaf.val (.bool false),nilL,nilL]=D.agg [Leaf.val (.int .i64 (k:Int)),Leaf.val (.int .i64 (i:Int)),Leaf.val (.bool (zaQ 0)),zaf (zaa (zaw 0)),zaf (zaa (zaE 0))]:=by
 rw[zbp,zbq,zah];rfl
def zqs(l:List Nat):Nat:=l.foldl (· + ·) 0
theorem zls{l:List Nat}{i x:Nat}(h:l[i]?=some x):zqs (l.take (i+1))=zqs (l.take i)+x:=by
 unfold zqs;rw[zaO h,zER];rfl
theorem zm2{l:List Nat}(h:∀x∈l,x<256):∀i,i<=l.length->zqs (l.take i)<=256*i
 |0,_=>by simp[zqs]
 |i+1,hi=>by
  obtain⟨x,hx⟩:∃x,l[i]?=some x:=⟨_,zEp (by omega)⟩;rw[zls hx];have:=zm2 h i (by omega);have:=h x (zEq hx);omega
def zbg(l:List Nat):Sc:=if 0<zqs l%3 then zfu (zgk l) else zgk l
theorem zzo(l:List Nat):SOk (zbg l)/\(zbg l).lems.length<=8:=by
 have h:=zkj l;unfold zbg;split
 .have:=znB h (zEv _);exact⟨this.1,by have h2:=this.2;simpa[zgk] using h2⟩
 .exact⟨h,zEv _⟩
def zb4(l:List Lm)(j:Nat)(up:Bool)(x:Rat):Bool:=
 if up=true then decide ((zak l (j:Int)).2=0)||decide (x<lv l (zak l (j:Int)).2) else decide ((zak l (j:Int)).1=0)||decide (lv l (zak l (j:Int)).1<x)
abbrev Dom:Type:=Sc->Af->Rat×List Mu×Bool
def zjk(d:Dom)(s:Sc)(bits:Int)(up:Bool)(p:Af):Rat:=if up=true then zcI (-(d s (zbo p)).1) true bits else zcI (d s p).1 false bits
def zqV(d:Dom)(s:Sc)(up:Bool)(p:Af):List Mu:=if up=true then(d s (zbo p)).2.1 else(d s p).2.1
def zig(d:Dom)(s:Sc)(up:Bool)(p:Af):Bool:=if up=true then(d s (zbo p)).2.2 else(d s p).2.2
def zds(d:Dom)(s:Sc)(bits:Int)(j:Nat)(up:Bool)(p:Af):List Lm:=
 if zig d s up p&&zb4 s.lems j up (zjk d s bits up p) then[⟨(j:Int),up,qOf (zjk d s bits up p),zqV d s up p⟩] else[]
def za8(d:Dom)(s:Sc)(bits:Int)(l:List Lm)(j:Nat)(p:Af):List Lm:=l++zds d (withL s l) bits j false p
def zm8(d:Dom)(s:Sc)(bits:Int)(l:List Lm)(j:Nat):List Lm:=
 match s.q.g.us[j]? with
 |none=>l
 |some p=>za8 d s bits l j p++zds d (withL s (za8 d s bits l j p)) bits j true p
def runN(d:Dom)(s:Sc)(bits:Int)(n:Nat):List Lm:=(List.range n).foldl (zm8 d s bits) s.lems
theorem zra(d:Dom)(s:Sc)(bits:Int)(n:Nat):runN d s bits (n+1)=zm8 d s bits (runN d s bits n) n:=by unfold runN;rw[List.range_succ,zER];rfl
theorem zcV{d:Dom}{s:Sc}{bits:Int}{n:Nat}{p:Af}(h:s.q.g.us[n]?=some p) :
  runN d s bits (n+1)=za8 d s bits (runN d s bits n) n p++zds d (withL s (za8 d s bits (runN d s bits n) n p)) bits n true p:=by
 rw[zra];unfold zm8;rw[h]
def zbl(d:Dom)(s:Sc)(bits:Int):Sc:=withL s (runN d s bits s.q.g.us.length)
def zf1(d:Dom):Prop:=∀(s:Sc),SOk s->∀(j:Nat) (f:Af),j<s.q.g.us.length->FOk 3 (s.q.g.inp+j) f->(d s f).2.2=true->Hb (d s f).1 (KB j-4200)
theorem zoa{d:Dom}(hd:zf1 d){s:Sc}(h:SOk s){bits:Int}{j:Nat}{up:Bool}{p:Af}(hp:s.q.g.us[j]?=some p):(∀m∈zds d s bits j up p,LOk s.q m)/\(zds d s bits j up p).length<=1:=by
 have hj:=(zEr.1 hp).1;have hK:5000<=KB j:=zvP j;have hK2:=zk7 (j:=j) (by have:=h.q.g.u4;omega);unfold zds;split
 .rename_i hb;rw[zED] at hb;refine⟨fun m hm=>?_,by simp⟩;rw[List.mem_singleton] at hm;subst hm;refine zl8 (f:=p) h hj ?_;have hb1:=hb.1;unfold zig at hb1;unfold zjk;split
  .rename_i hu;rw[if_pos hu] at hb1;haveI:=hd s h j _ hj (h.q.g.us _ p hp).neg hb1;exact(zd4 (H:=KB j-4200) Hb.neg (by omega)).mono (by omega)
  .rename_i hu;rw[if_neg hu] at hb1;exact(zd4 (hd s h j _ hj (h.q.g.us _ p hp) hb1) (by omega)).mono (by omega)
 .exact⟨fun m hm=>by simp at hm,by simp⟩
theorem zgS{d:Dom}(hd:zf1 d){s:Sc}(h:SOk s){bits:Int}{l:List Lm}{j:Nat}{p:Af}(hs:SOk (withL s l))(hp:s.q.g.us[j]?=some p) :
  (∀m∈za8 d s bits l j p,LOk s.q m)/\(za8 d s bits l j p).length<=l.length+1:=by
 obtain⟨a1,a2⟩:=zoa hd (bits:=bits) (up:=false) hs hp;unfold za8;refine⟨fun m hm=>?_,by simp only[zEF];omega⟩;rcases zEK.1 hm with hm|hm
 .exact hs.l m hm
 .exact a1 m hm
theorem zeU{d:Dom}(hd:zf1 d){s:Sc}(h:SOk s)(h80:s.lems.length<=80)(bits:Int):∀n,n<=s.q.g.us.length->(∀m∈runN d s bits n,LOk s.q m)/\(runN d s bits n).length<=s.lems.length+2*n
 |0,_=>⟨h.l,zEt _⟩
 |n+1,hn=>by
  obtain⟨h1,h2⟩:=zeU hd h h80 bits n (by omega);have h4:=h.q.g.u4;have hs:=LOk.withL h h1 (by omega);obtain⟨p,hp⟩:∃p,s.q.g.us[n]?=some p:=⟨_,zEp (by omega)⟩;obtain⟨a1,a2⟩:=zgS hd h (bits:=bits) hs hp;have hs2:=LOk.withL h a1 (by omega);obtain⟨b1,b2⟩:=zoa hd (bits:=bits) (up:=true) hs2 hp;rw[zcV hp];refine⟨fun m hm=>?_,by simp only[zEF];omega⟩;rcases zEK.1 hm with hm|hm
  .exact a1 m hm
  .exact b1 m hm
theorem zff{d:Dom}(hd:zf1 d){s:Sc}(h:SOk s)(h80:s.lems.length<=80){bits:Int}{n:Nat}(hn:n<=s.q.g.us.length):SOk (withL s (runN d s bits n)):=by
 obtain⟨h1,h2⟩:=zeU hd h h80 bits n hn;have h4:=h.q.g.u4;exact LOk.withL h h1 (by omega)
theorem zrc{d:Dom}(hd:zf1 d){s:Sc}(h:SOk s)(h80:s.lems.length<=80)(bits:Int):SOk (zbl d s bits)/\(zbl d s bits).lems.length<=s.lems.length+8:=by
 have h4:=h.q.g.u4;obtain⟨h1,h2⟩:=zeU hd h h80 bits s.q.g.us.length (zEt _);exact⟨zff hd h h80 (zEt _),by show(runN d s bits s.q.g.us.length).length<=_;omega⟩
def zDW:Dom:=fun s f=>(abQ s f,abL s f,abB s f)
theorem znI:zf1 zDW:=fun s h j f hj hf hb=>zeO h hj hf hb
end Rc
