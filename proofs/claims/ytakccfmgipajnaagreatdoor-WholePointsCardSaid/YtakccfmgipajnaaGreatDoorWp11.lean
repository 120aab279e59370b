/- Parts of the proof, 11: the texts WpG, Dg, Fw1, Fw2, Pin, WpX, Snd, EvA, EvP, EvB, as far as they are used. -/
import Derived.Test.YtakccfmgipajnaaGreatDoorWp10
import Derived.WalkKit
import Derived.RangeFuncLeaves
import Derived.Test.YtakccfmgipajnaaGreatDoorProg
set_option linter.unusedSimpArgs false
set_option linter.unusedVariables false
set_option maxRecDepth 10000
namespace Go.Proofs.YtakccfmgipajnaaGreatDoor
open Go Go.RowKit Rc
set_option maxHeartbeats 2000000 in
theorem SP(s:Sc)(hs:dx s)(hg:oY s.q)(h80:s.aq.length<=80)(root:Bool):ar Tryz.prog 19 [eM s,V.one (ab.val (.int .i64 (0))),V.one (ab.val (.bool root))] (R.aW [dE (uC (Ik s root) (ej (c8 s) s.q.goal)),qV (an (dp (c8 s) s.q.goal))]):=by
 refine aF Tryz.func19 Tryz.ntmps19 rfl (fun w0 A0=>?_);obtain⟨hbs,_⟩:=qj hs h80;have hbl:=hbs.ll;have hbp:=hbs.pl;have hge:=Vx s;have hgl:FL 500001 (s.q.g.ag+s.q.g.us.length) s.q.goal:=hs.q.goal.fl;refine zc 24 rfl (za 1 rfl ?_);refine cV rfl (fun hr=>?_) (fun hr=>?_)
 .refine zc 19 rfl (aj oH rfl (oP s (by assumption) (by omega)) (zl 10 rfl (aj yd rfl (Ds (c8 s) hbs.B (by omega) (by omega) hbs.q hbs.d (by omega) (by omega) s.q.goal hg.ts (by omega) hgl (by omega)) (zl 15 rfl (aa rfl (aw rfl) (aa rfl (lu aV ((c8 s).aq) (0) rfl rfl rfl eC iD rfl (by omega)) (zl 8 rfl ?_)))))));refine aE 0 [(2,1),(3,2)] [1,2] (dz 4 rfl (aB (za 1 rfl ?_)));exact aI ai rfl (by have hr_:root=true:=hr;subst hr_;rfl)
 .refine zc 13 rfl (aj oH rfl (oP s (by assumption) (by omega)) (zl 10 rfl (aj yd rfl (Ds (c8 s) hbs.B (by omega) (by omega) hbs.q hbs.d (by omega) (by omega) s.q.goal hg.ts (by omega) hgl (by omega)) (zl 15 rfl (aa rfl (aw rfl) (aa rfl (lu aV ((c8 s).aq) (s.aq.length) rfl rfl rfl eC iD rfl (by omega)) (zl 8 rfl ?_)))))));refine aE 0 [(2,1),(3,2)] [1,2] (dz 4 rfl (aB (za 1 rfl ?_)));exact aI ai rfl (by have hr_:root=false:=hr;subst hr_;rfl)
set_option maxHeartbeats 2000000 in
theorem SO(s:Sc)(k:Nat)(hk:k<=1000)(hpl:s.path.length<=1000)(root:Bool)(A B:Nn)(v w:Rat)[Br v 30000][Br w 30000](ha:ar Tryz.prog 19 [eM (gC s 1 k),V.one (ab.val (.int .i64 ((k:Int)))),V.one (ab.val (.bool false))] (R.aW [dE A,qV (an v)]))(hb:ar Tryz.prog 19 [eM (gC s 2 k),V.one (ab.val (.int .i64 ((k:Int)))),V.one (ab.val (.bool false))] (R.aW [dE B,qV (an w)])):ar Tryz.prog 19 [eM s,V.one (ab.val (.int .i64 (((k+1:Nat):Int)))),V.one (ab.val (.bool root))] (R.aW [dE (nf (xZ s root) k A B),qV (an (mn v w))]):=by
 refine aF Tryz.func19 Tryz.ntmps19 rfl (fun w0 A0=>?_);refine zc 24 rfl (za 1 rfl ?_);refine cV rfl (fun hr=>?_) (fun hr=>?_)
 .refine bF [so 1 (D.val (.int .i64 ((k+1:Nat):Int))),so 3 (D.ptr 0 0),so 6 (D.ptr 1 0),so 7 (D.ptr 2 0),so 8 (D.ptr 3 0)] [au 85 (fY s),au 46 [El.row aV ([]),ab.val (.int .i64 0),ab.val (.int .i64 0),ab.val (.bool false),ae ([]),ae ([]),El.row bZ ([]),ab.val (.bool false),El.row bm ([])],au 35 [ab.val (.bool false),ae ([]),ae ([])],au 46 [El.row aV ([]),ab.val (.int .i64 0),ab.val (.int .i64 0),ab.val (.bool false),ae ([]),ae ([]),El.row bZ ([]),ab.val (.bool false),El.row bm ([])]] rfl rfl ?_;refine zc 12 rfl (aa rfl (aU rfl) (zl 8 rfl (aa rfl (b9 k rfl) (zl 6 rfl (bF [so 1 _,so 3 _,so 6 _,so 7 _,so 8 _] [_,_,_,au 46 [El.row aV s.aq,ab.val (.int .i64 1),ab.val (.int .i64 (k:Int)),ab.val (.bool false),ae ([]),ae ([]),El.row bZ ([]),ab.val (.bool false),El.row bm ([])]] rfl rfl (zc 2 rfl (aa rfl (b9 k rfl) (zl 6 rfl ?_))))))));refine aE 3 [(2,5),(5,5),(9,5),(19,6),(20,7),(21,6),(22,7)] [5,6,7] (dz 2 rfl (cH 5 rfl (we (i:=5) rfl fy jl rfl) (dz 2 rfl (cH 5 rfl (vw (e:=bG) (l:=[]) rfl rfl) (dz 2 rfl ?_)))));refine eU (D.agg [ab.val (.int .i64 ((1:Nat):Int)),ab.val (.int .i64 (k:Int)),ab.val (.bool (bx 0)),ae (ah (aN 0)),ae (ah (aQ 0))]) rfl (qf 1 k) (fh rfl (fun _=>b8 rfl fy jl o8 rfl (by decide) (by decide) rfl (by decide) rfl) (cH 5 rfl (ib (e:=bG) (⟨1,k,0⟩) rfl rfl) (dz 2 rfl ?_)));refine cK [6,7] rfl (qw (r:=5) (n:=2) (x:=V.agg (cO s.q++[ab.own 5 2,El.row aV s.aq])) (x':=V.agg (cO s.q++[El.row bG ([]++s.path++[⟨1,k,0⟩]),El.row aV s.aq])) (nN rfl wG rfl xf rfl) (dH.gf bG ([]++s.path++[⟨1,k,0⟩]) rfl (by decide)) (by decide) ⟨.inl rfl,.inl rfl,.inl rfl,.inl rfl,.inl rfl,.inl rfl,.inl rfl,.inl rfl,.inl rfl,.inl rfl,.inr ⟨rfl,rfl⟩,.inl rfl,trivial⟩) ?_;refine dz 1 rfl (af rfl (b9 k rfl) (ax lW rfl (ha) (dz 7 rfl (aB (za 2 rfl ?_)))));refine bF [so 1 _,so 3 _,so 6 _,so 7 _,so 8 _,so 14 (D.ptr 4 0),so 15 (D.ptr 6 0),so 16 (D.ptr 7 0)] [_,_,_,_,au 42 [ab.val (.int .i64 2),ab.val (.int .i64 (k:Int)),ab.val (.bool false),ae ([]),ae ([])],dO 42 5 bG ([]++s.path++[⟨1,k,0⟩]) 2,au 46 [A.a0,A.a1,A.a2,A.a3,A.a4,A.a5,A.a6,A.a7,A.a8],au 35 (qL v)] rfl rfl ?_;refine aE 3 [(2,8),(5,8),(8,8),(18,9),(19,10),(20,9),(21,10)] [8,9,10] (dz 2 rfl (cH 8 rfl (we (i:=8) rfl fy jl rfl) (dz 2 rfl (cH 8 rfl (vw (e:=bG) (l:=[]) rfl rfl) (dz 1 rfl ?_)))));refine eU (D.agg [ab.val (.int .i64 ((2:Nat):Int)),ab.val (.int .i64 (k:Int)),ab.val (.bool (bx 0)),ae (ah (aN 0)),ae (ah (aQ 0))]) rfl (qf 2 k) (fh rfl (fun _=>b8 rfl fy jl o8 rfl (by decide) (by decide) rfl (by decide) rfl) (cH 8 rfl (ib (e:=bG) (⟨2,k,0⟩) rfl rfl) (dz 2 rfl ?_)));refine cK [9,10] rfl (qw (r:=8) (n:=2) (x:=V.agg (cO s.q++[ab.own 8 2,El.row aV s.aq])) (x':=V.agg (cO s.q++[El.row bG ([]++s.path++[⟨2,k,0⟩]),El.row aV s.aq])) (nN rfl wG rfl xf rfl) (dH.gf bG ([]++s.path++[⟨2,k,0⟩]) rfl (by decide)) (by decide) ⟨.inl rfl,.inl rfl,.inl rfl,.inl rfl,.inl rfl,.inl rfl,.inl rfl,.inl rfl,.inl rfl,.inl rfl,.inr ⟨rfl,rfl⟩,.inl rfl,trivial⟩) ?_;refine dz 1 rfl (af rfl (b9 k rfl) (ax lW rfl (hb) (dz 7 rfl (aB (za 2 rfl (bQ [0,4] [so 6 _,so 7 _,so 8 _,so 15 _,so 16 _,so 17 (D.ptr 9 0),so 18 (D.ptr 10 0)] [none,_,_,_,none,_,_,_,dO 42 5 bG ([]++s.path++[⟨2,k,0⟩]) 2,au 46 [B.a0,B.a1,B.a2,B.a3,B.a4,B.a5,B.a6,B.a7,B.a8],au 35 (qL w)] rfl rfl rfl (zc 3 rfl ?_)))))));refine aK rfl (b8 rfl j9 ka Ey rfl (by decide) (by decide) rfl (by decide) rfl (hcl:=GJ A B)) (zl 5 rfl (aE 0 [(4,1),(5,2)] [1,2] (dz 3 rfl (ax II rfl (FC (an (v)) (v) (aG _) (Br.use (by omega)) (an (w)) (w) (aG _) (Br.use (by omega))) (dz 2 rfl (aB (za 1 rfl ?_)))))));exact aI ai rfl (by have hr_:root=true:=hr;subst hr_;rfl)
 .refine zc 4 rfl ?_;refine bF [so 1 (D.val (.int .i64 ((k+1:Nat):Int))),so 3 (D.ptr 0 0),so 6 (D.ptr 1 0),so 7 (D.ptr 2 0),so 8 (D.ptr 3 0),so 9 (D.v (V.one (El.row aV s.aq)))] [au 85 (fY s),au 46 [El.row aV ([]),ab.val (.int .i64 0),ab.val (.int .i64 0),ab.val (.bool false),ae ([]),ae ([]),El.row bZ ([]),ab.val (.bool false),El.row bm ([])],au 35 [ab.val (.bool false),ae ([]),ae ([])],au 46 [El.row aV ([]),ab.val (.int .i64 0),ab.val (.int .i64 0),ab.val (.bool false),ae ([]),ae ([]),El.row bZ ([]),ab.val (.bool false),El.row bm ([])]] rfl rfl ?_;refine zc 2 rfl (aa rfl (aU rfl) (zl 8 rfl (aa rfl (b9 k rfl) (zl 8 rfl (aa rfl (b9 k rfl) (zl 6 rfl ?_))))));refine bF [so 1 _,so 3 _,so 6 _,so 7 _,so 8 _,so 14 (D.ptr 4 0)] [_,_,_,au 46 [El.row aV ([]),ab.val (.int .i64 1),ab.val (.int .i64 (k:Int)),ab.val (.bool false),ae ([]),ae ([]),El.row bZ ([]),ab.val (.bool false),El.row bm ([])],au 42 [ab.val (.int .i64 2),ab.val (.int .i64 (k:Int)),ab.val (.bool false),ae ([]),ae ([])]] rfl rfl ?_;refine aE 3 [(2,5),(5,5),(9,5),(19,6),(20,7),(21,6),(22,7)] [5,6,7] (dz 2 rfl (cH 5 rfl (we (i:=5) rfl fy jl rfl) (dz 2 rfl (cH 5 rfl (vw (e:=bG) (l:=[]) rfl rfl) (dz 2 rfl ?_)))));refine eU (D.agg [ab.val (.int .i64 ((1:Nat):Int)),ab.val (.int .i64 (k:Int)),ab.val (.bool (bx 0)),ae (ah (aN 0)),ae (ah (aQ 0))]) rfl (qf 1 k) (fh rfl (fun _=>b8 rfl fy jl o8 rfl (by decide) (by decide) rfl (by decide) rfl) (cH 5 rfl (ib (e:=bG) (⟨1,k,0⟩) rfl rfl) (dz 2 rfl ?_)));refine cK [6,7] rfl (qw (r:=5) (n:=2) (x:=V.agg (cO s.q++[ab.own 5 2,El.row aV s.aq])) (x':=V.agg (cO s.q++[El.row bG ([]++s.path++[⟨1,k,0⟩]),El.row aV s.aq])) (nN rfl wG rfl xf rfl) (dH.gf bG ([]++s.path++[⟨1,k,0⟩]) rfl (by decide)) (by decide) ⟨.inl rfl,.inl rfl,.inl rfl,.inl rfl,.inl rfl,.inl rfl,.inl rfl,.inl rfl,.inl rfl,.inl rfl,.inr ⟨rfl,rfl⟩,.inl rfl,trivial⟩) ?_;refine dz 1 rfl (af rfl (b9 k rfl) (ax lW rfl (ha) (dz 7 rfl (aB (za 2 rfl (bF [so 1 _,so 3 _,so 6 _,so 7 _,so 8 _,so 14 _,so 15 (D.ptr 6 0),so 16 (D.ptr 7 0)] [_,_,_,_,_,dO 42 5 bG ([]++s.path++[⟨1,k,0⟩]) 2,au 46 [A.a0,A.a1,A.a2,A.a3,A.a4,A.a5,A.a6,A.a7,A.a8],au 35 (qL v)] rfl rfl ?_))))));refine aE 3 [(2,8),(5,8),(8,8),(18,9),(19,10),(20,9),(21,10)] [8,9,10] (dz 2 rfl (cH 8 rfl (we (i:=8) rfl fy jl rfl) (dz 2 rfl (cH 8 rfl (vw (e:=bG) (l:=[]) rfl rfl) (dz 1 rfl ?_)))));refine eU (D.agg [ab.val (.int .i64 ((2:Nat):Int)),ab.val (.int .i64 (k:Int)),ab.val (.bool (bx 0)),ae (ah (aN 0)),ae (ah (aQ 0))]) rfl (qf 2 k) (fh rfl (fun _=>b8 rfl fy jl o8 rfl (by decide) (by decide) rfl (by decide) rfl) (cH 8 rfl (ib (e:=bG) (⟨2,k,0⟩) rfl rfl) (dz 2 rfl ?_)));refine cK [9,10] rfl (qw (r:=8) (n:=2) (x:=V.agg (cO s.q++[ab.own 8 2,El.row aV s.aq])) (x':=V.agg (cO s.q++[El.row bG ([]++s.path++[⟨2,k,0⟩]),El.row aV s.aq])) (nN rfl wG rfl xf rfl) (dH.gf bG ([]++s.path++[⟨2,k,0⟩]) rfl (by decide)) (by decide) ⟨.inl rfl,.inl rfl,.inl rfl,.inl rfl,.inl rfl,.inl rfl,.inl rfl,.inl rfl,.inl rfl,.inl rfl,.inr ⟨rfl,rfl⟩,.inl rfl,trivial⟩) ?_;refine dz 1 rfl (af rfl (b9 k rfl) (ax lW rfl (hb) (dz 7 rfl (aB (za 2 rfl (bQ [0,4] [so 6 _,so 7 _,so 8 _,so 15 _,so 16 _,so 17 (D.ptr 9 0),so 18 (D.ptr 10 0)] [none,_,_,_,none,_,_,_,dO 42 5 bG ([]++s.path++[⟨2,k,0⟩]) 2,au 46 [B.a0,B.a1,B.a2,B.a3,B.a4,B.a5,B.a6,B.a7,B.a8],au 35 (qL w)] rfl rfl rfl (zc 3 rfl ?_)))))));refine aK rfl (b8 rfl j9 ka Ey rfl (by decide) (by decide) rfl (by decide) rfl (hcl:=GJ A B)) (zl 5 rfl (aE 0 [(4,1),(5,2)] [1,2] (dz 3 rfl (ax II rfl (FC (an (v)) (v) (aG _) (Br.use (by omega)) (an (w)) (w) (aG _) (Br.use (by omega))) (dz 2 rfl (aB (za 1 rfl ?_)))))));exact aI ai rfl (by have hr_:root=false:=hr;subst hr_;rfl)
theorem oC:∀(k:Nat) (s:Sc) (hs:dx s) (hg:oY s.q) (h80:s.aq.length<=80) (root:Bool),k<=s.q.g.us.length->s.path.length+k<=100->ar Tryz.prog 19 [eM s,V.one (ab.val (.int .i64 ((k:Int)))),V.one (ab.val (.bool root))] (R.aW [dE (eG s k root).1.nn,qV (an (eG s k root).2)])
 |0,s,hs,hg,h80,root,_,_=>SP s hs hg h80 root
 |k+1,s,hs,hg,h80,root,hk,hp=>by
  have h1:=qR hs (k:=1) (i:=k) (.inl rfl) (by omega) (by omega);have h2:=qR hs (k:=2) (i:=k) (.inr rfl) (by omega) (by omega);have h4:=hs.q.g.u4;haveI i1:Br (eG (gC s 1 k) k false).2 30000:=(Ie h1 hg h80 k false (by show k<=s.q.g.us.length;omega) (by show(s.path++_).length+k<=100;rw[XX];simp;omega)).BC (by omega);haveI i2:Br (eG (gC s 2 k) k false).2 30000:=(Ie h2 hg h80 k false (by show k<=s.q.g.us.length;omega) (by show(s.path++_).length+k<=100;rw[XX];simp;omega)).BC (by omega);exact SO s k (by omega) (by omega) root _ _ _ _ (oC k (gC s 1 k) h1 hg h80 false (by show k<=s.q.g.us.length;omega) (by show(s.path++_).length+k<=100;rw[XX];simp;omega)) (oC k (gC s 2 k) h2 hg h80 false (by show k<=s.q.g.us.length;omega) (by show(s.path++_).length+k<=100;rw[XX];simp;omega))
set_option maxHeartbeats 2000000 in
theorem MN(l:List Nat)(hl:l.length<=1000)(hb:∀x∈l,x<256):ar Tryz.prog 5 [V.one (El.row dP l)] (R.aW [n7 (bb l),dE (ek l).nn]):=by
 refine aF Tryz.func5 Tryz.ntmps5 rfl (fun w0 A0=>?_);have hq1:=BI l;have hg1:=HV l;obtain⟨hq2,hg2⟩:=AV l;have e1:=yx hq1;have e2:=yx hq2;obtain⟨b1,b2⟩:=qj e1 (XS _);obtain⟨c1,c2⟩:=qj e2 (XS _);have b3:(c8 (dv (cS l))).aq.length<=0+8:=b2;have c3:(c8 (dv (bb l))).aq.length<=0+8:=c2;obtain⟨hn1,hn2⟩:=xx l;have hn3:dk l<=(bb l).g.us.length:=by rw[FZ];exact hn2
 have hu4:=hq1.g.u4;haveI hlb:Br (gI l) 20000:=(HG l).BC (by omega);haveI hgc:Br (cS l).goal.c 500001:=hq1.goal.br;refine zc 9 rfl (aj TS rfl (show ar Tryz.prog 18 [_] (R.one (n7 (cS l))) from Su l (by omega) hb) (zl 5 rfl ?_));by_cases h0:0<l.length
 .refine zc 8 rfl (aa rfl (aw rfl) (aa rfl (dQ rfl) (zl 3 rfl ?_)));obtain⟨x,hx⟩:∃x,l[l.length-1]?=some x:=⟨_,XM (by omega)⟩;have hxb:=hb x (XR hx);have hns:dk l=min (x%3) (cS l).g.us.length:=by unfold dk;rw[if_pos h0,hx];rfl
  refine aE 0 [] [] (dz 2 rfl (af rfl (aw rfl) (af rfl (b9 (l.length-1) rfl) (af rfl (aS (l.length-1) hx rfl) (af rfl (bB rfl) (af rfl (fR rfl rfl rfl (by decide) (r:=((x%3:Nat):Int)) (fB _ _)) (af rfl (oy (x%3) rfl) (dz 3 rfl (af rfl (aw rfl) ?_)))))))));refine af rfl (WQ rfl rfl rfl (r:=((dk l:Nat):Int)) (by rw[hns];split <;> omega)) (dz 1 rfl (aB (za 5 rfl (aj oH rfl (oP (dv (cS l)) e1 (XS _)) (zl 1 rfl ?_)))));refine aj lW rfl (show ar Tryz.prog 19 [_,_,_] (R.aW [dE (eG (c8 (dv (cS l))) (dk l) true).1.nn,qV (an (gI l))]) from oC (dk l) (c8 (dv (cS l))) b1 hg1 (by omega) true hn2 (by show 0+dk l<=100;omega)) (zl 13 rfl (aj gy rfl (gm (an ((gI l))) ((gI l)) (aG _) (Br.use (by omega))) ?_));by_cases hlt:gI l<0
  .refine aa rfl (aX rfl (tL.2 hlt)) (zl 3 rfl ?_);have hrq:bb l=⟨(cS l).g,(cS l).r,⟨(cS l).goal.ts,(cS l).goal.c-gI l⟩⟩:=by unfold bb;rw[if_pos hlt]
   refine zc 5 rfl (aj pY rfl (pn (an ((cS l).goal.c)) ((cS l).goal.c) (aG _) (Br.use (by omega)) (an ((gI l))) ((gI l)) (aG _) (Br.use (by omega))) (zl 8 rfl (iK (D.agg (cO (bb l))) rfl (by rw[hrq];try rfl) (zl 1 rfl (aj oH rfl (oP (dv (bb l)) e2 (XS _)) (zl 1 rfl ?_))))));refine aj lW rfl (show ar Tryz.prog 19 [_,_,_] (R.aW [dE (eG (c8 (dv (bb l))) (dk l) true).1.nn,qV (an ((eG (c8 (dv (bb l))) (dk l) true).2))]) from oC (dk l) (c8 (dv (bb l))) c1 hg2 (by omega) true hn3 (by show 0+dk l<=100;omega)) (zl 10 rfl (aE 0 [(2,0),(3,1)] [0,1] (dz 1 rfl ?_)));refine eU (D.agg (cO (bb l))) rfl (by rw[hrq];try rfl) (dz 3 rfl (aB (za 1 rfl ?_)));exact aI ai rfl rfl (hcl:=iL rfl (iL (ek l).nn.cl rfl))
  .refine aa rfl (aO rfl (fun e=>hlt (tL.1 e))) (zl 6 rfl ?_);have hrq:bb l=cS l:=by unfold bb;rw[if_neg hlt]
   refine zc 2 rfl (iK (D.agg (cO (bb l))) rfl (by rw[hrq];try rfl) (zl 1 rfl (aj oH rfl (oP (dv (bb l)) e2 (XS _)) (zl 1 rfl ?_))));refine aj lW rfl (show ar Tryz.prog 19 [_,_,_] (R.aW [dE (eG (c8 (dv (bb l))) (dk l) true).1.nn,qV (an ((eG (c8 (dv (bb l))) (dk l) true).2))]) from oC (dk l) (c8 (dv (bb l))) c1 hg2 (by omega) true hn3 (by show 0+dk l<=100;omega)) (zl 10 rfl (aE 0 [(2,0),(3,1)] [0,1] (dz 1 rfl ?_)));refine eU (D.agg (cO (bb l))) rfl (by rw[hrq];try rfl) (dz 3 rfl (aB (za 1 rfl ?_)));exact aI ai rfl rfl (hcl:=iL rfl (iL (ek l).nn.cl rfl))
 .refine zc 2 rfl (iK (D.val (.int .i64 ((dk l:Nat):Int))) rfl (by unfold dk;rw[if_neg h0];rfl) (zl 6 rfl (aa rfl (aw rfl) (aa rfl (cD rfl) (zl 9 rfl (aj oH rfl (oP (dv (cS l)) e1 (XS _)) (zl 1 rfl ?_)))))));refine aj lW rfl (show ar Tryz.prog 19 [_,_,_] (R.aW [dE (eG (c8 (dv (cS l))) (dk l) true).1.nn,qV (an (gI l))]) from oC (dk l) (c8 (dv (cS l))) b1 hg1 (by omega) true hn2 (by show 0+dk l<=100;omega)) (zl 13 rfl (aj gy rfl (gm (an ((gI l))) ((gI l)) (aG _) (Br.use (by omega))) ?_));by_cases hlt:gI l<0
  .refine aa rfl (aX rfl (tL.2 hlt)) (zl 3 rfl ?_);have hrq:bb l=⟨(cS l).g,(cS l).r,⟨(cS l).goal.ts,(cS l).goal.c-gI l⟩⟩:=by unfold bb;rw[if_pos hlt]
   refine zc 5 rfl (aj pY rfl (pn (an ((cS l).goal.c)) ((cS l).goal.c) (aG _) (Br.use (by omega)) (an ((gI l))) ((gI l)) (aG _) (Br.use (by omega))) (zl 8 rfl (iK (D.agg (cO (bb l))) rfl (by rw[hrq];try rfl) (zl 1 rfl (aj oH rfl (oP (dv (bb l)) e2 (XS _)) (zl 1 rfl ?_))))));refine aj lW rfl (show ar Tryz.prog 19 [_,_,_] (R.aW [dE (eG (c8 (dv (bb l))) (dk l) true).1.nn,qV (an ((eG (c8 (dv (bb l))) (dk l) true).2))]) from oC (dk l) (c8 (dv (bb l))) c1 hg2 (by omega) true hn3 (by show 0+dk l<=100;omega)) (zl 10 rfl (aE 0 [(2,0),(3,1)] [0,1] (dz 1 rfl ?_)));refine eU (D.agg (cO (bb l))) rfl (by rw[hrq];try rfl) (dz 3 rfl (aB (za 1 rfl ?_)));exact aI ai rfl rfl (hcl:=iL rfl (iL (ek l).nn.cl rfl))
  .refine aa rfl (aO rfl (fun e=>hlt (tL.1 e))) (zl 6 rfl ?_);have hrq:bb l=cS l:=by unfold bb;rw[if_neg hlt]
   refine zc 2 rfl (iK (D.agg (cO (bb l))) rfl (by rw[hrq];try rfl) (zl 1 rfl (aj oH rfl (oP (dv (bb l)) e2 (XS _)) (zl 1 rfl ?_))));refine aj lW rfl (show ar Tryz.prog 19 [_,_,_] (R.aW [dE (eG (c8 (dv (bb l))) (dk l) true).1.nn,qV (an ((eG (c8 (dv (bb l))) (dk l) true).2))]) from oC (dk l) (c8 (dv (bb l))) c1 hg2 (by omega) true hn3 (by show 0+dk l<=100;omega)) (zl 10 rfl (aE 0 [(2,0),(3,1)] [0,1] (dz 1 rfl ?_)));refine eU (D.agg (cO (bb l))) rfl (by rw[hrq];try rfl) (dz 3 rfl (aB (za 1 rfl ?_)));exact aI ai rfl rfl (hcl:=iL rfl (iL (ek l).nn.cl rfl))
end Go.Proofs.YtakccfmgipajnaaGreatDoor
namespace Rc
open Go Go.RowKit
def J0:D->Bool
 |.inl x=>x.cl
 |.inr (.inl xs)=>fq xs
 |_=>true
def xR:Option D->Option D
 |none=>none
 |some d=>bif J0 d then some d else none
def qd:aA->aA
 |[]=>[]
 |(s,d)::g=>(s,xR d)::qd g
def jR:Option HE->Option HE
 |none=>none
 |some e=>bif e.cY then none else some e
def nC:Hp->Bool
 |[]=>true
 |none::H=>nC H
 |some e::H=>(e.cY||bW e.ls)&&nC H
theorem RI(g:aA)(s:Nat):look (qd g) s=xR (look g s):=by
 induction g with
 |nil=>rfl
 |cons p g ih=>
  obtain⟨k,d⟩:=p;simp only[qd,uB];cases Nat.beq k s
  .simpa using ih
  .rfl
theorem CN:∀{H:Hp} {i:Nat} {e:HE},nC H=true->H[i]?=some (some e)->e.cY=false->bW e.ls=true
 |[],i,e,_,h,_=>by simp at h
 |none::H,0,e,_,h,_=>by simp at h
 |none::H,i+1,e,hc,h,hv=>CN (H:=H) hc (by simpa using h) hv
 |some e0::H,0,e,hc,h,hv=>by
  simp only[YD,XL] at h;subst h;simp only[nC,hv,ZA,XQ] at hc;exact hc.1
 |some e0::H,i+1,e,hc,h,hv=>by
  simp only[nC,XQ] at hc;exact CN (H:=H) hc.2 (by simpa using h) hv
theorem uJ{H:Hp}{i:Nat}{e:HE}(h:(H.map jR)[i]?=some (some e)):H[i]?=some (some e)/\e.cY=false:=by
 rw[YW] at h
 cases hi:H[i]? with
 |none=>rw[hi] at h;simp at h
 |some o=>
  rw[hi] at h
  cases o with
  |none=>simp[jR] at h
  |some e0=>
   simp only[Y0,jR,XL] at h
   cases hv:e0.cY with
   |true=>rw[hv] at h;simp at h
   |false=>rw[hv] at h;simp at h;subst h;exact⟨rfl,hv⟩
theorem Sf{H:Hp}{i:Nat}{e:HE}(h:H[i]?=some (some e))(hv:e.cY=false):(H.map jR)[i]?=some (some e):=by
 rw[YW,h];simp[jR,hv]
theorem Good.Uy{w0:aJ}{A0:ak}{N:Nat}{Γ:aA}{H:Hp}{E:Env}{a:Act}{w:World}(h:Good w0 A0 N Γ H E a w)(hc:nC H=true):Good w0 A0 N (qd Γ) (H.map jR) ⟨E.b,E.cap,E.nil,ak.of E.A.c⟩ a w:=by
 refine⟨h.below,h.bc,h.cE,h.defers,h.size,fun s d hs=>?_,fun i e hi=>?_,fun i j e1 e2 h1 h2=>h.apart i j e1 e2 (uJ h1).1 (uJ h2).1,fun i e n hi hp=>?_,fun i m v hg=>by simp at hg,h.bg⟩
 .rw[RI] at hs
  cases hl:look Γ s with
  |none=>rw[hl] at hs;simp[xR] at hs
  |some d0=>
   rw[hl] at hs;simp only[xR] at hs
   cases hcd:J0 d0 with
   |false=>rw[hcd] at hs;simp at hs
   |true=>
    rw[hcd] at hs;simp only[cond_true,XL] at hs;subst hs;obtain⟨ho,v,hv,hd⟩:=h.cr s d0 hl;refine⟨D.kK ho (fun j e _ he hv=>⟨e,Sf he hv,hv⟩),v,hv,?_⟩;rcases d0 with x|xs|⟨i,o⟩|⟨i,n⟩
    .exact V.ja hcd hd
    .obtain⟨vs,h1,h2⟩:=hd;exact⟨vs,h1,c6.pure hcd h2⟩
    .exact hd
    .exact hd
 .obtain⟨h1,hv⟩:=uJ hi;obtain⟨g1,g2⟩:=h.boxes i e h1;have hcl:=CN hc h1 hv;refine⟨?_,g2⟩;unfold HE.ok at g1 ⊢
  cases hr:e.row with
  |none=>
   rw[hr] at g1;obtain⟨k1,cs,k2,k3⟩:=g1;exact⟨k1,cs,k2,a9.pure hcl k3⟩
  |some sz=>
   rw[hr] at g1;simp only at g1 ⊢;split
   .rename_i hn;rw[if_pos hn] at g1;exact g1
   .rename_i hn;rw[if_neg hn] at g1;obtain⟨k1,cs,rest,k2,k3,k4⟩:=g1;exact⟨k1,cs,rest,k2,k3,a9.pure hcl k4⟩
 .obtain⟨h1,hv⟩:=uJ hi;obtain⟨k,hk⟩:=hp;unfold HE.cY at hv;rw[hk] at hv;simp at hv
section
variable {α:Type}{P:Program}{ops:Array Oper}{X:List Nat}{o:Oper}{Γ:aA}{H:Hp}{i t sz:Nat}
theorem El.su{e:El α}{l:List α}{j:Nat}{v:α}(hv:l[j]?=some v)(fo n:Nat)(hf:fo+n<=e.sz):((e.all l).drop (j*e.sz+fo)).take n=((e.f v).drop fo).take n:=by
 obtain⟨h1,rfl⟩:=XN.1 hv;have h:=El.Ky e h1;rw[<-h,List.drop_take,Zh,List.take_take,YA (by omega)]
theorem El.fit{e:El α}{l:List α}{j:Nat}{v:α}(hv:l[j]?=some v):j*e.sz+e.sz<=(e.all l).length:=by
 have h1:=(XN.1 hv).1;rw[El.eI];have:=Ya e.sz h1;rw[Nat.succ_mul] at this;exact this
end
@[reducible] def ia{α:Type}(t sz:Nat)(e:El α)(l:List α)(q:Nat):Option HE:=some ⟨t,e.all l,some sz,some (.inl q)⟩
theorem tv{a b:Nat}(h:a<65536):IntKind.u16.wrap ((a:Int).tdiv (b:Int))=((a/b:Nat):Int):=by
 rw[jJ];have:=Yy a b;generalize a/b=c at *;have h2:(c:Int)%65536=(c:Int):=by omega
 simp[IntKind.wrap,IntKind.bits,IntKind.signed];exact h2
section
variable {P:Program}{ops:Array Oper}{X:List Nat}{Q:Exit->Act->World->Prop}{w0:aJ}{A0:ak}{N:Nat}{o:Oper}{Γ:aA}{H:Hp}{α:Type}
theorem wb{x y:Operand}{t t2 u u2 r n sz:Nat}{inf:TypeInfo}{z:Value}(e:El α)(l l2:List α)
  (ho:o.op = .call { callee:=.builtin .append,args:=#[x,y],argTypes:=#[t,t2] })
  (hx:ao Γ x=some (D.v (V.one (ab.own r n)))) (hy:ao Γ y=some (D.v (V.one (e.row l2)))) (hi:H[r]?=some (bR u sz e l n)) (hsz:0<sz)
  (ht:P.underlying t=some (.slice u)) (ht2:P.underlying t2=some (.slice u2)) (hinf:P.info? u=some inf) (hz:inf.zero=some z) (hisz:inf.size=sz) (hzs:z.cells.size=sz)
  (hlen:l.length+l2.length<=maxLen) (hbytes:(l.length+l2.length)*inf.bytes<=140737488355328) (hes:e.sz=sz:=by rfl) :
  Je P ops o Γ H (some (D.v (V.one (ab.own r (n+1))))) (H.set r (bR u sz e (l++l2) (n+1))):=by
 subst hes;exact DT 0 ho hx hy hi (e.eI l) (e.eI l2) hsz ht ht2 hinf hz hisz hzs hlen hbytes (XS _) (XP _) (e.all_append l l2).symm
theorem Good.Gg{E:Env}{a:Act}{w:World}(h:Good w0 A0 N Γ H E a w){r t n sz k:Nat}{ls:List ab}(hi:H[r]?=some (some ⟨t,ls,some sz,some (.inr (0,some n))⟩))(hc:nC H=true)(hcl:bW ls=true) :
  ∃E',Good w0 A0 N (qd Γ) ((H.map jR).set r (some ⟨t,ls,some sz,some (.inl (E.b r))⟩)) E' a w:=by
 have hil:=(XN.1 hi).1;have hd:=h.Uy hc;have hm:(H.map jR)[r]?=some none:=by rw[YW,hi];rfl
 have hml:=(XN.1 hm).1;obtain⟨g1,g2⟩:=h.boxes r _ hi;have back:∀(j:Nat) (e1:HE),((H.map jR).set r (some ⟨t,ls,some sz,some (.inl (E.b r))⟩))[j]?=some (some e1)->(r=j/\e1=⟨t,ls,some sz,some (.inl (E.b r))⟩)\/(r≠j/\(H.map jR)[j]?=some (some e1)):=by
  intro j e1 hj;by_cases hij:r=j
  .subst hij;rw[X7 hml] at hj;simp only[XL] at hj;exact .inl ⟨rfl,hj.symm⟩
  .rw[X0 hij] at hj;exact .inr ⟨hij,hj⟩
 have get:∀(j:Nat) (e1:HE),((H.map jR).set r (some ⟨t,ls,some sz,some (.inl (E.b r))⟩))[j]?=some (some e1)->∃e2,H[j]?=some (some e2):=by
  intro j e1 hj;rcases back j e1 hj with⟨rfl,_⟩|⟨_,h2⟩
  .exact⟨_,hi⟩
  .exact⟨e1,(uJ h2).1⟩
 refine⟨_,hd.below,hd.bc,hd.cE,hd.defers,hd.size,fun s d hs=>?_,fun j e1 hj=>?_,fun j1 j2 e1 e2 h1 h2=>?_,fun j e1 m hj hm2=>?_,fun j m v hv=>?_,hd.bg⟩
 .obtain⟨ho,v,hv,hdn⟩:=hd.cr s d hs;refine⟨D.kK ho (fun j e _ he hve=>?_),v,hv,hdn⟩;by_cases hij:r=j
  .subst hij;rw[hm] at he;simp at he
  .exact⟨e,by rw[X0 hij];exact he,hve⟩
 .rcases back j e1 hj with⟨rfl,rfl⟩|⟨_,h2⟩
  .refine⟨?_,fun hn=>⟨⟨rfl,(g2 hn).1⟩,fun i _ hA=>(g2 hn).2 i (XS _) hA⟩⟩;unfold HE.ok at g1 ⊢;simp only at g1 ⊢;split
   .rename_i hn;rw[if_pos hn] at g1;exact g1
   .rename_i hn;rw[if_neg hn] at g1;obtain⟨k1,cs,rest,k2,k3,k4⟩:=g1;exact⟨k1,cs,rest,k2,k3,a9.pure hcl k4⟩
  .exact hd.boxes j e1 h2
 .obtain⟨e3,k3⟩:=get _ _ h1;obtain⟨e4,k4⟩:=get _ _ h2;exact h.apart j1 j2 e3 e4 k3 k4
 .rcases back j e1 hj with⟨rfl,rfl⟩|⟨_,h2⟩
  .obtain⟨k,hk⟩:=hm2;simp at hk
  .exact hd.kn j e1 m h2 hm2
 .have hv:(none:Option Value)=some v:=hv;simp at hv
theorem Ih{E:Env}{a:Act}{w:World}(h:Good w0 A0 N Γ H E a w){r t n sz:Nat}(e:El α)(l:List α)(hi:H[r]?=some (bR t sz e l n))(hsz:0<sz)(hes:e.sz=sz)(hl:0<l.length):l.length<=E.cap r/\E.cap r<=maxLen:=by
 subst hes;obtain⟨g1,_⟩:=h.boxes r _ hi;have hal:0<(e.all l).length:=by rw[El.eI];exact Zn hl hsz
 have hn:E.nil r=false:=HE.not_nil g1 hal;unfold HE.ok at g1;simp only[hn,X8,if_false] at g1;obtain⟨hm,cs,rest,hc,hlen,hcd⟩:=g1;have hlc:=hcd.length;refine⟨?_,hm⟩;have:l.length*e.sz<=E.cap r*e.sz:=by rw[<-hlen,<-El.eI,<-hlc];simp
 exact YV this hsz
theorem Ic{E:Env}{a:Act}{w:World}(h:Good w0 A0 N Γ H E a w){r t n sz:Nat}(e:El α)(l:List α)(hi:H[r]?=some (bR t sz e l n))(hsz:0<sz)(hes:e.sz=sz)(hl:0<l.length){v:Value}(hd:(ab.own r n).den E.A v w) :
  v = .slice (some ⟨E.b r,0,none⟩) l.length (E.cap r)/\l.length<=E.cap r/\E.cap r<=maxLen:=by
 refine⟨?_,Ih h e l hi hsz hes hl⟩;subst hes;have h2:=xj h hi rfl hd;obtain⟨g1,_⟩:=h.boxes r _ hi;have hal:0<(e.all l).length:=by rw[El.eI];exact Zn hl hsz
 have hn:E.nil r=false:=HE.not_nil g1 hal;unfold HE.name at h2;simp only[hn,El.eI,Y4 _ hsz,X8,if_false] at h2;exact h2
theorem Dx{c:Code}(b:Nat){r t n sz:Nat}(e:El α)(l:List α){eb:HE}{ls':Nat->Nat->List ab}(hi:H[r]?=some (bR t sz e l n))(hb:H[b]?=some (some eb))(hbr:eb.row=none)(hl:0<l.length)
  (hsub:∀q cap,jK (ab.own r n) (ab.val (.slice (some ⟨q,0,none⟩) l.length cap)) eb.ls (ls' q cap)) (hrb:r≠b) (hc:∀q cap,nC (H.set b (some ⟨eb.t,ls' q cap,eb.row,eb.cP⟩))=true)
  (h:∀q cap,l.length<=cap->cap<=maxLen->Tc P Q w0 A0 N (qd Γ) (((H.set b (some ⟨eb.t,ls' q cap,eb.row,eb.cP⟩)).map jR).set r (some ⟨t,e.all l,some sz,some (.inl q)⟩)) c) (hes:e.sz=sz:=by rfl) (hsz:0<sz:=by decide):Tc P Q w0 A0 N Γ H c:=by
 intro a w hSt;obtain⟨E,g⟩:=hSt;obtain⟨kn1,_⟩:=g.kn r _ n hi ⟨0,rfl⟩;have key:∀v,(ab.own r n).den E.A v w->(ab.val (.slice (some ⟨E.b r,0,none⟩) l.length (E.cap r))).den E.A v w:=fun v hv=>⟨(Ic g e l hi hsz hes hl hv).1,rfl⟩;obtain⟨p1,p2⟩:=Ih g e l hi hsz hes hl;have g':=g.y9 hb hbr key (hsub _ _);obtain⟨E',g2⟩:=g'.Gg (k:=0) (by rw[X0 (fun e=>hrb e.symm)];exact hi) (hc _ _) (e.gK l);exact h _ _ p1 p2 a w ⟨E',g2⟩
theorem K3{c:Code}(s:Nat){r t n sz:Nat}(e:El α)(l:List α)(hi:H[r]?=some (bR t sz e l n))(hs:look Γ s=some (D.v (V.one (ab.own r n))))(hl:0<l.length)(hc:nC H=true)
  (h:∀q cap,l.length<=cap->cap<=maxLen->Tc P Q w0 A0 N ((s,some (D.val (.slice (some ⟨q,0,none⟩) l.length cap)))::qd Γ) ((H.map jR).set r (some ⟨t,e.all l,some sz,some (.inl q)⟩)) c) (hes:e.sz=sz:=by rfl) (hsz:0<sz:=by decide):Tc P Q w0 A0 N Γ H c:=by
 intro a w hSt;obtain⟨E,g⟩:=hSt;obtain⟨_,v,hv,hd⟩:=g.cr s _ hs;obtain⟨p0,p1,p2⟩:=Ic g e l hi hsz hes hl hd;obtain⟨E',g2⟩:=g.Gg (k:=0) hi hc (e.gK l);exact h _ _ p1 p2 a w ⟨E',g2.AJ hv trivial ⟨p0,rfl⟩⟩
theorem oV{x y:Operand}{t' u r t q cap sz:Nat}{k:IntKind}{z:Int}{b:Bool}(e:El α)(l:List α)(j:Nat)(ho:o.op = .indexAddr t' x y)(hx:ao Γ x=some (D.val (.slice (some ⟨q,0,none⟩) l.length cap)))(hy:ao Γ y=some (D.val (.int k z)))
  (hi:H[r]?=some (some ⟨t,e.all l,some sz,some (.inl q)⟩)) (hX:r ∉ X) (ht:P.underlying t'=some (.slice u)) (hu:bJ P u b sz) (hj:j<l.length) (hes:e.sz=sz:=by rfl) (hsz:0<sz:=by decide) (hz:z=(j:Int):=by first|rfl|omega):Jq P ops X o Γ H (D.ptr r (j*sz)):=by
 subst hz hes;intro w0 A0 N Γ2 H2 E a w hs hXX hG;have e1:=cT hs hG (x:=x) (by rw[ho];simp[Op.operands]) hx;have e2:=cT hs hG (x:=y) (by rw[ho];simp[Op.operands]) hy;have hi2:=hXX r _ hX hi;obtain⟨g1,g2⟩:=hG.boxes r _ hi2;have hn:E.nil r=false:=HE.not_nil g1 (by rw[El.eI];exact Zn (by omega) hsz);obtain⟨⟨hq,_⟩,_⟩:=g2 hn;refine⟨⟨_,hi2,rfl⟩,.pointer (some ⟨E.b r,j*e.sz,none⟩),?_,rfl⟩;have hj0:(0:Int)<=(j:Int):=by omega
 have hj1:(j:Int)<((l.length:Nat):Int):=by omega
 simp[execOp,ho,e1,e2,Instr.indexAt,asIntOf,run_underlying ht,hj0,hj1,hu.sizeOf,jW,<-hq,hj]
theorem Good.Rx{E:Env}{a:Act}{w:World}(h:Good w0 A0 N Γ H E a w){r t sz q:Nat}{ls:List ab}(hi:H[r]?=some (some ⟨t,ls,some sz,some (.inl q)⟩))(hne:0<ls.length)(hcl:bW ls=true) :
  ∃E',Good w0 A0 N Γ (H.set r (some ⟨t,ls,some sz,some (.inr (ls.length,none))⟩)) E' a w/\∀m cap,m<=cap->cap<=maxLen->(ab.rep (bX m ls)).den E'.A (.slice (some ⟨q,0,none⟩) m cap) w:=by
 have hil:=(XN.1 hi).1;obtain⟨g1,g2⟩:=h.boxes r _ hi;have hn:E.nil r=false:=HE.not_nil g1 hne;obtain⟨⟨hq,hmine⟩,hnA⟩:=g2 hn
 let A':ak:=⟨fun k j=>E.A k j\/(k=E.b r/\j<ls.length),E.A.g⟩
 have hle:ak.le E.A A':=⟨fun _ _ h=>.inl h,fun _ _ _ h=>h⟩;have back:∀(j:Nat) (e1:HE),(H.set r (some ⟨t,ls,some sz,some (.inr (ls.length,none))⟩))[j]?=some (some e1)->(j=r/\e1=⟨t,ls,some sz,some (.inr (ls.length,none))⟩)\/(j≠r/\H[j]?=some (some e1)):=by
  intro j e1 hj;by_cases hij:r=j
  .subst hij;rw[X7 hil] at hj;simp only[XL] at hj;exact .inl ⟨rfl,hj.symm⟩
  .rw[X0 hij] at hj;exact .inr ⟨fun e=>hij e.symm,hj⟩
 have get:∀(j:Nat) (e1:HE),(H.set r (some ⟨t,ls,some sz,some (.inr (ls.length,none))⟩))[j]?=some (some e1)->∃e2,H[j]?=some (some e2):=by
  intro j e1 hj;rcases back j e1 hj with⟨rfl,_⟩|⟨_,h2⟩
  .exact⟨_,hi⟩
  .exact⟨e1,h2⟩
 have hgood:Good w0 A0 N Γ (H.set r (some ⟨t,ls,some sz,some (.inr (ls.length,none))⟩)) { E with A:=A' } a w:=by
  refine⟨h.below,?_,?_,h.defers,h.size,fun s d hs=>?_,fun j e1 hj=>?_,fun j1 j2 e1 e2 h1 h2=>?_,fun j e1 m hj hm=>?_,fun j m v hv=>?_,h.bg.bI hle.1 (fun _ _ _=>rfl)⟩
  .intro k j hk;rcases hk with hk|⟨rfl,_⟩
   .exact h.bc k j hk
   .exact HE.eu g1 hn
  .intro k j hk;rcases hk with hk|⟨rfl,_⟩
   .exact h.cE k j hk
   .rw[hq];exact .inr hmine
  .obtain⟨ho,v,hv,hd⟩:=h.cr s d hs;exact⟨ho.oj (fun e0 h0 h1=>rfl),v,hv,D.sM hle hd⟩
  .rcases back j e1 hj with⟨rfl,rfl⟩|⟨hjr,hj'⟩
   .refine⟨HE.jt (e:=⟨t,ls,some sz,some (.inr (ls.length,none))⟩) hle g1,fun _=>⟨by show _\/_;rw[hq];exact hmine,fun i hi' hA=>?_⟩⟩;have hi':ls.length<=i:=hi';rcases hA with hA|⟨_,hlt⟩
    .exact hnA i (XS _) hA
    .omega
   .obtain⟨q1,q2⟩:=h.boxes j e1 hj';refine⟨HE.jt hle q1,fun hn'=>⟨(q2 hn').1,fun i hi' hA=>?_⟩⟩;rcases hA with hA|⟨hb,_⟩
    .exact(q2 hn').2 i hi' hA
    .exact h.apart j r e1 _ hj' hi hn' hn hjr hb
  .obtain⟨e3,k1⟩:=get j1 e1 h1;obtain⟨e4,k2⟩:=get j2 e2 h2;exact h.apart j1 j2 e3 e4 k1 k2
  .rcases back j e1 hj with⟨rfl,rfl⟩|⟨hjr,hj'⟩
   .obtain⟨k',hm⟩:=hm;simp at hm
   .obtain⟨q1,q2,q3⟩:=h.kn j e1 m hj' hm;exact⟨q1,q2,fun hn i hi'=>.inl (q3 hn i hi')⟩
  .obtain⟨e1,k,m',h5,h6⟩:=h.gd j m v hv;by_cases hjr:r=j
   .subst hjr;rw[hi] at h5;cases h5;simp at h6
   .exact⟨e1,k,m',by rw[X0 hjr];exact h5,h6⟩
 refine⟨{ E with A:=A' },hgood,fun m cap h1 h2=>?_⟩;unfold HE.ok at g1;simp only[hn,X8,if_false] at g1;obtain⟨hm,cs,rest,hc,hlen,hcd⟩:=g1;have hlc:=hcd.length;refine⟨some ⟨q,0,none⟩,cap,rfl,h1,h2,fun h=>by simp at h,fun ad had=>?_⟩;cases had;refine⟨fun _=>rfl,fun j lf hj=>?_⟩;obtain⟨u,hu,hud⟩:=(hcd.pure hcl).get hj;have hju:=(XN.1 hu).1;have hjl:=(XN.1 hj).1;simp only[Yk];exact⟨.inr ⟨hq.symm,hjl⟩,u,kQ (o:=j) (by rw[<-hq];exact hc) (v:=u) (by rw[XV hju];exact hu),ab.cU (ak.le.of fun _ _ h=>.inl h) hud⟩
theorem vZ{c:Code}(b:Nat){r t sz q cap:Nat}(e:El α)(l:List α){eb:HE}{ls':List ab}(hi:H[r]?=some (some ⟨t,e.all l,some sz,some (.inl q)⟩))(hb:H[b]?=some (some eb))(hbr:eb.row=none)(hrb:r≠b)(hl:0<l.length)(h1:l.length<=cap)(h2:cap<=maxLen)
  (hsub:jK (ab.val (.slice (some ⟨q,0,none⟩) l.length cap)) (e.row l) eb.ls ls')
  (h:Tc P Q w0 A0 N Γ ((H.set r (some ⟨t,e.all l,some sz,some (.inr ((e.all l).length,none))⟩)).set b (some ⟨eb.t,ls',eb.row,eb.cP⟩)) c) (hes:e.sz=sz:=by rfl) (hsz:0<sz:=by decide):Tc P Q w0 A0 N Γ H c:=by
 subst hes;intro a w hSt;obtain⟨E,g⟩:=hSt;obtain⟨E',g',hd⟩:=g.Rx hi (by rw[El.eI];exact Zn hl hsz) (e.gK l);exact h a w ⟨E',g'.y9 (by rw[X0 hrb];exact hb) hbr (fun v hv=>by rw[hv.1];exact hd _ _ h1 h2) hsub⟩
theorem Nu{e:El α}{l:List α}{j fo:Nat}{v v':α}{ns:List ab}(hv:l[j]?=some v)(h:splice (e.f v) fo ns=e.f v')(hf:fo+ns.length<=e.sz):splice (e.all l) (j*e.sz+fo) ns=e.all (l.set j v'):=by
 obtain⟨hj,hjv⟩:=XN.1 hv;have h1:e.all l=e.all (l.take j)++(e.f v++e.all (l.drop (j+1))):=by
  have h2:l=l.take j++(v::l.drop (j+1)):=by rw[<-hjv,<-Yh hj,YN]
  conv=>lhs;rw[h2]
  rw[El.all_append];rfl
 have h3:(e.all (l.take j)).length=j*e.sz:=by rw[El.eI,X2,YA (by omega)]
 have h4:=e.len v;rw[List.set_eq_take_append_cons_drop,if_pos hj,El.all_append];show _=_++(e.f v'++e.all (l.drop (j+1)));rw[<-h];unfold splice;rw[h1,<-h3,za7,YY (by omega),ZO,List.drop_length_add_append,ZD (by omega)];simp only[Yf]
theorem v9{x y:Operand}{r t t' n fo q sz:Nat}(e:El α)(l:List α)(j:Nat)(v v':α){u:V}{b:Bool}(ho:o.op = .store t' x y)(hx:ao Γ x=some (D.ptr r (j*sz+fo)))(hy:ao Γ y=some (D.v u))(hi:H[r]?=some (some ⟨t,e.all l,some sz,some (.inl q)⟩))(ht:bJ P t' b n)
  (hv:l[j]?=some v) (hs:splice (e.f v) fo u.leaves=e.f v') (hun:u.leaves.length=n:=by rfl) (hn:0<n:=by decide) (hf:fo+n<=sz:=by decide) (hes:e.sz=sz:=by rfl) :
  Je P ops o Γ H none (H.set r (some ⟨t,e.all (l.set j v'),some sz,some (.inl q)⟩)):=by
 subst hes;refine eQ (v:=u) ho hx hy hi ht hun hn ?_ (Nu hv hs (by omega));have:=El.fit (e:=e) hv;show j*e.sz+fo+n<=(e.all l).length;omega
theorem DI{x:Operand}{r t t' n fo q sz:Nat}{v:α}{ls:List ab}(e:El α)(l:List α)(j:Nat)(ho:o.op = .load t' x)(hx:ao Γ x=some (D.ptr r (j*sz+fo)))(hi:H[r]?=some (some ⟨t,e.all l,some sz,some (.inl q)⟩))(hXi:r ∉ X)(ht:bJ P t' true n)
  (hv:l[j]?=some v) (hls:((e.f v).drop fo).take n=ls) (hs:e.sz=sz:=by rfl) (hf:fo+n<=sz:=by decide) (hn:0<n:=by decide):Jq P ops X o Γ H (D.agg ls):=by
 subst hs;refine jC ho hx hi hXi ht hn ?_ ?_
 .have:=El.fit (e:=e) hv;show j*e.sz+fo+n<=(e.all l).length;omega
 .rw[<-hls];exact El.su hv fo n hf
end
end Rc
namespace Go.Proofs.YtakccfmgipajnaaGreatDoor
open Go Go.RowKit Rc
set_option maxHeartbeats 2000000 in
theorem Ns(l:List Lm)(i:Nat)(A B A2 B2:Nn)(n:Nat)(hn:n<65536)(ha:n%2=0->ar Tryz.prog 7 [dE A,V.one (ab.val (.int .u16 (((n/2):Nat):Int)))] (R.one (dE A2)))(hb:n%2=1->ar Tryz.prog 7 [dE B,V.one (ab.val (.int .u16 (((n/2):Nat):Int)))] (R.one (dE B2))):ar Tryz.prog 7 [dE (nf l i A B),V.one (ab.val (.int .u16 (n:Int)))] (R.one (dE (if n%2=0 then nf l i A2 B else nf l i A B2))):=by
 refine aF Tryz.func7 Tryz.ntmps7 rfl (fun w0 A0=>?_);refine zc 11 rfl (aa rfl (aw rfl) (aa rfl (bp rfl rfl) (zl 6 rfl (aa rfl (fR rfl rfl rfl (by decide) (r:=((n%2:Nat):Int)) (fB _ _)) (aa rfl (oy (n%2) rfl) (zl 4 rfl ?_))))));by_cases hk:n%2=0
 .refine bF [so 1 (D.val (.int .u16 (n:Int))),so 2 (D.ptr 0 0),so 4 (D.ptr 1 0),so 5 (D.val (.int .i64 ((n%2:Nat):Int)))] [au 46 [El.row aV l,ab.val (.int .i64 1),ab.val (.int .i64 (i:Int)),ab.val (.bool false),ae ([]),ae ([]),El.row bZ ([A,B]),ab.val (.bool false),El.row bm ([])],au 46 [El.row aV ([]),ab.val (.int .i64 0),ab.val (.int .i64 0),ab.val (.bool false),ae ([]),ae ([]),El.row bZ ([]),ab.val (.bool false),El.row bm ([])]] rfl rfl ?_;refine zc 1 rfl (j0 rfl rfl rfl rfl j9 ka rfl (qp 18 2 rfl rfl (zl 2 rfl ?_)));obtain⟨ti2,hi2,hz2,hs2,hb2⟩:=H8;refine aK rfl (wb bZ ([]) ([A,B]) rfl rfl rfl rfl (by decide) j9 j9 hi2 hz2 hs2 rfl (by first|(simp only[maxLen];omega)|(simp only[maxLen,XX,X2,X1,X6,Yg];omega)) (by rw[hb2];first|omega|(simp only[XX,X2,X1,X6,Yg];omega))) ?_;refine zl 4 rfl ?_;refine K3 (r:=2) 6 bZ ([]++[A,B]) rfl rfl (by simp) rfl (fun q3 c3 hcq3 hmq3=>?_);refine zc 6 rfl (aa rfl (aS (e:=bZ) (l:=[A,B]) 0 rfl rfl) (aa rfl (bo rfl) (zl 1 rfl (aa rfl (iu rfl rfl rfl (by decide) (r:=((n/2:Nat):Int)) (tv (by omega))) (aj B0 rfl (ha (by omega)) (hcl:=iL A.cl (rfl)) (aa rfl (oV (r:=2) bZ ([]++[A,B]) (0) rfl rfl rfl rfl (by decide) j9 ka (by simp)) ?_))))));refine aK rfl (v9 (r:=2) (fo:=0) bZ ([]++[A,B]) (0) A A2 rfl rfl rfl rfl ka rfl rfl) (zl 3 rfl (bF [so 2 _,so 4 _,so 6 (D.val (.slice (some ⟨q3,0,none⟩) ([]++[A,B]).length c3))] [_,_,ia 46 9 bZ (([]++[A,B]).set (0) A2) q3] rfl rfl (zc 7 rfl ?_)));refine vZ (r:=2) 0 bZ (([]++[A,B]).set (0) A2) (ls':=[El.row aV l,ab.val (.int .i64 1),ab.val (.int .i64 (i:Int)),ab.val (.bool false),ae ([]),ae ([]),El.row bZ (([]++[A,B]).set (0) A2),ab.val (.bool false),El.row bm ([])]) rfl rfl rfl (by decide) (by simp) (by simpa using hcq3) hmq3 ⟨.inl rfl,.inl rfl,.inl rfl,.inl rfl,.inl rfl,.inl rfl,.inr ⟨by simp,rfl⟩,.inl rfl,.inl rfl,trivial⟩ ?_;refine km [2] rfl (zc 5 rfl ?_);exact av ai rfl (by rw[if_pos hk] <;> rfl)
 .refine zc 1 rfl (j0 rfl rfl rfl rfl j9 ka rfl (qp 18 2 rfl rfl (zl 2 rfl ?_)));obtain⟨ti4,hi4,hz4,hs4,hb4⟩:=H8;refine aK rfl (wb bZ ([]) ([A,B]) rfl rfl rfl rfl (by decide) j9 j9 hi4 hz4 hs4 rfl (by first|(simp only[maxLen];omega)|(simp only[maxLen,XX,X2,X1,X6,Yg];omega)) (by rw[hb4];first|omega|(simp only[XX,X2,X1,X6,Yg];omega))) ?_;refine zl 4 rfl ?_;refine bF [so 1 (D.val (.int .u16 (n:Int))),so 2 (D.ptr 0 0),so 4 (D.ptr 1 0),so 5 (D.val (.int .i64 ((n%2:Nat):Int))),so 6 (D.v (V.one (ab.own 2 1)))] [au 46 [El.row aV l,ab.val (.int .i64 1),ab.val (.int .i64 (i:Int)),ab.val (.bool false),ae ([]),ae ([]),El.row bZ ([A,B]),ab.val (.bool false),El.row bm ([])],au 46 [El.row aV ([]),ab.val (.int .i64 0),ab.val (.int .i64 0),ab.val (.bool false),ae ([]),ae ([]),El.row bZ ([]),ab.val (.bool false),El.row bm ([])],bR 46 9 bZ ([]++[A,B]) 1] rfl rfl ?_;refine K3 (r:=2) 6 bZ ([]++[A,B]) rfl rfl (by simp) rfl (fun q5 c5 hcq5 hmq5=>?_);refine zc 6 rfl (aa rfl (aS (e:=bZ) (l:=[A,B]) 1 rfl rfl) (aa rfl (bo rfl) (zl 1 rfl (aa rfl (iu rfl rfl rfl (by decide) (r:=((n/2:Nat):Int)) (tv (by omega))) (aj B0 rfl (hb (by omega)) (hcl:=iL B.cl (rfl)) (aa rfl (oV (r:=2) bZ ([]++[A,B]) (1) rfl rfl rfl rfl (by decide) j9 ka (by simp)) ?_))))));refine aK rfl (v9 (r:=2) (fo:=0) bZ ([]++[A,B]) (1) B B2 rfl rfl rfl rfl ka rfl rfl) (zl 3 rfl (bF [so 2 _,so 4 _,so 6 (D.val (.slice (some ⟨q5,0,none⟩) ([]++[A,B]).length c5))] [_,_,ia 46 9 bZ (([]++[A,B]).set (1) B2) q5] rfl rfl (zc 7 rfl ?_)));refine vZ (r:=2) 0 bZ (([]++[A,B]).set (1) B2) (ls':=[El.row aV l,ab.val (.int .i64 1),ab.val (.int .i64 (i:Int)),ab.val (.bool false),ae ([]),ae ([]),El.row bZ (([]++[A,B]).set (1) B2),ab.val (.bool false),El.row bm ([])]) rfl rfl rfl (by decide) (by simp) (by simpa using hcq5) hmq5 ⟨.inl rfl,.inl rfl,.inl rfl,.inl rfl,.inl rfl,.inl rfl,.inr ⟨by simp,rfl⟩,.inl rfl,.inl rfl,trivial⟩ ?_;refine km [2] rfl (zc 5 rfl ?_);exact av ai rfl (by rw[if_neg hk] <;> rfl)
set_option maxHeartbeats 2000000 in
theorem Nt(q:Qu)(l:List Lm)(p:List Mu)(h:ic 135001 10000000 q (.leaf l p))(n:Nat)(hn:n<65536):ar Tryz.prog 7 [dE (uC l p),V.one (ab.val (.int .u16 (n:Int)))] (R.one (dE (dj (.leaf l p) n).nn)):=by
 refine aF Tryz.func7 Tryz.ntmps7 rfl (fun w0 A0=>?_);obtain⟨hms,hll,hmb,hpc,hpl⟩:=h;refine zc 11 rfl (aa rfl (aw rfl) (aa rfl (aU rfl (by decide)) (zl 8 rfl (aa rfl (fR rfl rfl rfl (by decide) (r:=((n%7:Nat):Int)) (fB _ _)) (aa rfl (oy (n%7) rfl) (aa rfl (du rfl rfl rfl (r:=(((n%7:Nat):Int)-3)) (bS rfl (by omega) (by omega))) ?_))))));refine aj ye rfl (show ar Tryz.prog 32 [_,_] (R.aW [qV (an (dD n)),V.one (ab.val (.int .i64 0))]) from w4 (((n%7:Nat):Int)-3) 2 (by omega) (by omega) (by decide) (by decide) (by decide)) (zl 10 rfl ?_);refine bF [so 1 (D.val (.int .u16 (n:Int))),so 2 _,so 4 _,so 7 (D.ptr 2 0)] [au 46 [El.row aV l,ab.val (.int .i64 0),ab.val (.int .i64 0),ab.val (.bool false),ae ([]),ae ([]),El.row bZ ([]),ab.val (.bool false),El.row bm p],_,au 35 (qL (dD n))] rfl rfl (zc 3 rfl (aa rfl (aw rfl) ?_));by_cases hp0:0<p.length
 .refine aa rfl (dQ rfl) (zl 2 rfl (aa rfl (fR rfl rfl rfl (by decide) (r:=((n%4:Nat):Int)) (fB _ _)) ?_));by_cases h4:n%4<2
  .refine aa rfl (aX rfl) (zl 5 rfl ?_);obtain⟨x,hx⟩:∃x,p[(n/4%p.length)]?=some x:=⟨_,XM (YE _ hp0)⟩;have hxm:=XR hx;haveI hxB:=hmb x hxm;have hcx:=hpc x hxm;have hlt:=YE (n/4) hp0;refine bF [so 1 _,so 2 _,so 4 _,so 7 _] [_,_,_] rfl rfl (zc 2 rfl (aa rfl (iu rfl rfl rfl (by decide) (r:=((n/4:Nat):Int)) (tv (by omega))) (aa rfl (oy (n/4) rfl) (zl 2 rfl (aa rfl (aw rfl) (aa rfl (fR rfl rfl rfl (by omega) (r:=(((n/4%p.length):Nat):Int)) (fB _ _)) (zl 4 rfl ?_)))))));refine bF [so 2 _,so 4 _,so 7 _,so 9 (D.val (.int .i64 (((n/4%p.length):Nat):Int)))] [_,_,_] rfl rfl (zc 1 rfl (j0 rfl rfl rfl rfl fU gB rfl (qp 60 3 rfl rfl (zl 2 rfl ?_))));obtain⟨ti3,hi3,hz3,hs3,hb3⟩:=SF;refine aK rfl (wb bm ([]) p rfl rfl rfl rfl (by decide) fU fU hi3 hz3 hs3 rfl (by first|(simp only[maxLen];omega)|(simp only[maxLen,XX,X2,X1,X6,Yg];omega)) (by rw[hb3];first|omega|(simp only[XX,X2,X1,X6,Yg];omega))) ?_;refine zl 5 rfl ?_;refine Dx (r:=3) 0 bm ([]++p) (ls':=fun q4 c4=>[El.row aV l,ab.val (.int .i64 0),ab.val (.int .i64 0),ab.val (.bool false),ae ([]),ae ([]),El.row bZ ([]),ab.val (.bool false),ab.val (.slice (some ⟨q4,0,none⟩) ([]++p).length c4)]) rfl rfl rfl (by simpa using hp0) (fun _ _=>⟨.inl rfl,.inl rfl,.inl rfl,.inl rfl,.inl rfl,.inl rfl,.inl rfl,.inl rfl,.inr ⟨rfl,rfl⟩,trivial⟩) (by decide) (fun _ _=>rfl) (fun q4 c4 hcq4 hmq4=>?_);refine aE 0 [(13,3)] [3] (dz 6 rfl (cK [] rfl (oV (r:=3) bm ([]++p) ((n/4%p.length)) rfl rfl rfl rfl (by decide) fU gB (by simpa using hlt)) (dz 1 rfl (cK [] rfl (DI (r:=3) bm ([]++p) ((n/4%p.length)) (fo:=4) rfl rfl rfl (by decide) jm (by simpa using hx) rfl) (eU (D.agg (qL x.c.q)) rfl (oN hcx) (dz 1 rfl ?_))))));refine ax kY rfl (kC (an (x.c.q)) (x.c.q) (aG _) (Br.use (by omega)) (an ((dD n))) ((dD n)) (aG _) (Br.use (by omega))) (cK [] rfl (oV (r:=3) bm ([]++p) ((n/4%p.length)) rfl rfl rfl rfl (by decide) fU gB (by simpa using hlt)) (dz 1 rfl ?_));refine cH 3 rfl ((fun _ hH=>v9 (r:=3) (fo:=4) bm ([]++p) ((n/4%p.length)) x (⟨x.r,an (x.c.q+dD n)⟩:Mu) rfl rfl rfl (hH.trans rfl) jm (by simpa using hx) rfl)) (aB (za 2 rfl ?_));refine bQ [2] [so 2 _,so 4 _] [au 46 [El.row aV l,ab.val (.int .i64 0),ab.val (.int .i64 0),ab.val (.bool false),ae ([]),ae ([]),El.row bZ ([]),ab.val (.bool false),ab.val (.slice (some ⟨q4,0,none⟩) ([]++p).length c4)],_,none,ia 107 7 bm (([]++p).set ((n/4%p.length)) (⟨x.r,an (x.c.q+dD n)⟩:Mu)) q4] rfl rfl rfl ?_;refine vZ (r:=3) 0 bm (([]++p).set ((n/4%p.length)) (⟨x.r,an (x.c.q+dD n)⟩:Mu)) (ls':=[El.row aV l,ab.val (.int .i64 0),ab.val (.int .i64 0),ab.val (.bool false),ae ([]),ae ([]),El.row bZ ([]),ab.val (.bool false),El.row bm (([]++p).set ((n/4%p.length)) (⟨x.r,an (x.c.q+dD n)⟩:Mu))]) rfl rfl rfl (by decide) (by simpa using hp0) (by simpa using hcq4) hmq4 ⟨.inl rfl,.inl rfl,.inl rfl,.inl rfl,.inl rfl,.inl rfl,.inl rfl,.inl rfl,.inr ⟨by simp,rfl⟩,trivial⟩ ?_;refine km [3] rfl (zc 5 rfl ?_);exact av ai rfl (by rw[show dj (.leaf l p) n = .leaf l (p.set (n/4%p.length) ⟨x.r,an (x.c.q+dD n)⟩) from by unfold dj q6;rw[if_pos ⟨hp0,h4⟩,hx]] <;> rfl)
  .refine aa rfl (aO rfl) (zl 11 rfl (aa rfl (aw rfl) ?_));by_cases hl0:0<l.length
   .refine aa rfl (dQ rfl) (zl 4 rfl ?_);obtain⟨x,hx⟩:∃x,l[(n/4%l.length)]?=some x:=⟨_,XM (YE _ hl0)⟩;have hxm:=XR hx;have hxo:=hms x hxm;haveI hxB:=hxo.B;have hcx:=hxo.can;have hlt:=YE (n/4) hl0;refine bF [so 1 _,so 2 _,so 4 _,so 7 _] [_,_,_] rfl rfl (zc 2 rfl (aa rfl (iu rfl rfl rfl (by decide) (r:=((n/4:Nat):Int)) (tv (by omega))) (aa rfl (oy (n/4) rfl) (zl 2 rfl (aa rfl (aw rfl) (aa rfl (fR rfl rfl rfl (by omega) (r:=(((n/4%l.length):Nat):Int)) (fB _ _)) (zl 4 rfl ?_)))))));refine bF [so 2 _,so 4 _,so 7 _,so 10 (D.val (.int .i64 (((n/4%l.length):Nat):Int)))] [_,_,_] rfl rfl (zc 1 rfl (j0 rfl rfl rfl rfl eC iD rfl (qp 90 3 rfl rfl (zl 2 rfl ?_))));obtain⟨ti6,hi6,hz6,hs6,hb6⟩:=xV;refine aK rfl (wb aV ([]) l rfl rfl rfl rfl (by decide) eC eC hi6 hz6 hs6 rfl (by first|(simp only[maxLen];omega)|(simp only[maxLen,XX,X2,X1,X6,Yg];omega)) (by rw[hb6];first|omega|(simp only[XX,X2,X1,X6,Yg];omega))) ?_;refine zl 4 rfl ?_;refine Dx (r:=3) 0 aV ([]++l) (ls':=fun q7 c7=>[ab.val (.slice (some ⟨q7,0,none⟩) ([]++l).length c7),ab.val (.int .i64 0),ab.val (.int .i64 0),ab.val (.bool false),ae ([]),ae ([]),El.row bZ ([]),ab.val (.bool false),El.row bm p]) rfl rfl rfl (by simpa using hl0) (fun _ _=>⟨.inr ⟨rfl,rfl⟩,.inl rfl,.inl rfl,.inl rfl,.inl rfl,.inl rfl,.inl rfl,.inl rfl,.inl rfl,trivial⟩) (by decide) (fun _ _=>rfl) (fun q7 c7 hcq7 hmq7=>?_);refine aE 0 [(13,3)] [3] (dz 6 rfl (cK [] rfl (oV (r:=3) aV ([]++l) ((n/4%l.length)) rfl rfl rfl rfl (by decide) eC iD (by simpa using hlt)) (dz 1 rfl (cK [] rfl (DI (r:=3) aV ([]++l) ((n/4%l.length)) (fo:=2) rfl rfl rfl (by decide) jm (by simpa using hx) rfl) (eU (D.agg (qL x.v.q)) rfl (oN hcx) (dz 1 rfl ?_))))));refine ax kY rfl (kC (an (x.v.q)) (x.v.q) (aG _) (Br.use (by omega)) (an ((dD n))) ((dD n)) (aG _) (Br.use (by omega))) (cK [] rfl (oV (r:=3) aV ([]++l) ((n/4%l.length)) rfl rfl rfl rfl (by decide) eC iD (by simpa using hlt)) (dz 1 rfl ?_));refine cH 3 rfl ((fun _ hH=>v9 (r:=3) (fo:=2) aV ([]++l) ((n/4%l.length)) x (⟨x.unit,x.up,an (x.v.q+dD n),x.pf⟩:Lm) rfl rfl rfl (hH.trans rfl) jm (by simpa using hx) rfl)) (aB (za 2 rfl ?_));refine bQ [2] [so 2 _,so 4 _] [au 46 [ab.val (.slice (some ⟨q7,0,none⟩) ([]++l).length c7),ab.val (.int .i64 0),ab.val (.int .i64 0),ab.val (.bool false),ae ([]),ae ([]),El.row bZ ([]),ab.val (.bool false),El.row bm p],_,none,ia 97 6 aV (([]++l).set ((n/4%l.length)) (⟨x.unit,x.up,an (x.v.q+dD n),x.pf⟩:Lm)) q7] rfl rfl rfl ?_;refine vZ (r:=3) 0 aV (([]++l).set ((n/4%l.length)) (⟨x.unit,x.up,an (x.v.q+dD n),x.pf⟩:Lm)) (ls':=[El.row aV (([]++l).set ((n/4%l.length)) (⟨x.unit,x.up,an (x.v.q+dD n),x.pf⟩:Lm)),ab.val (.int .i64 0),ab.val (.int .i64 0),ab.val (.bool false),ae ([]),ae ([]),El.row bZ ([]),ab.val (.bool false),El.row bm p]) rfl rfl rfl (by decide) (by simpa using hl0) (by simpa using hcq7) hmq7 ⟨.inr ⟨by simp,rfl⟩,.inl rfl,.inl rfl,.inl rfl,.inl rfl,.inl rfl,.inl rfl,.inl rfl,.inl rfl,trivial⟩ ?_;refine km [3] rfl (zc 5 rfl ?_);exact av ai rfl (by rw[show dj (.leaf l p) n = .leaf (l.set (n/4%l.length) ⟨x.unit,x.up,an (x.v.q+dD n),x.pf⟩) p from by unfold dj qZ;rw[if_neg (by omega),if_pos hl0,hx]] <;> rfl)
   .refine aa rfl (cD rfl) (zl 11 rfl ?_);exact av ai rfl (by rw[show dj (.leaf l p) n = .leaf l p from by unfold dj;rw[if_neg (by omega),if_neg hl0]] <;> rfl)
 .refine aa rfl (cD rfl) (zl 12 rfl (bF [so 1 _,so 2 _,so 4 _,so 7 _] [_,_,_] rfl rfl (zc 3 rfl (aa rfl (aw rfl) ?_))));by_cases hl0:0<l.length
  .refine aa rfl (dQ rfl) (zl 4 rfl ?_);obtain⟨x,hx⟩:∃x,l[(n/4%l.length)]?=some x:=⟨_,XM (YE _ hl0)⟩;have hxm:=XR hx;have hxo:=hms x hxm;haveI hxB:=hxo.B;have hcx:=hxo.can;have hlt:=YE (n/4) hl0;refine zc 2 rfl (aa rfl (iu rfl rfl rfl (by decide) (r:=((n/4:Nat):Int)) (tv (by omega))) (aa rfl (oy (n/4) rfl) (zl 2 rfl (aa rfl (aw rfl) (aa rfl (fR rfl rfl rfl (by omega) (r:=(((n/4%l.length):Nat):Int)) (fB _ _)) (zl 4 rfl (bF [so 2 _,so 4 _,so 7 _,so 10 (D.val (.int .i64 (((n/4%l.length):Nat):Int)))] [_,_,_] rfl rfl ?_)))))));refine zc 1 rfl (j0 rfl rfl rfl rfl eC iD rfl (qp 90 3 rfl rfl (zl 2 rfl ?_)));obtain⟨ti9,hi9,hz9,hs9,hb9⟩:=xV;refine aK rfl (wb aV ([]) l rfl rfl rfl rfl (by decide) eC eC hi9 hz9 hs9 rfl (by first|(simp only[maxLen];omega)|(simp only[maxLen,XX,X2,X1,X6,Yg];omega)) (by rw[hb9];first|omega|(simp only[XX,X2,X1,X6,Yg];omega))) ?_;refine zl 4 rfl ?_;refine Dx (r:=3) 0 aV ([]++l) (ls':=fun q10 c10=>[ab.val (.slice (some ⟨q10,0,none⟩) ([]++l).length c10),ab.val (.int .i64 0),ab.val (.int .i64 0),ab.val (.bool false),ae ([]),ae ([]),El.row bZ ([]),ab.val (.bool false),El.row bm p]) rfl rfl rfl (by simpa using hl0) (fun _ _=>⟨.inr ⟨rfl,rfl⟩,.inl rfl,.inl rfl,.inl rfl,.inl rfl,.inl rfl,.inl rfl,.inl rfl,.inl rfl,trivial⟩) (by decide) (fun _ _=>rfl) (fun q10 c10 hcq10 hmq10=>?_);refine aE 0 [(13,3)] [3] (dz 6 rfl (cK [] rfl (oV (r:=3) aV ([]++l) ((n/4%l.length)) rfl rfl rfl rfl (by decide) eC iD (by simpa using hlt)) (dz 1 rfl (cK [] rfl (DI (r:=3) aV ([]++l) ((n/4%l.length)) (fo:=2) rfl rfl rfl (by decide) jm (by simpa using hx) rfl) (eU (D.agg (qL x.v.q)) rfl (oN hcx) (dz 1 rfl ?_))))));refine ax kY rfl (kC (an (x.v.q)) (x.v.q) (aG _) (Br.use (by omega)) (an ((dD n))) ((dD n)) (aG _) (Br.use (by omega))) (cK [] rfl (oV (r:=3) aV ([]++l) ((n/4%l.length)) rfl rfl rfl rfl (by decide) eC iD (by simpa using hlt)) (dz 1 rfl ?_));refine cH 3 rfl ((fun _ hH=>v9 (r:=3) (fo:=2) aV ([]++l) ((n/4%l.length)) x (⟨x.unit,x.up,an (x.v.q+dD n),x.pf⟩:Lm) rfl rfl rfl (hH.trans rfl) jm (by simpa using hx) rfl)) (aB (za 2 rfl ?_));refine bQ [2] [so 2 _,so 4 _] [au 46 [ab.val (.slice (some ⟨q10,0,none⟩) ([]++l).length c10),ab.val (.int .i64 0),ab.val (.int .i64 0),ab.val (.bool false),ae ([]),ae ([]),El.row bZ ([]),ab.val (.bool false),El.row bm p],_,none,ia 97 6 aV (([]++l).set ((n/4%l.length)) (⟨x.unit,x.up,an (x.v.q+dD n),x.pf⟩:Lm)) q10] rfl rfl rfl ?_;refine vZ (r:=3) 0 aV (([]++l).set ((n/4%l.length)) (⟨x.unit,x.up,an (x.v.q+dD n),x.pf⟩:Lm)) (ls':=[El.row aV (([]++l).set ((n/4%l.length)) (⟨x.unit,x.up,an (x.v.q+dD n),x.pf⟩:Lm)),ab.val (.int .i64 0),ab.val (.int .i64 0),ab.val (.bool false),ae ([]),ae ([]),El.row bZ ([]),ab.val (.bool false),El.row bm p]) rfl rfl rfl (by decide) (by simpa using hl0) (by simpa using hcq10) hmq10 ⟨.inr ⟨by simp,rfl⟩,.inl rfl,.inl rfl,.inl rfl,.inl rfl,.inl rfl,.inl rfl,.inl rfl,.inl rfl,trivial⟩ ?_;refine km [3] rfl (zc 5 rfl ?_);exact av ai rfl (by rw[show dj (.leaf l p) n = .leaf (l.set (n/4%l.length) ⟨x.unit,x.up,an (x.v.q+dD n),x.pf⟩) p from by unfold dj qZ;rw[if_neg (by omega),if_pos hl0,hx]] <;> rfl)
  .refine aa rfl (cD rfl) (zl 11 rfl ?_);exact av ai rfl (by rw[show dj (.leaf l p) n = .leaf l p from by unfold dj;rw[if_neg (by omega),if_neg hl0]] <;> rfl)
theorem Ag(q:Qu):∀(t:Tr) (n:Nat),n<65536->ic 135001 10000000 q t->ar Tryz.prog 7 [dE t.nn,V.one (ab.val (.int .u16 (n:Int)))] (R.one (dE (dj t n).nn))
 |.leaf l p,n,hn,h=>Nt q l p h n hn
 |.node l i a b,n,hn,h=>by
  have h1:=Ns l i a.nn b.nn (dj a (n/2)).nn (dj b (n/2)).nn n hn (fun _=>Ag q a (n/2) (by omega) h.2.2.2.1) (fun _=>Ag q b (n/2) (by omega) h.2.2.2.2);have e:(dj (.node l i a b) n).nn=if n%2=0 then nf l i (dj a (n/2)).nn b.nn else nf l i a.nn (dj b (n/2)).nn:=by rw[dj];split <;> rfl
  rw[e];exact h1
end Go.Proofs.YtakccfmgipajnaaGreatDoor
namespace Rc
open Go Go.RowKit
@[reducible] def lB(x:List Rat)(i:Nat):Rat:=(x[i]?).getD 0
def ey(x:List Rat):List Tm->Rat
 |[]=>0
 |t::ts=>t.2*lB x t.1+ey x ts
theorem IB(x:List Rat):∀(ts:List Tm) (c:Rat),ts.foldl (fun s t=>s+t.2*(x[t.1]?).getD 0) c=c+ey x ts
 |[],c=>by simp only[ZJ,ey];grind
 |t::ts,c=>by rw[Y6,IB x ts];simp only[ey];grind
theorem oK(f:Af)(x:List Rat):bV f x=f.c+ey x f.ts:=by
 unfold bV k8;rw[Yo,IB]
theorem Jj{x:List Rat}{v:Nat}{c:Rat}:∀ts:List Tm,ey x (cI ts v c)=ey x ts+c*lB x v
 |[]=>by
  unfold cI;split
  .rename_i h;rw[h];simp only[ey];grind
  .simp only[ey];grind
 |(w,d)::ts=>by
  have ih:=Jj (x:=x) (v:=v) (c:=c) ts;unfold cI;split
  .rename_i e;subst e;split
   .rename_i h;have e:c = -d:=by grind
    rw[e];simp only[ey];grind
   .simp only[ey];grind
  .split
   .split
    .rename_i h;rw[h];simp only[ey];grind
    .simp only[ey];grind
   .simp only[ey] at ih ⊢;rw[ih];grind
theorem Ji{x:List Rat}:∀g f:List Tm,ey x (ep f g)=ey x f+ey x g
 |[],f=>by show ey x f=ey x f+0;grind
 |t::g,f=>by
  have e:ep f (t::g)=ep (cI f t.1 t.2) g:=rfl;rw[e,Ji g,Jj];simp only[ey];grind
theorem Cr{x:List Rat}{c:Rat}:∀ts:List Tm,ey x (gY c ts)=c*ey x ts
 |[]=>by simp only[gY,ey];grind
 |t::ts=>by
  have ih:=Cr (x:=x) (c:=c) ts;unfold gY;split
  .rename_i h;rw[ih];simp only[ey];have:c*(t.2*lB x t.1)=0:=by
    have e:c*(t.2*lB x t.1)=(t.2*c)*lB x t.1:=by grind
    rw[e,h];grind
   grind
  .simp only[ey,ih];grind
theorem sJ(f:Af)(c:Rat)(x:List Rat):bV (bN f c) x=bV f x*c:=by
 rw[oK,oK];show f.c*c+ey x (dA f.ts c)=_;rw[jL,Cr];grind
theorem k7(f g:Af)(x:List Rat):bV (bA f g) x=bV f x-bV g x:=by
 rw[oK,oK,oK];show f.c+g.c*((-1:Int):Rat)+ey x (ep f.ts (dA g.ts ((-1:Int):Rat)))=_;rw[Ji,jL,Cr,show((-1:Int):Rat) = -1 by decide +kernel];grind
theorem p9(i:Nat)(x:List Rat):bV (fV i) x=lB x i:=by
 rw[oK];show(0:Rat)+(((1:Int):Rat)*lB x i+0)=_;rw[show((1:Int):Rat)=1 by decide +kernel];grind
theorem qa(c:Rat)(x:List Rat):bV (fN c) x=c:=by
 rw[oK];show c+0=c;grind
theorem Ak:∀t:Tr,t.size+1<=2^(t.ht+1)
 |.leaf _ _=>by show 1+1<=2^(0+1);decide
 |.node l i a b=>by
  have ha:=Ak a;have hb:=Ak b;have h1:2^(a.ht+1)<=2^(max a.ht b.ht+1):=X3 (by decide) (by omega);have h2:2^(b.ht+1)<=2^(max a.ht b.ht+1):=X3 (by decide) (by omega);show 1+a.size+b.size+1<=2^(1+max a.ht b.ht+1);rw[show 1+max a.ht b.ht+1=(max a.ht b.ht+1)+1 by omega,Yb];omega
theorem NC{t:Tr}(h:t.ht<=2):t.size<=7:=by
 have h1:=Ak t;have h2:2^(t.ht+1)<=2^3:=X3 (by decide) (by omega);omega
structure gV(s:Sc)(x:List Rat):Prop where
 q:dt s.q
 k:∀d∈s.path,d.kind=1\/d.kind=2
 na:wi s.q.r x
 rows:sO s.q.r x=true
 path:∀d∈s.path,uM s.q d x=true
 aq:qz s.q.g x s.aq
section
variable {s:Sc}{x:List Rat}
theorem Ks(h:gV s x){i:Nat}(hi:i<s.q.g.ag):lB (dh s.q.g x) i=lB x i:=by
 show((dh s.q.g x)[i]?).getD 0=(x[i]?).getD 0;rw[show(dh s.q.g x)[i]?=x[i]? from zt 0 (XS _) i (by rw[h.na.len,h.q.r.lo];omega)]
theorem VJ(h:gV s x){j:Nat}{p:Af}(hp:s.q.g.us[j]?=some p):lB (dh s.q.g x) (s.q.g.ag+j)=mx (bV p (dh s.q.g x)) 0:=by
 have hju:=(XN.1 hp).1;have hxl:x.length=s.q.g.ag:=by rw[h.na.len,h.q.r.lo]
 have e1:(dh s.q.g x)[s.q.g.ag+j]?=(iN s.q.g.us x (j+1))[s.q.g.ag+j]?:=zt (j+1) (by omega) _ (by omega);rw[vX hp,YL (by rw[qo j (by omega),hxl];omega),qo j (by omega),hxl,zaS] at e1;show((dh s.q.g x)[s.q.g.ag+j]?).getD 0=_;rw[e1];simp only[YD,Yt];congr 1;exact(Jm (m:=s.q.g.ag+j) (h.q.g.us j p hp).var (fun i hi=>zt j (by omega) i (by omega))).symm
theorem Da(h:gV s x){r:Rw}{p:Af}(h0:¬r.idx<0)(hp:s.q.g.us[r.idx.toNat]?=some p)(hb:kR s r=true):dM s r<=bV p (dh s.q.g x):=by
 by_cases h1:r.lo<1
 .have hb:(fu s.aq r.lo r.idx false).2=true:=hb;rw[CX h1] at hb;simp at hb
 .cases hm:s.aq[(r.lo-1).toNat]? with
  |none=>
   have hb:(fu s.aq r.lo r.idx false).2=true:=hb;unfold fu at hb;rw[if_neg h1,hm] at hb;simp at hb
  |some m=>
   have hb:(fu s.aq r.lo r.idx false).2=true:=hb;rw[sU h1 hm] at hb;simp only[XQ,beq_iff_eq] at hb;show(fu s.aq r.lo r.idx false).1<=_;rw[sU h1 hm];exact(h.aq m (XR hm) p (by rw[hb.1];exact hp)).2 hb.2
theorem Db(h:gV s x){r:Rw}{p:Af}(h0:¬r.idx<0)(hp:s.q.g.us[r.idx.toNat]?=some p)(hb:kl s r=true):bV p (dh s.q.g x)<=dG s r:=by
 by_cases h1:r.hi<1
 .have hb:(fu s.aq r.hi r.idx true).2=true:=hb;rw[CX h1] at hb;simp at hb
 .cases hm:s.aq[(r.hi-1).toNat]? with
  |none=>
   have hb:(fu s.aq r.hi r.idx true).2=true:=hb;unfold fu at hb;rw[if_neg h1,hm] at hb;simp at hb
  |some m=>
   have hb:(fu s.aq r.hi r.idx true).2=true:=hb;rw[sU h1 hm] at hb;simp only[XQ,beq_iff_eq] at hb;show _<=(fu s.aq r.hi r.idx true).1;rw[sU h1 hm];exact(h.aq m (XR hm) p (by rw[hb.1];exact hp)).1 hb.2
theorem VK{j:Nat}{p:Af}(hp:s.q.g.us[j]?=some p):((rC s.q.g x)[j]?).getD 0=bV p (dh s.q.g x):=by
 unfold rC;rw[YW,hp];rfl
theorem Kt(h:gV s x){j:Int}{k:Nat}(h0:¬j<0){p:Af}(hp:s.q.g.us[j.toNat]?=some p)(hd:kq s.path k j=true):(k=1->0<=bV p (dh s.q.g x))/\(k=2->bV p (dh s.q.g x)<=0):=by
 unfold kq at hd;rw[zas] at hd;obtain⟨d,hd,he⟩:=hd;simp only[XQ,beq_iff_eq] at he;have hk:d.kind=k:=by omega
 have hi:d.idx=j.toNat:=by omega
 have hh:=h.path d hd;unfold uM at hh;rw[hi,VK hp] at hh;refine⟨fun e=>?_,fun e=>?_⟩
 .rw[if_neg (by omega),if_neg (by omega),if_pos (by omega)] at hh;exact lI.1 (of_decide_eq_true hh)
 .rw[if_neg (by omega),if_neg (by omega),if_neg (by omega)] at hh;exact mG.1 (of_decide_eq_true hh)
theorem Kq(h:gV s x){r:Rw}{p:Af}(h0:¬r.idx<0)(hp:s.q.g.us[r.idx.toNat]?=some p)(hb:gp s r=true):0<=bV p (dh s.q.g x):=by
 unfold gp at hb;simp only[XQ,YO,decide_eq_true_eq] at hb;rcases hb.2 with hb|hb
 .exact(Kt h h0 hp hb.2).1 rfl
 .exact Rat.le_trans (lI.1 hb.2) (Da h h0 hp hb.1)
theorem Kr(h:gV s x){r:Rw}{p:Af}(h0:¬r.idx<0)(hp:s.q.g.us[r.idx.toNat]?=some p)(hb:gF s r=true):bV p (dh s.q.g x)<=0:=by
 unfold gF at hb;simp only[XQ,YO,decide_eq_true_eq] at hb;rcases hb.2 with hb|hb
 .exact(Kt h h0 hp hb.2).2 rfl
 .exact Rat.le_trans (Db h h0 hp hb.1) (mG.1 hb.2)
theorem GQ{a:Rat}(h:0<=a):mx a 0=a:=ur (vC.2 h)
theorem GR{a:Rat}(h:a<=0):mx a 0=0:=by
 obtain⟨k1,k2,k3⟩:=GS (a:=a) (b:=0);rcases k3 with k3|k3
 .rw[k3] at k2 ⊢;exact Rat.le_antisymm h k2
 .exact k3
theorem ML{l u y p:Rat}(h1:l<0)(h2:0<u)(h3:l<=p)(h4:p<=u)(hy:y=mx p 0):0<=(p-l)*u-y*(u-l):=by
 by_cases hp:0<=p
 .rw[GQ hp] at hy;have:0<=(-l)*(u-p):=ZZ (by grind) (by grind);rw[hy];grind
 .rw[GR (zad (zaw.1 hp))] at hy;have:0<=(p-l)*u:=ZZ (by grind) (zad h2);rw[hy];grind
theorem Mo(h:gV s x){r:Rw}{p:Af}(h0:¬r.idx<0)(hp:s.q.g.us[r.idx.toNat]?=some p)(hb:(eY s r p).2=true):0<=bV (eY s r p).1 (dh s.q.g x):=by
 have hv:=VJ h hp;obtain⟨k1,k2,k3⟩:=GS (a:=bV p (dh s.q.g x)) (b:=0);have hneg1:((-1:Int):Rat) = -1:=by decide +kernel
 unfold eY at hb ⊢;split at hb
 .rename_i e;rw[if_pos e,p9,hv];exact k2
 rename_i e5;rw[if_neg e5];split at hb
 .rename_i e;rw[if_pos e,k7,p9,hv];grind
 rename_i e6;rw[if_neg e6];split at hb
 .rename_i e;rw[if_pos e];exact Kq h h0 hp hb
 rename_i e7;rw[if_neg e7];split at hb
 .rename_i e;rw[if_pos e,k7,p9,hv,GQ (Kq h h0 hp hb)];grind
 rename_i e8;rw[if_neg e8];split at hb
 .rename_i e;rw[if_pos e,sJ,hneg1];have:=Kr h h0 hp hb;grind
 rename_i e9;rw[if_neg e9];split at hb
 .rename_i e;rw[if_pos e,sJ,p9,hv,GR (Kr h h0 hp hb)];grind
 rename_i e10;rw[if_neg e10];split at hb
 .rename_i e;rw[if_pos e,k7,qa];have hb:(kR s r&&(r.hi == 0))=true:=hb;rw[XQ] at hb;have:=Da h h0 hp hb.1;grind
 rename_i e11;rw[if_neg e11];split at hb
 .rename_i e;rw[if_pos e,k7,qa];have hb:(kl s r&&(r.lo == 0))=true:=hb;rw[XQ] at hb;have:=Db h h0 hp hb.1;grind
 rename_i e12;rw[if_neg e12];split at hb
 .rename_i e;rw[if_pos e];split at hb
  .rename_i e;rw[if_pos e,k7,sJ,sJ,k7,qa,p9];exact ML e.2.2.1 e.2.2.2 (Da h h0 hp e.1) (Db h h0 hp e.2.1) hv
  .simp at hb
 .simp at hb
theorem S9(h:gV s x){r:Rw}(hb:(cv s r).2=true):0<=bV (cv s r).1 (dh s.q.g x):=by
 unfold cv at hb ⊢;split at hb
 .rename_i h5;rw[if_pos h5];unfold o7 at hb ⊢;split at hb
  .simp at hb
  .rename_i h0;rw[if_neg h0]
   cases hp:s.q.g.us[r.idx.toNat]? with
   |none=>rw[hp] at hb;simp at hb
   |some p=>rw[hp] at hb;exact Mo h h0 hp hb
 .rename_i h5;rw[if_neg h5];have hr:=h.q.r;unfold bK at hb ⊢;rw[if_neg h5] at hb ⊢;split at hb
  .simp at hb
  rename_i hz;rw[if_neg hz];split at hb
  .rename_i e;rw[if_pos e]
   cases hc:s.q.r.lo[r.idx.toNat]? with
   |none=>rw[hc] at hb;simp at hb
   |some c=>
    have hi:=(XN.1 hc).1;obtain⟨d,hd⟩:∃d,s.q.r.hi[r.idx.toNat]?=some d:=⟨_,XM (by rw[hr.hi,<-hr.lo];exact hi)⟩;obtain⟨y,hy⟩:∃y,x[r.idx.toNat]?=some y:=⟨_,XM (by rw[h.na.len];exact hi)⟩;show 0<=bV (bA (fV r.idx.toNat) (fN c)) _;rw[k7,p9,qa,Ks h (by rw[<-hr.lo];exact hi)];show 0<=(x[r.idx.toNat]?).getD 0-c;rw[hy];have:=(h.na.BL _ y c d hy hc hd).1;simp only[Yt];grind
  rename_i e1;rw[if_neg e1];split at hb
  .rename_i e;rw[if_pos e]
   cases hc:s.q.r.hi[r.idx.toNat]? with
   |none=>rw[hc] at hb;simp at hb
   |some c=>
    have hi:=(XN.1 hc).1;obtain⟨d,hd⟩:∃d,s.q.r.lo[r.idx.toNat]?=some d:=⟨_,XM (by rw[hr.lo,<-hr.hi];exact hi)⟩;obtain⟨y,hy⟩:∃y,x[r.idx.toNat]?=some y:=⟨_,XM (by rw[h.na.len,hr.lo,<-hr.hi];exact hi)⟩;show 0<=bV (bA (fN c) (fV r.idx.toNat)) _;rw[k7,p9,qa,Ks h (by rw[<-hr.hi];exact hi)];show 0<=c-(x[r.idx.toNat]?).getD 0;rw[hy];have:=(h.na.BL _ y d c hy hd hc).2;simp only[Yt];grind
  rename_i e2;rw[if_neg e2];split at hb
  .rename_i e;rw[if_pos e]
   cases hc:s.q.r.rows[r.idx.toNat]? with
   |none=>rw[hc] at hb;simp at hb
   |some f=>
    have hm:=XR hc;show 0<=bV f (dh s.q.g x);rw[Jm (m:=s.q.g.ag) (v:=dh s.q.g x) (v':=x) (hr.rows f hm).var (fun i hi=>zt 0 (XS _) i (by rw[h.na.len,hr.lo];omega))];have:=h.rows;unfold sO at this;exact lI.1 (of_decide_eq_true (Yz.1 this f hm))
  rename_i e3;rw[if_neg e3];split at hb
  .cases hc:s.path[r.idx.toNat]? with
   |none=>rw[hc] at hb;simp at hb
   |some d=>
    have hk:=h.k d (XR hc);rw[hc] at hb;simp only at hb;rw[if_neg (by omega)] at hb;simp at hb
  .simp at hb
theorem Fw(h:gV s x){f:Af}{l:List Mu}:∀{n:Nat} {g:Af},fE s f l n=some g->bV g (dh s.q.g x)<=bV f (dh s.q.g x)
 |0,g,e=>by cases e;exact za2
 |n+1,g,e=>by
  have e:(match fE s f l n,l[n]? with
   |some g,some x=>if gq s l n x=true then some (bA g (bN (cv s x.r).1 x.c.q)) else none
   |_,_=>none)=some g:=e
  cases h1:fE s f l n with
  |none=>rw[h1] at e;simp at e
  |some g0=>
   cases h2:l[n]? with
   |none=>rw[h1,h2] at e;simp at e
   |some y=>
    rw[h1,h2] at e;simp only at e;split at e
    .rename_i ho;simp only[XL] at e;subst e;have ih:=Fw h h1;unfold gq at ho;simp only[XQ,decide_eq_true_eq] at ho;have hf:=S9 h ho.2.2;have:0<=bV (cv s y.r).1 (dh s.q.g x)*y.c.q:=ZZ hf (zad ho.1);rw[k7,sJ];grind
    .simp at e
theorem Gc(h:gV s x){f:Af}{l:List Mu}(hp:kI s f l=true):0<=bV f (dh s.q.g x):=by
 unfold kI at hp;rw[XQ] at hp;have h2:=lI.1 (of_decide_eq_true hp.2)
 cases e:fE s f l l.length with
 |none=>
  have h1:=hp.1;unfold jM at h1;rw[e] at h1;simp at h1
 |some g=>
  rw[FA e] at hp h2;have hl:=of_decide_eq_true hp.1;have hg:bV g (dh s.q.g x)=g.c:=by rw[oK,X5 hl];show g.c+0=g.c;grind
  exact Rat.le_trans (by rw[hg];exact h2) (Fw h e)
theorem RP(h:gV s x){m:Lm}(hm:ou s m=true):qz s.q.g x [m]:=fun m' hm' p hp=>by
 rw[Ym] at hm';subst hm';unfold ou at hm;rw[hp] at hm;have h1:=Gc h hm;have hneg1:((-1:Int):Rat) = -1:=by decide +kernel
 unfold rT at h1;refine⟨fun hu=>?_,fun hu=>?_⟩
 .rw[if_pos hu,sJ,k7,qa,hneg1] at h1;grind
 .rw[if_neg (by rw[hu];decide),k7,qa] at h1;grind
end
theorem qz.VM{g:Gr}{x:List Rat}{l r:List Lm}(h1:qz g x l)(h2:qz g x r):qz g x (l++r):=fun m hm=>by
 rcases Yc.1 hm with hm|hm
 .exact h1 m hm
 .exact h2 m hm
theorem Dj{q:Qu}{p:List Dc}{x:List Rat}:∀{ms l r:List Lm},gV ⟨q,p,l⟩ x->cj q p ms l=(true,r)->gV ⟨q,p,r⟩ x
 |[],l,r,h,e=>by unfold cj at e;cases e;exact h
 |m::ms,l,r,h,e=>by
  unfold cj at e;split at e
  .rename_i h1;exact Dj (ms:=ms) (l:=l++[m]) ⟨h.q,h.k,h.na,h.rows,h.path,qz.VM h.aq (RP h h1)⟩ e
  .simp at e
theorem gV.dec{q:Qu}{p:List Dc}{l:List Lm}{x:List Rat}(h:gV ⟨q,p,l⟩ x){k i:Nat}(hk:k=1\/k=2)(hd:uM q ⟨k,i,0⟩ x=true):gV ⟨q,p++[⟨k,i,0⟩],l⟩ x:=
 ⟨h.q,fun d hd=>by
  rcases Yc.1 hd with hd|hd
  .exact h.k d hd
  .rw[Ym] at hd;subst hd;exact hk,h.na,h.rows,fun d hd'=>by
  rcases Yc.1 hd' with hd'|hd'
  .exact h.path d hd'
  .rw[Ym] at hd';subst hd';exact hd,h.aq⟩
theorem SI(q:Qu)(i:Nat)(x:List Rat):uM q ⟨1,i,0⟩ x=true\/uM q ⟨2,i,0⟩ x=true:=by
 show decide (0<=sg (((rC q.g x)[i]?).getD 0))=true\/decide (sg (((rC q.g x)[i]?).getD 0)<=0)=true;rw[decide_eq_true_eq,decide_eq_true_eq];omega
theorem zN{q:Qu}{x:List Rat}:∀{t:Tr} {p:List Dc} {l:List Lm},(bz q t p l).1=true->gV ⟨q,p,l⟩ x->0<=bV q.goal (dh q.g x)
 |.leaf ms pf,p,l,h,ha=>by
  unfold bz at h;split at h
  .rename_i h1;have hA:cj q p ms l=(true,(cj q p ms l).2):=by rw[<-h1]
   split at h
   .rename_i h2;exact Gc (Dj ha hA) h2
   .simp at h
  .simp at h
 |.node ms i a b,p,l,h,ha=>by
  rw[qH] at h;split at h
  .rename_i h1;have hA:cj q p ms l=(true,(cj q p ms l).2):=by rw[<-h1]
   have hB:=Dj ha hA;split at h
   .rename_i h2;split at h
    .rename_i h3;rcases SI q i x with hd|hd
     .exact zN h2 (hB.dec (.inl rfl) hd)
     .exact zN h3 (hB.dec (.inr rfl) hd)
    .simp at h
   .simp at h
  .simp at h
end Rc
namespace Rc.Ev
noncomputable section
open Go
abbrev PP:Program:=Go.Proofs.Tryz.prog
inductive Tr(α:Type) where
 |e
 |n (v:Option α) (l r:Tr α)
def lK(f:Nat):Nat->List Bool:=
 Nat.rec (fun _=>[]) (fun _ ih k=>bif Nat.beq k 0 then[] else bif Nat.beq (Nat.mod k 2) 1 then true::ih (Nat.div k 2) else false::ih (Nat.sub (Nat.div k 2) 1)) f
def bu(k:Nat):List Bool:=lK 20 k
def Tr.dX{α:Type}(t:Tr α):List Bool->Option α:=
 Tr.rec (fun _=>none) (fun v _ _ gl gr p=>List.casesOn p v (fun b p=>Bool.casesOn b (gr p) (gl p))) t
def Tr.eZ{α:Type}(t:Tr α):List Bool->Option α->Tr α:=
 Tr.rec (fun _ _=>.e) (fun v l r pl pr p x=>List.casesOn p (.n x l r) (fun b p=>Bool.casesOn b (.n v l (pr p x)) (.n v (pl p x) r))) t
def Tr.get{α:Type}(t:Tr α)(k:Nat):Option α:=t.dX (bu k)
def Tr.full{α:Type}(d:Nat):Tr α:=Nat.rec .e (fun _ t=>.n none t t) d
def Tr.fb{α β:Type}(t:Tr α)(p:List Bool)(x:Option α)(k:Tr α->β):β:=
 Tr.rec (motive:=fun _=>List Bool->Option α->(Tr α->β)->β) (fun _ _ k=>k .e)
  (fun v l r pl pr p x k=>List.casesOn p (k (.n x l r)) (fun b p=>Bool.casesOn b (pr p x fun r=>k (.n v l r)) (pl p x fun l=>k (.n v l r)))) t p x k
def fN{α:Type}(n:Nat)(k:Nat->α):α:=Nat.casesOn n (k 0) (fun m=>k (Nat.succ m))
def Tr.lE{α:Type}(d:Nat):Nat->Tr α:=Nat.rec (fun _=>.e) (fun _ ih N=>bif Nat.beq N 0 then .e else fN (Nat.div N 2) fun a=>fN (Nat.div (Nat.sub N 1) 2) fun b=>.n none (ih a) (ih b)) d
def Tr.upto{α:Type}(N:Nat):Tr α:=Tr.lE 20 N
inductive CV where
 |k (v:Value)
 |p (b o:Nat)
 |s (b o n:Nat) (c:Option Nat)
 |e
 |q (l:List Nat)
 |pq (l:List Nat) (i:Nat)
 |f (fn:Fn) (fs cs:List CV)
 |i (t:TypeId) (v:CV)
 |a (l:List CV)
 |t (l:List CV)
 |m (b:Nat)
 |y (b:Nat)
 |z
def CV.cl:CV->List CV
 |.a l=>l
 |v=>[v]
def CV.jS:CV->Bool
 |.t _=>true
 |_=>false
abbrev CV.int(n:Int):CV:=.k (.int .i64 n)
abbrev CV.bool(b:Bool):CV:=.k (.bool b)
abbrev CV.un:CV:=.t []
def l3:Value->Option CV
 |.bool b=>some (.k (.bool b))
 |.int k n=>some (.k (.int k n))
 |.string s=>some (.k (.string s))
 |.pointer none=>some (.k (.pointer none))
 |.slice none 0 0=>some (.k (.slice none 0 0))
 |.map none=>some (.k (.map none))
 |.nilFunc=>some (.k .nilFunc)
 |.nilIface=>some (.k .nilIface)
 |_=>none
def CE(l:List Value):Option (List CV):=
 List.rec (some []) (fun v _ ih=>match l3 v,ih with
  |some x,some xs=>some (x::xs)
  |_,_=>none) l
def yE:Value->Option CV
 |.agg cs=>match CE cs.toList with
  |some l=>some (.a l)
  |none=>none
 |.tuple vs=>match vs.toList with
  |[]=>some .un
  |_=>none
 |v=>l3 v
def CI:CV->Option Value
 |.k v=>some v
 |_=>none
def cos(l:List CV):Option (List Value):=
 List.rec (some []) (fun v _ ih=>match CI v,ih with
  |some x,some xs=>some (x::xs)
  |_,_=>none) l
def yF:CV->Option Value
 |.k v=>some v
 |.a l=>match cos l with
  |some l=>some (.agg l.toArray)
  |none=>none
 |_=>none
inductive Bk where
 |c (l:List CV) (t:TypeId) (x:Bool)
 |m (es:List (Value×CV×Nat)) (ck:Nat)
 |l (st:LoopState) (pd:Option Code) (fn:FuncId) (tm:Tr CV) (ps:Array Tmp) (asg body:Code) (df:Nat)
 |d (op:Bool)
structure HS where
 h:Tr Bk
 c:Nat
 tm:Nat
 mm:Nat
def fM(i:Nat):Nat:=Nat.shiftLeft 1 i
def HS.bD(S:HS)(i:Nat):HS:=match S with|⟨h,c,tm,mm⟩=>fN (Nat.lor tm (fM i)) fun tm=>⟨h,c,tm,mm⟩
def HS.rd(S:HS)(i:Nat):Option Bk:=S.h.get i
def HS.wr(S:HS)(i:Nat)(b:Option Bk):HS:=match S with|⟨h,c,tm,mm⟩=>fN (Nat.lor tm (fM i)) fun tm=>fN (Nat.lor mm (fM i)) fun mm=>h.fb (bu i) b fun h=>⟨h,c,tm,mm⟩
def HS.new(S:HS)(b:Bk):HS:=match S with|⟨h,c,tm,mm⟩=>fN (Nat.lor tm (fM c)) fun tm=>fN (Nat.lor mm (fM c)) fun mm=>fN (Nat.add c 1) fun c'=>h.fb (bu c) (some b) fun h=>⟨h,c',tm,mm⟩
inductive Ex where
 |norm
 |ret
 |exit (i:Nat)
def fS{α:Type}(S:HS)(k:HS->α):α:=match S with|⟨h,c,tm,mm⟩=>k ⟨h,c,tm,mm⟩
structure FS where
 t:Tr CV
 d:List Nat
 s:HS
abbrev ee:=Option (CV×HS)
def nth{α:Type}(l:List α):Nat->Option α:=
 List.rec (fun _=>none) (fun x _ ih n=>bif Nat.beq n 0 then some x else ih (Nat.sub n 1)) l
def tk{α:Type}(n:Nat)(l:List α):List α:=
 List.rec (fun _=>[]) (fun x _ ih n=>bif Nat.beq n 0 then[] else x::ih (Nat.sub n 1)) l n
def dr{α:Type}(n:Nat)(l:List α):List α:=
 List.rec (fun _=>[]) (fun x l ih n=>bif Nat.beq n 0 then x::l else ih (Nat.sub n 1)) l n
def len{α:Type}(l:List α):Nat:=List.rec 0 (fun _ _ ih=>Nat.add ih 1) l
def app{α:Type}(l m:List α):List α:=List.rec m (fun x _ ih=>x::ih) l
def kp{α β:Type}(l:List α)(k:List α->β):β:=List.rec (fun k=>k []) (fun x _ ih k=>ih (fun l=>k (x::l))) l k
def inf(t:TypeId):Option TypeInfo:=nth PP.types.toList t
def cR(t:TypeId):Option TypeDesc:=match inf t with
 |some i=>(match i.desc with
  |.named _ u=>(match inf u with|some j=>some j.desc|none=>none)
  |d=>some d)
 |none=>none
def dc(t:TypeId):Option Nat:=match inf t with|some i=>some i.size|none=>none
def qn(t:TypeId):Option Bool:=match cR t with|some (.struct _)=>some true|some (.array _ _)=>some true|some _=>some false|none=>none
def zero(t:TypeId):Option CV:=match inf t with
 |some i=>match i.zero with
  |some v=>match yE v with
   |some (.t _)=>none
   |r=>r
  |none=>none
 |none=>none
def elemOf(t:TypeId):Option TypeId:=match cR t with|some (.slice e)=>some e|_=>none
def HP(t:TypeId):Bool:=match cR t with|some (.int .u32)=>true|_=>false
def rM(t:TypeId)(cs:List CV):Option CV:=match qn t with
 |some true=>kp cs fun cs=>some (.a cs)
 |some false=>(match cs with | [v]=>some v|_=>none)
 |none=>none
def part{α:Type}(l:List α)(o zV0:Nat):Option (List α):=
 let r:=tk zV0 (dr o l);bif Nat.beq (len r) zV0 then some r else none
def rn{α:Type}(l:List α)(o:Nat)(r:List α):Option (List α):=
 bif Nat.ble (Nat.add o (len r)) (len l) then some (app (tk o l) (app r (dr (Nat.add o (len r)) l))) else none
def rep{α:Type}(l:List α)(n:Nat):List α:=Nat.rec [] (fun _ ih=>app l ih) n
def bM(T:Tr CV):Operand->Option CV
 |.tmp t=>T.get t
 |.const v=>yE v
 |.func f=>some (.f (.func f) [] [])
 |.global _=>none
def dU(T:Tr CV)(l:List Operand):Option (List CV):=
 List.rec (some []) (fun x _ ih=>match bM T x,ih with
  |some v,some vs=>some (v::vs)
  |_,_=>none) l
def lQ(S:HS)(b o zV0:Nat):Option (List CV):=match S.rd b with
 |some (.c l _ _)=>part l o zV0
 |_=>none
def ld(S:HS)(t:TypeId)(x:CV):ee:=match x with
 |.p b o=>match dc t with
  |some zV0=>match lQ S b o zV0 with
   |some cs=>match rM t cs with|some v=>some (v,S.bD b)|none=>none
   |none=>none
  |none=>none
 |.pq l i=>match nth l i with
  |some n=>(match qn t with|some false=>some (.k (.int .u32 (Int.ofNat n)),S)|_=>none)
  |none=>none
 |.z=>(match qn t,dc t with|some true,some 0=>some (.a [],S)|_,_=>none)
 |_=>none
def iT(S:HS)(b o:Nat)(cs:List CV):Option HS:=match S.rd b with
 |some (.c l t x)=>match rn l o cs with
  |some l'=>kp l' fun l'=>some (S.wr b (some (.c l' t x)))
  |none=>none
 |_=>none
def st(S:HS)(t:TypeId)(x v:CV):ee:=match x,dc t with
 |.p b o,some zV0=>bif v.jS then none else bif Nat.beq (len v.cl) zV0 then(match iT S b o v.cl with|some S'=>some (.un,S')|none=>none) else none
 |_,_=>none
def fill(T:Tr CV)(pl:Nat->Option (Nat×Nat))(cs:List CV)(ps:List (Nat×Operand)):Option (List CV):=
 List.rec (fun cs=>some cs) (fun p _ ih cs=>match pl p.1,bM T p.2 with
  |some (o,zV0),some v=>bif v.jS then none else bif Nat.beq (len v.cl) zV0 then(match rn cs o v.cl with|some cs'=>ih cs'|none=>none) else none
  |_,_=>none) ps cs
def Iq(fs:List Field)(i:Nat):Option (Nat×Nat):=match nth fs i with
 |some f=>match dc f.type with|some zV0=>some (f.offset,zV0)|none=>none
 |none=>none
def zf(T:Tr CV)(t:TypeId)(ps:List (Nat×Operand)):Option CV:=match zero t,cR t with
 |some zV0,some (.struct fs)=>match fill T (Iq fs.toList) zV0.cl ps with|some cs=>some (.a cs)|none=>none
 |some zV0,some (.array _ e)=>match dc e with
  |some n=>match fill T (fun i=>some (Nat.mul i n,n)) zV0.cl ps with|some cs=>some (.a cs)|none=>none
  |none=>none
 |_,_=>none
def zY(l:List CV):Option (List Nat):=
 List.rec (some []) (fun v _ ih=>match v,ih with
  |.k (.int .u32 (.ofNat m)),some ms=>some (m::ms)
  |_,_=>none) l
def rH(S:HS)(l:List CV)(t:TypeId):ee:=match dc t with
 |some _=>fN S.c fun i=>kp l fun l=>some (.p i 0,S.new (.c l t true))
 |none=>none
def qB(e:TypeId)(n:Nat)(m:Nat)(zV0:CV):Bool:=Nat.beq (len zV0.cl) m&&Nat.ble (Nat.mul n m) 16777216&&(match inf e with|some i=>Nat.ble n 1000000&&Nat.ble (Nat.mul n i.bytes) 140737488355328|none=>false)
def vP(T:Tr CV)(S:HS)(t:TypeId)(n:Nat)(ps:List (Nat×Operand)):ee:=match elemOf t with
 |some e=>match zero e,dc e with
  |some zV0,some m=>bif qB e n m zV0 then(match fill T (fun i=>some (Nat.mul i m,m)) (rep zV0.cl n) ps with
   |some cs=>bif HP e then(match zY cs with|some l=>bif Nat.beq (len l) n then some (.q l,S) else none|none=>none)
    else fN S.c fun i=>kp cs fun cs=>some (.s i 0 n (some n),S.new (.c cs e true))
   |none=>none) else none
  |_,_=>none
 |none=>none
def xC(S:HS)(t:TypeId)(n c:CV):ee:=match elemOf t,n,c with
 |some e,.k (.int .i64 (.ofNat n)),.k (.int .i64 (.ofNat c))=>match zero e,dc e with
  |some zV0,some m=>bif qB e c m zV0&&Nat.ble n c then fN n fun n=>fN c fun c=>fN S.c fun i=>kp (rep zV0.cl c) fun l=>some (.s i 0 n (some c),S.new (.c l e true)) else none
  |_,_=>none
 |_,_,_=>none
def src(S:HS)(e:TypeId)(zV0:Nat):CV->Option (List CV×HS)
 |.k (.slice none 0 0)=>some ([],S)
 |.e=>some ([],S)
 |.s b o n _=>match lQ S b o (Nat.mul n zV0) with|some cs=>some (cs,S.bD b)|none=>none
 |.k (.string s)=>bif Nat.beq zV0 1 then some (s.data.toList.map fun b=>CV.k (.int .u8 (Int.ofNat b.toNat)),S) else none
 |_=>none
def wP(t:TypeId):Bool:=match cR t with
 |some (.slice _)=>true
 |some .string=>true
 |_=>false
def fits(e:TypeId)(n:Nat):Bool:=match inf e,zero e with
 |some i,some zV0=>Nat.ble n 1000000&&Nat.ble (Nat.mul n i.bytes) 140737488355328&&Nat.beq (len zV0.cl) i.size
 |_,_=>false
def zn(S:HS)(e:TypeId)(k:Nat)(new:List CV):ee:=bif fits e k then fN S.c fun i=>kp new fun new=>some (.s i 0 k none,S.new (.c new e false)) else none
def Ib(c:Option Nat)(need q:Nat)(l:List CV):Bool:=match c with|some c=>Nat.ble need c|none=>Nat.ble q (len l)
def zm(S:HS)(e:TypeId)(zV0 k:Nat)(new:List CV)(b o n:Nat)(c:Option Nat):ee:=match S.rd b with
 |some (.c l t' _)=>bif Nat.beq t' e then
  fN (Nat.add n k) fun need=>
  bif Ib c need (Nat.add o (Nat.mul need zV0)) l then
   (match iT S b (Nat.add o (Nat.mul n zV0)) new with|some S'=>some (.s b o need c,S')|none=>none)
  else bif fits e need then(match c with
   |some _=>(match part l o (Nat.mul n zV0) with
    |some bg=>fN S.c fun i=>kp (app bg new) fun l=>some (.s i 0 need none,(S.bD b).new (.c l e false))
    |none=>none)
   |none=>bif Nat.beq o 0&&Nat.beq (Nat.mul n zV0) (len l) then
     fN S.c fun i=>kp (app l new) fun l=>some (.s i 0 need none,(S.wr b none).new (.c l e false))
    else none) else none
  else none
 |_=>none
def sY(S:HS)(t t2:TypeId)(x y:CV):ee:=match elemOf t with
 |some e=>match dc e with
  |some zV0=>bif Nat.ble 1 zV0&&wP t2 then(match src S e zV0 y with
   |some (new,S)=>bif Nat.beq (len new) 0 then(match x with
     |.k (.slice none 0 0)=>some (x,S)
     |.s _ _ _ _=>some (x,S)
     |.e=>some (x,S)
     |_=>none) else
    fN (Nat.div (len new) zV0) fun k=>
    match x with
    |.k (.slice none 0 0)=>zn S e k new
    |.s b o n c=>zm S e zV0 k new b o n c
    |_=>none
   |none=>none) else none
  |none=>none
 |none=>none
def sN(S:HS)(t:TypeId)(x y:CV):ee:=match elemOf t with
 |some e=>match dc e,x,y with
  |some zV0,.s b o n _,.s b' o' n' _=>
   let k:=bif Nat.ble n n' then n else n'
   match lQ S b' o' (Nat.mul k zV0) with
   |some cs=>match iT (S.bD b') b o cs with|some S'=>some (.int (Int.ofNat k),S')|none=>none
   |none=>none
  |some _,.s _ _ _ _,.k (.slice none 0 0)=>some (.int 0,S)
  |some _,.s _ _ _ _,.e=>some (.int 0,S)
  |_,_,_=>none
 |none=>none
def vE(S:HS)(t:TypeId)(x:CV):ee:=match elemOf t with
 |some e=>match zero e,x with
  |some zV0,.s b o n _=>bif Nat.beq n 0 then some (.un,S) else match iT S b o (rep zV0.cl n) with|some S'=>some (.un,S')|none=>none
  |some _,.k (.slice none 0 0)=>some (.un,S)
  |some _,.e=>some (.un,S)
  |_,_=>none
 |none=>none
def rS(S:HS)(t:TypeId)(x:CV):ee:=match cR t,x with
 |some (.slice _),.k (.slice none 0 0)=>some (.int 0,S)
 |some (.slice _),.e=>some (.int 0,S)
 |some (.slice _),.s _ _ n _=>some (.int (Int.ofNat n),S)
 |some (.slice _),.q l=>fN (len l) fun n=>some (.int (Int.ofNat n),S)
 |some .string,.k (.string s)=>some (.int (Int.ofNat s.size),S)
 |_,_=>none
def sR(S:HS)(t:TypeId)(x:CV):ee:=match cR t,x with
 |some (.slice _),.k (.slice none 0 0)=>some (.int 0,S)
 |some (.slice _),.s _ _ _ (some c)=>some (.int (Int.ofNat c),S)
 |_,_=>none
def fO{α:Type}(c:Option Nat)(k:Option Nat->α):α:=match c with|some c=>fN c fun c=>k (some c)|none=>k none
def jy(T:Tr CV):Option Operand->Option (Option Nat)
 |none=>some none
 |some x=>match bM T x with
  |some (.k (.int _ (.ofNat n)))=>some (some n)
  |_=>none
def rV(c:Option Nat)(bt e n o zV0:Nat):Nat:=match c with|some c=>c|none=>bif Nat.beq bt e then Nat.div (Nat.sub n o) zV0 else 0
def mU(mx c:Option Nat)(lo:Nat):Option Nat:=match mx with|some m=>some (Nat.sub m lo)|none=>match c with|some c=>some (Nat.sub c lo)|none=>none
def pj(S:HS)(t:TypeId)(b o n:Nat)(c lo hi mx:Option Nat):ee:=match elemOf t,S.rd b with
 |some e,some (.c l bt _)=>match dc e with
  |some zV0=>bif mx.isNone||hi.isSome then
   fN (lo.getD 0) fun lo=>fN (hi.getD n) fun hi=>
   let known:=rV c bt e (len l) o zV0
   let top:=mx.getD known
   bif Nat.ble lo hi&&Nat.ble hi top&&Nat.ble top known&&Nat.ble 1 zV0 then
    let nc:=mU mx c lo
    let S:=S.bD b
    bif Nat.beq lo 0 then fO nc fun nc=>some (.s b o hi nc,S) else
    match nc with
    |some c'=>fN c' fun c'=>fN (bif Nat.beq c' 0 then o else Nat.add o (Nat.mul lo zV0)) fun o=>fN (Nat.sub hi lo) fun n=>some (.s b o n (some c'),S)
    |none=>bif Nat.blt lo known then fN (Nat.add o (Nat.mul lo zV0)) fun o=>fN (Nat.sub hi lo) fun n=>some (.s b o n none,S)
     else bif Nat.beq lo hi then some (.e,S) else none
   else none
   else none
  |none=>none
 |_,_=>none
def qX(T:Tr CV)(S:HS)(t:TypeId)(x:CV)(lo hi mx:Option Operand):ee:=match jy T lo,jy T hi,jy T mx with
 |some lo,some hi,some mx=>match x with
  |.s b o n c=>pj S t b o n c lo hi mx
  |.q l=>(match elemOf t with
   |some e=>(match dc e,lo.getD 0,mx with
    |some _,0,none=>bif Nat.ble (hi.getD (len l)) (len l) then some (.q (tk (hi.getD (len l)) l),S) else none
    |_,_,_=>none)
   |none=>none)
  |.k (.slice none 0 0)=>(match elemOf t with
   |some e=>(match dc e,lo.getD 0,hi.getD 0,mx with
    |some _,0,0,none=>some (x,S)
    |_,_,_,_=>none)
   |none=>none)
  |.k (.string s)=>match cR t,mx with
   |some .string,none=>let h:=hi.getD s.size;bif Nat.ble (lo.getD 0) h&&Nat.ble h s.size then some (.k (.string (s.extract (lo.getD 0) h)),S) else none
   |_,_=>none
  |_=>none
 |_,_,_=>none
def sG(t:TypeId)(f:Nat):Option Field:=match cR t with
 |some (.struct fs)=>nth fs.toList f
 |_=>none
def yn(S:HS)(t:TypeId)(x:CV)(f:Nat):ee:=match x,sG t f with
 |.p b o,some f=>match dc f.type with
  |some 0=>(match S.rd b with
   |some (.c _ e _)=>(match dc e with|some 0=>some (.z,S.bD b)|_=>none)
   |_=>none)
  |some _=>fN (Nat.add o f.offset) fun o=>some (.p b o,S)
  |none=>none
 |_,_=>none
def Io(t:TypeId)(x:CV)(f:Nat):Option CV:=match x,sG t f with
 |.a l,some f=>match dc f.type with
  |some zV0=>match part l f.offset zV0 with|some cs=>rM f.type cs|none=>none
  |none=>none
 |_,_=>none
def H9(t:TypeId)(x i:CV):Option CV:=match x,i with
 |.s b o n _,.k (.int _ (.ofNat i))=>match elemOf t with
  |some e=>match dc e with|some zV0=>bif Nat.blt i n then fN (Nat.add o (Nat.mul i zV0)) fun o=>some (.p b o) else none|none=>none
  |none=>none
 |.q l,.k (.int _ (.ofNat i))=>match elemOf t with
  |some e=>match dc e with|some 1=>bif Nat.blt i (len l) then fN i fun i=>some (.pq l i) else none|_=>none
  |none=>none
 |.p b o,.k (.int _ (.ofNat i))=>match cR t with
  |some (.array n e)=>match dc e with|some zV0=>bif Nat.blt i n then fN (Nat.add o (Nat.mul i zV0)) fun o=>some (.p b o) else none|none=>none
  |_=>none
 |_,_=>none
def HO(t:TypeId)(x i:CV):Option CV:=match x,i,cR t with
 |.a l,.k (.int _ (.ofNat i)),some (.array n e)=>match dc e with
  |some zV0=>bif Nat.blt i n then(match part l (Nat.mul i zV0) zV0 with|some cs=>rM e cs|none=>none) else none
  |none=>none
 |_,_,_=>none
def gZ{α:Type}(s:Sem α):Option α:=
 Sem.rec (motive:=fun _=>Option α) (fun a=>some a) (fun _ _ _ _=>none) (fun _ _ _ _ _=>none) (fun _ _ _=>none) (fun _ _ _=>none) (fun _ _ _ _=>none) (fun _ _ _=>none) (fun _ _ _=>none) (fun _ _ _ _=>none) (fun _ _ _=>none) (fun _ _ _=>none) (fun _ ih=>ih PP) (fun _ _ ih=>ih) (fun _=>none) s
def notNil(t:TypeId)(x:CV)(v:Value):Bool:=match x,v,cR t with
 |.p _ _,.pointer none,some (.pointer _)=>true
 |.s _ _ _ _,.slice none 0 0,some (.slice _)=>true
 |.q (_::_),.slice none 0 0,some (.slice _)=>true
 |.f _ _ _,.nilFunc,some (.func _ _ _)=>true
 |.i _ _,.nilIface,some (.interface _)=>true
 |.m _,.map none,some (.map _ _)=>true
 |_,_,_=>false
def eqv(t:TypeId)(x y:CV):Option Bool:=match x,y with
 |.p b o,.p b' o'=>bif Nat.beq b b' then(match cR t with
   |some (.pointer e)=>(match dc e with|some (_+1)=>some (Nat.beq o o')|_=>none)
   |_=>none) else none
 |x,.k v=>bif notNil t x v then some false else none
 |.k v,x=>bif notNil t x v then some false else none
 |_,_=>none
def rY(a b:Int):Bool:=match a,b with
 |.ofNat a,.ofNat b=>Nat.blt a b
 |.ofNat _,.negSucc _=>false
 |.negSucc _,.ofNat _=>true
 |.negSucc a,.negSucc b=>Nat.blt b a
def rZ(a b:Int):Bool:=match a,b with
 |.ofNat a,.ofNat b=>Nat.beq a b
 |.negSucc a,.negSucc b=>Nat.beq a b
 |_,_=>false
def r6(a:Int):Option CV:=match a with
 |.ofNat a=>bif Nat.blt a 9223372036854775808 then fN a fun a=>some (.k (.int .i64 (.ofNat a))) else none
 |.negSucc a=>bif Nat.blt a 9223372036854775808 then fN a fun a=>some (.k (.int .i64 (.negSucc a))) else none
def nr(op:BinOp)(a b:Int):Option CV:=match op with
 |.add=>r6 (Int.add a b)
 |.sub=>r6 (Int.sub a b)
 |.mul=>r6 (Int.mul a b)
 |.lss=>some (.bool (rY a b))
 |.gtr=>some (.bool (rY b a))
 |.leq=>some (.bool (!(rY b a)))
 |.geq=>some (.bool (!(rY a b)))
 |.eql=>some (.bool (rZ a b))
 |.neq=>some (.bool (!(rZ a b)))
 |_=>none
def bin(op:BinOp)(t:TypeId)(x y:Operand)(a b:CV):Option CV:=match a,b with
 |.k (.int .i64 m),.k (.int .i64 n)=>match nr op m n with
  |some v=>some v
  |none=>binG op t x y a b
 |_,_=>binG op t x y a b
 where binG (op:BinOp) (t:TypeId) (x y:Operand) (a b:CV):Option CV:=match yF a,yF b with
 |some u,some v=>match gZ (do eqGuard op t x y u v;binOp op t u v) with
  |some r=>l3 r
  |none=>none
 |_,_=>match op with
  |.eql=>match eqv t a b with|some r=>some (.bool r)|none=>none
  |.neq=>match eqv t a b with|some r=>some (.bool (!r))|none=>none
  |_=>none
def XH(t:TypeId):Bool:=match cR t with|some .unsafePointer=>true|_=>false
def yH(S:HS)(t u:TypeId)(x:CV):ee:=match x with
 |.k v=>(match gZ (convert t u v) with
  |some r=>(match l3 r with|some r=>some (r,S)|none=>none)
  |none=>none)
 |.p b o=>(match cR t,cR u,S.rd b with
  |some (.pointer t),some .unsafePointer,some (.c l _ _)=>(match dc t with
   |some zV0=>bif Nat.ble 1 zV0&&Nat.blt o (len l) then some (.p b o,S.bD b) else none
   |none=>none)
  |some .unsafePointer,some (.pointer u),some (.c l e true)=>(match dc u with
   |some _=>bif liesAt PP PP.depth e (len l/PP.cellsOf e) o u 1 then some (.p b o,S.bD b) else none
   |none=>none)
  |_,_,_=>none)
 |_=>none
structure Ctx where
 pr:Nat->Option (List CV->Option CV)
 mt:TypeId->String->Option FuncId
 xt:Nat->Nat
end
end Rc.Ev
namespace Rc.Ev
noncomputable section
open Go
def vN(l:List Nat):Nat:=match l with
 |[]=>0
 |[x]=>x
 |l=>List.rec 0 (fun x _ ih=>Nat.add x (Nat.mul 4294967296 ih)) l
def lN(f:Nat)(n:Nat):List Nat:=Nat.rec (fun _=>[]) (fun _ ih n=>bif Nat.beq n 0 then[] else Nat.mod n 4294967296::ih (Nat.div n 4294967296)) f n
def pK(n:Nat):List Nat:=lN 100 n
def wT(l:List Nat):Bool:=List.rec true (fun x _ ih=>bif Nat.blt x 4294967296 then ih else false) l
def qs:CV->Option (List Nat)
 |.q l=>bif wT l&&Nat.ble (len l) 40 then some l else none
 |.k (.slice none 0 0)=>some []
 |_=>none
def rt:CV->Option (Bool×Nat×Nat)
 |.a [.k (.bool s),n,d]=>match qs n,qs d with
  |some n,some d=>some (s,vN n,fN (vN d) fun d=>bif Nat.beq d 0 then 1 else d)
  |_,_=>none
 |_=>none
def fL{α:Type}(n:Nat)(k:List Nat->α):α:=fN n fun n=>bif Nat.beq n 0 then k [] else bif Nat.blt n 4294967296 then k [n] else k (pK n)
def mk(s:Bool)(n d:Nat):CV:=fN n fun n=>fN d fun d=>fN (Nat.gcd n d) fun g=>fN (Nat.div n g) fun n=>fN (Nat.div d g) fun d=>
 bif Nat.beq n 0 then .a [.bool false,.q [],.q []] else fL n fun ln=>fL (bif Nat.beq d 1 then 0 else d) fun ld=>.a [.bool s,.q ln,.q ld]
def fw(s:Bool)(n:Nat)(s':Bool)(n':Nat):Bool×Nat:=match s,s' with
 |true,true=>(true,Nat.add n n')
 |false,false=>(false,Nat.add n n')
 |true,false=>bif Nat.ble n n' then(false,Nat.sub n' n) else(true,Nat.sub n n')
 |false,true=>bif Nat.ble n' n then(false,Nat.sub n n') else(true,Nat.sub n' n)
def tY(x y:Bool×Nat×Nat):CV:=match x,y with
 |(s,n,d),(s',n',d')=>match fw s (Nat.mul n d') s' (Nat.mul n' d) with
  |(s,n)=>mk s n (Nat.mul d d')
def OX(x:Bool×Nat×Nat):Bool×Nat×Nat:=match x with|(s,n,d)=>(!s,n,d)
def aH(s:Bool)(n:Nat):Int:=bif Nat.beq n 0 then 0 else bif s then -1 else 1
def p2(f:Bool×Nat×Nat->Bool×Nat×Nat->CV):List CV->Option CV
 |[x,y]=>match rt x,rt y with|some a,some b=>some (f a b)|_,_=>none
 |_=>none
def p1(f:Bool×Nat×Nat->CV):List CV->Option CV
 |[x]=>match rt x with|some a=>some (f a)|_=>none
 |_=>none
def iZ(l:List Nat):List Nat->Bool:=
 List.rec (fun m=>match m with | []=>true|_=>false) (fun x _ ih m=>match m with|y::m=>bif Nat.beq x y then ih m else false | []=>false) l
def ng{α:Type}(l:List (Nat×α))(n:Nat):Option α:=List.rec none (fun p _ ih=>bif Nat.beq p.1 n then some p.2 else ih) l
def dz(n:Nat):Nat:=fN n fun n=>bif Nat.beq n 0 then 1 else n
def zL(s:Bool)(n d:List Nat):CV->Bool
 |.a [.k (.bool b),.q ln,.q ld]=>(match b,s with|true,true=>iZ ln n&&iZ ld d|false,false=>iZ ln n&&iZ ld d|_,_=>false)
 |_=>false
def xr(n:Int):Option CV:=match n with
 |.ofNat m=>bif Nat.blt m 9223372036854775808 then some (mk false m 1) else none
 |.negSucc m=>bif Nat.blt m 9223372036854775808 then some (mk true (Nat.succ m) 1) else none
def xd:List (Nat×(List CV->Option CV)):=[
 (88,fun | [.k (.int .i64 n)]=>xr n|_=>none),
 (43,fun | [.k (.int .i64 n)]=>xr n|_=>none),
 (142,(p2 tY)),
 (163,(p2 fun a b=>tY a (OX b))),
 (143,(p2 fun|(s,n,d),(s',n',d')=>mk (Bool.xor s s') (Nat.mul n n') (Nat.mul d d'))),
 (496,fun | [x,y]=>(match rt x,rt y with|some (s,n,d),some (s',n',d')=>bif Nat.beq n' 0 then none else some (.t [mk (Bool.xor s s') (Nat.mul n d') (Nat.mul d n'),.int 0])|_,_=>none)|_=>none),
 (303,(p1 fun|(s,n,d)=>mk (!s) n d)),
 (86,(p1 fun|(s,n,d)=>mk s n d)),
 (63,(p1 fun|(s,n,_)=>.int (aH s n))),
 (60,(p2 fun|(s,n,d),(s',n',d')=>match fw s (Nat.mul n d') (!s') (Nat.mul n' d) with|(s,n)=>.int (aH s n))),
 (179,(p2 fun|(s,n,d),(s',n',d')=>match fw s (Nat.mul n d') (!s') (Nat.mul n' d) with|(t,m)=>bif Nat.beq m 0||t then mk s' n' d' else mk s n d)),
 (59,fun | [.a [.k (.bool s),n,d]]=>(match qs n,qs d with
   |some n,some d=>some (.bool (zL s n d (mk s (vN n) (dz (vN d)))))
   |_,_=>none)|_=>none),
 (204,fun | [x,y]=>(match qs x,qs y with|some x,some y=>bif Nat.beq (vN y) 0 then none else some (.t [.q (pK (Nat.div (vN x) (vN y))),.q (pK (Nat.mod (vN x) (vN y))),.int 0])|_,_=>none)|_=>none),
 (201,fun | [x]=>(match qs x with|some x=>some (.q (pK (vN x)))|_=>none)|_=>none)]
def pr:Nat->Option (List CV->Option CV):=ng xd
def xt(n:Nat):Nat:=(ng [(240,1),(241,5),(305,2),(315,2),(287,3),(322,4)] n).getD 0
def mt(t:TypeId)(m:String):Option FuncId:=bif decide (m = "Lower") then ng [(341,583),(343,593),(386,603)] t else none
def CC:Ctx:=⟨pr,mt,xt⟩
end
end Rc.Ev
namespace Rc.Ev
noncomputable section
open Go
abbrev Rec:=Option Nat->Code->FS->Option (Ex×FS)
abbrev dI:=Nat->List CV->HS->Option ee
def mS(T:Tr CV)(i:Nat)(l:List CV):Tr CV:=
 List.rec (fun T _=>T) (fun v _ ih T i=>T.fb (bu i) (some v) fun T=>fN (Nat.add i 1) fun i=>ih T i) l T i
def rB(T:Tr CV)(ps:List Tmp)(l:List CV):Tr CV:=
 List.rec (fun T _=>T) (fun i _ ih T l=>match l with|v::l=>T.fb (bu i) (some v) fun T=>ih T l | []=>T) ps T l
def vF(l:List Nat)(S:HS):Option HS:=
 List.rec (fun S=>some S) (fun r _ ih S=>match S.rd r with
  |some (.d true)=>ih (S.wr r (some (.d false)))
  |_=>none) l S
def nZ(T:Tr CV)(S:HS)(l:List ResultVar):Option (List CV×HS):=
 List.rec (fun S=>some ([],S)) (fun r _ ih S=>match r with
  |.tmp t=>(match T.get t,ih S with
   |some v,some (vs,S)=>some (v::vs,S)
   |_,_=>none)
  |.cell a t=>(match T.get a with
   |some x=>(match ld S t x with
    |some (v,S)=>(match ih S with|some (vs,S)=>some (v::vs,S)|none=>none)
    |none=>none)
   |none=>none)) l S
def fin(fn:Func)(F:FS):ee:=match vF F.d F.s with
 |some S=>match nZ F.t S fn.results.toList with
  |some ([v],S)=>some (v,S)
  |some (vs,S)=>some (.t vs,S)
  |none=>none
 |none=>none
def ext(k:Nat)(args:List CV)(S:HS):ee:=match k,args with
 |1,[.p b o]=>(match lQ S b o 1 with|some [.k (.int .i64 n)]=>some (.k (.int .i64 n),S.bD b)|_=>none)
 |5,[.p b o]=>(match lQ S b o 1 with|some [.p b' o']=>some (.p b' o',S.bD b)|some [.k (.pointer none)]=>some (.k (.pointer none),S.bD b)|_=>none)
 |2,[.p b o,.k v]=>(match iT S b o [.k v] with|some S'=>some (.un,S')|_=>none)
 |2,[.p b o,.p b' o']=>(match iT S b o [.p b' o'] with|some S'=>some (.un,S')|_=>none)
 |3,[.p b o,.k (.int .i64 n)]=>(match lQ S b o 1 with
   |some [.k (.int .i64 m)]=>(match iT S b o [.k (.int .i64 (IntKind.i64.wrap (m+n)))] with|some S'=>some (.k (.int .i64 (IntKind.i64.wrap (m+n))),S')|none=>none)
   |_=>none)
 |4,[x]=>some (x,S)
 |_,_=>none
def l7(O:dI)(ih:Rec)(f:FuncId)(args:List CV)(S:HS):ee:=match CC.pr f with
 |some g=>match g args with|some v=>some (v,S)|none=>none
 |none=>match O f args S with
  |some r=>r
  |none=>match nth PP.funcs.toList f with
   |some fn=>match fn.body with
    |some c=>bif Nat.ble (len args) fn.ntmps&&Nat.blt fn.ntmps 1048575 then(match ih none c ⟨mS (Tr.upto fn.ntmps) 0 args,[],S⟩ with
     |some (.norm,F)=>fin fn F
     |some (.ret,F)=>fin fn F
     |_=>none) else none
    |none=>ext (CC.xt f) args S
   |none=>none
def sI:Ex->Bool
 |.norm=>true
 |_=>false
def Jh:Ex->Option Code
 |.norm=>none
 |.ret=>some Code.ret
 |.exit i=>some (Code.exit i)
def tq(ih:Rec)(l:Nat)(args:List CV)(S:HS):ee:=match S.rd l with
 |some (.l .ready pd fn tm ps asg body df)=>bif Nat.beq (len args) ps.size then
  (match ih (some l) asg ⟨rB tm ps.toList args,[],S.bD l⟩ with
  |some (.norm,F)=>match F.s.rd l with
   |some (.l .ready pd fn tm ps asg body' df)=>match ih (some l) body ⟨F.t,F.d,F.s.wr l (some (.l .busy pd fn tm ps asg body' df))⟩ with
    |some (x,F)=>match F.s.rd l with
     |some (.l .busy pd fn tm ps asg body' df)=>some (.bool (sI x),F.s.wr l (some (.l (bif sI x then .ready else .done) (Jh x) fn tm ps asg body' df)))
     |_=>none
    |none=>none
   |_=>none
  |_=>none) else none
 |_=>none
def yM(O:dI)(ih:Rec)(fv:CV)(args:List CV)(S:HS):ee:=match fv with
 |.f (.func f) fs cs=>l7 O ih f (app fs (app args cs)) S
 |.y l=>tq ih l args S
 |_=>none
def bytesOf(l:List CV):Option (List UInt8):=
 List.rec (some []) (fun v _ ih=>match v,ih with
  |.k (.int .u8 (.ofNat n)),some bs=>bif Nat.blt n 256 then some (UInt8.ofNat n::bs) else none
  |_,_=>none) l
def isInt(t:TypeId):Bool:=match cR t with
 |some (.int _)=>true
 |_=>false
def ptrTo(t e:TypeId):Bool:=match cR t with
 |some (.pointer e')=>Nat.beq e' e&&(match dc e with|some 1=>true|_=>false)
 |_=>false
def vU(S:HS)(t:TypeId)(b o n c k:Nat):ee:=match elemOf t with
 |some e=>match dc e,zero e,S.rd b with
  |some zV0,some zc,some (.c l t' _)=>bif Nat.beq t' e&&Nat.ble 1 zV0&&Nat.blt c (Nat.add n k)&&fits e (Nat.add n k) then
   (match part l o (Nat.mul n zV0) with
   |some bg=>fN S.c fun i=>fN (Nat.add n k) fun need=>kp (app bg (rep zc.cl k)) fun l=>some (.s i 0 need none,(S.bD b).new (.c l e false))
   |none=>none) else none
  |_,_,_=>none
 |none=>none
def tE(S:HS)(t:TypeId)(b n:Nat):ee:=match S.rd b with
 |some (.c _ e _)=>bif ptrTo t e&&Nat.ble 1 n&&Nat.ble n 1000000 then(match lQ S b 0 n with
  |some cs=>(match bytesOf cs with
   |some l=>some (.k (.string ⟨l.toArray⟩),S.wr b none)
   |none=>none)
  |none=>none) else none
 |_=>none
def yr(T:Tr CV)(S:HS)(b:Builtin)(ts:List TypeId)(args:List CV):ee:=match b,ts,args with
 |.len,t::_,[x]=>rS S t x
 |.cap,t::_,[x]=>sR S t x
 |.append,[t,t2],[x,y]=>bif isInt t2 then(match x,y with | .s b o n (some c),.k (.int .i64 (.ofNat k))=>vU S t b o n c k|_,_=>none) else sY S t t2 x y
 |.copy,[t,_],[x,y]=>sN S t x y
 |.clear,[t],[x]=>vE S t x
 |.unsafeSliceData,_,[.s b o n _]=>bif Nat.ble 1 n then some (.p b o,S) else none
 |.unsafeString,[t,_],[.p b 0,.k (.int .i64 (.ofNat n))]=>tE S t b n
 |_,_,_=>none
def wX(k k':Value):Option Bool:=match k,k' with
 |.int j a,.int j' b=>bif decide (j=j') then some (rZ a b) else none
 |.string a,.string b=>some (decide (a=b))
 |_,_=>none
def ux(k:Value)(l:List (Value×CV×Nat)):Option (Option CV):=
 List.rec (some none) (fun p _ ih=>match wX k p.1 with
  |some true=>some (some p.2.1)
  |some false=>ih
  |none=>none) l
def lR(t:TypeId)(k:Value):Bool:=match cR t,k with
 |some (.int _),.int _ _=>true
 |some .string,.string _=>true
 |_,_=>false
abbrev Hd:=Rec->Tr CV->HS->ee
def r8(x:Operand):Hd:=fun _ T S=>match bM T x with|some v=>some (v,S)|none=>none
def uO(c a b:Operand):Hd:=fun _ T S=>match bM T c with
 |some (.k (.bool true))=>(match bM T a with|some v=>some (v,S)|none=>none)
 |some (.k (.bool false))=>(match bM T b with|some v=>some (v,S)|none=>none)
 |_=>none
def uW(t:TypeId):Hd:=fun _ _ S=>match zero t with|some v=>rH S v.cl t|none=>none
def sk(t:TypeId)(x:Operand):Hd:=fun _ T S=>match bM T x with|some v=>bif v.jS then none else rH S v.cl t|none=>none
def pP(t:TypeId)(ps:Array (Nat×Operand)):Hd:=fun _ T S=>match zf T t ps.toList with|some v=>some (v,S)|none=>none
def sj(t:TypeId)(n:Nat)(ps:Array (Nat×Operand)):Hd:=fun _ T S=>vP T S t n ps.toList
def pO(t:TypeId)(x i y:Operand):Hd:=fun _ T S=>match bM T x,bM T i,bM T y with
 |some (.m b),some (.k k),some v=>(match cR t,S.rd b with
  |some (.map kt _),some (.m es ck)=>(match lR kt k,ux k es with
   |true,some none=>some (.un,S.wr b (some (.m (app es [(k,v,ck)]) (Nat.succ ck))))
   |_,_=>none)
  |_,_=>none)
 |_,_,_=>none
def se(t:TypeId)(x:Operand):Hd:=fun _ T S=>match bM T x with|some v=>ld S t v|none=>none
def r7(t:TypeId)(x y:Operand):Hd:=fun _ T S=>match bM T x,bM T y with|some u,some v=>st S t u v|_,_=>none
def uP(x:Operand):Hd:=fun _ T S=>match bM T x with
 |some (.p b o)=>some (.p b o,S)
 |some (.pq l i)=>some (.pq l i,S)
 |some (.f (.func f) fs cs)=>some (.f (.func f) fs cs,S)
 |some (.i t v)=>some (.i t v,S)
 |_=>none
def uV(op:BinOp)(t:TypeId)(x y:Operand):Hd:=fun _ T S=>match bM T x,bM T y with
 |some u,some v=>(match bin op t x y u v with|some r=>some (r,S)|none=>none)
 |_,_=>none
def uN(op:UnOp)(x:Operand):Hd:=fun _ T S=>match bM T x with
 |some (.k v)=>(match gZ (Op.unary op v) with
  |some r=>(match l3 r with|some r=>some (r,S)|none=>none)
  |none=>none)
 |_=>none
def si(t u:TypeId)(x:Operand):Hd:=fun _ T S=>match bM T x with
 |some v=>yH S t u v
 |none=>none
def uQ(t:TypeId)(x:Operand):Hd:=fun _ T S=>match bM T x with
 |some v=>(match cR t with|some (.interface _)=>none|some _=>some (.i t v,S)|none=>none)
 |none=>none
def pN(fn:Fn)(fs cs:Array Operand):Hd:=fun _ T S=>match fn with
 |.func f=>(match dU T fs.toList,dU T cs.toList with|some fs,some cs=>some (.f (.func f) fs cs,S)|_,_=>none)
 |_=>none
def oB(t:TypeId)(x:Option Operand):Hd:=fun _ T S=>match x with
 |none=>fN S.c fun i=>some (.m i,S.new (.m [] 0))
 |some x=>(match bM T x,cR t with|some (.k (.int _ _)),some (.map _ _)=>fN S.c fun i=>some (.m i,S.new (.m [] 0))|_,_=>none)
def r9(t:TypeId)(n c:Operand):Hd:=fun _ T S=>match bM T n,bM T c with|some n,some c=>xC S t n c|_,_=>none
def oA(t:TypeId)(x:Operand)(lo hi mx:Option Operand):Hd:=fun _ T S=>match bM T x with|some v=>qX T S t v lo hi mx|none=>none
def sf(t:TypeId)(x:Operand)(f:Nat):Hd:=fun _ T S=>match bM T x with
 |some v=>yn S t v f
 |none=>none
def uT(t:TypeId)(x:Operand)(f:Nat):Hd:=fun _ T S=>match bM T x with
 |some v=>(match Io t v f with|some r=>some (r,S)|none=>none)
 |none=>none
def uR(t:TypeId)(x i:Operand):Hd:=fun _ T S=>match bM T x,bM T i with
 |some v,some j=>(match H9 t v j with|some r=>some (r,S)|none=>none)
 |_,_=>none
def uS(t:TypeId)(x i:Operand):Hd:=fun _ T S=>match bM T x,bM T i with
 |some v,some j=>(match HO t v j with|some r=>some (r,S)|none=>none)
 |_,_=>none
def sd(t:TypeId)(x i:Operand)(ok:Bool):Hd:=fun _ T S=>match bM T x,bM T i,cR t with
 |some (.m b),some (.k k),some (.map kt e)=>(match lR kt k,S.rd b with
  |true,some (.m es _)=>(match ux k es with
   |some (some v)=>some (bif ok then .t [v,.bool true] else v,S.bD b)
   |some none=>(match zero e with|some v=>some (bif ok then .t [v,.bool false] else v,S.bD b)|none=>none)
   |none=>none)
  |_,_=>none)
 |_,_,_=>none
def uU(x:Operand)(i:Nat):Hd:=fun _ T S=>match bM T x with
 |some (.t l)=>(match nth l i with|some v=>some (v,S)|none=>none)
 |_=>none
def lS(O:dI)(c:Call):Hd:=fun ih T S=>match c.callee,dU T c.args.toList with
 |.builtin b,some args=>yr T S b c.argTypes.toList args
 |.value g,some args=>(match bM T g with|some fv=>yM O ih fv args S|none=>none)
 |.invoke g m,some args=>(match bM T g with
  |some (.i t v)=>(match CC.mt t m with|some f=>l7 O ih f (v::args) S|none=>none)
  |_=>none)
 |_,none=>none
def gP:Hd:=fun _ _ _=>none
def oJ(O:dI)(o:Op):Hd:=
 Op.casesOn (motive:=fun _=>Hd) o r8 r8 uO uW sk pP sj pO se r7 (fun _=>gP) (fun _=>gP) uP
  (fun op t x y _=>uV op t x y) (fun op _ x=>uN op x) si (fun _ _=>gP) uQ pN oB (fun _ _=>gP) r9 oA sf uT uR uS sd
  pO (fun _ _ _=>gP) (fun _ _ _ _=>gP) (fun _ _=>gP) (fun _ _=>gP) (fun _=>gP) (fun _ _ _ _=>gP) uU (lS O) (fun _=>gP) (fun _=>gP) (fun _=>gP) (fun _ _=>gP) (fun _ _ _=>gP) (fun _ _=>gP)
def want(ops:List Oper)(o:Oper)(T:Tr CV):Option Bool:=match o.guard with
 |none=>some true
 |some (j,w)=>match nth ops j with
  |some g=>match g.dst with
   |some d=>match T.get d with
    |some (.k (.bool b))=>some (bif w then b else !b)
    |some (.t [])=>some false
    |_=>none
   |none=>none
  |none=>none
def nu(O:dI)(ih:Rec)(ops:List Oper)(o:Oper)(F:FS):Option FS:=match F with
 |⟨t,d,S⟩=>match want ops o t with
  |some true=>(match oJ O o.op ih t S with
   |some (v,S)=>fS S fun S=>(match o.dst with|some s=>t.fb (bu s) (some v) fun t=>some ⟨t,d,S⟩|none=>some ⟨t,d,S⟩)
   |none=>none)
  |some false=>(match o.dst with|some s=>t.fb (bu s) (some .un) fun t=>some ⟨t,d,S⟩|none=>some ⟨t,d,S⟩)
  |none=>none
def Cu(O:dI)(ih:Rec)(ops:List Oper)(l:List Oper)(F:FS):Option FS:=
 List.rec (fun F=>some F) (fun o _ k F=>match nu O ih ops o F with
  |some F'=>k F'
  |none=>none) l F
def ny(bs:List Nat)(l:List Edge):Nat:=
 List.rec 0 (fun e _ ih=>bif Region.binds .any e then Nat.lor (Nat.lor (fM e.on) ((nth bs e.on).getD 0)) ih else ih) l
def jA(l:List Oper)(bs:List Nat):List Nat:=
 List.rec (fun bs=>bs) (fun o _ ih bs=>ih (app bs [ny bs o.after.toList])) l bs
def pI(n:Nat)(l:List Nat):Bool:=List.rec false (fun m _ ih=>bif Nat.beq n m then true else ih) l
def nD(m i:Nat):Bool:=Nat.beq (Nat.mod (Nat.shiftRight m i) 2) 1
def vt(i:Nat)(l:List Edge):Bool:=
 List.rec true (fun e _ ih=>bif Region.binds .any e then Nat.blt e.on i&&ih else ih) l
def ph(ops:Array Oper)(x y:Oper):Bool:=
 (match x.dst with|some d=>!(pI d (y.looksAt ops))&&(match y.dst with|some d'=>!(Nat.beq d d')|none=>true)|none=>true) &&
 (match y.dst with|some d=>!(pI d (x.looksAt ops))|none=>true)
def xg(ops:Array Oper)(o:Oper)(m:Nat)(j:Nat)(l:List Oper):Bool:=
 List.rec (fun _=>true) (fun x _ ih j=>(nD m j||ph ops x o)&&ih (Nat.add j 1)) l j
def yz(ops:Array Oper)(bs:List Nat)(i:Nat)(pre l:List Oper):Bool:=
 List.rec (fun _ _=>true) (fun o _ ih i pre=>vt i o.after.toList&&xg ops o ((nth bs i).getD 0) 0 pre&&ih (Nat.add i 1) (app pre [o])) l i pre
def uz(m t w:Nat)(l:List (Nat×Nat×Nat)):Bool:=
 List.rec true (fun p _ ih=>(nD m p.1||(Nat.beq (Nat.land t p.2.2) 0&&Nat.beq (Nat.land w p.2.1) 0))&&ih) l
def Cm{α:Type}(l:List Nat)(k:List Nat->α):α:=List.rec (fun k=>k []) (fun x _ ih k=>fN x fun x=>ih (fun l=>k (x::l))) l k
def AM(ops:Array Oper):Option (List Nat):=Cm (jA ops.toList []) fun bs=>bif yz ops bs 0 [] ops.toList then some bs else none
def vm(O:dI)(ih:Rec)(ops:List Oper)(bs:List Nat)(i:Nat)(l:List Oper)(acc:List (Nat×Nat×Nat))(ta wa:Nat)(F:FS):Option FS:=
 List.rec (fun _ _ _ _ F=>some F) (fun o _ k i acc ta wa F=>match F with
  |⟨t,d,⟨h,c,tm,mm⟩⟩=>(match nu O ih ops o ⟨t,d,⟨h,c,0,0⟩⟩ with
   |some ⟨t,d,⟨h,c,t',w'⟩⟩=>fN (Nat.add i 1) fun i'=>
    bif Nat.beq t' 0&&Nat.beq w' 0 then k i' acc ta wa ⟨t,d,⟨h,c,tm,mm⟩⟩ else
    bif (Nat.beq (Nat.land t' wa) 0&&Nat.beq (Nat.land w' ta) 0)||uz ((nth bs i).getD 0) t' w' acc then
     fN (Nat.lor tm t') fun tm=>fN (Nat.lor mm w') fun mm=>fN (Nat.lor ta t') fun ta=>fN (Nat.lor wa w') fun wa=>k i' ((i,t',w')::acc) ta wa ⟨t,d,⟨h,c,tm,mm⟩⟩
    else none
   |none=>none)) l i acc ta wa F
def Cs(O:dI)(ih:Rec)(ops:Array Oper)(draw:Bool)(F:FS):Option FS:=
 bif draw then(match AM ops with
  |some bs=>vm O ih ops.toList bs 0 ops.toList [] 0 0 F
  |none=>none)
 else Cu O ih ops.toList ops.toList F
abbrev Kd:=Rec->Option Nat->FS->Option (Ex×FS)
def HM:Kd:=fun _ _ F=>some (.norm,F)
def Si:Kd:=fun _ _ F=>some (.ret,F)
def Sm(i:Nat):Kd:=fun _ _ F=>some (.exit i,F)
def Sg(a b:Code):Kd:=fun ih r F=>match ih r a F with
 |some (.norm,F')=>ih r b F'
 |x=>x
def Sn(x:Operand)(a b:Code):Kd:=fun ih r F=>match bM F.t x with
 |some (.k (.bool true))=>ih r a F
 |some (.k (.bool false))=>ih r b F
 |_=>none
def So(i:Nat)(b:Code):Kd:=fun ih r F=>match ih r b F with
 |some (.exit j,F')=>bif Nat.beq j i then some (.norm,F') else some (.exit j,F')
 |x=>x
def Sl(b:Code):Kd:=fun ih r F=>match ih r b F with
 |some (.norm,F')=>ih r (.loop b) F'
 |x=>x
def Sh(b:Code):Kd:=fun ih r F=>ih r b F
def Sj(O:dI)(ops:Array Oper)(draw:Bool):Kd:=fun ih _ F=>match Cs O ih ops draw F with|some F'=>some (.norm,F')|none=>none
def hasB(f:FuncId):Bool:=match nth PP.funcs.toList f with
 |some fn=>fn.body.isSome
 |none=>false
def xS(O:dI)(g:Operand)(ps:Array Tmp)(asg body:Code):Kd:=fun ih r F=>match bM F.t g,r with
 |some (.f (.func f) fs cs),none=>bif hasB f then
  let S:=F.s.new (.d true)
  let D:=F.s.c
  (match l7 O ih f (app fs (app [.y S.c] cs)) (S.new (.l .ready none 0 F.t ps asg body D)) with
  |some (_,S')=>(match S'.rd S.c with
   |some (.l .busy _ _ _ _ _ _ _)=>none
   |some (.l _ pd fn tm ps asg body df)=>
    let F':FS:=⟨F.t,D::F.d,S'.wr S.c (some (.l .exhausted pd fn tm ps asg body df))⟩
    (match pd with
    |none=>some (.norm,F')
    |some c=>ih r c F')
   |_=>none)
  |none=>none) else none
 |_,_=>none
def HN:Kd:=fun _ _ _=>none
def vk(O:dI)(c:Code):Kd:=
 Code.casesOn (motive:=fun _=>Kd) c HM (fun _ ops draw=>Sj O ops draw) Sg Sn So Sl (xS O) Sm Sh (fun _=>HM) (fun _=>HN) Si (fun _=>HN)
def ev(O:dI)(n:Nat):Rec:=Nat.rec (fun _ _ _=>none) (fun _ ih r c F=>vk O c ih r F) n
end
end Rc.Ev
