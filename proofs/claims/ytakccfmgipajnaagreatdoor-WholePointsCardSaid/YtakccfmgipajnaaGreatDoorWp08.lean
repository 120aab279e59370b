/- Parts of the proof, 8: the texts WlF, WlG, WlH, WlI, WlJ, WlK, WlL, Abv, WlM, WlN, Bnd, DyM, DyQ, DyR, Law5, DyO, Run, as far as they are used. -/
import Derived.Test.YtakccfmgipajnaaGreatDoorWp07
set_option linter.unusedSimpArgs false
set_option linter.unusedVariables false
set_option maxRecDepth 10000
namespace Rc
abbrev Y8:=@List.not_mem_nil
abbrev ZJ:=@List.foldl_nil
abbrev zac:=@Int.toNat_of_nonneg
end Rc
namespace Go.Proofs.YtakccfmgipajnaaGreatDoor
open Go Go.RowKit Rc
theorem Sr(z:Int)(h1:-9223372036854775808<=z)(h2:z<=9223372036854775807):ar Tryz.prog 146 [V.one (ab.val (.int .i64 z))] (R.one (zV (eX z))):=by
 refine aF Tryz.func146 Tryz.ntmps146 rfl (fun w0 A0=>?_);refine zc 9 rfl ?_;by_cases hz0:z<0
 .refine aa rfl (aX rfl) (zl 6 rfl (aa rfl (cZ (18446744073709551616-z.natAbs) rfl) (aa rfl (Lh rfl rfl (r:=((z.natAbs:Nat):Int)) (cF (by omega))) (aj yg rfl (xq z.natAbs (by omega)) (zl 4 rfl ?_)))));exact av ai rfl (by show R.one (V.agg [ab.val (.bool true),ae (ah z.natAbs)])=R.one (V.agg [ab.val (.bool (decide (z<0))),ae (ah z.natAbs)]);rw[decide_eq_true hz0])
 .refine aa rfl (aO rfl) (zl 8 rfl (aa rfl (cZ z.natAbs rfl) (aj yg rfl (xq z.natAbs (by omega)) (zl 4 rfl ?_))));exact av ai rfl (by show R.one (V.agg [ab.val (.bool false),ae (ah z.natAbs)])=R.one (V.agg [ab.val (.bool (decide (z<0))),ae (ah z.natAbs)]);rw[decide_eq_false hz0])
theorem OY(z:Int){B:Nat}[Bz z B](hB:B<=1000):ar Tryz.prog 145 [zV (eX z)] (R.one (qV (an (z:Rat)))):=by
 refine aF Tryz.func145 Tryz.ntmps145 rfl (fun w0 A0=>?_);refine zc 7 rfl (aE 0 [(6,1)] [1] (dz 4 rfl (ax IZ rfl (F3) (ax vi rfl (ua (decide (z<0)) (ah (Int.natAbs (z))) [1] (bh _) (Small.cons (by decide) Small.nil) (Bz.use (z:=z) (by omega)) (by simp) (Int.natAbs (z)) (1) (aZ _) rfl (by decide)) (dz 1 rfl (aB (za 1 rfl ?_)))))));exact av ai rfl (by rw[Oq] <;> rfl)
theorem xb(z:Int)(h1:-9223372036854775808<=z)(h2:z<=9223372036854775807):ar Tryz.prog 88 [V.one (ab.val (.int .i64 z))] (R.one (qV (an (z:Rat)))):=by
 refine aF Tryz.func88 Tryz.ntmps88 rfl (fun w0 A0=>?_);haveI:Bz z 2:=⟨Bn.of_lt (by omega) (by omega)⟩;refine zc 8 rfl (aj T0 rfl (Sr z (by omega) (by omega)) (aj T1 rfl (OY z (by omega)) (zl 3 rfl ?_)));exact av ai rfl rfl
theorem xG(f:Af){b n:Nat}(h:c9 b n f)(hb:b<=1000000000)(vars:Nat)(hv:n<=vars)(hv2:vars<=1000):ar Tryz.prog 25 [bL f,V.one (ab.val (.int .i64 ((vars:Int))))] (R.one (V.one (ab.val (.bool true)))):=by
 refine aF Tryz.func25 Tryz.ntmps25 rfl (fun w0 A0=>?_);haveI:=h.br;have hln:=h.len;refine zc 11 rfl (aa rfl (aw rfl) (zl 4 rfl ?_));refine bH (fun m Γ H=>∃(i:Nat),f.ts.length-i=m/\Γ=[(1,some (D.val (.int .i64 (vars:Int)))),(2,some (D.ptr 0 0)),(8,some (D.v (V.one (El.row bE f.ts)))),(9,some (D.val (.int .i64 ((f.ts.length:Nat):Int)))),(10,some (D.val (.int .i64 (i:Int))))]/\H=[au 37 (b7 f)]/\i<=f.ts.length) ⟨0,rfl,rfl,rfl,XS _⟩ rfl ?_;rintro m Γ H ⟨i,rfl,rfl,rfl,hi0⟩;refine zc 2 rfl ?_;by_cases hi:i<f.ts.length
 .refine aa rfl (aX rfl) (zl 9 rfl ?_);obtain⟨x,hx⟩:∃x,f.ts[i]?=some x:=⟨_,XM hi⟩;have hxm:=XR hx;haveI hbx:=(h.bd x hxm).br;obtain⟨hn0,hgt,hlt⟩:=h.can.get hx;have hxv:=h.var x hxm;refine zc 2 rfl (aa rfl (aS i hx rfl) (aa rfl (bo rfl) (zl 6 rfl (aE 0 [] [] (dz 2 rfl (af rfl (aO rfl) (dz 4 rfl (af rfl (dY rfl) (dz 3 rfl ?_)))))))));by_cases hi1:0<i
  .refine af rfl (dQ rfl) (dz 4 rfl ?_);obtain⟨y,hy⟩:∃y,f.ts[i-1]?=some y:=⟨_,XM (by omega)⟩;have hyx:=h.can.prev hi1 hx hy;refine af rfl (b9 (i-1) rfl) (af rfl (aS (i-1) hy rfl) (af rfl (dW rfl) (af rfl (bB rfl) (dz 2 rfl (af rfl (dY rfl) (dz 5 rfl (ax jw rfl (iU (an (x.2)) (x.2) (aG _) (Br.use (by omega))) (af rfl (aU rfl (mF hn0)) (dz 4 rfl ?_)))))))));refine ax pV rfl (n6 (an (x.2)) (x.2) (aG _) (Br.use (by omega))) (gv true rfl (kV _) (dz 2 rfl (aB (za 6 rfl (aa rfl (aL (i+1) rfl) (zl 2 rfl (cX 1 (cN 1 rfl ?_))))))));exact aP ⟨i+1,rfl,rfl,rfl,hi⟩ rfl
  .refine af rfl (cD rfl) (dz 16 rfl (ax jw rfl (iU (an (x.2)) (x.2) (aG _) (Br.use (by omega))) (af rfl (aU rfl (mF hn0)) (dz 4 rfl (ax pV rfl (n6 (an (x.2)) (x.2) (aG _) (Br.use (by omega))) (gv true rfl (kV _) (dz 2 rfl (aB (za 6 rfl ?_)))))))));refine aa rfl (aL (i+1) rfl) (zl 2 rfl (cX 1 (cN 1 rfl ?_)));exact aP ⟨i+1,rfl,rfl,rfl,hi⟩ rfl
 .refine aa rfl (aO rfl) (zl 13 rfl (aj pV rfl (n6 (an (f.c)) (f.c) (aG _) (Br.use (by omega))) (bT true rfl (kV _) (zl 3 rfl ?_))));exact av ai rfl rfl
theorem SG(l:List Af)(f:Nat)(ls:List ab)(hl:l.length<=1000000)(hf:aD Tryz.prog f)(hp:∀x∈l,ar Tryz.prog f ([bL x]++pD ls) (R.one (V.one (ab.val (.bool false))))):ar Tryz.prog 102 [V.one (El.row bC l),V.one (ab.rep (uY f ls))] (R.one (V.one (ab.val (.int .i64 (-1))))):=by
 refine aF Tryz.func102 Tryz.ntmps102 rfl (fun w0 A0=>?_);refine zc 9 rfl (aa rfl (aw rfl) (zl 4 rfl (bH (fun m Γ H=>∃(i:Nat),l.length-i=m/\Γ=[(0,some (D.v (V.one (El.row bC l)))),(1,some (D.rep (uY f ls))),(7,some (D.val (.int .i64 ((l.length:Nat):Int)))),(8,some (D.val (.int .i64 (i:Int))))]/\H=[]/\i<=l.length) ⟨0,rfl,rfl,rfl,XS _⟩ rfl ?_)));rintro m Γ H ⟨i,rfl,rfl,rfl,hi0⟩;refine zc 2 rfl ?_;by_cases hi:i<l.length
 .refine aa rfl (aX rfl) (zl 15 rfl ?_);obtain⟨x,hx⟩:∃x,l[i]?=some x:=⟨_,XM hi⟩;refine zc 4 rfl (aa rfl (aS i hx rfl) (aa rfl (bo rfl) (aK rfl (Xa rfl rfl hf rfl (hp x (XR hx))) (zl 7 rfl (aa rfl (aL (i+1) rfl) (zl 2 rfl ?_))))));exact aP ⟨i+1,rfl,rfl,rfl,hi⟩ rfl
 .refine aa rfl (aO rfl) (zl 14 rfl ?_);exact av ai rfl rfl
theorem Ia(l:List Af)(f:Nat)(ls:List ab)(hl:l.length<=1000000)(hf:aD Tryz.prog f)(hp:∀x∈l,ar Tryz.prog f ([bL x]++pD ls) (R.one (V.one (ab.val (.bool false))))):ar Tryz.prog 61 [V.one (El.row bC l),V.one (ab.rep (uY f ls))] (R.one (V.one (ab.val (.bool false)))):=by
 refine aF Tryz.func61 Tryz.ntmps61 rfl (fun w0 A0=>?_);refine zc 9 rfl (aj T4 rfl (SG l f ls hl hf hp) (zl 4 rfl ?_));exact av ai rfl rfl
theorem SM(f:Af){b n:Nat}(h:c9 b n f)(hb:b<=1000000000)(vars:Nat)(hv:n<=vars)(hv2:vars<=1000):ar Tryz.prog 139 [bL f,V.one (ab.rep (eR [ab.val (.int .i64 (vars:Int))]))] (R.one (V.one (ab.val (.bool false)))):=by
 refine aF Tryz.func139 Tryz.ntmps139 rfl (fun w0 A0=>?_);refine zc 9 rfl (aa rfl (bB rfl) (aj yf rfl (xG f h hb vars hv hv2) (zl 4 rfl ?_)));exact av ai rfl rfl
theorem N5(f:Af){b n:Nat}(h:c9 b n f)(hb:b<=1000000000)(vars:Nat)(hv:n<=vars)(hv2:vars<=1000):ar Tryz.prog 62 [bL f,V.one (ab.rep (eR [ab.val (.int .i64 (vars:Int))]))] (R.one (V.one (ab.val (.bool false)))):=by
 refine aF Tryz.func62 Tryz.ntmps62 rfl (fun w0 A0=>?_);refine zc 9 rfl (aa rfl (bB rfl) (aj yf rfl (xG f h hb vars hv hv2) (zl 4 rfl ?_)));exact av ai rfl rfl
theorem SK(l:List Af){b n:Nat}(h:∀f∈l,c9 b n f)(hb:b<=1000000000)(hl:l.length<=1000)(vars:Nat)(hv:n<=vars)(hv2:vars<=1000):ar Tryz.prog 85 [V.one (El.row bC l),V.one (ab.val (.int .i64 ((vars:Int))))] (R.one (V.one (ab.val (.bool true)))):=by
 refine aF Tryz.func85 Tryz.ntmps85 rfl (fun w0 A0=>?_);refine zc 9 rfl (KY 3 rfl rfl rfl (aK rfl (Ll [ab.rep (eR [ab.val (.int .i64 (vars:Int))])] rfl rfl) (aj IH rfl (Ia l 139 _ (by omega) fn139 (fun x hx=>SM x (h x hx) hb vars hv hv2)) (zl 4 rfl ?_))));exact av ai rfl rfl
theorem SL(g:Gr)(hg:oZ g):ar Tryz.prog 49 [sn g] (R.one (V.one (ab.val (.bool true)))):=by
 refine aF Tryz.func49 Tryz.ntmps49 rfl (fun w0 A0=>?_);have h1:=hg.i1;have h2:=hg.i3;have h3:=hg.u4;have h4:=hg.o1;have h5:=hg.o3;refine zc 11 rfl (aa rfl (aO rfl) (zl 3 rfl (aa rfl (cD rfl) (zl 4 rfl (aa rfl (aw rfl) (aa rfl (cD rfl) (zl 4 rfl (aa rfl (aw rfl) (aa rfl (aO rfl) ?_)))))))));refine zl 4 rfl (aa rfl (aw rfl) (aa rfl (cD rfl) (zl 11 rfl (aa rfl (aw rfl) (zl 4 rfl ?_)))));refine bH (fun m Γ H=>∃(i:Nat),g.us.length-i=m/\Γ=[(1,some (D.ptr 0 0)),(32,some (D.v (V.one (El.row bC g.us)))),(33,some (D.val (.int .i64 ((g.us.length:Nat):Int)))),(34,some (D.val (.int .i64 (i:Int))))]/\H=[au 27 [ab.val (.int .i64 ((g.ag:Nat):Int)),El.row bC g.us,El.row bC g.os]]/\i<=g.us.length) ⟨0,rfl,rfl,rfl,XS _⟩ rfl ?_;rintro m Γ H ⟨i,rfl,rfl,rfl,hi0⟩;refine zc 2 rfl ?_;by_cases hi:i<g.us.length
 .refine aa rfl (aX rfl) (zl 9 rfl ?_);obtain⟨x,hx⟩:∃x,g.us[i]?=some x:=⟨_,XM hi⟩;have hxo:=hg.us i x hx;refine zc 2 rfl (aa rfl (aS i hx rfl) (aa rfl (bo rfl) (zl 11 rfl (aa rfl (aL (g.ag+i) rfl) (aj yf rfl (xG x hxo (by omega) (g.ag+i) (XP _) (by omega)) (zl 8 rfl (aa rfl (aL (i+1) rfl) (zl 2 rfl (cX 1 ?_)))))))));refine cN 1 rfl ?_;exact aP ⟨i+1,rfl,rfl,rfl,hi⟩ rfl
 .refine aa rfl (aO rfl) (zl 17 rfl (aa rfl (aw rfl) (aa rfl (aL (g.ag+g.us.length) rfl) (aj To rfl (SK g.os hg.os (by omega) (by omega) (g.ag+g.us.length) (XP _) (by omega)) (zl 3 rfl ?_)))));exact av ai rfl rfl
theorem Ox(r:Rg)(n:Nat)(hr:nL n r)(hn1:1<=n)(hn3:n<=3):ar Tryz.prog 24 [rl r,V.one (ab.val (.int .i64 ((n:Int))))] (R.one (V.one (ab.val (.bool true)))):=by
 refine aF Tryz.func24 Tryz.ntmps24 rfl (fun w0 A0=>?_);have h1:=hr.lo;have h2:=hr.hi;have h3:=hr.r2;refine zc 11 rfl (aa rfl (aO rfl) (zl 2 rfl (aa rfl (cD rfl) (zl 4 rfl (aa rfl (aw rfl) (zl 1 rfl (aa rfl (eg rfl) (zl 4 rfl (aa rfl (aw rfl) ?_)))))))));refine zl 1 rfl (aa rfl (eg rfl) (zl 4 rfl (aa rfl (aw rfl) (aa rfl (cD rfl) (zl 11 rfl (aa rfl (aw rfl) (zl 4 rfl ?_)))))));refine bH (fun m Γ H=>∃(i:Nat),n-i=m/\Γ=[(2,some (D.ptr 0 0)),(3,some (D.ptr 1 0)),(34,some (D.v (V.one (El.row bw r.lo)))),(35,some (D.val (.int .i64 ((r.lo.length:Nat):Int)))),(36,some (D.val (.int .i64 (i:Int))))]/\H=[au 30 [El.row bw r.lo,El.row bw r.hi,El.row bC r.rows],au 3 [ab.val (.int .i64 (n:Int))]]/\i<=n) ⟨0,rfl,rfl,rfl,XS _⟩ rfl ?_;rintro m Γ H ⟨i,rfl,rfl,rfl,hi0⟩;refine zc 2 rfl ?_;by_cases hi:i<r.lo.length
 .refine aa rfl (aX rfl) (zl 9 rfl ?_);obtain⟨x,hx⟩:∃x,r.lo[i]?=some x:=⟨_,XM (by omega)⟩;obtain⟨y,hy⟩:∃y,r.hi[i]?=some y:=⟨_,XM (by omega)⟩;obtain⟨hb1,hb2,hxy⟩:=hr.bd i x y hx hy;haveI:=hb1.br;haveI:=hb2.br;refine zc 2 rfl (aa rfl (aS i hx rfl) (aa rfl (bo rfl) (zl 6 rfl (aE 0 [] [] (dz 1 rfl (ax pV rfl (n6 (an (x)) (x) (aG _) (Br.use (by omega))) (gv true rfl (kV _) (dz 5 rfl (af rfl (aS i hy rfl) ?_)))))))));refine af rfl (bo rfl) (ax pV rfl (n6 (an (y)) (y) (aG _) (Br.use (by omega))) (gv true rfl (kV _) (dz 7 rfl (af rfl (aS i hy rfl) (af rfl (bo rfl) (ax yc rfl (ud (an (x)) (x) (aG _) (Br.use (by omega)) (an (y)) (y) (aG _) (Br.use (by omega))) (af rfl (cD rfl (by have:=vB.2 hxy;omega)) (dz 1 rfl (aB ?_)))))))));refine za 6 rfl (aa rfl (aL (i+1) rfl) (zl 2 rfl (cX 2 (cN 2 rfl ?_))));exact aP ⟨i+1,rfl,rfl,rfl,(by omega)⟩ rfl
 .refine aa rfl (aO rfl) (zl 13 rfl (KY 3 rfl rfl rfl (aK rfl (Ll [ab.rep (eR [ab.val (.int .i64 (n:Int))])] rfl rfl) (aj IH rfl (Ia r.rows 62 _ (by omega) fn62 (fun x hx=>N5 x (hr.rows x hx) (by omega) n (XP _) (by omega))) (zl 4 rfl ?_)))));exact av ai rfl rfl
theorem FH:wh Tryz.prog 105 3:=⟨by kernel_rfl,by kernel_rfl,fW,by kernel_rfl,by kernel_rfl⟩
theorem XJ(s:Sc){B:Nat}(hB:∀m∈s.aq,Fq m.v B)(hB2:B<=100000000000)(hl:s.aq.length<=1000000)(u:Int):ar Tryz.prog 302 [eM s,V.one (ab.val (.int .i64 (u)))] (R.aW [V.one (ab.val (.int .i64 (((cw s.aq u).1:Nat):Int))),V.one (ab.val (.int .i64 (((cw s.aq u).2:Nat):Int)))]):=by
 refine aF Tryz.func302 Tryz.ntmps302 rfl (fun w0 A0=>?_);refine zc 18 rfl (aa rfl (aw rfl) (zl 4 rfl ?_));refine bH (fun m Γ H=>∃(i:Nat) (lo hi:Nat),s.aq.length-i=m/\Γ=[(1,some (D.val (.int .i64 u))),(2,some (D.ptr 0 0)),(6,some (D.val (.int .i64 (lo:Int)))),(7,some (D.val (.int .i64 (hi:Int)))),(11,some (D.v (V.one (El.row aV s.aq)))),(12,some (D.val (.int .i64 ((s.aq.length:Nat):Int)))),(13,some (D.val (.int .i64 (i:Int))))]/\H=[au 85 (fY s)]/\i<=s.aq.length/\(lo,hi)=iM s.aq u i) ⟨0,0,0,rfl,rfl,rfl,XS _,rfl⟩ rfl ?_;rintro m Γ H ⟨i,lo,hi,rfl,rfl,rfl,hi0,hs⟩;refine zc 2 rfl ?_;by_cases hi_:i<s.aq.length
 .refine aa rfl (aX rfl) (zl 9 rfl ?_);obtain⟨x,hx⟩:∃x,s.aq[i]?=some x:=⟨_,XM (by omega)⟩;haveI hxb:=hB x (XR hx);have hbn:=vR s.aq u i;rw[<-hs] at hbn;obtain⟨hlo,hhi,_,_⟩:=hbn;refine zc 2 rfl (aa rfl (aS i hx rfl) (aa rfl (bo rfl) (zl 11 rfl ?_)));by_cases hne:x.unit≠u
  .refine aa rfl (fG rfl) (zl 8 rfl (aa rfl (aL (i+1) rfl) (zl 2 rfl (cX 1 (cN 1 rfl ?_)))));exact aP ⟨i+1,_,_,rfl,rfl,rfl,(by omega),by rw[jb,<-hs];exact(CT hx hne).symm⟩ rfl
  .refine aa rfl (eg rfl) (zl 6 rfl ?_);have hu:x.unit=u:=Zj.1 hne;refine zc 5 rfl ?_;refine cV rfl (fun hup=>?_) (fun hup=>?_)
   .refine zc 1 rfl (aE 0 [] [] (dz 1 rfl ?_));by_cases hv:hi=0
    .refine af rfl (bp rfl) (dz 13 rfl (aB (za 4 rfl (aa rfl (aL (i+1) rfl) (zl 5 rfl (aa rfl (aL (i+1) rfl) (zl 2 rfl (cX 1 (cN 1 rfl ?_)))))))));exact aP ⟨i+1,_,_,rfl,rfl,rfl,(by omega),by rw[jb,<-hs];exact(vK (s:=(lo,hi)) hx hu hup (.inl hv)).symm⟩ rfl
    .refine af rfl (aU rfl) (dz 6 rfl ?_);obtain⟨y,hy⟩:∃y,s.aq[hi-1]?=some y:=⟨_,XM (by omega)⟩;haveI hyb:=hB y (XR hy);have hly:=rO hy;refine af rfl (b9 (hi-1) rfl) (af rfl (aS (hi-1) hy rfl) (af rfl (jv rfl) (af rfl (bo rfl) (ax yc rfl (ud x.v (x.v.q) rfl (Fq.use (x:=x.v) (by omega)) y.v (y.v.q) rfl (Fq.use (x:=y.v) (by omega))) ?_))));by_cases hc:x.v.q<lv s.aq hi
     .refine af rfl (aX rfl (by rw[vA,<-hly];exact hc)) (dz 1 rfl (aB (za 4 rfl (aa rfl (aL (i+1) rfl) (zl 5 rfl (aa rfl (aL (i+1) rfl) (zl 2 rfl (cX 1 (cN 1 rfl ?_)))))))));exact aP ⟨i+1,_,_,rfl,rfl,rfl,(by omega),by rw[jb,<-hs];exact(vK (s:=(lo,hi)) hx hu hup (.inr hc)).symm⟩ rfl
     .refine af rfl (aO rfl (by rw[vA,<-hly];exact hc)) (dz 1 rfl (aB (za 6 rfl (aa rfl (aL (i+1) rfl) (zl 2 rfl (cX 1 (cN 1 rfl ?_)))))));exact aP ⟨i+1,_,_,rfl,rfl,rfl,(by omega),by rw[jb,<-hs];exact(CS (s:=(lo,hi)) hx hu hup (fun h=>h.elim hv hc)).symm⟩ rfl
   .refine zc 1 rfl (aE 0 [] [] (dz 1 rfl ?_));by_cases hv:lo=0
    .refine af rfl (bp rfl) (dz 13 rfl (aB (za 4 rfl (aa rfl (aL (i+1) rfl) (zl 5 rfl (aa rfl (aL (i+1) rfl) (zl 2 rfl (cX 1 (cN 1 rfl ?_)))))))));exact aP ⟨i+1,_,_,rfl,rfl,rfl,(by omega),by rw[jb,<-hs];exact(vL (s:=(lo,hi)) hx hu hup (.inl hv)).symm⟩ rfl
    .refine af rfl (aU rfl) (dz 6 rfl ?_);obtain⟨y,hy⟩:∃y,s.aq[lo-1]?=some y:=⟨_,XM (by omega)⟩;haveI hyb:=hB y (XR hy);have hly:=rO hy;refine af rfl (b9 (lo-1) rfl) (af rfl (aS (lo-1) hy rfl) (af rfl (jv rfl) (af rfl (bo rfl) (ax yc rfl (ud x.v (x.v.q) rfl (Fq.use (x:=x.v) (by omega)) y.v (y.v.q) rfl (Fq.use (x:=y.v) (by omega))) ?_))));by_cases hc:lv s.aq lo<x.v.q
     .refine af rfl (dQ rfl (by rw[yJ,<-hly];exact hc)) (dz 1 rfl (aB (za 4 rfl (aa rfl (aL (i+1) rfl) (zl 5 rfl (aa rfl (aL (i+1) rfl) (zl 2 rfl (cX 1 (cN 1 rfl ?_)))))))));exact aP ⟨i+1,_,_,rfl,rfl,rfl,(by omega),by rw[jb,<-hs];exact(vL (s:=(lo,hi)) hx hu hup (.inr hc)).symm⟩ rfl
     .refine af rfl (cD rfl (by rw[yJ,<-hly];exact hc)) (dz 1 rfl (aB (za 6 rfl (aa rfl (aL (i+1) rfl) (zl 2 rfl (cX 1 (cN 1 rfl ?_)))))));exact aP ⟨i+1,_,_,rfl,rfl,rfl,(by omega),by rw[jb,<-hs];exact(CU (s:=(lo,hi)) hx hu hup (fun h=>h.elim hv hc)).symm⟩ rfl
 .refine aa rfl (aO rfl) (zl 10 rfl ?_);have hie:i=s.aq.length:=by omega
  rw[hie] at hs;refine zc 7 rfl ?_;exact aI ai rfl (by unfold cw;rw[<-hs])
theorem Vw(s:Sc){B:Nat}(hB:∀m∈s.aq,Fq m.v B)(hB2:B<=100000000000)(hl:s.aq.length<=1000000)(u:Int):ar Tryz.prog 150 [eM s,V.one (ab.val (.int .i64 (u)))] (R.aW [V.one (ab.val (.int .i64 (((cw s.aq u).1:Nat):Int))),V.one (ab.val (.int .i64 (((cw s.aq u).2:Nat):Int)))]):=by
 refine aF Tryz.func150 Tryz.ntmps150 rfl (fun w0 A0=>?_);refine zc 20 rfl ?_;refine bH (fun m Γ H=>∃(i:Nat) (lo hi:Nat),s.aq.length-i=m/\Γ=[(1,some (D.val (.int .i64 u))),(2,some (D.ptr 0 0)),(6,some (D.val (.int .i64 (lo:Int)))),(7,some (D.val (.int .i64 (hi:Int)))),(8,some (D.val (.int .i64 (((i+1):Nat):Int))))]/\H=[au 85 (fY s)]/\i<=s.aq.length/\(lo,hi)=iM s.aq u i) ⟨0,0,0,rfl,rfl,rfl,XS _,rfl⟩ rfl ?_;rintro m Γ H ⟨i,lo,hi,rfl,rfl,rfl,hi0,hs⟩;refine zc 6 rfl (aa rfl (aw rfl) ?_);by_cases hi_:i<s.aq.length
 .refine aa rfl (uF rfl) (zl 8 rfl ?_);obtain⟨x,hx⟩:∃x,s.aq[i]?=some x:=⟨_,XM (by omega)⟩;haveI hxb:=hB x (XR hx);have hbn:=vR s.aq u i;rw[<-hs] at hbn;obtain⟨hlo,hhi,_,_⟩:=hbn;refine zc 4 rfl (aa rfl (b9 i rfl) (aa rfl (aS i hx rfl) (aa rfl (bo rfl) (zl 10 rfl ?_))));by_cases hne:x.unit≠u
  .refine aa rfl (fG rfl) (zl 9 rfl (aa rfl (aL ((i+1)+1) rfl) (zl 2 rfl (cX 1 (cN 1 rfl ?_)))));exact aP ⟨i+1,_,_,rfl,rfl,rfl,(by omega),by rw[jb,<-hs];exact(CT hx hne).symm⟩ rfl
  .refine aa rfl (eg rfl) (zl 7 rfl ?_);have hu:x.unit=u:=Zj.1 hne;refine aE 0 [] [] (dz 3 rfl ?_);refine jQ rfl (fun hup=>?_) (fun hup=>?_)
   .refine dz 16 rfl (aB (za 5 rfl (aE 0 [] [] (dz 2 rfl (gv false rfl (hup) (dz 3 rfl ?_))))));by_cases hv:lo=0
    .refine af rfl (bp rfl) (dz 14 rfl (aB (za 10 rfl (aa rfl (aL ((i+1)+1) rfl) (zl 2 rfl (cX 1 (cN 1 rfl ?_)))))));exact aP ⟨i+1,_,_,rfl,rfl,rfl,(by omega),by rw[jb,<-hs];exact(vL (s:=(lo,hi)) hx hu hup (.inl hv)).symm⟩ rfl
    .refine af rfl (aU rfl) (dz 6 rfl ?_);obtain⟨y,hy⟩:∃y,s.aq[lo-1]?=some y:=⟨_,XM (by omega)⟩;haveI hyb:=hB y (XR hy);have hly:=rO hy;refine af rfl (b9 (lo-1) rfl) (af rfl (aS (lo-1) hy rfl) (af rfl (jv rfl) (af rfl (bo rfl) (ax pW rfl (pv x.v (x.v.q) rfl (Fq.use (x:=x.v) (by omega)) y.v (y.v.q) rfl (Fq.use (x:=y.v) (by omega))) ?_))));by_cases hc:lv s.aq lo<x.v.q
     .refine af rfl (dQ rfl (by rw[yJ,<-hly];exact hc)) (dz 2 rfl (aB (za 10 rfl (aa rfl (aL ((i+1)+1) rfl) (zl 2 rfl (cX 1 (cN 1 rfl ?_)))))));exact aP ⟨i+1,_,_,rfl,rfl,rfl,(by omega),by rw[jb,<-hs];exact(vL (s:=(lo,hi)) hx hu hup (.inr hc)).symm⟩ rfl
     .refine af rfl (cD rfl (by rw[yJ,<-hly];exact hc)) (dz 2 rfl (aB (za 7 rfl (aa rfl (aL ((i+1)+1) rfl) (zl 2 rfl (cX 1 (cN 1 rfl ?_)))))));exact aP ⟨i+1,_,_,rfl,rfl,rfl,(by omega),by rw[jb,<-hs];exact(CU (s:=(lo,hi)) hx hu hup (fun h=>h.elim hv hc)).symm⟩ rfl
   .refine dz 1 rfl ?_;by_cases hv:hi=0
    .refine af rfl (bp rfl) (dz 14 rfl (aB (za 8 rfl (aE 0 [] [] (dz 2 rfl (gv true rfl (hup) (dz 18 rfl (aB (za 7 rfl ?_)))))))));refine aa rfl (aL ((i+1)+1) rfl) (zl 2 rfl (cX 1 (cN 1 rfl ?_)));exact aP ⟨i+1,_,_,rfl,rfl,rfl,(by omega),by rw[jb,<-hs];exact(vK (s:=(lo,hi)) hx hu hup (.inl hv)).symm⟩ rfl
    .refine af rfl (aU rfl) (dz 6 rfl ?_);obtain⟨y,hy⟩:∃y,s.aq[hi-1]?=some y:=⟨_,XM (by omega)⟩;haveI hyb:=hB y (XR hy);have hly:=rO hy;refine af rfl (b9 (hi-1) rfl) (af rfl (aS (hi-1) hy rfl) (af rfl (jv rfl) (af rfl (bo rfl) (ax pW rfl (pv x.v (x.v.q) rfl (Fq.use (x:=x.v) (by omega)) y.v (y.v.q) rfl (Fq.use (x:=y.v) (by omega))) ?_))));by_cases hc:x.v.q<lv s.aq hi
     .refine af rfl (aX rfl (by rw[vA,<-hly];exact hc)) (dz 2 rfl (aB (za 8 rfl (aE 0 [] [] (dz 2 rfl (gv true rfl (hup) (dz 18 rfl (aB (za 7 rfl ?_)))))))));refine aa rfl (aL ((i+1)+1) rfl) (zl 2 rfl (cX 1 (cN 1 rfl ?_)));exact aP ⟨i+1,_,_,rfl,rfl,rfl,(by omega),by rw[jb,<-hs];exact(vK (s:=(lo,hi)) hx hu hup (.inr hc)).symm⟩ rfl
     .refine af rfl (aO rfl (by rw[vA,<-hly];exact hc)) (dz 2 rfl (aB (za 5 rfl (aE 0 [] [] (dz 2 rfl (gv true rfl (hup) (dz 18 rfl (aB (za 7 rfl ?_)))))))));refine aa rfl (aL ((i+1)+1) rfl) (zl 2 rfl (cX 1 (cN 1 rfl ?_)));exact aP ⟨i+1,_,_,rfl,rfl,rfl,(by omega),by rw[jb,<-hs];exact(CS (s:=(lo,hi)) hx hu hup (fun h=>h.elim hv hc)).symm⟩ rfl
 .refine aa rfl (rU rfl) (zl 9 rfl ?_);have hie:i=s.aq.length:=by omega
  rw[hie] at hs;refine zc 7 rfl ?_;exact aI ai rfl (by unfold cw;rw[<-hs])
theorem Hx(a b:Rw):ar Tryz.prog 210 [mL a,mL b] (R.one (V.one (ab.val (.bool (dd a b))))):=by
 refine aF Tryz.func210 Tryz.ntmps210 rfl (fun w0 A0=>?_);refine zc 15 rfl ?_;by_cases h1:a.kind≠b.kind
 .refine aa rfl (fG rfl) (zl 14 rfl ?_);exact av ai rfl (by unfold dd;rw[if_pos h1])
 .refine aa rfl (eg rfl) (zl 10 rfl ?_);by_cases h2:a.idx≠b.idx
  .refine aa rfl (fG rfl) (zl 14 rfl ?_);exact av ai rfl (by unfold dd;rw[if_neg h1,if_pos h2])
  .refine aa rfl (eg rfl) (zl 10 rfl ?_);by_cases h3:a.lo≠b.lo
   .refine aa rfl (fG rfl) (zl 14 rfl ?_);exact av ai rfl (by unfold dd;rw[if_neg h1,if_neg h2,if_pos h3])
   .refine aa rfl (eg rfl) (zl 17 rfl ?_);exact av ai rfl (by unfold dd;rw[if_neg h1,if_neg h2,if_neg h3])
theorem Pm(l:List Mu)(r:Rw)(c:Rat){B C:Nat}(hB:MB B l)[Br c C](hBC:B+C<=300000000000)(hl:l.length<=100000):ar Tryz.prog 152 [V.one (El.row bm l),mL r,V.agg (qL (c))] (R.one (V.one (El.row bm (fe l r c)))):=by
 refine aF Tryz.func152 Tryz.ntmps152 rfl (fun w0 A0=>?_);refine zc 11 rfl (aj gy rfl (gm (an (c)) (c) (aG _) (Br.use (by omega))) ?_);by_cases hc0:c=0
 .refine aa rfl (bp rfl (by rw[hc0];rfl)) (zl 9 rfl ?_);exact av ai rfl (by unfold fe;rw[if_pos hc0])
 .refine aa rfl (aU rfl (mF hc0)) (zl 12 rfl ?_);refine bH (fun m Γ H=>∃(k:Nat),l.length-k=m/\Γ=[(0,some (D.v (V.one (El.row bm l)))),(4,some (D.ptr 0 0)),(5,some (D.ptr 1 0)),(7,some (D.val (.int .i64 (k:Int))))]/\H=[au 105 [ab.val (.int .i64 r.kind),ab.val (.int .i64 r.idx),ab.val (.int .i64 r.lo),ab.val (.int .i64 r.hi)],au 35 (qL c)]/\k<=l.length/\∀(i:Nat) (m:Mu),i<k->l[i]?=some m->dd m.r r=true) ⟨0,rfl,rfl,rfl,XS _,fun i m hi=>by omega⟩ rfl ?_;rintro m Γ H ⟨k,rfl,rfl,rfl,hk0,hlt⟩;refine zc 2 rfl (aE 0 [] [] (dz 2 rfl (af rfl (aw rfl) ?_)));by_cases hk:k<l.length
  .refine af rfl (aX rfl) (dz 1 rfl ?_);obtain⟨x,hx⟩:∃x,l[k]?=some x:=⟨_,XM hk⟩;haveI hxb:=hB x (XR hx);refine dz 2 rfl (af rfl (aS k hx rfl) (af rfl (jv rfl) (af rfl (bo rfl) (dz 1 rfl (ax IY rfl (Hx x.r r) (dz 1 rfl (aB (za 1 rfl ?_))))))));refine cV rfl (fun hls=>?_) (fun hls=>?_)
   .refine zc 5 rfl (aa rfl (aL (k+1) rfl) (zl 3 rfl ?_));exact aP ⟨k+1,rfl,rfl,rfl,hk,fun i m hi hm=>if e:i=k then(by subst e;rw[hx] at hm;cases hm;exact hls) else hlt i m (by omega) hm⟩ rfl
   .refine zc 7 rfl (j0 rfl rfl rfl rfl fU gB rfl (qp 28 2 rfl rfl (zl 2 rfl (aa rfl (Lg bm l (k) rfl rfl rfl fU gB rfl (by omega)) (aK rfl (rX (e:=bm) (l:=[]) rfl rfl) (zl 5 rfl (aE 0 [] [] (dz 2 rfl (af rfl (aw rfl) ?_)))))))));refine af rfl (aX rfl) (dz 3 rfl (af rfl (aS k hx rfl) (af rfl (jv rfl) (af rfl (bo rfl) (dz 1 rfl ?_)))));by_cases heq:x.r=r
    .refine af rfl (Lk rfl rfl rfl FH (d:=true) (Uu heq)) (dz 1 rfl (aB (za 3 rfl (aE 0 [(11,2)] [2] (dz 4 rfl (af rfl (aS k hx rfl) (af rfl (dW rfl) (af rfl (bo rfl) (dz 1 rfl ?_)))))))));refine ax kY rfl (kC x.c (x.c.q) rfl (Fq.use (x:=x.c) (by omega)) (an (c)) (c) (aG _) (Br.use (by omega))) (dz 1 rfl (fh rfl (fun _=>b8 rfl fU gB mu rfl (by decide) (by decide) rfl (by decide) rfl) (cH 2 rfl (ib (e:=bm) (⟨⟨r.kind,r.idx,r.lo,r.hi⟩,(an ((x.c.q)+(c)))⟩) rfl rfl) (dz 1 rfl (aB (za 3 rfl (aa rfl (aL (k+1) rfl) ?_)))))));refine zl 8 rfl (aa rfl (lu bm l (k+1) rfl rfl rfl fU gB rfl (by omega)) (aK rfl (rX rfl rfl) (zl 3 rfl ?_)));refine vY 6 (x':=V.one (El.row bm ([]++(l.take (k))++[⟨⟨r.kind,r.idx,r.lo,r.hi⟩,(an ((x.c.q)+(c)))⟩]++(l.drop (k+1))))) rfl (dH.gf bm ([]++(l.take (k))++[⟨⟨r.kind,r.idx,r.lo,r.hi⟩,(an ((x.c.q)+(c)))⟩]++(l.drop (k+1))) rfl (by decide)) (.inr ⟨rfl,rfl⟩) ?_;exact av ai rfl (by unfold fe;rw[if_neg hc0,Sy hlt hx heq] <;> rfl)
    .refine af rfl (Lk rfl rfl rfl FH (d:=false) (Uv heq)) (dz 1 rfl (aB (za 2 rfl (aE 0 [(6,2)] [2] (dz 3 rfl (ax ko rfl (kd (an (c)) (c) (aG _) (Br.use (by omega))) (dz 1 rfl (fh rfl (fun _=>b8 rfl fU gB mu rfl (by decide) (by decide) rfl (by decide) rfl) ?_))))))));refine cH 2 rfl (ib (e:=bm) (⟨⟨r.kind,r.idx,r.lo,r.hi⟩,(an (c))⟩) rfl rfl) (dz 1 rfl (aB (za 6 rfl (aa rfl (lu bm l (k) rfl rfl rfl fU gB rfl (by omega)) (aK rfl (rX rfl rfl) (zl 3 rfl ?_))))));refine vY 6 (x':=V.one (El.row bm ([]++(l.take (k))++[⟨⟨r.kind,r.idx,r.lo,r.hi⟩,(an (c))⟩]++(l.drop (k))))) rfl (dH.gf bm ([]++(l.take (k))++[⟨⟨r.kind,r.idx,r.lo,r.hi⟩,(an (c))⟩]++(l.drop (k))) rfl (by decide)) (.inr ⟨rfl,rfl⟩) ?_;exact av ai rfl (by unfold fe;rw[if_neg hc0,Sx hlt hx hls heq] <;> rfl)
  .refine af rfl (aO rfl) (dz 9 rfl (aB (za 8 rfl ?_)));have hke:k=l.length:=by omega
   refine zc 1 rfl (j0 rfl rfl rfl rfl fU gB rfl (qp 28 2 rfl rfl (zl 2 rfl (aa rfl (Lg bm l (k) rfl rfl rfl fU gB rfl (by omega)) (aK rfl (rX (e:=bm) (l:=[]) rfl rfl) (zl 5 rfl (aE 0 [] [] (dz 2 rfl (af rfl (aw rfl) ?_)))))))));refine af rfl (aO rfl) (dz 9 rfl (aB (za 2 rfl (aE 0 [(6,2)] [2] (dz 3 rfl (ax ko rfl (kd (an (c)) (c) (aG _) (Br.use (by omega))) (dz 1 rfl (fh rfl (fun _=>b8 rfl fU gB mu rfl (by decide) (by decide) rfl (by decide) rfl) (cH 2 rfl (ib (e:=bm) (⟨⟨r.kind,r.idx,r.lo,r.hi⟩,(an (c))⟩) rfl rfl) ?_)))))))));refine dz 1 rfl (aB (za 6 rfl (aa rfl (lu bm l (k) rfl rfl rfl fU gB rfl (by omega)) (aK rfl (rX rfl rfl) (zl 3 rfl ?_)))));refine vY 6 (x':=V.one (El.row bm ([]++(l.take (k))++[⟨⟨r.kind,r.idx,r.lo,r.hi⟩,(an (c))⟩]++(l.drop (k))))) rfl (dH.gf bm ([]++(l.take (k))++[⟨⟨r.kind,r.idx,r.lo,r.hi⟩,(an (c))⟩]++(l.drop (k))) rfl (by decide)) (.inr ⟨rfl,rfl⟩) ?_;exact av ai rfl (by unfold fe;rw[if_neg hc0,Sz (fun i m hi=>hlt i m (by omega)),hke,Yo,List.drop_length,YF] <;> rfl)
theorem Rt(a b:List Mu)(c:Rat){B C K:Nat}(hA:MB B a)(hB:MB C b)[Br c K](hBC:B+b.length*(C+K+2)+C+K<=200000000000)(hl:a.length<=10000)(hlb:b.length<=10000):ar Tryz.prog 94 [V.one (El.row bm a),V.one (El.row bm b),V.agg (qL (c))] (R.one (V.one (El.row bm (eE a b c)))):=by
 refine aF Tryz.func94 Tryz.ntmps94 rfl (fun w0 A0=>?_);refine zc 13 rfl (bH (fun m Γ H=>∃(i:Nat) (out:List Mu),b.length-i=m/\Γ=[(0,some (D.v (V.one (El.row bm out)))),(1,some (D.v (V.one (El.row bm b)))),(5,some (D.ptr 0 0)),(7,some (D.val (.int .i64 (i:Int))))]/\H=[au 35 (qL c)]/\i<=b.length/\out=eE a (b.take i) c) ⟨0,a,rfl,rfl,rfl,XS _,rfl⟩ rfl ?_);rintro m Γ H ⟨i,out,rfl,rfl,rfl,hi0,hout⟩;refine zc 5 rfl (aa rfl (aw rfl) ?_);by_cases hi:i<b.length
 .refine aa rfl (aX rfl) (zl 7 rfl ?_);obtain⟨x,hx⟩:∃x,b[i]?=some x:=⟨_,XM hi⟩;haveI hxb:=hB x (XR hx);have hol:out.length<=20000:=by rw[hout];refine XY (Bs _ _ _) ?_;rw[X2];omega
  have hMB:MB (B+b.length*(C+K+2)) out:=by
   rw[hout];refine(Bt (c:=c) hA (fun m hm=>hB m (YB hm))).mono ?_;have:=Ya (C+K+2) (show(b.take i).length<=b.length by rw[X2];omega);omega
  refine aE 0 [] [] (dz 3 rfl (af rfl (aS i hx rfl) (af rfl (jv rfl) (af rfl (bo rfl) (dz 2 rfl (af rfl (aS i hx rfl) (af rfl (dW rfl) (af rfl (bo rfl) (dz 1 rfl ?_)))))))));refine ax pX rfl (po x.c (x.c.q) rfl (Fq.use (x:=x.c) (by omega)) (an (c)) (c) (aG _) (Br.use (by omega))) (ax TX rfl (Pm out x.r ((x.c.q)*(c)) (by assumption) (by omega) (by omega)) (dz 1 rfl (aB (za 4 rfl (aa rfl (aL (i+1) rfl) (zl 2 rfl ?_))))));exact aP ⟨i+1,_,rfl,rfl,rfl,hi,by rw[hout,Ru hx]⟩ rfl
 .refine aa rfl (aO rfl) (zl 14 rfl ?_);exact av ai rfl (by rw[hout,show i=b.length by omega,Yo])
theorem On(x:Qr)(r:Rat)(hr:x.q=r)(hfx:Fit 1000000000000 x)(y:Qr)(s:Rat)(hs:y.q=s)(hfy:Fit 1000000000000 y)(hs0:s≠0):ar Tryz.prog 151 [qV x,qV y] (R.aW [qV (an (r/s)),V.one (ab.val (.int .i64 0))]):=by
 refine aF Tryz.func151 Tryz.ntmps151 rfl (fun w0 A0=>?_);haveI ixn:Bn (val x.n) 1000000000000:=Bn.val x.hn hfx.n;haveI ixd:Bn (val x.d) 1000000000000:=Bn.val x.hd hfx.d;haveI iyn:Bn (val y.n) 1000000000000:=Bn.val y.hn hfy.n;haveI iyd:Bn (val y.d) 1000000000000:=Bn.val y.hd hfy.d;have hyn:val y.n≠0:=fun e=>hs0 (by rw[<-hs];unfold Qr.q;rw[tS];exact e);refine zc 12 rfl (aj gy rfl (gm y (s) hs (hfy.mono (by omega))) (aa rfl (aU rfl (mF hs0)) (zl 6 rfl (aE 0 [(18,2)] [2] (dz 4 rfl (af rfl (oU rfl rfl rfl jH (d:=_) (rfl)) (dz 4 rfl (ax nh rfl ((mN y.d y.hd (hfy.mono (by omega)).d (val y.d) rfl)) ?_))))))));refine ax pU rfl (py x.n (ah (dn (val y.d))) x.hn (bh _) (hfx.mono (by omega)).n (Bn.use (by omega)) (val x.n) (dn (val y.d)) rfl (aZ _)) (dz 2 rfl (ax nh rfl ((mN x.d x.hd (hfx.mono (by omega)).d (val x.d) rfl)) (dz 2 rfl ?_)));refine ax pU rfl (py (ah (dn (val x.d))) y.n (bh _) y.hn (Bn.use (by omega)) (hfy.mono (by omega)).n (dn (val x.d)) (val y.n) (aZ _) rfl) ?_;refine ax u7 rfl (tQ (x.neg != y.neg) (ah ((val x.n)*(dn (val y.d)))) (ah ((dn (val x.d))*(val y.n))) (bh _) (bh _) (Bn.use (by omega)) (Bn.use (by omega)) ((val x.n)*(dn (val y.d))) ((dn (val x.d))*(val y.n)) (aZ _) (aZ _) (YP (fp _) hyn)) (dz 2 rfl (aB (za 1 rfl ?_)));exact aI ai rfl (by subst hr;subst hs;rw[AA _ _ _ _ _ _ hyn] <;> rfl)
theorem VI(s:Sc)(hi3:s.q.g.ag<=1000)(v:Nat)(hv:v<=1000):ar Tryz.prog 93 [eM s,V.one (ab.val (.int .i64 ((v:Int))))] (R.one (V.one (El.row bm (ku s.q.g.ag v)))):=by
 refine aF Tryz.func93 Tryz.ntmps93 rfl (fun w0 A0=>?_);refine zc 14 rfl ?_;by_cases h1:v<s.q.g.ag
 .refine aa rfl (aX rfl) (zl 7 rfl (aj oG rfl (mP 1 (by decide) (by decide)) (zl 1 rfl (aK rfl (b8 rfl fU gB mu rfl (by decide) (by decide) rfl (by decide) rfl) (zl 3 rfl ?_)))));exact av ai rfl (by unfold ku;rw[if_pos h1] <;> rfl)
 .refine aa rfl (aO rfl) (zl 6 rfl (aE 0 [] [] (dz 5 rfl (af rfl (b9 (v-s.q.g.ag) rfl) (dz 1 rfl (ax oG rfl (mP 1 (by decide) (by decide)) (dz 1 rfl (fh rfl (fun _=>b8 rfl fU gB mu rfl (by decide) (by decide) rfl (by decide) rfl) (dz 1 rfl ?_)))))))));refine aB (za 1 rfl ?_);exact av ai rfl (by unfold ku;rw[if_neg h1] <;> rfl)
set_option maxHeartbeats 2000000 in
theorem VH(s:Sc){B:Nat}(hB:∀m∈s.aq,Fq m.v B)(hB2:B<=100000000000)(hl:s.aq.length<=1000000)(hi3:s.q.g.ag<=1000)(v:Nat)(hv:v<=1000):ar Tryz.prog 92 [eM s,V.one (ab.val (.int .i64 ((v:Int))))] (R.aW [V.one (El.row bm ((fP s.q.g.ag s.aq v).getD [])),V.one (ab.val (.bool (fP s.q.g.ag s.aq v).isSome))]):=by
 refine aF Tryz.func92 Tryz.ntmps92 rfl (fun w0 A0=>?_);refine zc 9 rfl (aj oG rfl (mP 1 (by decide) (by decide)) (zl 12 rfl ?_));by_cases hv1:v<s.q.g.ag
 .refine aa rfl (aX rfl) (zl 9 rfl (aK rfl (b8 rfl fU gB mu rfl (by decide) (by decide) rfl (by decide) rfl) (zl 4 rfl ?_)));exact aI ai rfl (by unfold fP;rw[if_pos hv1] <;> rfl)
 .refine aa rfl (aO rfl) (zl 12 rfl (aa rfl (b9 (v-s.q.g.ag) rfl) (zl 7 rfl (aj TZ rfl (Vw s (by assumption) (by omega) (by omega) ((v-s.q.g.ag:Nat):Int)) (zl 11 rfl ?_)))));by_cases hb1:(cw s.aq ((v-s.q.g.ag:Nat):Int)).1=0
  .refine aa rfl (bp rfl) (zl 8 rfl ?_);have hb:(cw s.aq ((v-s.q.g.ag:Nat):Int)).1=0\/(cw s.aq ((v-s.q.g.ag:Nat):Int)).2=0:=.inl hb1;refine zc 5 rfl ?_;exact aI ai rfl (by unfold fP;rw[if_neg hv1,if_pos hb] <;> rfl)
  .refine aa rfl (aU rfl) (zl 2 rfl ?_);by_cases hb2:(cw s.aq ((v-s.q.g.ag:Nat):Int)).2=0
   .refine aa rfl (bp rfl) (zl 5 rfl ?_);have hb:(cw s.aq ((v-s.q.g.ag:Nat):Int)).1=0\/(cw s.aq ((v-s.q.g.ag:Nat):Int)).2=0:=.inr hb2;refine zc 5 rfl ?_;exact aI ai rfl (by unfold fP;rw[if_neg hv1,if_pos hb] <;> rfl)
   .refine aa rfl (aU rfl) (zl 7 rfl ?_);have hb:¬((cw s.aq ((v-s.q.g.ag:Nat):Int)).1=0\/(cw s.aq ((v-s.q.g.ag:Nat):Int)).2=0):=fun h=>h.elim hb1 hb2;obtain⟨y,hy,_,_,hly,hy0,hyl⟩:=C4 hb1;obtain⟨z,hz,_,_,hlz,hz0,hzl⟩:=zi hb2;haveI hyB:=hB y (XR hy);haveI hzB:=hB z (XR hz);refine aE 2 [(14,2),(15,3),(16,2),(17,3)] [2,3] (dz 3 rfl (af rfl (b9 (((cw s.aq ((v-s.q.g.ag:Nat):Int)).1)-1) rfl) (af rfl (aS ((cw s.aq ((v-s.q.g.ag:Nat):Int)).1-1) hy rfl) (af rfl (jv rfl) (af rfl (bo rfl) (dz 3 rfl (af rfl (b9 (((cw s.aq ((v-s.q.g.ag:Nat):Int)).2)-1) rfl) ?_)))))));refine af rfl (aS ((cw s.aq ((v-s.q.g.ag:Nat):Int)).2-1) hz rfl) (af rfl (jv rfl) (af rfl (bo rfl) (dz 4 rfl (aB (za 6 rfl (aj gy rfl (gm z.v (z.v.q) rfl (Fq.use (x:=z.v) (by omega))) ?_))))));by_cases hu0:lv s.aq (cw s.aq ((v-s.q.g.ag:Nat):Int)).2<=0
    .refine aa rfl (uF rfl (by rw[<-hlz];exact mG.2 hu0)) (zl 11 rfl (aK rfl (b8 rfl fU gB mu rfl (by decide) (by decide) rfl (by decide) rfl) (zl 4 rfl ?_)));exact aI ai rfl (by unfold fP;rw[if_neg hv1,if_neg hb,if_pos hu0] <;> rfl)
    .refine aa rfl (rU rfl (by rw[<-hlz];exact fun e=>hu0 (mG.1 e))) (zl 7 rfl (aj gy rfl (gm y.v (y.v.q) rfl (Fq.use (x:=y.v) (by omega))) ?_));by_cases hl0:0<=lv s.aq (cw s.aq ((v-s.q.g.ag:Nat):Int)).1
     .refine aa rfl (dR rfl (by rw[<-hly];exact lI.2 hl0)) (zl 16 rfl (aK rfl (b8 rfl fU gB mu rfl (by decide) (by decide) rfl (by decide) rfl) (zl 4 rfl ?_)));exact aI ai rfl (by unfold fP;rw[if_neg hv1,if_neg hb,if_neg hu0,if_pos hl0] <;> rfl)
     .refine aa rfl (dY rfl (by rw[<-hly];exact fun e=>hl0 (lI.1 e))) (zl 8 rfl ?_);rw[hlz] at hu0;rw[hly] at hl0;have hne:z.v.q-y.v.q≠0:=by grind
      refine aE 1 [(8,4),(9,4)] [4] (dz 3 rfl (ax pY rfl (pn z.v (z.v.q) rfl (Fq.use (x:=z.v) (by omega)) y.v (y.v.q) rfl (Fq.use (x:=y.v) (by omega))) (ax TY rfl (On (an (((1:Int):Rat))) (((1:Int):Rat)) (aG _) (Br.use (by omega)) (an ((z.v.q)-(y.v.q))) ((z.v.q)-(y.v.q)) (aG _) (Br.use (by omega)) (by assumption)) (dz 6 rfl (aB (za 2 rfl ?_))))));refine aE 0 [] [] (dz 5 rfl (ax pX rfl (po (an ((((1:Int):Rat))/((z.v.q)-(y.v.q)))) ((((1:Int):Rat))/((z.v.q)-(y.v.q))) (aG _) (Br.use (by omega)) z.v (z.v.q) rfl (Fq.use (x:=z.v) (by omega))) (dz 7 rfl (fh rfl (fun _=>b8 rfl fU gB mu rfl (by decide) (by decide) rfl (by decide) rfl) (dz 2 rfl (aB (za 1 rfl ?_)))))));exact aI ai rfl (by unfold fP;rw[if_neg hv1,if_neg hb,if_neg (by rw[hlz];exact hu0),if_neg (by rw[hly];exact hl0),hlz,hly] <;> rfl)
set_option maxHeartbeats 2000000 in
theorem Hz(s:Sc){B:Nat}(hB:∀m∈s.aq,Fq m.v B)(hB2:B<=100000000000)(hl:s.aq.length<=1000000)(n u:Int)(up:Bool):ar Tryz.prog 263 [eM s,V.one (ab.val (.int .i64 (n))),V.one (ab.val (.int .i64 (u))),V.one (ab.val (.bool up))] (R.aW [qV (an (iH s.aq n u up).1),V.one (ab.val (.bool (iH s.aq n u up).2))]):=by
 refine aF Tryz.func263 Tryz.ntmps263 rfl (fun w0 A0=>?_);refine zc 11 rfl ?_;by_cases h1:n<1
 .refine aa rfl (aX rfl) (zl 24 rfl (zl 15 rfl ?_));exact aI ai rfl (by rw[R2 h1];show _=R.aW [qV (an 0),V.one (ab.val (.bool false))];rw[<-kf] <;> rfl)
 .refine aa rfl (aO rfl) (zl 4 rfl (aa rfl (aw rfl) ?_));by_cases h2:(s.aq.length:Int)<n
  .refine aa rfl (dQ rfl) (zl 24 rfl (za 9 rfl ?_));exact aI ai rfl (by rw[R3 h2];show _=R.aW [qV (an 0),V.one (ab.val (.bool false))];rw[<-kf] <;> rfl)
  .refine aa rfl (cD rfl) (zl 2 rfl ?_);obtain⟨x,hx⟩:∃x,s.aq[(n-1).toNat]?=some x:=⟨_,XM (by omega)⟩;haveI hxB:=hB x (XR hx);refine zl 3 rfl (aa rfl (du rfl rfl rfl (r:=(n-1)) (bS (by omega) (by omega) (by omega))) (aa rfl (aS ((n-1).toNat) hx rfl (by omega)) (aa rfl (dW rfl) (aa rfl (bB rfl) (zl 1 rfl ?_)))));by_cases h3:x.unit≠u
   .refine aa rfl (fG rfl) (zl 22 rfl ?_);exact aI ai rfl (by rw[HD h1 hx (fun e=>h3 e.1)];show _=R.aW [qV (an 0),V.one (ab.val (.bool false))];rw[<-kf] <;> rfl)
   .refine aa rfl (eg rfl) (zl 5 rfl (aa rfl (du rfl rfl rfl (r:=(n-1)) (bS (by omega) (by omega) (by omega))) (aa rfl (aS ((n-1).toNat) hx rfl (by omega)) (aa rfl (dW rfl) (aa rfl (bB rfl) (zl 1 rfl ?_))))));by_cases h4:x.up≠up
    .refine aa rfl (oU rfl rfl rfl jH (d:=true) (bne_iff_ne.2 h4)) (zl 11 rfl ?_);exact aI ai rfl (by rw[HD h1 hx (fun e=>h4 e.2)];show _=R.aW [qV (an 0),V.one (ab.val (.bool false))];rw[<-kf] <;> rfl)
    .refine aa rfl (oU rfl rfl rfl jH (d:=false) (by rw[Zj.1 h4];simp)) (zl 11 rfl (aa rfl (du rfl rfl rfl (r:=(n-1)) (bS (by omega) (by omega) (by omega))) (aa rfl (aS ((n-1).toNat) hx rfl (by omega)) (aa rfl (jv rfl) (aa rfl (bo rfl) (aj ko rfl (kd x.v (x.v.q) rfl (Fq.use (x:=x.v) (by omega))) (zl 4 rfl ?_)))))));exact aI ai rfl (by rw[HB h1 hx ⟨Zj.1 h3,Zj.1 h4⟩] <;> rfl)
theorem Ja(q:Qu)(d:Dc){b:Nat}(hd:j7 b q d)(hb:b<=1000000):ar Tryz.prog 214 [n7 q,yD d] (R.one (V.one (ab.val (.bool true)))):=by
 refine aF Tryz.func214 Tryz.ntmps214 rfl (fun w0 A0=>?_);obtain⟨hk,hbt⟩:=hd;haveI:=hbt.br;have hkk:d.kind=1\/d.kind=2\/d.kind=3\/d.kind=4:=by rcases hk with⟨h,_⟩|⟨h,_⟩ <;> omega
 refine zc 18 rfl ?_;by_cases h1:d.kind=1
 .refine aa rfl (bp rfl) (zl 8 rfl ?_);have hp0:d.idx<q.g.us.length/\d.pt=0:=by rcases hk with⟨_,h⟩|⟨h,_⟩ <;> first|exact h|omega
  refine zc 3 rfl (aa rfl (dR rfl) (zl 6 rfl (aa rfl (aw rfl) (aa rfl (aX rfl) (zl 5 rfl (aj B9 rfl (Ax (an (d.pt)) n8) (bT true rfl (by rw[hp0.2,F7];rfl) (zl 4 rfl ?_))))))));exact av ai rfl rfl
 .refine aa rfl (aU rfl) (zl 5 rfl ?_);by_cases h2:d.kind=2
  .refine aa rfl (bp rfl) (zl 5 rfl ?_);have hp0:d.idx<q.g.us.length/\d.pt=0:=by rcases hk with⟨_,h⟩|⟨h,_⟩ <;> first|exact h|omega
   refine zc 3 rfl (aa rfl (dR rfl) (zl 6 rfl (aa rfl (aw rfl) (aa rfl (aX rfl) (zl 5 rfl (aj B9 rfl (Ax (an (d.pt)) n8) (bT true rfl (by rw[hp0.2,F7];rfl) (zl 4 rfl ?_))))))));exact av ai rfl rfl
  .refine aa rfl (aU rfl) (zl 7 rfl ?_);by_cases h3:d.kind=3
   .refine aa rfl (bp rfl) (zl 8 rfl ?_);have hp0:d.idx<q.g.ag:=by rcases hk with⟨h,_⟩|⟨_,h⟩ <;> first|exact h|omega
    refine zc 3 rfl (aa rfl (dR rfl) (zl 6 rfl (aa rfl (aX rfl) (zl 4 rfl (aj p5 rfl (pk (an (d.pt)) (d.pt) (aG _) (Br.use (by omega))) (bT true rfl (kV _) (zl 4 rfl ?_)))))));exact av ai rfl rfl
   .refine aa rfl (aU rfl) (zl 5 rfl (aa rfl (bp rfl) (zl 5 rfl ?_)));have hp0:d.idx<q.g.ag:=by rcases hk with⟨h,_⟩|⟨_,h⟩ <;> first|exact h|omega
    refine zc 3 rfl (aa rfl (dR rfl) (zl 6 rfl (aa rfl (aX rfl) (zl 4 rfl (aj p5 rfl (pk (an (d.pt)) (d.pt) (aG _) (Br.use (by omega))) (bT true rfl (kV _) (zl 4 rfl ?_)))))));exact av ai rfl rfl
theorem JJ(s:Sc){b:Nat}(hq:dt s.q)(hd:∀d∈s.path,j7 b s.q d)(hb:b<=1000000)(hpl:s.path.length<=1000)(k:Nat)(j:Int):ar Tryz.prog 264 [eM s,V.one (ab.val (.int .i64 ((k:Int)))),V.one (ab.val (.int .i64 (j)))] (R.one (V.one (ab.val (.bool (kq s.path k j))))):=by
 refine aF Tryz.func264 Tryz.ntmps264 rfl (fun w0 A0=>?_);refine zc 13 rfl (bH (fun m Γ H=>∃(i:Nat),s.path.length-i=m/\Γ=[(1,some (D.val (.int .i64 (k:Int)))),(2,some (D.val (.int .i64 j))),(3,some (D.ptr 0 0)),(7,some (D.val (.int .i64 (i:Int))))]/\H=[au 85 (fY s)]/\i<=s.path.length/\qe s.path k j i=false) ⟨0,rfl,rfl,rfl,XS _,rfl⟩ rfl ?_);rintro m Γ H ⟨i,rfl,rfl,rfl,hi0,hno⟩;refine zc 6 rfl (aa rfl (aw rfl) ?_);by_cases hi:i<s.path.length
 .refine aa rfl (aX rfl) (zl 8 rfl ?_);obtain⟨x,hx⟩:∃x,s.path[i]?=some x:=⟨_,XM hi⟩;have hxd:=hd x (XR hx);refine aE 0 [] [] (dz 3 rfl (af rfl (aS i hx rfl) (af rfl (dW rfl) (af rfl (bB rfl) (dz 3 rfl ?_)))));refine jQ rfl (fun hk1=>?_) (fun hk1=>?_)
  .refine dz 19 rfl (aB (za 7 rfl (aa rfl (aL (i+1) rfl) (zl 2 rfl ?_))));exact aP ⟨i+1,rfl,rfl,rfl,hi,by rw[yC hx,hno,hk1];rfl⟩ rfl
  .refine dz 3 rfl (af rfl (aS i hx rfl) (af rfl (dW rfl) (af rfl (bB rfl) (dz 4 rfl ?_))));refine jQ rfl (fun hk2=>?_) (fun hk2=>?_)
   .refine dz 9 rfl (aB (za 7 rfl (aa rfl (aL (i+1) rfl) (zl 2 rfl ?_))));exact aP ⟨i+1,rfl,rfl,rfl,hi,by rw[yC hx,hno,hk1,hk2];rfl⟩ rfl
   .refine dz 5 rfl (af rfl (aS i hx rfl) (af rfl (bo rfl) (ax IX rfl (Ja s.q x (by assumption) (by omega)) (dz 1 rfl (aB (za 7 rfl ?_))))));exact av ai rfl (by rw[JL hx hk1 hk2])
 .refine aa rfl (aO rfl) (zl 13 rfl ?_);exact av ai rfl (by rw[<-JM,<-show i=s.path.length by omega,hno])
set_option maxHeartbeats 2000000 in
theorem Mm(s:Sc){B:Nat}(hB:∀m∈s.aq,Fq m.v B)(hB2:B<=1000000000)(hl:s.aq.length<=1000000){b:Nat}(hq:dt s.q)(hd:∀d∈s.path,j7 b s.q d)(hb:b<=1000000)(hpl:s.path.length<=1000)(r:Rw):ar Tryz.prog 212 [eM s,mL r] (R.aW [bL (kz s r).1,V.one (ab.val (.bool (kz s r).2))]):=by
 refine aF Tryz.func212 Tryz.ntmps212 rfl (fun w0 A0=>?_);have hg:=hq.g;have hr:=hq.r;have hlo:=hr.lo;have hhi:=hr.hi;have h1:=hg.i1;have h2:=hg.i3;have h3:=hg.u4;have h4:=hg.o1;have h5:=hg.o3;refine zc 19 rfl ?_;refine bF [so 2 (D.ptr 0 0),so 3 (D.ptr 1 0),so 4 (D.ptr 2 0),so 6 (D.ptr 3 0)] [au 85 (fY s),au 105 [ab.val (.int .i64 r.kind),ab.val (.int .i64 r.idx),ab.val (.int .i64 r.lo),ab.val (.int .i64 r.hi)],au 37 [El.row bE ([]),ab.val (.bool false),ae ([]),ae ([])],au 27 [ab.val (.int .i64 ((s.q.g.ag:Nat):Int)),El.row bC s.q.g.us,El.row bC s.q.g.os]] rfl rfl ?_;refine zc 3 rfl ?_;by_cases h1:r.idx<0
 .refine aa rfl (aX rfl) (zl 12 rfl (bQ [0,1,3] [so 4 _] [none,none,_,none] rfl rfl rfl (zc 6 rfl ?_)));exact aI ai rfl (by unfold kz;rw[if_pos h1];exact cM _ _ rfl)
 .refine aa rfl (aO rfl) (zl 5 rfl (aa rfl (aw rfl) ?_));by_cases h2:(s.q.g.us.length:Int)<=r.idx
  .refine aa rfl (dR rfl) (zl 5 rfl (bQ [0,1,3] [so 4 _] [none,none,_,none] rfl rfl rfl (zc 6 rfl ?_)));exact aI ai rfl (by unfold kz;rw[if_neg h1,Yi (by omega)];exact cM _ _ rfl)
  .refine aa rfl (dY rfl) (zl 7 rfl ?_);obtain⟨p,hp0⟩:∃p,s.q.g.us[r.idx.toNat]?=some p:=⟨_,XM (by omega)⟩;have hp:FL 4 (s.q.g.ag+s.q.g.us.length) p:=(hq.g.us _ p hp0).fl.mono (by omega) (by omega);have hv:FL 2 (s.q.g.ag+s.q.g.us.length) (fV (s.q.g.ag+r.idx.toNat)):=FL.v (by omega);haveI hlq:Br (cG s r) B:=xO hB;haveI htq:Br (cA s r) B:=xO hB;have hnl:FL B (s.q.g.ag+s.q.g.us.length) (fN (cG s r)):=FL.n hlq;have hnt:FL B (s.q.g.ag+s.q.g.us.length) (fN (cA s r)):=FL.n htq;have g3:=hp.sub hnl;have g5:=FL.sc (c:=cA s r) g3;have g6:=FL.sc (c:=cA s r-cG s r) hv;haveI:=hp.fm (by omega);haveI:=hp.cb;haveI:=hv.fm (by omega);haveI:=hv.cb;haveI:=hnl.fm (by omega);haveI:=hnl.cb;haveI:=hnt.fm (by omega);haveI:=hnt.cb;haveI:=g3.fm (by omega);haveI:=g3.cb;haveI:=g5.fm (by omega);haveI:=g5.cb;haveI:=g6.fm (by omega);haveI:=g6.cb;refine aE 2 [(12,4),(13,5),(14,4),(15,5)] [4,5] (dz 4 rfl (af rfl (aL (s.q.g.ag+r.idx.toNat) rfl) (ax vc rfl (tN (s.q.g.ag+r.idx.toNat) (by omega)) (dz 4 rfl (af rfl (aS r.idx.toNat hp0 rfl (by omega)) (af rfl (bo rfl) (dz 4 rfl (aB (za 2 rfl ?_)))))))));refine bQ [3] [so 2 _,so 3 _,so 4 _,so 7 (D.ptr 4 0),so 8 (D.ptr 5 0)] [_,_,_,none,au 37 (b7 (fV (s.q.g.ag+r.idx.toNat))),au 37 (b7 p)] rfl rfl rfl (zc 6 rfl (aj IM rfl (Hz s hB (by omega) hl r.lo r.idx false) (zl 9 rfl ?_)));refine bF [so 2 _,so 3 _,so 4 _,so 7 _,so 8 _,so 9 (D.ptr 6 0),so 10 (D.bool (oq s r))] [_,_,_,none,_,_,au 35 (qL (cG s r))] rfl rfl (zc 6 rfl (aj IM rfl (Hz s hB (by omega) hl r.hi r.idx true) (zl 9 rfl ?_)));refine bF [so 2 _,so 3 _,so 4 _,so 7 _,so 8 _,so 9 _,so 10 _,so 11 (D.ptr 7 0),so 12 (D.bool (mv s r))] [_,_,_,none,_,_,_,au 35 (qL (cA s r))] rfl rfl (zc 1 rfl (aj oG rfl (mP (-1) (by decide) (by decide)) (zl 4 rfl ?_)));refine uu [so 2 (D.ptr 0 0),so 3 (D.ptr 1 0),so 4 (D.ptr 2 0),so 7 (D.ptr 4 0),so 8 (D.ptr 5 0),so 9 (D.ptr 6 0),so 10 (D.bool (oq s r)),so 11 (D.ptr 7 0),so 12 (D.bool (mv s r)),so 13 (D.ptr 8 0),so 14 (D.bool (gE s r))] [au 85 (fY s),au 105 [ab.val (.int .i64 r.kind),ab.val (.int .i64 r.idx),ab.val (.int .i64 r.lo),ab.val (.int .i64 r.hi)],au 37 [El.row bE ([]),ab.val (.bool false),ae ([]),ae ([])],none,au 37 (b7 (fV (s.q.g.ag+r.idx.toNat))),au 37 (b7 p),au 35 (qL (cG s r)),au 35 (qL (cA s r)),au 35 (qL (((-1):Int):Rat))] ?_ ?_
   .refine zc 5 rfl ?_;refine db rfl (fun hb68=>?_) (fun hb68=>?_)
    .refine zl 18 rfl (bT (gE s r) rfl (by simp[gE, *]) (zl 2 rfl ?_));exact eD rfl
    .refine zl 4 rfl ?_;refine db rfl (fun hb72=>?_) (fun hb72=>?_)
     .refine zl 8 rfl ?_;refine db rfl (fun hb80=>?_) (fun hb80=>?_)
      .refine zl 6 rfl (bT (gE s r) rfl (by simp[gE, *]) (zl 2 rfl ?_));exact eD rfl
      .refine zl 1 rfl (aj gy rfl (gm (an ((cG s r))) ((cG s r)) (aG _) (Br.use (by omega))) (zl 4 rfl (bT (gE s r) rfl (by simp[gE, *]) (zl 2 rfl ?_))));exact eD rfl
     .refine zl 3 rfl (aj IL rfl (JJ s hq hd (by omega) hpl 1 r.idx) (zl 2 rfl ?_));refine db rfl (fun hb78=>?_) (fun hb78=>?_)
      .refine zl 2 rfl ?_;refine db rfl (fun hb80=>?_) (fun hb80=>?_)
       .refine zl 6 rfl (bT (gE s r) rfl (by simp[gE, *]) (zl 2 rfl ?_));exact eD rfl
       .refine zl 1 rfl (aj gy rfl (gm (an ((cG s r))) ((cG s r)) (aG _) (Br.use (by omega))) (zl 4 rfl (bT (gE s r) rfl (by simp[gE, *]) (zl 2 rfl ?_))));exact eD rfl
      .refine zl 8 rfl (bT (gE s r) rfl (by simp[gE, *]) (zl 2 rfl ?_));exact eD rfl
   .refine uu [so 3 (D.ptr 1 0),so 4 (D.ptr 2 0),so 7 (D.ptr 4 0),so 8 (D.ptr 5 0),so 9 (D.ptr 6 0),so 10 (D.bool (oq s r)),so 11 (D.ptr 7 0),so 12 (D.bool (mv s r)),so 13 (D.ptr 8 0),so 14 (D.bool (gE s r)),so 15 (D.bool (gG s r))] [au 85 (fY s),au 105 [ab.val (.int .i64 r.kind),ab.val (.int .i64 r.idx),ab.val (.int .i64 r.lo),ab.val (.int .i64 r.hi)],au 37 [El.row bE ([]),ab.val (.bool false),ae ([]),ae ([])],none,au 37 (b7 (fV (s.q.g.ag+r.idx.toNat))),au 37 (b7 p),au 35 (qL (cG s r)),au 35 (qL (cA s r)),au 35 (qL (((-1):Int):Rat))] ?_ ?_
    .refine zc 5 rfl ?_;refine db rfl (fun hb90=>?_) (fun hb90=>?_)
     .refine zl 18 rfl (bT (gG s r) rfl (by simp[gG, *]) (zl 2 rfl ?_));exact eD rfl
     .refine zl 4 rfl ?_;refine db rfl (fun hb94=>?_) (fun hb94=>?_)
      .refine zl 8 rfl ?_;refine db rfl (fun hb102=>?_) (fun hb102=>?_)
       .refine zl 6 rfl (bT (gG s r) rfl (by simp[gG, *]) (zl 2 rfl ?_));exact eD rfl
       .refine zl 1 rfl (aj gy rfl (gm (an ((cA s r))) ((cA s r)) (aG _) (Br.use (by omega))) (zl 4 rfl (bT (gG s r) rfl (by simp[gG, *]) (zl 2 rfl ?_))));exact eD rfl
      .refine zl 3 rfl (aj IL rfl (JJ s hq hd (by omega) hpl 2 r.idx) (zl 2 rfl ?_));refine db rfl (fun hb100=>?_) (fun hb100=>?_)
       .refine zl 2 rfl ?_;refine db rfl (fun hb102=>?_) (fun hb102=>?_)
        .refine zl 6 rfl (bT (gG s r) rfl (by simp[gG, *]) (zl 2 rfl ?_));exact eD rfl
        .refine zl 1 rfl (aj gy rfl (gm (an ((cA s r))) ((cA s r)) (aG _) (Br.use (by omega))) (zl 4 rfl (bT (gG s r) rfl (by simp[gG, *]) (zl 2 rfl ?_))));exact eD rfl
       .refine zl 8 rfl (bT (gG s r) rfl (by simp[gG, *]) (zl 2 rfl ?_));exact eD rfl
    .refine zc 18 rfl ?_;by_cases hk5:r.kind=5
     .refine aa rfl (bp rfl) (zl 4 rfl (bQ [0,5,6,7,8] [so 3 _,so 4 _,so 7 _,so 16 (D.ptr 9 0)] [none,_,_,none,_,none,none,none,none,au 37 [El.row bE ([]),ab.val (.bool false),ae ([]),ae ([])]] rfl rfl rfl (aE 0 [(9,9)] [9] (dz 5 rfl ?_))));refine jQ rfl (fun hb118=>?_) (fun hb118=>?_)
      .refine dz 6 rfl (aB (za 4 rfl (bQ [1,4] [so 4 _,so 16 _,so 17 (D.bool false)] [none,none,_,none,none,none,none,none,none,au 37 (b7 (fV (s.q.g.ag+r.idx.toNat)))] rfl rfl rfl (zc 13 rfl ?_))));exact aI ai rfl (by rw[gX h1 hp0 (by unfold cB;rw[if_pos hk5];(try simp at hc212);simp[*])];exact cM _ _ rfl)
      .refine dz 6 rfl (aB (za 4 rfl (bQ [1,4] [so 4 _,so 16 _,so 17 (D.bool (r.hi == 0))] [none,none,_,none,none,none,none,none,none,au 37 (b7 (fV (s.q.g.ag+r.idx.toNat)))] rfl rfl rfl (zc 5 rfl ?_))));refine cV rfl (fun hc212=>?_) (fun hc212=>?_)
       .refine zc 7 rfl ?_;exact aI ai rfl (by rw[gX h1 hp0 (by unfold cB;rw[if_pos hk5];(try simp at hc212);simp[*])];exact cM _ _ rfl)
       .refine zc 9 rfl ?_;exact aI ai rfl (by rw[lF h1 hp0 (show cB s r p=((fV (s.q.g.ag+r.idx.toNat)),true) from by unfold cB;rw[if_pos hk5];(try simp at hc212);simp[*])] <;> rfl)
     .refine aa rfl (aU rfl) (zl 5 rfl ?_);refine bQ [0] [so 3 _,so 4 _,so 7 _,so 8 _,so 9 _,so 10 _,so 11 _,so 12 _,so 13 (D.ptr 8 0),so 14 (D.bool (gE s r)),so 15 (D.bool (gG s r)),so 16 (D.ptr 9 0),so 17 (D.bool false),so 111 (D.val (.int .i64 r.kind))] [none,_,_,none,_,_,_,_,au 35 (qL (((-1):Int):Rat)),au 37 [El.row bE ([]),ab.val (.bool false),ae ([]),ae ([])]] rfl rfl rfl ?_;refine zc 1 rfl ?_;by_cases hk6:r.kind=6
      .refine aa rfl (bp rfl) (zl 4 rfl (aE 0 [(11,9)] [9] (dz 2 rfl (ax lV rfl (lJ (fV (s.q.g.ag+r.idx.toNat)) p (by omega) (by omega) (by omega)) (dz 4 rfl ?_)))));refine jQ rfl (fun hb131=>?_) (fun hb131=>?_)
       .refine dz 6 rfl (aB (za 4 rfl (bQ [1,4,5,6,7,8] [so 4 _,so 16 _,so 17 _] [none,none,_,none,none,none,none,none,none,au 37 (b7 (bA (fV (s.q.g.ag+r.idx.toNat)) p))] rfl rfl rfl (zc 13 rfl ?_))));exact aI ai rfl (by rw[gX h1 hp0 (by unfold cB;rw[if_neg hk5,if_pos hk6];(try simp at hc212);simp[*])];exact cM _ _ rfl)
       .refine dz 6 rfl (aB (za 4 rfl (bQ [1,4,5,6,7,8] [so 4 _,so 16 _,so 17 (D.bool (r.hi == 0))] [none,none,_,none,none,none,none,none,none,au 37 (b7 (bA (fV (s.q.g.ag+r.idx.toNat)) p))] rfl rfl rfl (zc 5 rfl ?_))));refine cV rfl (fun hc212=>?_) (fun hc212=>?_)
        .refine zc 7 rfl ?_;exact aI ai rfl (by rw[gX h1 hp0 (by unfold cB;rw[if_neg hk5,if_pos hk6];(try simp at hc212);simp[*])];exact cM _ _ rfl)
        .refine zc 9 rfl ?_;exact aI ai rfl (by rw[lF h1 hp0 (show cB s r p=(bA (fV (s.q.g.ag+r.idx.toNat)) p,true) from by unfold cB;rw[if_neg hk5,if_pos hk6];(try simp at hc212);simp[*])] <;> rfl)
      .refine aa rfl (aU rfl) (zl 5 rfl (bF [so 3 _,so 4 _,so 7 _,so 8 _,so 9 _,so 10 _,so 11 _,so 12 _,so 13 _,so 14 _,so 15 _,so 16 _,so 17 _,so 111 _] [none,_,_,none,_,_,_,_,_,_] rfl rfl (zc 1 rfl ?_)));by_cases hk7:r.kind=7
       .refine aa rfl (bp rfl) (zl 19 rfl ?_);refine cV rfl (fun hc212=>?_) (fun hc212=>?_)
        .refine zc 1 rfl (bQ [1,4,5,6,7,8,9] [so 4 _] [none,none,_,none,none,none,none,none,none,none] rfl rfl rfl (zc 6 rfl ?_));exact aI ai rfl (by rw[gX h1 hp0 (by unfold cB;rw[if_neg hk5,if_neg hk6,if_pos hk7];(try simp at hc212);simp[*])];exact cM _ _ rfl)
        .refine zc 9 rfl ?_;exact aI ai rfl (by rw[lF h1 hp0 (show cB s r p=(p,true) from by unfold cB;rw[if_neg hk5,if_neg hk6,if_pos hk7];(try simp at hc212);simp[*])] <;> rfl)
       .refine aa rfl (aU rfl) (zl 5 rfl (bF [so 3 _,so 4 _,so 7 _,so 8 _,so 9 _,so 10 _,so 11 _,so 12 _,so 13 _,so 14 _,so 15 _,so 16 _,so 17 _,so 111 _] [none,_,_,none,_,_,_,_,_,_] rfl rfl (zc 1 rfl ?_)));by_cases hk8:r.kind=8
        .refine aa rfl (bp rfl) (zl 7 rfl (aj lV rfl (lJ p (fV (s.q.g.ag+r.idx.toNat)) (by omega) (by omega) (by omega)) (zl 8 rfl (bQ [1,4,5,6,7,8] [so 4 _,so 16 _,so 17 (D.bool (gE s r))] [none,none,_,none,none,none,none,none,none,au 37 (b7 (bA p (fV (s.q.g.ag+r.idx.toNat))))] rfl rfl rfl (zc 5 rfl ?_)))));refine cV rfl (fun hc212=>?_) (fun hc212=>?_)
         .refine zc 7 rfl ?_;exact aI ai rfl (by rw[gX h1 hp0 (by unfold cB;rw[if_neg hk5,if_neg hk6,if_neg hk7,if_pos hk8];(try simp at hc212);simp[*])];exact cM _ _ rfl)
         .refine zc 9 rfl ?_;exact aI ai rfl (by rw[lF h1 hp0 (show cB s r p=(bA p (fV (s.q.g.ag+r.idx.toNat)),true) from by unfold cB;rw[if_neg hk5,if_neg hk6,if_neg hk7,if_pos hk8];(try simp at hc212);simp[*])] <;> rfl)
        .refine aa rfl (aU rfl) (zl 5 rfl (bF [so 3 _,so 4 _,so 7 _,so 8 _,so 9 _,so 10 _,so 11 _,so 12 _,so 13 _,so 15 _,so 16 _,so 17 _,so 111 _] [none,_,_,none,_,_,_,_,_,_] rfl rfl (zc 1 rfl ?_)));by_cases hk9:r.kind=9
         .refine aa rfl (bp rfl) (zl 7 rfl (aj nj rfl (mM p (((-1):Int):Rat) (by omega) (by omega)) (zl 8 rfl (bQ [1,4,5,6,7,8] [so 4 _,so 16 _,so 17 (D.bool (gG s r))] [none,none,_,none,none,none,none,none,none,au 37 (b7 (bN p (((-1):Int):Rat)))] rfl rfl rfl (zc 5 rfl ?_)))));refine cV rfl (fun hc212=>?_) (fun hc212=>?_)
          .refine zc 7 rfl ?_;exact aI ai rfl (by rw[gX h1 hp0 (by unfold cB;rw[if_neg hk5,if_neg hk6,if_neg hk7,if_neg hk8,if_pos hk9];(try simp at hc212);simp[*])];exact cM _ _ rfl)
          .refine zc 9 rfl ?_;exact aI ai rfl (by rw[lF h1 hp0 (show cB s r p=(bN p ((-1:Int):Rat),true) from by unfold cB;rw[if_neg hk5,if_neg hk6,if_neg hk7,if_neg hk8,if_pos hk9];(try simp at hc212);simp[*])] <;> rfl)
         .refine aa rfl (aU rfl) (zl 5 rfl (bF [so 3 _,so 4 _,so 7 _,so 8 _,so 9 _,so 10 _,so 11 _,so 12 _,so 13 _,so 15 _,so 16 _,so 17 _,so 111 _] [none,_,_,none,_,_,_,_,_,_] rfl rfl (zc 1 rfl ?_)));by_cases hk10:r.kind=10
          .refine aa rfl (bp rfl) (zl 7 rfl (aj nj rfl (mM (fV (s.q.g.ag+r.idx.toNat)) (((-1):Int):Rat) (by omega) (by omega)) (zl 8 rfl (bQ [1,4,5,6,7,8] [so 4 _,so 16 _,so 17 (D.bool (gG s r))] [none,none,_,none,none,none,none,none,none,au 37 (b7 (bN (fV (s.q.g.ag+r.idx.toNat)) (((-1):Int):Rat)))] rfl rfl rfl (zc 5 rfl ?_)))));refine cV rfl (fun hc212=>?_) (fun hc212=>?_)
           .refine zc 7 rfl ?_;exact aI ai rfl (by rw[gX h1 hp0 (by unfold cB;rw[if_neg hk5,if_neg hk6,if_neg hk7,if_neg hk8,if_neg hk9,if_pos hk10];(try simp at hc212);simp[*])];exact cM _ _ rfl)
           .refine zc 9 rfl ?_;exact aI ai rfl (by rw[lF h1 hp0 (show cB s r p=(bN (fV (s.q.g.ag+r.idx.toNat)) ((-1:Int):Rat),true) from by unfold cB;rw[if_neg hk5,if_neg hk6,if_neg hk7,if_neg hk8,if_neg hk9,if_pos hk10];(try simp at hc212);simp[*])] <;> rfl)
          .refine aa rfl (aU rfl) (zl 5 rfl (bQ [8] [so 3 _,so 4 _,so 7 _,so 8 _,so 9 _,so 10 _,so 11 _,so 12 _,so 16 _,so 17 _,so 111 _] [none,_,_,none,_,_,_,_,none,_] rfl rfl rfl (zc 1 rfl ?_)));by_cases hk11:r.kind=11
           .refine aa rfl (bp rfl) (zl 4 rfl (aE 0 [(10,9)] [9] (dz 2 rfl (ax sC rfl (rj (cG s r)) (ax lV rfl (lJ p (fN (cG s r)) (by omega) (by omega) (by omega)) (dz 2 rfl ?_))))));refine jQ rfl (fun hb165=>?_) (fun hb165=>?_)
            .refine dz 6 rfl (aB (za 4 rfl (bQ [1,4,5,6,7] [so 4 _,so 16 _,so 17 _] [none,none,_,none,none,none,none,none,none,au 37 (b7 (bA p (fN (cG s r))))] rfl rfl rfl (zc 13 rfl ?_))));exact aI ai rfl (by rw[gX h1 hp0 (by unfold cB;rw[if_neg hk5,if_neg hk6,if_neg hk7,if_neg hk8,if_neg hk9,if_neg hk10,if_pos hk11];(try simp at hc212);simp[*])];exact cM _ _ rfl)
            .refine dz 6 rfl (aB (za 4 rfl (bQ [1,4,5,6,7] [so 4 _,so 16 _,so 17 (D.bool (r.hi == 0))] [none,none,_,none,none,none,none,none,none,au 37 (b7 (bA p (fN (cG s r))))] rfl rfl rfl (zc 5 rfl ?_))));refine cV rfl (fun hc212=>?_) (fun hc212=>?_)
             .refine zc 7 rfl ?_;exact aI ai rfl (by rw[gX h1 hp0 (by unfold cB;rw[if_neg hk5,if_neg hk6,if_neg hk7,if_neg hk8,if_neg hk9,if_neg hk10,if_pos hk11];(try simp at hc212);simp[*])];exact cM _ _ rfl)
             .refine zc 9 rfl ?_;exact aI ai rfl (by rw[lF h1 hp0 (show cB s r p=(bA p (fN (cG s r)),true) from by unfold cB;rw[if_neg hk5,if_neg hk6,if_neg hk7,if_neg hk8,if_neg hk9,if_neg hk10,if_pos hk11];(try simp at hc212);simp[*])] <;> rfl)
           .refine aa rfl (aU rfl) (zl 5 rfl (bF [so 3 _,so 4 _,so 7 _,so 8 _,so 9 _,so 10 _,so 11 _,so 12 _,so 16 _,so 17 _,so 111 _] [none,_,_,none,_,_,_,_,none,_] rfl rfl (zc 1 rfl ?_)));by_cases hk12:r.kind=12
            .refine aa rfl (bp rfl) (zl 4 rfl (aE 0 [(10,9)] [9] (dz 1 rfl (ax sC rfl (rj (cA s r)) (dz 1 rfl (ax lV rfl (lJ (fN (cA s r)) p (by omega) (by omega) (by omega)) (dz 2 rfl ?_)))))));refine jQ rfl (fun hb177=>?_) (fun hb177=>?_)
             .refine dz 6 rfl (aB (za 4 rfl (bQ [1,4,5,6,7] [so 4 _,so 16 _,so 17 _] [none,none,_,none,none,none,none,none,none,au 37 (b7 (bA (fN (cA s r)) p))] rfl rfl rfl (zc 13 rfl ?_))));exact aI ai rfl (by rw[gX h1 hp0 (by unfold cB;rw[if_neg hk5,if_neg hk6,if_neg hk7,if_neg hk8,if_neg hk9,if_neg hk10,if_neg hk11,if_pos hk12];(try simp at hc212);simp[*])];exact cM _ _ rfl)
             .refine dz 6 rfl (aB (za 4 rfl (bQ [1,4,5,6,7] [so 4 _,so 16 _,so 17 (D.bool (r.lo == 0))] [none,none,_,none,none,none,none,none,none,au 37 (b7 (bA (fN (cA s r)) p))] rfl rfl rfl (zc 5 rfl ?_))));refine cV rfl (fun hc212=>?_) (fun hc212=>?_)
              .refine zc 7 rfl ?_;exact aI ai rfl (by rw[gX h1 hp0 (by unfold cB;rw[if_neg hk5,if_neg hk6,if_neg hk7,if_neg hk8,if_neg hk9,if_neg hk10,if_neg hk11,if_pos hk12];(try simp at hc212);simp[*])];exact cM _ _ rfl)
              .refine zc 9 rfl ?_;exact aI ai rfl (by rw[lF h1 hp0 (show cB s r p=(bA (fN (cA s r)) p,true) from by unfold cB;rw[if_neg hk5,if_neg hk6,if_neg hk7,if_neg hk8,if_neg hk9,if_neg hk10,if_neg hk11,if_pos hk12];(try simp at hc212);simp[*])] <;> rfl)
            .refine aa rfl (aU rfl) (zl 5 rfl (bQ [1] [so 4 _,so 7 _,so 8 _,so 9 _,so 10 _,so 11 _,so 12 _,so 16 _,so 17 _,so 111 _] [none,none,_,none,_,_,_,_,none,_] rfl rfl rfl (zc 1 rfl ?_)));by_cases hk13:r.kind=13
             .refine aa rfl (bp rfl) (zl 5 rfl (aE 1 [(6,10),(7,10)] [10] (dz 2 rfl (ax sC rfl (rj (cG s r)) (ax lV rfl (lJ p (fN (cG s r)) (by omega) (by omega) (by omega)) (dz 1 rfl (ax nj rfl (mM (bA p (fN (cG s r))) (cA s r) (by omega) (by omega)) (dz 2 rfl (aB ?_)))))))));refine za 1 rfl (bQ [5] [so 4 _,so 7 _,so 9 _,so 10 _,so 11 _,so 12 _,so 16 _,so 18 (D.ptr 10 0)] [none,none,_,none,_,none,_,_,none,_,au 37 (b7 (bN (bA p (fN (cG s r))) (cA s r)))] rfl rfl rfl (aE 0 [(21,9)] [9] (dz 4 rfl ?_)));refine ax pY rfl (pn (an ((cA s r))) ((cA s r)) (aG _) (Br.use (by omega)) (an ((cG s r))) ((cG s r)) (aG _) (Br.use (by omega))) (ax nj rfl (mM (fV (s.q.g.ag+r.idx.toNat)) (((cA s r))-((cG s r))) (by omega) (by omega)) ?_);refine ax lV rfl (lJ (bN (bA p (fN (cG s r))) (cA s r)) (bN (fV (s.q.g.ag+r.idx.toNat)) (((cA s r))-((cG s r)))) (by omega) (by omega) (by omega)) (dz 2 rfl ?_);refine jQ rfl (fun hb198=>?_) (fun hb198=>?_)
              .refine dz 14 rfl (aB (za 4 rfl (bQ [4,6,7,10] [so 4 _,so 16 _,so 17 (D.bool false)] [none,none,_,none,none,none,none,none,none,au 37 (b7 (bA (bN (bA p (fN (cG s r))) (cA s r)) (bN (fV (s.q.g.ag+r.idx.toNat)) (((cA s r))-((cG s r)))))),none] rfl rfl rfl (zc 13 rfl ?_))));exact aI ai rfl (by rw[gX h1 hp0 (by unfold cB;rw[if_neg hk5,if_neg hk6,if_neg hk7,if_neg hk8,if_neg hk9,if_neg hk10,if_neg hk11,if_neg hk12,if_pos hk13];(try simp at hc212);simp[*])];exact cM _ _ rfl)
              .refine dz 3 rfl ?_;refine jQ rfl (fun hb201=>?_) (fun hb201=>?_)
               .refine dz 11 rfl (aB (za 4 rfl (bQ [4,6,7,10] [so 4 _,so 16 _,so 17 (D.bool false)] [none,none,_,none,none,none,none,none,none,au 37 (b7 (bA (bN (bA p (fN (cG s r))) (cA s r)) (bN (fV (s.q.g.ag+r.idx.toNat)) (((cA s r))-((cG s r)))))),none] rfl rfl rfl (zc 13 rfl ?_))));exact aI ai rfl (by rw[gX h1 hp0 (by unfold cB;rw[if_neg hk5,if_neg hk6,if_neg hk7,if_neg hk8,if_neg hk9,if_neg hk10,if_neg hk11,if_neg hk12,if_pos hk13];(try simp at hc212);simp[*])];exact cM _ _ rfl)
               .refine dz 1 rfl (ax gy rfl (gm (an ((cG s r))) ((cG s r)) (aG _) (Br.use (by omega))) (dz 3 rfl ?_));refine jQ rfl (fun hb206=>?_) (fun hb206=>?_)
                .refine dz 6 rfl (aB (za 4 rfl (bQ [4,6,7,10] [so 4 _,so 16 _,so 17 (D.bool false)] [none,none,_,none,none,none,none,none,none,au 37 (b7 (bA (bN (bA p (fN (cG s r))) (cA s r)) (bN (fV (s.q.g.ag+r.idx.toNat)) (((cA s r))-((cG s r)))))),none] rfl rfl rfl (zc 13 rfl ?_))));exact aI ai rfl (by rw[gX h1 hp0 (by unfold cB;rw[if_neg hk5,if_neg hk6,if_neg hk7,if_neg hk8,if_neg hk9,if_neg hk10,if_neg hk11,if_neg hk12,if_pos hk13];(try simp at hc212);simp[*])];exact cM _ _ rfl)
                .refine dz 1 rfl (ax gy rfl (gm (an ((cA s r))) ((cA s r)) (aG _) (Br.use (by omega))) (dz 4 rfl (aB (za 4 rfl ?_))));refine bQ [4,6,7,10] [so 4 _,so 16 _,so 17 (D.bool (decide (0<(sg ((cA s r))))))] [none,none,_,none,none,none,none,none,none,au 37 (b7 (bA (bN (bA p (fN (cG s r))) (cA s r)) (bN (fV (s.q.g.ag+r.idx.toNat)) (((cA s r))-((cG s r)))))),none] rfl rfl rfl (zc 5 rfl ?_);refine cV rfl (fun hc212=>?_) (fun hc212=>?_)
                 .refine zc 7 rfl ?_;exact aI ai rfl (by rw[gX h1 hp0 (by unfold cB;rw[if_neg hk5,if_neg hk6,if_neg hk7,if_neg hk8,if_neg hk9,if_neg hk10,if_neg hk11,if_neg hk12,if_pos hk13];(try simp at hc212);simp[*])];exact cM _ _ rfl)
                 .refine zc 9 rfl ?_;exact aI ai rfl (by rw[lF h1 hp0 (show cB s r p=(bA (bN (bA p (fN (cG s r))) (cA s r)) (bN (fV (s.q.g.ag+r.idx.toNat)) (cA s r-cG s r)),true) from by unfold cB;rw[if_neg hk5,if_neg hk6,if_neg hk7,if_neg hk8,if_neg hk9,if_neg hk10,if_neg hk11,if_neg hk12,if_pos hk13];(try simp at hc212);simp[*])] <;> rfl)
             .refine aa rfl (aU rfl) (zl 9 rfl (bQ [4,5,6,7] [so 4 _,so 16 _,so 17 _] [none,none,_,none,none,none,none,none,none,_] rfl rfl rfl (zc 13 rfl ?_)));exact aI ai rfl (by rw[gX h1 hp0 (by unfold cB;rw[if_neg hk5,if_neg hk6,if_neg hk7,if_neg hk8,if_neg hk9,if_neg hk10,if_neg hk11,if_neg hk12,if_neg hk13])];exact cM _ _ rfl)
set_option maxHeartbeats 2000000 in
theorem S8(s:Sc){B:Nat}(hB:∀m∈s.aq,Fq m.v B)(hB2:B<=1000000000)(hl:s.aq.length<=1000000){b:Nat}(hq:dt s.q)(hd:∀d∈s.path,j7 b s.q d)(hb:b<=1000000)(hpl:s.path.length<=1000)(r:Rw):ar Tryz.prog 154 [eM s,mL r] (R.aW [bL (bK s r).1,V.one (ab.val (.bool (bK s r).2))]):=by
 refine aF Tryz.func154 Tryz.ntmps154 rfl (fun w0 A0=>?_);have hg:=hq.g;have hr:=hq.r;have hlo:=hr.lo;have hhi:=hr.hi;have h1:=hg.i1;have h2:=hg.i3;have h3:=hg.u4;have h4:=hg.o1;have h5:=hg.o3;refine zc 13 rfl (aj TO rfl (OZ s.q hq) (zl 11 rfl ?_));by_cases h5:5<=r.kind
 .refine aa rfl (dR rfl) (zl 7 rfl (aj TN rfl (Mm s hB (by omega) (by omega) hq hd (by omega) (by omega) r) (zl 6 rfl ?_)));exact aI ai rfl (by unfold bK;rw[if_pos h5] <;> rfl)
 .refine aa rfl (dY rfl) (zl 10 rfl ?_);by_cases ha:r.lo≠0
  .refine aa rfl (fG rfl) (zl 14 rfl ?_);have h0:r.lo≠0\/r.hi≠0\/r.idx<0:=.inl ha;refine zc 6 rfl ?_;exact aI ai rfl (by unfold bK;rw[if_neg h5,if_pos h0];exact cM _ _ rfl)
  .refine aa rfl (eg rfl) (zl 3 rfl ?_);by_cases au:r.hi≠0
   .refine aa rfl (fG rfl) (zl 10 rfl ?_);have h0:r.lo≠0\/r.hi≠0\/r.idx<0:=.inr (.inl au);refine zc 6 rfl ?_;exact aI ai rfl (by unfold bK;rw[if_neg h5,if_pos h0];exact cM _ _ rfl)
   .refine aa rfl (eg rfl) (zl 4 rfl ?_);by_cases hc_:r.idx<0
    .refine aa rfl (aX rfl) (zl 5 rfl ?_);have h0:r.lo≠0\/r.hi≠0\/r.idx<0:=.inr (.inr hc_);refine zc 6 rfl ?_;exact aI ai rfl (by unfold bK;rw[if_neg h5,if_pos h0];exact cM _ _ rfl)
    .refine aa rfl (aO rfl) (zl 7 rfl ?_);have h0:¬(r.lo≠0\/r.hi≠0\/r.idx<0):=by omega
     refine zc 18 rfl ?_;by_cases hk1:r.kind=1
     .refine aa rfl (bp rfl) (zl 10 rfl (aa rfl (aw rfl) ?_));by_cases hin:r.idx.toNat<s.q.r.lo.length
      .refine aa rfl (aX rfl) (zl 4 rfl ?_);obtain⟨c,hc⟩:∃c,s.q.r.lo[r.idx.toNat]?=some c:=⟨_,XM (by omega)⟩;obtain⟨c2,hc2⟩:∃c,s.q.r.hi[r.idx.toNat]?=some c:=⟨_,XM (by omega)⟩;have hcb:=hr.bd _ _ _ hc hc2;have hv:FL 2 (s.q.g.ag+s.q.g.us.length) (fV r.idx.toNat):=FL.v (by omega);have hn:FL 8 (s.q.g.ag+s.q.g.us.length) (fN c):=FL.n (hcb.1.br.mono (by omega));haveI:=hv.fm (by omega);haveI:=hv.cb;haveI:=hn.fm (by omega);haveI:=hn.cb;refine aE 0 [(11,2)] [2] (dz 2 rfl (eU (D.val (.int .i64 ((r.idx.toNat:Nat):Int))) rfl (by rw[zac (by omega)]) (ax vc rfl (tN r.idx.toNat (by omega)) (dz 4 rfl (af rfl (aS r.idx.toNat hc rfl (by omega)) (af rfl (bo rfl) (ax sC rfl (rj c) (ax lV rfl (lJ (fV r.idx.toNat) (fN c) (by omega) (by omega) (by omega)) (dz 2 rfl ?_)))))))));refine aB (za 1 rfl ?_);exact aI ai rfl (by unfold bK;rw[if_neg h5,if_neg h0,if_pos hk1,hc] <;> rfl)
      .refine aa rfl (aO rfl) (zl 13 rfl ?_);exact aI ai rfl (by unfold bK;rw[if_neg h5,if_neg h0,if_pos hk1,Yi (by omega)];exact cM _ _ rfl)
     .refine aa rfl (aU rfl) (zl 6 rfl ?_);by_cases hk2:r.kind=2
      .refine aa rfl (bp rfl) (zl 10 rfl (aa rfl (aw rfl) ?_));by_cases hin:r.idx.toNat<s.q.r.hi.length
       .refine aa rfl (aX rfl) (zl 4 rfl ?_);obtain⟨c,hc⟩:∃c,s.q.r.hi[r.idx.toNat]?=some c:=⟨_,XM (by omega)⟩;obtain⟨c2,hc2⟩:∃c,s.q.r.lo[r.idx.toNat]?=some c:=⟨_,XM (by omega)⟩;have hcb:=hr.bd _ _ _ hc2 hc;have hv:FL 2 (s.q.g.ag+s.q.g.us.length) (fV r.idx.toNat):=FL.v (by omega);have hn:FL 8 (s.q.g.ag+s.q.g.us.length) (fN c):=FL.n (hcb.2.1.br.mono (by omega));haveI:=hv.fm (by omega);haveI:=hv.cb;haveI:=hn.fm (by omega);haveI:=hn.cb;refine aE 0 [(11,2)] [2] (dz 4 rfl (af rfl (aS r.idx.toNat hc rfl (by omega)) (af rfl (bo rfl) (ax sC rfl (rj c) (dz 2 rfl (eU (D.val (.int .i64 ((r.idx.toNat:Nat):Int))) rfl (by rw[zac (by omega)]) (ax vc rfl (tN r.idx.toNat (by omega)) (ax lV rfl (lJ (fN c) (fV r.idx.toNat) (by omega) (by omega) (by omega)) (dz 2 rfl ?_)))))))));refine aB (za 1 rfl ?_);exact aI ai rfl (by unfold bK;rw[if_neg h5,if_neg h0,if_neg hk1,if_pos hk2,hc] <;> rfl)
       .refine aa rfl (aO rfl) (zl 13 rfl ?_);exact aI ai rfl (by unfold bK;rw[if_neg h5,if_neg h0,if_neg hk1,if_pos hk2,Yi (by omega)];exact cM _ _ rfl)
      .refine aa rfl (aU rfl) (zl 6 rfl ?_);by_cases hk3:r.kind=3
       .refine aa rfl (bp rfl) (zl 10 rfl (aa rfl (aw rfl) ?_));by_cases hin:r.idx.toNat<s.q.r.rows.length
        .refine aa rfl (aX rfl) (zl 4 rfl ?_);obtain⟨f,hf⟩:∃f,s.q.r.rows[r.idx.toNat]?=some f:=⟨_,XM (by omega)⟩;refine zc 5 rfl (aa rfl (aS r.idx.toNat hf rfl (by omega)) (aa rfl (bo rfl) (zl 4 rfl ?_)));exact aI ai rfl (by unfold bK;rw[if_neg h5,if_neg h0,if_neg hk1,if_neg hk2,if_pos hk3,hf] <;> rfl)
        .refine aa rfl (aO rfl) (zl 13 rfl ?_);exact aI ai rfl (by unfold bK;rw[if_neg h5,if_neg h0,if_neg hk1,if_neg hk2,if_pos hk3,Yi (by omega)];exact cM _ _ rfl)
       .refine aa rfl (aU rfl) (zl 6 rfl ?_);by_cases hk4:r.kind=4
        .refine aa rfl (bp rfl) (zl 6 rfl (aE 0 [] [] (dz 4 rfl (af rfl (aw rfl) ?_))));by_cases hin:s.path.length<=r.idx.toNat
         .refine af rfl (dR rfl) (dz 12 rfl (aB (za 9 rfl ?_)));exact aI ai rfl (by unfold bK;rw[if_neg h5,if_neg h0,if_neg hk1,if_neg hk2,if_neg hk3,if_pos hk4,Yi (by omega)];exact cM _ _ rfl)
         .refine af rfl (dY rfl) (dz 1 rfl ?_);obtain⟨d,hdd⟩:∃d,s.path[r.idx.toNat]?=some d:=⟨_,XM (by omega)⟩;have hdo:=hd d (XR hdd);have hdk:d.kind=1\/d.kind=2\/d.kind=3\/d.kind=4:=by rcases hdo.1 with⟨h,_⟩|⟨h,_⟩ <;> omega
          have hdi:d.idx<(s.q.g.ag+s.q.g.us.length):=by rcases hdo.1 with⟨_,h,_⟩|⟨_,h⟩ <;> omega
          have hv:FL 2 (s.q.g.ag+s.q.g.us.length) (fV d.idx):=FL.v hdi;have hn:FL (b+1) (s.q.g.ag+s.q.g.us.length) (fN d.pt):=FL.n hdo.2.br;have hs:=hv.sub hn;haveI:=hv.fm (by omega);haveI:=hv.cb;haveI:=hn.fm (by omega);haveI:=hn.cb;haveI:=hs.fm (by omega);haveI:=hs.cb;refine dz 6 rfl (af rfl (aS r.idx.toNat hdd rfl (by omega)) (af rfl (bo rfl) (ax IX rfl (Ja s.q d (by assumption) (by omega)) (dz 2 rfl (aB (za 10 rfl (aa rfl (aS r.idx.toNat hdd rfl (by omega)) (aa rfl (bo rfl) (zl 5 rfl ?_)))))))));refine aE 1 [(7,5),(8,5)] [5] (dz 2 rfl (ax vc rfl (tN d.idx (by omega)) (dz 2 rfl (ax sC rfl (rj d.pt) (ax lV rfl (lJ (fV d.idx) (fN d.pt) (by omega) (by omega) (by omega)) (dz 2 rfl (aB (za 6 rfl ?_))))))));by_cases hk:d.kind=3
          .refine aa rfl (bp rfl) (zl 10 rfl ?_);exact aI ai rfl (by unfold bK;rw[if_neg h5,if_neg h0,if_neg hk1,if_neg hk2,if_neg hk3,if_pos hk4,hdd];show _=R.aW [bL (if 3<=d.kind then(js d,true) else(fZ,false)).1,V.one (ab.val (.bool (if 3<=d.kind then(js d,true) else(fZ,false)).2))];rw[if_pos (by omega)];show _=R.aW [bL (js d),V.one (ab.val (.bool true))];unfold js;rw[if_pos hk] <;> rfl)
          .refine aa rfl (aU rfl) (zl 9 rfl ?_);by_cases hk_:d.kind=4
           .refine aa rfl (bp rfl) (zl 4 rfl (aE 0 [(3,2)] [2] (dz 1 rfl (ax oG rfl (mP (-1) (by decide) (by decide)) (ax nj rfl (mM (bA (fV d.idx) (fN d.pt)) (((-1):Int):Rat) (by omega) (by omega)) (dz 2 rfl (aB (za 1 rfl ?_))))))));exact aI ai rfl (by unfold bK;rw[if_neg h5,if_neg h0,if_neg hk1,if_neg hk2,if_neg hk3,if_pos hk4,hdd];show _=R.aW [bL (if 3<=d.kind then(js d,true) else(fZ,false)).1,V.one (ab.val (.bool (if 3<=d.kind then(js d,true) else(fZ,false)).2))];rw[if_pos (by omega)];show _=R.aW [bL (js d),V.one (ab.val (.bool true))];unfold js;rw[if_neg hk] <;> rfl)
           .refine aa rfl (aU rfl) (zl 13 rfl ?_);exact aI ai rfl (by unfold bK;rw[if_neg h5,if_neg h0,if_neg hk1,if_neg hk2,if_neg hk3,if_pos hk4,hdd];show _=R.aW [bL (if 3<=d.kind then(js d,true) else(fZ,false)).1,V.one (ab.val (.bool (if 3<=d.kind then(js d,true) else(fZ,false)).2))];rw[if_neg (by omega)];exact cM _ _ rfl)
        .refine aa rfl (aU rfl) (zl 14 rfl ?_);exact aI ai rfl (by unfold bK;rw[if_neg h5,if_neg h0,if_neg hk1,if_neg hk2,if_neg hk3,if_neg hk4];exact cM _ _ rfl)
end Go.Proofs.YtakccfmgipajnaaGreatDoor
namespace Rc
open Go Go.RowKit
theorem Jf:[bE.row fZ.ts,ab.val (.bool (bx fZ.c)),ae (ah (aN fZ.c)),ae (ah (aQ fZ.c))]=[aT,ab.val (.bool false),aT,aT]:=by
 show[bE.row [],ab.val (.bool (bx 0)),ae (ah (aN 0)),ae (ah (aQ 0))]=_;rw[qg,qi,cJ];rfl
theorem oN{x:Qr}(h:x=an x.q):D.agg [ab.val (.bool x.neg),ae x.n,ae x.d]=D.agg (qL x.q):=by
 rw[h,aG];rfl
theorem JU{q:Rat}(h:0<=q):bx q=false:=by unfold bx;exact decide_eq_false (Int.not_lt.2 (Rat.num_nonneg.2 h))
theorem KP(q:Rat):D.agg [ab.val (.bool false),ae (ah (aN q)),ae (ah (aQ q))]=D.agg (qL (rq false (aN q) (aQ q))):=by
 have h0:=abs_nonneg q;rw[abs_eq] at h0 ⊢;split
 .rename_i h;rw[if_pos h] at h0;unfold qL;rw[JT,J5,JU h0]
 .rename_i h;rw[if_neg h] at h0;unfold qL;rw[JU h0]
theorem toNat_cast(n:Nat):(n:Int).toNat=n:=rfl
section
variable {s:Sc}
theorem Iv{v:Nat}{c:Rat}(h:s.q.r.lo[v]?=some c):bK s ⟨1,(v:Int),0,0⟩=(bA (fV v) (fN c),true):=by
 unfold bK;rw[if_neg (by show ¬(5:Int)<=1;decide),if_neg (by show ¬((0:Int)≠0\/(0:Int)≠0\/(v:Int)<0);omega),if_pos rfl];simp only[toNat_cast,h]
theorem Iw{v:Nat}{c:Rat}(h:s.q.r.hi[v]?=some c):bK s ⟨2,(v:Int),0,0⟩=(bA (fN c) (fV v),true):=by
 unfold bK;rw[if_neg (by show ¬(5:Int)<=2;decide),if_neg (by show ¬((0:Int)≠0\/(0:Int)≠0\/(v:Int)<0);omega),if_neg (by show ¬(2:Int)=1;decide),if_pos rfl];simp only[toNat_cast,h]
theorem uZ{k lo hi:Int}{j:Nat}{p f:Af}(hk:5<=k)(hp:s.q.g.us[j]?=some p)(h:cB s ⟨k,(j:Int),lo,hi⟩ p=(f,true)):bK s ⟨k,(j:Int),lo,hi⟩=(f,true):=by
 unfold bK;rw[if_pos hk];exact lF (by show ¬(j:Int)<0;omega) hp h
theorem Ir{j:Nat}{p:Af}(hp:s.q.g.us[j]?=some p):bK s ⟨5,(j:Int),0,0⟩=(fV (s.q.g.ag+j),true):=
 uZ (by decide) hp (by unfold cB;rw[if_pos rfl];rfl)
theorem uD{j n:Nat}{up:Bool}{m:Lm}(hn:0<n)(hm:s.aq[n-1]?=some m)(hu:m.unit=(j:Int))(hup:m.up=up):iH s.aq (n:Int) (j:Int) up=(m.v.q,true):=
 HB (by omega) (by rw[show((n:Int)-1).toNat=n-1 by omega];exact hm) ⟨hu,hup⟩
theorem It{j n:Nat}{p:Af}{m:Lm}(hp:s.q.g.us[j]?=some p)(hn:0<n)(hm:s.aq[n-1]?=some m)(hu:m.unit=(j:Int))(hup:m.up=false)(hv:0<=m.v.q) :
  bK s ⟨8,(j:Int),(n:Int),0⟩=(bA p (fV (s.q.g.ag+j)),true):=
 uZ (by decide) hp (by
  unfold cB;rw[if_neg (by simp),if_neg (by simp),if_neg (by simp),if_pos rfl];unfold gE oq cG;simp only[uD hn hm hu hup,lI.2 hv];simp)
theorem Iu{j n:Nat}{p:Af}{m:Lm}(hp:s.q.g.us[j]?=some p)(hn:0<n)(hm:s.aq[n-1]?=some m)(hu:m.unit=(j:Int))(hup:m.up=true)(hv:m.v.q<=0) :
  bK s ⟨10,(j:Int),0,(n:Int)⟩=(bN (fV (s.q.g.ag+j)) ((-1:Int):Rat),true):=
 uZ (by decide) hp (by
  unfold cB;rw[if_neg (by simp),if_neg (by simp),if_neg (by simp),if_neg (by simp),if_neg (by simp),if_pos rfl];unfold gG mv cA;simp only[uD hn hm hu hup,mG.2 hv];simp)
theorem x9{j n:Nat}{p:Af}{m:Lm}(hp:s.q.g.us[j]?=some p)(hn:0<n)(hm:s.aq[n-1]?=some m)(hu:m.unit=(j:Int))(hup:m.up=true) :
  bK s ⟨12,(j:Int),0,(n:Int)⟩=(bA (fN m.v.q) p,true):=
 uZ (by decide) hp (by
  unfold cB;rw[if_neg (by simp),if_neg (by simp),if_neg (by simp),if_neg (by simp),if_neg (by simp),if_neg (by simp),if_neg (by simp),if_pos rfl];unfold mv cA;simp only[uD hn hm hu hup];simp)
theorem Is{j n n':Nat}{p:Af}{m m':Lm}(hp:s.q.g.us[j]?=some p)(hn:0<n)(hm:s.aq[n-1]?=some m)(hu:m.unit=(j:Int))(hup:m.up=false)
  (hn':0<n') (hm':s.aq[n'-1]?=some m') (hu':m'.unit=(j:Int)) (hup':m'.up=true) (hv:m.v.q<0) (hv':0<m'.v.q) :
  bK s ⟨13,(j:Int),(n:Int),(n':Int)⟩=(bA (bN (bA p (fN m.v.q)) m'.v.q) (bN (fV (s.q.g.ag+j)) (m'.v.q-m.v.q)),true):=
 uZ (by decide) hp (by
  unfold cB;rw[if_neg (by simp),if_neg (by simp),if_neg (by simp),if_neg (by simp),if_neg (by simp),if_neg (by simp),if_neg (by simp),if_neg (by simp),if_pos rfl];unfold oq cG mv cA;simp only[uD hn hm hu hup,uD hn' hm' hu' hup',tL.2 hv,wU.2 hv'];simp)
structure v3(s:Sc)(B:Nat)(l:List Mu):Prop where
 ok:∀m∈l,(bK s m.r).2=true
 pos:∀m∈l,0<m.c.q
 bd:MB B l
 len:l.length<=2
theorem ui{r:Rw}{B:Nat}(h:(bK s r).2=true):v3 s (2*B+12) [⟨r,an ((1:Int):Rat)⟩]:=
 ⟨fun m hm=>by simp at hm;subst hm;exact h,fun m hm=>by simp at hm;subst hm;rw[aG];decide,fun m hm=>by rw[Ym] at hm;subst hm;exact Fq.of.mono (by omega),by simp⟩
theorem Kv{v B:Nat}(hq:dt s.q)(hv:v<s.q.g.ag+s.q.g.us.length):v3 s (2*B+12) (ku s.q.g.ag v):=by
 unfold ku;split
 .rename_i h;have:=hq.r.lo;obtain⟨c,hc⟩:∃c,s.q.r.lo[v]?=some c:=⟨_,XM (by omega)⟩;exact ui (by rw[Iv hc])
 .obtain⟨p,hp⟩:∃p,s.q.g.us[v-s.q.g.ag]?=some p:=⟨_,XM (by omega)⟩;exact ui (by rw[Ir hp])
theorem Ku{v B:Nat}{l:List Mu}(hq:dt s.q)(hB:∀m∈s.aq,Fq m.v B)(hv:v<s.q.g.ag+s.q.g.us.length)(h:fP s.q.g.ag s.aq v=some l):v3 s (4*B+12) l:=by
 have one:∀{r:Rw},(bK s r).2=true->v3 s (4*B+12) [⟨r,an ((1:Int):Rat)⟩]:=fun h=>
  ⟨(ui (B:=B) h).ok,(ui (B:=B) h).pos,(ui (B:=B) h).bd.mono (by omega),by simp⟩
 unfold fP at h;split at h
 .rename_i hi;cases h;have:=hq.r.hi;obtain⟨c,hc⟩:∃c,s.q.r.hi[v]?=some c:=⟨_,XM (by omega)⟩;exact one (by rw[Iw hc])
 .obtain⟨p,hp⟩:∃p,s.q.g.us[v-s.q.g.ag]?=some p:=⟨_,XM (by omega)⟩;split at h
  .cases h
  .rename_i hb;obtain⟨y,hy,yu,yp,hly,hy0,hyl⟩:=C4 (fun e=>hb (.inl e));obtain⟨z,hz,zu,zp,hlz,hz0,hzl⟩:=zi (fun e=>hb (.inr e));haveI:=hB y (XR hy);haveI:=hB z (XR hz);rw[hlz,hly] at h;split at h
   .rename_i hu;cases h;exact one (by rw[Iu hp hz0 hz zu zp hu])
   .rename_i hu;split at h
    .rename_i hl;cases h;refine⟨fun m hm=>?_,fun m hm=>?_,fun m hm=>?_,by simp⟩
     .simp at hm;rcases hm with rfl|rfl
      .rw[It hp hy0 hy yu yp hl]
      .rw[x9 hp hz0 hz zu zp]
     .simp at hm;rcases hm with rfl|rfl <;> rw[aG] <;> decide
     .simp only[X9,Y8,or_false] at hm;rcases hm with rfl|rfl <;> exact Fq.of.mono (by omega)
    .rename_i hl;cases h;have h1:0<z.v.q:=by grind
     have h2:0<z.v.q-y.v.q:=by grind
     have h3:0<((1:Int):Rat)/(z.v.q-y.v.q):=by
      rw[za1];exact Rat.mul_pos (by decide) (Rat.inv_pos.2 h2)
     refine⟨fun m hm=>?_,fun m hm=>?_,fun m hm=>?_,by simp⟩
     .simp at hm;rcases hm with rfl|rfl
      .rw[x9 hp hz0 hz zu zp]
      .rw[Is hp hy0 hy yu yp hz0 hz zu zp (by grind) h1]
     .simp only[X9,Y8,or_false] at hm;rcases hm with rfl|rfl
      .show 0<(an _).q;rw[aG];exact Rat.mul_pos h3 h1
      .show 0<(an _).q;rw[aG];exact h3
     .simp only[X9,Y8,or_false] at hm;rcases hm with rfl|rfl <;> exact Fq.of.mono (by omega)
theorem Pn{l:List Mu}{r:Rw}{c:Rat}{x:Mu}(h:x∈fe l r c):x.r=r\/x∈l:=by
 unfold fe at h;split at h
 .exact .inr h
 .exact BK h
theorem Hg{c:Rat}{P:Rw->Prop}:∀{b a:List Mu},(∀m∈a,P m.r)->(∀m∈b,P m.r)->∀m∈eE a b c,P m.r
 |[],a,h,_=>h
 |x::b,a,h,hb=>Hg (b:=b) (a:=fe a x.r (x.c.q*c)) (fun m hm=>by
   rcases Pn hm with e|hm
   .rw[e];exact hb x (by simp)
   .exact h m hm) (fun m hm=>hb m (by simp[hm]))
structure mh(s:Sc)(B n:Nat)(l:List Mu):Prop where
 ok:∀m∈l,(bK s m.r).2=true
 can:gU l
 bd:MB B l
 len:l.length<=n
theorem V4{B C n:Nat}{a:List Mu×Bool}{t:Tm}(hq:dt s.q)(hB:∀m∈s.aq,Fq m.v B)(hv:t.1<s.q.g.ag+s.q.g.us.length)(ht:Br t.2 10)(h:mh s C n a.1) :
  mh s (C+8*B+50) (n+2) (eP s.q.g.ag s.aq a t).1:=by
 have mg:∀{l:List Mu},v3 s (4*B+12) l->mh s (C+8*B+50) (n+2) (eE a.1 l (rq false (aN t.2) (aQ t.2))):=fun {l} hs=>
  ⟨Hg (P:=fun r=>(bK s r).2=true) h.ok hs.ok,Hh (abs_nonneg _) h.can hs.pos,(Bt h.bd hs.bd).mono (by
   have:=Ya (4*B+12+(10+1)+2) hs.len;omega),by have:=Bs l a.1 (rq false (aN t.2) (aQ t.2));have:=h.len;have:=hs.len;omega⟩
 unfold eP;split
 .split
  .have h2:=Kv (B:=2*B) hq hv;exact mg ⟨h2.ok,h2.pos,h2.bd.mono (by omega),h2.len⟩
  .split
   .rename_i l hl;exact mg (Ku hq hB hv hl)
   .exact⟨fun m hm=>by simp at hm,trivial,fun m hm=>by simp at hm,by simp⟩
 .exact⟨h.ok,h.can,h.bd.mono (by omega),XY h.len (by omega)⟩
theorem KM{B:Nat}(hq:dt s.q)(hB:∀m∈s.aq,Fq m.v B):∀(ts:List Tm) (a:List Mu×Bool) (C n:Nat),(∀t∈ts,t.1<s.q.g.ag+s.q.g.us.length/\Br t.2 10)->mh s C n a.1 →
  mh s (C+ts.length*(8*B+50)) (n+2*ts.length) (ts.foldl (eP s.q.g.ag s.aq) a).1
 |[],a,C,n,_,h=>⟨h.ok,h.can,h.bd.mono (by omega),XY h.len (by omega)⟩
 |t::ts,a,C,n,ht,h=>by
  have h1:=V4 (t:=t) hq hB (ht t (by simp)).1 (ht t (by simp)).2 h;have h2:=KM hq hB ts _ _ _ (fun x hx=>ht x (by simp[hx])) h1;refine⟨h2.ok,h2.can,h2.bd.mono ?_,XY h2.len ?_⟩
  .simp only[X6,Ys];omega
  .simp only[X6];omega
theorem UL:mh s 0 0 []:=⟨fun m hm=>by simp at hm,trivial,fun m hm=>by simp at hm,by simp⟩
theorem zw{B b:Nat}{f:Af}(hq:dt s.q)(hB:∀m∈s.aq,Fq m.v B)(hf:c9 b (s.q.g.ag+s.q.g.us.length) f)(hb:b<=9)(i:Nat):mh s (7*(8*B+50)) 14 (gR s.q.g.ag s.aq (f.ts.take i)).1:=by
 have h:=KM hq hB (f.ts.take i) ([],true) 0 0 (fun t ht=>⟨hf.var t (YB ht),(hf.bd t (YB ht)).br.mono (by omega)⟩) UL;have hl:(f.ts.take i).length<=7:=by rw[X2];have:=hf.len;have:=hq.g.i3;have:=hq.g.u4;omega
 refine⟨h.ok,h.can,h.bd.mono ?_,XY h.len (by omega)⟩;have:=Ya (8*B+50) hl;omega
end
def ej(s:Sc)(f:Af):List Mu:=(gR s.q.g.ag s.aq f.ts).1
def fQ(s:Sc)(f:Af):Bool:=(gR s.q.g.ag s.aq f.ts).2
def dp(s:Sc)(f:Af):Rat:=if fQ s f=true then(bA f (jo s (ej s f))).c else 0
theorem KN{ag:Nat}{aq:List Lm}:∀(ts:List Tm) (a:List Mu×Bool),(a.2=false->a.1=[])->(ts.foldl (eP ag aq) a).2=false->(ts.foldl (eP ag aq) a).1=[]
 |[],a,h,h2=>h h2
 |t::ts,a,h,h2=>KN ts _ (fun h3=>by
   unfold eP at h3 ⊢;split at h3
   .rename_i ha;rw[if_pos ha];split at h3
    .simp at h3
    .rename_i hs;rw[if_neg hs];split at h3
     .simp at h3
     .rename_i he;simp only[he]
   .rename_i ha;rw[if_neg ha];exact h h3) h2
theorem Wb{s:Sc}{f:Af}(h:fQ s f=false):ej s f=[]:=KN _ _ (fun h=>by simp at h) h
theorem Wc{s:Sc}{f:Af}{i:Nat}(h:(gR s.q.g.ag s.aq (f.ts.take i)).2=false):fQ s f=false:=V8 h
section
variable {ag:Nat}{aq:List Lm}{out:List Mu}{t:Tm}
theorem V3(h:0<t.2):eP ag aq (out,true) t=(eE out (ku ag t.1) (rq false (aN t.2) (aQ t.2)),true):=by
 unfold eP;rw[if_pos rfl,if_pos h]
theorem V2(h:¬0<t.2)(hl:(fP ag aq t.1).isSome=true):eP ag aq (out,true) t=(eE out ((fP ag aq t.1).getD []) (rq false (aN t.2) (aQ t.2)),true):=by
 obtain⟨l,hl⟩:=zap.1 hl;unfold eP;rw[if_pos rfl,if_neg h,hl];rfl
theorem V5(h:¬0<t.2)(hl:(fP ag aq t.1).isSome=false):(eP ag aq (out,true) t).2=false:=by
 have hl:fP ag aq t.1=none:=by simpa using hl
 unfold eP;rw[if_pos rfl,if_neg h,hl]
end
theorem SY{s:Sc}{B v:Nat}(hq:dt s.q)(hB:∀m∈s.aq,Fq m.v B)(hv:v<s.q.g.ag+s.q.g.us.length):MB (4*B+12) ((fP s.q.g.ag s.aq v).getD [])/\((fP s.q.g.ag s.aq v).getD []).length<=2:=by
 cases h:fP s.q.g.ag s.aq v with
 |none=>exact⟨fun m hm=>by simp at hm,by simp⟩
 |some l=>have:=Ku hq hB hv h;exact⟨this.bd,this.len⟩
end Rc
namespace Go.Proofs.YtakccfmgipajnaaGreatDoor
open Go Go.RowKit Rc
theorem Vh(l:List Mu){B:Nat}(hc:gU l)(hB:MB B l)(hB2:B<=100000000000)(hl:l.length<=100000):ar Tryz.prog 153 [V.one (El.row bm l)] (R.one (V.one (ab.val (.bool true)))):=by
 refine aF Tryz.func153 Tryz.ntmps153 rfl (fun w0 A0=>?_);refine zc 12 rfl (bH (fun m Γ H=>∃(i:Nat),l.length-i=m/\Γ=[(0,some (D.v (V.one (El.row bm l)))),(3,some (D.val (.int .i64 (i:Int))))]/\H=[]/\i<=l.length) ⟨0,rfl,rfl,rfl,XS _⟩ rfl ?_);rintro m Γ H ⟨i,rfl,rfl,rfl,hi0⟩;refine zc 5 rfl (aa rfl (aw rfl) ?_);by_cases hi:i<l.length
 .refine aa rfl (aX rfl) (zl 8 rfl ?_);obtain⟨x,hx⟩:∃x,l[i]?=some x:=⟨_,XM hi⟩;haveI hxB:=hB x (XR hx);obtain⟨hpos,hcx⟩:=hc.pos x (XR hx);refine aE 0 [] [] (dz 2 rfl (af rfl (aS i hx rfl) (af rfl (dW rfl) (af rfl (bo rfl) (ax p5 rfl (pk x.c (x.c.q) rfl (Fq.use (x:=x.c) (by omega))) (gv true rfl (xT.2 hcx) (dz 4 rfl (af rfl (aS i hx rfl) (af rfl (dW rfl) ?_)))))))));refine af rfl (bo rfl) (ax gy rfl (gm x.c (x.c.q) rfl (Fq.use (x:=x.c) (by omega))) (af rfl (rU rfl (by have:=wU.2 hpos;omega)) (dz 3 rfl ?_)));by_cases hi1:0<i
  .refine af rfl (dQ rfl) (dz 1 rfl ?_);obtain⟨y,hy⟩:∃y,l[i-1]?=some y:=⟨_,XM (by omega)⟩;refine dz 2 rfl (af rfl (b9 (i-1) rfl) (af rfl (aS (i-1) hy rfl) (af rfl (jv rfl) (af rfl (bo rfl) (dz 2 rfl (af rfl (aS i hx rfl) (af rfl (jv rfl) (af rfl (bo rfl) (ax IY rfl (Hx y.r x.r) ?_)))))))));refine gv true rfl (hc.prev hi1 hx hy) (dz 3 rfl (aB (za 7 rfl (aa rfl (aL (i+1) rfl) (zl 2 rfl ?_)))));exact aP ⟨i+1,rfl,rfl,rfl,hi⟩ rfl
  .refine af rfl (cD rfl) (dz 16 rfl (aB (za 7 rfl (aa rfl (aL (i+1) rfl) (zl 2 rfl ?_)))));exact aP ⟨i+1,rfl,rfl,rfl,hi⟩ rfl
 .refine aa rfl (aO rfl) (zl 13 rfl ?_);exact av ai rfl rfl
set_option maxHeartbeats 2000000 in
theorem M7(s:Sc){B:Nat}(hB:∀m∈s.aq,Fq m.v B)(hB2:B<=10000000)(hl:s.aq.length<=1000000){b:Nat}(hq:dt s.q)(hd:∀d∈s.path,j7 b s.q d)(hb:b<=1000000)(hpl:s.path.length<=1000)(l:List Mu){C:Nat}(hc:gU l)(hm:MB C l)(hC:C<=600000000)(hok:∀m∈l,(bK s m.r).2=true)(hll:l.length<=50):ar Tryz.prog 95 [eM s,V.one (El.row bm l)] (R.aW [bL (jo s l),V.one (ab.val (.int .i64 0))]):=by
 refine aF Tryz.func95 Tryz.ntmps95 rfl (fun w0 A0=>?_);have hg:=hq.g;have hr:=hq.r;have hlo:=hr.lo;have hhi:=hr.hi;have h1:=hg.i1;have h2:=hg.i3;have h3:=hg.u4;have h4:=hg.o1;have h5:=hg.o3;refine zc 11 rfl (aj TW rfl (Vh l (by assumption) (by assumption) (by omega) (by omega)) (zl 18 rfl ?_));refine bH (fun m Γ H=>∃(i:Nat) (out:Af),l.length-i=m/\Γ=[(1,some (D.v (V.one (El.row bm l)))),(2,some (D.ptr 0 0)),(4,some (D.ptr 1 0)),(6,some (D.ptr 2 0)),(7,some (D.val (.int .i64 (i:Int))))]/\H=[au 85 (fY s),au 37 [El.row bE ([]),ab.val (.bool false),ae ([]),ae ([])],au 37 (b7 out)]/\i<=l.length/\out=jo s (l.take i)) ⟨0,fZ,rfl,rfl,(by unfold b7;rw[Jf];rfl),XS _,rfl⟩ rfl ?_;rintro m Γ H ⟨i,out,rfl,rfl,rfl,hi0,hout⟩;refine zc 5 rfl (aa rfl (aw rfl) ?_);by_cases hi:i<l.length
 .refine aa rfl (aX rfl) (zl 8 rfl ?_);obtain⟨x,hx⟩:∃x,l[i]?=some x:=⟨_,XM hi⟩;have hxm:=XR hx;haveI hxB:=hm x hxm;have hf:=BW (r:=x.r) hq hd hB;have hsc:=FL.sc (c:=x.c.q) hf;have ho:FL (50*(4*B+b+C+42)) (s.q.g.ag+s.q.g.us.length) out:=by
   rw[hout];refine(EL hq hd hB hm.take).mono ?_ (XP _);exact Ya _ (by rw[X2];omega)
  haveI:=hf.fm (by omega);haveI:=hf.cb;haveI:=hsc.fm (by omega);haveI:=hsc.cb;haveI:=ho.fm (by omega);haveI:=ho.cb;refine aE 1 [(10,3),(11,3)] [3] (dz 3 rfl (af rfl (aS i hx rfl) (af rfl (jv rfl) (af rfl (bo rfl) (ax TV rfl (S8 s hB (by omega) (by omega) hq hd (by omega) (by omega) x.r) (dz 3 rfl (gv true rfl (hok x hxm) (dz 3 rfl (aB ?_)))))))));refine za 11 rfl (aE 0 [(9,2)] [2] (cK [] rfl (jC rfl rfl rfl (by decide) iE (by decide) (XU rfl) rfl) (dz 3 rfl (af rfl (aS i hx rfl) (af rfl (dW rfl) (af rfl (bo rfl) (eU (D.agg (qL x.c.q)) rfl (oN (hc.pos x hxm).2) (ax nj rfl (mM (bK s x.r).1 x.c.q (by omega) (by omega)) ?_))))))));refine ax Cd rfl (AW out (bN (bK s x.r).1 x.c.q) (by omega) (by omega) (by omega)) (dz 1 rfl (aB (za 4 rfl (aa rfl (aL (i+1) rfl) (zl 2 rfl (cX 3 (cN 3 rfl ?_)))))));exact aP ⟨i+1,_,rfl,rfl,rfl,hi,by rw[hout];exact(Na hx).symm⟩ rfl
 .refine aa rfl (aO rfl) (zl 9 rfl ?_);have hie:i=l.length:=by omega
  rw[hie,Yo] at hout;refine zc 6 rfl ?_;exact aI ai rfl (by rw[<-hout] <;> rfl)
theorem He(a b:List Mu)(c:Rat){B C K:Nat}(hA:MB B a)(hB:MB C b)[Br c K](h1:B<=10000000000)(h2:C<=1000000000)(h3:K<=1000000000)(hl:a.length<=10000)(hlb:b.length<=2):ar Tryz.prog 94 [V.one (El.row bm a),V.one (El.row bm b),V.agg (qL (c))] (R.one (V.one (El.row bm (eE a b c)))):=
 Rt a b c hA hB (by have:=Ya (C+K+2) hlb;omega) hl (by omega)
set_option maxHeartbeats 2000000 in
theorem Ds(s:Sc){B:Nat}(hB:∀m∈s.aq,Fq m.v B)(hB2:B<=10000000)(hl:s.aq.length<=1000000){b:Nat}(hq:dt s.q)(hd:∀d∈s.path,j7 b s.q d)(hb:b<=1000000)(hpl:s.path.length<=1000)(f:Af){bf K:Nat}(hf:c9 bf (s.q.g.ag+s.q.g.us.length) ⟨f.ts,0⟩)(hb5:bf<=9)(hfm:FL K (s.q.g.ag+s.q.g.us.length) f)(hK:K<=1000000):ar Tryz.prog 55 [eM s,bL f] (R.aW [qV (an (dp s f)),V.one (El.row bm (ej s f)),V.one (ab.val (.bool (fQ s f)))]):=by
 refine aF Tryz.func55 Tryz.ntmps55 rfl (fun w0 A0=>?_);have hg:=hq.g;have hr:=hq.r;have hlo:=hr.lo;have hhi:=hr.hi;have h1:=hg.i1;have h2:=hg.i3;have h3:=hg.u4;have h4:=hg.o1;have h5:=hg.o3;have hfl:f.ts.length<=_:=hf.len;refine zc 21 rfl ?_;refine bH (fun m Γ H=>∃(i:Nat) (out:List Mu),f.ts.length-i=m/\Γ=[(2,some (D.ptr 0 0)),(3,some (D.ptr 1 0)),(4,some (D.ptr 2 0)),(7,some (D.v (V.one (El.row bm out)))),(8,some (D.val (.int .i64 (i:Int))))]/\H=[au 85 (fY s),au 37 (b7 f),au 35 [ab.val (.bool false),ae ([]),ae ([])]]/\i<=f.ts.length/\gR s.q.g.ag s.aq (f.ts.take i)=(out,true)) ⟨0,[],rfl,rfl,rfl,XS _,rfl⟩ rfl ?_;rintro m Γ H ⟨i,out,rfl,rfl,rfl,hi0,habs⟩;refine zc 6 rfl (aa rfl (aw rfl) ?_);by_cases hi:i<f.ts.length
 .refine aa rfl (aX rfl) (zl 8 rfl ?_);obtain⟨x,hx⟩:∃x,f.ts[i]?=some x:=⟨_,XM hi⟩;have hxm:=XR hx;haveI hxb:=(hf.bd x hxm).br;have hxv:=hf.var x hxm;have hder:mh s (7*(8*B+50)) 14 (gR s.q.g.ag s.aq (f.ts.take i)).1:=zw hq hB hf hb5 i;rw[habs] at hder;have hMB:MB (7*(8*B+50)) out:=hder.bd;have hol:out.length<=14:=hder.len;have hsl:=Kv (B:=B) hq hxv;have hM1:MB (2*B+12) (ku s.q.g.ag x.1):=hsl.bd;have hM1l:(ku s.q.g.ag x.1).length<=2:=hsl.len;obtain⟨hM2,hM2l⟩:=SY (v:=x.1) hq hB hxv;refine zc 4 rfl (aa rfl (aS i hx rfl) (aa rfl (bo rfl) (zl 9 rfl (aj Th rfl (VH s (by assumption) (by omega) (by omega) (by omega) x.1 (by omega)) (zl 12 rfl (aj gy rfl (gm (an (x.2)) (x.2) (aG _) (Br.use (by omega))) ?_))))));by_cases hpos:0<x.2
  .refine aa rfl (dQ rfl (wU.2 hpos)) (zl 7 rfl (aj Tg rfl (VI s (by omega) x.1 (by omega)) (zl 24 rfl (zl 8 rfl (iK (D.agg (qL (rq false (aN x.2) (aQ x.2)))) rfl (KP x.2) (aj ID rfl (He out (ku s.q.g.ag x.1) (rq false (aN x.2) (aQ x.2)) (by assumption) (by assumption) (by omega) (by omega) (by omega) (by omega) (by omega)) (zl 6 rfl ?_)))))));refine aa rfl (aL (i+1) rfl) (zl 2 rfl (cX 3 (cX 4 (cN 3 rfl ?_))));exact aP ⟨i+1,_,rfl,rfl,rfl,hi,by rw[Dq hx,habs];exact V3 hpos⟩ rfl
  .refine aa rfl (cD rfl (fun e=>hpos (wU.1 e))) (zl 7 rfl ?_);by_cases hm:(fP s.q.g.ag s.aq x.1).isSome=true
   .refine zc 2 rfl (bT true rfl (hm) (zl 24 rfl (iK (D.agg (qL (rq false (aN x.2) (aQ x.2)))) rfl (KP x.2) (aj ID rfl (He out ((fP s.q.g.ag s.aq x.1).getD []) (rq false (aN x.2) (aQ x.2)) (by assumption) (by assumption) (by omega) (by omega) (by omega) (by omega) (by omega)) (zl 6 rfl (aa rfl (aL (i+1) rfl) (zl 2 rfl (cX 3 (cX 4 ?_)))))))));refine cN 3 rfl ?_;exact aP ⟨i+1,_,rfl,rfl,rfl,hi,by rw[Dq hx,habs];exact V2 hpos hm⟩ rfl
   .refine zc 2 rfl (bT false rfl (by simpa using hm) (zl 5 rfl ?_));have hbad:fQ s f=false:=Wc (i:=i+1) (by rw[Dq hx,habs];exact V5 hpos (by simpa using hm));refine zc 7 rfl ?_;exact kG ai rfl (by unfold dp;rw[Wb hbad,hbad,if_neg (by decide)];show _=R.aW [qV (an 0),_,_];rw[<-kf] <;> rfl)
 .refine aa rfl (aO rfl) (zl 9 rfl ?_);have hie:i=f.ts.length:=by omega
  rw[hie,Yo] at habs;have hder:mh s (7*(8*B+50)) 14 (gR s.q.g.ag s.aq (f.ts.take f.ts.length)).1:=zw hq hB hf hb5 f.ts.length;rw[Yo,habs] at hder;have hMB:MB (7*(8*B+50)) out:=hder.bd;have hol:out.length<=14:=hder.len;have hcan:gU out:=hder.can;have hok:∀m∈out,(bK s m.r).2=true:=hder.ok;have hB3:fQ s f=true:=by unfold fQ;rw[habs]
  have hL:ej s f=out:=by unfold ej;rw[habs]
  have hsm:FL (14*(4*B+b+7*(8*B+50)+42)) (s.q.g.ag+s.q.g.us.length) (jo s out):=(EL hq hd hB hMB).mono (Ya _ hol) (XP _);haveI:=hfm.fm (by omega);haveI:=hfm.cb;haveI:=hsm.fm (by omega);haveI:=hsm.cb;refine zc 3 rfl (aj Tf rfl (M7 s hB (by omega) (by omega) hq hd (by omega) (by omega) out (by assumption) (by assumption) (by omega) (by assumption) (by omega)) (zl 12 rfl (aj lV rfl (lJ f (jo s out) (by omega) (by omega) (by omega)) (zl 7 rfl ?_))));exact kG ai rfl (by rw[hL,hB3];unfold dp;rw[hB3,if_pos rfl,hL] <;> rfl)
theorem KQ(s:Sc){B:Nat}(hB:∀m∈s.aq,Fq m.v B)(hB2:B<=10000000)(hl:s.aq.length<=1000000){b:Nat}(hq:dt s.q)(hd:∀d∈s.path,j7 b s.q d)(hb:b<=1000000)(hpl:s.path.length<=1000)(f:Af){bf:Nat}(hf:c9 bf (s.q.g.ag+s.q.g.us.length) f)(hb5:bf<=9):ar Tryz.prog 55 [eM s,bL f] (R.aW [qV (an (dp s f)),V.one (El.row bm (ej s f)),V.one (ab.val (.bool (fQ s f)))]):=Ds s hB hB2 hl hq hd hb hpl f (bf:=bf) ⟨hf.can,hf.bd,Hb.zero.mono (XS _),hf.var⟩ hb5 hf.fl (by omega)
end Go.Proofs.YtakccfmgipajnaaGreatDoor
namespace Rc
open Go Go.RowKit
def W(φ:Rw->Rat):List Mu->Rat
 |[]=>0
 |m::l=>m.c.q*φ m.r+W φ l
theorem KU(φ:Rw->Rat)(r:Rw)(c:Rat):∀l:List Mu,W φ (fI l r c)=W φ l+c*φ r
 |[]=>by simp only[fI,W,aG];grind
 |m::l=>by
  unfold fI;split
  .simp only[W,KU φ r c l];grind
  .split
   .rename_i h;simp only[W,aG,h];grind
   .simp only[W,aG];grind
theorem Wd(φ:Rw->Rat)(r:Rw)(c:Rat)(l:List Mu):W φ (fe l r c)=W φ l+c*φ r:=by
 unfold fe;split
 .rename_i h;subst h;grind
 .exact KU φ r c l
theorem Dt(φ:Rw->Rat)(c:Rat):∀(b a:List Mu),W φ (eE a b c)=W φ a+c*W φ b
 |[],a=>by simp only[eE,ZJ,W];grind
 |m::b,a=>by
  have e:eE a (m::b) c=eE (fe a m.r (m.c.q*c)) b c:=rfl;rw[e,Dt φ c b,Wd];simp only[W];grind
def iG(s:Sc)(r:Rw):Rat:=(bK s r).1.c
theorem EM(s:Sc):∀(l:List Mu) (a:Af),(l.foldl (fun a m=>p7 a (bN (bK s m.r).1 m.c.q)) a).c=a.c+W (iG s) l
 |[],a=>by simp only[ZJ,W];grind
 |m::l,a=>by
  rw[Y6,EM s l];simp only[W,p7,bN,iG];grind
theorem Nd(s:Sc)(l:List Mu):(jo s l).c=W (iG s) l:=by
 unfold jo;rw[EM];simp only[fZ];grind
def lb(s:Sc)(v:Nat):Rat:=if v<s.q.g.ag then(s.q.r.lo[v]?).getD 0 else 0
def ub(s:Sc)(v:Nat):Rat:=if v<s.q.g.ag then(s.q.r.hi[v]?).getD 0 else if (cw s.aq ((v-s.q.g.ag:Nat):Int)).2=0\/lv s.aq (cw s.aq ((v-s.q.g.ag:Nat):Int)).2<=0 then 0 else lv s.aq (cw s.aq ((v-s.q.g.ag:Nat):Int)).2
theorem m1:((-1:Int):Rat) = -1:=by decide
theorem p1:((1:Int):Rat)=1:=by decide
section
variable {s:Sc}
theorem Wf(hq:dt s.q){v:Nat}(hv:v<s.q.g.ag+s.q.g.us.length):W (iG s) (ku s.q.g.ag v) = - lb s v:=by
 unfold ku lb;split
 .have:=hq.r.lo;obtain⟨c,hc⟩:∃c,s.q.r.lo[v]?=some c:=⟨_,XM (by omega)⟩;simp only[W,iG,Iv hc,hc,aG,bA,fV,fN,m1,p1,Yt];grind
 .obtain⟨p,hp⟩:∃p,s.q.g.us[v-s.q.g.ag]?=some p:=⟨_,XM (by omega)⟩;simp only[W,iG,Ir hp,aG,fV,p1];grind
theorem We(hq:dt s.q){v:Nat}{l:List Mu}(hv:v<s.q.g.ag+s.q.g.us.length)(h:fP s.q.g.ag s.aq v=some l):W (iG s) l=ub s v:=by
 unfold fP at h;unfold ub;split at h
 .rename_i hi;cases h;rw[if_pos hi];have:=hq.r.hi;obtain⟨c,hc⟩:∃c,s.q.r.hi[v]?=some c:=⟨_,XM (by omega)⟩;simp only[W,iG,Iw hc,hc,aG,bA,fV,fN,m1,p1,Yt];grind
 .rename_i hi;rw[if_neg hi];obtain⟨p,hp⟩:∃p,s.q.g.us[v-s.q.g.ag]?=some p:=⟨_,XM (by omega)⟩;split at h
  .cases h
  .rename_i hb;obtain⟨y,hy,yu,yp,hly,hy0,hyl⟩:=C4 (fun e=>hb (.inl e));obtain⟨z,hz,zu,zp,hlz,hz0,hzl⟩:=zi (fun e=>hb (.inr e));rw[hlz,hly] at h;rw[hlz];split at h
   .rename_i hu;cases h;rw[if_pos (.inr hu)];simp only[W,iG,Iu hp hz0 hz zu zp hu,aG,bN,fV,m1,p1];grind
   .rename_i hu;rw[if_neg (fun e=>e.elim (fun e=>hb (.inr e)) hu)];split at h
    .rename_i hl;cases h;simp only[W,iG,It hp hy0 hy yu yp hl,x9 hp hz0 hz zu zp,aG,bA,fV,fN,m1,p1];grind
    .rename_i hl;cases h;have h1:0<z.v.q:=by grind
     have h2:z.v.q-y.v.q≠0:=by grind
     simp only[W,iG,x9 hp hz0 hz zu zp,Is hp hy0 hy yu yp hz0 hz zu zp (by grind) h1,aG,bA,bN,fV,fN,m1,p1];have h3:(z.v.q-y.v.q)*(1/(z.v.q-y.v.q))=1:=by rw[za1,Rat.one_mul];exact Rat.mul_inv_cancel _ h2
     generalize 1/(z.v.q-y.v.q)=k at *;grind
def sV(s:Sc)(t:Tm):Rat:=if 0<t.2 then lb s t.1 else ub s t.1
def l9(s:Sc):List Tm->Rat
 |[]=>0
 |t::ts=>t.2*sV s t+l9 s ts
theorem V6(hq:dt s.q){a:List Mu×Bool}{t:Tm}(hv:t.1<s.q.g.ag+s.q.g.us.length)(h:(eP s.q.g.ag s.aq a t).2=true):W (iG s) (eP s.q.g.ag s.aq a t).1=W (iG s) a.1-t.2*sV s t:=by
 unfold eP at h ⊢;unfold sV;split at h
 .rename_i ha;rw[if_pos ha];split at h
  .rename_i hp;rw[if_pos hp,if_pos hp];simp only[];rw[Dt,Wf hq hv,abs_eq,if_neg (by grind)];grind
  .rename_i hp;rw[if_neg hp,if_neg hp];split at h
   .rename_i l hl;simp only[hl];rw[Dt,We hq hv hl,abs_eq];split
    .grind
    .have:t.2=0:=by grind
     rw[this];grind
   .simp at h
 .rename_i ha;exact absurd h ha
theorem KO(hq:dt s.q):∀(ts:List Tm) (a:List Mu×Bool),(∀t∈ts,t.1<s.q.g.ag+s.q.g.us.length)->(ts.foldl (eP s.q.g.ag s.aq) a).2=true->W (iG s) (ts.foldl (eP s.q.g.ag s.aq) a).1=W (iG s) a.1-l9 s ts
 |[],a,_,_=>by simp only[ZJ,l9];grind
 |t::ts,a,hv,h=>by
  have h2:(eP s.q.g.ag s.aq a t).2=true:=by
   cases e:(eP s.q.g.ag s.aq a t).2
   .have:=Dr (ag:=s.q.g.ag) (aq:=s.aq) ts _ e;rw[Y6] at h;rw[this] at h;simp at h
   .rfl
  rw[Y6,KO hq ts _ (fun x hx=>hv x (by simp[hx])) h,V6 hq (hv t (by simp)) h2];simp only[l9];grind
theorem KS{f:Af}(hq:dt s.q)(hv:∀t∈f.ts,t.1<s.q.g.ag+s.q.g.us.length)(h:fQ s f=true):dp s f=f.c+l9 s f.ts:=by
 have h1:=KO hq f.ts ([],true) hv h;unfold dp;rw[if_pos h];show f.c+(jo s (ej s f)).c*((-1:Int):Rat)=_;rw[Nd,m1];have h2:W (iG s) (ej s f)=0-l9 s f.ts:=h1;rw[h2];grind
end
def KB(j:Nat):Nat:=5000*3^j
structure nM(q:Qu)(m:Lm):Prop where
 u0:0<=m.unit
 u:m.unit.toNat<q.g.us.length
 can:m.v=an m.v.q
 hb:Hb m.v.q (KB m.unit.toNat)
structure dx(s:Sc):Prop where
 q:dt s.q
 d:∀d∈s.path,j7 200 s.q d
 pl:s.path.length<=100
 l:∀m∈s.aq,nM s.q m
 ll:s.aq.length<=100
theorem DB{j:Nat}(h:j<4):KB j<=135000:=by
 unfold KB;have:3^j<=3^3:=X3 (by decide) (by omega);omega
theorem dx.B{s:Sc}(h:dx s):∀m∈s.aq,Fq m.v 135001:=by
 intro m hm;have h1:=h.l m hm;rw[h1.can];have h2:=h.q.g.u4;have h3:=DB (j:=m.unit.toNat) (by have:=h1.u;omega);haveI:=(h1.hb.mono h3).br;exact Fq.of
def j8(ag v:Nat):Nat:=if v<ag then 11 else KB (v-ag)+4
def wS(ag:Nat):Nat->Nat
 |0=>0
 |n+1=>wS ag n+j8 ag n
theorem Ed(ag:Nat){a b:Nat}(h:a<=b):wS ag a<=wS ag b:=by
 induction b with
 |zero=>
      have:a=0:=by omega
      subst this;exact XP _
 |succ b ih=>
  by_cases e:a=b+1
  .subst e;exact XP _
  .have:=ih (by omega);show _<=wS ag b+j8 ag b;omega
theorem Ee(ag:Nat):∀n,n<=ag->wS ag n=11*n
 |0,_=>rfl
 |n+1,h=>by
  show wS ag n+j8 ag n=_;rw[Ee ag n (by omega)];unfold j8;rw[if_pos (by omega)];omega
theorem wz(ag:Nat):∀j,wS ag (ag+j)+5000<=11*ag+4*j+5000*3^j
 |0=>by
  show wS ag ag+5000<=_;rw[Ee ag ag (XP _)];omega
 |j+1=>by
  have ih:=wz ag j;show wS ag (ag+j)+j8 ag (ag+j)+5000<=_;unfold j8;rw[if_neg (by omega),show ag+j-ag=j by omega,Yb];unfold KB;omega
theorem Hb.z{n:Nat}:Hb 0 n:=Hb.zero.mono (XS _)
theorem Vp{s:Sc}(h:dx s){t:Tm}(hv:t.1<s.q.g.ag+s.q.g.us.length):Hb (sV s t) (j8 s.q.g.ag t.1-4):=by
 have hl:=h.q.r.lo;have hh:=h.q.r.hi;unfold sV lb ub j8;by_cases hi:t.1<s.q.g.ag
 .obtain⟨x,hx⟩:∃x,s.q.r.lo[t.1]?=some x:=⟨_,XM (by omega)⟩;obtain⟨y,hy⟩:∃y,s.q.r.hi[t.1]?=some y:=⟨_,XM (by omega)⟩;obtain⟨h1,h2,_⟩:=h.q.r.bd _ _ _ hx hy;simp only[if_pos hi,hx,hy,Yt];split
  .exact h1.mono (by omega)
  .exact h2.mono (by omega)
 .simp only[if_neg hi];split
  .exact Hb.z
  .split
   .exact Hb.z
   .rename_i hne;obtain⟨z,hz,zu,zp,hlz,hz0,hzl⟩:=zi (fun e=>hne (.inl e));rw[hlz];have:=(h.l z (XR hz)).hb;rw[zu] at this;exact this.mono (by show KB (t.1-s.q.g.ag)<=_;omega)
theorem CZ{s:Sc}(h:dx s){n:Nat}(hn:n<=s.q.g.ag+s.q.g.us.length):∀(ts:List Tm) (a:Nat),b6 ts->(∀t∈ts,Hb t.2 3)->(∀t∈ts,a<=t.1/\t.1<n)->Hb (l9 s ts) (wS s.q.g.ag n-wS s.q.g.ag a)
 |[],a,_,_,_=>Hb.z
 |t::ts,a,hc,hb,hv=>by
  obtain⟨c1,c2,c3⟩:=hc;have ht:=hv t (by simp);have ih:=CZ h hn ts (t.1+1) c3 (fun x hx=>hb x (by simp[hx])) (fun x hx=>⟨c2 x hx,(hv x (by simp[hx])).2⟩);haveI h1:=hb t (by simp);haveI h2:=Vp h (t:=t) (by omega);haveI h3:=ih;have h4:Hb (t.2*sV s t+l9 s ts) (3+(j8 s.q.g.ag t.1-4)+(wS s.q.g.ag n-wS s.q.g.ag (t.1+1))+1):=Hb.add;refine h4.mono ?_;have e1:=Ed s.q.g.ag (show t.1+1<=n by omega);have e2:=Ed s.q.g.ag ht.1;have e3:wS s.q.g.ag (t.1+1)=wS s.q.g.ag t.1+j8 s.q.g.ag t.1:=rfl;have e4:4<=j8 s.q.g.ag t.1:=by unfold j8;split <;> omega
  omega
theorem KR{s:Sc}(h:dx s){f:Af}{n:Nat}(hn:n<=s.q.g.ag+s.q.g.us.length)(hf:c9 3 n f)(hb:fQ s f=true):Hb (dp s f) (wS s.q.g.ag n+4):=by
 rw[KS h.q (fun t ht=>by have:=hf.var t ht;omega) hb];haveI:=hf.cb;haveI:=CZ h hn f.ts 0 hf.can hf.bd (fun t ht=>⟨XS _,hf.var t ht⟩);have h4:Hb (f.c+l9 s f.ts) (3+(wS s.q.g.ag n-wS s.q.g.ag 0)+1):=Hb.add;exact h4.mono (by have:wS s.q.g.ag 0=0:=rfl;omega)
theorem tG{s:Sc}(h:dx s){f:Af}{j:Nat}(hj:j<s.q.g.us.length)(hf:c9 3 (s.q.g.ag+j) f)(hb:fQ s f=true):Hb (dp s f) (KB j-4200):=by
 refine(KR h (by omega) hf hb).mono ?_;have h1:=wz s.q.g.ag j;have h2:=h.q.g.i3;have h3:=h.q.g.u4;unfold KB;omega
end Rc
namespace Rc
open Go
def Ew:Nat->Nat->Nat
 |0,_=>0
 |f+1,n=>if n%2=0 then Ew f (n/2)+1 else 0
def tz(n:Nat):Nat:=Ew (bl n) n
def vM:List Nat:=[0,1,28,2,29,14,24,3,30,22,20,15,25,17,4,8,31,27,13,23,21,19,16,7,26,12,18,6,11,5,10,9]
structure Dy where
 neg:Bool
 iW:Nat
 exp:Int
def Dy.zero:Dy:=⟨false,0,0⟩
def GH(n:Nat)(e:Int):Bool:=n == 0||(decide (-1048576<=e+tz n)&&decide (e+tz n<=1048576))
def kO(s:Bool)(n:Nat)(e:Int):Dy:=if n=0 then Dy.zero else if GH n e then⟨s,n/2^tz n,e+tz n⟩ else Dy.zero
theorem QA(s:Bool)(n:Nat)(e:Int):(kO s n e).iW<=n:=by
 unfold kO;split
 .exact XS _
 .split
  .exact Yy _ _
  .exact XS _
theorem GD(s:Bool)(n:Nat)(e:Int):-1048576<=(kO s n e).exp/\(kO s n e).exp<=1048576:=by
 unfold kO;split
 .decide
 .rename_i h0;split
  .rename_i h;unfold GH at h;simp only[YO,beq_iff_eq,XQ,decide_eq_true_eq] at h;rcases h with h|h
   .exact absurd h h0
   .exact h
  .decide
end Rc
namespace Rc
open Go Go.RowKit
structure zH(k:Nat)(d:Dy):Prop where
 n:(ah d.iW).length<=k
 lo:-1048576<=d.exp
 hi:d.exp<=1048576
class Bd (d:Dy) (k:outParam Nat):Prop where
 fit:zH k d
theorem zH.mono{d:Dy}{k k':Nat}(h:zH k d)(hk:k<=k'):zH k' d:=⟨XY h.n hk,h.lo,h.hi⟩
instance Bn.XI{d:Dy}{k:Nat}[h:Bd d k]:Bn d.iW k:=⟨h.fit.n⟩
instance Bd.kO{s:Bool}{n:Nat}{e:Int}{k:Nat}[h:Bn n k]:Bd (kO s n e) k:=
 ⟨⟨(Bn.mono (QA s n e) h).le,(GD s n e).1,(GD s n e).2⟩⟩
instance Bd.zero:Bd Dy.zero 0:=⟨⟨by show(ah 0).length<=0;rw[cJ];exact XP _,by decide,by decide⟩⟩
instance Bz.num{r:Rat}{k:Nat}[h:Br r k]:Bz r.num k:=⟨h.fit.n⟩
instance Bn.den{r:Rat}{k:Nat}[h:Br r k]:Bn r.den (k+1):=Bn.of (Ye h.den (YJ (by decide) (Zf _)))
def Cp(r:Rat):Dy:=if bl r.den=tz r.den+1 then kO (decide (r.num<0)) r.num.natAbs (-(tz r.den:Int)) else Dy.zero
instance Bd.Cp{r:Rat}{k:Nat}[h:Br r k]:Bd (Cp r) k:=by
 unfold Rc.Cp;split
 .haveI:Bn r.num.natAbs k:=Bz.bn (Bz.num (r:=r))
  infer_instance
 .exact⟨Bd.zero.fit.mono (XS _)⟩
def dq(d:Dy):Rat:=if 0<=d.exp then rq d.neg (d.iW*2^d.exp.toNat) 0 else rq d.neg d.iW (2^(-d.exp).toNat)
theorem Ge{k j:Nat}(h:k<32*j):2^k<4294967296^j:=by
 rw[gD];exact YJ (by decide) h
theorem Bn.shift{n i k:Nat}(j:Nat)(h:Bn n i)(hk:k<32*j):Bn (n*2^k) (i+j):=Bn.of (Bj h.lt (Ge hk))
theorem Br.UA{d:Dy}{k:Nat}(j:Nat)(h:Bd d k)(hj:d.exp.natAbs<32*j):Br (dq d) (k+j+1):=by
 have hn:Bn d.iW k:=⟨h.fit.n⟩;unfold Rc.dq;split
 .exact Br.Az (i:=k+j+1) (j:=0) (XZ (hn.shift (k:=d.exp.toNat) j (by omega)).lt (X3 (by decide) (by omega))) (by simp) (by omega)
 .exact Br.rq (k:=k+j+1) (XZ hn.lt (X3 (by decide) (by omega))) (XZ (Ge (k:=(-d.exp).toNat) (j:=j) (by omega)) (X3 (by decide) (by omega)))
instance Br.dq{d:Dy}{k:Nat}[h:Bd d k]:Br (dq d) (k+32769+1):=Br.UA 32769 h (by have:=h.fit.lo;have:=h.fit.hi;omega)
theorem Kh{n k:Nat}(h:(ah n).length<=k):bl n<=32*k:=gQ (by rw[<-gD];exact dm.1 h)
def lg(a b:Nat):Int:=
 if 0<=(bl a:Int)-bl b then(if a<b*2^((bl a:Int)-bl b).toNat then(bl a:Int)-bl b-1 else(bl a:Int)-bl b)
 else(if a*2^(-((bl a:Int)-bl b)).toNat<b then(bl a:Int)-bl b-1 else(bl a:Int)-bl b)
theorem RT(a b:Nat):lg a b=(bl a:Int)-bl b\/lg a b=(bl a:Int)-bl b-1:=by
 unfold lg;split <;> split <;> simp
theorem RU{a b k j:Nat}(ha:(ah a).length<=k)(hb:(ah b).length<=j):-(32*j:Int)-1<=lg a b/\lg a b<=32*k:=by
 have h1:=Kh ha;have h2:=Kh hb;rcases RT a b with h|h <;> omega
def mJ(n:Nat)(e:Int):Nat:=if 0<=e then n else n*2^(-e).toNat
def wV(d:Nat)(e:Int):Nat:=if 0<=e then d*2^e.toNat else d
def rk(a b:Nat)(e:Int)(away:Bool):Nat:=if away&&decide (mJ a e%wV b e≠0) then mJ a e/wV b e+1 else mJ a e/wV b e
def FK(s:Bool)(a b:Nat)(p:Int)(away:Bool):Dy:=kO s (rk a b (lg a b-p+1) away) (lg a b-p+1)
def AF(r:Rat)(p:Int)(away:Bool):Dy:=if p<1\/4096<p\/r.num=0 then Dy.zero else FK (decide (r.num<0)) r.num.natAbs r.den p away
theorem Bn.mJ{a i:Nat}{e:Int}(j:Nat)(h:Bn a i)(hj:e.natAbs<32*j):Bn (mJ a e) (i+j):=by
 unfold Rc.mJ;split
 .exact⟨XY h.le (by omega)⟩
 .exact h.shift j (by omega)
theorem Bn.rk{a b i:Nat}{e:Int}{up:Bool}(j:Nat)(h:Bn a i)(hj:e.natAbs<32*j):Bn (rk a b e up) (i+j+1):=by
 have h1:=h.mJ j hj;have h2:Rc.rk a b e up<=Rc.mJ a e+1:=by
  have:=Yy (Rc.mJ a e) (wV b e);unfold Rc.rk;split <;> omega
 exact Bn.mono h2 (Bn.of (XZ (Nat.succ_lt_succ h1.lt) (by rw[Yb];have:=Yp (n:=i+j) (show 0<4294967296 by decide);omega)))
instance Bn.one:Bn 1 1:=⟨by rw[xL];exact XP _⟩
def nR(a b:Dy):Int:=if b.iW=0 then a.exp else if a.iW=0 then b.exp else min a.exp b.exp
def o5(a:Dy)(w:Int):Int:=aH a.neg (a.iW*2^(a.exp-w).toNat)
def Bl(a b:Dy):Dy:=kO (a.neg != b.neg) (a.iW*b.iW) (a.exp+b.exp)
def sZ(a b:Dy):Int:=o5 a (nR a b)+o5 b (nR a b)
def Dm(a b:Dy):Dy:=kO (decide (sZ a b<0)) (sZ a b).natAbs (nR a b)
def GM(d:Dy):Dy:=⟨!d.neg&&decide ((0:Int)<((ah d.iW).length:Int)),d.iW,d.exp⟩
instance Bd.GM{d:Dy}{k:Nat}[h:Bd d k]:Bd (GM d) k:=⟨⟨h.fit.n,h.fit.lo,h.fit.hi⟩⟩
instance Bd.Bl{a b:Dy}{i j:Nat}[ha:Bd a i][hb:Bd b j]:Bd (Bl a b) (i+j):=by unfold Rc.Bl;infer_instance
theorem LX{a b:Dy}{i j:Nat}(ha:Bd a i)(hb:Bd b j):-1048576<=nR a b/\nR a b<=1048576:=by
 have h1:=ha.fit.lo;have h2:=ha.fit.hi;have h3:=hb.fit.lo;have h4:=hb.fit.hi;unfold nR;split
 .omega
 .split <;> omega
theorem Bz.o5{a:Dy}{w:Int}{i:Nat}(j:Nat)(h:Bd a i)(hj:(a.exp-w).natAbs<32*j):Bz (o5 a w) (i+j):=by
 haveI hn:Bn a.iW i:=⟨h.fit.n⟩;haveI:Bn (a.iW*2^(a.exp-w).toNat) (i+j):=hn.shift j (by omega);unfold Rc.o5;infer_instance
instance Bz.sZ{a b:Dy}{i j:Nat}[ha:Bd a i][hb:Bd b j]:Bz (sZ a b) (i+65537+(j+65537)+1):=by
 have hw:=LX ha hb;have h1:=ha.fit.lo;have h2:=ha.fit.hi;have h3:=hb.fit.lo;have h4:=hb.fit.hi;haveI:=Bz.o5 (a:=a) (w:=nR a b) 65537 ha (by omega);haveI:=Bz.o5 (a:=b) (w:=nR a b) 65537 hb (by omega);unfold Rc.sZ;infer_instance
instance Bd.Dm{a b:Dy}{i j:Nat}[ha:Bd a i][hb:Bd b j]:Bd (Dm a b) (i+65537+(j+65537)+1):=by
 haveI:Bn (Rc.sZ a b).natAbs (i+65537+(j+65537)+1):=Bz.bn inferInstance;unfold Rc.Dm;infer_instance
instance Bd.AF{r:Rat}{p:Int}{w:Bool}[h:Br r 25000]:Bd (AF r p w) 52001:=by
 unfold Rc.AF;split
 .exact⟨Bd.zero.fit.mono (XS _)⟩
 .rename_i hc;have hnl:(ah (Int.natAbs r.num)).length<=25000:=Bz.use (z:=r.num) (XP _);have hdl:(ah r.den).length<=25001:=Bn.use (n:=r.den) (XP _);have hlg:=RU hnl hdl;haveI:=Bn.rk (b:=r.den) (e:=lg r.num.natAbs r.den-p+1) (up:=w) 27000 ⟨hnl⟩ (by omega);unfold FK;infer_instance
theorem nn{b:Bool}(h:(!b)=false):b=true:=by simpa using h
def zp(e:Int):Rat:=dq ⟨false,1,e⟩
theorem Hb.BC{r:Rat}{n k:Nat}(h:Hb r n)(hk:n<32*k):Br r k:=by
 have h1:2^n<4294967296^k:=by rw[gD];exact YJ (by decide) hk
 have h3:=h.num;have h4:=h.den;exact Br.of (by omega) (by omega)
theorem c9.neg{b n:Nat}{f:Af}(h:c9 b n f):c9 b n (bN f ((-1:Int):Rat)):=by
 have hneg:∀{x:Rat},Hb x b->Hb (x*((-1:Int):Rat)) b:=fun {x} hx=>by
  have:x*((-1:Int):Rat) = -x:=by rw[m1];grind
  rw[this];haveI:=hx;exact Hb.neg
 refine⟨by show b6 (dA f.ts _);rw[jL];exact q8 h.can,fun t ht=>?_,hneg h.cb,fun t ht=>?_⟩
 .have ht:t∈dA f.ts ((-1:Int):Rat):=ht;rw[jL] at ht;obtain⟨u,h1,h2,h3,_⟩:=mH ht;rw[h3];exact hneg (h.bd u h1)
 .have ht:t∈dA f.ts ((-1:Int):Rat):=ht;rw[jL] at ht;obtain⟨u,h1,h2,_⟩:=mH ht;rw[<-h2];exact h.var u h1
def bU(s:Sc)(l:List Lm):Sc:=⟨s.q,s.path,l⟩
@[reducible] def eN(p:Af):Af:=bN p ((-1:Int):Rat)
def nG(s:Sc)(l:List Lm)(j:Nat)(p:Af):List Lm:=if fQ (bU s l) p=true then[⟨(j:Int),false,an (dp (bU s l) p),ej (bU s l) p⟩] else[]
def nE(s:Sc)(l:List Lm)(j:Nat)(p:Af):List Lm:=if fQ (bU s l) (eN p)=true then[⟨(j:Int),true,an (-dp (bU s l) (eN p)),ej (bU s l) (eN p)⟩] else[]
def C6(s:Sc)(l:List Lm)(j:Nat):List Lm:=
 match s.q.g.us[j]? with
 |none=>l
 |some p=>l++nG s l j p++nE s l j p
def jc(s:Sc)(n:Nat):List Lm:=(List.range n).foldl (C6 s) s.aq
theorem Vy(s:Sc)(n:Nat):jc s (n+1)=C6 s (jc s n) n:=by unfold jc;rw[ZT,YK];rfl
theorem qm{s:Sc}{n:Nat}{p:Af}(h:s.q.g.us[n]?=some p):jc s (n+1)=jc s n++nG s (jc s n) n p++nE s (jc s n) n p:=by
 rw[Vy];unfold C6;rw[h]
theorem Ko{s:Sc}{l:List Lm}{j:Nat}{p:Af}(h:fQ (bU s l) p=true):nG s l j p=[⟨(j:Int),false,an (dp (bU s l) p),ej (bU s l) p⟩]:=if_pos h
theorem Kp{s:Sc}{l:List Lm}{j:Nat}{p:Af}(h:fQ (bU s l) p=false):nG s l j p=[]:=if_neg (by rw[h];decide)
theorem Km{s:Sc}{l:List Lm}{j:Nat}{p:Af}(h:fQ (bU s l) (eN p)=true):nE s l j p=[⟨(j:Int),true,an (-dp (bU s l) (eN p)),ej (bU s l) (eN p)⟩]:=if_pos h
theorem Kn{s:Sc}{l:List Lm}{j:Nat}{p:Af}(h:fQ (bU s l) (eN p)=false):nE s l j p=[]:=if_neg (by rw[h];decide)
def c8(s:Sc):Sc:=bU s (jc s s.q.g.us.length)
theorem GL{s:Sc}(h:dx s){f:Af}{j:Nat}{up:Bool}{x:Rat}{l:List Mu}(hj:j<s.q.g.us.length)(hx:Hb x (KB j)):nM s.q ⟨(j:Int),up,an x,l⟩:=
 ⟨by simp,by simpa using hj,by rw[aG],by rw[aG];simpa using hx⟩
theorem nM.bU{s:Sc}{l:List Lm}(h:dx s)(hl:∀m∈l,nM s.q m)(hll:l.length<=100):dx (Rc.bU s l):=⟨h.q,h.d,h.pl,hl,hll⟩
theorem VC{s:Sc}(h:dx s){l:List Lm}{j:Nat}{p:Af}(hs:dx (bU s l))(hp:s.q.g.us[j]?=some p):(∀m∈nG s l j p,nM s.q m)/\(nG s l j p).length<=1:=by
 have hj:=(XN.1 hp).1;unfold nG;split
 .rename_i hb;refine⟨fun m hm=>?_,by simp⟩;rw[Ym] at hm;subst hm;exact GL (f:=p) h hj ((tG hs hj (hs.q.g.us _ p hp) hb).mono (by omega))
 .exact⟨fun m hm=>by simp at hm,by simp⟩
theorem Vz{s:Sc}(h:dx s){l:List Lm}{j:Nat}{p:Af}(hs:dx (bU s l))(hp:s.q.g.us[j]?=some p):(∀m∈nE s l j p,nM s.q m)/\(nE s l j p).length<=1:=by
 have hj:=(XN.1 hp).1;unfold nE;split
 .rename_i hb;refine⟨fun m hm=>?_,by simp⟩;rw[Ym] at hm;subst hm;have h1:=tG hs hj (hs.q.g.us _ p hp).neg hb;haveI:=h1.mono (show KB j-4200<=KB j by omega);exact GL (f:=p) h hj Hb.neg
 .exact⟨fun m hm=>by simp at hm,by simp⟩
theorem C8{s:Sc}(h:dx s)(h80:s.aq.length<=80):∀n,n<=s.q.g.us.length->(∀m∈jc s n,nM s.q m)/\(jc s n).length<=s.aq.length+2*n
 |0,_=>⟨h.l,XP _⟩
 |n+1,hn=>by
  obtain⟨h1,h2⟩:=C8 h h80 n (by omega);have h4:=h.q.g.u4;have hs:=nM.bU h h1 (by omega);obtain⟨p,hp⟩:∃p,s.q.g.us[n]?=some p:=⟨_,XM (by omega)⟩;obtain⟨a1,a2⟩:=VC h hs hp;obtain⟨b1,b2⟩:=Vz h hs hp;rw[qm hp];refine⟨fun m hm=>?_,by simp only[XX];omega⟩;rcases Yc.1 hm with hm|hm
  .rcases Yc.1 hm with hm|hm
   .exact h1 m hm
   .exact a1 m hm
  .exact b1 m hm
theorem C7{s:Sc}(h:dx s)(h80:s.aq.length<=80){n:Nat}(hn:n<=s.q.g.us.length):dx (bU s (jc s n)):=by
 obtain⟨h1,h2⟩:=C8 h h80 n hn;have h4:=h.q.g.u4;exact nM.bU h h1 (by omega)
theorem qj{s:Sc}(h:dx s)(h80:s.aq.length<=80):dx (c8 s)/\(c8 s).aq.length<=s.aq.length+8:=by
 have h4:=h.q.g.u4;obtain⟨h1,h2⟩:=C8 h h80 s.q.g.us.length (XP _);exact⟨C7 h h80 (XP _),by show(jc s s.q.g.us.length).length<=_;omega⟩
theorem KT{s:Sc}(h:dx s){f:Af}{j:Nat}(hj:j<s.q.g.us.length)(hf:c9 3 (s.q.g.ag+j) f):Br (dp s f) 135002:=by
 cases hb:fQ s f
 .unfold dp;rw[hb,if_neg (by decide)];exact Br.zero.mono (by omega)
 .have h4:=h.q.g.u4;have hk:=DB (j:=j) (by omega);exact((tG h hj hf hb).mono (show KB j-4200<=135000 by omega)).br.mono (by omega)
theorem qf(k i:Nat):D.agg [ab.val (.int .i64 (k:Int)),ab.val (.int .i64 (i:Int)),ab.val (.bool false),aT,aT]=D.agg [ab.val (.int .i64 (k:Int)),ab.val (.int .i64 (i:Int)),ab.val (.bool (bx 0)),ae (ah (aN 0)),ae (ah (aQ 0))]:=by
 rw[qg,qi,cJ];rfl
abbrev XK:Type:=Sc->Af->Rat×List Mu×Bool
end Rc
