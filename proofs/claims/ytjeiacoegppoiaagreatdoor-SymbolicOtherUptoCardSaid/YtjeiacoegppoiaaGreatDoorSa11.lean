/- Parts of the proof, 11: the texts WlA2, Best, Lw23, Der, Box, Ev, Mem, BoxB, BoxC, BoxW, WlB2, WlC2, WlD2, WlY, as far as they are used. -/
import Derived.Test.YtjeiacoegppoiaaGreatDoorSa10
set_option linter.unusedSimpArgs false
set_option linter.unusedVariables false
set_option maxRecDepth 10000
namespace Go.Proofs.YtjeiacoegppoiaaGreatDoor
open Go Go.RowKit Rc
theorem zBM(z:Int):Ctr Tryz.prog 228 [V.one (Leaf.val (.int .i64 (z)))] (R.one (V.one (Leaf.val (.bool false)))):=by
 refine bd_ Tryz.func228 Tryz.ntmps228 rfl (fun w0 A0=>?_);refine zc 9 rfl (tq_ rfl (neF rfl rfl) (zl 3 rfl ?_));exact r1_ hq_ rfl rfl
theorem zEk(a b:Int):Ctr Tryz.prog 187 [V.one (Leaf.val (.int .i64 (a))),V.one (Leaf.val (.int .i64 (b)))] (R.one (V.one (Leaf.val (.int .i64 (zl7 a b))))):=by
 refine bd_ Tryz.func187 Tryz.ntmps187 rfl (fun w0 A0=>?_);refine zc 8 rfl (tc_ zCN rfl (zBM a) (zl 6 rfl (tc_ zCN rfl (zBM b) (zl 24 rfl (zl 2 rfl ?_)))));by_cases h1:a<b
 .refine tq_ rfl (ltT rfl) (zl 8 rfl ?_);exact r1_ hq_ rfl (by unfold zl7;rw[if_pos h1])
 .refine tq_ rfl (ltF rfl) (zl 10 rfl ?_);by_cases h2:b<a
  .refine tq_ rfl (gtT rfl) (zl 8 rfl ?_);exact r1_ hq_ rfl (by unfold zl7;rw[if_neg h1,if_pos h2])
  .refine tq_ rfl (gtF rfl) (zl 10 rfl ?_);exact r1_ hq_ rfl (by unfold zl7;rw[if_neg h1,if_neg h2])
theorem cmpor(l:List Int)(hl:l.length<=1000):Ctr Tryz.prog 186 [V.one (El.row i64E l)] (R.one (V.one (Leaf.val (.int .i64 (zAr l))))):=by
 refine bd_ Tryz.func186 Tryz.ntmps186 rfl (fun w0 A0=>?_);refine zc 14 rfl (tq_ rfl (jln rfl) (zl 4 rfl (zbq (fun m Γ H=>∃(i:Nat),l.length-i=m/\Γ=[(3,some (D.val (.int .i64 0))),(6,some (D.v (V.one (El.row i64E l)))),(7,some (D.val (.int .i64 ((l.length:Nat):Int)))),(8,some (D.val (.int .i64 (i:Int))))]/\H=[]/\i<=l.length/\zAr l=zAr (l.drop i)) ⟨0,rfl,rfl,rfl,zEs _,rfl⟩ rfl ?_)));rintro m Γ H ⟨i,rfl,rfl,rfl,hi0,ho⟩;refine zc 2 rfl ?_;by_cases hi:i<l.length
 .refine tq_ rfl (ltT rfl) (zl 9 rfl ?_);obtain⟨x,hx⟩:∃x,l[i]?=some x:=⟨_,zEm hi⟩;refine zc 1 rfl (tq_ rfl (jix i hx rfl) (tq_ rfl (jli rfl) (zl 7 rfl ?_)));by_cases h0:x≠0
  .refine tq_ rfl (neT rfl) (zl 9 rfl ?_);exact r1_ hq_ rfl (by rw[ho,zbc hx,zAr,if_pos h0])
  .refine tq_ rfl (neF rfl) (zl 7 rfl (tq_ rfl (jad (i+1) rfl) (zl 2 rfl ?_)));exact nx_ ⟨i+1,rfl,rfl,rfl,hi,by rw[ho,zbc hx,zAr,if_neg h0]⟩ rfl
 .refine tq_ rfl (ltF rfl) (zl 15 rfl ?_);exact r1_ hq_ rfl (by rw[ho,List.drop_eq_nil_of_le (by omega)] <;> rfl)
theorem zDF(a b:Rw):Ctr Tryz.prog 121 [rwV a,rwV b] (R.one (V.one (Leaf.val (.int .i64 (zEl a b))))):=by
 refine bd_ Tryz.func121 Tryz.ntmps121 rfl (fun w0 A0=>?_);refine zc 8 rfl (dr_ 0 [] [] (dz 4 rfl (kc_ zuI rfl (zEk a.kind b.kind) (dz 4 rfl (kc_ zuI rfl (zEk a.idx b.idx) (dz 4 rfl (kc_ zuI rfl (zEk a.lo b.lo) (dz 4 rfl (kc_ zuI rfl (zEk a.hi b.hi) ?_)))))))));refine ke_ rfl (fun _=>zae rfl zAF ty3 tz3 rfl (by decide) (by decide) rfl (by decide) rfl) (kc_ fn186 rfl (cmpor ([(zl7 a.kind b.kind),(zl7 a.idx b.idx),(zl7 a.lo b.lo),(zl7 a.hi b.hi)]) (zEt rfl)) (dz 1 rfl (zad (za 1 rfl ?_))));exact r1_ hq_ rfl rfl
theorem cmp2(a b:Mu):Ctr Tryz.prog 120 [muV a,muV b] (R.one (V.one (Leaf.val (.int .i64 (zEl a.r b.r))))):=by
 refine bd_ Tryz.func120 Tryz.ntmps120 rfl (fun w0 A0=>?_);refine zc 13 rfl (tc_ fn121 rfl (zDF a.r b.r) (zl 3 rfl ?_));exact r1_ hq_ rfl rfl
theorem neg1(m:Mu){B:Nat}[Fq m.c B](hB:B<=100000000000)(h:0<=m.c.q):Ctr Tryz.prog 117 [muV m] (R.one (V.one (Leaf.val (.bool false)))):=by
 refine bd_ Tryz.func117 Tryz.ntmps117 rfl (fun w0 A0=>?_);refine zc 10 rfl (tc_ ziB rfl (zdm m.c (m.c.q) rfl (Fq.use (x:=m.c) (by omega))) (tq_ rfl (ltF rfl (by have:=zjb.2 h;omega)) (zl 3 rfl ?_)));exact r1_ hq_ rfl rfl
theorem zuz(l:List Mu)(hl:l.length<=1000){B:Nat}(hB:MB B l)(hB2:B<=100000000000)(hc:zi7 l):Ctr Tryz.prog 184 [V.one (El.row muE l),V.one (Leaf.val (.func (.func 117) #[] #[]))] (R.one (V.one (Leaf.val (.int .i64 (-1))))):=by
 refine bd_ Tryz.func184 Tryz.ntmps184 rfl (fun w0 A0=>?_);refine zc 9 rfl (tq_ rfl (jln rfl) (zl 4 rfl (zbq (fun m Γ H=>∃(i:Nat),l.length-i=m/\Γ=[(0,some (D.v (V.one (El.row muE l)))),(1,some (D.val (.func (.func 117) #[] #[]))),(7,some (D.val (.int .i64 ((l.length:Nat):Int)))),(8,some (D.val (.int .i64 (i:Int))))]/\H=[]/\i<=l.length) ⟨0,rfl,rfl,rfl,zEs _⟩ rfl ?_)));rintro m Γ H ⟨i,rfl,rfl,rfl,hi0⟩;refine zc 2 rfl ?_;by_cases hi:i<l.length
 .refine tq_ rfl (ltT rfl) (zl 15 rfl ?_);obtain⟨x,hx⟩:∃x,l[i]?=some x:=⟨_,zEm hi⟩;haveI hxB:=hB x (zEn hx);refine zc 4 rfl (tq_ rfl (jix i hx rfl) (tq_ rfl (jlr rfl) (te_ rfl (zhU rfl rfl fn117 rfl (neg1 x (by omega) (hc x (zEn hx)).2)) (zl 7 rfl (tq_ rfl (jad (i+1) rfl) (zl 2 rfl ?_))))));exact nx_ ⟨i+1,rfl,rfl,rfl,hi⟩ rfl
 .refine tq_ rfl (ltF rfl) (zl 14 rfl ?_);exact r1_ hq_ rfl rfl
theorem zuA(l:List Mu)(hl:l.length<=1000){B:Nat}(hB:MB B l)(hB2:B<=100000000000)(hc:zi7 l):Ctr Tryz.prog 116 [V.one (El.row muE l),V.one (Leaf.val (.func (.func 117) #[] #[]))] (R.one (V.one (Leaf.val (.bool false)))):=by
 refine bd_ Tryz.func116 Tryz.ntmps116 rfl (fun w0 A0=>?_);refine zc 9 rfl (tc_ fn184 rfl (zuz l hl hB hB2 hc) (zl 4 rfl ?_));exact r1_ hq_ rfl rfl
set_option maxHeartbeats 2000000 in
theorem zng(l:List Mu){B:Nat}(hc:zi7 l)(hB:MB B l)(hB2:B<=10000000000)(hl:l.length<=19):CtrT Tryz.prog 55 109 7 (El.all muE (zcv l)) [] [V.one (Leaf.val (.int .i64 0))] [V.one (El.row muE l)]:=by
 refine CtrT.of_body Tryz.func55 rfl Tryz.ntmps55 (zEt rfl) (fun w0 A0 hX=>?_);refine qc_ (zc 10 rfl (tc_ fn116 rfl (zuA l (by omega) hB (by omega) hc) (zl 8 rfl ?_)));refine zcy rfl rfl Tryz.func118 rfl rfl Tryz.ntmps118 (zEt rfl) rfl (fun a1 d1 s1=>?_);refine qc_ (zc 9 rfl ?_);refine zhS rfl rfl rfl rfl rfl zcE (fun b2 hnil=>?_);refine zl 2 rfl ?_;refine zao rfl (fun hn4=>?_) (fun hn4=>?_)
 .obtain⟨hl0,_⟩:=hnil hn4;have hl1:=zEy hl0;subst hl1;refine zc 2 rfl (zfi (u:=109) (sz:=7) rfl rfl rfl rfl rfl (zl 2 rfl (zhT [] (fun _ _ h=>h) d1 s1 rfl rfl rfl trivial (zl 6 rfl ?_))));refine zcy rfl rfl Tryz.func119 rfl rfl Tryz.ntmps119 (zEt rfl) rfl (fun a3 d3 s3=>?_);refine qc_ (zc 3 rfl (tq_ rfl (zdi rfl rfl rfl (by decide) rfl rfl (by decide) zcE) (zl 1 rfl ?_)));refine zcy rfl rfl Tryz.func185 rfl rfl Tryz.ntmps185 (zEt rfl) rfl (fun a4 d4 s4=>?_);refine qc_ (zc 14 rfl (zeg 1 (rn_ (zc 5 rfl (tq_ rfl (leF rfl (by decide)) (zl 14 rfl ?_))))));refine zcy rfl rfl Tryz.func226 rfl rfl Tryz.ntmps226 (zEt rfl) rfl (fun a5 d5 s5=>?_);refine qc_ (zc 3 rfl (tq_ rfl (zbg rfl rfl rfl (r:=1) (w64 (by decide) (by decide) (by decide))) (zl 4 rfl (zeg 1 (rn_ (zc 5 rfl (tq_ rfl (ltF rfl (by decide)) (zl 7 rfl ?_))))))));refine zcT [(0,some (D.own 0 0)),(1,some (D.val (.int .i64 ((0:Nat):Int)))),(2,some (D.val (.func (.func 120) #[] #[]))),(6,some (D.val (.int .i64 20))),(4004,some (D.own 0 0))] d5 s5 rfl rfl ⟨rfl,rfl,rfl,rfl,rfl,trivial⟩ (zl 3 rfl (zeg 1 (rn_ (zc 5 rfl (tq_ rfl (ltF rfl (by decide)) (zl 7 rfl ?_))))));refine zcT [(2004,some (D.own 0 0))] d4 s4 rfl rfl ⟨rfl,trivial⟩ (zl 1 rfl (zcT [(4,some (D.own 0 0))] d3 s3 rfl rfl ⟨rfl,trivial⟩ (zl 4 rfl (tq_ rfl (zb3 rfl (rfl)) (zl 4 rfl (zgu 5 109 7 rfl rfl (zc 5 rfl (zeg 1 (rn_ ?_)))))))));refine zc 5 rfl (tq_ rfl (zdi rfl rfl rfl (by decide) rfl rfl (by decide) zcE) (tq_ rfl (ltF rfl (by decide)) (zl 15 rfl ?_)));exact zo3 (fun _ _ h=>h) hX rfl (rowOk.own rfl rfl rfl) rfl rfl
 .refine zc 3 rfl (nz_ [so 0 (D.v (V.one (El.row muE l)))] [] rfl rfl (zc 1 rfl (zbQ rfl rfl rfl rfl zcE zbi rfl (zl 1 rfl ?_))));obtain⟨ti6,hi6,hz6,hs6,hb6⟩:=zuy;refine zbR rfl rfl rfl rfl rfl rfl rfl rfl rfl rfl (El.all_length muE l) (by decide) zcE zcE hi6 hz6 hs6 rfl (by simp only[maxLen];omega) (by rw[hb6];omega) (nm:=l.length) (Nat.zero_add _) (ls:=muE.all l) rfl (zl 3 rfl (zhT [] (fun _ _ h=>h) d1 s1 rfl rfl rfl trivial (zl 6 rfl ?_)));refine zcy rfl rfl Tryz.func119 rfl rfl Tryz.ntmps119 (zEt rfl) rfl (fun a7 d7 s7=>?_);refine qc_ (zc 3 rfl (tq_ rfl (zdi rfl rfl rfl (by decide) rfl (El.len_sz rfl rfl) (by decide) zcE) (zl 1 rfl ?_)));refine zcy rfl rfl Tryz.func185 rfl rfl Tryz.ntmps185 (zEt rfl) rfl (fun a8 d8 s8=>?_);refine qc_ (zc 14 rfl (zeg 1 (rn_ (zc 5 rfl (tq_ rfl (leF rfl) (zl 14 rfl ?_))))));refine zcy rfl rfl Tryz.func226 rfl rfl Tryz.ntmps226 (zEt rfl) rfl (fun a9 d9 s9=>?_);refine qc_ (zc 3 rfl (tq_ rfl (zbg rfl rfl rfl (r:=1) (w64 (by decide) (by decide) (by decide))) (zl 4 rfl ?_)));refine zbq (fun m Γ H=>∃(i:Nat) (u:List Mu),l.length-i=m/\Γ=[(0,some (D.own 0 l.length)),(1,some (D.val (.int .i64 0))),(2,some (D.val (.int .i64 ((l.length:Nat):Int)))),(3,some (D.val (.func (.func 120) #[] #[]))),(8,some (D.val (.int .i64 (i:Int)))),(2000,some (D.own 0 l.length)),(2001,some (D.val (.int .i64 ((l.length:Nat):Int)))),(2002,some (D.val (.func (.func 120) #[] #[]))),(2006,some (D.val (.int .i64 20))),(6004,some (D.own 0 l.length))]/\H=[hrw 109 7 muE u]/\1<=i/\InsOk l u i) ⟨1,l,rfl,rfl,rfl,zEq _,InsOk.start l⟩ rfl ?_;rintro m Γ H ⟨i,u,rfl,rfl,rfl,hi1,hI⟩;refine zc 5 rfl ?_;by_cases hi:i<l.length
  .refine tq_ rfl (ltT rfl) (zl 8 rfl ?_);have hul:=hI.len;obtain⟨x,hx⟩:∃x,u[i]?=some x:=⟨_,zEm (by omega)⟩;have htl:(u.take i).length=i:=by rw[zED];omega
   have hg0:Gt (u.take i) x i:=by have h:=Gt.start (A:=u.take i) (x:=x);rwa [htl] at h
   refine zc 6 rfl ?_;refine zbq (fun m Γ H=>∃(j:Nat),j=m/\Γ=[(0,some (D.own 0 l.length)),(1,some (D.val (.int .i64 0))),(2,some (D.val (.int .i64 ((l.length:Nat):Int)))),(3,some (D.val (.func (.func 120) #[] #[]))),(8,some (D.val (.int .i64 (i:Int)))),(9,some (D.val (.int .i64 (j:Int)))),(2000,some (D.own 0 l.length)),(2001,some (D.val (.int .i64 ((l.length:Nat):Int)))),(2002,some (D.val (.func (.func 120) #[] #[]))),(2006,some (D.val (.int .i64 20))),(6004,some (D.own 0 l.length))]/\H=[hrw 109 7 muE (zfc (u.take i) x j++u.drop (i+1))]/\j<=i/\Gt (u.take i) x j) ⟨i,rfl,rfl,by rw[<-zlS hx],zEq _,hg0⟩ rfl ?_;rintro m Γ H ⟨j,rfl,rfl,rfl,hji,hg⟩;have hsl:(zfc (u.take i) x j++u.drop (i+1)).length=l.length:=by rw[zEC,zhE,htl,zEM];omega
   refine zc 2 rfl (dr_ 0 [] [] (dz 2 rfl ?_));by_cases hj0:0<j
   .refine kq_ rfl (gtT rfl) (dz 1 rfl ?_);obtain⟨y,hy⟩:∃y,(u.take i)[j-1]?=some y:=⟨_,zEm (by omega)⟩;refine dz 3 rfl (kq_ rfl (zgv (i:=0) muE (zfc (u.take i) x j++u.drop (i+1)) (j) rfl rfl rfl rfl (by decide) zcE zbi (by omega) hsl) (kq_ rfl (zi5 (i:=0) muE (zfc (u.take i) x j++u.drop (i+1)) (j) (fo:=0) rfl rfl rfl (by decide) zbi (zop (by omega) _) rfl) (dz 2 rfl (kq_ rfl (jsb (j-1) rfl) ?_))));refine kq_ rfl (zgv (i:=0) muE (zfc (u.take i) x j++u.drop (i+1)) (j-1) rfl rfl rfl rfl (by decide) zcE zbi (by omega) hsl) (kq_ rfl (zi5 (i:=0) muE (zfc (u.take i) x j++u.drop (i+1)) (j-1) (fo:=0) rfl rfl rfl (by decide) zbi (zlT hj0 (by omega) hy _) rfl) (ke_ rfl (fun _=>zhU rfl rfl fn120 rfl (cmp2 x y)) ?_));by_cases hlt:zbd x.r y.r=true
    .refine kq_ rfl (ltT rfl (zsr.2 hlt)) (dz 1 rfl (zad (za 6 rfl (dr_ 0 [(15,0),(17,0)] [0] (dz 4 rfl (kq_ rfl (jsb (j-1) rfl) (dz 2 rfl (kq_ rfl (jsb (j-1) rfl) (kp_ [] rfl (zgv (i:=0) muE (zfc (u.take i) x j++u.drop (i+1)) (j-1) rfl rfl rfl rfl (by decide) zcE zbi (by omega) hsl) ?_)))))))));refine kp_ [] rfl (zi5 (i:=0) muE (zfc (u.take i) x j++u.drop (i+1)) (j-1) (fo:=0) rfl rfl rfl (by decide) zbi (zlT hj0 (by omega) hy _) rfl) (dz 2 rfl (kp_ [] rfl (zgv (i:=0) muE (zfc (u.take i) x j++u.drop (i+1)) (j) rfl rfl rfl rfl (by decide) zcE zbi (by omega) hsl) ?_));refine kp_ [] rfl (zi5 (i:=0) muE (zfc (u.take i) x j++u.drop (i+1)) (j) (fo:=0) rfl rfl rfl (by decide) zbi (zop (by omega) _) rfl) (kp_ [] rfl (zgv (i:=0) muE (zfc (u.take i) x j++u.drop (i+1)) (j) rfl rfl rfl rfl (by decide) zcE zbi (by omega) hsl) ?_);refine ki_ 0 rfl (zxb (n:=0) muE (zfc (u.take i) x j++u.drop (i+1)) (j) (y) rfl rfl rfl rfl zbi (by rw[hsl];omega)) (kp_ [] rfl (zgv (i:=0) muE ((zfc (u.take i) x j++u.drop (i+1)).set (j) y) (j-1) rfl rfl rfl rfl (by decide) zcE zbi (by omega) (by rw[List.length_set];exact hsl)) ?_);refine ki_ 0 rfl (zxb (n:=0) muE ((zfc (u.take i) x j++u.drop (i+1)).set (j) y) (j-1) (x) rfl rfl rfl rfl zbi (by rw[List.length_set,hsl];omega)) (zad (za 4 rfl (tq_ rfl (jsb (j-1) rfl) (zl 2 rfl ?_))));exact nx_ ⟨j-1,rfl,rfl,by rw[zrS hj0 (by omega) hy],by omega,hg.step hj0 hy hlt⟩ rfl
    .refine kq_ rfl (ltF rfl (fun e=>hlt (zsr.1 e))) (dz 1 rfl (zad (za 10 rfl (tq_ rfl (jad (i+1) rfl) (zl 2 rfl ?_)))));exact nx_ ⟨i+1,_,rfl,rfl,rfl,by omega,hI.next hx hji hg (.inr ⟨y,hy,by simpa using hlt⟩)⟩ rfl
   .refine kq_ rfl (gtF rfl) (dz 14 rfl (zad (za 10 rfl (tq_ rfl (jad (i+1) rfl) (zl 2 rfl ?_)))));exact nx_ ⟨i+1,_,rfl,rfl,rfl,by omega,hI.next hx hji hg (.inl (by omega))⟩ rfl
  .refine tq_ rfl (ltF rfl) (zl 7 rfl (zcT [(0,some (D.own 0 l.length)),(1,some (D.val (.int .i64 ((l.length:Nat):Int)))),(2,some (D.val (.func (.func 120) #[] #[]))),(6,some (D.val (.int .i64 20))),(4004,some (D.own 0 l.length))] d9 s9 rfl rfl ⟨rfl,rfl,rfl,rfl,rfl,trivial⟩ (zl 3 rfl (zeg 1 (rn_ (zc 5 rfl (tq_ rfl (ltF rfl) (zl 7 rfl ?_))))))));refine zcT [(2004,some (D.own 0 l.length))] d8 s8 rfl rfl ⟨rfl,trivial⟩ (zl 1 rfl (zcT [(4,some (D.own 0 l.length))] d7 s7 rfl rfl ⟨rfl,trivial⟩ (zl 3 rfl ?_)));have hul:=hI.len;have hsrt:Srt u:=by have:=hI.srt;rwa [zEV (by omega)] at this
   have hcu:zi7 u:=fun m hm=>hc m (hI.mem m hm);have hBu:MB B u:=fun m hm=>hB m (hI.mem m hm);refine zc 1 rfl (tq_ rfl (zb3 rfl (rfl)) (zl 4 rfl (zgu 5 109 7 rfl rfl (zc 5 rfl ?_))));refine zbq (fun m Γ H=>∃(i2:Nat) (n:Nat) (out:List Mu),l.length-i2=m/\Γ=[(4,some (D.own 0 l.length)),(5,some (D.v (V.one (Leaf.own 1 n)))),(6,some (D.val (.int .i64 (i2:Int))))]/\H=[hrw 109 7 muE u,hgr 109 7 muE out n]/\i2<=l.length/\GrpOk u out i2) ⟨0,0,[],rfl,rfl,rfl,zEs _,GrpOk.start u⟩ rfl ?_;rintro m Γ H ⟨i2,n,out,rfl,rfl,rfl,hi20,hG⟩;refine zc 5 rfl (tq_ rfl (zdi rfl rfl rfl (by decide) rfl (El.len_sz hul rfl) (by decide) zcE) ?_);by_cases hi2:i2<l.length
   .refine tq_ rfl (ltT rfl) (zl 7 rfl ?_);obtain⟨m0,h0⟩:∃m,u[i2]?=some m:=⟨_,zEm (by omega)⟩;refine zc 3 rfl (tq_ rfl (zgv (i:=0) muE u (i2) rfl rfl rfl rfl (by decide) zcE zbi hi2 hul) (zl 1 rfl (tq_ rfl (zi5 (i:=0) muE u (i2) (fo:=0) rfl rfl rfl (by decide) zxi h0 rfl) (zl 1 rfl (eq_ (D.agg (qL 0)) rfl (zBa) (zl 8 rfl ?_))))));refine zbq (fun m Γ H=>∃(i3:Nat) (sum:Rat),l.length-i3=m/\Γ=[(4,some (D.own 0 l.length)),(5,some (D.v (V.one (Leaf.own 1 n)))),(6,some (D.val (.int .i64 (i3:Int)))),(7,some (D.ptr 2 0)),(8,some (D.ptr 3 0))]/\H=[hrw 109 7 muE u,hgr 109 7 muE out n,hb_ 107 [Leaf.val (.int .i64 m0.r.kind),Leaf.val (.int .i64 m0.r.idx),Leaf.val (.int .i64 m0.r.lo),Leaf.val (.int .i64 m0.r.hi)],hb_ 36 (qL sum)]/\i3<=l.length/\InOk u m0.r i2 i3 sum/\Br sum (i3*(B+2))) ⟨i2,0,rfl,rfl,rfl,by omega,InOk.start u m0.r i2,Br.zero.mono (zEs _)⟩ rfl ?_;rintro m Γ H ⟨i3,sum,rfl,rfl,rfl,hi30,hS,hsB⟩;refine zc 2 rfl (nz_ [so 4 (D.own 0 l.length),so 5 (D.v (V.one (Leaf.own 1 n))),so 6 (D.val (.int .i64 (i3:Int))),so 7 (D.ptr 2 0),so 8 (D.ptr 3 0)] [hrw 109 7 muE u,hgr 109 7 muE out n,hb_ 107 [Leaf.val (.int .i64 m0.r.kind),Leaf.val (.int .i64 m0.r.idx),Leaf.val (.int .i64 m0.r.lo),Leaf.val (.int .i64 m0.r.hi)],hb_ 36 (qL sum)] rfl rfl (dr_ 0 [] [] (dz 2 rfl ?_)));refine kq_ rfl (zdi rfl rfl rfl (by decide) rfl (El.len_sz hul rfl) (by decide) zcE) ?_;by_cases hi3:i3<l.length
    .refine kq_ rfl (ltT rfl) (dz 1 rfl ?_);obtain⟨x3,hx3⟩:∃m,u[i3]?=some m:=⟨_,zEm (by omega)⟩;haveI hx3B:=hBu x3 (zEn hx3);refine dz 2 rfl (kq_ rfl (zgv (i:=0) muE u (i3) rfl rfl rfl rfl (by decide) zcE zbi (by omega) hul) (dz 1 rfl (kq_ rfl (zi5 (i:=0) muE u (i3) (fo:=0) rfl rfl rfl (by decide) zxi hx3 rfl) (dz 1 rfl ?_))));by_cases he:x3.r=m0.r
     .refine kq_ rfl (zk6 rfl rfl rfl zlB (d:=true) (zzr he)) (dz 1 rfl (zad (za 6 rfl ?_)));have hm3:=zEx (B+2) (show i3<=19 by omega);haveI hsB':=hsB;have hbr3:Br (sum+x3.c.q) ((i3+1)*(B+2)):=(inferInstance:Br (sum+x3.c.q) _).mono (by rw[Nat.succ_mul];omega);refine nz_ [so 4 _,so 5 _,so 6 _,so 7 _,so 8 _] [_,_,_,_] rfl rfl (dr_ 0 [(7,3)] [3] (kp_ [] rfl (zaJ rfl rfl rfl (by decide) zmx (by decide) (zEt rfl) rfl) (dz 2 rfl (kq_ rfl (zgv (i:=0) muE u (i3) rfl rfl rfl rfl (by decide) zcE zbi (by omega) hul) (dz 1 rfl ?_)))));refine kq_ rfl (zi5 (i:=0) muE u (i3) (fo:=4) rfl rfl rfl (by decide) zmx hx3 rfl) (zi8 (D.agg (qL x3.c.q)) rfl (zwL (hcu x3 (zEn hx3)).1) (kc_ zr9 rfl (zBd (qOf (sum)) (sum) (zaj _) (Br.use (by omega)) (qOf (x3.c.q)) (x3.c.q) (zaj _) (Br.use (by omega))) (dz 1 rfl (zad (za 2 rfl ?_)))));refine nz_ [so 4 _,so 5 _,so 6 _,so 7 _,so 8 _] [_,_,_,hb_ 36 (qL ((sum)+(x3.c.q)))] rfl rfl (zc 2 rfl (tq_ rfl (jad (i3+1) rfl) (zl 2 rfl ?_)));exact nx_ ⟨i3+1,_,rfl,rfl,rfl,by omega,hS.step hx3 he (hcu x3 (zEn hx3)).2,hbr3⟩ rfl
     .refine kq_ rfl (zk6 rfl rfl rfl zlB (d:=false) (zDm he)) (dz 1 rfl (zad (za 8 rfl ?_)));have hm3:=zEx (B+2) (show i3<=19 by omega);have hlt:i2<i3:=(by have h1:=hS.le;rcases Nat.lt_or_eq_of_le h1 with h|h <;> first|exact h|(subst h;rw[h0] at hx3;cases hx3;exact absurd rfl he));have hGn:=GrpOk.next hsrt hG hS h0 rfl hlt (fun m hm=>by rw[hx3] at hm;cases hm;exact he);have hol:=hG.len;refine zc 2 rfl (tc_ ziB rfl (zdm (qOf (sum)) (sum) (zaj _) (Br.use (by omega))) ?_);by_cases hp:0<sum
      .refine tq_ rfl (gtT rfl (zdU.2 hp)) (zl 3 rfl (nz_ [so 4 _,so 5 _,so 6 _,so 7 _,so 8 _] [_,_,_,_] rfl rfl (zc 5 rfl (te_ rfl (zae rfl zcE zbi zcU rfl (by decide) (by decide) rfl (by decide) rfl) (te_ rfl (jap (e:=muE) (⟨m0.r,(qOf (sum))⟩) rfl rfl) (zl 3 rfl (zal 2 (zal 3 (zaK 2 rfl ?_)))))))));exact nx_ ⟨i3,_,_,rfl,rfl,rfl,by omega,(by rw[if_pos hp] at hGn;exact hGn)⟩ rfl
      .refine tq_ rfl (gtF rfl (fun e=>hp (zdU.1 e))) (zl 5 rfl (zal 2 (zal 3 (zaK 2 rfl ?_))));exact nx_ ⟨i3,_,_,rfl,rfl,rfl,by omega,(by rw[if_neg hp] at hGn;exact hGn)⟩ rfl
    .refine kq_ rfl (ltF rfl) (dz 9 rfl (zad (za 8 rfl ?_)));have hm3:=zEx (B+2) (show i3<=19 by omega);have hlt:i2<i3:=(by have h1:=hS.le;omega);have hGn:=GrpOk.next hsrt hG hS h0 rfl hlt (fun m hm=>by have:=(zEo.1 hm).1;omega);have hol:=hG.len;refine nz_ [so 4 _,so 5 _,so 6 _,so 7 _,so 8 _] [_,_,_,_] rfl rfl (zc 2 rfl (tc_ ziB rfl (zdm (qOf (sum)) (sum) (zaj _) (Br.use (by omega))) ?_));by_cases hp:0<sum
     .refine tq_ rfl (gtT rfl (zdU.2 hp)) (zl 8 rfl (te_ rfl (zae rfl zcE zbi zcU rfl (by decide) (by decide) rfl (by decide) rfl) (te_ rfl (jap (e:=muE) (⟨m0.r,(qOf (sum))⟩) rfl rfl) (zl 3 rfl (zal 2 (zal 3 (zaK 2 rfl ?_)))))));exact nx_ ⟨i3,_,_,rfl,rfl,rfl,by omega,(by rw[if_pos hp] at hGn;exact hGn)⟩ rfl
     .refine tq_ rfl (gtF rfl (fun e=>hp (zdU.1 e))) (zl 5 rfl (zal 2 (zal 3 (zaK 2 rfl ?_))));exact nx_ ⟨i3,_,_,rfl,rfl,rfl,by omega,(by rw[if_neg hp] at hGn;exact hGn)⟩ rfl
   .refine tq_ rfl (ltF rfl) (zl 9 rfl ?_);have hie:i2=u.length:=by omega
    rw[hie] at hG;have hout:=zyf hc hI hG;refine nf_ [0] [so 5 (D.v (V.one (Leaf.own 1 n)))] [none,hgr 109 7 muE out n] rfl rfl rfl (zc 6 rfl ?_);exact zo3 (fun _ _ h=>h) hX rfl (rowOk.own rfl rfl (by rw[hout])) rfl rfl
end Go.Proofs.YtjeiacoegppoiaaGreatDoor
namespace Rc
open Go Go.RowKit
def sl(s:Sc)(up:Bool)(p:Af):List Mu:=if up=true then abL s (zbZ p) else abL s p
theorem zdN{ts:List Tm}{c:Rat}(h:CanT ts):CanT (scT ts c):=by rw[zd4];exact zfz h
theorem zpX{ts:List Tm}{c:Rat}(h:CanT ts)(v:Nat):co (scT ts c) v=co ts v*c:=by rw[zd4];exact zjN h v
theorem zwU{f g:Af}(hf:CanT f.ts)(hg:CanT g.ts)(v:Nat):co (zgy f g).ts v=co f.ts v+co g.ts v:=zfH hf hg v
theorem zgh{f:Af}{c:Rat}(hf:CanT f.ts)(v:Nat):co (fSc f c).ts v=co f.ts v*c:=zpX hf v
theorem zcZ{f g:Af}(hf:CanT f.ts)(hg:CanT g.ts)(v:Nat):co (zca f g).ts v=co f.ts v-co g.ts v:=by
 show co (zgE f.ts (scT g.ts ((-1:Int):Rat))) v=_;rw[zfH hf (zdN hg),zpX hg,m1];grind
theorem zgV{f g:Af}(hf:CanT f.ts):CanT (zca f g).ts:=zcp hf
theorem zfn(v:Nat):CanT (fV v).ts:=⟨by decide,fun t ht=>by simp at ht,trivial⟩
theorem ziL(c:Rat):CanT (fN c).ts:=trivial
theorem zmB(w v:Nat):co (fV w).ts v=if w=v then 1 else 0:=by
 show(if w=v then((1:Int):Rat) else co [] v)=_;rw[p1];rfl
theorem zsm(c:Rat)(v:Nat):co (fN c).ts v=0:=rfl
def coR(s:Sc)(v:Nat)(r:Rw):Rat:=co (zaI s r).1.ts v
section
variable {s:Sc}
def coS(v:Nat):List Tm->Rat
 |[]=>0
 |t::ts=>(if t.1=v then t.2 else 0)+coS v ts
theorem zso{v:Nat}:∀{ts:List Tm},CanT ts->coS v ts=co ts v
 |[],_=>rfl
 |(w,d)::ts,h=>by
  obtain⟨h1,h2,h3⟩:=h;show(if w=v then d else 0)+coS v ts=if w=v then d else co ts v;rw[zso h3];split
  .rename_i e;subst e;rw[zc9 h2];grind
  .grind
end
def zfR(x:Mu):Bool:=decide (x.c.n.length<=4)&&decide (x.c.d.length<=4)
def zeC(m:Lm):Bool:=(decide (m.v.n.length<=4)&&(decide (m.v.d.length<=4)&&decide (m.pf.length<=30)))&&m.pf.all zfR
def zh4(l:List Lm):Bool:=l.all zeC&&decide (l.length<=20)
theorem zj6{m:Lm}(h:¬(m.v.n.length<=4/\m.v.d.length<=4/\m.pf.length<=30)):zeC m=false:=by
 unfold zeC;cases hb:(decide (m.v.n.length<=4)&&(decide (m.v.d.length<=4)&&decide (m.pf.length<=30)))
 .rfl
 .simp only[zEA,decide_eq_true_eq] at hb;exact absurd hb h
theorem znX{m:Lm}{j:Nat}{x:Mu}(hx:m.pf[j]?=some x)(h:¬(x.c.n.length<=4/\x.c.d.length<=4)):zeC m=false:=by
 unfold zeC;have:zfR x=false:=by
  unfold zfR;cases hb:(decide (x.c.n.length<=4)&&decide (x.c.d.length<=4))
  .rfl
  .simp only[zEA,decide_eq_true_eq] at hb;exact absurd hb h
 rw[show m.pf.all zfR=false from by
  cases h2:m.pf.all zfR
  .rfl
  .have:=List.all_eq_true.1 h2 x (zEn hx);simp_all,Bool.and_false]
theorem zfS{l:List Lm}{i:Nat}{m:Lm}(hm:l[i]?=some m)(h:zeC m=false):zh4 l=false:=by
 unfold zh4;rw[show l.all zeC=false from by
  cases h2:l.all zeC
  .rfl
  .have:=List.all_eq_true.1 h2 m (zEn hm);simp_all,Bool.false_and]
theorem zoY{α:Type}{f:α->Bool}{l:List α}{i:Nat}{x:α}(hx:l[i]?=some x)(h:(l.take i).all f=true)(hp:f x=true):(l.take (i+1)).all f=true:=by
 rw[zaP hx,List.all_append,h];simp[hp]
theorem ztV{m:Lm}(h:m.v.n.length<=4/\m.v.d.length<=4/\m.pf.length<=30)(h2:m.pf.all zfR=true):zeC m=true:=by
 unfold zeC;rw[h2,decide_eq_true h.1,decide_eq_true h.2.1,decide_eq_true h.2.2];rfl
def lvr(l:List Lm)(n:Nat):Qr:=match l[n-1]? with|some m=>m.v|none=>qZero
theorem zc6{l:List Lm}{n:Nat}{m:Lm}(h:l[n-1]?=some m):lvr l n=m.v:=by unfold lvr;rw[h]
def zko(r:Rw):List Mu:=[⟨r,qOf ((1:Int):Rat)⟩]
def zEh(up:Bool)(i:Nat)(b:Rat×Rw)(k:Nat)(d:Dc):Rat×Rw:=
 if d.kind=(if up=true then 4 else 3)/\d.idx=i/\(if up=true then d.pt<b.1 else b.1<d.pt) then(d.pt,⟨4,(k:Int),0,0⟩) else b
def zoq(s:Sc)(i:Nat)(up:Bool):Rat×Rw:=if up=true then((s.q.r.hi[i]?).getD 0,⟨2,(i:Int),0,0⟩) else((s.q.r.lo[i]?).getD 0,⟨1,(i:Int),0,0⟩)
def inpT(s:Sc)(i:Nat)(up:Bool)(b:Rat×Rw)(k:Nat):Rat×Rw:=match s.path[k]? with|some d=>zEh up i b k d|none=>b
def zjJ(s:Sc)(i:Nat)(up:Bool)(n:Nat):Rat×Rw:=(List.range n).foldl (inpT s i up) (zoq s i up)
def zkv(s:Sc)(i:Nat)(up:Bool):Rat×Rw:=zjJ s i up s.path.length
theorem ziv{s:Sc}{i:Nat}{up:Bool}{n:Nat}{d:Dc}(h:s.path[n]?=some d):zjJ s i up (n+1)=zEh up i (zjJ s i up n) n d:=by
 unfold zjJ;rw[List.range_succ,zEO];simp only[List.foldl_cons,List.foldl_nil];show inpT s i up _ n=_;unfold inpT;rw[h]
@[reducible] def bLo(s:Sc)(j:Nat):Nat:=(zak s.lems (j:Int)).1
@[reducible] def bHi(s:Sc)(j:Nat):Nat:=(zak s.lems (j:Int)).2
@[reducible] def zuW(s:Sc)(j:Nat):Bool:=zfm s.path 1 (j:Int)
@[reducible] def zuY(s:Sc)(j:Nat):Bool:=zfm s.path 2 (j:Int)
def zpD(s:Sc)(j:Nat):Qr×List Mu:=
 if bLo s j≠0/\0<lv s.lems (bLo s j) then(lvr s.lems (bLo s j),[⟨⟨6,(j:Int),0,0⟩,qOf ((1:Int):Rat)⟩,⟨⟨11,(j:Int),(bLo s j:Int),0⟩,qOf ((1:Int):Rat)⟩])
 else(qZero,zko ⟨5,(j:Int),0,0⟩)
def zeW(s:Sc)(j:Nat):Option (Qr×List Mu):=
 if zuY s j=true\/(bHi s j≠0/\lv s.lems (bHi s j)<=0) then some (qZero,zko ⟨10,(j:Int),0,if zuY s j=true then 0 else(bHi s j:Int)⟩)
 else if bHi s j=0 then none
 else if zuW s j=true\/(bLo s j≠0/\0<=lv s.lems (bLo s j)) then some (lvr s.lems (bHi s j),[⟨⟨8,(j:Int),if zuW s j=true then 0 else(bLo s j:Int),0⟩,qOf ((1:Int):Rat)⟩,⟨⟨12,(j:Int),0,(bHi s j:Int)⟩,qOf ((1:Int):Rat)⟩])
 else if bLo s j=0 then none
 else some (lvr s.lems (bHi s j),[⟨⟨12,(j:Int),0,(bHi s j:Int)⟩,qOf (lv s.lems (bHi s j)*(((1:Int):Rat)/(lv s.lems (bHi s j)-lv s.lems (bLo s j))))⟩,⟨⟨13,(j:Int),(bLo s j:Int),(bHi s j:Int)⟩,qOf (((1:Int):Rat)/(lv s.lems (bHi s j)-lv s.lems (bLo s j)))⟩])
def zmg(s:Sc)(v:Nat)(up:Bool):Option (Qr×List Mu):=
 if v<s.q.g.inp then some (qOf (zkv s v up).1,zko (zkv s v up).2)
 else if up=true then zeW s (v-s.q.g.inp) else some (zpD s (v-s.q.g.inp))
def zoQ(s:Sc)(a:Option (Rat×List Mu))(t:Tm):Option (Rat×List Mu):=
 match a with
 |none=>none
 |some (x,l)=>match zmg s t.1 (decide (t.2<0)) with
  |none=>none
  |some (b,m)=>some (x+t.2*b.q,zaV l m (rq false (zav t.2) (zaC t.2)))
def zjP(s:Sc)(f:Af)(n:Nat):Option (Rat×List Mu):=(f.ts.take n).foldl (zoQ s) (some (f.c,[]))
def zmf(s:Sc)(f:Af):Option (Rat×List Mu):=zjP s f f.ts.length
def zb4:Dom:=fun s f=>match zmf s f with|some (x,l)=>(x,l,true)|none=>(0,[],false)
theorem zed{s:Sc}{f:Af}{n:Nat}{t:Tm}(h:f.ts[n]?=some t):zjP s f (n+1)=zoQ s (zjP s f n) t:=by
 unfold zjP;rw[zaP h,zEO];rfl
theorem zmd{s:Sc}:∀(ts:List Tm),ts.foldl (zoQ s) none=none
 |[]=>rfl
 |t::ts=>zmd ts
theorem zme{s:Sc}{f:Af}{n:Nat}(h:zjP s f n=none):zmf s f=none:=by
 unfold zmf zjP at *;rw[zEJ]
 conv=>lhs;rw[<-List.take_append_drop n f.ts,zEO,h]
 exact zmd _
theorem zdv{s:Sc}{f:Af}{x:Rat}{l:List Mu}(h:zmf s f=some (x,l)):zb4 s f=(x,l,true):=by unfold zb4;rw[h]
theorem zee{s:Sc}{f:Af}(h:zmf s f=none):zb4 s f=(0,[],false):=by unfold zb4;rw[h]
section
variable {s:Sc}
theorem zrZ{k:Nat}{d:Dc}(hd:s.path[k]?=some d)(h3:3<=d.kind):zaI s ⟨4,(k:Int),0,0⟩=(zeR d,true):=by
 unfold zaI;rw[if_neg (by show ¬(5:Int)<=4;decide),if_neg (by show ¬((0:Int)≠0\/(0:Int)≠0\/(k:Int)<0);omega),if_neg (by show ¬(4:Int)=1;decide),if_neg (by show ¬(4:Int)=2;decide),if_neg (by show ¬(4:Int)=3;decide),if_pos rfl];simp only[zgD,hd];rw[if_pos h3]
theorem zpL{j n:Nat}{p:Af}{m:Lm}(hp:s.q.g.us[j]?=some p)(hn:0<n)(hm:s.lems[n-1]?=some m)(hu:m.unit=(j:Int))(hup:m.up=false) :
  zaI s ⟨11,(j:Int),(n:Int),0⟩=(zca p (fN m.v.q),true):=
 zcu (by decide) hp (by
  unfold zbe;rw[if_neg (by simp),if_neg (by simp),if_neg (by simp),if_neg (by simp),if_neg (by simp),if_neg (by simp),if_pos rfl];unfold zus zdA;simp only[zjG hn hm hu hup];simp)
theorem zox{j:Nat}{p:Af}(hp:s.q.g.us[j]?=some p)(hd:zfm s.path 1 (j:Int)=true):zaI s ⟨8,(j:Int),0,0⟩=(zca p (fV (s.q.g.inp+j)),true):=
 zcu (by decide) hp (by
  unfold zbe;rw[if_neg (by simp),if_neg (by simp),if_neg (by simp),if_pos rfl];unfold onB;simp only[hd];simp)
theorem zlX{j:Nat}{p:Af}(hp:s.q.g.us[j]?=some p)(hd:zfm s.path 2 (j:Int)=true):zaI s ⟨10,(j:Int),0,0⟩=(fSc (fV (s.q.g.inp+j)) ((-1:Int):Rat),true):=
 zcu (by decide) hp (by
  unfold zbe;rw[if_neg (by simp),if_neg (by simp),if_neg (by simp),if_neg (by simp),if_neg (by simp),if_pos rfl];unfold zjA;simp only[hd];simp)
end
structure SB(B:Nat)(s:Sc):Prop where
 q:QOk s.q
 d:∀d∈s.path,DOk 200 s.q d
 pl:s.path.length<=100
 B:∀m∈s.lems,Fq m.v B
 ll:s.lems.length<=1000
structure BvOk(s:Sc)(B v:Nat)(up:Bool)(b:Qr)(l:List Mu):Prop where
 step:StepOk s (4*B+12) l
 fq:Fq b (B+201)
 co:∀w,W (coR s w) l=if v=w then(if up=true then -1 else 1) else 0
 wc:W (zg4 s) l=if up=true then b.q else -b.q
theorem zii{s:Sc}{r:Rw}{B:Nat}(h:(zaI s r).2=true):StepOk s (4*B+12) (zko r):=
 ⟨(zdH (B:=B) h).ok,(zdH (B:=B) h).pos,(zdH (B:=B) h).bd.mono (by omega),by simp[zko]⟩
theorem zjz(φ:Rw->Rat)(r:Rw):W φ (zko r)=φ r:=by unfold zko;simp only[W,zaj,p1];grind
theorem ite_sub{v w:Nat}:(if v=w then(1:Rat) else 0)-0=if v=w then 1 else 0:=by split <;> grind
structure InpOk(s:Sc)(i:Nat)(up:Bool)(n:Nat)(b:Rat×Rw):Prop where
 ok:(zaI s b.2).2=true
 hb:Hb b.1 200
 co:∀w,coR s w b.2=if i=w then(if up=true then -1 else 1) else 0
 wc:zg4 s b.2=if up=true then b.1 else -b.1
theorem zlU{B:Nat}{s:Sc}(hs:SB B s){i:Nat}(hi:i<s.q.g.inp)(up:Bool):∀n,n<=s.path.length->InpOk s i up n (zjJ s i up n)
 |0,_=>by
  have hl:=hs.q.r.lo;have hh:=hs.q.r.hi;obtain⟨a,ha⟩:∃a,s.q.r.lo[i]?=some a:=⟨_,zEm (by omega)⟩;obtain⟨c,hc⟩:∃c,s.q.r.hi[i]?=some c:=⟨_,zEm (by omega)⟩;obtain⟨h1,h2,_⟩:=hs.q.r.bd i a c ha hc;show InpOk s i up 0 (zoq s i up);unfold zoq;cases up
  .rw[if_neg (by decide),ha];have hf:=zm9 ha;refine⟨?_,h1.mono (by omega),fun w=>?_,?_⟩
   .show(zaI s ⟨1,(i:Int),0,0⟩).2=true;rw[hf]
   .show co (zaI s ⟨1,(i:Int),0,0⟩).1.ts w=_;rw[hf,zcZ (zfn _) (ziL _),zmB,zsm];split <;> (try simp) <;> (try grind)
   .show(zaI s ⟨1,(i:Int),0,0⟩).1.c = -a;rw[hf];show 0+a*((-1:Int):Rat) = -a;rw[m1];grind
  .rw[if_pos rfl,hc];have hf:=zna hc;refine⟨?_,h2.mono (by omega),fun w=>?_,?_⟩
   .show(zaI s ⟨2,(i:Int),0,0⟩).2=true;rw[hf]
   .show co (zaI s ⟨2,(i:Int),0,0⟩).1.ts w=_;rw[hf,zcZ (ziL _) (zfn _),zmB,zsm];split <;> (try simp) <;> (try grind)
   .show(zaI s ⟨2,(i:Int),0,0⟩).1.c=c;rw[hf];show c+0*((-1:Int):Rat)=c;grind
 |n+1,hn=>by
  have ih:=zlU hs hi up n (by omega);obtain⟨d,hd⟩:∃d,s.path[n]?=some d:=⟨_,zEm (by omega)⟩;have hok:=hs.d d (zEn hd);rw[ziv hd];by_cases hc:d.kind=(if up=true then 4 else 3)/\d.idx=i/\(if up=true then d.pt<(zjJ s i up n).1 else(zjJ s i up n).1<d.pt)
  .have e:zEh up i (zjJ s i up n) n d=(d.pt,⟨4,(n:Int),0,0⟩):=if_pos hc;rw[e];obtain⟨hk,hx,_⟩:=hc;have h3:3<=d.kind:=by rw[hk];split <;> omega
   have hf:=zrZ hd h3;refine⟨?_,hok.2,fun w=>?_,?_⟩
   .show(zaI s ⟨4,(n:Int),0,0⟩).2=true;rw[hf]
   .show co (zaI s ⟨4,(n:Int),0,0⟩).1.ts w=_;rw[hf];show co (zeR d).ts w=_;unfold zeR;cases up
    .rw[if_pos (by simpa using hk),zcZ (zfn _) (ziL _),zmB,zsm,hx];split <;> (try simp) <;> (try grind)
    .rw[if_neg (by simp at hk;omega),zgh (zgV (zfn _)),zcZ (zfn _) (ziL _),zmB,zsm,hx,m1];split <;> (try simp) <;> (try grind)
   .show(zaI s ⟨4,(n:Int),0,0⟩).1.c=_;rw[hf];show(zeR d).c=_;unfold zeR;cases up
    .rw[if_pos (by simpa using hk)];show 0+d.pt*((-1:Int):Rat) = -d.pt;rw[m1];grind
    .rw[if_neg (by simp at hk;omega)];show(0+d.pt*((-1:Int):Rat))*((-1:Int):Rat)=d.pt;rw[m1];grind
  .have e:zEh up i (zjJ s i up n) n d=zjJ s i up n:=if_neg hc;rw[e];exact⟨ih.ok,ih.hb,ih.co,ih.wc⟩
theorem zBH{B:Nat}{s:Sc}(hs:SB B s){j:Nat}(hj:j<s.q.g.us.length):BvOk s B (s.q.g.inp+j) false (zpD s j).1 (zpD s j).2:=by
 obtain⟨p,hp⟩:∃p,s.q.g.us[j]?=some p:=⟨_,zEm hj⟩;have hpc:=(hs.q.g.us j p hp).can;unfold zpD;split
 .rename_i h;obtain⟨y,hy,yu,yp,hly,hy0,hyl⟩:=zbv h.1;haveI:=hs.B y (zEn hy);have f1:=zjK hp;have f2:=zpL hp hy0 hy yu yp;simp only[zc6 hy];refine⟨⟨fun m hm=>?_,fun m hm=>?_,fun m hm=>?_,by simp⟩,(inferInstance:Fq y.v B).mono (by omega),fun w=>?_,?_⟩
  .simp at hm;rcases hm with rfl|rfl
   .rw[f1]
   .rw[f2]
  .simp at hm;rcases hm with rfl|rfl <;> rw[zaj] <;> decide
  .simp only[zEQ,List.not_mem_nil,or_false] at hm;rcases hm with rfl|rfl <;> exact Fq.of.mono (by omega)
  .simp only[W,coR,f1,f2,zaj,p1];rw[zcZ (zfn _) hpc,zcZ hpc (ziL _),zmB,zsm];simp;split <;> grind
  .simp only[W,zg4,f1,f2,zaj,p1,zca,fV,fN,m1];simp;grind
 .have f1:=zgd hp;refine⟨zii (by rw[f1]),⟨zf3⟩,fun w=>?_,?_⟩
  .rw[zjz];simp only[coR,f1,zmB];simp
  .rw[zjz];simp only[zg4,f1,fV,zdW];simp
theorem zyc{B:Nat}{s:Sc}(hs:SB B s){j:Nat}(hj:j<s.q.g.us.length){b:Qr}{l:List Mu}(h:zeW s j=some (b,l)):BvOk s B (s.q.g.inp+j) true b l:=by
 obtain⟨p,hp⟩:∃p,s.q.g.us[j]?=some p:=⟨_,zEm hj⟩;have hpc:=(hs.q.g.us j p hp).can;unfold zeW at h;split at h
 .rename_i hoff;cases h;have f1:zaI s ⟨10,(j:Int),0,if zuY s j=true then 0 else(bHi s j:Int)⟩=(fSc (fV (s.q.g.inp+j)) ((-1:Int):Rat),true):=by
   split
   .rename_i hd;exact zlX hp hd
   .rename_i hd;rcases hoff with h1|h1
    .exact absurd h1 hd
    .obtain⟨z,hz,zu,zp,hlz,hz0,hzl⟩:=zbJ h1.1;exact zhG hp hz0 hz zu zp (by rw[<-hlz];exact h1.2)
  refine⟨zii (by rw[f1]),⟨zf3⟩,fun w=>?_,?_⟩
  .rw[zjz];simp only[coR,f1];rw[zgh (zfn _),zmB,m1];simp;split <;> grind
  .rw[zjz];simp only[zg4,f1,fSc,fV,zdW,m1];simp
 .rename_i hoff;split at h
  .cases h
  .rename_i hh;obtain⟨z,hz,zu,zp,hlz,hz0,hzl⟩:=zbJ hh;haveI:=hs.B z (zEn hz);have f2:=ziA hp hz0 hz zu zp;have hu:0<z.v.q:=by
    have:¬z.v.q<=0:=fun e=>hoff (.inr ⟨hh,by rw[hlz];exact e⟩);grind
   split at h
   .rename_i hon;simp only[zEp,zEr] at h;obtain⟨rfl,rfl⟩:=h;have f1:zaI s ⟨8,(j:Int),if zuW s j=true then 0 else(bLo s j:Int),0⟩=(zca p (fV (s.q.g.inp+j)),true):=by
     split
     .rename_i hd;exact zox hp hd
     .rename_i hd;rcases hon with h1|h1
      .exact absurd h1 hd
      .obtain⟨y,hy,yu,yp,hly,hy0,hyl⟩:=zbv h1.1;exact zkA hp hy0 hy yu yp (by rw[<-hly];exact h1.2)
    rw[zc6 hz];refine⟨⟨fun m hm=>?_,fun m hm=>?_,fun m hm=>?_,by simp⟩,(inferInstance:Fq z.v B).mono (by omega),fun w=>?_,?_⟩
    .simp at hm;rcases hm with rfl|rfl
     .simp only[f1]
     .rw[f2]
    .simp at hm;rcases hm with rfl|rfl <;> rw[zaj] <;> decide
    .simp only[zEQ,List.not_mem_nil,or_false] at hm;rcases hm with rfl|rfl <;> exact Fq.of.mono (by omega)
    .simp only[W,coR,f1,f2,zaj,p1];rw[zcZ hpc (zfn _),zcZ (ziL _) hpc,zmB,zsm];simp;split <;> grind
    .simp only[W,zg4,f1,f2,zaj,p1,zca,fV,fN,m1];simp;grind
   .rename_i hon;split at h
    .cases h
    .rename_i hl;obtain⟨y,hy,yu,yp,hly,hy0,hyl⟩:=zbv hl;haveI:=hs.B y (zEn hy);have hl0:y.v.q<0:=by
      have:¬0<=y.v.q:=fun e=>hon (.inr ⟨hl,by rw[hly];exact e⟩);grind
     have f3:=zhF hp hy0 hy yu yp hz0 hz zu zp hl0 hu;simp only[zEp,zEr] at h;obtain⟨rfl,rfl⟩:=h;rw[zc6 hz,hlz,hly];have h2:0<z.v.q-y.v.q:=by grind
     have h3:0<((1:Int):Rat)/(z.v.q-y.v.q):=by
      rw[Rat.div_def];exact Rat.mul_pos (by decide) (Rat.inv_pos.2 h2)
     have h4:(z.v.q-y.v.q)*(((1:Int):Rat)/(z.v.q-y.v.q))=1:=by
      rw[Rat.div_def,p1,Rat.one_mul];exact Rat.mul_inv_cancel _ (by grind)
     refine⟨⟨fun m hm=>?_,fun m hm=>?_,fun m hm=>?_,by simp⟩,(inferInstance:Fq z.v B).mono (by omega),fun w=>?_,?_⟩
     .simp at hm;rcases hm with rfl|rfl
      .rw[f2]
      .rw[f3]
     .simp only[zEQ,List.not_mem_nil,or_false] at hm;rcases hm with rfl|rfl
      .show 0<(qOf _).q;rw[zaj];exact Rat.mul_pos hu h3
      .show 0<(qOf _).q;rw[zaj];exact h3
     .simp only[zEQ,List.not_mem_nil,or_false] at hm;rcases hm with rfl|rfl <;> exact Fq.of.mono (by omega)
     .simp only[W,coR,f2,f3,zaj];rw[zcZ (ziL _) hpc,zcZ (zdN (zgV hpc)) (zdN (zfn _)),zgh (zgV hpc),zcZ hpc (ziL _),zgh (zfn _),zmB,zsm,zsm];simp only[if_true];generalize ((1:Int):Rat)/(z.v.q-y.v.q)=t at *;split <;> grind
     .simp only[W,zg4,f2,f3,zaj,zca,fSc,fV,fN,m1,if_true];generalize ((1:Int):Rat)/(z.v.q-y.v.q)=t at *;grind
theorem zsL{B:Nat}{s:Sc}(hs:SB B s){v:Nat}(hv:v<s.q.g.inp+s.q.g.us.length){up:Bool}{b:Qr}{l:List Mu}(h:zmg s v up=some (b,l)):BvOk s B v up b l:=by
 unfold zmg at h;split at h
 .rename_i hi;simp only[zEp,zEr] at h;obtain⟨rfl,rfl⟩:=h;have hok:=zlU hs hi up s.path.length (zEq _);haveI:Br (zkv s v up).1 201:=hok.hb.br;exact⟨zii hok.ok,Fq.of.mono (by omega),fun w=>by rw[zjz];exact hok.co w,by rw[zjz,zaj];exact hok.wc⟩
 .rename_i hi;have e:v=s.q.g.inp+(v-s.q.g.inp):=by omega
  split at h
  .rename_i hu;subst hu;have:=zyc hs (j:=v-s.q.g.inp) (by omega) h
   rwa [<-e] at this
  .rename_i hu;simp only[zEp] at h;have:=zBH hs (j:=v-s.q.g.inp) (by omega);rw[h,<-e] at this;have hu:up=false:=by simpa using hu
   subst hu;exact this
structure BoxOk(s:Sc)(B F:Nat)(f:Af)(ts:List Tm)(x:Rat)(l:List Mu):Prop where
 der:DerOk s (ts.length*(8*B+2*F+40)) (2*ts.length) l
 co:∀w,W (coR s w) l=coS w ts
 wc:W (zg4 s) l=f.c-x
 br:Br x (F+ts.length*(B+F+210))
theorem zml(c:Rat):(c<0->rq false (zav c) (zaC c) = -c)/\(¬c<0->rq false (zav c) (zaC c)=c):=by
 rw[zo0];exact⟨fun h=>if_pos h,fun h=>if_neg h⟩
theorem zoI(w:Nat)(t:Tm):∀ts:List Tm,coS w (ts++[t])=coS w ts+if t.1=w then t.2 else 0
 |[]=>by simp only[List.nil_append,coS];grind
 |x::ts=>by simp only[List.cons_append,coS,zoI w t ts];grind
theorem zvb{B F:Nat}{s:Sc}(hs:SB B s){f:Af}{ts:List Tm}{t:Tm}{x:Rat}{l:List Mu}(hv:t.1<s.q.g.inp+s.q.g.us.length)(ht:Br t.2 F)(h:BoxOk s B F f ts x l){c:Qr}{m:List Mu}
  (hb:zmg s t.1 (decide (t.2<0))=some (c,m)):BoxOk s B F f (ts++[t]) (x+t.2*c.q) (zaV l m (rq false (zav t.2) (zaC t.2))):=by
 have hk:=zsL hs hv hb;have hd:=h.der;have hm:=hk.step;obtain⟨a1,a2⟩:=zml t.2;refine⟨⟨zf7 (P:=fun r=>(zaI s r).2=true) hd.ok hm.ok,ze8 (zef _) hd.can hm.pos,(zd8 hd.bd hm.bd).mono ?_,?_⟩,fun w=>?_,?_,?_⟩
 .have:=zEx (4*B+12+(F+1)+2) hm.len;simp only[zEC,List.length_singleton,Nat.add_mul,Nat.one_mul];omega
 .have:=zcI m l (rq false (zav t.2) (zaC t.2));have:=hd.len;have:=hm.len;simp only[zEC,List.length_singleton];omega
 .rw[zfK,h.co w,hk.co w,zoI];by_cases hn:t.2<0
  .rw[a1 hn,decide_eq_true hn];simp only[if_true];split <;> grind
  .rw[a2 hn,decide_eq_false hn];simp;split <;> grind
 .rw[zfK,h.wc,hk.wc];by_cases hn:t.2<0
  .rw[a1 hn,decide_eq_true hn];simp only[if_true];grind
  .rw[a2 hn,decide_eq_false hn];simp;grind
 .haveI:=h.br;haveI:=hk.fq;refine(inferInstance:Br (x+t.2*c.q) _).mono ?_;simp only[zEC,List.length_singleton,Nat.add_mul,Nat.one_mul];omega
theorem zmc{B F:Nat}{s:Sc}(hs:SB B s){f:Af}(hf:FL F (s.q.g.inp+s.q.g.us.length) f):∀n,n<=f.ts.length->∀x l,zjP s f n=some (x,l)->BoxOk s B F f (f.ts.take n) x l
 |0,_,x,l,h=>by
  simp only[zjP,List.take_zero,List.foldl_nil,zEp,zEr] at h;obtain⟨rfl,rfl⟩:=h;refine⟨⟨fun m hm=>by simp at hm,trivial,fun m hm=>by simp at hm,by simp⟩,fun w=>rfl,?_,hf.cb.mono (by omega)⟩;show(0:Rat)=_;grind
 |n+1,hn,x,l,h=>by
  obtain⟨t,ht⟩:∃t,f.ts[n]?=some t:=⟨_,zEm (by omega)⟩;have htm:=zEn ht;rw[zed ht] at h;rw[zaP ht]
  cases ho:zjP s f n with
  |none=>rw[ho] at h;simp[zoQ] at h
  |some a=>
   obtain⟨x0,l0⟩:=a;rw[ho] at h;have ih:=zmc hs hf n (by omega) x0 l0 ho;unfold zoQ at h;simp only at h
   cases hbn:zmg s t.1 (decide (t.2<0)) with
   |none=>rw[hbn] at h;simp at h
   |some a=>
    obtain⟨c,m⟩:=a;rw[hbn] at h;simp only[zEp,zEr] at h;obtain⟨rfl,rfl⟩:=h;exact zvb hs (hf.var t htm) (hf.bd t htm) ih hbn
theorem SOk.sb{s:Sc}(h:SOk s):SB 135001 s:=⟨h.q,h.d,h.pl,h.B,by have:=h.ll;omega⟩
theorem zDQ{f g:Af}(h1:f.ts=g.ts)(h2:f.c=g.c):f=g:=by cases f;cases g;simp at *;exact⟨h1,h2⟩
theorem zmF{B:Nat}{s:Sc}(hs:SB B s){v:Nat}:∀(l:List Mu) (a:Af),CanT a.ts->CanT (l.foldl (fun a m=>zgy a (fSc (zaI s m.r).1 m.c.q)) a).ts/\co (l.foldl (fun a m=>zgy a (fSc (zaI s m.r).1 m.c.q)) a).ts v=co a.ts v+W (coR s v) l
 |[],a,h=>⟨h,by simp only[List.foldl_nil,W];grind⟩
 |m::l,a,h=>by
  have hc:=(zkB (r:=m.r) hs.q hs.d hs.B).can;obtain⟨i1,i2⟩:=zmF hs (v:=v) l (zgy a (fSc (zaI s m.r).1 m.c.q)) (zcp h);refine⟨i1,?_⟩;rw[List.foldl_cons,i2,zwU h (zdN hc),zgh hc];simp only[W,coR];grind
def zqf(s:Sc)(f:Af)(x:Rat)(l:List Mu):Prop:=zlc s l=zca f (fN x)
theorem zwN{B:Nat}{s:Sc}(hs:SB B s){f:Af}{x:Rat}{l:List Mu}(hf:CanT f.ts)(h1:∀w,W (coR s w) l=co f.ts w)(h2:W (zg4 s) l=f.c-x):zqf s f x l:=by
 refine zDQ (zjO (zmF hs (v:=0) l fZ trivial).1 (zgV hf) (fun w=>?_)) ?_
 .have:=(zmF hs (v:=w) l fZ trivial).2;rw[show(zlc s l).ts=(l.foldl (fun a m=>zgy a (fSc (zaI s m.r).1 m.c.q)) fZ).ts from rfl,this,h1,zcZ hf (ziL _),zsm];show(0:Rat)+_=_;grind
 .rw[zv2,h2];show _=f.c+x*((-1:Int):Rat);rw[m1];grind
theorem zoR{B F:Nat}{s:Sc}(hs:SB B s){f:Af}(hf:FL F (s.q.g.inp+s.q.g.us.length) f){x:Rat}{l:List Mu}(h:zmf s f=some (x,l)):BoxOk s B F f f.ts x l:=by
 have:=zmc hs hf f.ts.length (zEq _) x l h
 rwa [zEJ] at this
theorem FL.len7{F:Nat}{s:Sc}(hq:QOk s.q){f:Af}(hf:FL F (s.q.g.inp+s.q.g.us.length) f):f.ts.length<=7:=by
 have:=hq.g.i3;have:=hq.g.u4;have:=(hf.fm (by omega)).len;have:=hq.g.i3;have:=hq.g.u4;omega
structure Bnd(s:Sc)(B F:Nat)(f:Af)(x:Rat)(l:List Mu):Prop where
 der:DerOk s (7*(8*B+2*F+40)) 14 l
 sum:zqf s f x l
 br:Br x (F+7*(B+F+210))
theorem znn{B F:Nat}{s:Sc}(hs:SB B s){f:Af}(hf:FL F (s.q.g.inp+s.q.g.us.length) f){x:Rat}{l:List Mu}(h:zmf s f=some (x,l)):Bnd s B F f x l:=by
 have h1:=zoR hs hf h;have h7:=hf.len7 hs.q;have h8:=zEx (8*B+2*F+40) h7;have h9:=zEx (B+F+210) h7;exact⟨⟨h1.der.ok,h1.der.can,h1.der.bd.mono h8,zEw h1.der.len (by omega)⟩,zwN hs hf.can (fun w=>by rw[h1.co w,zso hf.can]) h1.wc,h1.br.mono (by omega)⟩
theorem zsJ{B F:Nat}{s:Sc}(hs:SB B s){f:Af}(hf:FL F (s.q.g.inp+s.q.g.us.length) f):Br (zb4 s f).1 (F+7*(B+F+210)):=by
 cases h:zmf s f with
 |none=>rw[zee h];exact Br.zero.mono (zEs _)
 |some a=>obtain⟨x,l⟩:=a;rw[zdv h];exact(znn hs hf h).br
theorem zhL{B F:Nat}{s:Sc}(hs:SB B s){f:Af}(hf:FL F (s.q.g.inp+s.q.g.us.length) f):DerOk s (7*(8*B+2*F+40)) 14 (zb4 s f).2.1:=by
 cases h:zmf s f with
 |none=>rw[zee h];exact⟨fun m hm=>by simp at hm,trivial,fun m hm=>by simp at hm,by simp⟩
 |some a=>obtain⟨x,l⟩:=a;rw[zdv h];exact(znn hs hf h).der
theorem zvd{B F:Nat}{s:Sc}(hs:SB B s){f:Af}(hf:FL F (s.q.g.inp+s.q.g.us.length) f)(h:(zb4 s f).2.2=true):zqf s f (zb4 s f).1 (zb4 s f).2.1:=by
 cases ho:zmf s f with
 |none=>rw[zee ho] at h;simp at h
 |some a=>obtain⟨x,l⟩:=a;rw[zdv ho];exact(znn hs hf ho).sum
def wgB(inp v:Nat):Nat:=if v<inp then 204 else KB (v-inp)+4
def wB(inp:Nat):Nat->Nat
 |0=>0
 |n+1=>wB inp n+wgB inp n
theorem zqp(inp:Nat){a b:Nat}(h:a<=b):wB inp a<=wB inp b:=by
 induction b with
 |zero=>
      have:a=0:=by omega
      subst this;exact zEq _
 |succ b ih=>
  by_cases e:a=b+1
  .subst e;exact zEq _
  .have:=ih (by omega);simp only[wB];omega
theorem zvQ(inp:Nat):∀n,n<=inp->wB inp n=204*n
 |0,_=>rfl
 |n+1,h=>by have:=zvQ inp n (by omega);simp only[wB,wgB,this];rw[if_pos (by omega)];omega
theorem zqo(inp:Nat):∀j,wB inp (inp+j)+5000<=204*inp+4*j+5000*3^j
 |0=>by
  have:=zvQ inp inp (zEq _);show wB inp inp+5000<=_;omega
 |j+1=>by
  have:=zqo inp j;show wB inp (inp+j)+wgB inp (inp+j)+5000<=_;unfold wgB KB;rw[if_neg (by omega),show inp+j-inp=j by omega,zEF];omega
theorem zDG{s:Sc}(hs:SOk s){v:Nat}(hv:v<s.q.g.inp+s.q.g.us.length){up:Bool}{b:Qr}{l:List Mu}(h:zmg s v up=some (b,l)):Hb b.q (wgB s.q.g.inp v-4):=by
 have lvh:∀{n:Nat} {m:Lm},s.lems[n-1]?=some m->m.unit=((v-s.q.g.inp:Nat):Int)->Hb (lvr s.lems n).q (KB (v-s.q.g.inp)):=fun {n m} hm hu=>by
  rw[zc6 hm];have:=(hs.l m (zEn hm)).hb;rw[hu] at this;exact this
 unfold zmg at h;unfold wgB;split at h
 .rename_i hi;simp only[zEp,zEr] at h;obtain⟨rfl,rfl⟩:=h;rw[if_pos hi,zaj];exact(zlU hs.sb hi up s.path.length (zEq _)).hb
 .rename_i hi;rw[if_neg hi,Nat.add_sub_cancel];split at h
  .unfold zeW at h;split at h
   .cases h;rw[zdW];exact Hb.z
   .split at h
    .cases h
    .rename_i hh;obtain⟨z,hz,zu,_⟩:=zbJ hh;split at h
     .simp only[zEp,zEr] at h;rw[<-h.1];exact lvh hz zu
     .split at h
      .cases h
      .simp only[zEp,zEr] at h;rw[<-h.1];exact lvh hz zu
  .simp only[zEp] at h;unfold zpD at h;split at h
   .rename_i hl;obtain⟨y,hy,yu,_⟩:=zbv hl.1;simp only[zEr] at h;rw[<-h.1];exact lvh hy yu
   .simp only[zEr] at h;rw[<-h.1,zdW];exact Hb.z
def zm6(ts:List Tm)(n:Nat):Nat:=match n with|0=>0|k+1=>match ts[k]? with|some t=>t.1+1|none=>0
theorem zwX{s:Sc}(hs:SOk s){f:Af}{m:Nat}(hm:m<=s.q.g.inp+s.q.g.us.length)(hf:FOk 3 m f):∀n,n<=f.ts.length->∀x l,zjP s f n=some (x,l)->Hb x (4+wB s.q.g.inp (zm6 f.ts n))
 |0,_,x,l,h=>by
  simp only[zjP,List.take_zero,List.foldl_nil,zEp,zEr] at h;obtain⟨rfl,rfl⟩:=h;exact hf.cb.mono (by omega)
 |n+1,hn,x,l,h=>by
  obtain⟨t,ht⟩:∃t,f.ts[n]?=some t:=⟨_,zEm (by omega)⟩;have htm:=zEn ht;rw[zed ht] at h
  cases ho:zjP s f n with
  |none=>rw[ho] at h;simp[zoQ] at h
  |some a=>
   obtain⟨x0,l0⟩:=a;rw[ho] at h;have ih:=zwX hs hm hf n (by omega) x0 l0 ho;unfold zoQ at h;simp only at h
   cases hbn:zmg s t.1 (decide (t.2<0)) with
   |none=>rw[hbn] at h;simp at h
   |some a=>
    obtain⟨c,k⟩:=a;rw[hbn] at h;simp only[zEp,zEr] at h;obtain⟨rfl,rfl⟩:=h;have hv:=hf.var t htm;haveI:=ih;haveI:=zDG hs (zEv hv hm) hbn;haveI:=hf.bd t htm;have hw:zm6 f.ts n<=t.1:=by
     cases n with
     |zero=>exact zEs _
     |succ k=>
      obtain⟨y,hy⟩:∃y,f.ts[k]?=some y:=⟨_,zEm (by omega)⟩;simp only[zm6,hy];exact hf.can.prev (by omega) ht hy
    have h1:=zqp s.q.g.inp hw;have h2:4<=wgB s.q.g.inp t.1:=by unfold wgB;split <;> omega
    have h3:zm6 f.ts (n+1)=t.1+1:=by simp only[zm6,ht]
    rw[h3];refine(inferInstance:Hb (x0+t.2*c.q) _).mono ?_;simp only[wB];omega
theorem zzE:zhr zb4:=by
 intro s hs j f hj hf hb
 cases ho:zmf s f with
 |none=>rw[zee ho] at hb;simp at hb
 |some a=>
  obtain⟨x,l⟩:=a;rw[zdv ho];have h:=zwX hs (m:=s.q.g.inp+j) (by omega) hf f.ts.length (zEq _) x l ho;refine h.mono ?_;have h1:zm6 f.ts f.ts.length<=s.q.g.inp+j:=by
   unfold zm6;split
   .exact zEs _
   .rename_i k hk;obtain⟨t,ht⟩:∃t,f.ts[k]?=some t:=⟨_,zEm (by omega)⟩;rw[ht];exact hf.var t (zEn ht)
  have h2:=zqp s.q.g.inp h1;have h3:=zqo s.q.g.inp j;have h4:=hs.q.g.i3;have h5:=hs.q.g.u4;have:=zD3 j;unfold KB at *;omega
structure DomD(d:Dom):Prop where
 ok:zhr d
 der:∀s:Sc,SOk s->∀f:Af,FOk 3 (s.q.g.inp+s.q.g.us.length) f->DerOk s 60000000 14 (d s f).2.1
 sum:∀s:Sc,SOk s->∀f:Af,FOk 3 (s.q.g.inp+s.q.g.us.length) f->(d s f).2.2=true->zqf s f (d s f).1 (d s f).2.1
theorem zwY:DomD zb4:=⟨zzE,fun s hs f hf=>by
  have:=zhL hs.sb hf.fl;exact⟨this.ok,this.can,this.bd.mono (by omega),this.len⟩,fun s hs f hf h=>zvd hs.sb hf.fl h⟩
def boE:El Bool:=⟨fun b=>[Leaf.val (.bool b)],1,fun _=>rfl,fun _=>rfl⟩
@[reducible] def vwL(s:Sc):List Leaf:=[Leaf.val (.int .i64 (s.q.g.inp:Int)),afE.row s.q.g.us,afE.row s.q.g.os,ratE.row s.q.r.lo,ratE.row s.q.r.hi,afE.row s.q.r.rows,tmE.row s.q.goal.ts,Leaf.val (.bool (zaR s.q.goal.c)),zaf (zaa (zav s.q.goal.c)),zaf (zaa (zaC s.q.goal.c)),dcE.row s.path,lmE.row s.lems,boE.row (List.replicate s.path.length true)]
@[reducible] def vwV(s:Sc):V:=V.one (Leaf.rep (zaU (vwL s)))
theorem zri{n i:Nat}(h:i<n):(List.replicate n true)[i]?=some true:=by rw[List.getElem?_replicate,if_pos h]
theorem zua(n:Nat):List.replicate n true++[true]=List.replicate (n+1) true:=by rw[<-List.replicate_succ']
theorem zip(l:List Lm)(n:Nat):(lvr l n).q=lv l n:=by
 unfold lvr lv;split <;> rename_i h
 .rw[h]
 .rw[h];exact zdW
theorem zlQ{B:Nat}{l:List Lm}(h:∀m∈l,Fq m.v B)(n:Nat):Fq (lvr l n) B:=by
 unfold lvr;split
 .rename_i m hm;exact h m (zEn hm)
 .exact⟨zf3⟩
def zhm(s:Sc)(j:Nat):Qr×List Mu×Bool:=match zeW s j with|some (b,l)=>(b,l,true)|none=>(qZero,[],false)
def zbF(s:Sc)(v:Nat)(up:Bool):Qr×List Mu×Bool:=match zmg s v up with|some (b,l)=>(b,l,true)|none=>(qZero,[],false)
def zbr(s:Sc)(j:Nat):Bool:=zuY s j||(decide (bHi s j≠0)&&decide (lv s.lems (bHi s j)<=0))
def zdC(s:Sc)(j:Nat):Bool:=zuW s j||(decide (bLo s j≠0)&&decide (0<=lv s.lems (bLo s j)))
theorem zb9{s:Sc}{j:Nat}:zbr s j=true↔(zuY s j=true\/(bHi s j≠0/\lv s.lems (bHi s j)<=0)):=by
 unfold zbr;rw[Bool.or_eq_true,zEA,decide_eq_true_iff,decide_eq_true_iff]
theorem zdK{s:Sc}{j:Nat}:zdC s j=true↔(zuW s j=true\/(bLo s j≠0/\0<=lv s.lems (bLo s j))):=by
 unfold zdC;rw[Bool.or_eq_true,zEA,decide_eq_true_iff,decide_eq_true_iff]
section
variable {s:Sc}{j:Nat}
@[reducible] def zcs(s:Sc)(j:Nat):Rw:=⟨10,(j:Int),0,if zuY s j=true then 0 else(bHi s j:Int)⟩
@[reducible] def zdd(s:Sc)(j:Nat):Rw:=⟨8,(j:Int),if zuW s j=true then 0 else(bLo s j:Int),0⟩
theorem zhB(h:zuY s j=true):zcs s j=⟨10,(j:Int),0,0⟩:=by unfold zcs;rw[if_pos h]
theorem ze7(h:zuY s j=false):zcs s j=⟨10,(j:Int),0,(bHi s j:Int)⟩:=by unfold zcs;rw[if_neg (by rw[h];decide)]
theorem zkp(h:zuW s j=true):zdd s j=⟨8,(j:Int),0,0⟩:=by unfold zdd;rw[if_pos h]
theorem zgM(h:zuW s j=false):zdd s j=⟨8,(j:Int),(bLo s j:Int),0⟩:=by unfold zdd;rw[if_neg (by rw[h];decide)]
theorem ziw(h:zbr s j=true):zeW s j=some (qZero,zko (zcs s j)):=by
 unfold zeW;rw[if_pos (zb9.1 h)]
theorem zos(h:zbr s j=false)(h1:bHi s j=0):zeW s j=none:=by
 unfold zeW;rw[if_neg (fun e=>by rw[zb9.2 e] at h;cases h),if_pos h1]
theorem zkw(h:zbr s j=false)(h1:bHi s j≠0)(h2:zdC s j=true):zeW s j=some (lvr s.lems (bHi s j),[⟨zdd s j,qOf ((1:Int):Rat)⟩,⟨⟨12,(j:Int),0,(bHi s j:Int)⟩,qOf ((1:Int):Rat)⟩]):=by
 unfold zeW;rw[if_neg (fun e=>by rw[zb9.2 e] at h;cases h),if_neg h1,if_pos (zdK.1 h2)]
theorem zor(h:zbr s j=false)(h1:bHi s j≠0)(h2:zdC s j=false)(h3:bLo s j=0):zeW s j=none:=by
 unfold zeW;rw[if_neg (fun e=>by rw[zb9.2 e] at h;cases h),if_neg h1,if_neg (fun e=>by rw[zdK.2 e] at h2;cases h2),if_pos h3]
theorem zlV(h:zbr s j=false)(h1:bHi s j≠0)(h2:zdC s j=false)(h3:bLo s j≠0):zeW s j=some (lvr s.lems (bHi s j),[⟨⟨12,(j:Int),0,(bHi s j:Int)⟩,qOf ((lvr s.lems (bHi s j)).q*(((1:Int):Rat)/((lvr s.lems (bHi s j)).q-(lvr s.lems (bLo s j)).q)))⟩,⟨⟨13,(j:Int),(bLo s j:Int),(bHi s j:Int)⟩,qOf (((1:Int):Rat)/((lvr s.lems (bHi s j)).q-(lvr s.lems (bLo s j)).q))⟩]):=by
 rw[zip,zip];unfold zeW;rw[if_neg (fun e=>by rw[zb9.2 e] at h;cases h),if_neg h1,if_neg (fun e=>by rw[zdK.2 e] at h2;cases h2),if_neg h3]
theorem zcn{b:Qr}{l:List Mu}(h:zeW s j=some (b,l)):zhm s j=(b,l,true):=by unfold zhm;rw[h]
theorem zfd(h:zeW s j=none):zhm s j=(qZero,[],false):=by unfold zhm;rw[h]
theorem zvY(h:zbr s j=false)(h1:bHi s j≠0)(h2:zdC s j=false)(h3:bLo s j≠0):(lvr s.lems (bHi s j)).q-(lvr s.lems (bLo s j)).q≠0:=by
 rw[zip,zip];have a1:¬lv s.lems (bHi s j)<=0:=fun e=>by rw[zb9.2 (.inr ⟨h1,e⟩)] at h;cases h
 have a2:¬0<=lv s.lems (bLo s j):=fun e=>by rw[zdK.2 (.inr ⟨h3,e⟩)] at h2;cases h2
 grind
theorem zsP{v:Nat}{up:Bool}(h:v<s.q.g.inp):zbF s v up=(qOf (zkv s v up).1,zko (zkv s v up).2,true):=by unfold zbF zmg;rw[if_pos h]
theorem zsN{v:Nat}(h:¬v<s.q.g.inp):zbF s v true=zhm s (v-s.q.g.inp):=by unfold zbF zmg zhm;rw[if_neg h,if_pos rfl]
theorem zsO{v:Nat}(h:¬v<s.q.g.inp):zbF s v false=((zpD s (v-s.q.g.inp)).1,(zpD s (v-s.q.g.inp)).2,true):=by unfold zbF zmg;rw[if_neg h,if_neg (by decide)]
theorem zoT{v:Nat}{up:Bool}(h:(zbF s v up).2.2=true):zmg s v up=some ((zbF s v up).1,(zbF s v up).2.1):=by
 unfold zbF at *;split at h
 .rename_i b l e;rw[e]
 .cases h
theorem zwZ{v:Nat}{up:Bool}(h:(zbF s v up).2.2=false):zmg s v up=none:=by
 unfold zbF at *;split at h
 .cases h
 .rename_i e;rw[e]
theorem zwu(h:bLo s j≠0/\0<lv s.lems (bLo s j)):zpD s j=(lvr s.lems (bLo s j),[⟨⟨6,(j:Int),0,0⟩,qOf ((1:Int):Rat)⟩,⟨⟨11,(j:Int),(bLo s j:Int),0⟩,qOf ((1:Int):Rat)⟩]):=if_pos h
theorem zoj(h:¬(bLo s j≠0/\0<lv s.lems (bLo s j))):zpD s j=(qZero,zko ⟨5,(j:Int),0,0⟩):=if_neg h
end
theorem zwA{s:Sc}{i n:Nat}{up:Bool}{d:Dc}(hd:s.path[n]?=some d)(h:d.kind=(if up=true then 4 else 3)/\d.idx=i/\(if up=true then d.pt<(zjJ s i up n).1 else(zjJ s i up n).1<d.pt)):zjJ s i up (n+1)=(d.pt,⟨4,(n:Int),0,0⟩):=by rw[ziv hd];exact if_pos h
theorem zjI{s:Sc}{i n:Nat}{up:Bool}{d:Dc}(hd:s.path[n]?=some d)(h:¬(d.kind=(if up=true then 4 else 3)/\d.idx=i/\(if up=true then d.pt<(zjJ s i up n).1 else(zjJ s i up n).1<d.pt))):zjJ s i up (n+1)=zjJ s i up n:=by rw[ziv hd];exact if_neg h
theorem zrU{B:Nat}{s:Sc}(hs:SB B s){i:Nat}(hi:i<s.q.g.inp)(up:Bool){n:Nat}(hn:n<=s.path.length):Br (zjJ s i up n).1 201:=(zlU hs hi up n hn).hb.br
@[reducible] def zc0(c:Rat):Rat:=mx c (-c)
theorem zdx(c:Rat):zc0 c=rq false (zav c) (zaC c):=by
 obtain⟨a1,a2⟩:=zml c;by_cases h:c<0
 .rw[a1 h];unfold zc0 mx;split <;> grind
 .rw[a2 h];unfold zc0 mx;split <;> grind
def zAy(s:Sc)(a:Option (Rat×List Mu))(t:Tm):Option (Rat×List Mu):=
 match a with
 |none=>none
 |some (x,l)=>match zmg s t.1 (decide (t.2<0)) with
  |none=>none
  |some (b,m)=>some (x+t.2*b.q,l++zn1 (zc0 t.2) m)
def zsC(s:Sc)(f:Af)(n:Nat):Option (Rat×List Mu):=(f.ts.take n).foldl (zAy s) (some (f.c,[]))
theorem zsy{s:Sc}{f:Af}{n:Nat}{t:Tm}(h:f.ts[n]?=some t):zsC s f (n+1)=zAy s (zsC s f n) t:=by
 unfold zsC;rw[zaP h,zEO];rfl
theorem zsD{s:Sc}{a:Option (Rat×List Mu)}{t:Tm}:(zAy s a t).map (fun p=>(p.1,zcv p.2))=zoQ s (a.map fun p=>(p.1,zcv p.2)) t:=by
 cases a with
 |none=>rfl
 |some p=>
  obtain⟨x,l⟩:=p;unfold zAy zoQ;simp only[Option.map_some]
  cases zmg s t.1 (decide (t.2<0)) with
  |none=>rfl
  |some b=>simp only[Option.map_some];rw[zu1,zdx]
theorem zsB{s:Sc}{f:Af}(n:Nat):(zsC s f n).map (fun p=>(p.1,zcv p.2))=zjP s f n:=by
 unfold zsC zjP;have:∀(ts:List Tm) (a:Option (Rat×List Mu)),(ts.foldl (zAy s) a).map (fun p=>(p.1,zcv p.2))=ts.foldl (zoQ s) (a.map fun p=>(p.1,zcv p.2)):=by
  intro ts
  induction ts with
  |nil=>intro a;rfl
  |cons t ts ih=>intro a;rw[List.foldl_cons,List.foldl_cons,ih,zsD]
 exact this _ _
structure PlOk(B F n:Nat)(l:List Mu):Prop where
 len:l.length<=2*n
 mb:MB (4*B+F+20) l
 cof:zi7 l
theorem zDS(c:Rat):0<=zc0 c:=by rw[zdx];exact zef c
theorem znw{c:Rat}{B:Nat}(h:Br c B):Br (zc0 c) (B+1):=by
 unfold zc0 mx;split
 .exact h.mono (by omega)
 .haveI:=h;exact(inferInstance:Br (-c) _).mono (by omega)
theorem zqP{c:Rat}{m:Mu}{l:List Mu}(h:m∈zn1 c l):∃x∈l,m=⟨x.r,qOf (c*x.c.q)⟩:=by
 obtain⟨x,hx,rfl⟩:=List.mem_map.1 h;exact⟨x,hx,rfl⟩
theorem PlOk.next{B F n:Nat}{l:List Mu}(h:PlOk B F n l){s:Sc}{m:List Mu}(hm:StepOk s (4*B+12) m){c:Rat}(hc:Br c F):PlOk B F (n+1) (l++zn1 (zc0 c) m):=by
 refine⟨?_,fun x hx=>?_,fun x hx=>?_⟩
 .have h1:=h.len;have h2:=hm.len;simp only[zEC,zn1,List.length_map];omega
 .rcases zEH.1 hx with hx|hx
  .exact h.mb x hx
  .obtain⟨y,hy,rfl⟩:=zqP hx;haveI:=znw hc;haveI:=hm.bd y hy;exact(Fq.of (r:=zc0 c*y.c.q)).mono (by omega)
 .rcases zEH.1 hx with hx|hx
  .exact h.cof x hx
  .obtain⟨y,hy,rfl⟩:=zqP hx;show qOf _=qOf (qOf _).q/\0<=(qOf _).q;rw[zaj];exact⟨rfl,Rat.mul_nonneg (zDS c) (Rat.le_of_lt (hm.pos y hy))⟩
theorem ztZ{c:Rat}{m:List Mu}{k:Nat}{x:Mu}(h:m[k]?=some x):zn1 c (m.take k)++[⟨x.r,qOf (c*x.c.q)⟩]=zn1 c (m.take (k+1)):=by
 unfold zn1;rw[zaP h,List.map_append];rfl
theorem zkW{s:Sc}{f:Af}{n:Nat}{x:Rat}{l:List Mu}(h:zsC s f n=some (x,l)):zjP s f n=some (x,zcv l):=by rw[<-zsB,h];rfl
theorem zsA{s:Sc}{f:Af}{n:Nat}{t:Tm}{x:Rat}{l:List Mu}(ht:f.ts[n]?=some t)(h:zsC s f n=some (x,l))(hb:(zbF s t.1 (decide (t.2<0))).2.2=true) :
  zsC s f (n+1)=some (x+t.2*(zbF s t.1 (decide (t.2<0))).1.q,l++zn1 (zc0 t.2) (zbF s t.1 (decide (t.2<0))).2.1):=by
 rw[zsy ht,h];unfold zAy;simp only[zoT hb]
theorem zsz{s:Sc}{f:Af}{n:Nat}{t:Tm}{x:Rat}{l:List Mu}(ht:f.ts[n]?=some t)(h:zsC s f n=some (x,l))(hb:(zbF s t.1 (decide (t.2<0))).2.2=false):zb4 s f=(0,[],false):=by
 refine zee (zme (n:=n+1) ?_);rw[zed ht,zkW h];unfold zoQ;simp only[zwZ hb]
theorem zvc{s:Sc}{f:Af}{x:Rat}{l:List Mu}(h:zsC s f f.ts.length=some (x,l)):zb4 s f=(x,zcv l,true):=zdv (zkW h)
theorem zsF{s:Sc}{f:Af}{n:Nat}{t:Tm}{x:Rat}{l:List Mu}(ht:f.ts[n]?=some t)(h:zjP s f n=some (x,l))(hb:(zbF s t.1 (decide (t.2<0))).2.2=true) :
  zjP s f (n+1)=some (x+t.2*(zbF s t.1 (decide (t.2<0))).1.q,zaV l (zbF s t.1 (decide (t.2<0))).2.1 (rq false (zav t.2) (zaC t.2))):=by
 rw[zed ht,h];unfold zoQ;simp only[zoT hb]
theorem zsE{s:Sc}{f:Af}{n:Nat}{t:Tm}{x:Rat}{l:List Mu}(ht:f.ts[n]?=some t)(h:zjP s f n=some (x,l))(hb:(zbF s t.1 (decide (t.2<0))).2.2=false):zb4 s f=(0,[],false):=by
 refine zee (zme (n:=n+1) ?_);rw[zed ht,h];unfold zoQ;simp only[zwZ hb]
theorem zwz{up:Bool}{a b:Rat}:zfg a b=(if up=true then(-1:Int) else 1)↔(if up=true then a<b else b<a):=by
 cases up
 .simp only[zEI,if_false];exact zkN
 .simp only[if_true];exact zkM
theorem PlOk.start{B F:Nat}:PlOk B F 0 []:=⟨by simp,fun m hm=>by simp at hm,fun m hm=>by simp at hm⟩
@[reducible] def bdL(x:Rat)(l:List Mu)(b:Bool):List Leaf:=[Leaf.val (.bool (zaR x)),zaf (zaa (zav x)),zaf (zaa (zaC x)),muE.row l,Leaf.val (.bool b)]
@[reducible] def bdV(x:Rat)(l:List Mu)(b:Bool):V:=V.agg (bdL x l b)
theorem bdZ:D.agg [Leaf.val (.bool false),nilL,nilL,nilL,Leaf.val (.bool false)]=D.agg (bdL 0 [] false):=by
 unfold bdL;rw[zet Rat.le_refl,zbm,zbn,zai];rfl
theorem zrT{up:Bool}{a b:Rat}:0<(if up=true then(-1:Int) else 1)*zfg a b↔(if up=true then a<b else b<a):=by
 cases up
 .simp only[zEI,if_false,Int.one_mul];exact zdu
 .simp only[if_true];rw[<-zfI];omega
theorem zBP{up:Bool}{a b:Rat}:-1<=(if up=true then(-1:Int) else 1)*zfg a b/\(if up=true then(-1:Int) else 1)*zfg a b<=1:=by
 have h:zfg a b = -1\/zfg a b=0\/zfg a b=1:=by unfold zfg;(repeat' split) <;> decide
 cases up
 .simp only[zEI,if_false,Int.one_mul];omega
 .simp only[if_true];omega
theorem zh3{l:List Lm}(h:zh4 l=true):l.length<=20/\∀m∈l,Fq m.v 135001:=by
 unfold zh4 at h;rw[zEA,decide_eq_true_iff] at h;refine⟨h.2,fun m hm=>?_⟩;have h1:=List.all_eq_true.1 h.1 m hm;unfold zeC at h1;simp only[zEA,decide_eq_true_iff] at h1;exact⟨⟨by omega,by omega⟩⟩
theorem zxx{s:Sc}(hs:SOk s)(h8:s.lems.length<=80){l:List Lm}(hl:l.length<=20)(hB:∀m∈l,Fq m.v 135001):SB 135001 (withL s (s.lems++l)):=by
 refine⟨hs.q,hs.d,hs.pl,fun m hm=>?_,?_⟩
 .rcases zEH.1 hm with h|h
  .exact hs.B m h
  .exact hB m h
 .show(s.lems++l).length<=1000;rw[zEC];omega
end Rc
namespace Go.Proofs.YtjeiacoegppoiaaGreatDoor
open Go Go.RowKit Rc
theorem zEf(x:Qr)(r:Rat)(hr:x.q=r)(hfx:Fit 200000000000 x)(y:Qr)(s:Rat)(hs:y.q=s)(hfy:Fit 200000000000 y):Ctr Tryz.prog 114 [qV x,qV y] (R.one (qV (qOf (r-s)))):=by
 refine bd_ Tryz.func114 Tryz.ntmps114 rfl (fun w0 A0=>?_);haveI ixn:Bn (val x.n) 200000000000:=Bn.val x.hn hfx.n;haveI ixd:Bn (val x.d) 200000000000:=Bn.val x.hd hfx.d;haveI iyn:Bn (val y.n) 200000000000:=Bn.val y.hn hfy.n;haveI iyd:Bn (val y.d) 200000000000:=Bn.val y.hd hfy.d;haveI ir:Br r 200000000000:=hr ▸ Br.q hfx;haveI is:Br s 200000000000:=hs ▸ Br.q hfy;refine zc 20 rfl (tc_ zr9 rfl (zBd x (r) hr (hfx.mono (by omega)) (Qr.mk (!y.neg) y.n y.d y.hn y.hd) (-(s)) (zrr hs) (Fit.neg (hfy.mono (by omega)))) (zl 3 rfl ?_));exact r1_ hq_ rfl (by rw[Rat.sub_eq_add_neg] <;> rfl)
theorem qdiv(x:Qr)(r:Rat)(hr:x.q=r)(hfx:Fit 1000000000000 x)(y:Qr)(s:Rat)(hs:y.q=s)(hfy:Fit 1000000000000 y)(hs0:s≠0):Ctr Tryz.prog 113 [qV x,qV y] (R.tup [qV (qOf (r/s)),V.one (Leaf.val (.int .i64 0))]):=by
 refine bd_ Tryz.func113 Tryz.ntmps113 rfl (fun w0 A0=>?_);haveI ixn:Bn (val x.n) 1000000000000:=Bn.val x.hn hfx.n;haveI ixd:Bn (val x.d) 1000000000000:=Bn.val x.hd hfx.d;haveI iyn:Bn (val y.n) 1000000000000:=Bn.val y.hn hfy.n;haveI iyd:Bn (val y.d) 1000000000000:=Bn.val y.hd hfy.d;have hyn:val y.n≠0:=fun e=>hs0 (by rw[<-hs];unfold Qr.q;rw[zgH];exact e);refine zc 12 rfl (tc_ ziB rfl (zdm y (s) hs (hfy.mono (by omega))) (tq_ rfl (eqF rfl (zfy hs0)) (zl 6 rfl (dr_ 0 [(16,2)] [2] (dz 4 rfl (kq_ rfl (zbL rfl rfl rfl un4 (d:=_) (rfl)) (dz 3 rfl (kc_ zji rfl (zfr y (hfy.mono (by omega))) ?_))))))));refine kc_ zpT rfl (zpA x.n x.hn (hfx.mono (by omega)).n (dl y.d) (zcQ y.hd) (zfu hfy.d (by omega)) (val x.n) rfl (dn (val y.d)) (zfp _)) (dz 1 rfl (kc_ zji rfl (zfr x (hfx.mono (by omega))) (dz 2 rfl (kc_ zpT rfl (zpA (dl x.d) (zcQ x.hd) (zfu hfx.d (by omega)) y.n y.hn (hfy.mono (by omega)).n (dn (val x.d)) (zfp _) (val y.n) rfl) ?_))));refine kc_ zr6 rfl (zrs (x.neg != y.neg) (zaa ((val x.n)*(dn (val y.d)))) (zaa ((dn (val x.d))*(val y.n))) (zab _) (zab _) (Bn.use (by omega)) (Bn.use (by omega)) ((val x.n)*(dn (val y.d))) ((dn (val x.d))*(val y.n)) (zac _) (zac _) (Nat.mul_ne_zero (zdY _) hyn)) (dz 2 rfl (zad (za 1 rfl ?_)));exact r2_ hq_ rfl (by subst hr;subst hs;rw[zv9 _ _ _ _ _ _ hyn] <;> rfl)
theorem zvM(x:Rat)(h:x=0):Ctr Tryz.prog 245 [V.agg (qL (x))] (R.one (V.one (Leaf.val (.bool true)))):=by
 refine bd_ Tryz.func245 Tryz.ntmps245 rfl (fun w0 A0=>?_);refine zc 11 rfl (is_ true rfl (by rw[h];rfl) (zl 3 rfl (tq_ rfl (jln rfl) (tq_ rfl (eqT rfl (by rw[h,zbm,zai];rfl)) (zl 4 rfl (tq_ rfl (jln rfl) (tq_ rfl (eqT rfl (by rw[h,zbn,zai];rfl)) (zl 4 rfl ?_))))))));exact r1_ hq_ rfl rfl
theorem zDh(q:Qu)(d:Dc){b:Nat}(hd:DOk b q d)(hb:b<=1000000):Ctr Tryz.prog 222 [quV q,dcV d] (R.one (V.one (Leaf.val (.bool true)))):=by
 refine bd_ Tryz.func222 Tryz.ntmps222 rfl (fun w0 A0=>?_);obtain⟨hk,hbt⟩:=hd;haveI:=hbt.br;have hkk:d.kind=1\/d.kind=2\/d.kind=3\/d.kind=4:=by rcases hk with⟨h,_⟩|⟨h,_⟩ <;> omega
 refine zc 18 rfl ?_;by_cases h1:d.kind=1
 .refine tq_ rfl (eqT rfl) (zl 8 rfl ?_);have hp0:d.idx<q.g.us.length/\d.pt=0:=by rcases hk with⟨_,h⟩|⟨h,_⟩ <;> first|exact h|omega
  refine zc 3 rfl (tq_ rfl (geT rfl) (zl 6 rfl (tq_ rfl (jln rfl) (tq_ rfl (ltT rfl) (zl 4 rfl (tc_ zCK rfl (zvM d.pt hp0.2) (zl 4 rfl ?_)))))));exact r1_ hq_ rfl rfl
 .refine tq_ rfl (eqF rfl) (zl 5 rfl ?_);by_cases h2:d.kind=2
  .refine tq_ rfl (eqT rfl) (zl 5 rfl ?_);have hp0:d.idx<q.g.us.length/\d.pt=0:=by rcases hk with⟨_,h⟩|⟨h,_⟩ <;> first|exact h|omega
   refine zc 3 rfl (tq_ rfl (geT rfl) (zl 6 rfl (tq_ rfl (jln rfl) (tq_ rfl (ltT rfl) (zl 4 rfl (tc_ zCK rfl (zvM d.pt hp0.2) (zl 4 rfl ?_)))))));exact r1_ hq_ rfl rfl
  .refine tq_ rfl (eqF rfl) (zl 7 rfl ?_);by_cases h3:d.kind=3
   .refine tq_ rfl (eqT rfl) (zl 8 rfl ?_);have hp0:d.idx<q.g.inp:=by rcases hk with⟨h,_⟩|⟨_,h⟩ <;> first|exact h|omega
    refine zc 3 rfl (tq_ rfl (geT rfl) (zl 6 rfl (tq_ rfl (ltT rfl) (zl 4 rfl (tc_ zjk rfl (zfq (qOf (d.pt)) (d.pt) (zaj _) (Br.use (by omega))) (is_ true rfl (zea _) (zl 4 rfl ?_)))))));exact r1_ hq_ rfl rfl
   .refine tq_ rfl (eqF rfl) (zl 5 rfl (tq_ rfl (eqT rfl) (zl 5 rfl ?_)));have hp0:d.idx<q.g.inp:=by rcases hk with⟨h,_⟩|⟨_,h⟩ <;> first|exact h|omega
    refine zc 3 rfl (tq_ rfl (geT rfl) (zl 6 rfl (tq_ rfl (ltT rfl) (zl 4 rfl (tc_ zjk rfl (zfq (qOf (d.pt)) (d.pt) (zaj _) (Br.use (by omega))) (is_ true rfl (zea _) (zl 4 rfl ?_)))))));exact r1_ hq_ rfl rfl
theorem zwE(q:Qu)(hq:QOk q)(d:Dc){b:Nat}(hd:DOk b q d)(hb:b<=1000000):Ctr Tryz.prog 176 [quV q,dcV d] (R.one (V.one (Leaf.val (.bool true)))):=by
 refine bd_ Tryz.func176 Tryz.ntmps176 rfl (fun w0 A0=>?_);refine zc 10 rfl (tc_ zAu rfl (zf0 q hq) (zl 3 rfl (tc_ fn222 rfl (zDh q d hd hb) (zl 4 rfl ?_))));exact r1_ hq_ rfl rfl
theorem zm8(g:Gr)(hg:GOk g):Ctr Tryz.prog 50 [grV g] (R.one (V.one (Leaf.val (.int .i64 (((g.inp+g.us.length:Nat):Int)))))):=by
 refine bd_ Tryz.func50 Tryz.ntmps50 rfl (fun w0 A0=>?_);have h1:=hg.i1;have h2:=hg.i3;have h3:=hg.u4;have h4:=hg.o1;have h5:=hg.o3;refine zc 10 rfl (tc_ zzp rfl (zou g (by assumption)) (zl 12 rfl (tq_ rfl (jln rfl) (tq_ rfl (jad (g.inp+g.us.length) rfl) (zl 3 rfl ?_)))));exact r1_ hq_ rfl rfl
theorem zBJ(s:Sc)(hs:SB 135001 s):Ctr Tryz.prog 131 [scV s] (R.tup [vwV s,V.one (Leaf.val (.bool true))]):=by
 refine bd_ Tryz.func131 Tryz.ntmps131 rfl (fun w0 A0=>?_);have hB:=hs.B;have hq:=hs.q;have hd:=hs.d;have hpl:=hs.pl;have hl:=hs.ll;have hg:=hq.g;have hr:=hq.r;have hlo:=hr.lo;have hhi:=hr.hi;have h1:=hg.i1;have h2:=hg.i3;have h3:=hg.u4;have h4:=hg.o1;have h5:=hg.o3;refine zc 12 rfl (tc_ zAu rfl (zf0 s.q hq) (zl 9 rfl (tq_ rfl (zey rfl tx224 rfl zBf rfl) (zl 6 rfl ?_))));refine zcS 1 4 1 (ls':=[Leaf.val (.int .i64 ((s.q.g.inp:Nat):Int)),El.row afE s.q.g.us,El.row afE s.q.g.os,El.row ratE s.q.r.lo,El.row ratE s.q.r.hi,El.row afE s.q.r.rows,El.row tmE s.q.goal.ts,Leaf.val (.bool (zaR s.q.goal.c)),zaf (zaa (zav s.q.goal.c)),zaf (zaa (zaC s.q.goal.c)),El.row dcE s.path,El.row lmE s.lems,Leaf.own 2 0]) rfl rfl rfl ⟨.inl rfl,.inl rfl,.inl rfl,.inl rfl,.inl rfl,.inl rfl,.inl rfl,.inl rfl,.inl rfl,.inl rfl,.inl rfl,.inl rfl,.inr ⟨rfl,rfl⟩,trivial⟩ ?_;refine zc 3 rfl (tq_ rfl (jln rfl) (zl 4 rfl ?_));refine zbq (fun m Γ H=>∃(i:Nat) (n:Nat) (out:List Bool),s.path.length-i=m/\Γ=[(1,some (D.ptr 0 0)),(4,some (D.ptr 1 0)),(15,some (D.v (V.one (El.row dcE s.path)))),(16,some (D.val (.int .i64 ((s.path.length:Nat):Int)))),(17,some (D.val (.int .i64 (i:Int))))]/\H=[hb_ 43 (scL s),hb_ 224 (quL s.q++[El.row dcE s.path,El.row lmE s.lems,Leaf.own 2 n]),hgr 4 1 boE out n]/\i<=s.path.length/\out=List.replicate i true) ⟨0,0,[],rfl,rfl,rfl,zEs _,rfl⟩ rfl ?_;rintro m Γ H ⟨i,n,out,rfl,rfl,rfl,hi0,hout⟩;refine zc 2 rfl ?_;by_cases hi:i<s.path.length
 .refine tq_ rfl (ltT rfl) (zl 9 rfl ?_);obtain⟨d,hdx⟩:∃d,s.path[i]?=some d:=⟨_,zEm hi⟩;have hdo:=hd d (zEn hdx);have hol:out.length<=100:=by rw[hout,List.length_replicate];omega
  refine zc 1 rfl (tq_ rfl (jix i hdx rfl) (tq_ rfl (jlr rfl) (zl 4 rfl (dr_ 0 [(10,2),(13,1)] [2,1] (dz 4 rfl (kp_ [2] rfl (jld rfl) (dz 3 rfl (kc_ zCY rfl (zwE s.q hq d hdo (by omega)) (ke_ rfl (fun _=>zae rfl zAG ty4 tz4 rfl (by decide) (by decide) rfl (by decide) rfl) ?_)))))))));refine ki_ 2 rfl (dap true rfl rfl) (dz 3 rfl (zad (za 3 rfl (tq_ rfl (jad (i+1) rfl) (zl 2 rfl (zal 3 (zaK 3 rfl ?_)))))));exact nx_ ⟨i+1,_,_,rfl,rfl,rfl,hi,(by rw[hout,zua])⟩ rfl
 .refine tq_ rfl (ltF rfl) (zl 10 rfl ?_);have hie:i=s.path.length:=by omega
  rw[hie] at hout;refine zcR 1 (ls':=[Leaf.val (.int .i64 ((s.q.g.inp:Nat):Int)),El.row afE s.q.g.us,El.row afE s.q.g.os,El.row ratE s.q.r.lo,El.row ratE s.q.r.hi,El.row afE s.q.r.rows,El.row tmE s.q.goal.ts,Leaf.val (.bool (zaR s.q.goal.c)),zaf (zaa (zav s.q.goal.c)),zaf (zaa (zaC s.q.goal.c)),El.row dcE s.path,El.row lmE s.lems,El.row boE out]) rfl rfl (RowAt.ofE boE out rfl (by decide)) ⟨.inl rfl,.inl rfl,.inl rfl,.inl rfl,.inl rfl,.inl rfl,.inl rfl,.inl rfl,.inl rfl,.inl rfl,.inl rfl,.inl rfl,.inr ⟨rfl,rfl⟩,trivial⟩ ?_;refine zc 1 rfl (zi0 4 rfl rfl rfl (zl 5 rfl ?_));exact r2_ hq_ rfl (by rw[hout])
theorem zdI(r:Rw)(c:Qr):Ctr Tryz.prog 134 [rwV r,qV c] (R.one (muV ⟨r,c⟩)):=by
 refine bd_ Tryz.func134 Tryz.ntmps134 rfl (fun w0 A0=>?_);refine zc 15 rfl ?_;exact r1_ hq_ rfl rfl
theorem zgA(s:Sc)(hs:SB 135001 s)(n:Nat)(h0:0<n)(hn:n<=s.lems.length):Ctr Tryz.prog 232 [vwV s,V.one (Leaf.val (.int .i64 ((n:Int))))] (R.one (qV (lvr s.lems n))):=by
 refine bd_ Tryz.func232 Tryz.ntmps232 rfl (fun w0 A0=>?_);have hB:=hs.B;have hq:=hs.q;have hd:=hs.d;have hpl:=hs.pl;have hl:=hs.ll;have hg:=hq.g;have hr:=hq.r;have hlo:=hr.lo;have hhi:=hr.hi;have h1:=hg.i1;have h2:=hg.i3;have h3:=hg.u4;have h4:=hg.o1;have h5:=hg.o3;refine zc 6 rfl ?_;obtain⟨y,hy⟩:∃y,s.lems[n-1]?=some y:=⟨_,zEm (by omega)⟩;refine zc 2 rfl (tq_ rfl (zbl rfl rfl) (tq_ rfl (jft rfl) (tq_ rfl (jfr rfl) (tq_ rfl (jli rfl) (zl 1 rfl (tq_ rfl (jsb (n-1) rfl) (tq_ rfl (jix (n-1) hy rfl) (tq_ rfl (jft rfl) (tq_ rfl (jlr rfl) ?_)))))))));refine zl 3 rfl ?_;exact r1_ hq_ rfl (by rw[zc6 hy])
theorem zDC(s:Sc)(hs:SB 135001 s)(k:Nat)(j:Int):Ctr Tryz.prog 231 [vwV s,V.one (Leaf.val (.int .i64 ((k:Int)))),V.one (Leaf.val (.int .i64 (j)))] (R.one (V.one (Leaf.val (.bool (zfm s.path k j))))):=by
 refine bd_ Tryz.func231 Tryz.ntmps231 rfl (fun w0 A0=>?_);have hB:=hs.B;have hq:=hs.q;have hd:=hs.d;have hpl:=hs.pl;have hl:=hs.ll;have hg:=hq.g;have hr:=hq.r;have hlo:=hr.lo;have hhi:=hr.hi;have h1:=hg.i1;have h2:=hg.i3;have h3:=hg.u4;have h4:=hg.o1;have h5:=hg.o3;refine zc 9 rfl (tq_ rfl (zbl rfl rfl) (tq_ rfl (jft rfl) (tq_ rfl (jfr rfl) (tq_ rfl (jli rfl) (tq_ rfl (jln rfl) (zl 4 rfl ?_))))));refine zbq (fun m Γ H=>∃(i:Nat),s.path.length-i=m/\Γ=[(0,some (D.rep (zaU (vwL s)))),(1,some (D.val (.int .i64 (k:Int)))),(2,some (D.val (.int .i64 j))),(13,some (D.v (V.one (El.row dcE s.path)))),(14,some (D.val (.int .i64 ((s.path.length:Nat):Int)))),(15,some (D.val (.int .i64 (i:Int))))]/\H=[]/\i<=s.path.length/\zuX s.path k j i=false) ⟨0,rfl,rfl,rfl,zEs _,rfl⟩ rfl ?_;rintro m Γ H ⟨i,rfl,rfl,rfl,hi0,hno⟩;refine zc 2 rfl ?_;by_cases hi:i<s.path.length
 .refine tq_ rfl (ltT rfl) (zl 9 rfl ?_);obtain⟨x,hx⟩:∃x,s.path[i]?=some x:=⟨_,zEm hi⟩;refine zc 2 rfl (tq_ rfl (jix i hx rfl) (tq_ rfl (jlr rfl) (zl 8 rfl (tq_ rfl (zbl rfl rfl) (tq_ rfl (jfr rfl) (tq_ rfl (jli rfl) (zl 1 rfl (tq_ rfl (jix i (zri hi) rfl) (tq_ rfl (jli rfl) ?_)))))))));refine zl 7 rfl ?_;refine zdT rfl (fun hk1=>?_) (fun hk1=>?_)
  .refine zl 12 rfl (tq_ rfl (jad (i+1) rfl) (zl 2 rfl (zal 0 (zaK 0 rfl ?_))));exact nx_ ⟨i+1,rfl,rfl,rfl,hi,by rw[zcY hx,hno,hk1];rfl⟩ rfl
  .refine zl 7 rfl ?_;refine zao rfl (fun hk2=>?_) (fun hk2=>?_)
   .refine zc 5 rfl ?_;exact r1_ hq_ rfl (by rw[zoG hx hk1 hk2])
   .refine zc 4 rfl (tq_ rfl (jad (i+1) rfl) (zl 2 rfl (zal 0 (zaK 0 rfl ?_))));exact nx_ ⟨i+1,rfl,rfl,rfl,hi,by rw[zcY hx,hno,hk1,hk2];rfl⟩ rfl
 .refine tq_ rfl (ltF rfl) (zl 14 rfl ?_);exact r1_ hq_ rfl (by rw[<-zhK,<-show i=s.path.length by omega,hno])
theorem zya(s:Sc)(hs:SB 135001 s)(i:Nat)(hi:i<s.q.g.inp)(up:Bool):Ctr Tryz.prog 194 [vwV s,V.one (Leaf.val (.int .i64 ((i:Int)))),V.one (Leaf.val (.bool up))] (R.tup [qV (qOf (zkv s i up).1),V.one (El.row muE (zko (zkv s i up).2)),V.one (Leaf.val (.bool true))]):=by
 refine bd_ Tryz.func194 Tryz.ntmps194 rfl (fun w0 A0=>?_);have hB:=hs.B;have hq:=hs.q;have hd:=hs.d;have hpl:=hs.pl;have hl:=hs.ll;have hg:=hq.g;have hr:=hq.r;have hlo:=hr.lo;have hhi:=hr.hi;have h1:=hg.i1;have h2:=hg.i3;have h3:=hg.u4;have h4:=hg.o1;have h5:=hg.o3;obtain⟨a0,ha0⟩:∃a,s.q.r.lo[i]?=some a:=⟨_,zEm (by omega)⟩;obtain⟨c0,hc0⟩:∃a,s.q.r.hi[i]?=some a:=⟨_,zEm (by omega)⟩;have ha:s.q.r.lo[i]?=some ((s.q.r.lo[i]?).getD 0):=by rw[ha0];rfl
 have hc_:s.q.r.hi[i]?=some ((s.q.r.hi[i]?).getD 0):=by rw[hc0];rfl
 obtain⟨hb1,hb2,_⟩:=hr.bd i a0 c0 ha0 hc0;haveI:Br ((s.q.r.lo[i]?).getD 0) 4:=by rw[ha0];exact hb1.br
 haveI:Br ((s.q.r.hi[i]?).getD 0) 8:=by rw[hc0];exact hb2.br.mono (by omega)
 refine zc 10 rfl (tq_ rfl (zbl rfl rfl) (tq_ rfl (jft rfl) (tq_ rfl (jft rfl) (tq_ rfl (jft rfl) (tq_ rfl (jlr rfl) (zl 5 rfl ?_))))));refine nz_ [so 0 (D.rep (zaU (vwL s))),so 1 (D.val (.int .i64 (i:Int))),so 2 (D.bool up),so 6 (D.ptr 0 0),so 9 (D.ptr 1 0)] [hb_ 36 [Leaf.val (.bool false),zaf ([]),zaf ([])],hb_ 31 [El.row ratE s.q.r.lo,El.row ratE s.q.r.hi,El.row afE s.q.r.rows]] rfl rfl (zc 4 rfl (tq_ rfl (jix i ha rfl) (tq_ rfl (jlr rfl) (zl 10 rfl ?_))));refine mt_ [so 0 (D.rep (zaU (vwL s))),so 1 (D.val (.int .i64 (i:Int))),so 6 (D.ptr 0 0),so 10 (D.ptr 2 0),so 11 (D.ptr 3 0),so 12 (D.val (.int .i64 (((if up=true then 4 else 3):Nat):Int))),so 13 (D.val (.int .i64 (if up=true then -1 else 1)))] [hb_ 36 [Leaf.val (.bool false),zaf ([]),zaf ([])],none,hb_ 36 (qL ((zoq s i up).1)),hb_ 107 [Leaf.val (.int .i64 ((zoq s i up).2.kind)),Leaf.val (.int .i64 ((zoq s i up).2.idx)),Leaf.val (.int .i64 ((zoq s i up).2.lo)),Leaf.val (.int .i64 ((zoq s i up).2.hi))]] ?_ ?_
 .refine zc 1 rfl (nz_ [so 0 _,so 1 _,so 2 _,so 6 _,so 9 _,so 10 (D.ptr 2 0),so 11 (D.ptr 3 0),so 12 (D.val (.int .i64 3)),so 13 (D.val (.int .i64 1))] [_,_,hb_ 36 (qL ((s.q.r.lo[i]?).getD 0)),hb_ 107 [Leaf.val (.int .i64 1),Leaf.val (.int .i64 (i:Int)),Leaf.val (.int .i64 0),Leaf.val (.int .i64 0)]] rfl rfl (zc 4 rfl ?_));refine zao rfl (fun hup=>?_) (fun hup=>?_)
  .subst hup;refine zc 4 rfl (tq_ rfl (jix i hc_ rfl) (tq_ rfl (jlr rfl) (zl 7 rfl (zal 1 ?_))));exact mx_ rfl
  .subst hup;refine zc 1 rfl (zal 1 ?_);exact mx_ rfl
 .refine zc 4 rfl (tq_ rfl (zbl rfl rfl) (tq_ rfl (jft rfl) (tq_ rfl (jfr rfl) (tq_ rfl (jli rfl) (tq_ rfl (jln rfl) (zl 4 rfl ?_))))));refine zbq (fun m Γ H=>∃(n:Nat) (b:Rat×Rw),s.path.length-n=m/\Γ=[(0,some (D.rep (zaU (vwL s)))),(1,some (D.val (.int .i64 (i:Int)))),(6,some (D.ptr 0 0)),(10,some (D.ptr 2 0)),(11,some (D.ptr 3 0)),(12,some (D.val (.int .i64 (((if up=true then 4 else 3):Nat):Int)))),(13,some (D.val (.int .i64 (if up=true then -1 else 1)))),(41,some (D.v (V.one (El.row dcE s.path)))),(42,some (D.val (.int .i64 ((s.path.length:Nat):Int)))),(43,some (D.val (.int .i64 (n:Int))))]/\H=[hb_ 36 [Leaf.val (.bool false),zaf ([]),zaf ([])],none,hb_ 36 (qL b.1),hb_ 107 [Leaf.val (.int .i64 b.2.kind),Leaf.val (.int .i64 b.2.idx),Leaf.val (.int .i64 b.2.lo),Leaf.val (.int .i64 b.2.hi)]]/\n<=s.path.length/\b=zjJ s i up n) ⟨0,zoq s i up,rfl,rfl,rfl,zEs _,rfl⟩ rfl ?_;rintro m Γ H ⟨n,b,rfl,rfl,rfl,hn0,hb⟩;refine zc 2 rfl ?_;by_cases hn:n<s.path.length
  .refine tq_ rfl (ltT rfl) (zl 9 rfl ?_);obtain⟨d,hdx⟩:∃d,s.path[n]?=some d:=⟨_,zEm hn⟩;have hdo:=hd d (zEn hdx);haveI:=hdo.2.br;haveI hbb:Br b.1 201:=by rw[hb];exact zrU hs hi up (by omega)
   refine nz_ [so 0 (D.rep (zaU (vwL s))),so 1 (D.val (.int .i64 (i:Int))),so 6 (D.ptr 0 0),so 10 (D.ptr 2 0),so 11 (D.ptr 3 0),so 12 (D.val (.int .i64 (((if up=true then 4 else 3):Nat):Int))),so 13 (D.val (.int .i64 (if up=true then -1 else 1))),so 41 (D.v (V.one (El.row dcE s.path))),so 42 (D.val (.int .i64 ((s.path.length:Nat):Int))),so 43 (D.val (.int .i64 (n:Int)))] [hb_ 36 [Leaf.val (.bool false),zaf ([]),zaf ([])],none,hb_ 36 (qL b.1),hb_ 107 [Leaf.val (.int .i64 b.2.kind),Leaf.val (.int .i64 b.2.idx),Leaf.val (.int .i64 b.2.lo),Leaf.val (.int .i64 b.2.hi)]] rfl rfl ?_;refine zc 2 rfl (tq_ rfl (jix n hdx rfl) (tq_ rfl (jlr rfl) (zl 8 rfl (tq_ rfl (zbl rfl rfl) (tq_ rfl (jfr rfl) (tq_ rfl (jli rfl) (zl 1 rfl (tq_ rfl (jix n (zri hn) rfl) (tq_ rfl (jli rfl) ?_)))))))));refine zl 4 rfl ?_;by_cases hk:d.kind=(if up=true then 4 else 3)
   .refine tq_ rfl (eqT rfl (by rw[hk])) (zl 5 rfl ?_);by_cases hx:d.idx=i
    .refine tq_ rfl (eqT rfl) (zl 5 rfl (tc_ zuE rfl (zui (qOf (d.pt)) (d.pt) (zaj _) (Br.use (by omega)) (qOf (b.1)) (b.1) (zaj _) (Br.use (by omega))) (zl 1 rfl ?_)));by_cases hc:(if up=true then d.pt<b.1 else b.1<d.pt)
     .refine tq_ rfl (eqT rfl (zwz.2 hc)) (zl 4 rfl ?_);refine nz_ [so 0 _,so 1 _,so 6 _,so 10 _,so 11 _,so 12 _,so 13 _,so 14 (D.val (.int .i64 (n:Int))),so 15 (D.ptr 4 0),so 41 _,so 42 _,so 43 _] [_,none,_,_,hb_ 76 [Leaf.val (.int .i64 ((d.kind:Nat):Int)),Leaf.val (.int .i64 ((d.idx:Nat):Int)),Leaf.val (.bool (zaR d.pt)),zaf (zaa (zav d.pt)),zaf (zaa (zaC d.pt))]] rfl rfl (zc 11 rfl ?_);refine tq_ rfl (jad (n+1) rfl) (zl 2 rfl (zal 4 (zaK 4 rfl ?_)));exact nx_ ⟨n+1,(d.pt,⟨4,(n:Int),0,0⟩),rfl,rfl,rfl,hn,(by rw[hb] at hc;exact(zwA hdx ⟨hk,hx,hc⟩).symm)⟩ rfl
     .refine tq_ rfl (eqF rfl (fun e=>hc (zwz.1 e))) (zl 7 rfl (nf_ [4] [so 0 _,so 1 _,so 6 _,so 10 _,so 11 _,so 12 _,so 13 _,so 41 _,so 42 _,so 43 _] [_,none,_,_,none] rfl rfl rfl (zc 1 rfl (tq_ rfl (jad (n+1) rfl) (zl 2 rfl (zaK 4 rfl ?_))))));exact nx_ ⟨n+1,b,rfl,rfl,rfl,hn,(by rw[hb];exact(zjI hdx (fun e=>hc (by rw[hb];exact e.2.2))).symm)⟩ rfl
    .refine tq_ rfl (eqF rfl) (zl 15 rfl (nf_ [4] [so 0 _,so 1 _,so 6 _,so 10 _,so 11 _,so 12 _,so 13 _,so 41 _,so 42 _,so 43 _] [_,none,_,_,none] rfl rfl rfl (zc 1 rfl (tq_ rfl (jad (n+1) rfl) (zl 2 rfl (zaK 4 rfl ?_))))));exact nx_ ⟨n+1,b,rfl,rfl,rfl,hn,(by rw[hb];exact(zjI hdx (fun e=>hx e.2.1)).symm)⟩ rfl
   .refine tq_ rfl (eqF rfl (fun e=>hk (Int.ofNat_inj.1 e))) (zl 21 rfl (nf_ [4] [so 0 _,so 1 _,so 6 _,so 10 _,so 11 _,so 12 _,so 13 _,so 41 _,so 42 _,so 43 _] [_,none,_,_,none] rfl rfl rfl (zc 1 rfl (tq_ rfl (jad (n+1) rfl) (zl 2 rfl (zaK 4 rfl ?_))))));exact nx_ ⟨n+1,b,rfl,rfl,rfl,hn,(by rw[hb];exact(zjI hdx (fun e=>hk e.1)).symm)⟩ rfl
  .refine tq_ rfl (ltF rfl) (zl 10 rfl ?_);have hie:n=s.path.length:=by omega
   rw[hie] at hb;refine dr_ 0 [(5,0)] [0] (dz 2 rfl (kc_ zCE rfl (zf1 1 (by decide) (by decide)) (kc_ zge rfl (zdI b.2 (qOf (((1:Int):Rat)))) (ke_ rfl (fun _=>zae rfl zcE zbi zcU rfl (by decide) (by decide) rfl (by decide) rfl) (dz 3 rfl (zad (za 1 rfl ?_)))))));exact r3_ hq_ rfl (by unfold zkv;rw[<-hb] <;> rfl)
theorem low_p(s:Sc)(hs:SB 135001 s)(j:Nat)(hj:j<s.q.g.us.length):Ctr Tryz.prog 196 [vwV s,V.one (Leaf.val (.int .i64 ((j:Int))))] (R.tup [qV (zpD s j).1,V.one (El.row muE (zpD s j).2),V.one (Leaf.val (.bool true))]):=by
 refine bd_ Tryz.func196 Tryz.ntmps196 rfl (fun w0 A0=>?_);have hB:=hs.B;have hq:=hs.q;have hd:=hs.d;have hpl:=hs.pl;have hl:=hs.ll;have hg:=hq.g;have hr:=hq.r;have hlo:=hr.lo;have hhi:=hr.hi;have h1:=hg.i1;have h2:=hg.i3;have h3:=hg.u4;have h4:=hg.o1;have h5:=hg.o3;haveI:=zlQ hB (bLo s j);haveI:=zlQ hB (bHi s j);refine zc 9 rfl (tc_ zCE rfl (zf1 1 (by decide) (by decide)) (zl 7 rfl (tq_ rfl (zbl rfl rfl) (tq_ rfl (jft rfl) (tq_ rfl (jlr rfl) (zl 1 rfl (tc_ zCD rfl (zmi s (by assumption) (by omega) (by omega) (j:Int)) (zl 9 rfl ?_))))))));refine nz_ [so 0 (D.rep (zaU (vwL s))),so 1 (D.val (.int .i64 (j:Int))),so 4 (D.ptr 0 0),so 7 (D.ptr 1 0),so 8 (D.val (.int .i64 (((zak s.lems (j:Int)).1:Nat):Int)))] [hb_ 36 [Leaf.val (.bool false),zaf ([]),zaf ([])],hb_ 36 (qL ((1:Int):Rat))] rfl rfl (zc 2 rfl ?_);by_cases h1:(zak s.lems (j:Int)).1≠0
 .refine tq_ rfl (gtT rfl) ?_;obtain⟨y,hy,_,_,hly,hy0,hyl⟩:=zbv h1;refine zl 3 rfl (tc_ zpN rfl (zgA s (by assumption) ((zak s.lems (j:Int)).1) (by omega) (by omega)) (tc_ ziB rfl (zdm (lvr s.lems ((zak s.lems (j:Int)).1)) ((lvr s.lems ((zak s.lems (j:Int)).1)).q) rfl (Fq.use (x:=(lvr s.lems ((zak s.lems (j:Int)).1))) (by omega))) ?_));by_cases h2:0<lv s.lems (zak s.lems (j:Int)).1
  .refine tq_ rfl (gtT rfl (by rw[zip];exact zdU.2 h2)) (zl 5 rfl (nz_ [so 0 _,so 1 _,so 4 _,so 7 _,so 8 _] [_,_] rfl rfl (dr_ 0 [(13,0)] [0] (dz 2 rfl (kc_ zpN rfl (zgA s (by assumption) ((zak s.lems (j:Int)).1) (by omega) (by omega)) (dz 3 rfl (kc_ zge rfl (zdI ⟨6,(j:Int),0,0⟩ (qOf (((1:Int):Rat)))) (dz 4 rfl ?_))))))));refine kc_ zge rfl (zdI ⟨11,(j:Int),(((zak s.lems (j:Int)).1:Nat):Int),0⟩ (qOf (((1:Int):Rat)))) (ke_ rfl (fun _=>zae rfl zcE zbi zcU rfl (by decide) (by decide) rfl (by decide) rfl) (dz 3 rfl (zad (za 1 rfl ?_))));exact r3_ hq_ rfl (by rw[zwu ⟨h1,h2⟩] <;> rfl)
  .refine tq_ rfl (gtF rfl (by rw[zip];exact fun e=>h2 (zdU.1 e))) (zl 7 rfl (nz_ [so 1 _,so 4 _,so 7 _] [_,_] rfl rfl (zc 5 rfl (tc_ zge rfl (zdI ⟨5,(j:Int),0,0⟩ (qOf (((1:Int):Rat)))) (te_ rfl (zae rfl zcE zbi zcU rfl (by decide) (by decide) rfl (by decide) rfl) (zl 5 rfl ?_))))));exact r3_ hq_ rfl (by rw[zoj (fun e=>h2 e.2)] <;> rfl)
 .refine tq_ rfl (gtF rfl) (zl 13 rfl (nz_ [so 1 _,so 4 _,so 7 _] [_,_] rfl rfl (zc 5 rfl (tc_ zge rfl (zdI ⟨5,(j:Int),0,0⟩ (qOf (((1:Int):Rat)))) (te_ rfl (zae rfl zcE zbi zcU rfl (by decide) (by decide) rfl (by decide) rfl) (zl 5 rfl ?_))))));exact r3_ hq_ rfl (by rw[zoj (fun e=>h1 e.1)] <;> rfl)
set_option maxHeartbeats 2000000 in
theorem zBR(s:Sc)(hs:SB 135001 s)(j:Nat)(hj:j<s.q.g.us.length):Ctr Tryz.prog 195 [vwV s,V.one (Leaf.val (.int .i64 ((j:Int))))] (R.tup [qV (zhm s j).1,V.one (El.row muE (zhm s j).2.1),V.one (Leaf.val (.bool (zhm s j).2.2))]):=by
 refine bd_ Tryz.func195 Tryz.ntmps195 rfl (fun w0 A0=>?_);have hB:=hs.B;have hq:=hs.q;have hd:=hs.d;have hpl:=hs.pl;have hl:=hs.ll;have hg:=hq.g;have hr:=hq.r;have hlo:=hr.lo;have hhi:=hr.hi;have h1:=hg.i1;have h2:=hg.i3;have h3:=hg.u4;have h4:=hg.o1;have h5:=hg.o3;haveI:=zlQ hB (bLo s j);haveI:=zlQ hB (bHi s j);refine zc 9 rfl (tc_ zCE rfl (zf1 1 (by decide) (by decide)) (zl 7 rfl (tq_ rfl (zbl rfl rfl) (tq_ rfl (jft rfl) (tq_ rfl (jlr rfl) (zl 1 rfl (tc_ zCD rfl (zmi s (by assumption) (by omega) (by omega) (j:Int)) (zl 8 rfl ?_))))))));refine nz_ [so 0 (D.rep (zaU (vwL s))),so 1 _,so 4 _,so 7 _,so 8 (D.val (.int .i64 (((zak s.lems (j:Int)).1:Nat):Int))),so 9 (D.val (.int .i64 (((zak s.lems (j:Int)).2:Nat):Int)))] [_,_] rfl rfl (zc 3 rfl (tc_ zCL rfl (zDC s (by assumption) 1 (j:Int)) (zl 2 rfl (tc_ zCL rfl (zDC s (by assumption) 2 (j:Int)) ?_))));refine zl 5 rfl ?_;refine mt_ [so 0 (D.rep (zaU (vwL s))),so 1 (D.val (.int .i64 (j:Int))),so 4 (D.ptr 0 0),so 7 (D.ptr 1 0),so 8 (D.val (.int .i64 (((zak s.lems (j:Int)).1:Nat):Int))),so 9 (D.val (.int .i64 (((zak s.lems (j:Int)).2:Nat):Int))),so 10 (D.bool (zfm s.path 1 (j:Int))),so 11 (D.bool (zfm s.path 2 (j:Int))),so 45 (D.bool (zbr s j))] [hb_ 36 [Leaf.val (.bool false),zaf ([]),zaf ([])],hb_ 36 (qL ((1:Int):Rat))] ?_ ?_
 .refine nz_ [so 0 _,so 1 _,so 4 _,so 7 _,so 8 _,so 9 _,so 10 (D.bool (zfm s.path 1 (j:Int))),so 11 (D.bool (zfm s.path 2 (j:Int)))] [_,_] rfl rfl (zc 3 rfl ?_);refine zdT rfl (fun hf1=>?_) (fun hf1=>?_)
  .refine zl 1 rfl ?_;by_cases h1:(zak s.lems (j:Int)).2≠0
   .refine tq_ rfl (gtT rfl) ?_;obtain⟨z,hz,_,_,hlz,hz0,hzl⟩:=zbJ h1;refine zl 3 rfl (tc_ zpN rfl (zgA s (by assumption) ((zak s.lems (j:Int)).2) (by omega) (by omega)) (tc_ ziB rfl (zdm (lvr s.lems ((zak s.lems (j:Int)).2)) ((lvr s.lems ((zak s.lems (j:Int)).2)).q) rfl (Fq.use (x:=(lvr s.lems ((zak s.lems (j:Int)).2))) (by omega))) ?_));by_cases h2:lv s.lems (zak s.lems (j:Int)).2<=0
    .refine tq_ rfl (leT rfl (by rw[zip];exact zh5.2 h2)) (zl 2 rfl (is_ (zbr s j) rfl (by simp[zbr,hf1,h1,h2]) (zl 1 rfl ?_)));exact mx_ rfl
    .refine tq_ rfl (leF rfl (by rw[zip];exact fun e=>h2 (zh5.1 e))) (zl 2 rfl (is_ (zbr s j) rfl (by simp[zbr,hf1,h1,h2]) (zl 1 rfl ?_)));exact mx_ rfl
   .refine tq_ rfl (gtF rfl) (zl 8 rfl (is_ (zbr s j) rfl (by simp[zbr,hf1,h1]) (zl 1 rfl ?_)));exact mx_ rfl
  .refine zl 10 rfl (is_ (zbr s j) rfl (by simp[zbr,hf1]) (zl 1 rfl ?_));exact mx_ rfl
 .refine zao rfl (fun hof=>?_) (fun hof=>?_)
  .refine zc 15 rfl ?_;refine zao rfl (fun hd1=>?_) (fun hd1=>?_)
   .refine zc 7 rfl (nz_ [so 4 _,so 7 _,so 12 (D.ptr 2 0)] [_,_,hb_ 107 [Leaf.val (.int .i64 10),Leaf.val (.int .i64 (j:Int)),Leaf.val (.int .i64 0),Leaf.val (.int .i64 (((zak s.lems (j:Int)).2:Nat):Int))]] rfl rfl (zc 4 rfl (tc_ zge rfl (zdI ⟨10,(j:Int),0,(((zak s.lems (j:Int)).2:Nat):Int)⟩ (qOf (((1:Int):Rat)))) ?_)));refine te_ rfl (zae rfl zcE zbi zcU rfl (by decide) (by decide) rfl (by decide) rfl) (zl 5 rfl ?_);exact r3_ hq_ rfl (by rw[zcn (ziw hof),ze7 (by simpa using hd1)] <;> rfl)
   .refine zc 3 rfl (nz_ [so 4 _,so 7 _,so 12 (D.ptr 2 0)] [_,_,hb_ 107 [Leaf.val (.int .i64 10),Leaf.val (.int .i64 (j:Int)),Leaf.val (.int .i64 0),Leaf.val (.int .i64 0)]] rfl rfl (zc 4 rfl (tc_ zge rfl (zdI ⟨10,(j:Int),0,0⟩ (qOf (((1:Int):Rat)))) (te_ rfl (zae rfl zcE zbi zcU rfl (by decide) (by decide) rfl (by decide) rfl) ?_))));refine zl 5 rfl ?_;exact r3_ hq_ rfl (by rw[zcn (ziw hof),zhB (by simpa using hd1)] <;> rfl)
  .refine zc 4 rfl (nz_ [so 0 _,so 1 _,so 4 _,so 7 _,so 8 _,so 9 _,so 10 (D.bool (zfm s.path 1 (j:Int)))] [_,_] rfl rfl (zc 2 rfl ?_));by_cases hh:(zak s.lems (j:Int)).2=0
   .refine tq_ rfl (eqT rfl) (zl 11 rfl ?_);exact r3_ hq_ rfl (by rw[zfd (zos hof hh)] <;> rfl)
   .refine tq_ rfl (eqF rfl) (zl 6 rfl ?_);obtain⟨z,hz,_,_,hlz,hz0,hzl⟩:=zbJ hh;refine nz_ [so 0 _,so 1 _,so 4 _,so 7 _,so 8 _,so 9 _,so 10 _] [_,_] rfl rfl (zc 3 rfl (tc_ zpN rfl (zgA s (by assumption) ((zak s.lems (j:Int)).2) (by omega) (by omega)) (zl 10 rfl ?_)));refine mt_ [so 0 (D.rep (zaU (vwL s))),so 1 (D.val (.int .i64 (j:Int))),so 4 (D.ptr 0 0),so 7 (D.ptr 1 0),so 8 (D.val (.int .i64 (((zak s.lems (j:Int)).1:Nat):Int))),so 9 (D.val (.int .i64 (((zak s.lems (j:Int)).2:Nat):Int))),so 10 (D.bool (zfm s.path 1 (j:Int))),so 13 (D.ptr 2 0),so 14 (D.ptr 3 0),so 77 (D.bool (zdC s j))] [hb_ 36 [Leaf.val (.bool false),zaf ([]),zaf ([])],hb_ 36 (qL ((1:Int):Rat)),hb_ 36 [Leaf.val (.bool (lvr s.lems ((zak s.lems (j:Int)).2)).neg),zaf (lvr s.lems ((zak s.lems (j:Int)).2)).n,zaf (lvr s.lems ((zak s.lems (j:Int)).2)).d],hb_ 107 [Leaf.val (.int .i64 12),Leaf.val (.int .i64 (j:Int)),Leaf.val (.int .i64 0),Leaf.val (.int .i64 (((zak s.lems (j:Int)).2:Nat):Int))]] ?_ ?_
    .refine nz_ [so 0 _,so 1 _,so 4 _,so 7 _,so 8 _,so 9 _,so 10 _,so 13 (D.ptr 2 0),so 14 (D.ptr 3 0)] [_,_,hb_ 36 [Leaf.val (.bool (lvr s.lems ((zak s.lems (j:Int)).2)).neg),zaf (lvr s.lems ((zak s.lems (j:Int)).2)).n,zaf (lvr s.lems ((zak s.lems (j:Int)).2)).d],hb_ 107 [Leaf.val (.int .i64 12),Leaf.val (.int .i64 (j:Int)),Leaf.val (.int .i64 0),Leaf.val (.int .i64 (((zak s.lems (j:Int)).2:Nat):Int))]] rfl rfl ?_;refine zc 3 rfl ?_;refine zdT rfl (fun hn1=>?_) (fun hn1=>?_)
     .refine zl 1 rfl ?_;by_cases h1:(zak s.lems (j:Int)).1≠0
      .refine tq_ rfl (gtT rfl) ?_;obtain⟨y,hy,_,_,hly,hy0,hyl⟩:=zbv h1;refine zl 3 rfl (tc_ zpN rfl (zgA s (by assumption) ((zak s.lems (j:Int)).1) (by omega) (by omega)) (tc_ ziB rfl (zdm (lvr s.lems ((zak s.lems (j:Int)).1)) ((lvr s.lems ((zak s.lems (j:Int)).1)).q) rfl (Fq.use (x:=(lvr s.lems ((zak s.lems (j:Int)).1))) (by omega))) ?_));by_cases h2:0<=lv s.lems (zak s.lems (j:Int)).1
       .refine tq_ rfl (geT rfl (by rw[zip];exact zjb.2 h2)) (zl 2 rfl (is_ (zdC s j) rfl (by simp[zdC,hn1,h1,h2]) (zl 1 rfl ?_)));exact mx_ rfl
       .refine tq_ rfl (geF rfl (by rw[zip];exact fun e=>h2 (zjb.1 e))) (zl 2 rfl (is_ (zdC s j) rfl (by simp[zdC,hn1,h1,h2]) (zl 1 rfl ?_)));exact mx_ rfl
      .refine tq_ rfl (gtF rfl) (zl 8 rfl (is_ (zdC s j) rfl (by simp[zdC,hn1,h1]) (zl 1 rfl ?_)));exact mx_ rfl
     .refine zl 10 rfl (is_ (zdC s j) rfl (by simp[zdC,hn1]) (zl 1 rfl ?_));exact mx_ rfl
    .refine zao rfl (fun hon=>?_) (fun hon=>?_)
     .refine zc 15 rfl ?_;refine zao rfl (fun hd1=>?_) (fun hd1=>?_)
      .refine zc 7 rfl ?_;refine nz_ [so 4 _,so 7 _,so 13 (D.ptr 2 0),so 14 (D.ptr 3 0),so 15 (D.ptr 4 0)] [_,_,hb_ 36 [Leaf.val (.bool (lvr s.lems ((zak s.lems (j:Int)).2)).neg),zaf (lvr s.lems ((zak s.lems (j:Int)).2)).n,zaf (lvr s.lems ((zak s.lems (j:Int)).2)).d],hb_ 107 [Leaf.val (.int .i64 12),Leaf.val (.int .i64 (j:Int)),Leaf.val (.int .i64 0),Leaf.val (.int .i64 (((zak s.lems (j:Int)).2:Nat):Int))],hb_ 107 [Leaf.val (.int .i64 8),Leaf.val (.int .i64 (j:Int)),Leaf.val (.int .i64 (((zak s.lems (j:Int)).1:Nat):Int)),Leaf.val (.int .i64 0)]] rfl rfl ?_;refine dr_ 0 [(8,0)] [0] (dz 3 rfl (kc_ zge rfl (zdI ⟨8,(j:Int),(((zak s.lems (j:Int)).1:Nat):Int),0⟩ (qOf (((1:Int):Rat)))) (dz 2 rfl (kc_ zge rfl (zdI ⟨12,(j:Int),0,(((zak s.lems (j:Int)).2:Nat):Int)⟩ (qOf (((1:Int):Rat)))) ?_))));refine ke_ rfl (fun _=>zae rfl zcE zbi zcU rfl (by decide) (by decide) rfl (by decide) rfl) (dz 3 rfl (zad (za 1 rfl ?_)));exact r3_ hq_ rfl (by rw[zcn (zkw hof hh hon),zgM (by simpa using hd1)] <;> rfl)
      .refine zc 3 rfl ?_;refine nz_ [so 4 _,so 7 _,so 13 (D.ptr 2 0),so 14 (D.ptr 3 0),so 15 (D.ptr 4 0)] [_,_,hb_ 36 [Leaf.val (.bool (lvr s.lems ((zak s.lems (j:Int)).2)).neg),zaf (lvr s.lems ((zak s.lems (j:Int)).2)).n,zaf (lvr s.lems ((zak s.lems (j:Int)).2)).d],hb_ 107 [Leaf.val (.int .i64 12),Leaf.val (.int .i64 (j:Int)),Leaf.val (.int .i64 0),Leaf.val (.int .i64 (((zak s.lems (j:Int)).2:Nat):Int))],hb_ 107 [Leaf.val (.int .i64 8),Leaf.val (.int .i64 (j:Int)),Leaf.val (.int .i64 0),Leaf.val (.int .i64 0)]] rfl rfl ?_;refine dr_ 0 [(8,0)] [0] (dz 3 rfl (kc_ zge rfl (zdI ⟨8,(j:Int),0,0⟩ (qOf (((1:Int):Rat)))) (dz 2 rfl (kc_ zge rfl (zdI ⟨12,(j:Int),0,(((zak s.lems (j:Int)).2:Nat):Int)⟩ (qOf (((1:Int):Rat)))) (ke_ rfl (fun _=>zae rfl zcE zbi zcU rfl (by decide) (by decide) rfl (by decide) rfl) (dz 3 rfl (zad ?_)))))));refine za 1 rfl ?_;exact r3_ hq_ rfl (by rw[zcn (zkw hof hh hon),zkp (by simpa using hd1)] <;> rfl)
     .refine zc 4 rfl ?_;refine nz_ [so 0 _,so 1 _,so 4 _,so 7 _,so 8 _,so 9 _,so 13 (D.ptr 2 0),so 14 (D.ptr 3 0)] [_,_,hb_ 36 [Leaf.val (.bool (lvr s.lems ((zak s.lems (j:Int)).2)).neg),zaf (lvr s.lems ((zak s.lems (j:Int)).2)).n,zaf (lvr s.lems ((zak s.lems (j:Int)).2)).d],hb_ 107 [Leaf.val (.int .i64 12),Leaf.val (.int .i64 (j:Int)),Leaf.val (.int .i64 0),Leaf.val (.int .i64 (((zak s.lems (j:Int)).2:Nat):Int))]] rfl rfl ?_;refine zc 2 rfl ?_;by_cases hl0:(zak s.lems (j:Int)).1=0
      .refine tq_ rfl (eqT rfl) (zl 11 rfl ?_);exact r3_ hq_ rfl (by rw[zfd (zor hof hh hon hl0)] <;> rfl)
      .refine tq_ rfl (eqF rfl) (zl 6 rfl ?_);obtain⟨y,hy,_,_,hly,hy0,hyl⟩:=zbv hl0;have hne:=zvY hof hh hon hl0;refine nz_ [so 0 _,so 1 _,so 4 _,so 7 _,so 8 _,so 9 _,so 13 _,so 14 _] [_,_,_,_] rfl rfl (dr_ 1 [(10,4),(11,4)] [4] (dz 4 rfl (kc_ zpN rfl (zgA s (by assumption) ((zak s.lems (j:Int)).1) (by omega) (by omega)) ?_)));refine kc_ zuO rfl (zEf (lvr s.lems ((zak s.lems (j:Int)).2)) ((lvr s.lems ((zak s.lems (j:Int)).2)).q) rfl (Fq.use (x:=(lvr s.lems ((zak s.lems (j:Int)).2))) (by omega)) (lvr s.lems ((zak s.lems (j:Int)).1)) ((lvr s.lems ((zak s.lems (j:Int)).1)).q) rfl (Fq.use (x:=(lvr s.lems ((zak s.lems (j:Int)).1))) (by omega))) ?_;refine kc_ zzn rfl (qdiv (qOf (((1:Int):Rat))) (((1:Int):Rat)) (zaj _) (Br.use (by omega)) (qOf (((lvr s.lems ((zak s.lems (j:Int)).2)).q)-((lvr s.lems ((zak s.lems (j:Int)).1)).q))) (((lvr s.lems ((zak s.lems (j:Int)).2)).q)-((lvr s.lems ((zak s.lems (j:Int)).1)).q)) (zaj _) (Br.use (by omega)) (by assumption)) (dz 6 rfl ?_);refine zad (za 2 rfl (nf_ [1] [so 1 _,so 4 _,so 8 _,so 9 _,so 13 _,so 14 _,so 16 (D.ptr 4 0)] [_,none,_,_,hb_ 36 (qL ((((1:Int):Rat))/(((lvr s.lems ((zak s.lems (j:Int)).2)).q)-((lvr s.lems ((zak s.lems (j:Int)).1)).q))))] rfl rfl rfl (dr_ 0 [(13,0)] [0] (dz 4 rfl ?_))));refine kc_ zlZ rfl (zwj (lvr s.lems ((zak s.lems (j:Int)).2)) ((lvr s.lems ((zak s.lems (j:Int)).2)).q) rfl (Fq.use (x:=(lvr s.lems ((zak s.lems (j:Int)).2))) (by omega)) (qOf ((((1:Int):Rat))/(((lvr s.lems ((zak s.lems (j:Int)).2)).q)-((lvr s.lems ((zak s.lems (j:Int)).1)).q)))) ((((1:Int):Rat))/(((lvr s.lems ((zak s.lems (j:Int)).2)).q)-((lvr s.lems ((zak s.lems (j:Int)).1)).q))) (zaj _) (Br.use (by omega))) ?_;refine kc_ zge rfl (zdI ⟨12,(j:Int),0,(((zak s.lems (j:Int)).2:Nat):Int)⟩ (qOf (((lvr s.lems ((zak s.lems (j:Int)).2)).q)*((((1:Int):Rat))/(((lvr s.lems ((zak s.lems (j:Int)).2)).q)-((lvr s.lems ((zak s.lems (j:Int)).1)).q)))))) (dz 5 rfl ?_);refine kc_ zge rfl (zdI ⟨13,(j:Int),(((zak s.lems (j:Int)).1:Nat):Int),(((zak s.lems (j:Int)).2:Nat):Int)⟩ (qOf ((((1:Int):Rat))/(((lvr s.lems ((zak s.lems (j:Int)).2)).q)-((lvr s.lems ((zak s.lems (j:Int)).1)).q))))) ?_;refine ke_ rfl (fun _=>zae rfl zcE zbi zcU rfl (by decide) (by decide) rfl (by decide) rfl) (dz 3 rfl (zad (za 1 rfl ?_)));exact r3_ hq_ rfl (by rw[zcn (zlV hof hh hon hl0)] <;> rfl)
theorem zzF(s:Sc)(hs:SB 135001 s)(v:Nat)(hv:v<(s.q.g.inp+s.q.g.us.length))(up:Bool):Ctr Tryz.prog 132 [vwV s,V.one (Leaf.val (.int .i64 ((v:Int)))),V.one (Leaf.val (.bool up))] (R.tup [qV (zbF s v up).1,V.one (El.row muE (zbF s v up).2.1),V.one (Leaf.val (.bool (zbF s v up).2.2))]):=by
 refine bd_ Tryz.func132 Tryz.ntmps132 rfl (fun w0 A0=>?_);have hB:=hs.B;have hq:=hs.q;have hd:=hs.d;have hpl:=hs.pl;have hl:=hs.ll;have hg:=hq.g;have hr:=hq.r;have hlo:=hr.lo;have hhi:=hr.hi;have h1:=hg.i1;have h2:=hg.i3;have h3:=hg.u4;have h4:=hg.o1;have h5:=hg.o3;refine zc 8 rfl ?_;by_cases hvi:v<s.q.g.inp
 .refine zc 3 rfl (tq_ rfl (zbl rfl rfl) (tq_ rfl (jft rfl) (tq_ rfl (jft rfl) (tq_ rfl (jft rfl) (tq_ rfl (jfr rfl) (tq_ rfl (jli rfl) (tq_ rfl (zaO rfl rfl rfl (r:=((v:Int)-(s.q.g.inp:Int))) (w64 (by omega) (by omega) (by omega))) (zl 8 rfl (tq_ rfl (ltT rfl) ?_)))))))));refine zl 9 rfl (tc_ fn194 rfl (zya s hs v hvi up) (zl 8 rfl ?_));exact r3_ hq_ rfl (by rw[zsP hvi])
 .refine zc 3 rfl (tq_ rfl (zbl rfl rfl) (tq_ rfl (jft rfl) (tq_ rfl (jft rfl) (tq_ rfl (jft rfl) (tq_ rfl (jfr rfl) (tq_ rfl (jli rfl) (tq_ rfl (jsb (v-s.q.g.inp) rfl) (zl 8 rfl (tq_ rfl (ltF rfl) ?_)))))))));refine zl 10 rfl ?_;refine zao rfl (fun hup=>?_) (fun hup=>?_)
  .refine zc 4 rfl (tc_ fn195 rfl (zBR s (by assumption) (v-s.q.g.inp) (by omega)) (zl 8 rfl ?_));exact r3_ hq_ rfl (by rw[hup,zsN hvi])
  .refine zc 7 rfl (tc_ fn196 rfl (low_p s (by assumption) (v-s.q.g.inp) (by omega)) (zl 8 rfl ?_));exact r3_ hq_ rfl (by rw[hup,zsO hvi])
set_option maxHeartbeats 2000000 in
theorem zzD(s:Sc)(hs:SB 135001 s)(f:Af){b:Nat}(hf:FOk b (s.q.g.inp+s.q.g.us.length) f)(hb:b<=600000000):Ctr Tryz.prog 58 [V.agg [],scV s,afV f] (R.tup [qV (qOf (zb4 s f).1),V.one (El.row muE (zb4 s f).2.1),V.one (Leaf.val (.bool (zb4 s f).2.2))]):=by
 refine bd_ Tryz.func58 Tryz.ntmps58 rfl (fun w0 A0=>?_);have hB:=hs.B;have hq:=hs.q;have hd:=hs.d;have hpl:=hs.pl;have hl:=hs.ll;have hg:=hq.g;have hr:=hq.r;have hlo:=hr.lo;have hhi:=hr.hi;have h1:=hg.i1;have h2:=hg.i3;have h3:=hg.u4;have h4:=hg.o1;have h5:=hg.o3;have hfl:=hf.fl;haveI:=hfl.fm (by omega);haveI:=hfl.cb;have h7:=hfl.len7 hq;refine zc 13 rfl (tc_ fn131 rfl (zBJ s hs) (zl 9 rfl (nf_ [0] [so 4 (D.ptr 1 0),so 5 (D.ptr 2 0),so 6 (D.ptr 3 0),so 9 (D.rep (zaU (vwL s))),so 10 (D.bool true)] [none,hb_ 43 (scL s),hb_ 38 (afL f),hb_ 36 [Leaf.val (.bool false),zaf ([]),zaf ([])]] rfl rfl rfl (dr_ 0 [] [] (dz 7 rfl (kc_ fn50 rfl (zm8 s.q.g (by assumption)) ?_))))));refine kc_ zzg rfl (zjD f hf (by omega) (s.q.g.inp+s.q.g.us.length) (zEq _) (by omega)) (dz 2 rfl (zad (za 5 rfl (nf_ [1] [so 5 _,so 6 _,so 9 _] [none,none,_,_] rfl rfl rfl (zc 9 rfl (tq_ rfl (zb3 rfl (rfl)) (zl 4 rfl (zgu 12 109 7 rfl rfl (zc 3 rfl ?_)))))))));refine tq_ rfl (jln rfl) (zl 4 rfl (fr_ [2] rfl ?_));refine zbq (fun m Γ H=>∃(i:Nat) (n:Nat) (x:Rat) (out:List Mu),f.ts.length-i=m/\Γ=[(6,some (D.ptr 3 0)),(9,some (D.rep (zaU (vwL s)))),(11,some (D.ptr 4 0)),(12,some (D.v (V.one (Leaf.own 5 n)))),(41,some (D.v (V.one (El.row tmE f.ts)))),(42,some (D.val (.int .i64 ((f.ts.length:Nat):Int)))),(43,some (D.val (.int .i64 (i:Int))))]/\H=[none,none,none,hb_ 36 [Leaf.val (.bool false),zaf ([]),zaf ([])],hb_ 36 (qL x),hgr 109 7 muE out n]/\i<=f.ts.length/\zsC s f i=some (x,out)/\PlOk 135001 (b+1) i out) ⟨0,0,f.c,[],rfl,rfl,rfl,zEs _,rfl,PlOk.start⟩ rfl ?_;rintro m Γ H ⟨i,n,x,out,rfl,rfl,rfl,hi0,hR,hP⟩;refine zc 1 rfl (nz_ [so 6 (D.ptr 3 0),so 9 (D.rep (zaU (vwL s))),so 11 (D.ptr 4 0),so 12 (D.v (V.one (Leaf.own 5 n))),so 41 (D.v (V.one (El.row tmE f.ts))),so 42 (D.val (.int .i64 ((f.ts.length:Nat):Int))),so 43 (D.val (.int .i64 (i:Int)))] [none,none,none,hb_ 36 [Leaf.val (.bool false),zaf ([]),zaf ([])],hb_ 36 (qL x),hgr 109 7 muE out n] rfl rfl ?_);refine zc 1 rfl ?_;by_cases hi:i<f.ts.length
 .refine tq_ rfl (ltT rfl) (zl 9 rfl ?_);obtain⟨t,ht⟩:∃t,f.ts[i]?=some t:=⟨_,zEm hi⟩;have htm:=zEn ht;have htv:=hf.var t htm;haveI htb:Br t.2 (b+1):=(hf.bd t htm).br;have hxb:=(zmc hs hfl i (by omega) x _ (zkW hR)).br;have hmul:=zEx (135001+(b+1)+210) (show(f.ts.take i).length<=7 by rw[zED];omega);haveI:Br x (b+1+7*(135001+(b+1)+210)):=hxb.mono (by omega);have hol:=hP.len;refine zc 1 rfl (tq_ rfl (jix i ht rfl) (tq_ rfl (jlr rfl) (zl 5 rfl (dr_ 1 [(12,7),(13,7)] [7] (dz 5 rfl (kc_ ziB rfl (zdm (qOf (t.2)) (t.2) (zaj _) (Br.use (by omega))) (kq_ rfl (zmo rfl rfl rfl (b:=(decide (t.2<0))) (decide_eq_decide.2 zkb)) (kc_ fn132 rfl (zzF s hs t.1 htv (decide (t.2<0))) (dz 8 rfl ?_)))))))));refine zad (za 3 rfl ?_);refine nz_ [so 6 _,so 9 _,so 11 _,so 12 _,so 14 (D.ptr 6 0),so 15 (D.ptr 7 0),so 16 (D.v (V.one (El.row muE (((zbF s t.1 (decide (t.2<0)))).2.1)))),so 17 (D.bool (((zbF s t.1 (decide (t.2<0)))).2.2)),so 41 _,so 42 _,so 43 _] [none,none,none,_,_,_,hb_ 103 [Leaf.val (.int .i64 ((t.1:Nat):Int)),Leaf.val (.bool (zaR t.2)),zaf (zaa (zav t.2)),zaf (zaa (zaC t.2))],hb_ 36 [Leaf.val (.bool ((zbF s t.1 (decide (t.2<0)))).1.neg),zaf ((zbF s t.1 (decide (t.2<0)))).1.n,zaf ((zbF s t.1 (decide (t.2<0)))).1.d]] rfl rfl ?_;refine zc 5 rfl ?_;refine zao rfl (fun hok=>?_) (fun hok=>?_)
  .refine zc 8 rfl ?_;exact r3_ hq_ rfl (by rw[zsz ht hR (by simpa using hok)];show _=R.tup [qV (qOf 0),_,_];rw[<-zcf] <;> rfl)
  .refine zc 3 rfl ?_;have hok1:(zbF s t.1 (decide (t.2<0))).2.2=true:=by simpa using hok
   have hbk:=zsL hs htv (zoT hok1);haveI:=hbk.fq;have hst:=hbk.step;have hsl:=hst.len;refine dr_ 0 [(6,4)] [4] (kp_ [] rfl (zaJ rfl rfl rfl (by decide) zmx (by decide) (zEt rfl) rfl) (dz 3 rfl (kc_ zlZ rfl (zwj (qOf (t.2)) (t.2) (zaj _) (Br.use (by omega)) ((zbF s t.1 (decide (t.2<0)))).1 (((zbF s t.1 (decide (t.2<0)))).1.q) rfl (Fq.use (x:=((zbF s t.1 (decide (t.2<0)))).1) (by omega))) ?_)));refine kc_ zr9 rfl (zBd (qOf (x)) (x) (zaj _) (Br.use (by omega)) (qOf ((t.2)*(((zbF s t.1 (decide (t.2<0)))).1.q))) ((t.2)*(((zbF s t.1 (decide (t.2<0)))).1.q)) (zaj _) (Br.use (by omega))) (dz 1 rfl (zad (za 2 rfl ?_)));refine nf_ [7] [so 6 _,so 9 _,so 11 _,so 12 _,so 14 _,so 16 _,so 41 _,so 42 _,so 43 _] [none,none,none,_,hb_ 36 (qL ((x)+((t.2)*(((zbF s t.1 (decide (t.2<0)))).1.q)))),_,_,none] rfl rfl rfl (dr_ 1 [(6,8),(7,8)] [8] (dz 4 rfl (kc_ zCC rfl (zBc (qOf (t.2)) (t.2) (zaj _) (Br.use (by omega))) ?_)));refine kc_ zDf rfl (qmax (qOf (t.2)) (t.2) (zaj _) (Br.use (by omega)) (qOf (-(t.2))) (-(t.2)) (zaj _) (Br.use (by omega))) (dz 2 rfl (zad (za 2 rfl (nf_ [6] [so 6 _,so 9 _,so 11 _,so 12 _,so 16 _,so 18 (D.ptr 8 0),so 41 _,so 42 _,so 43 _] [none,none,none,_,_,_,none,none,hb_ 36 (qL (mx (t.2) (-(t.2))))] rfl rfl rfl (zc 2 rfl (tq_ rfl (jln rfl) (zl 4 rfl ?_)))))));refine zbq (fun m Γ H=>∃(k:Nat) (n2:Nat) (out2:List Mu),(zbF s t.1 (decide (t.2<0))).2.1.length-k=m/\Γ=[(6,some (D.ptr 3 0)),(9,some (D.rep (zaU (vwL s)))),(11,some (D.ptr 4 0)),(12,some (D.v (V.one (Leaf.own 5 n2)))),(18,some (D.ptr 8 0)),(41,some (D.v (V.one (El.row tmE f.ts)))),(42,some (D.val (.int .i64 ((f.ts.length:Nat):Int)))),(43,some (D.val (.int .i64 (i:Int)))),(74,some (D.v (V.one (El.row muE (((zbF s t.1 (decide (t.2<0)))).2.1))))),(75,some (D.val (.int .i64 (((((zbF s t.1 (decide (t.2<0)))).2.1).length:Nat):Int)))),(76,some (D.val (.int .i64 (k:Int))))]/\H=[none,none,none,hb_ 36 [Leaf.val (.bool false),zaf ([]),zaf ([])],hb_ 36 (qL ((x)+((t.2)*(((zbF s t.1 (decide (t.2<0)))).1.q)))),hgr 109 7 muE out2 n2,none,none,hb_ 36 (qL (mx (t.2) (-(t.2))))]/\k<=(zbF s t.1 (decide (t.2<0))).2.1.length/\out2=out++zn1 (zc0 t.2) ((zbF s t.1 (decide (t.2<0))).2.1.take k)) ⟨0,n,out,rfl,rfl,rfl,zEs _,by simp[zn1]⟩ rfl ?_;rintro m Γ H ⟨k,n2,out2,rfl,rfl,rfl,hk0,hout2⟩;refine zc 2 rfl ?_;by_cases hk:k<(zbF s t.1 (decide (t.2<0))).2.1.length
   .refine tq_ rfl (ltT rfl) (zl 9 rfl ?_);obtain⟨y,hy⟩:∃y,(zbF s t.1 (decide (t.2<0))).2.1[k]?=some y:=⟨_,zEm hk⟩;haveI hyb:=hst.bd y (zEn hy);have hol2:out2.length<=30:=by rw[hout2,zEC,zn1,List.length_map,zED];omega
    refine zc 1 rfl (tq_ rfl (jix k hy rfl) (tq_ rfl (jlr rfl) (zl 4 rfl ?_)));refine nz_ [so 6 (D.ptr 3 0),so 9 (D.rep (zaU (vwL s))),so 11 (D.ptr 4 0),so 12 (D.v (V.one (Leaf.own 5 n2))),so 18 (D.ptr 8 0),so 20 (D.ptr 9 0),so 41 (D.v (V.one (El.row tmE f.ts))),so 42 (D.val (.int .i64 ((f.ts.length:Nat):Int))),so 43 (D.val (.int .i64 (i:Int))),so 74 (D.v (V.one (El.row muE (((zbF s t.1 (decide (t.2<0)))).2.1)))),so 75 (D.val (.int .i64 (((((zbF s t.1 (decide (t.2<0)))).2.1).length:Nat):Int))),so 76 (D.val (.int .i64 (k:Int)))] [none,none,none,hb_ 36 [Leaf.val (.bool false),zaf ([]),zaf ([])],hb_ 36 (qL ((x)+((t.2)*(((zbF s t.1 (decide (t.2<0)))).1.q)))),hgr 109 7 muE out2 n2,none,none,hb_ 36 (qL (mx (t.2) (-(t.2)))),hb_ 109 [Leaf.val (.int .i64 y.r.kind),Leaf.val (.int .i64 y.r.idx),Leaf.val (.int .i64 y.r.lo),Leaf.val (.int .i64 y.r.hi),Leaf.val (.bool y.c.neg),zaf y.c.n,zaf y.c.d]] rfl rfl ?_;refine dr_ 0 [(9,5)] [5] (dz 6 rfl (kc_ zlZ rfl (zwj (qOf (mx (t.2) (-(t.2)))) (mx (t.2) (-(t.2))) (zaj _) (Br.use (by omega)) y.c (y.c.q) rfl (Fq.use (x:=y.c) (by omega))) (kc_ zge rfl (zdI y.r (qOf ((mx (t.2) (-(t.2)))*(y.c.q)))) (ke_ rfl (fun _=>zae rfl zcE zbi zcU rfl (by decide) (by decide) rfl (by decide) rfl) ?_))));refine ki_ 5 rfl (dap (e:=muE) (⟨⟨y.r.kind,y.r.idx,y.r.lo,y.r.hi⟩,(qOf ((mx (t.2) (-(t.2)))*(y.c.q)))⟩) rfl rfl) (dz 1 rfl (zad (za 2 rfl ?_)));refine nf_ [9] [so 6 _,so 9 _,so 11 _,so 12 (D.v (V.one (Leaf.own 5 (n2+1)))),so 18 _,so 41 _,so 42 _,so 43 _,so 74 _,so 75 _,so 76 _] [none,none,none,_,_,hgr 109 7 muE (out2++[⟨⟨y.r.kind,y.r.idx,y.r.lo,y.r.hi⟩,(qOf ((mx (t.2) (-(t.2)))*(y.c.q)))⟩]) (n2+1),none,none,_,none] rfl rfl rfl (zc 1 rfl (tq_ rfl (jad (k+1) rfl) (zl 2 rfl (zaK 9 rfl ?_))));exact nx_ ⟨k+1,_,_,rfl,rfl,rfl,hk,(by rw[hout2,zEP,ztZ hy])⟩ rfl
   .refine tq_ rfl (ltF rfl) (zl 10 rfl ?_);rw[show k=(zbF s t.1 (decide (t.2<0))).2.1.length by omega,zEJ] at hout2;subst hout2;refine zc 1 rfl (tq_ rfl (jad (i+1) rfl) (zl 2 rfl (zal 8 (zaK 6 rfl ?_))));exact nx_ ⟨i+1,_,_,_,rfl,rfl,rfl,hi,zsA ht hR hok1,hP.next hst htb⟩ rfl
 .refine tq_ rfl (ltF rfl) (zl 10 rfl ?_);have hie:i=f.ts.length:=by omega
  rw[hie] at hR;have hc:=hP.cof;have hmb:=hP.mb;have hol:=hP.len;refine zc 1 rfl (tq_ rfl (zex (r:=5) (n:=n) (x:=V.one (Leaf.own 5 n)) (x':=V.one (El.row muE out)) (zk3 rfl rfl) (RowAt.ofE muE out rfl (by decide)) (by decide) (.inr ⟨rfl,rfl⟩)) (ziY (te_ rfl (zgx (i:=6) rfl fn55 rfl (zng out (by assumption) (by assumption) (by omega) (by omega)) (by decide) rfl) (zl 7 rfl ?_))));refine nz_ [so 6 _,so 11 _,so 12 (D.v (V.one (Leaf.own 6 0)))] [none,none,none,_,_,_,hgr 109 7 muE (zcv out) 0] rfl rfl (zc 8 rfl (zgs 7 (x':=V.one (El.row muE (zcv out))) rfl (RowAt.ofE muE (zcv out) rfl (by decide)) (.inr ⟨rfl,rfl⟩) ?_));exact r3_ hq_ rfl (by rw[zvc hR])
theorem zoP  : Ctr Tryz.prog 275 [V.agg []] (R.one (V.one (Leaf.val (.string ⟨#[98,111,120]⟩)))):=by
 refine bd_ Tryz.func275 Tryz.ntmps275 rfl (fun w0 A0=>?_);refine zc 11 rfl ?_;exact r1_ hq_ rfl rfl
theorem zoB(q:Qu)(hq:QOk q)(d:Dc){b:Nat}(hd:DOk b q d)(hb:b<=1000000):Ctr Tryz.prog 96 [quV q,dcV d] (R.one (V.one (Leaf.val (.bool true)))):=by
 refine bd_ Tryz.func96 Tryz.ntmps96 rfl (fun w0 A0=>?_);refine zc 10 rfl (tc_ zzf rfl (zeq q hq) (zl 3 rfl (tc_ zzl rfl (zsc q d hd hb) (zl 4 rfl ?_))));exact r1_ hq_ rfl rfl
set_option maxHeartbeats 2000000 in
theorem zqJ(l:List Lm)(hl:l.length<=9223372036854775807)(hp:∀m∈l,m.pf.length<=9223372036854775807):Ctr Tryz.prog 12 [V.one (El.row lmE l)] (R.one (V.one (Leaf.val (.bool (zh4 l))))):=by
 refine bd_ Tryz.func12 Tryz.ntmps12 rfl (fun w0 A0=>?_);refine zc 12 rfl (zbq (fun m Γ H=>∃(i:Nat),l.length-i=m/\Γ=[(0,some (D.v (V.one (El.row lmE l)))),(3,some (D.val (.int .i64 (i:Int))))]/\H=[]/\i<=l.length/\(l.take i).all zeC=true) ⟨0,rfl,rfl,rfl,zEs _,rfl⟩ rfl ?_);rintro m Γ H ⟨i,rfl,rfl,rfl,hi0,hall⟩;refine zc 5 rfl (tq_ rfl (jln rfl) ?_);by_cases hi:i<l.length
 .refine tq_ rfl (ltT rfl) (zl 9 rfl ?_);obtain⟨x,hx⟩:∃x,l[i]?=some x:=⟨_,zEm hi⟩;have hpx:=hp x (zEn hx);refine zc 3 rfl (tq_ rfl (jix i hx rfl) (tq_ rfl (jft rfl) (tq_ rfl (jfr rfl) (tq_ rfl (jli rfl) (tq_ rfl (jln rfl) ?_)))));by_cases he1:4<x.v.n.length
  .refine tq_ rfl (gtT rfl) (zl 24 rfl (zl 3 rfl ?_));exact r1_ hq_ rfl (by rw[zfS hx (zj6 (by omega))])
  .refine tq_ rfl (gtF rfl) (zl 1 rfl ?_);have hn1:x.v.n.length<=4:=by omega
   refine zl 2 rfl (tq_ rfl (jix i hx rfl) (tq_ rfl (jft rfl) (tq_ rfl (jfr rfl) (tq_ rfl (jli rfl) (tq_ rfl (jln rfl) ?_)))));by_cases he2:4<x.v.d.length
   .refine tq_ rfl (gtT rfl) (zl 18 rfl ?_);exact r1_ hq_ rfl (by rw[zfS hx (zj6 (by omega))])
   .refine tq_ rfl (gtF rfl) (zl 2 rfl ?_);have hn2:x.v.d.length<=4:=by omega
    refine zl 2 rfl (tq_ rfl (jix i hx rfl) (tq_ rfl (jfr rfl) (tq_ rfl (jli rfl) (tq_ rfl (jln rfl) ?_))));by_cases he3:30<x.pf.length
    .refine tq_ rfl (gtT rfl) (zl 9 rfl ?_);exact r1_ hq_ rfl (by rw[zfS hx (zj6 (by omega))])
    .refine tq_ rfl (gtF rfl) (zl 7 rfl ?_);have hn3:x.pf.length<=30:=by omega
     refine zc 5 rfl (zbq (fun m Γ H=>∃(j:Nat),x.pf.length-j=m/\Γ=[(0,some (D.v (V.one (El.row lmE l)))),(3,some (D.val (.int .i64 (i:Int)))),(4,some (D.val (.int .i64 (j:Int))))]/\H=[]/\j<=x.pf.length/\(x.pf.take j).all zfR=true) ⟨0,rfl,rfl,rfl,zEs _,rfl⟩ rfl ?_);rintro m Γ H ⟨j,rfl,rfl,rfl,hj0,hjall⟩;refine zc 6 rfl (tq_ rfl (jix i hx rfl) (tq_ rfl (jfr rfl) (tq_ rfl (jli rfl) (tq_ rfl (jln rfl) ?_))));by_cases hj:j<x.pf.length
     .refine tq_ rfl (ltT rfl) (zl 8 rfl ?_);obtain⟨y,hy⟩:∃y,x.pf[j]?=some y:=⟨_,zEm hj⟩;refine zc 3 rfl (tq_ rfl (jix i hx rfl) (tq_ rfl (jfr rfl) (tq_ rfl (jli rfl) (zl 1 rfl (tq_ rfl (jix j hy rfl) (tq_ rfl (jfr rfl) (tq_ rfl (jfr rfl) (tq_ rfl (jli rfl) (tq_ rfl (jln rfl) ?_)))))))));by_cases hd1:4<y.c.n.length
      .refine tq_ rfl (gtT rfl) (zl 22 rfl ?_);exact r1_ hq_ rfl (by rw[zfS hx (znX hy (by omega))])
      .refine tq_ rfl (gtF rfl) (zl 1 rfl ?_);have hm1:y.c.n.length<=4:=by omega
       refine zl 2 rfl (tq_ rfl (jix i hx rfl) (tq_ rfl (jfr rfl) (tq_ rfl (jli rfl) (zl 1 rfl (tq_ rfl (jix j hy rfl) (tq_ rfl (jfr rfl) (tq_ rfl (jfr rfl) (tq_ rfl (jli rfl) (tq_ rfl (jln rfl) ?_)))))))));by_cases hd2:4<y.c.d.length
       .refine tq_ rfl (gtT rfl) (zl 9 rfl ?_);exact r1_ hq_ rfl (by rw[zfS hx (znX hy (by omega))])
       .refine tq_ rfl (gtF rfl) (zl 7 rfl ?_);have hm2:y.c.d.length<=4:=by omega
        refine zc 2 rfl (tq_ rfl (jad (j+1) rfl) (zl 2 rfl ?_));exact nx_ ⟨j+1,rfl,rfl,rfl,hj,zoY hy hjall (by unfold zfR;rw[decide_eq_true hm1,decide_eq_true hm2];rfl)⟩ rfl
     .refine tq_ rfl (ltF rfl) (zl 9 rfl ?_);have hpall:x.pf.all zfR=true:=by rw[show j=x.pf.length by omega,zEJ] at hjall;exact hjall
      refine zc 2 rfl (tq_ rfl (jad (i+1) rfl) (zl 2 rfl ?_));exact nx_ ⟨i+1,rfl,rfl,rfl,hi,zoY hx hall (ztV ⟨hn1,hn2,hn3⟩ hpall)⟩ rfl
 .refine tq_ rfl (ltF rfl) (zl 9 rfl ?_);have hie:i=l.length:=by omega
  rw[hie,zEJ] at hall;refine zc 2 rfl (tq_ rfl (jln rfl) (zl 4 rfl ?_));exact r1_ hq_ rfl (by unfold zh4;rw[hall,Bool.true_and,show decide (l.length<=20)=decide (((l.length:Nat):Int)<=20) from decide_eq_decide.2 (by omega)] <;> rfl)
end Go.Proofs.YtjeiacoegppoiaaGreatDoor
