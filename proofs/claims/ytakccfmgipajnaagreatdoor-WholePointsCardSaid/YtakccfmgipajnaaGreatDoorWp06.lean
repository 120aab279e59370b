/- Parts of the proof, 6: the texts WkG, RatQ, Qz, Qw, WkH, WkI, Qi, as far as they are used. -/
import Derived.Test.YtakccfmgipajnaaGreatDoorWp05
set_option linter.unusedSimpArgs false
set_option linter.unusedVariables false
set_option maxRecDepth 10000
namespace Rc
abbrev Zj:=@Classical.not_not
abbrev Zv:=@List.map_append
abbrev Zw:=@Bool.eq_iff_iff
abbrev ZF:=@Rat.sub_eq_add_neg
abbrev ZR:=@Nat.gcd_pos_of_pos_right
abbrev zad:=@Rat.le_of_lt
abbrev zal:=@Nat.div_one
abbrev zao:=@Bool.true_and
abbrev zar:=@Nat.gcd_dvd_left
abbrev zaA:=@Rat.intCast_lt_intCast
abbrev zaM:=@Nat.le_of_dvd
abbrev zaY:=@Rat.mkRat_eq_div
abbrev za1:=@Rat.div_def
abbrev za2:=@Rat.le_refl
end Rc
namespace Go.Proofs.YtakccfmgipajnaaGreatDoor
open Go Go.RowKit Rc
theorem jr(l:List Nat)(hs:Small l)(hl:l.length<=10000000000000):ar Tryz.prog 109 [V.one (ae l)] (R.one (V.one (ae (ah (val l))))):=by
 refine aF Tryz.func109 Tryz.ntmps109 rfl (fun w0 A0=>?_);refine zc 1 rfl ?_;refine nJ (s:=0) rfl (fun hm=>?_);refine zc 7 rfl (aa rfl (aw rfl) (zl 5 rfl (bH (fun m Γ H=>∃(n:Nat),n=m/\Γ=[(0,some (D.v (V.one (ae l)))),(3,some (D.int n))]/\H=[]/\n<=l.length/\∀i (hi:i<l.length),n<=i->l[i]=0) ⟨l.length,rfl,rfl,rfl,XP _,fun i hi h=>absurd hi (by omega)⟩ rfl ?_)));rintro m Γ H ⟨n,rfl,rfl,rfl,h⟩;refine zc 4 rfl ?_;by_cases hp:0<n
 .refine aa rfl (dQ rfl) (zl 3 rfl (aa rfl (b9 (n-1) rfl) (aa rfl (b5 rfl (eV (n-1) (by omega) (by omega))) (aa rfl (bB rfl) ?_))));by_cases hz:l[n-1]'(by omega)=0
  .refine aa rfl (bp rfl) (zl 9 rfl (aa rfl (b9 (n-1) rfl) (zl 3 rfl ?_)));exact aP ⟨n-1,rfl,rfl,rfl,by omega,fun i hi h1=>(if e:i=n-1 then by subst e;exact hz else h.2 i hi (by omega))⟩ rfl
  .refine aa rfl (aU rfl) (zl 11 rfl (j0 rfl rfl rfl rfl bP ba rfl (zl 2 rfl (aa rfl (DC rfl rfl rfl da ba h.1) ?_))));obtain⟨ti4,hi4,hz4,hs4,hb4⟩:=fi;refine mf rfl rfl rfl rfl rfl rfl rfl rfl rfl (by simp) (by simp) (by decide) bP da hi4 hz4 hs4 rfl (by have:=ZN n l;simp only[maxLen];omega) (by have:=ZN n l;rw[hb4];omega) (nm:=(l.take n).length) (by simp) (ls:=((l.take n).map aY)) (by simp) (zl 3 rfl (s9 2 (l.take n) rfl rfl rfl rfl rfl ?_));exact av ai rfl (by rw[<-xK hs n h.1 h.2 (fun _=>hz)])
 .refine aa rfl (cD rfl) (zl 18 rfl (j0 rfl rfl rfl rfl bP ba rfl (zl 2 rfl (aa rfl (DC rfl rfl rfl da ba h.1) ?_))));obtain⟨ti5,hi5,hz5,hs5,hb5⟩:=fi;refine mf rfl rfl rfl rfl rfl rfl rfl rfl rfl (by simp) (by simp) (by decide) bP da hi5 hz5 hs5 rfl (by have:=ZN n l;simp only[maxLen];omega) (by have:=ZN n l;rw[hb5];omega) (nm:=(l.take n).length) (by simp) (ls:=((l.take n).map aY)) (by simp) (zl 3 rfl (s9 2 (l.take n) rfl rfl rfl rfl rfl ?_));exact av ai rfl (by rw[<-xK hs n h.1 h.2 (fun h0=>absurd h0 hp)])
theorem kT(a:List Nat)(i:Nat):ar Tryz.prog 108 [V.one (ae a),V.one (ab.val (.int .i64 (i:Int)))] (R.one (V.one (ab.val (.int .u32 ((a.getD i 0:Nat):Int))))):=by
 refine aF Tryz.func108 Tryz.ntmps108 rfl (fun w0 A0=>?_);refine zc 10 rfl (aa rfl (aw rfl) ?_);by_cases hi:i<a.length
 .refine aa rfl (aX rfl) (zl 7 rfl (aa rfl (b5 rfl (fj (by omega))) (aa rfl (bB rfl) (zl 3 rfl ?_))));exact av ai rfl (by rw[iJ hi])
 .refine aa rfl (aO rfl) (zl 10 rfl ?_);exact av ai rfl (by rw[oD (by omega)] <;> rfl)
theorem Ff(a b:List Nat):ar Tryz.prog 216 [V.one (ae a),V.one (ae b)] (R.one (V.one (ab.val (.bool (decide (a=b)))))):=by
 refine aF Tryz.func216 Tryz.ntmps216 rfl (fun w0 A0=>?_);refine zc 1 rfl ?_;refine nJ (s:=0) rfl (fun hma=>?_);refine nJ (s:=1) rfl (fun hmb=>?_);refine zc 8 rfl (aa rfl (aw rfl) (zl 1 rfl (aa rfl (aw rfl) ?_)));by_cases hne:a.length≠b.length
 .refine aa rfl (fG rfl) (zl 8 rfl ?_);exact av ai rfl (by rw[decide_eq_false (fun e=>hne (by rw[e]))])
 .refine aa rfl (eg rfl) (zl 12 rfl (bH (fun m Γ H=>∃(k:Nat),a.length-k=m/\Γ=[(0,some (D.v (V.one (ae a)))),(1,some (D.v (V.one (ae b)))),(5,some (D.int (k:Int)))]/\H=[]/\k<=a.length/\a.take k=b.take k) ⟨0,rfl,rfl,rfl,XS _,rfl⟩ rfl ?_));rintro m Γ H ⟨k,rfl,rfl,rfl,hkle,hab⟩;refine zc 5 rfl (aa rfl (aw rfl) ?_);by_cases hk:k<a.length
  .refine aa rfl (aX rfl) (zl 8 rfl (aE 0 [] [] (dz 2 rfl (af rfl (b5 rfl (fj (by omega))) (af rfl (bB rfl) (dz 2 rfl (af rfl (b5 rfl (fj (by omega))) (af rfl (bB rfl) ?_))))))));by_cases hd:a[k]'hk≠b[k]'(by omega)
   .refine af rfl (fG rfl) (aB (za 7 rfl ?_));exact av ai rfl (by rw[decide_eq_false (fun e=>hd (by subst e;rfl))])
   .refine af rfl (eg rfl) (aB (za 7 rfl (aa rfl (aL (k+1) rfl) (zl 2 rfl ?_))));exact aP ⟨k+1,rfl,rfl,rfl,by omega,by rw[Zz hk,Zz (show k<b.length by omega),hab,Zj.1 hd]⟩ rfl
  .refine aa rfl (aO rfl) (zl 13 rfl ?_);exact av ai rfl (by rw[decide_eq_true];rw[YH (by omega),YH (by omega)] at hab;exact hab)
theorem w5(x:Nat)(hx:x<18446744073709551616):ar Tryz.prog 107 [V.one (ab.val (.int .u64 x))] (R.one (V.one (ae (ah x)))):=by
 refine aF Tryz.func107 Tryz.ntmps107 rfl (fun w0 A0=>?_);refine zc 8 rfl (aa rfl (dN (x%4294967296) rfl) (zl 1 rfl (aa rfl (eB rfl rfl rfl (by decide) (r:=((x/4294967296:Nat):Int)) (er x 32 rfl)) (aa rfl (dN (x/4294967296) rfl) (aK rfl (b8 rfl da ba jk rfl (by decide) (by decide) rfl (by decide) rfl) ?_)))));refine aj iX rfl (jr [x%4294967296,x/4294967296] (Small.cons (by omega) (Small.cons (by omega) Small.nil)) (by simp)) (zl 3 rfl ?_);exact av ai rfl (by rw[show val [x%4294967296,x/4294967296]=x from by simp;omega])
theorem wY(la:List Nat)(hs:Small la)(hl:la.length<=10000000000000)(hx:18446744073709551616<=val la):ar Tryz.prog 165 [V.one (ae la)] (R.aW [V.one (ab.val (.int .u64 ((0:Nat):Int))),V.one (ab.val (.bool false))]):=by
 refine aF Tryz.func165 Tryz.ntmps165 rfl (fun w0 A0=>?_);refine zc 9 rfl (aj iX rfl (jr la hs hl) (zl 5 rfl ?_));have hv:=aZ (val la);have hsl:=bh (val la);have hlen:(ah (val la)).length<=2↔val la<4294967296^2:=dm;generalize ah (val la)=l at *;refine zc 2 rfl (aa rfl (aw rfl) (zl 5 rfl (aa rfl (aU rfl) (zl 6 rfl (aa rfl (aU rfl) (zl 6 rfl (aa rfl (aU rfl) (zl 13 rfl ?_))))))));exact aI ai rfl rfl
theorem rf(la:List Nat)(hs:Small la)(hl:la.length<=10000000000000)(hx:val la<18446744073709551616):ar Tryz.prog 165 [V.one (ae la)] (R.aW [V.one (ab.val (.int .u64 ((val la:Nat):Int))),V.one (ab.val (.bool true))]):=by
 refine aF Tryz.func165 Tryz.ntmps165 rfl (fun w0 A0=>?_);refine zc 9 rfl (aj iX rfl (jr la hs hl) (zl 5 rfl ?_));have hv:=aZ (val la);have hsl:=bh (val la);have hlen:(ah (val la)).length<=2↔val la<4294967296^2:=dm;generalize ah (val la)=l at *;refine zc 2 rfl (aa rfl (aw rfl) (zl 5 rfl ?_));by_cases h0:l.length=0
 .refine aa rfl (bp rfl) (zl 10 rfl ?_);exact aI ai rfl (by rw[<-hv,X5 h0] <;> rfl)
 .refine aa rfl (aU rfl) (zl 6 rfl ?_);by_cases h1:l.length=1
  .refine aa rfl (bp rfl) (zl 7 rfl (aa rfl (b5 rfl (eV 0 (by omega) rfl)) (aa rfl (bB rfl) (aa rfl (gw (l[0]'(by omega)) rfl (cF (by have:=hsl.get 0 (by omega);omega))) (zl 4 rfl ?_)))));exact aI ai rfl (by match l,h1,hv with
 |[d],_,hv=>rw[<-hv];simp[val])
  .refine aa rfl (aU rfl) (zl 5 rfl ?_);have h2:l.length=2:=by omega
   obtain⟨p,q,rfl⟩:∃p q,l=[p,q]:=by
    match l,h2 with
    |[p,q],_=>exact⟨p,q,rfl⟩
   have hp:=hsl.head;have hq:=hsl.tail.head;refine zc 1 rfl (aa rfl (bp rfl rfl) (zl 5 rfl (aE 0 [] [] (dz 1 rfl (af rfl (b5 rfl rfl (by omega) (by simp)) (af rfl (bB rfl) (af rfl (cZ p rfl) (dz 1 rfl (af rfl (b5 rfl rfl (by omega) (by simp)) ?_)))))))));refine af rfl (bB rfl) (af rfl (cZ q rfl) (af rfl (lz rfl rfl rfl (by decide) (r:=((q*2^32:Nat):Int)) (nV _ 32 rfl (by omega))) (af rfl (lA rfl rfl rfl (r:=((p+q*2^32:Nat):Int)) (xm 32 (Zo _ _) (by omega) (by omega))) (dz 2 rfl (aB (za 1 rfl ?_))))));exact aI ai rfl (by rw[<-hv];simp[val];omega)
theorem AR(a b:List Nat)(hsa:Small a)(hsb:Small b):ar Tryz.prog 164 [V.one (ae a),V.one (ae b)] (R.one (V.one (ab.val (.int .i64 (eH (val a) (val b)))))):=by
 refine aF Tryz.func164 Tryz.ntmps164 rfl (fun w0 A0=>?_);refine zc 1 rfl ?_;refine nJ (s:=0) rfl (fun hma=>?_);refine nJ (s:=1) rfl (fun hmb=>?_);obtain⟨mm,hmm⟩:∃mm,max a.length b.length=mm:=⟨_,rfl⟩;refine zc 8 rfl (aa rfl (aw rfl) (zl 1 rfl (aa rfl (aw rfl) (aa rfl (WR rfl rfl rfl (r:=(mm:Int)) (by split <;> omega)) (aa rfl (du rfl rfl rfl (r:=(mm:Int)-1) (bS (by omega) (by omega) (by omega))) (zl 4 rfl ?_))))));refine bH (fun m Γ H=>∃(n:Nat),n=m/\Γ=[(0,some (D.v (V.one (ae a)))),(1,some (D.v (V.one (ae b)))),(5,some (D.int ((n:Int)-1)))]/\H=[]/\n<=mm/\∀i,n<=i->a.getD i 0=b.getD i 0) ⟨mm,rfl,rfl,rfl,XP _,fun i hi=>by rw[oD (by omega),oD (by omega)]⟩ rfl ?_;rintro m Γ H ⟨n,rfl,rfl,rfl,hnm,heq⟩;refine zc 4 rfl ?_;by_cases hp:0<n
 .refine aa rfl (dR rfl) (zl 9 rfl ?_);have hn1:((n:Int)-1)=((n-1:Nat):Int):=by omega
  have hn2:n-1+1=n:=by omega
  rw[hn1];refine zc 3 rfl (aj kZ rfl (kT a (n-1)) (zl 2 rfl (aj kZ rfl (kT b (n-1)) ?_)));by_cases hlt:a.getD (n-1) 0<b.getD (n-1) 0
  .refine aa rfl (aX rfl) (zl 8 rfl ?_);exact av ai rfl (by rw[nB (JW hsa (by rw[hn2];exact heq) hlt)])
  .refine aa rfl (aO rfl) (zl 9 rfl (aj kZ rfl (kT a (n-1)) (zl 2 rfl (aj kZ rfl (kT b (n-1)) ?_))));by_cases hgt:b.getD (n-1) 0<a.getD (n-1) 0
   .refine aa rfl (dQ rfl) (zl 8 rfl ?_);exact av ai rfl (by rw[CK (JW hsb (by rw[hn2];exact fun i hi=>(heq i hi).symm) hgt)])
   .refine aa rfl (cD rfl) (zl 8 rfl (aa rfl (du rfl rfl rfl (r:=((n-1:Nat):Int)-1) (bS (by omega) (by omega) (by omega))) (zl 2 rfl ?_)));exact aP ⟨n-1,rfl,rfl,rfl,by omega,fun i hi=>(if e:i=n-1 then by subst e;omega else heq i (by omega))⟩ rfl
 .refine aa rfl (dY rfl) (zl 13 rfl ?_);exact av ai rfl (by rw[JY (Uq (fun i hi=>heq i (by omega)))])
theorem OV(a b:List Nat)(hsa:Small a)(hsb:Small b)(hla0:a.length<=9000000000000)(hlb0:b.length<=9000000000000):ar Tryz.prog 110 [V.one (ae a),V.one (ae b)] (R.one (V.one (ae (ah (val a+val b))))):=by
 refine aF Tryz.func110 Tryz.ntmps110 rfl (fun w0 A0=>?_);refine zc 7 rfl (KX (u:=80) (sz:=1) rfl rfl rfl rfl rfl (zl 14 rfl ?_));refine bH (fun m Γ H=>∃(k:Nat) (out:List Nat) (c:Nat),a.length+b.length-k=m/\Γ=[(0,some (D.v (V.one (ae a)))),(1,some (D.v (V.one (ae b)))),(5,some (D.own 0 out.length)),(6,some (D.val (.int .u64 (c:Int)))),(7,some (D.int (k:Int)))]/\H=[some ⟨80,out.map aY,some 1,none⟩]/\out.length=k/\(k<=a.length\/k<=b.length)/\Small out/\c<=1/\val out+c*4294967296^k=val (a.take k)+val (b.take k)) ⟨0,[],0,rfl,rfl,rfl,rfl,.inl (XS _),Small.nil,XS _,rfl⟩ rfl ?_;rintro m Γ H ⟨k,out,c,rfl,rfl,rfl,hol,hk,hos,hc,heq⟩;have hak:=hsa.getD k;have hbk:=hsb.getD k;refine zc 5 rfl (aa rfl (aw rfl) ?_);by_cases hka:k<a.length
 .refine aa rfl (aX rfl) (zl 18 rfl (aj kZ rfl (kT a k) (aa rfl (cZ (a.getD k 0) rfl) (zl 2 rfl (aj kZ rfl (kT b k) (aa rfl (cZ (b.getD k 0) rfl) (aa rfl (dS rfl rfl rfl (r:=((a.getD k 0+b.getD k 0:Nat):Int)) (cF (by omega))) (aa rfl (dS rfl rfl rfl (r:=((c+(a.getD k 0+b.getD k 0):Nat):Int)) (cF (by omega))) (zl 7 rfl ?_)))))))));refine aa rfl (dN ((c+(a.getD k 0+b.getD k 0))%4294967296) rfl) (aK rfl (b8 rfl da ba jk rfl (by decide) (by decide) rfl (by decide) rfl) ?_);obtain⟨ti3,hi3,hz3,hs3,hb3⟩:=fi;refine mf rfl rfl rfl rfl rfl rfl rfl rfl rfl (by simp) rfl (by decide) da da hi3 hz3 hs3 rfl (by simp only[maxLen];omega) (by rw[hb3];omega) (nm:=(out++[(c+(a.getD k 0+b.getD k 0))%4294967296]).length) (by simp) (ls:=((out++[(c+(a.getD k 0+b.getD k 0))%4294967296]).map aY)) (by rw[Zv];rfl) (zl 5 rfl ?_);refine aa rfl (eB rfl rfl rfl (by decide) (r:=(((c+(a.getD k 0+b.getD k 0))/4294967296:Nat):Int)) (er _ 32 rfl)) (zl 6 rfl (aa rfl (aL (k+1) rfl) (zl 2 rfl ?_)));exact aP ⟨k+1,_,(c+(a.getD k 0+b.getD k 0))/4294967296,rfl,rfl,rfl,by simp[hol],by omega,pg hos (YE _ (by decide)),by omega,KC hol heq rfl⟩ rfl
 .refine aa rfl (aO rfl) (zl 3 rfl (aa rfl (aw rfl) ?_));by_cases hkb:k<b.length
  .refine aa rfl (aX rfl) (zl 13 rfl (aj kZ rfl (kT a k) (aa rfl (cZ (a.getD k 0) rfl) (zl 2 rfl (aj kZ rfl (kT b k) (aa rfl (cZ (b.getD k 0) rfl) (aa rfl (dS rfl rfl rfl (r:=((a.getD k 0+b.getD k 0:Nat):Int)) (cF (by omega))) (aa rfl (dS rfl rfl rfl (r:=((c+(a.getD k 0+b.getD k 0):Nat):Int)) (cF (by omega))) (zl 7 rfl ?_)))))))));refine aa rfl (dN ((c+(a.getD k 0+b.getD k 0))%4294967296) rfl) (aK rfl (b8 rfl da ba jk rfl (by decide) (by decide) rfl (by decide) rfl) ?_);obtain⟨ti5,hi5,hz5,hs5,hb5⟩:=fi;refine mf rfl rfl rfl rfl rfl rfl rfl rfl rfl (by simp) rfl (by decide) da da hi5 hz5 hs5 rfl (by simp only[maxLen];omega) (by rw[hb5];omega) (nm:=(out++[(c+(a.getD k 0+b.getD k 0))%4294967296]).length) (by simp) (ls:=((out++[(c+(a.getD k 0+b.getD k 0))%4294967296]).map aY)) (by rw[Zv];rfl) (zl 5 rfl ?_);refine aa rfl (eB rfl rfl rfl (by decide) (r:=(((c+(a.getD k 0+b.getD k 0))/4294967296:Nat):Int)) (er _ 32 rfl)) (zl 6 rfl (aa rfl (aL (k+1) rfl) (zl 2 rfl ?_)));exact aP ⟨k+1,_,(c+(a.getD k 0+b.getD k 0))/4294967296,rfl,rfl,rfl,by simp[hol],by omega,pg hos (YE _ (by decide)),by omega,KC hol heq rfl⟩ rfl
  .refine aa rfl (aO rfl) (zl 13 rfl (aa rfl (dN c rfl) (aK rfl (b8 rfl da ba jk rfl (by decide) (by decide) rfl (by decide) rfl) ?_)));obtain⟨ti6,hi6,hz6,hs6,hb6⟩:=fi;refine mf rfl rfl rfl rfl rfl rfl rfl rfl rfl (by simp) rfl (by decide) da da hi6 hz6 hs6 rfl (by simp only[maxLen];omega) (by rw[hb6];omega) (nm:=(out++[c]).length) (by simp) (ls:=((out++[c]).map aY)) (by rw[Zv];rfl) (je 42 (out++[c]) rfl rfl rfl rfl (by simp) ?_);refine aj iX rfl (jr (out++[c]) (pg hos (by omega)) (by simp;omega)) (zl 3 rfl ?_);exact av ai rfl (by rw[Ej,hol,heq,dJ a k (by omega),dJ b k (by omega)])
theorem Oe(a b:List Nat)(hsa:Small a)(hsb:Small b)(hlt:val a<val b):ar Tryz.prog 111 [V.one (ae a),V.one (ae b)] (R.aW [V.one aT,V.one (ab.val (.int .i64 2))]):=by
 refine aF Tryz.func111 Tryz.ntmps111 rfl (fun w0 A0=>?_);refine zc 11 rfl (aj vf rfl (AR a b hsa hsb) (aa rfl (aX rfl (by rw[nB hlt];decide)) (zl 9 rfl ?_)));exact aI ai rfl rfl
theorem Oc(a b:List Nat)(hsa:Small a)(hsb:Small b)(hla0:a.length<=9000000000000)(hge:val b<=val a):ar Tryz.prog 111 [V.one (ae a),V.one (ae b)] (R.aW [V.one (ae (ah (val a-val b))),V.one (ab.val (.int .i64 0))]):=by
 refine aF Tryz.func111 Tryz.ntmps111 rfl (fun w0 A0=>?_);refine zc 11 rfl (aj vf rfl (AR a b hsa hsb) (aa rfl (aO rfl (by unfold eH;rw[if_neg (by omega)];split <;> decide)) (zl 7 rfl (KX (u:=80) (sz:=1) rfl rfl rfl rfl rfl (zl 14 rfl ?_)))));refine bH (fun m Γ H=>∃(k:Nat) (out:List Nat) (c:Nat),a.length-k=m/\Γ=[(0,some (D.v (V.one (ae a)))),(1,some (D.v (V.one (ae b)))),(6,some (D.own 0 out.length)),(7,some (D.val (.int .u64 (c:Int)))),(8,some (D.int (k:Int)))]/\H=[some ⟨80,out.map aY,some 1,none⟩]/\out.length=k/\k<=a.length/\Small out/\c<=1/\val out+val (b.take k)=val (a.take k)+c*4294967296^k) ⟨0,[],0,rfl,rfl,rfl,rfl,XS _,Small.nil,XS _,rfl⟩ rfl ?_;rintro m Γ H ⟨k,out,c,rfl,rfl,rfl,hol,hk,hos,hc,heq⟩;refine zc 5 rfl (aa rfl (aw rfl) ?_);by_cases hka:k<a.length
 .refine aa rfl (aX rfl) (zl 8 rfl ?_);have hak:=hsa.getD k;have hbk:=hsb.getD k;refine zc 3 rfl (aj kZ rfl (kT a k) (aa rfl (cZ (a.getD k 0) rfl) (zl 2 rfl (aj kZ rfl (kT b k) (aa rfl (cZ (b.getD k 0) rfl) (zl 1 rfl (aa rfl (dS rfl rfl rfl (r:=((b.getD k 0+c:Nat):Int)) (cF (by omega))) (zl 14 rfl ?_))))))));by_cases hbr:a.getD k 0<b.getD k 0+c
  .refine aa rfl (aX rfl) (zl 6 rfl (aa rfl (dS rfl rfl rfl (r:=((4294967296+a.getD k 0:Nat):Int)) (cF (by omega))) (zl 11 rfl (aa rfl (du rfl rfl rfl (r:=((4294967296+a.getD k 0-(b.getD k 0+c):Nat):Int)) (cF (by omega))) (aa rfl (dN (4294967296+a.getD k 0-(b.getD k 0+c)) rfl) ?_)))));refine aK rfl (b8 rfl da ba jk rfl (by decide) (by decide) rfl (by decide) rfl) ?_;obtain⟨ti4,hi4,hz4,hs4,hb4⟩:=fi;refine mf rfl rfl rfl rfl rfl rfl rfl rfl rfl (by simp) rfl (by decide) da da hi4 hz4 hs4 rfl (by simp only[maxLen];omega) (by rw[hb4];omega) (nm:=(out++[4294967296+a.getD k 0-(b.getD k 0+c)]).length) (by simp) (ls:=((out++[4294967296+a.getD k 0-(b.getD k 0+c)]).map aY)) (by rw[Zv];rfl) (zl 6 rfl (aa rfl (aL (k+1) rfl) (zl 2 rfl ?_)));exact aP ⟨k+1,_,1,rfl,rfl,rfl,by simp[hol],by omega,pg hos (by omega),by omega,ES hol heq (by omega)⟩ rfl
  .refine aa rfl (aO rfl) (zl 9 rfl (aa rfl (du rfl rfl rfl (r:=((a.getD k 0-(b.getD k 0+c):Nat):Int)) (cF (by omega))) (aa rfl (dN (a.getD k 0-(b.getD k 0+c)) rfl) (aK rfl (b8 rfl da ba jk rfl (by decide) (by decide) rfl (by decide) rfl) ?_))));obtain⟨ti5,hi5,hz5,hs5,hb5⟩:=fi;refine mf rfl rfl rfl rfl rfl rfl rfl rfl rfl (by simp) rfl (by decide) da da hi5 hz5 hs5 rfl (by simp only[maxLen];omega) (by rw[hb5];omega) (nm:=(out++[a.getD k 0-(b.getD k 0+c)]).length) (by simp) (ls:=((out++[a.getD k 0-(b.getD k 0+c)]).map aY)) (by rw[Zv];rfl) (zl 6 rfl (aa rfl (aL (k+1) rfl) (zl 2 rfl ?_)));exact aP ⟨k+1,_,0,rfl,rfl,rfl,by simp[hol],by omega,pg hos (by omega),by omega,ES hol heq (by omega)⟩ rfl
 .refine aa rfl (aO rfl) (zl 9 rfl ?_);have hke:k=a.length:=by omega
  subst hke;refine zc 2 rfl (je 43 (out) rfl rfl rfl rfl rfl (aj iX rfl (jr out hos (by omega)) (zl 4 rfl ?_)));exact aI ai rfl (by rw[Nh hsa hos (by omega) hge heq])
theorem w9(a b:List Nat)(hsa:Small a)(hsb:Small b)(hla0:a.length<=9000000000000)(hlb0:b.length<=9000000000000)(m n:Nat)(hm:val a=m)(hn:val b=n):ar Tryz.prog 110 [V.one (ae a),V.one (ae b)] (R.one (V.one (ae (ah (m+n))))):=by
 subst hm;subst hn;exact OV a b hsa hsb hla0 hlb0
theorem AQ(a b:List Nat)(hsa:Small a)(hsb:Small b)(m n:Nat)(hm:val a=m)(hn:val b=n):ar Tryz.prog 164 [V.one (ae a),V.one (ae b)] (R.one (V.one (ab.val (.int .i64 (eH m n))))):=by
 subst hm;subst hn;exact AR a b hsa hsb
theorem tP(a b:List Nat)(hsa:Small a)(hsb:Small b)(hla0:a.length<=9000000000000)(m n:Nat)(hm:val a=m)(hn:val b=n)(hge:n<=m):ar Tryz.prog 111 [V.one (ae a),V.one (ae b)] (R.aW [V.one (ae (ah (m-n))),V.one (ab.val (.int .i64 0))]):=by
 subst hm;subst hn;exact Oc a b hsa hsb hla0 hge
theorem Od(a b:List Nat)(hsa:Small a)(hsb:Small b)(m n:Nat)(hm:val a=m)(hn:val b=n)(hlt:m<n):ar Tryz.prog 111 [V.one (ae a),V.one (ae b)] (R.aW [V.one aT,V.one (ab.val (.int .i64 2))]):=by
 subst hm;subst hn;exact Oe a b hsa hsb hlt
theorem Ow(a b:List Nat)(hsa:Small a)(hsb:Small b)(hla0:a.length<=4000000000000)(hlb0:b.length<=4000000000000):ar Tryz.prog 69 [V.one (ae a),V.one (ae b)] (R.one (V.one (ae (ah (val a*val b))))):=by
 refine aF Tryz.func69 Tryz.ntmps69 rfl (fun w0 A0=>?_);refine zc 8 rfl (aa rfl (aw rfl) (zl 1 rfl (aa rfl (aw rfl) (aa rfl (aL (a.length+b.length) rfl) (aa rfl (aL (a.length+b.length+1) rfl) ?_)))));obtain⟨ti1,hi1,hz1,hs1,hb1⟩:=fi;refine aK rfl (j6 (i:=0) (n:=a.length+b.length+1) (ls:=((List.replicate (a.length+b.length+1) 0).map aY)) rfl rfl rfl da hi1 hz1 hs1 (by decide) rfl (by decide) rfl (by rw[hb1];omega) (by simp only[maxLen];omega) (jF _) rfl) (zl 10 rfl ?_);refine bH (fun m Γ H=>∃(i:Nat) (out:List Nat),a.length-i=m/\Γ=[(0,some (D.v (V.one (ae a)))),(1,some (D.v (V.one (ae b)))),(5,some (D.own 0 (a.length+b.length+1))),(6,some (D.int (i:Int)))]/\H=[some ⟨80,out.map aY,some 1,none⟩]/\i<=a.length/\out.length=a.length+b.length+1/\Small out/\val out=val (a.take i)*val b) ⟨0,List.replicate (a.length+b.length+1) 0,rfl,rfl,rfl,XS _,by simp,Small.replicate _,by simp[lD]⟩ rfl ?_;rintro m Γ H ⟨i,out,rfl,rfl,rfl,hile,hol,hos,heq⟩;refine zc 5 rfl (aa rfl (aw rfl) ?_);by_cases hi:i<a.length
 .refine aa rfl (aX rfl) (zl 8 rfl ?_);have hai:=hsa.get i hi;refine zc 10 rfl ?_;refine bH (fun m Γ H=>∃(k:Nat) (o:List Nat) (c:Nat),b.length+1-k=m/\Γ=[(0,some (D.v (V.one (ae a)))),(1,some (D.v (V.one (ae b)))),(5,some (D.own 0 (a.length+b.length+1))),(6,some (D.int (i:Int))),(7,some (D.val (.int .u64 (c:Int)))),(8,some (D.int (k:Int)))]/\H=[some ⟨80,o.map aY,some 1,none⟩]/\k<=b.length+1/\o.length=a.length+b.length+1/\Small o/\c<4294967296/\val o+c*4294967296^(i+k)=val (a.take i)*val b+4294967296^i*(a[i]*val (b.take k))) ⟨0,out,0,rfl,rfl,rfl,XS _,hol,hos,by omega,by simp[heq]⟩ rfl ?_;rintro m Γ H ⟨k,o,c,rfl,rfl,rfl,hkle,hoo1,hoo,hc,hq⟩;refine zc 5 rfl (aa rfl (aw rfl) ?_);by_cases hk:k<=b.length
  .refine aa rfl (uF rfl) (zl 8 rfl ?_);have hbk:=hsb.getD k;have hok:=hoo.get (i+k) (by omega);have hm:=GV hc hai hbk hok;have hm2:=hm.1;refine aE 0 [] [] (dz 3 rfl (af rfl (b5 rfl (fj hi)) (af rfl (bB rfl) (af rfl (cZ (a[i]'hi) rfl) (dz 2 rfl (ax kZ rfl (kT b k) (af rfl (cZ (b.getD k 0) rfl) (af rfl (qx rfl rfl rfl (r:=((a[i]'hi*b.getD k 0:Nat):Int)) (cF (by rw[<-Zu];omega))) (dz 3 rfl ?_)))))))));refine af rfl (aL (i+k) rfl) (af rfl (eK rfl rfl rfl rfl (by decide) (by simp[hoo1]) (by decide) da ba (by omega) (by omega) (off:=i+k) (by omega)) (af rfl (gT rfl rfl rfl (by decide) ba (sv (by omega))) (af rfl (cZ (o[i+k]'(by omega)) rfl) ?_)));refine af rfl (dS rfl rfl rfl (r:=((a[i]'hi*b.getD k 0+o[i+k]'(by omega):Nat):Int)) (cF (by omega))) (af rfl (dS rfl rfl rfl (r:=((c+(a[i]'hi*b.getD k 0+o[i+k]'(by omega)):Nat):Int)) (cF (by omega))) (dz 1 rfl (aB (za 6 rfl (aa rfl (aL (i+k) rfl) (zl 1 rfl ?_))))));refine aa rfl (dN ((c+(a[i]'hi*b.getD k 0+o[i+k]'(by omega)))%4294967296) rfl) (aa rfl (eK rfl rfl rfl rfl (by decide) (by simp[hoo1]) (by decide) da ba (by omega) (by omega) (off:=i+k) (by omega)) ?_);refine aK rfl (eQ (ls:=((o.set (i+k) ((c+(a[i]'hi*b.getD k 0+o[i+k]'(by omega)))%4294967296)).map aY)) rfl rfl rfl rfl ba rfl (by decide) (by simp;omega) (fX (by omega))) (zl 4 rfl (aa rfl (eB rfl rfl rfl (by decide) (r:=(((c+(a[i]'hi*b.getD k 0+o[i+k]'(by omega)))/4294967296:Nat):Int)) (er _ 32 rfl)) (zl 6 rfl ?_)));refine aa rfl (aL (k+1) rfl) (zl 2 rfl ?_);exact aP ⟨k+1,_,_,rfl,rfl,rfl,by omega,by simp[hoo1],hoo.set _ _ (by omega),hm.2.1,QK (by omega) _ hq⟩ rfl
  .refine aa rfl (rU rfl) (zl 11 rfl (aa rfl (aL (i+1) rfl) (zl 2 rfl ?_)));have hke:k=b.length+1:=by omega
   subst hke;exact aP ⟨i+1,_,rfl,rfl,rfl,by omega,hoo1,hoo,QN hsa hsb hi hq⟩ rfl
 .refine aa rfl (aO rfl) (zl 11 rfl (je 57 (out) rfl rfl rfl rfl (by omega) (aj iX rfl (jr out hos (by omega)) (zl 3 rfl ?_))));exact av ai rfl (by rw[heq,dJ a _ (by omega)])
theorem Oh(a:List Nat)(k:Nat)(hsa:Small a)(hk:k<=4194304)(hla0:a.length<=9000000000000):ar Tryz.prog 167 [V.one (ae a),V.one (ab.val (.int .i64 (k:Int)))] (R.one (V.one (ae (ah (val a*2^k))))):=by
 refine aF Tryz.func167 Tryz.ntmps167 rfl (fun w0 A0=>?_);refine zc 8 rfl (aa rfl (iu rfl rfl rfl (by decide) (r:=((k/32:Nat):Int)) (bS (jJ k 32) (by omega) (by omega))) ?_);obtain⟨ti1,hi1,hz1,hs1,hb1⟩:=fi;refine aK rfl (j6 (i:=0) (n:=k/32) (ls:=((List.replicate (k/32) 0).map aY)) rfl rfl rfl da hi1 hz1 hs1 (by decide) rfl (by decide) rfl (by rw[hb1];omega) (by simp only[maxLen];omega) (jF _) rfl) (zl 15 rfl ?_);refine xH (fun m Γ H=>∃(i:Nat) (out:List Nat) (c:Nat),a.length-i=m/\Γ=[(0,some (D.v (V.one (ae a)))),(1,some (D.int (k:Int))),(5,some (D.own 0 out.length)),(6,some (D.val (.int .u64 (c:Int)))),(7,some (D.int (i:Int)))]/\H=[some ⟨80,out.map aY,some 1,none⟩]/\i<=a.length/\out.length=k/32+i/\Small out/\c<2^(k%32)/\val out+c*4294967296^out.length=val (a.take i)*2^k) ⟨0,List.replicate (k/32) 0,0,rfl,rfl,rfl,XS _,by simp,Small.replicate _,Yp (by decide),by simp[lD]⟩ ⟨rfl,rfl,by rw[List.length_replicate];rfl,rfl,rfl,trivial⟩ ?_;rintro m Γ H ⟨i,out,c,rfl,rfl,rfl,hile,hol,hos,hc,heq⟩;refine zc 5 rfl (aa rfl (aw rfl) ?_);by_cases hi:i<a.length
 .refine aa rfl (aX rfl) (zl 8 rfl ?_);have hai:=hsa.get i hi;have hb:=NH (YE k (by decide)) hai hc;have hb1:=hb.1;have hb2:=hb.2.1;refine zc 4 rfl (aa rfl (b5 rfl (fj (by omega))) (aa rfl (bB rfl) (aa rfl (cZ (a[i]'hi) rfl) (zl 1 rfl (aa rfl (fR rfl rfl rfl (by decide) (r:=((k%32:Nat):Int)) (fB k 32)) (aa rfl (lz rfl rfl rfl (by omega) (r:=((a[i]'hi*2^(k%32):Nat):Int)) (nV _ (k%32) (uw (by omega)) hb1)) ?_))))));refine aa rfl (lA rfl rfl rfl (r:=((c+a[i]'hi*2^(k%32):Nat):Int)) (xm (k%32) (Zo _ _) hc (by omega))) (zl 7 rfl (aa rfl (dN ((c+a[i]'hi*2^(k%32))%4294967296) rfl) (aK rfl (b8 rfl da ba jk rfl (by decide) (by decide) rfl (by decide) rfl) ?_)));obtain⟨ti4,hi4,hz4,hs4,hb4⟩:=fi;refine mf rfl rfl rfl rfl rfl rfl rfl rfl rfl (by simp) rfl (by decide) da da hi4 hz4 hs4 rfl (by simp only[maxLen];omega) (by rw[hb4];omega) (nm:=(out++[(c+a[i]'hi*2^(k%32))%4294967296]).length) (by simp) (ls:=((out++[(c+a[i]'hi*2^(k%32))%4294967296]).map aY)) (by rw[Zv];rfl) (zl 5 rfl ?_);refine aa rfl (eB rfl rfl rfl (by decide) (r:=(((c+a[i]'hi*2^(k%32))/4294967296:Nat):Int)) (er _ 32 rfl)) (zl 6 rfl (aa rfl (aL (i+1) rfl) (zl 2 rfl ?_)));exact aP ⟨i+1,_,_,rfl,rfl,rfl,by omega,by simp;omega,pg hos (YE _ (by decide)),hb.2.2.1,by simpa using NI hi hol heq rfl⟩ rfl
 .refine aa rfl (aO rfl) (zl 9 rfl ?_);have hp:2^(k%32)<=2^31:=X3 (by decide) (by omega);have hc2:c<4294967296:=by omega
  refine zc 3 rfl (aa rfl (dN c rfl) (aK rfl (b8 rfl da ba jk rfl (by decide) (by decide) rfl (by decide) rfl) ?_));obtain⟨ti5,hi5,hz5,hs5,hb5⟩:=fi;refine mf rfl rfl rfl rfl rfl rfl rfl rfl rfl (by simp) rfl (by decide) da da hi5 hz5 hs5 rfl (by simp only[maxLen];omega) (by rw[hb5];omega) (nm:=(out++[c]).length) (by simp) (ls:=((out++[c]).map aY)) (by rw[Zv];rfl) (je 38 (out++[c]) rfl rfl rfl rfl (by simp) ?_);refine aj iX rfl (jr (out++[c]) (pg hos hc2) (by simp;omega)) (zl 3 rfl ?_);exact av ai rfl (by rw[Ej,heq,dJ a _ (by omega)])
theorem py(a b:List Nat)(hsa:Small a)(hsb:Small b)(hla0:a.length<=4000000000000)(hlb0:b.length<=4000000000000)(m n:Nat)(hm:val a=m)(hn:val b=n):ar Tryz.prog 69 [V.one (ae a),V.one (ae b)] (R.one (V.one (ae (ah (m*n))))):=by
 subst hm;subst hn;exact Ow a b hsa hsb hla0 hlb0
theorem Aw(a:List Nat)(k:Nat)(hsa:Small a)(hk:k<=4194304)(hla0:a.length<=9000000000000)(m:Nat)(hm:val a=m):ar Tryz.prog 167 [V.one (ae a),V.one (ab.val (.int .i64 (k:Int)))] (R.one (V.one (ae (ah (m*2^k))))):=by
 subst hm;exact Oh a k hsa hk hla0
theorem AU(la:List Nat)(hsa:Small la)(hla:la.length<=10000000000000):ar Tryz.prog 166 [V.one (ae la)] (R.one (V.one (ab.val (.int .i64 ((bl (val la):Nat):Int))))):=by
 refine aF Tryz.func166 Tryz.ntmps166 rfl (fun w0 A0=>?_);refine zc 8 rfl (aj iX rfl (jr la hsa hla) (zl 5 rfl ?_));have hl0:=fH hsa;have hb:=fun h=>zg (sS (val la)) h;have hs:=bh (val la);rw[aZ] at hb;have hz0:(ah (val la)).length=0->val la=0:=fun h=>kS.1 (X5 h);generalize ah (val la)=a at *;refine zc 2 rfl (aa rfl (aw rfl) ?_);by_cases hz:a.length=0
 .refine aa rfl (bp rfl) (zl 8 rfl ?_);exact av ai rfl (by rw[hz0 hz] <;> rfl)
 .refine aa rfl (aU rfl) (zl 6 rfl ?_);have hb:=hb (by omega);have htop:=hs.get (a.length-1) (by omega);have hbt:=gQ (k:=32) htop;refine zc 2 rfl (aa rfl (aw rfl) (aa rfl (b9 (a.length-1) rfl) (aa rfl (qx rfl rfl rfl (r:=((32*(a.length-1):Nat):Int)) (bS (by omega) (by omega) (by omega))) (zl 8 rfl (aa rfl (aw rfl) (aa rfl (b9 (a.length-1) rfl) (aa rfl (b5 rfl (eV (a.length-1) (by omega) rfl)) (aa rfl (bB rfl) (zl 4 rfl ?_)))))))));refine bH (fun m Γ H=>∃(k:Nat) (x:Nat),x=m/\Γ=[(3,some (D.int (k:Int))),(4,some (D.val (.int .u32 (x:Int))))]/\H=[]/\k+bl x=bl (val la)/\x<4294967296) ⟨32*(a.length-1),a[a.length-1]'(by omega),rfl,rfl,rfl,hb.symm,htop⟩ rfl ?_;rintro m Γ H ⟨k,x,rfl,rfl,rfl,hkx,hx⟩;refine zc 4 rfl ?_;by_cases hx0:0<x
  .refine aa rfl (dQ rfl) (zl 7 rfl ?_);have hbh:=Vs hx0;refine zc 2 rfl (aa rfl (aL (k+1) rfl) (zl 6 rfl (aa rfl (eB rfl rfl rfl (by decide) (r:=((x/2:Nat):Int)) (er x 1 rfl)) (zl 2 rfl ?_))));exact aP ⟨k+1,x/2,rfl,rfl,rfl,by omega,by omega⟩ rfl
  .refine aa rfl (cD rfl) (zl 14 rfl ?_);exact av ai rfl (by rw[<-hkx,show x=0 from by omega] <;> rfl)
theorem XD(la lb:List Nat)(hsa:Small la)(hsb:Small lb)(hla0:la.length<=8000000000000)(hlb0:lb.length<=8000000000000)(hb0:val lb=0):ar Tryz.prog 113 [V.one (ae la),V.one (ae lb)] (R.aW [V.one aT,V.one aT,V.one (ab.val (.int .i64 3))]):=by
 refine aF Tryz.func113 Tryz.ntmps113 rfl (fun w0 A0=>?_);refine zc 8 rfl ?_;by_cases ha:val la<18446744073709551616
 .refine zc 2 rfl (aj lX rfl (rf la hsa (by omega) ha) (zl 3 rfl (bT true rfl (rfl) (zl 7 rfl (aj lX rfl (rf lb hsb (by omega) (by omega)) (zl 3 rfl (bT true rfl (rfl) (zl 10 rfl (aa rfl (bp rfl) ?_)))))))));refine zl 11 rfl ?_;exact kG ai rfl rfl
 .refine zc 2 rfl (aj lX rfl (wY la hsa (by omega) (by omega)) (zl 3 rfl (bT false rfl (rfl) (zl 7 rfl (aj lX rfl (rf lb hsb (by omega) (by omega)) (zl 3 rfl (bT true rfl (rfl) (zl 10 rfl (aa rfl (bp rfl) ?_)))))))));refine zl 11 rfl ?_;exact kG ai rfl rfl
theorem OU(la lb:List Nat)(hsa:Small la)(hsb:Small lb)(hla0:la.length<=8000000000000)(hlb0:lb.length<=8000000000000)(hb0:val lb≠0):ar Tryz.prog 113 [V.one (ae la),V.one (ae lb)] (R.aW [V.one (ae (ah (val la/val lb))),V.one (ae (ah (val la%val lb))),V.one (ab.val (.int .i64 0))]):=by
 refine aF Tryz.func113 Tryz.ntmps113 rfl (fun w0 A0=>?_);refine zc 8 rfl ?_;by_cases ha:val la<18446744073709551616
 .refine zc 2 rfl (aj lX rfl (rf la hsa (by omega) (by omega)) (zl 3 rfl (bT true rfl (rfl) (zl 5 rfl ?_))));by_cases hb:val lb<18446744073709551616
  .refine zc 2 rfl (aj lX rfl (rf lb hsb (by omega) (by omega)) (zl 3 rfl (bT true rfl (rfl) (zl 10 rfl (aa rfl (aU rfl) (zl 17 rfl (aE 0 [] [] (dz 2 rfl (af rfl (iu rfl rfl rfl (by omega) (r:=((val la/val lb:Nat):Int)) ((by rw[jJ];exact qE (Ye (Yy _ _) ha)))) ?_)))))))));refine ax yl rfl (w5 _ (Ye (Yy _ _) ha)) (dz 2 rfl (af rfl (fR rfl rfl rfl (by omega) (r:=((val la%val lb:Nat):Int)) (fB _ _)) (ax yl rfl (w5 _ (Ye (Nat.mod_le _ _) ha)) (dz 3 rfl (aB (za 1 rfl ?_))))));exact kG ai rfl rfl
  .refine zc 2 rfl (aj lX rfl (wY lb hsb (by omega) (by omega)) (zl 3 rfl (bT false rfl (rfl) (zl 24 rfl (zl 8 rfl (aa rfl (aw rfl) ?_))))));obtain⟨ti3,hi3,hz3,hs3,hb3⟩:=fi;refine aK rfl (j6 (i:=0) (n:=la.length) (ls:=((List.replicate (la.length) 0).map aY)) rfl rfl rfl da hi3 hz3 hs3 (by decide) rfl (by decide) rfl (by rw[hb3];omega) (by simp only[maxLen];omega) (jF _) rfl) (j0 rfl rfl rfl rfl bP ba rfl (zl 6 rfl ?_));have hlbl:bl (val la)<=32*la.length:=gQ (by rw[<-gD];exact dy hsa);have hb0p:0<val lb:=YG hb0;refine s9 12 ([]) rfl rfl rfl rfl rfl (zc 2 rfl (aj Cb rfl (AU la hsa (by omega)) (aa rfl (du rfl rfl rfl (r:=(bl (val la):Int)-1) (bS (by omega) (by omega) (by omega))) (zl 4 rfl ?_))));refine xH (fun m Γ H=>∃(n:Nat) (out:List Nat) (Q:Nat) (r:Nat),n=m/\Γ=[(0,some (D.v (V.one (ae la)))),(1,some (D.v (V.one (ae lb)))),(11,some (D.own 0 la.length)),(12,some (D.v (V.one (ae (ah r))))),(13,some (D.int ((n:Int)-1)))]/\H=[some ⟨80,(out).map aY,some 1,none⟩,none]/\n<=bl (val la)/\out.length=la.length/\Small out/\val out=2^n*Q/\val la/2^n=Q*val lb+r/\r<val lb) ⟨bl (val la),List.replicate la.length 0,0,0,rfl,rfl,rfl,XP _,by simp,Small.replicate _,by simp[lD],by rw[YQ (sW _)];simp,hb0p⟩ ⟨rfl,rfl,rfl,by rw[cJ];rfl,rfl,trivial⟩ ?_;rintro m Γ H ⟨n,out,Q,r,rfl,rfl,rfl,hnb,hol,hos,hoq,hqr,hrb⟩;refine zc 4 rfl ?_;by_cases hp:0<n
   .refine aa rfl (dR rfl) (zl 8 rfl ?_);obtain⟨n,rfl⟩:∃n0,n=n0+1:=⟨n-1,by omega⟩;have hn1:(((n+1:Nat):Int)-1)=(n:Int):=by omega
    rw[hn1];have hni:n/32<la.length:=C2 (dy hsa) (by omega);have hrl:=mX (Yn hrb);have hlbv:=fH hsb;have hbit:=C3 hsa hni;have hlan:=hsa.get (n/32) hni;have hstep:=CB hqr;have hsb1:=Ap hos (by omega) hoq;refine zc 2 rfl (aj Ca rfl (Aw (ah r) 1 (bh _) (by decide) (by omega) r (aZ _)) (zl 8 rfl (aa rfl (iu rfl rfl rfl (by decide) (r:=((n/32:Nat):Int)) (bS (jJ n 32) (by omega) (by omega))) (aa rfl (b5 rfl (fj hni)) (aa rfl (bB rfl) (zl 1 rfl (aa rfl (fR rfl rfl rfl (by decide) (r:=((n%32:Nat):Int)) (fB n 32)) ?_)))))));refine aa rfl (eB rfl rfl rfl (by omega) (r:=((la[n/32]'hni/2^(n%32):Nat):Int)) (er _ (n%32) (by simp only[IntKind.bits];omega))) (aa rfl (DP rfl rfl rfl (r:=((val la/2^n%2:Nat):Int)) ((by rw[<-hbit];exact De (Ye (Yy _ _) hlan)))) ?_);refine aK rfl (b8 rfl bP ba jk rfl (by decide) (by decide) rfl (by decide) rfl) ?_;have hr2:r*2^1+val la/2^n%2<2*val lb:=by omega
    have hl2:(ah (r*2^1)).length<=(ah (val lb)).length+1:=by
     rw[dm,Yb];have:=(dm (n:=val lb) (k:=(ah (val lb)).length)).1 (XP _);omega
    have hl3:(ah (r*2^1+val la/2^n%2)).length<=9000000000000:=by
     refine XY (dm (k:=(ah (val lb)).length+1).2 ?_) (by omega);rw[Yb];have:=(dm (n:=val lb) (k:=(ah (val lb)).length)).1 (XP _);omega
    refine aj yk rfl (w9 (ah (r*2^1)) [val la/2^n%2] (bh _) (Small.cons (by omega) Small.nil) (by omega) (by simp) (r*2^1) (val la/2^n%2) (aZ _) (by simp)) (zl 7 rfl (aj vf rfl (AQ (ah (r*2^1+val la/2^n%2)) lb (bh _) hsb (r*2^1+val la/2^n%2) (val lb) (aZ _) rfl) ?_));by_cases hge:val lb<=r*2^1+val la/2^n%2
    .refine aa rfl (dR rfl (by unfold eH;rw[if_neg (by omega)];split <;> decide)) (zl 7 rfl (aj sF rfl (tP (ah (r*2^1+val la/2^n%2)) lb (bh _) hsb hl3 (r*2^1+val la/2^n%2) (val lb) (aZ _) rfl hge) (zl 6 rfl (aE 0 [(10,0)] [0] (dz 2 rfl ?_)))));refine af rfl (iu rfl rfl rfl (by decide) (r:=((n/32:Nat):Int)) (bS (jJ n 32) (by omega) (by omega))) (cK [] rfl (eK rfl rfl rfl rfl (by decide) (by simp[hol]) (by decide) da ba (by omega) (by omega) (off:=n/32) (by omega)) (cK [] rfl (gT rfl rfl rfl (by decide) ba (sv (by omega))) (dz 1 rfl ?_)));refine af rfl (fR rfl rfl rfl (by decide) (r:=((n%32:Nat):Int)) (fB n 32)) ?_;refine af rfl (lz rfl rfl rfl (by omega) (r:=((2^(n%32):Nat):Int)) ((by rw[show min (((n%32:Nat):Int)).toNat IntKind.u32.bits=n%32 from by simp only[IntKind.bits];omega,Int.one_mul,show((2:Int)^(n%32))=((2^(n%32):Nat):Int) from by rw[Z8];rfl];exact qF (by have:(2:Nat)^(n%32)<=2^31:=X3 (by decide) (by omega);omega)))) ?_;refine af rfl (lA rfl rfl rfl (r:=((out[n/32]'(by omega)+2^(n%32):Nat):Int)) (Bb (n%32+1) hsb1.1 (YJ (by decide) (Zf _)) hsb1.2.1)) (cK [] rfl (eK rfl rfl rfl rfl (by decide) (by simp[hol]) (by decide) da ba (by omega) (by omega) (off:=n/32) (by omega)) ?_);refine cH 0 rfl (zE (ls:=((out.set (n/32) (out[n/32]'(by omega)+2^(n%32))).map aY)) rfl rfl rfl rfl ba rfl (by decide) (by simp;omega) (fX (by omega))) (aB (za 4 rfl (aa rfl (du rfl rfl rfl (r:=(n:Int)-1) (bS (by omega) (by omega) (by omega))) (zl 2 rfl ?_))));exact aP ⟨n,_,2*Q+1,_,rfl,rfl,rfl,by omega,by simp[hol],hos.set _ _ hsb1.2.1,hsb1.2.2,by rw[hstep,Ys,Y2];omega,by omega⟩ rfl
    .refine aa rfl (dY rfl (by rw[nB (by omega)];decide)) (zl 8 rfl (aa rfl (du rfl rfl rfl (r:=(n:Int)-1) (bS (by omega) (by omega) (by omega))) (zl 2 rfl ?_)));exact aP ⟨n,_,2*Q,_,rfl,rfl,rfl,by omega,hol,hos,by rw[hoq,Yb];grind,by rw[hstep];omega,by omega⟩ rfl
   .refine aa rfl (dY rfl) (zl 9 rfl ?_);have hn0:n=0:=by omega
    subst hn0;rw[ZY,zal] at hqr;rw[ZY,Y2] at hoq;subst hoq;have hdm:val la/val lb=val out/\val la%val lb=r:=by
     rw[hqr,Yu];exact⟨by rw[zaa hb0p,YQ hrb,Yl],by rw[zab,Y7 hrb]⟩
    refine zc 2 rfl (je 86 (out) rfl rfl rfl rfl (by omega) (aj iX rfl (jr out hos (by omega)) (zl 6 rfl ?_)));exact kG ai rfl (by rw[hdm.1,hdm.2])
 .refine zc 2 rfl (aj lX rfl (wY la hsa (by omega) (by omega)) (zl 3 rfl (bT false rfl (rfl) (zl 5 rfl ?_))));by_cases hb:val lb<18446744073709551616
  .refine zc 2 rfl (aj lX rfl (rf lb hsb (by omega) (by omega)) (zl 3 rfl (bT true rfl (rfl) (zl 10 rfl (aa rfl (aU rfl) (zl 21 rfl (aa rfl (aw rfl) ?_)))))));obtain⟨ti8,hi8,hz8,hs8,hb8⟩:=fi;refine aK rfl (j6 (i:=0) (n:=la.length) (ls:=((List.replicate (la.length) 0).map aY)) rfl rfl rfl da hi8 hz8 hs8 (by decide) rfl (by decide) rfl (by rw[hb8];omega) (by simp only[maxLen];omega) (jF _) rfl) (j0 rfl rfl rfl rfl bP ba rfl (zl 6 rfl ?_));have hlbl:bl (val la)<=32*la.length:=gQ (by rw[<-gD];exact dy hsa);have hb0p:0<val lb:=YG hb0;refine s9 12 ([]) rfl rfl rfl rfl rfl (zc 2 rfl (aj Cb rfl (AU la hsa (by omega)) (aa rfl (du rfl rfl rfl (r:=(bl (val la):Int)-1) (bS (by omega) (by omega) (by omega))) (zl 4 rfl ?_))));refine xH (fun m Γ H=>∃(n:Nat) (out:List Nat) (Q:Nat) (r:Nat),n=m/\Γ=[(0,some (D.v (V.one (ae la)))),(1,some (D.v (V.one (ae lb)))),(11,some (D.own 0 la.length)),(12,some (D.v (V.one (ae (ah r))))),(13,some (D.int ((n:Int)-1)))]/\H=[some ⟨80,(out).map aY,some 1,none⟩,none]/\n<=bl (val la)/\out.length=la.length/\Small out/\val out=2^n*Q/\val la/2^n=Q*val lb+r/\r<val lb) ⟨bl (val la),List.replicate la.length 0,0,0,rfl,rfl,rfl,XP _,by simp,Small.replicate _,by simp[lD],by rw[YQ (sW _)];simp,hb0p⟩ ⟨rfl,rfl,rfl,by rw[cJ];rfl,rfl,trivial⟩ ?_;rintro m Γ H ⟨n,out,Q,r,rfl,rfl,rfl,hnb,hol,hos,hoq,hqr,hrb⟩;refine zc 4 rfl ?_;by_cases hp:0<n
   .refine aa rfl (dR rfl) (zl 8 rfl ?_);obtain⟨n,rfl⟩:∃n0,n=n0+1:=⟨n-1,by omega⟩;have hn1:(((n+1:Nat):Int)-1)=(n:Int):=by omega
    rw[hn1];have hni:n/32<la.length:=C2 (dy hsa) (by omega);have hrl:=mX (Yn hrb);have hlbv:=fH hsb;have hbit:=C3 hsa hni;have hlan:=hsa.get (n/32) hni;have hstep:=CB hqr;have hsb1:=Ap hos (by omega) hoq;refine zc 2 rfl (aj Ca rfl (Aw (ah r) 1 (bh _) (by decide) (by omega) r (aZ _)) (zl 8 rfl (aa rfl (iu rfl rfl rfl (by decide) (r:=((n/32:Nat):Int)) (bS (jJ n 32) (by omega) (by omega))) (aa rfl (b5 rfl (fj hni)) (aa rfl (bB rfl) (zl 1 rfl (aa rfl (fR rfl rfl rfl (by decide) (r:=((n%32:Nat):Int)) (fB n 32)) ?_)))))));refine aa rfl (eB rfl rfl rfl (by omega) (r:=((la[n/32]'hni/2^(n%32):Nat):Int)) (er _ (n%32) (by simp only[IntKind.bits];omega))) (aa rfl (DP rfl rfl rfl (r:=((val la/2^n%2:Nat):Int)) ((by rw[<-hbit];exact De (Ye (Yy _ _) hlan)))) ?_);refine aK rfl (b8 rfl bP ba jk rfl (by decide) (by decide) rfl (by decide) rfl) ?_;have hr2:r*2^1+val la/2^n%2<2*val lb:=by omega
    have hl2:(ah (r*2^1)).length<=(ah (val lb)).length+1:=by
     rw[dm,Yb];have:=(dm (n:=val lb) (k:=(ah (val lb)).length)).1 (XP _);omega
    have hl3:(ah (r*2^1+val la/2^n%2)).length<=9000000000000:=by
     refine XY (dm (k:=(ah (val lb)).length+1).2 ?_) (by omega);rw[Yb];have:=(dm (n:=val lb) (k:=(ah (val lb)).length)).1 (XP _);omega
    refine aj yk rfl (w9 (ah (r*2^1)) [val la/2^n%2] (bh _) (Small.cons (by omega) Small.nil) (by omega) (by simp) (r*2^1) (val la/2^n%2) (aZ _) (by simp)) (zl 7 rfl (aj vf rfl (AQ (ah (r*2^1+val la/2^n%2)) lb (bh _) hsb (r*2^1+val la/2^n%2) (val lb) (aZ _) rfl) ?_));by_cases hge:val lb<=r*2^1+val la/2^n%2
    .refine aa rfl (dR rfl (by unfold eH;rw[if_neg (by omega)];split <;> decide)) (zl 7 rfl (aj sF rfl (tP (ah (r*2^1+val la/2^n%2)) lb (bh _) hsb hl3 (r*2^1+val la/2^n%2) (val lb) (aZ _) rfl hge) (zl 6 rfl (aE 0 [(10,0)] [0] (dz 2 rfl ?_)))));refine af rfl (iu rfl rfl rfl (by decide) (r:=((n/32:Nat):Int)) (bS (jJ n 32) (by omega) (by omega))) (cK [] rfl (eK rfl rfl rfl rfl (by decide) (by simp[hol]) (by decide) da ba (by omega) (by omega) (off:=n/32) (by omega)) (cK [] rfl (gT rfl rfl rfl (by decide) ba (sv (by omega))) (dz 1 rfl ?_)));refine af rfl (fR rfl rfl rfl (by decide) (r:=((n%32:Nat):Int)) (fB n 32)) ?_;refine af rfl (lz rfl rfl rfl (by omega) (r:=((2^(n%32):Nat):Int)) ((by rw[show min (((n%32:Nat):Int)).toNat IntKind.u32.bits=n%32 from by simp only[IntKind.bits];omega,Int.one_mul,show((2:Int)^(n%32))=((2^(n%32):Nat):Int) from by rw[Z8];rfl];exact qF (by have:(2:Nat)^(n%32)<=2^31:=X3 (by decide) (by omega);omega)))) ?_;refine af rfl (lA rfl rfl rfl (r:=((out[n/32]'(by omega)+2^(n%32):Nat):Int)) (Bb (n%32+1) hsb1.1 (YJ (by decide) (Zf _)) hsb1.2.1)) (cK [] rfl (eK rfl rfl rfl rfl (by decide) (by simp[hol]) (by decide) da ba (by omega) (by omega) (off:=n/32) (by omega)) ?_);refine cH 0 rfl (zE (ls:=((out.set (n/32) (out[n/32]'(by omega)+2^(n%32))).map aY)) rfl rfl rfl rfl ba rfl (by decide) (by simp;omega) (fX (by omega))) (aB (za 4 rfl (aa rfl (du rfl rfl rfl (r:=(n:Int)-1) (bS (by omega) (by omega) (by omega))) (zl 2 rfl ?_))));exact aP ⟨n,_,2*Q+1,_,rfl,rfl,rfl,by omega,by simp[hol],hos.set _ _ hsb1.2.1,hsb1.2.2,by rw[hstep,Ys,Y2];omega,by omega⟩ rfl
    .refine aa rfl (dY rfl (by rw[nB (by omega)];decide)) (zl 8 rfl (aa rfl (du rfl rfl rfl (r:=(n:Int)-1) (bS (by omega) (by omega) (by omega))) (zl 2 rfl ?_)));exact aP ⟨n,_,2*Q,_,rfl,rfl,rfl,by omega,hol,hos,by rw[hoq,Yb];grind,by rw[hstep];omega,by omega⟩ rfl
   .refine aa rfl (dY rfl) (zl 9 rfl ?_);have hn0:n=0:=by omega
    subst hn0;rw[ZY,zal] at hqr;rw[ZY,Y2] at hoq;subst hoq;have hdm:val la/val lb=val out/\val la%val lb=r:=by
     rw[hqr,Yu];exact⟨by rw[zaa hb0p,YQ hrb,Yl],by rw[zab,Y7 hrb]⟩
    refine zc 2 rfl (je 86 (out) rfl rfl rfl rfl (by omega) (aj iX rfl (jr out hos (by omega)) (zl 6 rfl ?_)));exact kG ai rfl (by rw[hdm.1,hdm.2])
  .refine zc 2 rfl (aj lX rfl (wY lb hsb (by omega) (by omega)) (zl 3 rfl (bT false rfl (rfl) (zl 24 rfl (zl 8 rfl (aa rfl (aw rfl) ?_))))));obtain⟨ti12,hi12,hz12,hs12,hb12⟩:=fi;refine aK rfl (j6 (i:=0) (n:=la.length) (ls:=((List.replicate (la.length) 0).map aY)) rfl rfl rfl da hi12 hz12 hs12 (by decide) rfl (by decide) rfl (by rw[hb12];omega) (by simp only[maxLen];omega) (jF _) rfl) (j0 rfl rfl rfl rfl bP ba rfl (zl 6 rfl ?_));have hlbl:bl (val la)<=32*la.length:=gQ (by rw[<-gD];exact dy hsa);have hb0p:0<val lb:=YG hb0;refine s9 12 ([]) rfl rfl rfl rfl rfl (zc 2 rfl (aj Cb rfl (AU la hsa (by omega)) (aa rfl (du rfl rfl rfl (r:=(bl (val la):Int)-1) (bS (by omega) (by omega) (by omega))) (zl 4 rfl ?_))));refine xH (fun m Γ H=>∃(n:Nat) (out:List Nat) (Q:Nat) (r:Nat),n=m/\Γ=[(0,some (D.v (V.one (ae la)))),(1,some (D.v (V.one (ae lb)))),(11,some (D.own 0 la.length)),(12,some (D.v (V.one (ae (ah r))))),(13,some (D.int ((n:Int)-1)))]/\H=[some ⟨80,(out).map aY,some 1,none⟩,none]/\n<=bl (val la)/\out.length=la.length/\Small out/\val out=2^n*Q/\val la/2^n=Q*val lb+r/\r<val lb) ⟨bl (val la),List.replicate la.length 0,0,0,rfl,rfl,rfl,XP _,by simp,Small.replicate _,by simp[lD],by rw[YQ (sW _)];simp,hb0p⟩ ⟨rfl,rfl,rfl,by rw[cJ];rfl,rfl,trivial⟩ ?_;rintro m Γ H ⟨n,out,Q,r,rfl,rfl,rfl,hnb,hol,hos,hoq,hqr,hrb⟩;refine zc 4 rfl ?_;by_cases hp:0<n
   .refine aa rfl (dR rfl) (zl 8 rfl ?_);obtain⟨n,rfl⟩:∃n0,n=n0+1:=⟨n-1,by omega⟩;have hn1:(((n+1:Nat):Int)-1)=(n:Int):=by omega
    rw[hn1];have hni:n/32<la.length:=C2 (dy hsa) (by omega);have hrl:=mX (Yn hrb);have hlbv:=fH hsb;have hbit:=C3 hsa hni;have hlan:=hsa.get (n/32) hni;have hstep:=CB hqr;have hsb1:=Ap hos (by omega) hoq;refine zc 2 rfl (aj Ca rfl (Aw (ah r) 1 (bh _) (by decide) (by omega) r (aZ _)) (zl 8 rfl (aa rfl (iu rfl rfl rfl (by decide) (r:=((n/32:Nat):Int)) (bS (jJ n 32) (by omega) (by omega))) (aa rfl (b5 rfl (fj hni)) (aa rfl (bB rfl) (zl 1 rfl (aa rfl (fR rfl rfl rfl (by decide) (r:=((n%32:Nat):Int)) (fB n 32)) ?_)))))));refine aa rfl (eB rfl rfl rfl (by omega) (r:=((la[n/32]'hni/2^(n%32):Nat):Int)) (er _ (n%32) (by simp only[IntKind.bits];omega))) (aa rfl (DP rfl rfl rfl (r:=((val la/2^n%2:Nat):Int)) ((by rw[<-hbit];exact De (Ye (Yy _ _) hlan)))) ?_);refine aK rfl (b8 rfl bP ba jk rfl (by decide) (by decide) rfl (by decide) rfl) ?_;have hr2:r*2^1+val la/2^n%2<2*val lb:=by omega
    have hl2:(ah (r*2^1)).length<=(ah (val lb)).length+1:=by
     rw[dm,Yb];have:=(dm (n:=val lb) (k:=(ah (val lb)).length)).1 (XP _);omega
    have hl3:(ah (r*2^1+val la/2^n%2)).length<=9000000000000:=by
     refine XY (dm (k:=(ah (val lb)).length+1).2 ?_) (by omega);rw[Yb];have:=(dm (n:=val lb) (k:=(ah (val lb)).length)).1 (XP _);omega
    refine aj yk rfl (w9 (ah (r*2^1)) [val la/2^n%2] (bh _) (Small.cons (by omega) Small.nil) (by omega) (by simp) (r*2^1) (val la/2^n%2) (aZ _) (by simp)) (zl 7 rfl (aj vf rfl (AQ (ah (r*2^1+val la/2^n%2)) lb (bh _) hsb (r*2^1+val la/2^n%2) (val lb) (aZ _) rfl) ?_));by_cases hge:val lb<=r*2^1+val la/2^n%2
    .refine aa rfl (dR rfl (by unfold eH;rw[if_neg (by omega)];split <;> decide)) (zl 7 rfl (aj sF rfl (tP (ah (r*2^1+val la/2^n%2)) lb (bh _) hsb hl3 (r*2^1+val la/2^n%2) (val lb) (aZ _) rfl hge) (zl 6 rfl (aE 0 [(10,0)] [0] (dz 2 rfl ?_)))));refine af rfl (iu rfl rfl rfl (by decide) (r:=((n/32:Nat):Int)) (bS (jJ n 32) (by omega) (by omega))) (cK [] rfl (eK rfl rfl rfl rfl (by decide) (by simp[hol]) (by decide) da ba (by omega) (by omega) (off:=n/32) (by omega)) (cK [] rfl (gT rfl rfl rfl (by decide) ba (sv (by omega))) (dz 1 rfl ?_)));refine af rfl (fR rfl rfl rfl (by decide) (r:=((n%32:Nat):Int)) (fB n 32)) ?_;refine af rfl (lz rfl rfl rfl (by omega) (r:=((2^(n%32):Nat):Int)) ((by rw[show min (((n%32:Nat):Int)).toNat IntKind.u32.bits=n%32 from by simp only[IntKind.bits];omega,Int.one_mul,show((2:Int)^(n%32))=((2^(n%32):Nat):Int) from by rw[Z8];rfl];exact qF (by have:(2:Nat)^(n%32)<=2^31:=X3 (by decide) (by omega);omega)))) ?_;refine af rfl (lA rfl rfl rfl (r:=((out[n/32]'(by omega)+2^(n%32):Nat):Int)) (Bb (n%32+1) hsb1.1 (YJ (by decide) (Zf _)) hsb1.2.1)) (cK [] rfl (eK rfl rfl rfl rfl (by decide) (by simp[hol]) (by decide) da ba (by omega) (by omega) (off:=n/32) (by omega)) ?_);refine cH 0 rfl (zE (ls:=((out.set (n/32) (out[n/32]'(by omega)+2^(n%32))).map aY)) rfl rfl rfl rfl ba rfl (by decide) (by simp;omega) (fX (by omega))) (aB (za 4 rfl (aa rfl (du rfl rfl rfl (r:=(n:Int)-1) (bS (by omega) (by omega) (by omega))) (zl 2 rfl ?_))));exact aP ⟨n,_,2*Q+1,_,rfl,rfl,rfl,by omega,by simp[hol],hos.set _ _ hsb1.2.1,hsb1.2.2,by rw[hstep,Ys,Y2];omega,by omega⟩ rfl
    .refine aa rfl (dY rfl (by rw[nB (by omega)];decide)) (zl 8 rfl (aa rfl (du rfl rfl rfl (r:=(n:Int)-1) (bS (by omega) (by omega) (by omega))) (zl 2 rfl ?_)));exact aP ⟨n,_,2*Q,_,rfl,rfl,rfl,by omega,hol,hos,by rw[hoq,Yb];grind,by rw[hstep];omega,by omega⟩ rfl
   .refine aa rfl (dY rfl) (zl 9 rfl ?_);have hn0:n=0:=by omega
    subst hn0;rw[ZY,zal] at hqr;rw[ZY,Y2] at hoq;subst hoq;have hdm:val la/val lb=val out/\val la%val lb=r:=by
     rw[hqr,Yu];exact⟨by rw[zaa hb0p,YQ hrb,Yl],by rw[zab,Y7 hrb]⟩
    refine zc 2 rfl (je 86 (out) rfl rfl rfl rfl (by omega) (aj iX rfl (jr out hos (by omega)) (zl 6 rfl ?_)));exact kG ai rfl (by rw[hdm.1,hdm.2])
end Go.Proofs.YtakccfmgipajnaaGreatDoor
namespace Rc
def dn(d:Nat):Nat:=if d=0 then 1 else d
theorem oO(d:Nat):0<dn d:=by unfold dn;split <;> omega
theorem fp(d:Nat):dn d≠0:=YM (oO d)
theorem dZ{d:Nat}(h:d≠0):dn d=d:=by simp[dn,h]
@[simp] theorem UC:dn 0=1:=rfl
def aH(neg:Bool)(n:Nat):Int:=if neg then -(n:Int) else n
@[simp] theorem lH (n:Nat):aH true n = -(n:Int):=rfl
@[simp] theorem mC (n:Nat):aH false n=n:=rfl
@[simp] theorem pG (neg:Bool) (n:Nat):(aH neg n).natAbs=n:=by cases neg <;> simp
theorem E6(a b:Bool)(m n:Nat):aH (a != b) (m*n)=aH a m*aH b n:=by
 cases a <;> cases b <;> simp[Int.neg_mul,Int.mul_neg]
theorem NT(a:Bool)(m:Nat):aH (!a) m = - aH a m:=by cases a <;> simp
theorem qY(x:Int):aH (decide (x<0)) x.natAbs=x:=by
 unfold aH;by_cases h:x<0
 .simp only[h,decide_true,if_true];omega
 .simp only[h,decide_false];simp;omega
def rq(neg:Bool)(n d:Nat):Rat:=mkRat (aH neg n) (dn d)
def bx(q:Rat):Bool:=decide (q.num<0)
def aN(q:Rat):Nat:=q.num.natAbs
def aQ(q:Rat):Nat:=if q.den=1 then 0 else q.den
theorem yA(q:Rat):dn (aQ q)=q.den:=by
 have:=q.den_pos;unfold aQ;by_cases h:q.den=1
 .rw[if_pos h,h];rfl
 .rw[if_neg h];exact dZ (by omega)
theorem AE(q:Rat):rq (bx q) (aN q) (aQ q)=q:=by
 unfold rq bx aN;rw[yA,qY,Rat.mkRat_self]
theorem rh(neg:Bool)(d:Nat):rq neg 0 d=0:=by unfold rq;cases neg <;> simp
theorem tS{neg:Bool}{n d:Nat}:rq neg n d=0↔n=0:=by
 unfold rq;rw[Rat.mkRat_eq_zero (fp d)];cases neg <;> simp
@[simp] theorem UT:bx 0=false:=rfl
@[simp] theorem qg:aN 0=0:=rfl
@[simp] theorem qi:aQ 0=0:=rfl
theorem tT(neg:Bool)(n d:Nat):rq neg n (dn d)=rq neg n d:=by unfold rq;rw[dZ (fp d)]
theorem sL(neg:Bool)(n d:Nat):(rq neg n d).den=dn d/Nat.gcd n (dn d):=by
 unfold rq;rw[Rat.den_mkRat,if_neg (fp d),pG,Zx]
theorem GC(neg:Bool)(n d:Nat):(rq neg n d).num=aH neg (n/Nat.gcd n (dn d)):=by
 unfold rq;rw[Rat.num_mkRat,if_neg (fp d),pG,Zx (dn d) n];obtain⟨k,hk⟩:=zar n (dn d);have bR:0<Nat.gcd n (dn d):=ZR _ (oO d);generalize Nat.gcd n (dn d)=g at *;subst hk;rw[ZW _ bR];cases neg
 .simp only[mC];rw[Zu,Int.mul_ediv_cancel_left _ (by omega)]
 .simp only[lH];rw[Zu,<-Int.mul_neg,Int.mul_ediv_cancel_left _ (by omega)]
theorem sP(neg:Bool)(n d:Nat):aN (rq neg n d)=n/Nat.gcd n (dn d):=by
 unfold aN;rw[GC,pG]
theorem yI(neg:Bool)(n d:Nat):bx (rq neg n d)=(neg&&decide (n≠0)):=by
 unfold bx;rw[GC];have hp:n≠0->0<n/Nat.gcd n (dn d):=fun h=>Nat.div_pos (zaM (by omega) (zar _ _)) (Nat.gcd_pos_of_pos_left _ (by omega));have h0:n=0->n/Nat.gcd n (dn d)=0:=fun h=>by rw[h,zaT]
 generalize n/Nat.gcd n (dn d)=k at *;cases neg
 .rw[Bool.false_and];exact decide_eq_false (by rw[mC];omega)
 .rw[zao];by_cases h:n=0
  .rw[h0 h];rw[decide_eq_false (by simp[h]:¬n≠0)];rfl
  .have:=hp h;rw[decide_eq_true (h:n≠0)];exact decide_eq_true (by rw[lH];omega)
theorem tU(a b:Bool)(m n d e:Nat)(s:Int)(hs:s=aH a (m*dn e)+aH b (n*dn d)) :
  rq (decide (s<0)) s.natAbs (dn d*dn e)=rq a m d+rq b n e:=by
 have h1:rq (decide (s<0)) s.natAbs (dn d*dn e)=mkRat s (dn d*dn e):=by
  unfold rq;rw[qY,dZ (YM (Zn (oO d) (oO e)))]
 rw[h1,hs];unfold rq;rw[Rat.mkRat_add_mkRat _ _ (fp d) (fp e)];congr 1;cases a <;> cases b <;> simp <;> grind
theorem px(a b:Bool)(m n d e:Nat):rq (a != b) (m*n) (dn d*dn e)=rq a m d*rq b n e:=by
 unfold rq;rw[Rat.mkRat_mul_mkRat,E6,dZ (YM (Zn (oO d) (oO e)))]
theorem tR(a:Bool)(m d:Nat):rq (!a) m d = - rq a m d:=by
 unfold rq;rw[NT,Rat.neg_mkRat]
theorem Rp{a b:Int}{d e:Nat}(hd:0<d)(he:0<e):mkRat a d<mkRat b e↔a*e<b*d:=by
 rw[zaY,zaY];have hd':(0:Rat)<((d:Int):Rat):=by
  rw[show(0:Rat)=((0:Int):Rat) from rfl];exact zaA.2 (by omega)
 have he':(0:Rat)<((e:Int):Rat):=by
  rw[show(0:Rat)=((0:Int):Rat) from rfl];exact zaA.2 (by omega)
 have e1:((a:Rat)/(d:Nat))=(a:Rat)/((d:Int):Rat):=rfl;have e2:((b:Rat)/(e:Nat))=(b:Rat)/((e:Int):Rat):=rfl;rw[e1,e2,Rat.div_lt_iff hd'];rw[show(b:Rat)/((e:Int):Rat)*((d:Int):Rat)=((b:Rat)*((d:Int):Rat))/((e:Int):Rat) by grind,Rat.lt_div_iff he',
  ← Rat.intCast_mul,<-Rat.intCast_mul,zaA]
theorem AB(a b:Bool)(m n d e:Nat):rq a m d<rq b n e↔aH a m*dn e<aH b n*dn d:=by
 unfold rq;exact Rp (oO d) (oO e)
theorem FE(a b:Bool)(m n d e:Nat):rq a m d=rq b n e↔aH a m*dn e=aH b n*dn d:=by
 unfold rq;exact Rat.mkRat_eq_iff (fp d) (fp e)
def sg(q:Rat):Int:=if q<0 then -1 else if q=0 then 0 else 1
def ei(p q:Rat):Int:=if p<q then -1 else if p=q then 0 else 1
theorem JV(p q:Rat):ei p q=sg (p-q):=by
 unfold ei sg;have h1:p<q↔p-q<0:=by grind
 have h2:p=q↔p-q=0:=by grind
 simp only[h1,h2]
end Rc
namespace Rc
open Go
structure Zr where
 neg:Bool
 m:List Nat
 hm:Small m
def Zr.z(x:Zr):Int:=aH x.neg (val x.m)
@[reducible] def zV(x:Zr):V:=V.agg [ab.val (.bool x.neg),ae x.m]
@[reducible] def eX(z:Int):Zr:=⟨decide (z<0),ah z.natAbs,bh _⟩
theorem mj(z:Int):(eX z).z=z:=by
 show aH (decide (z<0)) (val (ah z.natAbs))=z;rw[aZ];exact qY z
structure Qr where
 neg:Bool
 n:List Nat
 d:List Nat
 hn:Small n
 hd:Small d
def Qr.q(x:Qr):Rat:=rq x.neg (val x.n) (val x.d)
@[reducible] def qV(x:Qr):V:=V.agg [ab.val (.bool x.neg),ae x.n,ae x.d]
@[reducible] def an(q:Rat):Qr:=⟨bx q,ah (aN q),ah (aQ q),bh _,bh _⟩
theorem aG(q:Rat):(an q).q=q:=by
 show rq (bx q) (val (ah (aN q))) (val (ah (aQ q)))=q;rw[aZ,aZ];exact AE q
@[reducible] def n8:Qr:=⟨false,[],[],Small.nil,Small.nil⟩
theorem Pa:n8.q=0:=by
 show rq false 0 0=0;exact rh _ _
theorem kf:qV n8=qV (an 0):=by
 show V.agg _=V.agg [ab.val (.bool (bx 0)),ae (ah (aN 0)),ae (ah (aQ 0))];rw[UT,qg,qi,cJ]
class Bn (n:Nat) (k:outParam Nat):Prop where
 le:(ah n).length<=k
theorem Bn.use{n k k':Nat}[h:Bn n k](hk:k<=k'):(ah n).length<=k':=XY h.le hk
theorem Bn.lt{n k:Nat}(h:Bn n k):n<4294967296^k:=dm.1 h.le
theorem Bn.of{n k:Nat}(h:n<4294967296^k):Bn n k:=⟨dm.2 h⟩
theorem Bn.val{l:List Nat}{k:Nat}(hs:Small l)(h:l.length<=k):Bn (val l) k:=⟨XY (fH hs) h⟩
theorem Bn.of_lt{n k:Nat}(h:n<18446744073709551616)(hk:2<=k):(ah n).length<=k:=XY (dm (k:=2).2 h) hk
theorem Bj{a b i j:Nat}(ha:a<4294967296^i)(hb:b<4294967296^j):a*b<4294967296^(i+j):=by
 rw[Yv];rcases Yr b with h|h
 .subst h;exact Zn (Yp (by decide)) (Yp (by decide))
 .exact XZ (Zb ha h) (Yx _ (Yn hb))
theorem VV{a b i j:Nat}(ha:a<4294967296^i)(hb:b<4294967296^j):a+b<4294967296^(i+j+1):=by
 have h1:4294967296^i<=4294967296^(i+j):=X3 (by decide) (by omega);have h2:4294967296^j<=4294967296^(i+j):=X3 (by decide) (by omega);rw[Yb];omega
instance Bn.mul{a b i j:Nat}[ha:Bn a i][hb:Bn b j]:Bn (a*b) (i+j):=Bn.of (Bj ha.lt hb.lt)
instance Bn.add{a b i j:Nat}[ha:Bn a i][hb:Bn b j]:Bn (a+b) (i+j+1):=Bn.of (VV ha.lt hb.lt)
instance Bn.dn{a i:Nat}[ha:Bn a i]:Bn (dn a) (i+1):=by
 refine Bn.of ?_;have:=ha.lt;unfold Rc.dn;split
 .exact Nat.one_lt_pow (by omega) (by decide)
 .rw[Yb];omega
theorem Bn.mono{a b i:Nat}(h:a<=b)(hb:Bn b i):Bn a i:=Bn.of (Ye h hb.lt)
instance Bn.div{a b i:Nat}[ha:Bn a i]:Bn (a/b) i:=Bn.mono (Yy _ _) ha
instance Bn.sub{a b i:Nat}[ha:Bn a i]:Bn (a-b) i:=Bn.mono (Nat.sub_le _ _) ha
instance Bn.mod{a b i:Nat}[ha:Bn a i]:Bn (a%b) i:=Bn.mono (Nat.mod_le _ _) ha
class Bz (z:Int) (k:outParam Nat):Prop where
 le:(ah z.natAbs).length<=k
theorem Bz.use{z:Int}{k k':Nat}[h:Bz z k](hk:k<=k'):(ah z.natAbs).length<=k':=XY h.le hk
theorem Bz.bn{z:Int}{k:Nat}(h:Bz z k):Bn z.natAbs k:=⟨h.le⟩
instance Bz.aH{b:Bool}{n i:Nat}[h:Bn n i]:Bz (Rc.aH b n) i:=⟨by rw[pG];exact h.le⟩
instance Bz.nat{n i:Nat}[h:Bn n i]:Bz (n:Int) i:=⟨by simpa using h.le⟩
instance Bz.mul{a b:Int}{i j:Nat}[ha:Bz a i][hb:Bz b j]:Bz (a*b) (i+j):=
 ⟨by rw[Int.natAbs_mul];exact(@Bn.mul _ _ _ _ ha.bn hb.bn).le⟩
instance Bz.add{a b:Int}{i j:Nat}[ha:Bz a i][hb:Bz b j]:Bz (a+b) (i+j+1):=
 ⟨(Bn.mono (by omega) (@Bn.add _ _ _ _ ha.bn hb.bn)).le⟩
instance Bz.sub{a b:Int}{i j:Nat}[ha:Bz a i][hb:Bz b j]:Bz (a-b) (i+j+1):=
 ⟨(Bn.mono (by omega) (@Bn.add _ _ _ _ ha.bn hb.bn)).le⟩
instance Bz.neg{a:Int}{i:Nat}[ha:Bz a i]:Bz (-a) i:=⟨by rw[Int.natAbs_neg];exact ha.le⟩
structure Fit(k:Nat)(x:Qr):Prop where
 n:x.n.length<=k
 d:x.d.length<=k
theorem Fit.mono{k k':Nat}{x:Qr}(h:Fit k x)(hk:k<=k'):Fit k' x:=⟨XY h.n hk,XY h.d hk⟩
class Br (r:Rat) (k:outParam Nat):Prop where
 fit:Fit k (an r)
theorem Br.use{r:Rat}{k k':Nat}[h:Br r k](hk:k<=k'):Fit k' (an r):=h.fit.mono hk
theorem Pb{k:Nat}:Fit k n8:=⟨XS _,XS _⟩
theorem Br.num{r:Rat}{k:Nat}(h:Br r k):aN r<4294967296^k:=dm.1 h.fit.n
theorem Br.den{r:Rat}{k:Nat}(h:Br r k):r.den<=4294967296^k:=by
 have h1:aQ r<4294967296^k:=dm.1 h.fit.d;rw[<-yA];have h2:0<4294967296^k:=Yp (by decide);unfold dn;split <;> omega
theorem Br.of{r:Rat}{k:Nat}(h1:r.num.natAbs<4294967296^k)(h2:r.den<4294967296^k):Br r k:=
 ⟨dm.2 h1,dm.2 (by unfold aQ;split <;> omega)⟩
theorem Br.rq{b:Bool}{n d k:Nat}(h1:n<4294967296^k)(h2:d<4294967296^k):Br (rq b n d) k:=by
 refine⟨dm.2 ?_,dm.2 ?_⟩
 .rw[sP];exact Ye (Yy _ _) h1
 .have h3:(Rc.rq b n d).den<=dn d:=by rw[sL];exact Yy _ _
  unfold aQ;split
  .omega
  .rename_i h4;unfold dn at h3;have:=(Rc.rq b n d).den_pos;split at h3 <;> omega
theorem Br.q{x:Qr}{k:Nat}(h:Fit k x):Br x.q k:=
 Br.rq (XZ (dy x.hn) (X3 (by decide) h.n)) (XZ (dy x.hd) (X3 (by decide) h.d))
theorem Br.Az{b:Bool}{n d i j:Nat}(h1:n<4294967296^i)(h2:d<=4294967296^j)(hj:j<i):Br (Rc.rq b n d) i:=
 Br.rq h1 (Ye h2 (YJ (by decide) hj))
theorem nX(q:Rat):Rc.rq (bx q) (aN q) q.den=q:=by rw[<-yA,tT,AE]
instance Br.mul{r s:Rat}{i j:Nat}[hr:Br r i][hs:Br s j]:Br (r*s) (i+j+1):=by
 rw[<-nX r,<-nX s,<-px,dZ (YM r.den_pos),dZ (YM s.den_pos)];refine Br.Az (j:=i+j) (YR (Bj hr.num hs.num) (YJ (by decide) (by omega))) ?_ (by omega);rw[Yv];exact YZ hr.den hs.den
instance Br.add{r s:Rat}{i j:Nat}[hr:Br r i][hs:Br s j]:Br (r+s) (i+j+1):=by
 rw[<-nX r,<-nX s,<-tU _ _ _ _ _ _ _ rfl,dZ (YM r.den_pos),dZ (YM s.den_pos)];refine Br.Az (j:=i+j) ?_ ?_ (by omega)
 .have h1:aN r*s.den<4294967296^(i+j)\/aN r*s.den=0:=by
   rcases Yr (aN r) with h|h
   .exact .inr (by rw[h,Zm])
   .left;rw[Yv];exact XZ (Zb hr.num s.den_pos) (Yx _ hs.den)
  have h2:aN s*r.den<4294967296^(i+j)\/aN s*r.den=0:=by
   rcases Yr (aN s) with h|h
   .exact .inr (by rw[h,Zm])
   .left;rw[Yv,Yu (4294967296^i)];exact XZ (Zb hs.num r.den_pos) (Yx _ hr.den)
  have h0:0<4294967296^(i+j):=Yp (by decide);have h3:∀(a b:Bool) (m n:Nat),(aH a m+aH b n).natAbs<=m+n:=by
   intro a b m n;cases a <;> cases b <;> simp <;> omega
  have h4:=h3 (bx r) (bx s) (aN r*s.den) (aN s*r.den);refine Ye h4 ?_;rw[Yb];omega
 .rw[Yv];exact YZ hr.den hs.den
theorem JT(r:Rat):aN (-r)=aN r:=by unfold aN;rw[show(-r).num = -r.num from rfl,Int.natAbs_neg]
theorem J5(r:Rat):aQ (-r)=aQ r:=rfl
instance Br.neg{r:Rat}{i:Nat}[hr:Br r i]:Br (-r) i:=⟨⟨by show(ah (aN (-r))).length<=i;rw[JT];exact hr.fit.n,by show(ah (aQ (-r))).length<=i;rw[J5];exact hr.fit.d⟩⟩
instance Br.sub{r s:Rat}{i j:Nat}[hr:Br r i][hs:Br s j]:Br (r-s) (i+j+1):=by
 rw[ZF];exact Br.add
theorem Br.mono{r:Rat}{i j:Nat}(h:Br r i)(hij:i<=j):Br r j:=⟨h.fit.mono hij⟩
def mn(r s:Rat):Rat:=if r<=s then r else s
def mx(r s:Rat):Rat:=if s<=r then r else s
instance Br.mn{r s:Rat}{i j:Nat}[hr:Br r i][hs:Br s j]:Br (mn r s) (i+j):=by
 unfold Rc.mn;split
 .exact hr.mono (by omega)
 .exact hs.mono (by omega)
instance Br.mx{r s:Rat}{i j:Nat}[hr:Br r i][hs:Br s j]:Br (mx r s) (i+j):=by
 unfold Rc.mx;split
 .exact hr.mono (by omega)
 .exact hs.mono (by omega)
instance Br.zero:Br 0 0:=⟨⟨by show(ah (aN 0)).length<=0;rw[qg,cJ];exact XP _,by show(ah (aQ 0)).length<=0;rw[qi,cJ];exact XP _⟩⟩
instance Br.inv{r:Rat}{i:Nat}[hr:Br r i]:Br r⁻¹ (i+1):=by
 by_cases h:r=0
 .subst h;rw[Rat.inv_zero];exact Br.zero.mono (XS _)
 .have hn:r.num≠0:=fun e=>h (Rat.num_eq_zero.1 e);refine Br.of ?_ ?_
  .rw[Rat.num_inv,Int.natAbs_mul];have h1:r.num.sign.natAbs<=1:=by rw[Int.natAbs_sign];split <;> omega
   have h2:=hr.den;have h3:r.num.sign.natAbs*(r.den:Int).natAbs<=1*r.den:=YZ h1 (by simp);have h0:0<4294967296^i:=Yp (by decide);rw[Yb];generalize r.num.sign.natAbs*(r.den:Int).natAbs=a at *;omega
  .rw[Rat.den_inv,if_neg hn];have:=hr.num;unfold aN at this;rw[Yb];omega
instance Br.div{r s:Rat}{i j:Nat}[hr:Br r i][hs:Br s j]:Br (r/s) (i+(j+1)+1):=by
 rw[za1];exact Br.mul
def dK(z:Int):Int:=if z<0 then -1 else if z=0 then 0 else 1
def jx(a b:Int):Int:=if a<b then -1 else if a=b then 0 else 1
theorem FD(b:Bool)(n d:Nat):rq b n d<0↔aH b n<0:=by
 have h:=AB b false n 0 d 0;rw[rh] at h;rw[h];simp[dn]
theorem E7(b:Bool)(n d:Nat):sg (rq b n d)=dK (aH b n):=by
 unfold sg dK;have h1:=FD b n d;have h2:rq b n d=0↔aH b n=0:=by rw[tS];cases b <;> simp
 simp only[h1,h2]
theorem U3(a b:Bool)(m n d e:Nat):ei (rq a m d) (rq b n e)=jx (aH a m*dn e) (aH b n*dn d):=by
 unfold ei jx;simp only[AB,FE]
theorem vB{p q:Rat}:ei p q<=0↔p<=q:=by
 unfold ei;split
 .rename_i h;exact⟨fun _=>zad h,fun _=>by decide⟩
 .split
  .rename_i h;subst h;exact⟨fun _=>za2,fun _=>by decide⟩
  .rename_i h1 h2;exact⟨fun h=>absurd h (by decide),fun h=>by grind⟩
theorem vC{p q:Rat}:0<=ei p q↔q<=p:=by
 unfold ei;split
 .rename_i h;exact⟨fun h=>absurd h (by decide),fun h'=>by grind⟩
 .rename_i h;exact⟨fun _=>by grind,fun _=>by split <;> decide⟩
theorem yJ{p q:Rat}:0<ei p q↔q<p:=by
 unfold ei;split
 .rename_i h;exact⟨fun h=>absurd h (by decide),fun h'=>by grind⟩
 .split
  .rename_i h;exact⟨fun h=>absurd h (by decide),fun h'=>by grind⟩
  .rename_i h1 h2;exact⟨fun _=>by grind,fun _=>by decide⟩
theorem vA{p q:Rat}:ei p q<0↔p<q:=by
 unfold ei;split
 .rename_i h;exact⟨fun _=>h,fun _=>by decide⟩
 .rename_i h;exact⟨fun h'=>by split at h' <;> simp at h',fun h'=>absurd h' h⟩
theorem tL{p:Rat}:sg p<0↔p<0:=by
 unfold sg;split
 .rename_i h;exact⟨fun _=>h,fun _=>by decide⟩
 .rename_i h;exact⟨fun h'=>by split at h' <;> simp at h',fun h'=>absurd h' h⟩
theorem tj{b:Bool}{m:List Nat}{hm:Small m}{v:Nat}(h:val m=v):(Zr.mk b m hm).z=aH b v:=by subst h;rfl
theorem O3{b:Bool}{n d:List Nat}{hn:Small n}{hd:Small d}{vn vd:Nat}(h1:val n=vn)(h2:val d=vd):(Qr.mk b n d hn hd).q=rq b vn vd:=by subst h1;subst h2;rfl
theorem AY{x:Qr}{r:Rat}(h:x.q=r):(Qr.mk (!x.neg) x.n x.d x.hn x.hd).q = -r:=by
 subst h;exact tR x.neg (val x.n) (val x.d)
theorem Fit.neg{k:Nat}{x:Qr}(h:Fit k x):Fit k (Qr.mk (!x.neg) x.n x.d x.hn x.hd):=⟨h.n,h.d⟩
theorem mY{n:Nat}:0<(ah n).length↔n≠0:=by
 constructor
 .intro h e;subst e;rw[cJ] at h;simp at h
 .intro h;exact YG (fun e=>h (kS.1 (X5 e)))
theorem DZ(n:Nat):V.agg [ab.val (.bool false),ae (ah n)]=zV (eX (aH false n)):=by
 show V.agg _=V.agg [ab.val (.bool (decide (aH false n<0))),ae (ah (aH false n).natAbs)];rw[pG,decide_eq_false (by rw[mC];omega)]
theorem DY(n:Nat):V.agg [ab.val (.bool (decide ((0:Int)<((ah n).length:Nat)))),ae (ah n)]=zV (eX (aH true n)):=by
 show V.agg _=V.agg [ab.val (.bool (decide (aH true n<0))),ae (ah (aH true n).natAbs)];rw[pG];have h:=mY (n:=n);have e:decide ((0:Int)<((ah n).length:Nat))=decide (aH true n<0):=decide_eq_decide.2 (by rw[lH];omega);rw[e]
theorem C1{n:Nat}:bl n=0↔n=0:=by
 constructor
 .intro h;by_cases e:n=0
  .exact e
  .have:=C0 e;omega
 .rintro rfl;rfl
theorem NP{x:Zr}(h:bl (val x.m)=0):dK x.z=0:=by
 unfold Zr.z;rw[C1.1 h];cases x.neg <;> rfl
theorem NO{x:Zr}(h:val x.m=0):dK x.z=0:=by
 unfold Zr.z;rw[h];cases x.neg <;> rfl
theorem NR{x:Zr}(h:val x.m≠0)(hn:x.neg=true):dK x.z = -1:=by
 unfold Zr.z dK;rw[hn,lH,if_pos (by omega)]
theorem NQ{x:Zr}(h:val x.m≠0)(hn:x.neg=false):dK x.z=1:=by
 unfold Zr.z dK;rw[hn,mC,if_neg (by omega),if_neg (by omega)]
theorem D7{x y:Zr}(h:x.neg=y.neg):aH x.neg (val x.m+val y.m)=x.z+y.z:=by
 unfold Zr.z;rw[<-h];cases x.neg <;> simp <;> omega
theorem D8{x y:Zr}(h:x.neg≠y.neg)(hlt:val x.m<=val y.m):aH y.neg (val y.m-val x.m)=x.z+y.z:=by
 unfold Zr.z;cases hx:x.neg <;> cases hy:y.neg <;> simp[hx,hy] at h ⊢ <;> omega
theorem D9{x y:Zr}(h:x.neg≠y.neg)(hge:val y.m<=val x.m):aH x.neg (val x.m-val y.m)=x.z+y.z:=by
 unfold Zr.z;cases hx:x.neg <;> cases hy:y.neg <;> simp[hx,hy] at h ⊢ <;> omega
theorem mB(z:Int):(z<0/\dK z = -1)\/(z=0/\dK z=0)\/(0<z/\dK z=1):=by
 unfold dK;split
 .exact .inl ⟨by assumption,rfl⟩
 .split
  .exact .inr (.inl ⟨by assumption,rfl⟩)
  .exact .inr (.inr ⟨by omega,rfl⟩)
theorem UZ{a b:Int}(h:a<b):jx a b = -1:=by unfold jx;rw[if_pos h]
theorem U0{a b:Int}(h:b<a):jx a b=1:=by unfold jx;rw[if_neg (by omega),if_neg (by omega)]
theorem UU{a b:Int}(h:dK a<dK b):jx a b = -1:=by
 have h1:=mB a;have h2:=mB b;exact UZ (by omega)
theorem UW{a b:Int}(h:dK b<dK a):jx a b=1:=by
 have h1:=mB a;have h2:=mB b;exact U0 (by omega)
theorem UY{x y:Zr}(h:dK x.z=dK y.z)(hn:dK x.z<0):eH (val y.m) (val x.m)=jx x.z y.z:=by
 have h1:=mB x.z;have h2:=mB y.z;have a1:x.z<0:=by omega
 have a2:y.z<0:=by omega
 clear h1 h2 h hn;unfold Zr.z at *;cases hx:x.neg <;> cases hy:y.neg <;> rw[hx] at a1 <;> rw[hy] at a2 <;> simp at a1 a2
 .omega
 .omega
 .omega
 .simp only[lH];unfold eH jx
  repeat' split
  all_goals omega
theorem UX{x y:Zr}(h:dK x.z=dK y.z)(hn:¬dK x.z<0):eH (val x.m) (val y.m)=jx x.z y.z:=by
 have h1:=mB x.z;have h2:=mB y.z;have a:(x.z=0/\y.z=0)\/(0<x.z/\0<y.z):=by omega
 clear h1 h2 h hn;have e1:x.z=val x.m:=by
  unfold Zr.z at *;cases hx:x.neg <;> rw[hx] at a <;> simp at a ⊢ <;> omega
 have e2:y.z=val y.m:=by
  unfold Zr.z at *;cases hy:y.neg <;> rw[hy] at a <;> simp at a ⊢ <;> omega
 rw[e1,e2];unfold eH jx
 repeat' split
 all_goals omega
def dl(d:List Nat):List Nat:=if val d=0 then[1] else d
theorem mq(d:List Nat):val (dl d)=dn (val d):=by unfold dl dn;split <;> simp_all
theorem mz{d:List Nat}(h:Small d):Small (dl d):=by
 unfold dl;split
 .exact Small.cons (by omega) Small.nil
 .exact h
theorem mZ{d:List Nat}{k k':Nat}(h:d.length<=k)(hk:k+1<=k'):(dl d).length<=k':=by
 unfold dl;split
 .simp;omega
 .omega
theorem UI{d:List Nat}(h:bl (val d)=0):dl d=[1]:=by unfold dl;rw[if_pos (C1.1 h)]
theorem UJ{d:List Nat}(h:¬bl (val d)=0):dl d=d:=by unfold dl;rw[if_neg (fun e=>h (C1.2 e))]
theorem xL:ah 1=[1]:=by rw[ow (by decide)];simp[cJ]
theorem pL{n:Nat}:ah n=[1]↔n=1:=by
 constructor
 .intro h;have:=aZ n;rw[h] at this;simpa using this.symm
 .rintro rfl;exact xL
theorem xa(b:Bool){n d:Nat}(hn:n≠0)(hd:d≠0) :
  qV (an (rq b n d))=V.agg [ab.val (.bool b),ae (ah (n/Nat.gcd n d)),ae (ah (if d/Nat.gcd n d=1 then 0 else d/Nat.gcd n d))]:=by
 show V.agg [ab.val (.bool (bx (rq b n d))),ae (ah (aN (rq b n d))),ae (ah (aQ (rq b n d)))]=_;rw[yI,sP,dZ hd,decide_eq_true hn,Bool.and_true];unfold aQ;rw[sL,dZ hd]
theorem ry(b:Bool){n d:Nat}(hd:d≠0) :
  qV (an (rq b n d))=V.agg [ab.val (.bool (b&&decide (n≠0))),ae (ah (n/Nat.gcd n d)),ae (ah (if d/Nat.gcd n d=1 then 0 else d/Nat.gcd n d))]:=by
 show V.agg [ab.val (.bool (bx (rq b n d))),ae (ah (aN (rq b n d))),ae (ah (aQ (rq b n d)))]=_;rw[yI,sP,dZ hd];unfold aQ;rw[sL,dZ hd]
theorem O0(b:Bool)(d:Nat):qV n8=qV (an (rq b 0 d)):=by rw[rh];exact kf
theorem UK{n g:Nat}(hn:n≠0)(h:g ∣ n):n/g≠0:=by
 obtain⟨k,rfl⟩:=h;have hg:0<g:=YG (fun e=>hn (by rw[e,Zm]));rw[ZW _ hg];intro e;exact hn (by rw[e,Zc])
theorem O9(a b:Bool)(m n d e:Nat)(S:Int)(hS:S=aH a m*aH false (dn e)+aH b n*aH false (dn d)) :
  rq (decide (S<0)) S.natAbs (dn d*dn e)=rq a m d+rq b n e:=by
 refine tU a b m n d e S ?_;rw[hS];cases a <;> cases b <;> simp[Int.neg_mul]
theorem O8(a b:Bool)(m n d e:Nat)(S:Int)(hS:S=aH a (m*dn e)+aH b (n*dn d)) :
  rq (decide (S<0)) S.natAbs (dn d*dn e)=rq a m d+rq b n e:=tU a b m n d e S hS
theorem U4(a b:Bool)(m n d e:Nat):jx (aH a m*aH false (dn e)) (aH b n*aH false (dn d))=ei (rq a m d) (rq b n e):=(U3 a b m n d e).symm
theorem U1{p q:Rat}(h:sg p<sg q):ei p q = -1:=by
 unfold ei;rw[if_pos];unfold sg at h;grind
theorem U2{p q:Rat}(h:sg p≠sg q)(h':¬sg p<sg q):ei p q=1:=by
 unfold ei;unfold sg at h h';rw[if_neg,if_neg] <;> grind
theorem Q7{r s:Rat}(h:ei r s<=0):mn r s=r:=by unfold mn;rw[if_pos (vB.1 h)]
theorem Q9{r s:Rat}(h:¬ei r s<=0):mn r s=s:=by unfold mn;rw[if_neg (fun e=>h (vB.2 e))]
theorem ur{r s:Rat}(h:0<=ei r s):mx r s=r:=by unfold mx;rw[if_pos (vC.1 h)]
theorem xy{r s:Rat}(h:¬0<=ei r s):mx r s=s:=by unfold mx;rw[if_neg (fun e=>h (vC.2 e))]
def m6(x:Qr):Bool:=(x.neg == bx x.q)&&decide (x.n=ah (aN x.q))&&decide (x.d=ah (aQ x.q))
theorem xT{x:Qr}:m6 x=true↔x=an x.q:=by
 unfold m6;rw[XQ,XQ,beq_iff_eq,decide_eq_true_eq,decide_eq_true_eq];constructor
 .rintro⟨⟨h1,h2⟩,h3⟩;obtain⟨b,n,d,hn,hd⟩:=x;simp only at h1 h2 h3;show _=Qr.mk _ _ _ _ _;congr
 .intro h;refine⟨⟨?_,?_⟩,?_⟩
  .have:=congrArg Qr.neg h;exact this
  .have:=congrArg Qr.n h;exact this
  .have:=congrArg Qr.d h;exact this
theorem EZ{a b:List Nat}(ha:Small a)(hb:Small b)(hl:a.length=b.length)(hv:val a=val b):a=b:=by
 rw[A8 ha,A8 hb,hl,hv]
theorem U5{a b:Nat}:eH a b=0↔a=b:=by
 unfold eH;split
 .exact⟨fun h=>absurd h (by decide),fun h=>by omega⟩
 .split
  .exact⟨fun _=>by assumption,fun _=>rfl⟩
  .exact⟨fun h=>absurd h (by decide),fun h=>absurd h (by assumption)⟩
theorem BH{x:Qr}(hd:x.d.length=0):m6 x=(decide (∀h:x.n≠[],x.n.getLast h≠0)&&(!x.neg||decide (0<x.n.length))):=by
 obtain⟨b,n,d,hn,hdd⟩:=x;simp only at hd;have hd0:=X5 hd;subst hd0;have hq:(Qr.mk b n [] hn hdd).q=rq b (val n) 0:=rfl;apply Zw.2;unfold m6;rw[hq];simp only[];rw[yI,sP];have hden:aQ (rq b (val n) 0)=0:=by unfold aQ;rw[sL];simp
 rw[hden,cJ];simp only[UC,Nat.gcd_one_right,zal,XQ,decide_eq_true_eq,beq_iff_eq,YO,Zi,ne_eq,decide_true,and_true];constructor
 .rintro⟨h1,h2⟩;have hc:=sS (val n);rw[<-h2] at hc;refine⟨fun h=>hc.2 h,?_⟩
  cases b with
  |false=>exact .inl rfl
  |true=>
   right;simp at h1;rw[h2];exact mY.2 h1
 .rintro⟨h1,h2⟩;have hc:Canon n:=⟨hn,fun h=>h1 h⟩;refine⟨?_,hc.eq⟩;rcases h2 with h2|h2
  .subst h2;simp
  .have:val n≠0:=by
    rw[hc.eq] at h2;exact mY.1 h2
   simp[this]
theorem uL{x:Qr}:m6 x=((x.neg == bx x.q)&&((x.n.length:Int) == ((ah (aN x.q)).length:Nat))&&((x.d.length:Int) == ((ah (aQ x.q)).length:Nat))&&(eH (val x.n) (aN x.q) == 0)&&(eH (val x.d) (aQ x.q) == 0)):=by
 apply Zw.2;unfold m6;simp only[XQ,beq_iff_eq,decide_eq_true_eq,U5];constructor
 .rintro⟨⟨h1,h2⟩,h3⟩;exact⟨⟨⟨⟨h1,by rw[<-h2]⟩,by rw[<-h3]⟩,by rw[h2,aZ]⟩,by rw[h3,aZ]⟩
 .rintro⟨⟨⟨⟨h1,h2⟩,h3⟩,h4⟩,h5⟩;exact⟨⟨h1,EZ x.hn (bh _) (by omega) (by rw[aZ];exact h4)⟩,EZ x.hd (bh _) (by omega) (by rw[aZ];exact h5)⟩
end Rc
namespace Go.Proofs.YtakccfmgipajnaaGreatDoor
open Go Go.RowKit Rc
theorem Bu(a:List Nat)(hsa:Small a)(hla:a.length<=10000000000000)(m:Nat)(hm:val a=m):ar Tryz.prog 201 [V.one (ae a)] (R.one (V.one (ae (ah m)))):=by
 subst hm;exact xE a hsa hla
theorem VT(a:List Nat)(hsa:Small a)(hla:a.length<=10000000000000)(b:List Nat)(hsb:Small b)(hlb:b.length<=10000000000000)(m:Nat)(hm:val a=m)(n:Nat)(hn:val b=n):ar Tryz.prog 260 [V.one (ae a),V.one (ae b)] (R.one (V.one (ae (ah (m+n))))):=by
 subst hm;subst hn;exact VU a b hsa hsb hla hlb
theorem rJ(a:List Nat)(hsa:Small a)(hla:a.length<=10000000000000)(b:List Nat)(hsb:Small b)(hlb:b.length<=10000000000000)(m:Nat)(hm:val a=m)(n:Nat)(hn:val b=n):ar Tryz.prog 207 [V.one (ae a),V.one (ae b)] (R.one (V.one (ae (ah (m*n))))):=by
 subst hm;subst hn;exact QM a b hsa hsb hla hlb
theorem vD(a:List Nat)(hsa:Small a)(b:List Nat)(hsb:Small b)(m:Nat)(hm:val a=m)(n:Nat)(hn:val b=n):ar Tryz.prog 99 [V.one (ae a),V.one (ae b)] (R.one (V.one (ab.val (.int .i64 (eH m n))))):=by
 subst hm;subst hn;exact CJ a b hsa hsb
theorem Ki(a:List Nat)(hsa:Small a)(hla:a.length<=10000000000000)(m:Nat)(hm:val a=m):ar Tryz.prog 157 [V.one (ae a)] (R.one (V.one (ab.val (.int .i64 ((bl m:Nat):Int))))):=by
 subst hm;exact Vu a hsa hla
theorem SZ(a:List Nat)(hsa:Small a)(hla:a.length<=9000000000000)(b:List Nat)(hsb:Small b)(hlb:b.length<=9000000000000)(m:Nat)(hm:val a=m)(n:Nat)(hn:val b=n):ar Tryz.prog 203 [V.one (ae a),V.one (ae b)] (R.one (V.one (ae (ah (Nat.gcd m n))))):=by
 subst hm;subst hn;exact S0 a b hsa hsb hla hlb
theorem EN(a b:List Nat)(hsa:Small a)(hsb:Small b)(hla:a.length<=10000000000000)(m n:Nat)(hm:val a=m)(hn:val b=n)(hge:n<=m):ar Tryz.prog 261 [V.one (ae a),V.one (ae b)] (R.aW [V.one (ae (ah (m-n))),V.one (ab.val (.int .i64 0))]):=by
 subst hm;subst hn;exact Ng a b hsa hsb hla hge
theorem JD(a b:List Nat)(hsa:Small a)(hsb:Small b)(hla:a.length<=9000000000000)(hlb:b.length<=9000000000000)(m n:Nat)(hm:val a=m)(hn:val b=n)(h0:n≠0):ar Tryz.prog 204 [V.one (ae a),V.one (ae b)] (R.aW [V.one (ae (ah (m/n))),V.one (ae (ah (m%n))),V.one (ab.val (.int .i64 0))]):=by
 subst hm;subst hn;exact CA a b hsa hsb hla hlb (YG h0)
theorem FM(a:List Nat)(hsa:Small a)(hla:a.length<=10000000000000)(m:Nat)(hm:val a=m):ar Tryz.prog 109 [V.one (ae a)] (R.one (V.one (ae (ah m)))):=by
 subst hm;exact jr a hsa hla
theorem AN(a b:List Nat)(hsa:Small a)(hsb:Small b)(hla:a.length<=8000000000000)(hlb:b.length<=8000000000000)(m n:Nat)(hm:val a=m)(hn:val b=n)(h0:n≠0):ar Tryz.prog 113 [V.one (ae a),V.one (ae b)] (R.aW [V.one (ae (ah (m/n))),V.one (ae (ah (m%n))),V.one (ab.val (.int .i64 0))]):=by
 subst hm;subst hn;exact OU a b hsa hsb hla hlb h0
theorem Oz(la lb:List Nat)(hsa:Small la)(hsb:Small lb)(hla0:la.length<=8000000000000)(hlb0:lb.length<=8000000000000):ar Tryz.prog 112 [V.one (ae la),V.one (ae lb)] (R.one (V.one (ae (ah (Nat.gcd (val la) (val lb)))))):=by
 refine aF Tryz.func112 Tryz.ntmps112 rfl (fun w0 A0=>?_);refine zc 6 rfl ?_;have ha0:=fH hsa;have hb0:=fH hsb;obtain⟨g,hg⟩:∃g,Nat.gcd (val la) (val lb)=g:=⟨_,rfl⟩;rw[hg];refine zc 2 rfl (aj iX rfl (jr la hsa (by omega)) (zl 1 rfl (aj iX rfl (jr lb hsb (by omega)) (zl 6 rfl ?_))));refine bH (fun m Γ H=>∃(x:Nat) (y:Nat),y=m/\Γ=[(0,some (D.v (V.one (ae (ah x))))),(1,some (D.v (V.one (ae (ah y)))))]/\H=[]/\Nat.gcd x y=g/\(ah x).length<=8000000000000/\(ah y).length<=8000000000000) ⟨val la,val lb,rfl,rfl,rfl,hg,by omega,by omega⟩ rfl ?_;rintro m Γ H ⟨x,y,rfl,rfl,rfl,hxy,hx,hy⟩;refine zc 4 rfl (aa rfl (aw rfl) ?_);by_cases hl:0<(ah y).length
 .refine aa rfl (dQ rfl) (zl 7 rfl ?_);have hy0:y≠0:=mY.1 hl;have hm:=YE x (YG hy0);have hml:=mX (Yn hm);refine zc 3 rfl (aj Cf rfl (AN (ah x) (ah y) (bh _) (bh _) (by omega) (by omega) x y (aZ _) (aZ _) hy0) (zl 16 rfl ?_));exact aP ⟨y,x%y,rfl,rfl,rfl,by rw[Zx,<-hxy,Zx x y,za0 y x],hy,by omega⟩ rfl hm
 .refine aa rfl (cD rfl) (zl 9 rfl ?_);have hy0:y=0:=kS.1 (X5 (by omega));subst hy0;rw[zaR] at hxy;subst hxy;refine zc 5 rfl ?_;exact av ai rfl rfl
theorem Oy(a:List Nat)(hsa:Small a)(hla:a.length<=8000000000000)(b:List Nat)(hsb:Small b)(hlb:b.length<=8000000000000)(m:Nat)(hm:val a=m)(n:Nat)(hn:val b=n):ar Tryz.prog 112 [V.one (ae a),V.one (ae b)] (R.one (V.one (ae (ah (Nat.gcd m n))))):=by
 subst hm;subst hn;exact Oz a b hsa hsb hla hlb
theorem tp(neg:Bool)(l:List Nat)(hs:Small l)(hl:l.length<=10000000000000)(n:Nat)(hn:val l=n):ar Tryz.prog 158 [V.one (ab.val (.bool neg)),V.one (ae l)] (R.one (zV (eX (aH neg n)))):=by
 refine aF Tryz.func158 Tryz.ntmps158 rfl (fun w0 A0=>?_);refine zc 8 rfl (aj ve rfl (Bu l hs (XY hl (by omega)) (n) hn) (zl 7 rfl ?_));refine db rfl (fun hb9=>?_) (fun hb9=>?_)
 .refine zl 9 rfl ?_;exact av ai rfl (by rw[hb9];exact congrArg R.one (DZ _))
 .refine zl 1 rfl (aa rfl (aw rfl) (zl 7 rfl ?_));exact av ai rfl (by rw[hb9];exact congrArg R.one (DY _))
theorem q9(neg:Bool)(l:List Nat)(hs:Small l)(hl:l.length<=10000000000000)(n:Nat)(hn:val l=n):ar Tryz.prog 76 [V.one (ab.val (.bool neg)),V.one (ae l)] (R.one (zV (eX (aH neg n)))):=by
 refine aF Tryz.func76 Tryz.ntmps76 rfl (fun w0 A0=>?_);refine zc 8 rfl (aj iX rfl (FM l hs (XY hl (by omega)) (n) hn) (zl 7 rfl ?_));refine db rfl (fun hb9=>?_) (fun hb9=>?_)
 .refine zl 9 rfl ?_;exact av ai rfl (by rw[hb9];exact congrArg R.one (DZ _))
 .refine zl 1 rfl (aa rfl (aw rfl) (zl 7 rfl ?_));exact av ai rfl (by rw[hb9];exact congrArg R.one (DY _))
theorem zI(x:Zr)(z:Int)(hz:x.z=z)(hfx:x.m.length<=10000000000000):ar Tryz.prog 103 [zV x] (R.one (V.one (ab.val (.int .i64 (dK z))))):=by
 refine aF Tryz.func103 Tryz.ntmps103 rfl (fun w0 A0=>?_);haveI ix:Bn (val x.m) 10000000000000:=Bn.val x.hm hfx;refine zc 12 rfl (aj I2 rfl (Ki x.m x.hm (XY hfx (by omega)) (val x.m) rfl) ?_);by_cases h0:bl (val x.m)=0
 .refine aa rfl (bp rfl) (zl 9 rfl ?_);exact av ai rfl (by rw[<-hz,NP h0])
 .refine aa rfl (aU rfl) (zl 11 rfl ?_);refine cV rfl (fun hc8=>?_) (fun hc8=>?_)
  .refine zc 5 rfl ?_;exact av ai rfl (by rw[<-hz,NR (fun e=>h0 (by rw[e] <;> rfl)) hc8])
  .refine zc 8 rfl ?_;exact av ai rfl (by rw[<-hz,NQ (fun e=>h0 (by rw[e] <;> rfl)) hc8])
theorem Fj(x:Zr)(z:Int)(hz:x.z=z)(hfx:x.m.length<=10000000000000):ar Tryz.prog 40 [zV x] (R.one (V.one (ab.val (.int .i64 (dK z))))):=by
 refine aF Tryz.func40 Tryz.ntmps40 rfl (fun w0 A0=>?_);haveI ix:Bn (val x.m) 10000000000000:=Bn.val x.hm hfx;refine zc 12 rfl (aj sA rfl (q9 x.neg x.m x.hm (XY hfx (by omega)) (val x.m) rfl) (zl 9 rfl (aa rfl (aw rfl) ?_)));by_cases h0:(ah (Int.natAbs (aH x.neg (val x.m)))).length=0
 .refine aa rfl (bp rfl (by show(((ah (Int.natAbs (aH x.neg (val x.m)))).length:Nat):Int)=0;omega)) (zl 9 rfl ?_);exact av ai rfl (by rw[<-hz,NO (by have:=kS.1 (X5 h0);rwa [pG] at this)])
 .refine aa rfl (aU rfl (by show(((ah (Int.natAbs (aH x.neg (val x.m)))).length:Nat):Int)≠0;omega)) (zl 11 rfl ?_);refine cV rfl (fun hc13=>?_) (fun hc13=>?_)
  .refine zc 5 rfl ?_;exact av ai rfl (by rw[<-hz];have h1:x.z<0:=of_decide_eq_true hc13;unfold dK;rw[if_pos h1])
  .refine zc 8 rfl ?_;exact av ai rfl (by rw[<-hz];have h1:¬x.z<0:=of_decide_eq_false hc13;unfold dK;rw[if_neg h1,if_neg (fun e=>by have h2:(aH x.neg (val x.m))=0:=e;rw[h2] at h0;exact h0 (by rw[Int.natAbs_zero,cJ] <;> rfl))])
theorem D0(x:Zr)(z:Int)(hz:x.z=z)(hfx:x.m.length<=4000000000000)(y:Zr)(w:Int)(hw:y.z=w)(hfy:y.m.length<=4000000000000):ar Tryz.prog 156 [zV x,zV y] (R.one (zV (eX (z*w)))):=by
 refine aF Tryz.func156 Tryz.ntmps156 rfl (fun w0 A0=>?_);haveI ix:Bn (val x.m) 4000000000000:=Bn.val x.hm hfx;haveI iy:Bn (val y.m) 4000000000000:=Bn.val y.hm hfy;refine zc 8 rfl (aE 0 [(11,2)] [2] (dz 4 rfl (af rfl (oU rfl rfl rfl jH (d:=_) (rfl)) (dz 4 rfl (ax sD rfl (rJ x.m x.hm (XY hfx (by omega)) y.m y.hm (XY hfy (by omega)) (val x.m) rfl (val y.m) rfl) ?_)))));refine ax vg rfl (tp (x.neg != y.neg) (ah ((val x.m)*(val y.m))) (bh _) (Bn.use (by omega)) ((val x.m)*(val y.m)) (aZ _)) (dz 1 rfl (aB (za 1 rfl ?_)));exact av ai rfl (by subst hz;subst hw;rw[E6] <;> rfl)
theorem LF(x:Zr)(z:Int)(hz:x.z=z)(hfx:x.m.length<=4000000000000)(y:Zr)(w:Int)(hw:y.z=w)(hfy:y.m.length<=4000000000000):ar Tryz.prog 206 [zV x,zV y] (R.one (zV (eX (z+w)))):=by
 refine aF Tryz.func206 Tryz.ntmps206 rfl (fun w0 A0=>?_);haveI ix:Bn (val x.m) 4000000000000:=Bn.val x.hm hfx;haveI iy:Bn (val y.m) 4000000000000:=Bn.val y.hm hfy;refine zc 14 rfl (aa rfl (v7 rfl rfl rfl jH (d:=_) (rfl)) (zl 2 rfl ?_));refine cV rfl (fun hc11=>?_) (fun hc11=>?_)
 .refine zc 1 rfl (aE 0 [(8,2)] [2] (dz 6 rfl (ax TE rfl (VT x.m x.hm (XY hfx (by omega)) y.m y.hm (XY hfy (by omega)) (val x.m) rfl (val y.m) rfl) (ax vg rfl (tp x.neg (ah ((val x.m)+(val y.m))) (bh _) (Bn.use (by omega)) ((val x.m)+(val y.m)) (aZ _)) (dz 1 rfl (aB (za 1 rfl ?_)))))));exact av ai rfl (by subst hz;subst hw;rw[D7 (beq_iff_eq.1 hc11)] <;> rfl)
 .refine zc 4 rfl ?_;have hne:x.neg≠y.neg:=beq_eq_false_iff_ne.1 hc11;refine zc 5 rfl (aj pS rfl (vD x.m x.hm y.m y.hm (val x.m) rfl (val y.m) rfl) ?_);by_cases hlt:val x.m<val y.m
  .refine aa rfl (aX rfl (by rw[nB hlt];decide)) (zl 16 rfl (aj IP rfl (EN y.m x.m y.hm x.hm (by omega) (val y.m) (val x.m) rfl rfl (Yn hlt)) (zl 12 rfl (aj vg rfl (tp y.neg (ah (val y.m-val x.m)) (bh _) (Bn.use (by omega)) (val y.m-val x.m) (aZ _)) (zl 3 rfl ?_)))));exact av ai rfl (by subst hz;subst hw;rw[D8 hne (Yn hlt)] <;> rfl)
  .refine aa rfl (aO rfl (by unfold eH;rw[if_neg hlt];split <;> decide)) (zl 11 rfl (aj IP rfl (EN x.m y.m x.hm y.hm (by omega) (val x.m) (val y.m) rfl rfl (Za hlt)) (zl 12 rfl (aj vg rfl (tp x.neg (ah (val x.m-val y.m)) (bh _) (Bn.use (by omega)) (val x.m-val y.m) (aZ _)) (zl 3 rfl ?_)))));exact av ai rfl (by subst hz;subst hw;rw[D9 hne (Za hlt)] <;> rfl)
theorem LC(x:Zr)(z:Int)(hz:x.z=z)(hfx:x.m.length<=4000000000000)(y:Zr)(w:Int)(hw:y.z=w)(hfy:y.m.length<=4000000000000):ar Tryz.prog 101 [zV x,zV y] (R.one (V.one (ab.val (.int .i64 (jx z w))))):=by
 refine aF Tryz.func101 Tryz.ntmps101 rfl (fun w0 A0=>?_);haveI ix:Bn (val x.m) 4000000000000:=Bn.val x.hm hfx;haveI iy:Bn (val y.m) 4000000000000:=Bn.val y.hm hfy;refine zc 8 rfl (aE 0 [] [] (dz 1 rfl (ax Ci rfl (zI x (z) hz (XY hfx (by omega))) (dz 1 rfl (ax Ci rfl (zI y (w) hw (XY hfy (by omega))) (dz 2 rfl (aB (za 7 rfl ?_))))))));by_cases h1:dK z<dK w
 .refine aa rfl (aX rfl) (zl 9 rfl ?_);exact av ai rfl (by rw[UU h1])
 .refine aa rfl (aO rfl) (zl 8 rfl ?_);by_cases h2:dK w<dK z
  .refine aa rfl (dQ rfl) (zl 9 rfl ?_);exact av ai rfl (by rw[UW h2])
  .refine aa rfl (cD rfl) (zl 5 rfl ?_);subst hz;subst hw;refine zc 2 rfl ?_;by_cases h3:dK x.z<0
   .refine aa rfl (aX rfl) (zl 10 rfl (aj pS rfl (vD y.m y.hm x.m x.hm (val y.m) rfl (val x.m) rfl) (zl 3 rfl ?_)));exact av ai rfl (by rw[UY (by omega) h3])
   .refine aa rfl (aO rfl) (zl 13 rfl (aj pS rfl (vD x.m x.hm y.m y.hm (val x.m) rfl (val y.m) rfl) (zl 3 rfl ?_)));exact av ai rfl (by rw[UX (by omega) h3])
theorem N3(x:Zr)(z:Int)(hz:x.z=z)(hfx:x.m.length<=4000000000000)(y:Zr)(w:Int)(hw:y.z=w)(hfy:y.m.length<=4000000000000):ar Tryz.prog 71 [zV x,zV y] (R.one (zV (eX (z+w)))):=by
 refine aF Tryz.func71 Tryz.ntmps71 rfl (fun w0 A0=>?_);haveI ix:Bn (val x.m) 4000000000000:=Bn.val x.hm hfx;haveI iy:Bn (val y.m) 4000000000000:=Bn.val y.hm hfy;refine zc 14 rfl (aa rfl (v7 rfl rfl rfl jH (d:=_) (rfl)) (zl 2 rfl ?_));refine cV rfl (fun hc11=>?_) (fun hc11=>?_)
 .refine zc 1 rfl (aE 0 [(8,2)] [2] (dz 6 rfl (ax yk rfl (w9 x.m y.m x.hm y.hm (XY hfx (by omega)) (XY hfy (by omega)) (val x.m) (val y.m) rfl rfl) (ax sA rfl (q9 x.neg (ah ((val x.m)+(val y.m))) (bh _) (Bn.use (by omega)) ((val x.m)+(val y.m)) (aZ _)) (dz 1 rfl (aB (za 1 rfl ?_)))))));exact av ai rfl (by subst hz;subst hw;rw[D7 (beq_iff_eq.1 hc11)] <;> rfl)
 .refine zc 3 rfl ?_;by_cases hlt:val x.m<val y.m
  .have hne:x.neg≠y.neg:=beq_eq_false_iff_ne.1 hc11;refine zc 5 rfl (aj sF rfl (Od x.m y.m x.hm y.hm (val x.m) (val y.m) rfl rfl hlt) (zl 11 rfl (aa rfl (aU rfl (by decide)) (zl 11 rfl (aj sF rfl (tP y.m x.m y.hm x.hm (by omega) (val y.m) (val x.m) rfl rfl (Yn hlt)) (zl 11 rfl (aj sA rfl (q9 y.neg (ah (val y.m-val x.m)) (bh _) (Bn.use (by omega)) (val y.m-val x.m) (aZ _)) ?_)))))));refine zl 3 rfl ?_;exact av ai rfl (by subst hz;subst hw;rw[D8 hne (Yn hlt)] <;> rfl)
  .have hne:x.neg≠y.neg:=beq_eq_false_iff_ne.1 hc11;refine zc 5 rfl (aj sF rfl (tP x.m y.m x.hm y.hm (by omega) (val x.m) (val y.m) rfl rfl (Za hlt)) (zl 11 rfl (aa rfl (bp rfl rfl) (zl 8 rfl (aj sA rfl (q9 x.neg (ah (val x.m-val y.m)) (bh _) (Bn.use (by omega)) (val x.m-val y.m) (aZ _)) (zl 3 rfl ?_))))));exact av ai rfl (by subst hz;subst hw;rw[D9 hne (Za hlt)] <;> rfl)
theorem Au(z:Int)(h1:-9223372036854775808<=z)(h2:z<=9223372036854775807):ar Tryz.prog 68 [V.one (ab.val (.int .i64 z))] (R.one (zV (eX z))):=by
 refine aF Tryz.func68 Tryz.ntmps68 rfl (fun w0 A0=>?_);refine zc 9 rfl ?_;by_cases hz0:z<0
 .refine aa rfl (aX rfl) (zl 6 rfl (aa rfl (cZ (18446744073709551616-z.natAbs) rfl) (aa rfl (Lh rfl rfl (r:=((z.natAbs:Nat):Int)) (cF (by omega))) (aj yl rfl (w5 (z.natAbs) (by omega)) (aj sA rfl (q9 true (ah (z.natAbs)) (bh _) (Bn.of_lt (by omega) (by omega)) (z.natAbs) (aZ _)) (zl 3 rfl ?_))))));exact av ai rfl (by rw[show aH true z.natAbs=z from by rw[lH];omega] <;> rfl)
 .refine aa rfl (aO rfl) (zl 8 rfl (aa rfl (cZ z.natAbs rfl) (aj yl rfl (w5 (z.natAbs) (by omega)) (aj sA rfl (q9 false (ah (z.natAbs)) (bh _) (Bn.of_lt (by omega) (by omega)) (z.natAbs) (aZ _)) (zl 3 rfl ?_)))));exact av ai rfl (by rw[show aH false z.natAbs=z from by rw[mC];omega] <;> rfl)
theorem F3  : ar Tryz.prog 205 [] (R.one (V.one (ae [1]))):=by
 refine aF Tryz.func205 Tryz.ntmps205 rfl (fun w0 A0=>?_);refine zc 7 rfl (aK rfl (b8 rfl bP ba jk rfl (by decide) (by decide) rfl (by decide) rfl) (zl 3 rfl ?_));exact av ai rfl rfl
theorem rz(l:List Nat):ar Tryz.prog 202 [V.one (ae l)] (R.one (V.one (ab.val (.bool (decide (l=[1])))))):=by
 refine aF Tryz.func202 Tryz.ntmps202 rfl (fun w0 A0=>?_);refine zc 8 rfl (aa rfl (aw rfl) ?_);by_cases h1:l.length=1
 .refine aa rfl (bp rfl) (zl 2 rfl ?_);obtain⟨d,rfl⟩:∃d,l=[d]:=by
   match l,h1 with
   |[d],_=>exact⟨d,rfl⟩
  refine aa rfl (b5 rfl rfl (by omega) (by simp)) (aa rfl (bB rfl) ?_);by_cases h2:d=1
  .refine aa rfl (bp rfl) (zl 4 rfl ?_);exact av ai rfl (by rw[decide_eq_true (by rw[h2])])
  .refine aa rfl (aU rfl) (zl 4 rfl ?_);exact av ai rfl (by rw[decide_eq_false (fun e=>h2 (by simpa using e))])
 .refine aa rfl (aU rfl) (zl 9 rfl ?_);exact av ai rfl (by rw[decide_eq_false (fun e=>h1 (by rw[e] <;> rfl))])
theorem mR(x:Qr)(hfx:Fit 9000000000000 x):ar Tryz.prog 141 [qV x] (R.one (V.one (ae (dl x.d)))):=by
 refine aF Tryz.func141 Tryz.ntmps141 rfl (fun w0 A0=>?_);refine zc 11 rfl (aj I2 rfl (Ki x.d x.hd (hfx.mono (by omega)).d (val x.d) rfl) ?_);by_cases h0:bl (val x.d)=0
 .refine aa rfl (bp rfl) (zl 5 rfl (aj IZ rfl (F3) (zl 3 rfl ?_)));exact av ai rfl (by rw[UI h0])
 .refine aa rfl (aU rfl) (zl 12 rfl ?_);exact av ai rfl (by rw[UJ h0])
theorem ua(b:Bool)(n d:List Nat)(hsn:Small n)(hsd:Small d)(hln:n.length<=9000000000000)(hld:d.length<=9000000000000)(vn vd:Nat)(hvn:val n=vn)(hvd:val d=vd)(h0:vd≠0):ar Tryz.prog 140 [V.one (ab.val (.bool b)),V.one (ae n),V.one (ae d)] (R.one (qV (an (rq b vn vd)))):=by
 refine aF Tryz.func140 Tryz.ntmps140 rfl (fun w0 A0=>?_);haveI i1:Bn vn 9000000000000:=by subst hvn;exact Bn.val hsn hln
 haveI i2:Bn vd 9000000000000:=by subst hvd;exact Bn.val hsd hld
 have hgp:Nat.gcd vn vd≠0:=YM (ZR _ (YG h0));haveI i3:Bn (Nat.gcd vn vd) 9000000000000:=Bn.mono (zaM (YG h0) (Nat.gcd_dvd_right _ _)) i2;refine zc 8 rfl (aj ve rfl (Bu n hsn (XY hln (by omega)) (vn) hvn) (zl 7 rfl (aa rfl (aw rfl) ?_)));by_cases hn0:vn=0
 .refine aa rfl (bp rfl (by rw[hn0,cJ];rfl)) (zl 9 rfl ?_);exact av ai rfl (by rw[hn0];exact congrArg R.one (O0 b vd))
 .refine aa rfl (aU rfl (by have:=mY.2 hn0;omega)) (zl 8 rfl (aj ve rfl (Bu d hsd (XY hld (by omega)) (vd) hvd) (zl 7 rfl (aj sE rfl (rz (ah (vd))) (zl 2 rfl ?_)))));refine cV rfl (fun hc17=>?_) (fun hc17=>?_)
  .refine zc 8 rfl ?_;exact av ai rfl (by rw[xa b hn0 h0];have e1:vd=1:=pL.1 (of_decide_eq_true hc17);subst e1;simp only[Nat.gcd_one_right,zal,if_true,cJ] <;> rfl)
  .refine zc 4 rfl ?_;have hd1:vd≠1:=fun e=>of_decide_eq_false hc17 (pL.2 e);refine zc 3 rfl (aj TR rfl (SZ (ah (vn)) (bh _) (Bn.use (by omega)) (ah (vd)) (bh _) (Bn.use (by omega)) (vn) (aZ _) (vd) (aZ _)) (zl 4 rfl ?_));by_cases hg:Nat.gcd vn vd=1
   .refine zc 2 rfl (aj sE rfl (rz (ah (Nat.gcd (vn) (vd)))) (bT true rfl (decide_eq_true (pL.2 hg)) (zl 10 rfl (aj sE rfl (rz (ah (vd))) (bT false rfl (decide_eq_false (fun e=>hd1 (pL.1 e))) (zl 14 rfl ?_))))));exact av ai rfl (by rw[xa b hn0 h0];simp only[hg,zal,if_neg hd1] <;> rfl)
   .refine zc 2 rfl (aj sE rfl (rz (ah (Nat.gcd (vn) (vd)))) (bT false rfl (decide_eq_false (fun e=>hg (pL.1 e))) (zl 8 rfl (aj yh rfl (JD (ah (vn)) (ah (Nat.gcd vn vd)) (bh _) (bh _) (Bn.use (by omega)) (Bn.use (by omega)) (vn) (Nat.gcd vn vd) (aZ _) (aZ _) hgp) (zl 10 rfl ?_)))));refine aj yh rfl (JD (ah (vd)) (ah (Nat.gcd vn vd)) (bh _) (bh _) (Bn.use (by omega)) (Bn.use (by omega)) (vd) (Nat.gcd vn vd) (aZ _) (aZ _) hgp) (zl 9 rfl ?_);by_cases hq:vd/Nat.gcd vn vd=1
    .refine zc 2 rfl (aj sE rfl (rz (ah (vd/(Nat.gcd vn vd)))) (bT true rfl (decide_eq_true (pL.2 hq)) (zl 16 rfl ?_)));exact av ai rfl (by rw[xa b hn0 h0];rw[if_pos hq,cJ] <;> rfl)
    .refine zc 2 rfl (aj sE rfl (rz (ah (vd/(Nat.gcd vn vd)))) (bT false rfl (decide_eq_false (fun e=>hq (pL.1 e))) (zl 14 rfl ?_)));exact av ai rfl (by rw[xa b hn0 h0];rw[if_neg hq] <;> rfl)
theorem Oj(d:List Nat)(hs:Small d)(hl:d.length<=9000000000000):ar Tryz.prog 70 [V.one (ae d)] (R.one (V.one (ae (ah (dn (val d)))))):=by
 refine aF Tryz.func70 Tryz.ntmps70 rfl (fun w0 A0=>?_);haveI i1:Bn (val d) 9000000000000:=Bn.val hs hl;refine zc 8 rfl (aj iX rfl (FM d hs (XY hl (by omega)) (val d) rfl) (zl 7 rfl (aa rfl (aw rfl) ?_)));by_cases h0:val d=0
 .refine aa rfl (bp rfl (by rw[h0,cJ];rfl)) (zl 5 rfl (aK rfl (b8 rfl bP ba jk rfl (by decide) (by decide) rfl (by decide) rfl) (zl 3 rfl ?_)));exact av ai rfl (by rw[h0];show R.one (V.one (ae [1]))=R.one (V.one (ae (ah 1)));rw[xL])
 .refine aa rfl (aU rfl (by have:=mY.2 h0;omega)) (zl 11 rfl ?_);exact av ai rfl (by rw[dZ h0])
theorem mN(d:List Nat)(hs:Small d)(hl:d.length<=9000000000000)(m:Nat)(hm:val d=m):ar Tryz.prog 70 [V.one (ae d)] (R.one (V.one (ae (ah (dn m))))):=by
 subst hm;exact Oj d hs hl
theorem tQ(b:Bool)(n d:List Nat)(hsn:Small n)(hsd:Small d)(hln:n.length<=8000000000000)(hld:d.length<=8000000000000)(vn vd:Nat)(hvn:val n=vn)(hvd:val d=vd)(h0:vd≠0):ar Tryz.prog 72 [V.one (ab.val (.bool b)),V.one (ae n),V.one (ae d)] (R.one (qV (an (rq b vn vd)))):=by
 refine aF Tryz.func72 Tryz.ntmps72 rfl (fun w0 A0=>?_);haveI i1:Bn vn 8000000000000:=by subst hvn;exact Bn.val hsn hln
 haveI i2:Bn vd 8000000000000:=by subst hvd;exact Bn.val hsd hld
 have hgp:Nat.gcd vn vd≠0:=YM (ZR _ (YG h0));haveI i3:Bn (Nat.gcd vn vd) 8000000000000:=Bn.mono (zaM (YG h0) (Nat.gcd_dvd_right _ _)) i2;refine zc 9 rfl (aj T2 rfl (Oy n hsn (XY hln (by omega)) d hsd (XY hld (by omega)) (vn) hvn (vd) hvd) (zl 4 rfl ?_));obtain⟨N1,hN1⟩:∃N1,vn/Nat.gcd vn vd=N1:=⟨_,rfl⟩;obtain⟨D1,hD1⟩:∃D1,vd/Nat.gcd vn vd=D1:=⟨_,rfl⟩;have hND:N1=0↔vn=0:=by
  constructor
  .intro e;exact Classical.byContradiction (fun h=>UK h (zar vn vd) (by rw[hN1,e]))
  .intro e;rw[<-hN1,e,zaT]
 refine zc 3 rfl (aj Cf rfl (AN n (ah (Nat.gcd vn vd)) hsn (bh _) (XY hln (by omega)) (Bn.use (by omega)) (vn) (Nat.gcd vn vd) hvn (aZ _) hgp) (zl 13 rfl (aj Cf rfl (AN d (ah (Nat.gcd vn vd)) hsd (bh _) (XY hld (by omega)) (Bn.use (by omega)) (vd) (Nat.gcd vn vd) hvd (aZ _) hgp) (zl 13 rfl ?_))));refine aa rfl (aw rfl) ?_;by_cases h1:(ah (vd/Nat.gcd vn vd)).length=1
 .refine aa rfl (bp rfl) (zl 2 rfl ?_);obtain⟨p,hp⟩:∃p,ah (vd/Nat.gcd vn vd)=[p]:=by
   match ah (vd/Nat.gcd vn vd),h1 with
   |[p],_=>exact⟨p,rfl⟩
  have hp1:=aZ (vd/Nat.gcd vn vd);rw[hp] at hp1 ⊢;have hp2:vd/Nat.gcd vn vd=p:=by rw[<-hp1];simp[val]
  refine aa rfl (b5 rfl rfl (by omega) (by simp)) (aa rfl (bB rfl) ?_);by_cases h2:p=1
  .refine aa rfl (bp rfl) (zl 12 rfl ?_);refine db rfl (fun hb41=>?_) (fun hb41=>?_)
   .refine zl 10 rfl ?_;exact av ai rfl (by rw[ry b h0,hb41,if_pos (by rw[hp2,h2]),cJ] <;> rfl)
   .refine zl 1 rfl (aa rfl (aw rfl) (zl 8 rfl ?_));exact av ai rfl (by rw[ry b h0,hb41,if_pos (by rw[hp2,h2]),cJ,zao,decide_eq_decide.2 (show vn≠0↔(0:Int)<((ah (vn/Nat.gcd vn vd)).length:Nat) by have:=mY (n:=vn/Nat.gcd vn vd);rw[hN1] at this ⊢;omega)] <;> rfl)
  .refine aa rfl (aU rfl) (zl 10 rfl ?_);refine db rfl (fun hb41=>?_) (fun hb41=>?_)
   .refine zl 10 rfl ?_;exact av ai rfl (by rw[ry b h0,hb41,if_neg (by rw[hp2];exact h2),hp] <;> rfl)
   .refine zl 1 rfl (aa rfl (aw rfl) (zl 8 rfl ?_));exact av ai rfl (by rw[ry b h0,hb41,if_neg (by rw[hp2];exact h2),hp,zao,decide_eq_decide.2 (show vn≠0↔(0:Int)<((ah (vn/Nat.gcd vn vd)).length:Nat) by have:=mY (n:=vn/Nat.gcd vn vd);rw[hN1] at this ⊢;omega)] <;> rfl)
 .refine aa rfl (aU rfl) (zl 12 rfl ?_);have h2:¬vd/Nat.gcd vn vd=1:=fun e=>h1 (by rw[e,xL];rfl);refine zc 3 rfl ?_;refine db rfl (fun hb41=>?_) (fun hb41=>?_)
  .refine zl 10 rfl ?_;exact av ai rfl (by rw[ry b h0,hb41,if_neg h2] <;> rfl)
  .refine zl 1 rfl (aa rfl (aw rfl) (zl 8 rfl ?_));exact av ai rfl (by rw[ry b h0,hb41,if_neg h2,zao,decide_eq_decide.2 (show vn≠0↔(0:Int)<((ah (vn/Nat.gcd vn vd)).length:Nat) by have:=mY (n:=vn/Nat.gcd vn vd);rw[hN1] at this ⊢;omega)] <;> rfl)
theorem pB(x:Qr)(r:Rat)(hr:x.q=r)(hfx:Fit 3000000000000 x):ar Tryz.prog 86 [qV x] (R.one (qV (an (r)))):=by
 refine aF Tryz.func86 Tryz.ntmps86 rfl (fun w0 A0=>?_);haveI ixn:Bn (val x.n) 3000000000000:=Bn.val x.hn hfx.n;haveI ixd:Bn (val x.d) 3000000000000:=Bn.val x.hd hfx.d;refine zc 7 rfl (aE 0 [(7,1)] [1] (dz 5 rfl (ax nq rfl (mR x (hfx.mono (by omega))) (ax vi rfl (ua x.neg x.n (dl x.d) x.hn (mz x.hd) (hfx.mono (by omega)).n (mZ hfx.d (by omega)) (val x.n) (dn (val x.d)) rfl (mq _) (fp _)) (dz 1 rfl (aB (za 1 rfl ?_)))))));exact av ai rfl (by subst hr;rw[tT] <;> rfl)
theorem kd(x:Qr)(r:Rat)(hr:x.q=r)(hfx:Fit 3000000000000 x):ar Tryz.prog 38 [qV x] (R.one (qV (an (r)))):=by
 refine aF Tryz.func38 Tryz.ntmps38 rfl (fun w0 A0=>?_);haveI ixn:Bn (val x.n) 3000000000000:=Bn.val x.hn hfx.n;haveI ixd:Bn (val x.d) 3000000000000:=Bn.val x.hd hfx.d;refine zc 7 rfl (aE 0 [(8,1)] [1] (dz 6 rfl (ax nh rfl ((mN x.d x.hd (hfx.mono (by omega)).d (val x.d) rfl)) (ax u7 rfl (tQ x.neg x.n (ah (dn (val x.d))) x.hn (bh _) (hfx.mono (by omega)).n (Bn.use (by omega)) (val x.n) (dn (val x.d)) rfl (aZ _) (fp _)) (dz 1 rfl (aB (za 1 rfl ?_)))))));exact av ai rfl (by subst hr;rw[tT] <;> rfl)
theorem AX(x:Qr)(r:Rat)(hr:x.q=r)(hfx:Fit 3000000000000 x):ar Tryz.prog 104 [qV x] (R.one (zV (eX (aH x.neg (val x.n))))):=by
 refine aF Tryz.func104 Tryz.ntmps104 rfl (fun w0 A0=>?_);haveI ixn:Bn (val x.n) 3000000000000:=Bn.val x.hn hfx.n;haveI ixd:Bn (val x.d) 3000000000000:=Bn.val x.hd hfx.d;refine zc 12 rfl (aj vg rfl (tp x.neg x.n x.hn (hfx.mono (by omega)).n (val x.n) rfl) (zl 3 rfl ?_));exact av ai rfl rfl
theorem iU(x:Qr)(r:Rat)(hr:x.q=r)(hfx:Fit 3000000000000 x):ar Tryz.prog 63 [qV x] (R.one (V.one (ab.val (.int .i64 (sg r))))):=by
 refine aF Tryz.func63 Tryz.ntmps63 rfl (fun w0 A0=>?_);haveI ixn:Bn (val x.n) 3000000000000:=Bn.val x.hn hfx.n;haveI ixd:Bn (val x.d) 3000000000000:=Bn.val x.hd hfx.d;refine zc 9 rfl (aj Ch rfl (AX x (r) hr (hfx.mono (by omega))) (aj Ci rfl (zI (eX (aH x.neg (val x.n))) (aH x.neg (val x.n)) (mj _) (Bz.use (by omega))) (zl 3 rfl ?_)));exact av ai rfl (by subst hr;unfold Qr.q;rw[E7])
theorem gm(x:Qr)(r:Rat)(hr:x.q=r)(hfx:Fit 3000000000000 x):ar Tryz.prog 12 [qV x] (R.one (V.one (ab.val (.int .i64 (sg r))))):=by
 refine aF Tryz.func12 Tryz.ntmps12 rfl (fun w0 A0=>?_);haveI ixn:Bn (val x.n) 3000000000000:=Bn.val x.hn hfx.n;haveI ixd:Bn (val x.d) 3000000000000:=Bn.val x.hd hfx.d;refine zc 13 rfl (aj IJ rfl (Fj (Zr.mk x.neg x.n x.hn) (aH x.neg (val x.n)) (tj rfl) (hfx.mono (by omega)).n) (zl 3 rfl ?_));exact av ai rfl (by subst hr;unfold Qr.q;rw[E7])
theorem F4(x:Qr)(r:Rat)(hr:x.q=r)(hfx:Fit 1000000000000 x)(y:Qr)(s:Rat)(hs:y.q=s)(hfy:Fit 1000000000000 y):ar Tryz.prog 100 [qV x,qV y] (R.aW [zV (eX (aH x.neg (val x.n)*aH false (dn (val y.d)))),zV (eX (aH y.neg (val y.n)*aH false (dn (val x.d))))]):=by
 refine aF Tryz.func100 Tryz.ntmps100 rfl (fun w0 A0=>?_);haveI ixn:Bn (val x.n) 1000000000000:=Bn.val x.hn hfx.n;haveI ixd:Bn (val x.d) 1000000000000:=Bn.val x.hd hfx.d;haveI iyn:Bn (val y.n) 1000000000000:=Bn.val y.hn hfy.n;haveI iyd:Bn (val y.d) 1000000000000:=Bn.val y.hd hfy.d;haveI ir:Br r 1000000000000:=hr ▸ Br.q hfx;haveI is:Br s 1000000000000:=hs ▸ Br.q hfy;refine zc 9 rfl (aE 0 [] [] (dz 1 rfl (ax nq rfl (mR x (hfx.mono (by omega))) (dz 1 rfl (ax nq rfl (mR y (hfy.mono (by omega))) (dz 2 rfl (aB (za 2 rfl (aE 0 [(10,2),(11,3)] [2,3] ?_)))))))));refine dz 1 rfl (ax Ch rfl (AX x (r) hr (hfx.mono (by omega))) (dz 2 rfl (ax I3 rfl (D0 (eX (aH x.neg (val x.n))) (aH x.neg (val x.n)) (mj _) (Bz.use (by omega)) (Zr.mk false (dl y.d) (mz y.hd)) (aH false (dn (val y.d))) (tj (mq _)) (mZ hfy.d (by omega))) (dz 1 rfl (ax Ch rfl (AX y (s) hs (hfy.mono (by omega))) (dz 2 rfl ?_))))));refine ax I3 rfl (D0 (eX (aH y.neg (val y.n))) (aH y.neg (val y.n)) (mj _) (Bz.use (by omega)) (Zr.mk false (dl x.d) (mz x.hd)) (aH false (dn (val x.d))) (tj (mq _)) (mZ hfx.d (by omega))) (dz 2 rfl (aB (za 1 rfl ?_)));exact aI ai rfl rfl
theorem ud(x:Qr)(r:Rat)(hr:x.q=r)(hfx:Fit 1000000000000 x)(y:Qr)(s:Rat)(hs:y.q=s)(hfy:Fit 1000000000000 y):ar Tryz.prog 60 [qV x,qV y] (R.one (V.one (ab.val (.int .i64 (ei r s))))):=by
 refine aF Tryz.func60 Tryz.ntmps60 rfl (fun w0 A0=>?_);haveI ixn:Bn (val x.n) 1000000000000:=Bn.val x.hn hfx.n;haveI ixd:Bn (val x.d) 1000000000000:=Bn.val x.hd hfx.d;haveI iyn:Bn (val y.n) 1000000000000:=Bn.val y.hn hfy.n;haveI iyd:Bn (val y.d) 1000000000000:=Bn.val y.hd hfy.d;haveI ir:Br r 1000000000000:=hr ▸ Br.q hfx;haveI is:Br s 1000000000000:=hs ▸ Br.q hfy;refine zc 9 rfl (aE 0 [] [] (dz 1 rfl (ax jw rfl (iU x (r) hr (hfx.mono (by omega))) (dz 1 rfl (ax jw rfl (iU y (s) hs (hfy.mono (by omega))) (dz 2 rfl (aB (za 5 rfl ?_))))))));by_cases h1:sg r≠sg s
 .refine aa rfl (fG rfl) (zl 8 rfl ?_);by_cases h2:sg r<sg s
  .refine aa rfl (aX rfl) (zl 8 rfl ?_);exact av ai rfl (by rw[U1 h2])
  .refine aa rfl (aO rfl) (zl 10 rfl ?_);exact av ai rfl (by rw[U2 h1 h2])
 .refine aa rfl (eg rfl) (zl 9 rfl (aj I7 rfl (F4 x (r) hr (hfx.mono (by omega)) y (s) hs (hfy.mono (by omega))) (zl 13 rfl ?_)));refine aj T5 rfl (LC (eX (aH x.neg (val x.n)*aH false (dn (val y.d)))) (aH x.neg (val x.n)*aH false (dn (val y.d))) (mj _) (Bz.use (by omega)) (eX (aH y.neg (val y.n)*aH false (dn (val x.d)))) (aH y.neg (val y.n)*aH false (dn (val x.d))) (mj _) (Bz.use (by omega))) (zl 3 rfl ?_);exact av ai rfl (by subst hr;subst hs;rw[U4] <;> rfl)
theorem O4(x:Qr)(r:Rat)(hr:x.q=r)(hfx:Fit 3000000000000 x):ar Tryz.prog 303 [qV x] (R.one (qV (an (-r)))):=by
 refine aF Tryz.func303 Tryz.ntmps303 rfl (fun w0 A0=>?_);haveI ixn:Bn (val x.n) 3000000000000:=Bn.val x.hn hfx.n;haveI ixd:Bn (val x.d) 3000000000000:=Bn.val x.hd hfx.d;refine zc 18 rfl (aj sy rfl (pB (Qr.mk (!x.neg) x.n x.d x.hn x.hd) (-(r)) (AY hr) (Fit.neg (hfx.mono (by omega)))) (zl 3 rfl ?_));exact av ai rfl rfl
theorem Ay(x:Qr)(r:Rat)(hr:x.q=r)(hfx:Fit 3000000000000 x):ar Tryz.prog 58 [qV x] (R.one (qV (an (-r)))):=by
 refine aF Tryz.func58 Tryz.ntmps58 rfl (fun w0 A0=>?_);haveI ixn:Bn (val x.n) 3000000000000:=Bn.val x.hn hfx.n;haveI ixd:Bn (val x.d) 3000000000000:=Bn.val x.hd hfx.d;refine zc 18 rfl (aj ko rfl (kd (Qr.mk (!x.neg) x.n x.d x.hn x.hd) (-(r)) (AY hr) (Fit.neg (hfx.mono (by omega)))) (zl 3 rfl ?_));exact av ai rfl rfl
theorem xc(x:Qr)(r:Rat)(hr:x.q=r)(hfx:Fit 1000000000000 x)(y:Qr)(s:Rat)(hs:y.q=s)(hfy:Fit 1000000000000 y):ar Tryz.prog 142 [qV x,qV y] (R.one (qV (an (r+s)))):=by
 refine aF Tryz.func142 Tryz.ntmps142 rfl (fun w0 A0=>?_);haveI ixn:Bn (val x.n) 1000000000000:=Bn.val x.hn hfx.n;haveI ixd:Bn (val x.d) 1000000000000:=Bn.val x.hd hfx.d;haveI iyn:Bn (val y.n) 1000000000000:=Bn.val y.hn hfy.n;haveI iyd:Bn (val y.d) 1000000000000:=Bn.val y.hd hfy.d;haveI ir:Br r 1000000000000:=hr ▸ Br.q hfx;haveI is:Br s 1000000000000:=hs ▸ Br.q hfy;refine zc 11 rfl (aj I7 rfl (F4 x (r) hr (hfx.mono (by omega)) y (s) hs (hfy.mono (by omega))) (zl 13 rfl ?_));refine aj TQ rfl (LF (eX (aH x.neg (val x.n)*aH false (dn (val y.d)))) (aH x.neg (val x.n)*aH false (dn (val y.d))) (mj _) (Bz.use (by omega)) (eX (aH y.neg (val y.n)*aH false (dn (val x.d)))) (aH y.neg (val y.n)*aH false (dn (val x.d))) (mj _) (Bz.use (by omega))) (zl 5 rfl (aE 0 [(10,2)] [2] (dz 5 rfl (ax nq rfl (mR x (hfx.mono (by omega))) ?_))));refine dz 1 rfl (ax nq rfl (mR y (hfy.mono (by omega))) (ax sD rfl (rJ (dl x.d) (mz x.hd) (mZ hfx.d (by omega)) (dl y.d) (mz y.hd) (mZ hfy.d (by omega)) (dn (val x.d)) (mq _) (dn (val y.d)) (mq _)) ?_));refine ax vi rfl (ua (decide ((aH x.neg (val x.n)*aH false (dn (val y.d)))+(aH y.neg (val y.n)*aH false (dn (val x.d)))<0)) (ah (Int.natAbs ((aH x.neg (val x.n)*aH false (dn (val y.d)))+(aH y.neg (val y.n)*aH false (dn (val x.d)))))) (ah ((dn (val x.d))*(dn (val y.d)))) (bh _) (bh _) (Bz.use (z:=(aH x.neg (val x.n)*aH false (dn (val y.d)))+(aH y.neg (val y.n)*aH false (dn (val x.d)))) (by omega)) (Bn.use (by omega)) (Int.natAbs ((aH x.neg (val x.n)*aH false (dn (val y.d)))+(aH y.neg (val y.n)*aH false (dn (val x.d))))) ((dn (val x.d))*(dn (val y.d))) (aZ _) (aZ _) (YP (fp _) (fp _))) ?_;refine dz 1 rfl (aB (za 1 rfl ?_));exact av ai rfl (by subst hr;subst hs;rw[O9 _ _ _ _ _ _ _ rfl] <;> rfl)
theorem kC(x:Qr)(r:Rat)(hr:x.q=r)(hfx:Fit 1000000000000 x)(y:Qr)(s:Rat)(hs:y.q=s)(hfy:Fit 1000000000000 y):ar Tryz.prog 33 [qV x,qV y] (R.one (qV (an (r+s)))):=by
 refine aF Tryz.func33 Tryz.ntmps33 rfl (fun w0 A0=>?_);haveI ixn:Bn (val x.n) 1000000000000:=Bn.val x.hn hfx.n;haveI ixd:Bn (val x.d) 1000000000000:=Bn.val x.hd hfx.d;haveI iyn:Bn (val y.n) 1000000000000:=Bn.val y.hn hfy.n;haveI iyd:Bn (val y.d) 1000000000000:=Bn.val y.hd hfy.d;haveI ir:Br r 1000000000000:=hr ▸ Br.q hfx;haveI is:Br s 1000000000000:=hs ▸ Br.q hfy;refine zc 8 rfl (aE 1 [(9,3),(10,3)] [3] (dz 6 rfl (ax nh rfl ((mN y.d y.hd (hfy.mono (by omega)).d (val y.d) rfl)) (ax pU rfl (py x.n (ah (dn (val y.d))) x.hn (bh _) (hfx.mono (by omega)).n (Bn.use (by omega)) (val x.n) (dn (val y.d)) rfl (aZ _)) (dz 3 rfl (aB (za 2 rfl (aE 1 [(9,4),(10,4)] [4] (dz 6 rfl ?_)))))))));refine ax nh rfl ((mN x.d x.hd (hfx.mono (by omega)).d (val x.d) rfl)) (ax pU rfl (py y.n (ah (dn (val x.d))) y.hn (bh _) (hfy.mono (by omega)).n (Bn.use (by omega)) (val y.n) (dn (val x.d)) rfl (aZ _)) (dz 3 rfl (aB (za 5 rfl ?_))));refine aj Tq rfl (N3 (Zr.mk x.neg (ah ((val x.n)*(dn (val y.d)))) (bh _)) (aH x.neg ((val x.n)*(dn (val y.d)))) (tj (aZ _)) (Bn.use (by omega)) (Zr.mk y.neg (ah ((val y.n)*(dn (val x.d)))) (bh _)) (aH y.neg ((val y.n)*(dn (val x.d)))) (tj (aZ _)) (Bn.use (by omega))) (zl 5 rfl (aE 0 [(12,2)] [2] (dz 6 rfl ?_)));refine ax nh rfl ((mN x.d x.hd (hfx.mono (by omega)).d (val x.d) rfl)) (dz 2 rfl (ax nh rfl ((mN y.d y.hd (hfy.mono (by omega)).d (val y.d) rfl)) (ax pU rfl (py (ah (dn (val x.d))) (ah (dn (val y.d))) (bh _) (bh _) (Bn.use (by omega)) (Bn.use (by omega)) (dn (val x.d)) (dn (val y.d)) (aZ _) (aZ _)) ?_)));refine ax u7 rfl (tQ (decide ((aH x.neg ((val x.n)*(dn (val y.d))))+(aH y.neg ((val y.n)*(dn (val x.d))))<0)) (ah (Int.natAbs ((aH x.neg ((val x.n)*(dn (val y.d))))+(aH y.neg ((val y.n)*(dn (val x.d))))))) (ah ((dn (val x.d))*(dn (val y.d)))) (bh _) (bh _) (Bz.use (z:=(aH x.neg ((val x.n)*(dn (val y.d))))+(aH y.neg ((val y.n)*(dn (val x.d))))) (by omega)) (Bn.use (by omega)) (Int.natAbs ((aH x.neg ((val x.n)*(dn (val y.d))))+(aH y.neg ((val y.n)*(dn (val x.d)))))) ((dn (val x.d))*(dn (val y.d))) (aZ _) (aZ _) (YP (fp _) (fp _))) ?_;refine dz 1 rfl (aB (za 1 rfl ?_));exact av ai rfl (by subst hr;subst hs;rw[O8 x.neg y.neg (val x.n) (val y.n) (val x.d) (val y.d) _ rfl] <;> rfl)
theorem uc(x:Qr)(r:Rat)(hr:x.q=r)(hfx:Fit 1000000000000 x)(y:Qr)(s:Rat)(hs:y.q=s)(hfy:Fit 1000000000000 y):ar Tryz.prog 143 [qV x,qV y] (R.one (qV (an (r*s)))):=by
 refine aF Tryz.func143 Tryz.ntmps143 rfl (fun w0 A0=>?_);haveI ixn:Bn (val x.n) 1000000000000:=Bn.val x.hn hfx.n;haveI ixd:Bn (val x.d) 1000000000000:=Bn.val x.hd hfx.d;haveI iyn:Bn (val y.n) 1000000000000:=Bn.val y.hn hfy.n;haveI iyd:Bn (val y.d) 1000000000000:=Bn.val y.hd hfy.d;haveI ir:Br r 1000000000000:=hr ▸ Br.q hfx;haveI is:Br s 1000000000000:=hs ▸ Br.q hfy;refine zc 8 rfl (aE 0 [(16,2)] [2] (dz 4 rfl (af rfl (oU rfl rfl rfl jH (d:=_) (rfl)) (dz 4 rfl (ax sD rfl (rJ x.n x.hn (hfx.mono (by omega)).n y.n y.hn (hfy.mono (by omega)).n (val x.n) rfl (val y.n) rfl) (dz 1 rfl (ax nq rfl (mR x (hfx.mono (by omega))) (dz 1 rfl (ax nq rfl (mR y (hfy.mono (by omega))) ?_)))))))));refine ax sD rfl (rJ (dl x.d) (mz x.hd) (mZ hfx.d (by omega)) (dl y.d) (mz y.hd) (mZ hfy.d (by omega)) (dn (val x.d)) (mq _) (dn (val y.d)) (mq _)) ?_;refine ax vi rfl (ua (x.neg != y.neg) (ah ((val x.n)*(val y.n))) (ah ((dn (val x.d))*(dn (val y.d)))) (bh _) (bh _) (Bn.use (by omega)) (Bn.use (by omega)) ((val x.n)*(val y.n)) ((dn (val x.d))*(dn (val y.d))) (aZ _) (aZ _) (YP (fp _) (fp _))) (dz 1 rfl (aB (za 1 rfl ?_)));exact av ai rfl (by subst hr;subst hs;rw[px] <;> rfl)
theorem po(x:Qr)(r:Rat)(hr:x.q=r)(hfx:Fit 1000000000000 x)(y:Qr)(s:Rat)(hs:y.q=s)(hfy:Fit 1000000000000 y):ar Tryz.prog 34 [qV x,qV y] (R.one (qV (an (r*s)))):=by
 refine aF Tryz.func34 Tryz.ntmps34 rfl (fun w0 A0=>?_);haveI ixn:Bn (val x.n) 1000000000000:=Bn.val x.hn hfx.n;haveI ixd:Bn (val x.d) 1000000000000:=Bn.val x.hd hfx.d;haveI iyn:Bn (val y.n) 1000000000000:=Bn.val y.hn hfy.n;haveI iyd:Bn (val y.d) 1000000000000:=Bn.val y.hd hfy.d;haveI ir:Br r 1000000000000:=hr ▸ Br.q hfx;haveI is:Br s 1000000000000:=hs ▸ Br.q hfy;refine zc 8 rfl (aE 0 [(18,2)] [2] (dz 4 rfl (af rfl (oU rfl rfl rfl jH (d:=_) (rfl)) (dz 4 rfl (ax pU rfl (py x.n y.n x.hn y.hn (hfx.mono (by omega)).n (hfy.mono (by omega)).n (val x.n) (val y.n) rfl rfl) (dz 2 rfl (ax nh rfl ((mN x.d x.hd (hfx.mono (by omega)).d (val x.d) rfl)) (dz 2 rfl ?_))))))));refine ax nh rfl ((mN y.d y.hd (hfy.mono (by omega)).d (val y.d) rfl)) (ax pU rfl (py (ah (dn (val x.d))) (ah (dn (val y.d))) (bh _) (bh _) (Bn.use (by omega)) (Bn.use (by omega)) (dn (val x.d)) (dn (val y.d)) (aZ _) (aZ _)) ?_);refine ax u7 rfl (tQ (x.neg != y.neg) (ah ((val x.n)*(val y.n))) (ah ((dn (val x.d))*(dn (val y.d)))) (bh _) (bh _) (Bn.use (by omega)) (Bn.use (by omega)) ((val x.n)*(val y.n)) ((dn (val x.d))*(dn (val y.d))) (aZ _) (aZ _) (YP (fp _) (fp _))) (dz 1 rfl (aB (za 1 rfl ?_)));exact av ai rfl (by subst hr;subst hs;rw[px] <;> rfl)
theorem pn(x:Qr)(r:Rat)(hr:x.q=r)(hfx:Fit 1000000000000 x)(y:Qr)(s:Rat)(hs:y.q=s)(hfy:Fit 1000000000000 y):ar Tryz.prog 21 [qV x,qV y] (R.one (qV (an (r-s)))):=by
 refine aF Tryz.func21 Tryz.ntmps21 rfl (fun w0 A0=>?_);haveI ixn:Bn (val x.n) 1000000000000:=Bn.val x.hn hfx.n;haveI ixd:Bn (val x.d) 1000000000000:=Bn.val x.hd hfx.d;haveI iyn:Bn (val y.n) 1000000000000:=Bn.val y.hn hfy.n;haveI iyd:Bn (val y.d) 1000000000000:=Bn.val y.hd hfy.d;haveI ir:Br r 1000000000000:=hr ▸ Br.q hfx;haveI is:Br s 1000000000000:=hs ▸ Br.q hfy;refine zc 8 rfl (aE 0 [(4,2)] [2] (dz 2 rfl (ax B4 rfl (Ay y (s) hs (hfy.mono (by omega))) (ax kY rfl (kC x (r) hr (hfx.mono (by omega)) (an (-(s))) (-(s)) (aG _) (Br.use (by omega))) (dz 1 rfl (aB (za 1 rfl ?_)))))));exact av ai rfl (by rw[ZF] <;> rfl)
theorem pv(x:Qr)(r:Rat)(hr:x.q=r)(hfx:Fit 1000000000000 x)(y:Qr)(s:Rat)(hs:y.q=s)(hfy:Fit 1000000000000 y):ar Tryz.prog 36 [qV x,qV y] (R.one (V.one (ab.val (.int .i64 (ei r s))))):=by
 refine aF Tryz.func36 Tryz.ntmps36 rfl (fun w0 A0=>?_);haveI ixn:Bn (val x.n) 1000000000000:=Bn.val x.hn hfx.n;haveI ixd:Bn (val x.d) 1000000000000:=Bn.val x.hd hfx.d;haveI iyn:Bn (val y.n) 1000000000000:=Bn.val y.hn hfy.n;haveI iyd:Bn (val y.d) 1000000000000:=Bn.val y.hd hfy.d;haveI ir:Br r 1000000000000:=hr ▸ Br.q hfx;haveI is:Br s 1000000000000:=hs ▸ Br.q hfy;refine zc 11 rfl (aj pY rfl (pn x (r) hr (hfx.mono (by omega)) y (s) hs (hfy.mono (by omega))) (aj gy rfl (gm (an ((r)-(s))) ((r)-(s)) (aG _) (Br.use (by omega))) (zl 3 rfl ?_)));exact av ai rfl (by rw[JV])
theorem O5(x:Qr)(r:Rat)(hr:x.q=r)(hfx:Fit 1000000000000 x)(y:Qr)(s:Rat)(hs:y.q=s)(hfy:Fit 1000000000000 y):ar Tryz.prog 179 [qV x,qV y] (R.one (qV (an (mx r s)))):=by
 refine aF Tryz.func179 Tryz.ntmps179 rfl (fun w0 A0=>?_);haveI ixn:Bn (val x.n) 1000000000000:=Bn.val x.hn hfx.n;haveI ixd:Bn (val x.d) 1000000000000:=Bn.val x.hd hfx.d;haveI iyn:Bn (val y.n) 1000000000000:=Bn.val y.hn hfy.n;haveI iyd:Bn (val y.d) 1000000000000:=Bn.val y.hd hfy.d;haveI ir:Br r 1000000000000:=hr ▸ Br.q hfx;haveI is:Br s 1000000000000:=hs ▸ Br.q hfy;refine zc 12 rfl (aj yc rfl (ud x (r) hr (hfx.mono (by omega)) y (s) hs (hfy.mono (by omega))) (zl 3 rfl ?_));refine cV rfl (fun hc8=>?_) (fun hc8=>?_)
 .refine zc 3 rfl (aj sy rfl (pB x (r) hr (hfx.mono (by omega))) (zl 3 rfl ?_));exact av ai rfl (by rw[ur (of_decide_eq_true hc8)] <;> rfl)
 .refine zc 5 rfl (aj sy rfl (pB y (s) hs (hfy.mono (by omega))) (zl 3 rfl ?_));exact av ai rfl (by rw[xy (of_decide_eq_false hc8)] <;> rfl)
theorem FC(x:Qr)(r:Rat)(hr:x.q=r)(hfx:Fit 1000000000000 x)(y:Qr)(s:Rat)(hs:y.q=s)(hfy:Fit 1000000000000 y):ar Tryz.prog 56 [qV x,qV y] (R.one (qV (an (mn r s)))):=by
 refine aF Tryz.func56 Tryz.ntmps56 rfl (fun w0 A0=>?_);haveI ixn:Bn (val x.n) 1000000000000:=Bn.val x.hn hfx.n;haveI ixd:Bn (val x.d) 1000000000000:=Bn.val x.hd hfx.d;haveI iyn:Bn (val y.n) 1000000000000:=Bn.val y.hn hfy.n;haveI iyd:Bn (val y.d) 1000000000000:=Bn.val y.hd hfy.d;haveI ir:Br r 1000000000000:=hr ▸ Br.q hfx;haveI is:Br s 1000000000000:=hs ▸ Br.q hfy;refine zc 12 rfl (aj pW rfl (pv x (r) hr (hfx.mono (by omega)) y (s) hs (hfy.mono (by omega))) (zl 3 rfl ?_));refine cV rfl (fun hc8=>?_) (fun hc8=>?_)
 .refine zc 3 rfl (aj ko rfl (kd x (r) hr (hfx.mono (by omega))) (zl 3 rfl ?_));exact av ai rfl (by rw[Q7 (of_decide_eq_true hc8)] <;> rfl)
 .refine zc 5 rfl (aj ko rfl (kd y (s) hs (hfy.mono (by omega))) (zl 3 rfl ?_));exact av ai rfl (by rw[Q9 (of_decide_eq_false hc8)] <;> rfl)
theorem Ol(x:Qr)(r:Rat)(hr:x.q=r)(hfx:Fit 1000000000000 x)(y:Qr)(s:Rat)(hs:y.q=s)(hfy:Fit 1000000000000 y):ar Tryz.prog 39 [qV x,qV y] (R.one (qV (an (mx r s)))):=by
 refine aF Tryz.func39 Tryz.ntmps39 rfl (fun w0 A0=>?_);haveI ixn:Bn (val x.n) 1000000000000:=Bn.val x.hn hfx.n;haveI ixd:Bn (val x.d) 1000000000000:=Bn.val x.hd hfx.d;haveI iyn:Bn (val y.n) 1000000000000:=Bn.val y.hn hfy.n;haveI iyd:Bn (val y.d) 1000000000000:=Bn.val y.hd hfy.d;haveI ir:Br r 1000000000000:=hr ▸ Br.q hfx;haveI is:Br s 1000000000000:=hs ▸ Br.q hfy;refine zc 12 rfl (aj pW rfl (pv x (r) hr (hfx.mono (by omega)) y (s) hs (hfy.mono (by omega))) (zl 3 rfl ?_));refine cV rfl (fun hc8=>?_) (fun hc8=>?_)
 .refine zc 3 rfl (aj ko rfl (kd x (r) hr (hfx.mono (by omega))) (zl 3 rfl ?_));exact av ai rfl (by rw[ur (of_decide_eq_true hc8)] <;> rfl)
 .refine zc 5 rfl (aj ko rfl (kd y (s) hs (hfy.mono (by omega))) (zl 3 rfl ?_));exact av ai rfl (by rw[xy (of_decide_eq_false hc8)] <;> rfl)
end Go.Proofs.YtakccfmgipajnaaGreatDoor
namespace Rc
open Go
def wW(x y:Qr):Bool:=(x.neg == y.neg)&&decide (x.n=y.n)&&decide (x.d=y.d)
theorem kV(q:Rat):m6 (an q)=true:=xT.2 (by rw[aG])
theorem Pc(z:Int):V.agg [ab.val (.bool (decide (z<0))),ae (ah z.natAbs),aT]=qV (an (z:Rat)):=by
 show _=V.agg [ab.val (.bool (decide ((z:Rat).num<0))),ae (ah (z:Rat).num.natAbs),ae (ah (aQ (z:Rat)))];rw[Rat.num_intCast];have:aQ (z:Rat)=0:=by unfold aQ;rw[Rat.den_intCast];rfl
 rw[this,cJ];rfl
theorem Br.int{z:Int}{k:Nat}(h:z.natAbs<4294967296^k):Br (z:Rat) k:=
 ⟨dm.2 (by unfold aN;rw[Rat.num_intCast];exact h),by show(ah (aQ (z:Rat))).length<=k;rw[show aQ (z:Rat)=0 by unfold aQ;rw[Rat.den_intCast];rfl,cJ];exact XS _⟩
theorem Br.m8{z:Int}(h1:-9223372036854775808<=z)(h2:z<=9223372036854775807):Br (z:Rat) 2:=Br.int (by have:(4294967296:Nat)^2=18446744073709551616:=rfl;omega)
theorem AD(a b:Bool)(m n:Nat)(hn:n≠0):rq (a != b) m n=((aH a m:Int):Rat)/((aH b n:Int):Rat):=by
 unfold rq;rw[dZ hn,zaY];have hn':((n:Int):Rat)≠0:=fun e=>hn (by
  have:=Rat.intCast_eq_zero_iff.1 e;omega)
 have hn2:((n:Nat):Rat)=((n:Int):Rat):=rfl;rw[hn2];cases a <;> cases b <;> simp[Rat.intCast_neg] <;> grind
theorem NS{z:Int}(h:z≠0):dK z≠0:=by
 have:=mB z;omega
def Aq(t a b:Rat):Rat:=if t<0 then t*b else t*a
def Ar(t a b:Rat):Rat:=if t<0 then t*a else t*b
instance Br.Aq{t a b:Rat}{i j k:Nat}[Br t i][Br a j][Br b k]:Br (Aq t a b) (i+(j+k)+1):=by
 unfold Rc.Aq;split
 .exact(Br.mul (r:=t) (s:=b)).mono (by omega)
 .exact(Br.mul (r:=t) (s:=a)).mono (by omega)
instance Br.Ar{t a b:Rat}{i j k:Nat}[Br t i][Br a j][Br b k]:Br (Ar t a b) (i+(j+k)+1):=by
 unfold Rc.Ar;split
 .exact(Br.mul (r:=t) (s:=a)).mono (by omega)
 .exact(Br.mul (r:=t) (s:=b)).mono (by omega)
theorem Br.Jc{x:Qr}{r:Rat}{k:Nat}(hr:x.q=r)(h:Fit k x):Br r k:=hr ▸ Br.q h
end Rc
