/- Parts of the proof, 7: the texts WkJ, Aff, Feed, Mod, Row, Form, WpA, FactsD, WkQ, WkR, WkS, WkT, WkU, WkV, WkW, FactsE, WlA, WlB, WlC, WlD, WkX, WlE, as far as they are used. -/
import Derived.Test.YtakccfmgipajnaaGreatDoorWp06
set_option linter.unusedSimpArgs false
set_option linter.unusedVariables false
set_option maxRecDepth 10000
namespace Rc
abbrev XR:=@List.mem_of_getElem?
abbrev Ym:=@List.mem_singleton
abbrev Yo:=@List.take_length
abbrev YK:=@List.foldl_append
abbrev ZT:=@List.range_succ
abbrev ZZ:=@Rat.mul_nonneg
abbrev zas:=@List.any_eq_true
abbrev zaw:=@Rat.not_le
abbrev zaN:=@Rat.not_lt
end Rc
namespace Go.Proofs.YtakccfmgipajnaaGreatDoor
open Go Go.RowKit Rc
theorem Ax(x y:Qr):ar Tryz.prog 168 [qV x,qV y] (R.one (V.one (ab.val (.bool (wW x y))))):=by
 refine aF Tryz.func168 Tryz.ntmps168 rfl (fun w0 A0=>?_);refine zc 13 rfl (aa rfl (v7 rfl rfl rfl jH (d:=_) (rfl)) (zl 1 rfl ?_));refine db rfl (fun hb10=>?_) (fun hb10=>?_)
 .refine zl 16 rfl ?_;exact av ai rfl (by simp[wW, *])
 .refine zl 4 rfl (aj IV rfl (Ff x.n y.n) (zl 2 rfl ?_));refine db rfl (fun hb17=>?_) (fun hb17=>?_)
  .refine zl 9 rfl ?_;exact av ai rfl (by simp[wW, *])
  .refine zl 4 rfl (aj IV rfl (Ff x.d y.d) (zl 4 rfl ?_));exact av ai rfl (by simp[wW, *])
theorem pk(x:Qr)(r:Rat)(hr:x.q=r)(hfx:Fit 1000000000000 x):ar Tryz.prog 115 [qV x] (R.one (V.one (ab.val (.bool (m6 x))))):=by
 refine aF Tryz.func115 Tryz.ntmps115 rfl (fun w0 A0=>?_);haveI ir:Br r 1000000000000:=Br.Jc hr hfx;refine zc 7 rfl (aE 0 [] [] (dz 2 rfl (ax ko rfl (kd x (r) hr (hfx.mono (by omega))) (ax B9 rfl (Ax x (an (r))) (dz 1 rfl (aB (za 1 rfl ?_)))))));exact av ai rfl (by subst hr;rfl)
theorem n6(x:Qr)(r:Rat)(hr:x.q=r)(hfx:Fit 1000000000000 x):ar Tryz.prog 59 [qV x] (R.one (V.one (ab.val (.bool (m6 x))))):=by
 refine aF Tryz.func59 Tryz.ntmps59 rfl (fun w0 A0=>?_);haveI ir:Br r 1000000000000:=Br.Jc hr hfx;refine zc 11 rfl (aa rfl (aw rfl) ?_);by_cases h0:x.d.length=0
 .refine aa rfl (bp rfl) (zl 7 rfl (aj Te rfl (Mi x.n) (zl 1 rfl ?_)));refine db rfl (fun hb11=>?_) (fun hb11=>?_)
  .refine zl 13 rfl ?_;exact av ai rfl (by rw[BH h0];simp[*])
  .refine zl 4 rfl ?_;refine db rfl (fun hb15=>?_) (fun hb15=>?_)
   .refine zl 2 rfl (aa rfl (aw rfl) (zl 6 rfl ?_));exact av ai rfl (by rw[BH h0];simp[*])
   .refine zl 9 rfl ?_;exact av ai rfl (by rw[BH h0];simp[*])
 .refine aa rfl (aU rfl) (zl 8 rfl (aj sy rfl (pB x (r) hr (hfx.mono (by omega))) (zl 10 rfl (aa rfl (v7 rfl rfl rfl jH (d:=_) (rfl)) (zl 1 rfl ?_)))));refine db rfl (fun hb29=>?_) (fun hb29=>?_)
  .refine zl 24 rfl (zl 12 rfl ?_);exact av ai rfl (by rw[uL,hr];simp[*])
  .refine zl 2 rfl (aa rfl (aw rfl) (zl 2 rfl (aa rfl (aw rfl) (zl 3 rfl ?_))));refine db rfl (fun hb38=>?_) (fun hb38=>?_)
   .refine zl 24 rfl (zl 3 rfl ?_);exact av ai rfl (by rw[uL,hr];simp[*])
   .refine zl 2 rfl (aa rfl (aw rfl) (zl 2 rfl (aa rfl (aw rfl) (zl 3 rfl ?_))));refine db rfl (fun hb47=>?_) (fun hb47=>?_)
    .refine zl 18 rfl ?_;exact av ai rfl (by rw[uL,hr];simp[*])
    .refine zl 4 rfl (aj pS rfl (vD x.n x.hn (ah (aN r)) (bh _) (val x.n) rfl (aN r) (aZ _)) (zl 3 rfl ?_));refine db rfl (fun hb55=>?_) (fun hb55=>?_)
     .refine zl 10 rfl ?_;exact av ai rfl (by rw[uL,hr];simp[*])
     .refine zl 4 rfl (aj pS rfl (vD x.d x.hd (ah (aQ r)) (bh _) (val x.d) rfl (aQ r) (aZ _)) (zl 5 rfl ?_));exact av ai rfl (by rw[uL,hr];simp[*])
theorem Om(x:Zr)(z:Int)(hz:x.z=z)(hfx:x.m.length<=1000000000000)(y:Zr)(w:Int)(hw:y.z=w)(hfy:y.m.length<=1000000000000)(hw1:w≠0):ar Tryz.prog 67 [zV x,zV y] (R.aW [qV (an ((z:Rat)/(w:Rat))),V.one (ab.val (.int .i64 0))]):=by
 refine aF Tryz.func67 Tryz.ntmps67 rfl (fun w0 A0=>?_);haveI ix:Bn (val x.m) 1000000000000:=Bn.val x.hm hfx;haveI iy:Bn (val y.m) 1000000000000:=Bn.val y.hm hfy;have hw0:val y.m≠0:=fun e=>hw1 (by rw[<-hw];unfold Zr.z;rw[e];cases y.neg <;> rfl);refine zc 12 rfl (aj IJ rfl (Fj y (w) hw (XY hfy (by omega))) (aa rfl (aU rfl (NS hw1)) (zl 11 rfl (aa rfl (oU rfl rfl rfl jH (d:=_) (rfl)) (zl 4 rfl (aj u7 rfl (tQ (x.neg != y.neg) x.m y.m x.hm y.hm (by omega) (by omega) (val x.m) (val y.m) rfl rfl hw0) (zl 4 rfl ?_)))))));exact aI ai rfl (by subst hz;subst hw;unfold Zr.z;rw[<-AD _ _ _ _ hw0] <;> rfl)
theorem mP(z:Int)(h1:-9223372036854775808<=z)(h2:z<=9223372036854775807):ar Tryz.prog 43 [V.one (ab.val (.int .i64 z))] (R.one (qV (an (z:Rat)))):=by
 refine aF Tryz.func43 Tryz.ntmps43 rfl (fun w0 A0=>?_);refine zc 8 rfl (aj B1 rfl (Au (z) (by omega) (by omega)) (zl 14 rfl ?_));exact av ai rfl (congrArg R.one (Pc z))
theorem w4(z w:Int)(h1:-9223372036854775808<=z)(h2:z<=9223372036854775807)(h3:-9223372036854775808<=w)(h4:w<=9223372036854775807)(h5:w≠0):ar Tryz.prog 32 [V.one (ab.val (.int .i64 z)),V.one (ab.val (.int .i64 w))] (R.aW [qV (an ((z:Rat)/(w:Rat))),V.one (ab.val (.int .i64 0))]):=by
 refine aF Tryz.func32 Tryz.ntmps32 rfl (fun w0 A0=>?_);refine zc 9 rfl (aj B1 rfl (Au (z) (by omega) (by omega)) (zl 1 rfl (aj B1 rfl (Au (w) (by omega) (by omega)) (aj Ts rfl (Om (eX z) z (mj _) (Bn.of_lt (by omega) (by omega)) (eX w) w (mj _) (Bn.of_lt (by omega) (by omega)) h5) (zl 6 rfl ?_)))));exact aI ai rfl rfl
end Go.Proofs.YtakccfmgipajnaaGreatDoor
namespace Rc
open Go Go.RowKit
abbrev Tm:Type:=Nat×Rat
def qL(r:Rat):List ab:=[ab.val (.bool (bx r)),ae (ah (aN r)),ae (ah (aQ r))]
def bE:El Tm:=⟨fun t=>[ab.val (.int .i64 (t.1:Int)),ab.val (.bool (bx t.2)),ae (ah (aN t.2)),ae (ah (aQ t.2))],4,fun _=>rfl,fun _=>rfl⟩
structure Af where
 ts:List Tm
 c:Rat
@[reducible] def b7(f:Af):List ab:=[bE.row f.ts,ab.val (.bool (bx f.c)),ae (ah (aN f.c)),ae (ah (aQ f.c))]
@[reducible] def bL(f:Af):V:=V.agg (b7 f)
def bC:El Af:=⟨fun f=>[bE.row f.ts,ab.val (.bool (bx f.c)),ae (ah (aN f.c)),ae (ah (aQ f.c))],4,fun _=>rfl,fun _=>rfl⟩
def nz(l:List Tm)(t:Tm):List Tm:=if t.2=0 then l else l++[t]
theorem og{l:List Tm}{v:Nat}{c:Rat}(h:c=0):nz l (v,c)=l:=if_pos h
theorem kN{l:List Tm}{v:Nat}{c:Rat}(h:¬c=0):nz l (v,c)=l++[(v,c)]:=if_neg h
theorem kj(l:List Tm)(t:Tm):(bE.all l).length<=(bE.all (nz l t)).length:=by
 unfold nz;split
 .exact XP _
 .rw[El.all_append,XX];omega
theorem mF{c:Rat}(h:¬c=0):sg c≠0:=by
 unfold sg;rw[if_neg h];split <;> decide
def dA(ts:List Tm)(c:Rat):List Tm:=ts.foldl (fun out t=>nz out (t.1,t.2*c)) []
theorem NY(ts:List Tm)(t:Tm)(c:Rat):dA (ts++[t]) c=nz (dA ts c) (t.1,t.2*c):=by
 unfold dA;rw[YK];rfl
theorem iF{α:Type}{l:List α}{i:Nat}{x:α}(h:l[i]?=some x):l.take (i+1)=l.take i++[x]:=by
 rw[List.take_add_one,h];rfl
theorem NX{ts:List Tm}{i:Nat}{x:Tm}{c:Rat}(h:ts[i]?=some x):dA (ts.take (i+1)) c=nz (dA (ts.take i) c) (x.1,x.2*c):=by
 rw[iF h,NY]
theorem ki(l:List Tm)(t:Tm):(nz l t).length<=l.length+1:=by
 unfold nz;split <;> simp
theorem E8(ts:List Tm)(c:Rat):(dA ts c).length<=ts.length:=by
 have:∀(ts out:List Tm),(ts.foldl (fun out t=>nz out (t.1,t.2*c)) out).length<=out.length+ts.length:=by
  intro ts
  induction ts with
  |nil=>intro out;simp
  |cons t ts ih=>
   intro out;have h1:=ih (nz out (t.1,t.2*c));have h2:=ki out (t.1,t.2*c);simp only[Y6,X6];omega
 have:=this ts [];simpa[dA] using this
def cI:List Tm->Nat->Rat->List Tm
 |[],v,c=>if c=0 then[] else[(v,c)]
 |(w,d)::ts,v,c=>if w=v then(if d+c=0 then ts else(w,d+c)::ts) else if v<w then(if c=0 then(w,d)::ts else(v,c)::(w,d)::ts) else(w,d)::cI ts v c
def b6:List Tm->Prop
 |[]=>True
 |(w,d)::ts=>d≠0/\(∀t∈ts,w<t.1)/\b6 ts
def co:List Tm->Nat->Rat
 |[],_=>0
 |(w,d)::ts,v=>if w=v then d else co ts v
theorem lj{ts:List Tm}{v:Nat}(h:∀t∈ts,v<t.1):co ts v=0:=by
 induction ts with
 |nil=>rfl
 |cons t ts ih=>
  have h1:=h t (by simp);unfold co;rw[if_neg (by omega)];exact ih fun u hu=>h u (by simp[hu])
theorem CH:∀{a b:List Tm},b6 a->b6 b->(∀v,co a v=co b v)->a=b
 |[],[],_,_,_=>rfl
 |[],(w,d)::b,_,hb,h=>by
  have:=h w;unfold co at this;rw[if_pos rfl] at this;exact absurd this.symm hb.1
 |(w,d)::a,[],ha,_,h=>by
  have:=h w;unfold co at this;rw[if_pos rfl] at this;exact absurd this ha.1
 |(w,d)::a,(x,e)::b,ha,hb,h=>by
  obtain⟨a1,a2,a3⟩:=ha;obtain⟨b1,b2,b3⟩:=hb;have hw:=h w;have hx:=h x;unfold co at hw hx;rw[if_pos rfl] at hw hx;by_cases e1:w=x
  .subst e1;rw[if_pos rfl] at hw;subst hw;rw[CH a3 b3 fun v=>?_];have:=h v;unfold co at this;by_cases e2:w=v
   .subst e2;rw[lj a2,lj b2]
   .rwa [if_neg e2,if_neg e2] at this
  .exfalso;rw[if_neg (fun e=>e1 e.symm)] at hw;rw[if_neg e1] at hx;by_cases e2:w<x
   .rw[lj (fun t ht=>YR e2 (b2 t ht))] at hw;exact a1 hw
   .rw[lj (fun t ht=>YR (show x<w by omega) (a2 t ht))] at hx;exact b1 hx.symm
theorem KD{ts:List Tm}{v:Nat}{c:Rat}{t:Tm}(h:t∈cI ts v c):t.1=v \/ ∃u∈ts,u.1=t.1:=by
 induction ts with
 |nil=>
  unfold cI at h;split at h
  .simp at h
  .simp at h;subst h;exact .inl rfl
 |cons u ts ih=>
  obtain⟨w,d⟩:=u;unfold cI at h;split at h
  .split at h
   .exact .inr ⟨t,by simp[h],rfl⟩
   .rcases X9.1 h with h|h
    .subst h;exact .inr ⟨(w,d),by simp,rfl⟩
    .exact .inr ⟨t,by simp[h],rfl⟩
  .split at h
   .split at h
    .exact .inr ⟨t,h,rfl⟩
    .rcases X9.1 h with h|h
     .subst h;exact .inl rfl
     .exact .inr ⟨t,h,rfl⟩
   .rcases X9.1 h with h|h
    .subst h;exact .inr ⟨(w,d),by simp,rfl⟩
    .rcases ih h with h|⟨u,hu,he⟩
     .exact .inl h
     .exact .inr ⟨u,by simp[hu],he⟩
theorem Dl:∀{ts:List Tm} {v:Nat} {c:Rat},b6 ts->b6 (cI ts v c)
 |[],v,c,_=>by
  unfold cI;split
  .trivial
  .rename_i h;exact⟨h,fun t ht=>by simp at ht,trivial⟩
 |(w,d)::ts,v,c,h=>by
  obtain⟨h1,h2,h3⟩:=h;unfold cI;split
  .split
   .exact h3
   .rename_i h4;exact⟨h4,h2,h3⟩
  .split
   .rename_i h4;split
    .exact⟨h1,h2,h3⟩
    .rename_i h5;refine⟨h5,fun t ht=>?_,h1,h2,h3⟩;rcases X9.1 ht with ht|ht
     .subst ht;exact h4
     .exact YR h4 (h2 t ht)
   .refine⟨h1,fun t ht=>?_,Dl h3⟩;rcases KD ht with ht|⟨u,hu,he⟩
    .omega
    .rw[<-he];exact h2 u hu
theorem JS:∀{ts:List Tm} {v:Nat} {c:Rat},b6 ts->∀x,co (cI ts v c) x=co ts x+if x=v then c else 0
 |[],v,c,_,x=>by
  unfold cI;by_cases h:c=0
  .rw[if_pos h];subst h;simp[co];grind
  .rw[if_neg h];by_cases e:x=v
   .subst e;simp[co];grind
   .rw[if_neg e];unfold co;rw[if_neg (fun e'=>e e'.symm)];simp[co];grind
 |(w,d)::ts,v,c,h,x=>by
  obtain⟨h1,h2,h3⟩:=h;unfold cI;by_cases e1:w=v
  .subst e1;rw[if_pos rfl];by_cases e2:d+c=0
   .rw[if_pos e2];by_cases e3:x=w
    .subst e3;rw[if_pos rfl,lj h2];unfold co;rw[if_pos rfl,e2]
    .rw[if_neg e3];show co ts x=(if w=x then d else co ts x)+0;rw[if_neg (fun e=>e3 e.symm)];grind
   .rw[if_neg e2];by_cases e3:x=w
    .subst e3;unfold co;rw[if_pos rfl,if_pos rfl,if_pos rfl]
    .rw[if_neg e3];unfold co;rw[if_neg (fun e=>e3 e.symm),if_neg (fun e=>e3 e.symm)];grind
  .rw[if_neg e1];by_cases e2:v<w
   .rw[if_pos e2];by_cases e3:c=0
    .rw[if_pos e3];subst e3;simp;grind
    .rw[if_neg e3];by_cases e4:x=v
     .subst e4;rw[if_pos rfl,lj (ts:=(w,d)::ts) (fun t ht=>by
       rcases X9.1 ht with ht|ht
       .subst ht;exact e2
       .exact YR e2 (h2 t ht))]
      show(if x=x then c else _)=_;rw[if_pos rfl];grind
     .rw[if_neg e4];show(if v=x then c else co ((w,d)::ts) x)=_;rw[if_neg (fun e=>e4 e.symm)];grind
   .rw[if_neg e2];show(if w=x then d else co (cI ts v c) x)=(if w=x then d else co ts x)+_;by_cases e3:w=x
    .subst e3;rw[if_pos rfl,if_pos rfl,if_neg e1];grind
    .rw[if_neg e3,if_neg e3];exact JS h3 x
theorem b6.get:∀{ts:List Tm} {i:Nat} {x:Tm},b6 ts->ts[i]?=some x->x.2≠0/\(∀t∈ts.drop (i+1),x.1<t.1)/\∀t∈ts.take i,t.1<x.1
 |[],i,x,_,h=>by simp at h
 |(w,d)::ts,0,x,hc,h=>by
  simp at h;subst h;exact⟨hc.1,by simpa using hc.2.1,by simp⟩
 |(w,d)::ts,i+1,x,hc,h=>by
  obtain⟨h1,h2,h3⟩:=hc;have hx:ts[i]?=some x:=by simpa using h
  obtain⟨q1,q2,q3⟩:=h3.get hx;refine⟨q1,by simpa using q2,fun t ht=>?_⟩;rw[zaK] at ht;rcases X9.1 ht with ht|ht
  .subst ht;exact h2 x (XR hx)
  .exact q3 t ht
theorem b6.prev{ts:List Tm}{i:Nat}{x y:Tm}(h:b6 ts)(hi:0<i)(hx:ts[i]?=some x)(hy:ts[i-1]?=some y):y.1<x.1:=by
 refine(h.get hx).2.2 y ?_;rw[List.mem_take_iff_getElem];obtain⟨h1,h2⟩:=XN.1 hy;exact⟨i-1,by omega,h2⟩
def eo(ts:List Tm)(v:Nat)(c:Rat)(i:Nat)(out:List Tm)(done:Bool):Prop:=
 if done=true then out++ts.drop i=cI ts v c/\∀t∈ts.drop i,v<t.1 else out=ts.take i/\∀t∈ts.take i,t.1<v
theorem jV{α:Type}{l:List α}{i:Nat}{x:α}(h:l[i]?=some x):l.drop i=x::l.drop (i+1):=by
 obtain⟨h1,h2⟩:=XN.1 h;rw[Yh h1,h2]
theorem VY{w v:Nat}{d c:Rat}{ts:List Tm}(h:w<v):cI ((w,d)::ts) v c=(w,d)::cI ts v c:=by
 show(if w=v then _ else if v<w then _ else _)=_;rw[if_neg (show ¬w=v by omega),if_neg (show ¬v<w by omega)]
theorem VX{w v:Nat}{d c:Rat}{ts:List Tm}(h:v<w):cI ((w,d)::ts) v c=if c=0 then(w,d)::ts else(v,c)::(w,d)::ts:=by
 show(if w=v then _ else if v<w then _ else _)=_;rw[if_neg (show ¬w=v by omega),if_pos h]
theorem Dk{w:Nat}{d c:Rat}{ts:List Tm}:cI ((w,d)::ts) w c=if d+c=0 then ts else(w,d+c)::ts:=by
 show(if w=w then _ else _)=_;rw[if_pos rfl]
theorem vW:∀{a b:List Tm} {v:Nat} {c:Rat},(∀t∈a,t.1<v)->cI (a++b) v c=a++cI b v c
 |[],b,v,c,_=>rfl
 |(w,d)::a,b,v,c,h=>by
  have h1:w<v:=h (w,d) (by simp);show cI ((w,d)::(a++b)) v c=(w,d)::(a++cI b v c);rw[VY h1,vW fun t ht=>h t (by simp[ht])]
theorem eo.start(ts:List Tm)(v:Nat)(c:Rat):eo ts v c 0 [] false:=by
 unfold eo;rw[if_neg (by decide)];exact⟨by simp,by simp⟩
theorem eo.eq{ts:List Tm}{v i:Nat}{c:Rat}{out:List Tm}{done:Bool}{x:Tm}(hc:b6 ts)(h:eo ts v c i out done)(hx:ts[i]?=some x)(e:x.1=v):eo ts v c (i+1) (nz out (x.1,x.2+c)) true:=by
 cases hd:done with
 |true=>
  subst hd;unfold eo at h;rw[if_pos rfl] at h;have:=h.2 x (by rw[jV hx];simp);omega
 |false=>
  subst hd;unfold eo at h ⊢;rw[if_neg (by decide)] at h;rw[if_pos rfl];obtain⟨h1,h2⟩:=h;subst e;refine⟨?_,(hc.get hx).2.1⟩;have h3:ts=ts.take i++x::ts.drop (i+1):=by rw[<-jV hx,YN]
  rw[show cI ts x.1 c=ts.take i++cI (x::ts.drop (i+1)) x.1 c from by
   conv=>lhs;rw[h3]
   exact vW h2]
  obtain⟨w,d⟩:=x;rw[Dk,h1];by_cases e0:d+c=0
  .rw[if_pos e0,og e0]
  .rw[if_neg e0,kN e0];simp
theorem eo.ins{ts:List Tm}{v i:Nat}{c:Rat}{out:List Tm}{x:Tm}(hc:b6 ts)(h:eo ts v c i out false)(hx:ts[i]?=some x)(e:v<x.1):eo ts v c (i+1) (nz (nz out (v,c)) (x.1,x.2)) true:=by
 unfold eo at h ⊢;rw[if_neg (by decide)] at h;rw[if_pos rfl];obtain⟨h1,h2⟩:=h;obtain⟨q1,q2,q3⟩:=hc.get hx;refine⟨?_,fun t ht=>YR e (q2 t ht)⟩;have h3:ts=ts.take i++x::ts.drop (i+1):=by rw[<-jV hx,YN]
 rw[show cI ts v c=ts.take i++cI (x::ts.drop (i+1)) v c from by
  conv=>lhs;rw[h3]
  exact vW h2]
 obtain⟨w,d⟩:=x;have q1:d≠0:=q1;rw[VX e,kN q1,h1];by_cases e0:c=0
 .rw[if_pos e0,og e0];simp
 .rw[if_neg e0,kN e0];simp
theorem eo.less{ts:List Tm}{v i:Nat}{c:Rat}{out:List Tm}{x:Tm}(hc:b6 ts)(h:eo ts v c i out false)(hx:ts[i]?=some x)(e:x.1<v):eo ts v c (i+1) (nz out (x.1,x.2)) false:=by
 unfold eo at h ⊢;rw[if_neg (by decide)] at h ⊢;obtain⟨h1,h2⟩:=h;obtain⟨q1,q2,q3⟩:=hc.get hx;rw[iF hx,kN q1,h1];refine⟨rfl,fun t ht=>?_⟩;rcases Yc.1 ht with ht|ht
 .exact h2 t ht
 .simp at ht;subst ht;exact e
theorem eo.rest{ts:List Tm}{v i:Nat}{c:Rat}{out:List Tm}{x:Tm}(hc:b6 ts)(h:eo ts v c i out true)(hx:ts[i]?=some x):eo ts v c (i+1) (nz out (x.1,x.2)) true:=by
 unfold eo at h ⊢;rw[if_pos rfl] at h ⊢;obtain⟨h1,h2⟩:=h;obtain⟨q1,q2,q3⟩:=hc.get hx;rw[jV hx] at h1 h2;rw[kN q1];exact⟨by rw[<-h1];simp,fun t ht=>h2 t (by simp[ht])⟩
theorem eo.T8{ts:List Tm}{v i:Nat}{c:Rat}{out:List Tm}(h:eo ts v c i out true)(hi:ts.length<=i):out=cI ts v c:=by
 unfold eo at h;rw[if_pos rfl,YI hi] at h;simpa using h.1
theorem eo.Ua{ts:List Tm}{v i:Nat}{c:Rat}{out:List Tm}(h:eo ts v c i out false)(hi:ts.length<=i):nz out (v,c)=cI ts v c:=by
 unfold eo at h;rw[if_neg (by decide),YH hi] at h;obtain⟨h1,h2⟩:=h;subst h1;rw[show cI out v c=cI (out++[]) v c from by rw[YF],vW h2];show nz out (v,c)=out++(if c=0 then[] else[(v,c)]);by_cases e0:c=0
 .rw[if_pos e0,og e0];simp
 .rw[if_neg e0,kN e0]
theorem EK{ts:List Tm}{i n:Nat}{x:Tm}(h:ts[i]?=some x)(ha:∀t∈ts.take i,t.1<n)(hx:x.1<n):∀t∈ts.take (i+1),t.1<n:=by
 rw[iF h];intro t ht;rcases Yc.1 ht with ht|ht
 .exact ha t ht
 .simp at ht;subst ht;exact hx
theorem VE{ts:List Tm}{i n:Nat}{x:Tm}(h:ts[i]?=some x)(hx:n<=x.1):decide (∀t∈ts,t.1<n)=false:=by
 refine decide_eq_false fun ha=>?_;have:=ha x (XR h);omega
theorem Di(ts:List Tm):bL ⟨ts,0⟩=V.agg [bE.row ts,ab.val (.bool false),aT,aT]:=by
 show V.agg [bE.row ts,ab.val (.bool (bx 0)),ae (ah (aN 0)),ae (ah (aQ 0))]=_;rw[qg,qi,cJ];rfl
def ep(f g:List Tm):List Tm:=g.foldl (fun a t=>cI a t.1 t.2) f
theorem M9(f g:List Tm)(t:Tm):ep f (g++[t])=cI (ep f g) t.1 t.2:=by
 unfold ep;rw[YK];rfl
theorem M8{f g:List Tm}{i:Nat}{x:Tm}(h:g[i]?=some x):ep f (g.take (i+1))=cI (ep f (g.take i)) x.1 x.2:=by
 rw[iF h,M9]
theorem qQ:∀{g f:List Tm},b6 f->b6 (ep f g)
 |[],f,h=>h
 |t::g,f,h=>qQ (g:=g) (Dl (v:=t.1) (c:=t.2) h)
theorem CG:∀{g f:List Tm},b6 f->b6 g->∀x,co (ep f g) x=co f x+co g x
 |[],f,_,_,x=>by show co f x=co f x+0;grind
 |(w,d)::g,f,hf,hg,x=>by
  show co (ep (cI f w d) g) x=_;rw[CG (Dl hf) hg.2.2 x,JS hf x];show _=co f x+(if w=x then d else co g x);by_cases e:x=w
  .subst e;rw[if_pos rfl,if_pos rfl,lj hg.2.1];grind
  .rw[if_neg e,if_neg (fun h=>e h.symm)];grind
theorem J8:∀{l:List Tm} {i:Nat},b6 l->b6 (l.take i)
 |[],i,_=>by simp[b6]
 |(w,d)::l,0,_=>trivial
 |(w,d)::l,i+1,h=>⟨h.1,fun t ht=>h.2.1 t (YB ht),J8 h.2.2⟩
theorem mem_co:∀{l:List Tm} {t:Tm},b6 l->t∈l->co l t.1=t.2
 |(w,d)::l,t,h,ht=>by
  rcases X9.1 ht with ht|ht
  .subst ht;show(if w=w then d else _)=d;rw[if_pos rfl]
  .have:=h.2.1 t ht;show(if w=t.1 then d else co l t.1)=t.2;rw[if_neg (by omega)];exact mem_co h.2.2 ht
theorem JR{l:List Tm}{B:Nat}(h:∀t∈l,Br t.2 B)(x:Nat):Br (co l x) B:=by
 induction l with
 |nil=>exact Br.zero.mono (XS _)
 |cons t l ih=>
  obtain⟨w,d⟩:=t;show Br (if w=x then d else co l x) B;split
  .exact h (w,d) (by simp)
  .exact ih fun u hu=>h u (by simp[hu])
theorem Ab{f g:List Tm}{B C:Nat}(hf:b6 f)(hg:b6 g)(h1:∀t∈f,Br t.2 B)(h2:∀t∈g,Br t.2 C):∀t∈ep f g,Br t.2 (B+C+1):=by
 intro t ht;rw[<-mem_co (qQ hf) ht,CG hf hg];haveI:=JR h1 t.1;haveI:=JR h2 t.1;exact Br.add
theorem VW(ts:List Tm)(v:Nat)(c:Rat):(cI ts v c).length<=ts.length+1:=by
 induction ts with
 |nil=>unfold cI;split <;> simp
 |cons t ts ih=>
  obtain⟨w,d⟩:=t;unfold cI;split
  .split <;> simp;omega
  .split
   .split <;> simp
   .simp only[X6];omega
theorem wN:∀(g f:List Tm),(ep f g).length<=f.length+g.length
 |[],f=>by show f.length<=_;simp
 |t::g,f=>by
  have h1:=wN g (cI f t.1 t.2);have h2:=VW f t.1 t.2;show(ep (cI f t.1 t.2) g).length<=_;simp only[X6];omega
theorem Aa{n:Nat}:∀{g f:List Tm},(∀t∈f,t.1<n)->(∀t∈g,t.1<n)->∀t∈ep f g,t.1<n
 |[],f,h1,_=>h1
 |u::g,f,h1,h2=>by
  refine Aa (g:=g) (f:=cI f u.1 u.2) (fun t ht=>?_) (fun t ht=>h2 t (by simp[ht]));rcases KD ht with h|⟨w,hw,he⟩
  .rw[h];exact h2 u (by simp)
  .rw[<-he];exact h1 w hw
def gY(c:Rat):List Tm->List Tm
 |[]=>[]
 |t::ts=>if t.2*c=0 then gY c ts else(t.1,t.2*c)::gY c ts
theorem jL(ts:List Tm)(c:Rat):dA ts c=gY c ts:=by
 have:∀(ts out:List Tm),ts.foldl (fun out t=>nz out (t.1,t.2*c)) out=out++gY c ts:=by
  intro ts
  induction ts with
  |nil=>intro out;simp[gY]
  |cons t ts ih=>
   intro out;rw[Y6,ih];show nz out (t.1,t.2*c)++gY c ts=out++(if t.2*c=0 then gY c ts else(t.1,t.2*c)::gY c ts);by_cases e:t.2*c=0
   .rw[og e,if_pos e]
   .rw[kN e,if_neg e];simp
 have:=this ts [];simpa[dA] using this
theorem mH{c:Rat}:∀{ts:List Tm} {t:Tm},t∈gY c ts->∃u∈ts,u.1=t.1/\t.2=u.2*c/\t.2≠0
 |u::ts,t,h=>by
  unfold gY at h;split at h
  .obtain⟨w,h1,h2⟩:=mH h;exact⟨w,by simp[h1],h2⟩
  .rename_i h0;rcases X9.1 h with h|h
   .subst h;exact⟨u,by simp,rfl,rfl,h0⟩
   .obtain⟨w,h1,h2⟩:=mH h;exact⟨w,by simp[h1],h2⟩
theorem q8{c:Rat}:∀{ts:List Tm},b6 ts->b6 (gY c ts)
 |[],_=>trivial
 |(w,d)::ts,h=>by
  unfold gY;split
  .exact q8 h.2.2
  .rename_i h0;refine⟨h0,fun t ht=>?_,q8 h.2.2⟩;obtain⟨u,h1,h2,_⟩:=mH ht;rw[<-h2];exact h.2.1 u h1
theorem vy{c:Rat}:∀{ts:List Tm},b6 ts->∀x,co (gY c ts) x=co ts x*c
 |[],_,x=>by show(0:Rat)=0*c;grind
 |(w,d)::ts,h,x=>by
  unfold gY;by_cases e:w=x
  .subst e;show _=(if w=w then d else _)*c;rw[if_pos rfl];split
   .rename_i h0;rw[vy h.2.2,lj h.2.1];have h0:d*c=0:=h0;rw[h0];grind
   .show(if w=w then _ else _)=_;rw[if_pos rfl]
  .show _=(if w=x then d else co ts x)*c;rw[if_neg e];split
   .exact vy h.2.2 x
   .show(if w=x then _ else _)=_;rw[if_neg e];exact vy h.2.2 x
class Fm (ts:List Tm) (B n:outParam Nat):Prop where
 can:b6 ts
 bd:∀t∈ts,Br t.2 B
 len:ts.length<=n
 var:∀t∈ts,t.1<1000000
instance Fm.nil:Fm [] 0 0:=⟨trivial,fun t h=>by simp at h,XP _,fun t h=>by simp at h⟩
instance Fm.sum{f g:List Tm}{B n C m:Nat}[hf:Fm f B n][hg:Fm g C m]:Fm (ep f g) (B+C+1) (n+m):=
 ⟨qQ hf.can,Ab hf.can hg.can hf.bd hg.bd,by have:=wN g f;have:=hf.len;have:=hg.len;omega,Aa hf.var hg.var⟩
instance Fm.sc{f:List Tm}{c:Rat}{B n C:Nat}[hf:Fm f B n][hc:Br c C]:Fm (dA f c) (B+C+1) n:=by
 rw[jL];refine⟨q8 hf.can,fun t ht=>?_,?_,fun t ht=>?_⟩
 .obtain⟨u,h1,h2,h3,_⟩:=mH ht;rw[h3];haveI:=hf.bd u h1;exact Br.mul
 .rw[<-jL];exact XY (E8 _ _) hf.len
 .obtain⟨u,h1,h2,_⟩:=mH ht;rw[<-h2];exact hf.var u h1
theorem Fm.one{v:Nat}{c:Rat}{B:Nat}(hv:v<1000000)(hc:c≠0)[hb:Br c B]:Fm [(v,c)] B 1:=
 ⟨⟨hc,fun t h=>by simp at h,trivial⟩,fun t h=>by simp at h;subst h;exact hb,XP _,fun t h=>by simp at h;subst h;exact hv⟩
theorem Fm.mono{f:List Tm}{B C n m:Nat}(h:Fm f B n)(h1:B<=C)(h2:n<=m):Fm f C m:=⟨h.can,fun t ht=>(h.bd t ht).mono h1,XY h.len h2,h.var⟩
theorem M4{l:List Af}{i n:Nat}{x:Af}(h:l[i]?=some x)(ha:∀f∈l.take i,∀t∈f.ts,t.1<n)(hx:∀t∈x.ts,t.1<n):∀f∈l.take (i+1),∀t∈f.ts,t.1<n:=by
 rw[iF h];intro f hf;rcases Yc.1 hf with hf|hf
 .exact ha f hf
 .rw[Ym.1 hf];exact hx
theorem VF{l:List Af}{i n:Nat}{x:Af}(h:l[i]?=some x)(hx:¬∀t∈x.ts,t.1<n):decide (∀f∈l,∀t∈f.ts,t.1<n)=false:=
 decide_eq_false fun ha=>hx (ha x (XR h))
def nx(l:List Nat)(k n:Nat):Nat:=match l[k]? with|some x=>x%n|none=>0
def nk(l:List Nat)(k:Nat):Nat:=if k<l.length then k+1 else k
theorem Qz{l:List Nat}{k n:Nat}(h:l.length<=k):nx l k n=0:=by unfold nx;rw[Yi h]
theorem Qy{l:List Nat}{k n x:Nat}(h:l[k]?=some x):nx l k n=x%n:=by unfold nx;rw[h]
theorem QG{l:List Nat}{k:Nat}(h:l.length<=k):nk l k=k:=if_neg (by omega)
theorem QF{l:List Nat}{k:Nat}(h:k<l.length):nk l k=k+1:=if_pos h
theorem di{l:List Nat}{k:Nat}(h:k<=l.length):nk l k<=l.length:=by unfold nk;split <;> omega
theorem g7{l:List Nat}{k n:Nat}(h:0<n):nx l k n<n:=by
 unfold nx;split
 .exact YE _ h
 .exact h
def nd(j:Nat):Nat:=if j<2 then 1 else if j=2 then 2 else 4
theorem QI{j:Nat}(h:j<4):([ab.val (.int .i64 1),ab.val (.int .i64 1),ab.val (.int .i64 2),ab.val (.int .i64 4)]:List ab)[j]?=some (ab.val (.int .i64 ((nd j:Nat):Int))):=by
 match j,h with
 |0,_=>rfl
 |1,_=>rfl
 |2,_=>rfl
 |3,_=>rfl
theorem Bi(j:Nat):1<=nd j/\nd j<=4:=by
 unfold nd;split
 .omega
 .split <;> omega
def ef(l:List Nat)(k:Nat):Rat:=(((((nx l k 9:Nat):Int)-4:Int)):Rat)/((((nd (nx l (nk l k) 4):Nat):Int)):Rat)
theorem uo(l:List Nat)(k:Nat):Br (ef l k) 6:=by
 unfold ef;have h9:nx l k 9<9:=g7 (by decide);have hd:=Bi (nx l (nk l k) 4);haveI:=Br.m8 (z:=((nx l k 9:Nat):Int)-4) (by omega) (by omega);haveI:=Br.m8 (z:=((nd (nx l (nk l k) 4):Nat):Int)) (by omega) (by omega);exact Br.div.mono (by omega)
def x5(l:List Nat)(s:Af×Nat)(v:Nat):Af×Nat:=
 if 0<nx l s.2 3 then(⟨ep s.1.ts (dA [(v,((1:Int):Rat))] (ef l (nk l s.2))),s.1.c+0*ef l (nk l s.2)⟩,nk l (nk l (nk l s.2))) else(s.1,nk l s.2)
def en(l:List Nat)(k n:Nat):Af×Nat:=(List.range n).foldl (x5 l) (⟨[],ef l k⟩,nk l (nk l k))
theorem x8(l:List Nat)(k n:Nat):en l k (n+1)=x5 l (en l k n) n:=by
 unfold en;rw[ZT,YK];rfl
theorem BV(l:List Nat)(k:Nat)(hk:k<=l.length):∀n,n<=1000000->Fm (en l k n).1.ts (20*n) n/\Br (en l k n).1.c (20*n+6)/\(en l k n).2<=l.length
 |0,_=>⟨Fm.nil,uo l k,di (di hk)⟩
 |n+1,hn=>by
  obtain⟨h1,h2,h3⟩:=BV l k hk n (by omega);rw[x8];unfold x5;split
  .haveI:=uo l (nk l (en l k n).2);haveI:Br ((1:Int):Rat) 2:=Br.m8 (by decide) (by decide);haveI:=Fm.one (v:=n) (c:=((1:Int):Rat)) (by omega) (by decide);refine⟨(Fm.sum (f:=(en l k n).1.ts)).mono (by omega) (by omega),?_,di (di (di h3))⟩;exact(Br.add (r:=(en l k n).1.c)).mono (by omega)
  .exact⟨h1.mono (by omega) (by omega),h2.mono (by omega),di h3⟩
structure Gr where
 ag:Nat
 us:List Af
 os:List Af
structure Rg where
 lo:List Rat
 hi:List Rat
 rows:List Af
structure Qu where
 g:Gr
 r:Rg
 goal:Af
structure Dc where
 kind:Nat
 idx:Nat
 pt:Rat
structure Rw where
 kind:Int
 idx:Int
 lo:Int
 hi:Int
theorem Rw.ext'{a b:Rw}(h1:a.kind=b.kind)(h2:a.idx=b.idx)(h3:a.lo=b.lo)(h4:a.hi=b.hi):a=b:=by
 cases a;cases b;simp at *;exact⟨h1,h2,h3,h4⟩
instance : DecidableEq Rw := fun a b =>
 if h:a.kind=b.kind/\a.idx=b.idx/\a.lo=b.lo/\a.hi=b.hi then .isTrue (Rw.ext' h.1 h.2.1 h.2.2.1 h.2.2.2)
 else .isFalse (fun e=>h (by subst e;exact⟨rfl,rfl,rfl,rfl⟩))
structure Mu where
 r:Rw
 c:Qr
structure Lm where
 unit:Int
 up:Bool
 v:Qr
 pf:List Mu
structure Sc where
 q:Qu
 path:List Dc
 aq:List Lm
def bw:El Rat:=⟨fun x=>qL x,3,fun _=>rfl,fun _=>rfl⟩
def bm:El Mu:=⟨fun m=>[ab.val (.int .i64 m.r.kind),ab.val (.int .i64 m.r.idx),ab.val (.int .i64 m.r.lo),ab.val (.int .i64 m.r.hi),ab.val (.bool m.c.neg),ae m.c.n,ae m.c.d],7,fun _=>rfl,fun _=>rfl⟩
def aV:El Lm:=⟨fun m=>[ab.val (.int .i64 m.unit),ab.val (.bool m.up),ab.val (.bool m.v.neg),ae m.v.n,ae m.v.d,bm.row m.pf],6,fun _=>rfl,fun _=>rfl⟩
def bG:El Dc:=⟨fun d=>[ab.val (.int .i64 (d.kind:Int)),ab.val (.int .i64 (d.idx:Int)),ab.val (.bool (bx d.pt)),ae (ah (aN d.pt)),ae (ah (aQ d.pt))],5,fun _=>rfl,fun _=>rfl⟩
@[reducible] def sn(g:Gr):V:=V.agg [ab.val (.int .i64 (g.ag:Int)),bC.row g.us,bC.row g.os]
@[reducible] def rl(r:Rg):V:=V.agg [bw.row r.lo,bw.row r.hi,bC.row r.rows]
@[reducible] def n7(q:Qu):V:=V.agg [ab.val (.int .i64 (q.g.ag:Int)),bC.row q.g.us,bC.row q.g.os,bw.row q.r.lo,bw.row q.r.hi,bC.row q.r.rows,bE.row q.goal.ts,ab.val (.bool (bx q.goal.c)),ae (ah (aN q.goal.c)),ae (ah (aQ q.goal.c))]
@[reducible] def eM(s:Sc):V:=V.agg [ab.val (.int .i64 (s.q.g.ag:Int)),bC.row s.q.g.us,bC.row s.q.g.os,bw.row s.q.r.lo,bw.row s.q.r.hi,bC.row s.q.r.rows,bE.row s.q.goal.ts,ab.val (.bool (bx s.q.goal.c)),ae (ah (aN s.q.goal.c)),ae (ah (aQ s.q.goal.c)),bG.row s.path,aV.row s.aq]
@[reducible] def cO(q:Qu):List ab:=[ab.val (.int .i64 (q.g.ag:Int)),bC.row q.g.us,bC.row q.g.os,bw.row q.r.lo,bw.row q.r.hi,bC.row q.r.rows,bE.row q.goal.ts,ab.val (.bool (bx q.goal.c)),ae (ah (aN q.goal.c)),ae (ah (aQ q.goal.c))]
@[reducible] def fY(s:Sc):List ab:=[ab.val (.int .i64 (s.q.g.ag:Int)),bC.row s.q.g.us,bC.row s.q.g.os,bw.row s.q.r.lo,bw.row s.q.r.hi,bC.row s.q.r.rows,bE.row s.q.goal.ts,ab.val (.bool (bx s.q.goal.c)),ae (ah (aN s.q.goal.c)),ae (ah (aQ s.q.goal.c)),bG.row s.path,aV.row s.aq]
@[reducible] def As:List ab:=[ab.val (.int .i64 0),bC.row [],bC.row [],bw.row [],bw.row [],bC.row [],bE.row [],ab.val (.bool false),ae [],ae [],bG.row [],aV.row []]
@[reducible] def mL(r:Rw):V:=V.agg [ab.val (.int .i64 r.kind),ab.val (.int .i64 r.idx),ab.val (.int .i64 r.lo),ab.val (.int .i64 r.hi)]
@[reducible] def yD(d:Dc):V:=V.agg [ab.val (.int .i64 (d.kind:Int)),ab.val (.int .i64 (d.idx:Int)),ab.val (.bool (bx d.pt)),ae (ah (aN d.pt)),ae (ah (aQ d.pt))]
@[reducible] def RQ(m:Lm):V:=V.agg [ab.val (.int .i64 m.unit),ab.val (.bool m.up),ab.val (.bool m.v.neg),ae m.v.n,ae m.v.d,bm.row m.pf]
class Hb (r:Rat) (n:outParam Nat):Prop where
 num:r.num.natAbs<2^n
 den:r.den<=2^n
theorem Hb.mono{r:Rat}{n m:Nat}(h:Hb r n)(hn:n<=m):Hb r m:=
 ⟨XZ h.num (X3 (by decide) hn),XY h.den (X3 (by decide) hn)⟩
theorem Pl(n:Nat):2^n<=4294967296^n:=Nat.pow_le_pow_left (by decide) n
theorem Hb.br{r:Rat}{n:Nat}(h:Hb r n):Br r (n+1):=by
 have h1:=Pl n;have h2:4294967296^n<4294967296^(n+1):=YJ (by decide) (by omega);have h3:=h.num;have h4:=h.den;exact Br.of (by omega) (by omega)
theorem Hb.rq{b:Bool}{n d k:Nat}(h1:n<2^k)(h2:dn d<=2^k):Hb (rq b n d) k:=
 ⟨by have:=sP b n d;unfold aN at this;rw[this];exact Ye (Yy _ _) h1,by rw[sL];exact XY (Yy _ _) h2⟩
instance Hb.mul{r s:Rat}{i j:Nat}[hr:Hb r i][hs:Hb s j]:Hb (r*s) (i+j):=by
 rw[<-nX r,<-nX s,<-px,dZ (YM r.den_pos),dZ (YM s.den_pos)];refine Hb.rq ?_ ?_
 .rw[Yv];exact Nat.mul_lt_mul'' hr.num hs.num
 .rw[dZ (YP (YM r.den_pos) (YM s.den_pos)),Yv];exact YZ hr.den hs.den
theorem QJ(a b:Bool)(m n:Nat):(aH a m+aH b n).natAbs<=m+n:=by cases a <;> cases b <;> simp[aH] <;> omega
instance Hb.add{r s:Rat}{i j:Nat}[hr:Hb r i][hs:Hb s j]:Hb (r+s) (i+j+1):=by
 rw[<-nX r,<-nX s,<-tU _ _ _ _ _ _ _ rfl,dZ (YM r.den_pos),dZ (YM s.den_pos)];refine Hb.rq ?_ ?_
 .refine Ye (QJ _ _ _ _) ?_;have h1:aN r*s.den<2^(i+j):=by
   rw[Yv];exact Nat.mul_lt_mul_of_lt_of_le hr.num hs.den (Yp (by decide))
  have h2:aN s*r.den<2^(i+j):=by
   rw[Yv,Yu (2^i)];exact Nat.mul_lt_mul_of_lt_of_le hs.num hr.den (Yp (by decide))
  rw[Yb];omega
 .rw[dZ (YP (YM r.den_pos) (YM s.den_pos))];refine XY (?_:_<=2^(i+j)) (X3 (by decide) (by omega));rw[Yv];exact YZ hr.den hs.den
instance Hb.neg{r:Rat}{i:Nat}[hr:Hb r i]:Hb (-r) i:=⟨by rw[show(-r).num = -r.num from rfl,Int.natAbs_neg];exact hr.num,hr.den⟩
instance Hb.sub{r s:Rat}{i j:Nat}[hr:Hb r i][hs:Hb s j]:Hb (r-s) (i+j+1):=by
 rw[ZF];exact Hb.add
instance Hb.abs{r:Rat}{i:Nat}[hr:Hb r i]:Hb (Rc.rq false (aN r) (aQ r)) i:=
 Hb.rq hr.num (by rw[yA];exact hr.den)
instance Br.abs{r:Rat}{i:Nat}[hr:Br r i]:Br (Rc.rq false (aN r) (aQ r)) (i+1):=by
 have h1:=hr.num;have h2:=hr.den;have h3:4294967296^i<4294967296^(i+1):=YJ (by decide) (by omega);refine Br.rq (by omega) ?_;unfold aQ;split <;> omega
theorem Hb.zero:Hb 0 0:=⟨by decide,by decide⟩
theorem Oq(z:Int):rq (decide (z<0)) z.natAbs 1=(z:Rat):=by
 have h:=AD (decide (z<0)) false z.natAbs 1 (by omega);rw[qY] at h;have h1:(z:Rat)/((1:Int):Rat)=z:=by grind
 rw[<-h1];simpa[aH] using h
theorem abs_nonneg(r:Rat):0<=rq false (aN r) (aQ r):=by
 have h:=FD false (aN r) (aQ r);have h2:¬aH false (aN r)<0:=by simp[aH]
 exact zaN.1 (fun e=>h2 (h.1 e))
theorem abs_eq(r:Rat):rq false (aN r) (aQ r)=if r<0 then -r else r:=by
 have h:=AE r;split
 .rename_i hr;have hn:bx r=true:=by unfold bx;exact decide_eq_true (Int.not_le.1 (fun e=>zaw.2 hr (Rat.num_nonneg.1 e)))
  rw[hn] at h;rw[show(false:Bool) = !true from rfl,tR,h]
 .rename_i hr;have hn:bx r=false:=by unfold bx;exact decide_eq_false (Int.not_lt.2 (Rat.num_nonneg.2 (zaN.1 hr)))
  rw[hn] at h;exact h
instance Bf(l:List Nat)(k:Nat):Hb (ef l k) 3:=by
 unfold ef;have h9:nx l k 9<9:=g7 (by decide);have hd:=Bi (nx l (nk l k) 4);have e1:(((((nx l k 9:Nat):Int)-4:Int)):Rat)/((((nd (nx l (nk l k) 4):Nat):Int)):Rat)=rq (decide (((nx l k 9:Nat):Int)-4<0)) (((nx l k 9:Nat):Int)-4).natAbs (nd (nx l (nk l k) 4)):=by
  have h:=AD (decide (((nx l k 9:Nat):Int)-4<0)) false (((nx l k 9:Nat):Int)-4).natAbs (nd (nx l (nk l k) 4)) (by omega);rw[qY] at h;simpa[aH] using h.symm
 rw[e1];exact Hb.rq (by omega) (by rw[dZ (by omega)];omega)
structure c9(b n:Nat)(f:Af):Prop where
 can:b6 f.ts
 bd:∀t∈f.ts,Hb t.2 b
 cb:Hb f.c b
 var:∀t∈f.ts,t.1<n
theorem c9.mono{b c n m:Nat}{f:Af}(h:c9 b n f)(h1:b<=c)(h2:n<=m):c9 c m f:=
 ⟨h.can,fun t ht=>(h.bd t ht).mono h1,h.cb.mono h1,fun t ht=>XZ (h.var t ht) h2⟩
theorem CQ:∀{ts:List Tm} {a n:Nat},b6 ts->(∀t∈ts,a<=t.1/\t.1<n)->ts.length<=n-a
 |[],a,n,_,_=>XS _
 |(w,d)::ts,a,n,h,hv=>by
  obtain⟨h1,h2,h3⟩:=h;have h4:=hv (w,d) (by simp);have:=CQ (a:=w+1) (n:=n) h3 (fun t ht=>⟨h2 t ht,(hv t (by simp[ht])).2⟩);simp only[X6];simp at h4;omega
theorem c9.len{b n:Nat}{f:Af}(h:c9 b n f):f.ts.length<=n:=by
 have:=CQ (a:=0) h.can (fun t ht=>⟨XS _,h.var t ht⟩);omega
theorem c9.fm{b n:Nat}{f:Af}(h:c9 b n f)(hn:n<=1000000):Fm f.ts (b+1) n:=
 ⟨h.can,fun t ht=>(h.bd t ht).br,h.len,fun t ht=>XZ (h.var t ht) hn⟩
theorem c9.br{b n:Nat}{f:Af}(h:c9 b n f):Br f.c (b+1):=h.cb.br
theorem VZ{ts:List Tm}{v:Nat}{c:Rat}(h:∀t∈ts,t.1<v):cI ts v c=ts++(if c=0 then[] else[(v,c)]):=by
 have:=vW (a:=ts) (b:=[]) (v:=v) (c:=c) h;rw[YF] at this;exact this
theorem Nf{ts:List Tm}{v:Nat}{c:Rat}(h:∀t∈ts,t.1<v):ep ts (dA [(v,((1:Int):Rat))] c)=ts++(if c=0 then[] else[(v,c)]):=by
 have e:dA [(v,((1:Int):Rat))] c=if c=0 then[] else[(v,c)]:=by
  show nz [] (v,((1:Int):Rat)*c)=_;have h1:((1:Int):Rat)*c=c:=by simp[Rat.one_mul]
  rw[h1];by_cases h0:c=0
  .rw[og h0,if_pos h0]
  .rw[kN h0,if_neg h0];rfl
 rw[e];by_cases h0:c=0
 .rw[if_pos h0,YF];rfl
 .rw[if_neg h0];show cI ts v c=_;rw[VZ h,if_neg h0]
theorem J9:∀{ts:List Tm} {v:Nat} {c:Rat},b6 ts->(∀t∈ts,t.1<v)->c≠0->b6 (ts++[(v,c)])
 |[],v,c,_,_,h=>⟨h,fun t ht=>by simp at ht,trivial⟩
 |(w,d)::ts,v,c,h,hv,hc=>by
  refine⟨h.1,fun t ht=>?_,J9 h.2.2 (fun t ht=>hv t (by simp[ht])) hc⟩;rcases Yc.1 ht with ht|ht
  .exact h.2.1 t ht
  .simp at ht;subst ht;exact hv (w,d) (by simp)
theorem sx(l:List Nat)(k:Nat):∀n,c9 3 n (en l k n).1
 |0=>⟨trivial,fun t ht=>by simp[en] at ht,Bf l k,fun t ht=>by simp[en] at ht⟩
 |n+1=>by
  have h:=sx l k n;rw[x8];unfold x5;split
  .refine⟨?_,?_,?_,?_⟩ <;> simp only[] <;> try rw[Nf h.var]
   .split
    .rw[YF];exact h.can
    .rename_i h0;exact J9 h.can h.var h0
   .intro t ht;rcases Yc.1 ht with ht|ht
    .exact h.bd t ht
    .split at ht
     .simp at ht
     .simp at ht;subst ht;exact Bf _ _
   .rw[Rat.zero_mul,Rat.add_zero];exact h.cb
   .intro t ht;rcases Yc.1 ht with ht|ht
    .have:=h.var t ht;omega
    .split at ht
     .simp at ht
     .simp at ht;subst ht;simp
  .exact h.mono (XP _) (by omega)
theorem S7{l:List Nat}{k n:Nat}(hk:k<=l.length)(hn:n<=1000000):(en l k n).2<=l.length:=(BV l k hk n hn).2.2
def ew(l:List Nat)(f:Nat->Nat)(k n:Nat):List Af×Nat:=(List.range n).foldl (fun s j=>(s.1++[(en l s.2 (f j)).1],(en l s.2 (f j)).2)) ([],k)
theorem sw(l:List Nat)(f:Nat->Nat)(k n:Nat):ew l f k (n+1)=((ew l f k n).1++[(en l (ew l f k n).2 (f n)).1],(en l (ew l f k n).2 (f n)).2):=by
 unfold ew;rw[ZT,YK];rfl
theorem kW(l:List Nat)(f:Nat->Nat)(k:Nat):∀n,(ew l f k n).1.length=n
 |0=>rfl
 |n+1=>by rw[sw];simp[kW l f k n]
theorem oF{l:List Nat}{f:Nat->Nat}{k:Nat}(hk:k<=l.length)(hf:∀j,f j<=1000000\/True)(hf2:∀j,j<100->f j<=1000000):∀n,n<=100->(ew l f k n).2<=l.length
 |0,_=>hk
 |n+1,hn=>by rw[sw];exact S7 (oF hk hf hf2 n (by omega)) (hf2 n (by omega))
theorem x7(l:List Nat)(f:Nat->Nat)(k:Nat):∀(n j:Nat) (x:Af),(ew l f k n).1[j]?=some x->c9 3 (f j) x
 |0,j,x,h=>by simp[ew] at h
 |n+1,j,x,h=>by
  rw[sw] at h;by_cases hj:j<(ew l f k n).1.length
  .rw[XV hj] at h;exact x7 l f k n j x h
  .rw[YL (by omega),kW] at h;have h1:j-n=0:=by have:=(XN.1 h).1;simp at this;omega
   rw[kW] at hj;have h2:j=n:=by omega
   rw[h1] at h;simp at h;rw[<-h,h2];exact sx _ _ _
theorem xD{α:Type}{l:List α}{x:α}(h:x∈l):∃j:Nat,l[j]?=some x:=List.getElem?_of_mem h
def dC(l:List Nat)(k:Nat):Gr×Nat:=
 (⟨1+nx l k 3,(ew l (fun j=>1+nx l k 3+j) (nk l (nk l (nk l k))) (nx l (nk l k) 5)).1,
  (ew l (fun _=>1+nx l k 3+nx l (nk l k) 5) (ew l (fun j=>1+nx l k 3+j) (nk l (nk l (nk l k))) (nx l (nk l k) 5)).2 (1+nx l (nk l (nk l k)) 3)).1⟩,
  (ew l (fun _=>1+nx l k 3+nx l (nk l k) 5) (ew l (fun j=>1+nx l k 3+j) (nk l (nk l (nk l k))) (nx l (nk l k) 5)).2 (1+nx l (nk l (nk l k)) 3)).2)
def y8(l:List Nat)(s:(List Rat×List Rat)×Nat):(List Rat×List Rat)×Nat:=
 ((s.1.1++[ef l s.2],s.1.2++[ef l s.2+rq false (aN (ef l (nk l (nk l s.2)))) (aQ (ef l (nk l (nk l s.2))))]),nk l (nk l (nk l (nk l s.2))))
def gJ(l:List Nat)(k n:Nat):(List Rat×List Rat)×Nat:=(List.range n).foldl (fun s _=>y8 l s) (([],[]),k)
theorem zb(l:List Nat)(k n:Nat):gJ l k (n+1)=y8 l (gJ l k n):=by
 unfold gJ;rw[ZT,YK];rfl
theorem vO(l:List Nat)(k:Nat):∀n,(gJ l k n).1.1.length=n/\(gJ l k n).1.2.length=n
 |0=>⟨rfl,rfl⟩
 |n+1=>by rw[zb];unfold y8;simp[vO l k n]
theorem zd{l:List Nat}{k:Nat}(hk:k<=l.length):∀n,(gJ l k n).2<=l.length
 |0=>hk
 |n+1=>by rw[zb];exact di (di (di (di (zd hk n))))
theorem Kb(l:List Nat)(k:Nat):∀(n j:Nat) (x y:Rat),(gJ l k n).1.1[j]?=some x->(gJ l k n).1.2[j]?=some y->Hb x 3/\Hb y 7/\x<=y
 |0,j,x,y,h,_=>by simp[gJ] at h
 |n+1,j,x,y,h,h'=>by
  rw[zb] at h h';unfold y8 at h h';simp only[] at h h';obtain⟨e1,e2⟩:=vO l k n;by_cases hj:j<n
  .rw[XV (by omega)] at h h';exact Kb l k n j x y h h'
  .rw[YL (by omega)] at h h';have h1:j-n=0:=by have:=(XN.1 h).1;simp at this;omega
   rw[e1,h1] at h;rw[e2,h1] at h';simp at h h';subst h;subst h';refine⟨Bf _ _,Hb.add.mono (by omega),?_⟩;have:=abs_nonneg (ef l (nk l (nk l (gJ l k n).2)));grind
def ke(l:List Nat)(k ag:Nat):Rg×Nat:=
 (⟨(gJ l k ag).1.1,(gJ l k ag).1.2,(ew l (fun _=>ag) (nk l (gJ l k ag).2) (nx l (gJ l k ag).2 3)).1⟩,
  (ew l (fun _=>ag) (nk l (gJ l k ag).2) (nx l (gJ l k ag).2 3)).2)
def tZ(l:List Nat)(k:Nat):Qu×Nat:=
 (⟨(dC l k).1,(ke l (dC l k).2 (dC l k).1.ag).1,(en l (ke l (dC l k).2 (dC l k).1.ag).2 ((dC l k).1.ag+(dC l k).1.us.length)).1⟩,
  (en l (ke l (dC l k).2 (dC l k).1.ag).2 ((dC l k).1.ag+(dC l k).1.us.length)).2)
structure oZ(g:Gr):Prop where
 i1:1<=g.ag
 i3:g.ag<=3
 u4:g.us.length<=4
 o1:1<=g.os.length
 o3:g.os.length<=3
 us:∀(j:Nat) (x:Af),g.us[j]?=some x->c9 3 (g.ag+j) x
 os:∀x∈g.os,c9 3 (g.ag+g.us.length) x
structure nL(n:Nat)(r:Rg):Prop where
 lo:r.lo.length=n
 hi:r.hi.length=n
 r2:r.rows.length<=2
 bd:∀(j:Nat) (x y:Rat),r.lo[j]?=some x->r.hi[j]?=some y->Hb x 3/\Hb y 7/\x<=y
 rows:∀x∈r.rows,c9 3 n x
structure dt(q:Qu):Prop where
 g:oZ q.g
 r:nL q.g.ag q.r
 goal:c9 500000 (q.g.ag+q.g.us.length) q.goal
theorem Ij(l:List Nat)(k:Nat):oZ (dC l k).1:=by
 have h1:nx l k 3<3:=g7 (by decide);have h2:nx l (nk l k) 5<5:=g7 (by decide);have h3:nx l (nk l (nk l k)) 3<3:=g7 (by decide);refine⟨?_,?_,?_,?_,?_,fun j x h=>x7 _ _ _ _ _ _ h,fun x hx=>?_⟩
 .show 1<=1+nx l k 3;omega
 .show 1+nx l k 3<=3;omega
 .show(ew _ _ _ _).1.length<=4;rw[kW];omega
 .show 1<=(ew _ _ _ _).1.length;rw[kW];omega
 .show(ew _ _ _ _).1.length<=3;rw[kW];omega
 .obtain⟨j,hj⟩:=xD hx;have:=x7 _ _ _ _ _ _ hj;show c9 3 (1+nx l k 3+(ew _ _ _ _).1.length) x;rw[kW];exact this
theorem SQ{l:List Nat}{k:Nat}(hk:k<=l.length):(dC l k).2<=l.length:=by
 have h1:nx l k 3<3:=g7 (by decide);have h2:nx l (nk l k) 5<5:=g7 (by decide);have h3:nx l (nk l (nk l k)) 3<3:=g7 (by decide);exact oF (oF (di (di (di hk))) (fun _=>.inr trivial) (fun j hj=>by omega) _ (by omega)) (fun _=>.inr trivial) (fun j hj=>by omega) _ (by omega)
theorem OI(l:List Nat)(k n:Nat):nL n (ke l k n).1:=by
 have h3:nx l (gJ l k n).2 3<3:=g7 (by decide);refine⟨(vO l k n).1,(vO l k n).2,?_,Kb l k n,fun x hx=>?_⟩
 .show(ew _ _ _ _).1.length<=2;rw[kW];omega
 .obtain⟨j,hj⟩:=xD hx;exact x7 _ _ _ _ _ _ hj
theorem OJ{l:List Nat}{k n:Nat}(hk:k<=l.length)(hn:n<=1000):(ke l k n).2<=l.length:=by
 have h3:nx l (gJ l k n).2 3<3:=g7 (by decide);exact oF (di (zd hk n)) (fun _=>.inr trivial) (fun j hj=>by omega) _ (by omega)
theorem O1(l:List Nat)(k:Nat):dt (tZ l k).1:=⟨Ij l k,OI l _ _,(sx l _ _).mono (by decide) (XP _)⟩
class Fq (x:Qr) (k:outParam Nat):Prop where
 fit:Fit k x
theorem Fq.use{x:Qr}{k k':Nat}[h:Fq x k](hk:k<=k'):Fit k' x:=h.fit.mono hk
instance Fq.of{r:Rat}{k:Nat}[h:Br r k]:Fq (an r) k:=⟨h.fit⟩
instance Fq.br{x:Qr}{k:Nat}[h:Fq x k]:Br x.q k:=Br.q h.fit
theorem Fq.mono{x:Qr}{k k':Nat}(h:Fq x k)(hk:k<=k'):Fq x k':=⟨h.fit.mono hk⟩
instance Br.one:Br ((1:Int):Rat) 2:=Br.m8 (by decide) (by decide)
instance Br.XG:Br ((-1:Int):Rat) 2:=Br.m8 (by decide) (by decide)
def lv(l:List Lm)(n:Nat):Rat:=match l[n-1]? with|some m=>m.v.q|none=>0
theorem rO{l:List Lm}{n:Nat}{m:Lm}(h:l[n-1]?=some m):lv l n=m.v.q:=by unfold lv;rw[h]
def jX(l:List Lm)(u:Int)(s:Nat×Nat)(n:Nat):Nat×Nat:=
 match l[n]? with
 |none=>s
 |some m=>if m.unit=u then(if m.up=true then(if s.2=0\/m.v.q<lv l s.2 then(s.1,n+1) else s) else(if s.1=0\/lv l s.1<m.v.q then(n+1,s.2) else s)) else s
def iM(l:List Lm)(u:Int)(n:Nat):Nat×Nat:=(List.range n).foldl (jX l u) (0,0)
def cw(l:List Lm)(u:Int):Nat×Nat:=iM l u l.length
theorem jb(l:List Lm)(u:Int)(n:Nat):iM l u (n+1)=jX l u (iM l u n) n:=by
 unfold iM;rw[ZT,YK];rfl
section
variable {l:List Lm}{u:Int}{s:Nat×Nat}{n:Nat}{x:Lm}(hx:l[n]?=some x)
 include hx
theorem CT(h:x.unit≠u):jX l u s n=s:=by unfold jX;simp only[hx];rw[if_neg h]
theorem vK(h:x.unit=u)(hu:x.up=true)(hc:s.2=0\/x.v.q<lv l s.2):jX l u s n=(s.1,n+1):=by unfold jX;simp only[hx];rw[if_pos h,if_pos hu,if_pos hc]
theorem CS(h:x.unit=u)(hu:x.up=true)(hc:¬(s.2=0\/x.v.q<lv l s.2)):jX l u s n=s:=by unfold jX;simp only[hx];rw[if_pos h,if_pos hu,if_neg hc]
theorem vL(h:x.unit=u)(hu:x.up=false)(hc:s.1=0\/lv l s.1<x.v.q):jX l u s n=(n+1,s.2):=by unfold jX;simp only[hx];rw[if_pos h,if_neg (by rw[hu];decide),if_pos hc]
theorem CU(h:x.unit=u)(hu:x.up=false)(hc:¬(s.1=0\/lv l s.1<x.v.q)):jX l u s n=s:=by unfold jX;simp only[hx];rw[if_pos h,if_neg (by rw[hu];decide),if_neg hc]
end
def HQ(l:List Lm)(u:Int)(up:Bool)(n:Nat):Prop:=n=0 \/ ∃m,l[n-1]?=some m/\0<n/\m.unit=u/\m.up=up
theorem vR(l:List Lm)(u:Int):∀n,(iM l u n).1<=n/\(iM l u n).2<=n/\HQ l u false (iM l u n).1/\HQ l u true (iM l u n).2
 |0=>⟨XP _,XP _,.inl rfl,.inl rfl⟩
 |n+1=>by
  obtain⟨h1,h2,h3,h4⟩:=vR l u n;rw[jb]
  cases hx:l[n]? with
  |none=>unfold jX;simp only[hx];exact⟨by omega,by omega,h3,h4⟩
  |some x=>
   by_cases hu:x.unit=u
   .cases hup:x.up
    .by_cases hc:(iM l u n).1=0\/lv l (iM l u n).1<x.v.q
     .rw[vL hx hu hup hc];exact⟨XP _,by show(iM l u n).2<=n+1;omega,.inr ⟨x,by simpa using hx,by simp,hu,hup⟩,h4⟩
     .rw[CU hx hu hup hc];exact⟨by omega,by omega,h3,h4⟩
    .by_cases hc:(iM l u n).2=0\/x.v.q<lv l (iM l u n).2
     .rw[vK hx hu hup hc];exact⟨by show(iM l u n).1<=n+1;omega,XP _,h3,.inr ⟨x,by simpa using hx,by simp,hu,hup⟩⟩
     .rw[CS hx hu hup hc];exact⟨by omega,by omega,h3,h4⟩
   .rw[CT hx hu];exact⟨by omega,by omega,h3,h4⟩
theorem C4{l:List Lm}{u:Int}(h:(cw l u).1≠0):∃m,l[(cw l u).1-1]?=some m/\m.unit=u/\m.up=false/\lv l (cw l u).1=m.v.q/\0<(cw l u).1/\(cw l u).1<=l.length:=by
 obtain⟨h1,h2,h3,h4⟩:=vR l u l.length;rcases h3 with h3|⟨m,q1,q2,q3,q4⟩
 .exact absurd h3 h
 .exact⟨m,q1,q3,q4,rO q1,q2,h1⟩
theorem zi{l:List Lm}{u:Int}(h:(cw l u).2≠0):∃m,l[(cw l u).2-1]?=some m/\m.unit=u/\m.up=true/\lv l (cw l u).2=m.v.q/\0<(cw l u).2/\(cw l u).2<=l.length:=by
 obtain⟨h1,h2,h3,h4⟩:=vR l u l.length;rcases h4 with h3|⟨m,q1,q2,q3,q4⟩
 .exact absurd h3 h
 .exact⟨m,q1,q3,q4,rO q1,q2,h2⟩
def dd(a b:Rw):Bool:=if a.kind≠b.kind then decide (a.kind<b.kind) else if a.idx≠b.idx then decide (a.idx<b.idx) else if a.lo≠b.lo then decide (a.lo<b.lo) else decide (a.hi<b.hi)
theorem BD{a b:Rw}:dd a b=true↔a.kind<b.kind\/(a.kind=b.kind/\(a.idx<b.idx\/(a.idx=b.idx/\(a.lo<b.lo\/(a.lo=b.lo/\a.hi<b.hi))))):=by
 unfold dd;split
 .simp;omega
 .split
  .simp;omega
  .split <;> simp <;> omega
theorem RW{a b c:Rw}(h:dd a b=true)(h':dd b c=true):dd a c=true:=by
 rw[BD] at *;omega
theorem RY(a:Rw):dd a a=false:=by
 cases h:dd a a
 .rfl
 .rw[BD] at h;omega
theorem RX{a b:Rw}(h:dd a b=false)(hne:a≠b):dd b a=true:=by
 cases h':dd b a
 .exfalso;have h1:¬dd a b=true:=by rw[h];decide
  have h2:¬dd b a=true:=by rw[h'];decide
  rw[BD] at h1 h2;exact hne (Rw.ext' (by omega) (by omega) (by omega) (by omega))
 .rfl
theorem Uu{a b:Rw}(h:a=b):qc a.kind a.idx a.lo a.hi b.kind b.idx b.lo b.hi=true:=by subst h;simp[qc]
theorem Uv{a b:Rw}(h:a≠b):qc a.kind a.idx a.lo a.hi b.kind b.idx b.lo b.hi=false:=by
 cases h':qc a.kind a.idx a.lo a.hi b.kind b.idx b.lo b.hi
 .rfl
 .exfalso;simp[qc] at h';exact h (Rw.ext' h'.1 h'.2.1 h'.2.2.1 h'.2.2.2)
def fI:List Mu->Rw->Rat->List Mu
 |[],r,c=>[⟨r,an c⟩]
 |m::l,r,c=>if dd m.r r=true then m::fI l r c else if m.r=r then⟨r,an (m.c.q+c)⟩::l else⟨r,an c⟩::m::l
def fe(l:List Mu)(r:Rw)(c:Rat):List Mu:=if c=0 then l else fI l r c
def eE(a b:List Mu)(c:Rat):List Mu:=b.foldl (fun a m=>fe a m.r (m.c.q*c)) a
theorem xU:∀{l:List Mu} {r:Rw} {c:Rat} {k:Nat},(∀(i:Nat) (m:Mu),i<k->l[i]?=some m->dd m.r r=true)->k<=l.length->fI l r c=l.take k++fI (l.drop k) r c
 |l,r,c,0,_,_=>by simp
 |[],r,c,k+1,_,h=>by simp at h
 |m::l,r,c,k+1,h,hk=>by
  have h0:=h 0 m (by omega) rfl;have ih:=xU (l:=l) (r:=r) (c:=c) (k:=k) (fun i m' hi hm=>h (i+1) m' (by omega) (by simpa using hm)) (by simpa using hk);show(if dd m.r r=true then m::fI l r c else _)=_;rw[if_pos h0,ih];rfl
theorem Sz{l:List Mu}{r:Rw}{c:Rat}(h:∀(i:Nat) (m:Mu),i<l.length->l[i]?=some m->dd m.r r=true):fI l r c=l++[⟨r,an c⟩]:=by
 rw[xU h (XP _),Yo,List.drop_length];rfl
theorem JB{α:Type}{l:List α}{k:Nat}{x:α}(h:l[k]?=some x):l.drop k=x::l.drop (k+1):=jV h
theorem Sy{l:List Mu}{r:Rw}{c:Rat}{k:Nat}{x:Mu}(h:∀(i:Nat) (m:Mu),i<k->l[i]?=some m->dd m.r r=true)(hx:l[k]?=some x)(hr:x.r=r):fI l r c=l.take k++[⟨r,an (x.c.q+c)⟩]++l.drop (k+1):=by
 rw[xU h (Yn (XN.1 hx).1),JB hx];show _++(if dd x.r r=true then _ else if x.r=r then _ else _)=_;rw[if_neg (by rw[hr,RY];decide),if_pos hr,Yf];rfl
theorem Sx{l:List Mu}{r:Rw}{c:Rat}{k:Nat}{x:Mu}(h:∀(i:Nat) (m:Mu),i<k->l[i]?=some m->dd m.r r=true)(hx:l[k]?=some x)(hl:dd x.r r=false)(hr:x.r≠r):fI l r c=l.take k++[⟨r,an c⟩]++l.drop k:=by
 rw[xU h (Yn (XN.1 hx).1),JB hx];show _++(if dd x.r r=true then _ else if x.r=r then _ else _)=_;rw[if_neg (by rw[hl];decide),if_neg hr,Yf];rfl
theorem HY:∀(l:List Mu) (r:Rw) (c:Rat),(fI l r c).length<=l.length+1
 |[],_,_=>by simp[fI]
 |m::l,r,c=>by
  have:=HY l r c;unfold fI;split
  .simp;omega
  .split <;> simp
theorem Po(l:List Mu)(r:Rw)(c:Rat):(fe l r c).length<=l.length+1:=by
 unfold fe;split
 .omega
 .exact HY l r c
theorem Bs:∀(b a:List Mu) (c:Rat),(eE a b c).length<=a.length+b.length
 |[],a,c=>by simp[eE]
 |m::b,a,c=>by
  have h1:=Po a m.r (m.c.q*c);have h2:=Bs b (fe a m.r (m.c.q*c)) c;have:eE a (m::b) c=eE (fe a m.r (m.c.q*c)) b c:=rfl;rw[this];simp;omega
theorem Rv(a b:List Mu)(m:Mu)(c:Rat):eE a (b++[m]) c=fe (eE a b c) m.r (m.c.q*c):=by unfold eE;rw[YK];rfl
theorem Ru{a b:List Mu}{i:Nat}{m:Mu}{c:Rat}(h:b[i]?=some m):eE a (b.take (i+1)) c=fe (eE a (b.take i) c) m.r (m.c.q*c):=by rw[iF h,Rv]
def MB(B:Nat)(l:List Mu):Prop:=∀m∈l,Fq m.c B
theorem MB.mono{B C:Nat}{l:List Mu}(h:MB B l)(hBC:B<=C):MB C l:=fun m hm=>(h m hm).mono hBC
theorem H6{B C:Nat}{r:Rw}{c:Rat}[hc:Br c C]:∀{l:List Mu},MB B l->MB (B+C+1) (fI l r c)
 |[],_=>fun m hm=>by
  simp[fI] at hm;subst hm;exact(Fq.of (r:=c)).mono (by omega)
 |x::l,h=>by
  have hx:=h x (by simp);intro m hm;unfold fI at hm;split at hm
  .rcases X9.1 hm with rfl|hm
   .exact hx.mono (by omega)
   .exact H6 (l:=l) (fun m hm=>h m (by simp[hm])) m hm
  .split at hm
   .rcases X9.1 hm with rfl|hm
    .exact Fq.of (r:=x.c.q+c)
    .exact(h m (by simp[hm])).mono (by omega)
   .rcases X9.1 hm with rfl|hm
    .exact(Fq.of (r:=c)).mono (by omega)
    .exact(h m hm).mono (by omega)
theorem Pq{B C:Nat}{l:List Mu}{r:Rw}{c:Rat}[hc:Br c C](h:MB B l):MB (B+C+1) (fe l r c):=by
 unfold fe;split
 .exact h.mono (by omega)
 .exact H6 h
theorem Bt{B C D:Nat}{c:Rat}[hc:Br c D]:∀{b a:List Mu},MB B a->MB C b->MB (B+b.length*(C+D+2)) (eE a b c)
 |[],a,h,_=>h.mono (by omega)
 |m::b,a,h,hb=>by
  haveI:=hb m (by simp);have h1:=Pq (r:=m.r) (c:=m.c.q*c) h;have h2:=Bt (b:=b) h1 (fun m hm=>hb m (by simp[hm])) (c:=c);have e:eE a (m::b) c=eE (fe a m.r (m.c.q*c)) b c:=rfl;rw[e];refine h2.mono ?_;simp only[X6,Ys];omega
def gU:List Mu->Prop
 |[]=>True
 |m::l=>(m.c=an m.c.q/\0<m.c.q)/\(∀x∈l,dd m.r x.r=true)/\gU l
theorem BK{r:Rw}{c:Rat}:∀{l:List Mu} {x:Mu},x∈fI l r c->x.r=r\/x∈l
 |[],x,h=>by simp[fI] at h;subst h;exact .inl rfl
 |m::l,x,h=>by
  unfold fI at h;split at h
  .rcases X9.1 h with rfl|h
   .exact .inr (by simp)
   .rcases BK h with h|h
    .exact .inl h
    .exact .inr (by simp[h])
  .split at h
   .rcases X9.1 h with rfl|h
    .exact .inl rfl
    .exact .inr (by simp[h])
   .rcases X9.1 h with rfl|h
    .exact .inl rfl
    .exact .inr h
theorem HZ{r:Rw}{c:Rat}(hc:0<c):∀{l:List Mu},gU l->gU (fI l r c)
 |[],_=>⟨⟨by rw[aG],by rw[aG];exact hc⟩,fun x hx=>by simp at hx,trivial⟩
 |m::l,h=>by
  obtain⟨h1,h2,h3⟩:=h;unfold fI;split
  .rename_i hlt;refine⟨h1,fun x hx=>?_,HZ hc h3⟩;rcases BK hx with e|hx
   .rw[e];exact hlt
   .exact h2 x hx
  .rename_i hlt;split
   .rename_i he;refine⟨⟨by rw[aG],?_⟩,fun x hx=>?_,h3⟩
    .rw[aG];have:=h1.2;grind
    .rw[<-he];exact h2 x hx
   .rename_i hne;have hl:=RX (by simpa using hlt) hne;refine⟨⟨by rw[aG],by rw[aG];exact hc⟩,fun x hx=>?_,h1,h2,h3⟩;rcases X9.1 hx with rfl|hx
    .exact hl
    .exact RW hl (h2 x hx)
theorem Pp{r:Rw}{c:Rat}(hc:0<=c){l:List Mu}(h:gU l):gU (fe l r c):=by
 unfold fe;split
 .exact h
 .rename_i h0;exact HZ (by grind) h
theorem gU.pos:∀{l:List Mu},gU l->∀m∈l,0<m.c.q/\m.c=an m.c.q
 |x::l,h,m,hm=>by
  rcases X9.1 hm with rfl|hm
  .exact⟨h.1.2,h.1.1⟩
  .exact gU.pos h.2.2 m hm
theorem gU.lt{l:List Mu}(h:gU l):∀{i j:Nat} {x y:Mu},i<j->l[i]?=some y->l[j]?=some x->dd y.r x.r=true:=by
 induction l with
 |nil=>intro i j x y _ hy;simp at hy
 |cons m l ih=>
  intro i j x y hij hy hx;obtain⟨j,rfl⟩:∃j',j=j'+1:=⟨j-1,by omega⟩;rw[List.getElem?_cons_succ] at hx
  cases i with
  |zero=>simp at hy;subst hy;exact h.2.1 x (XR hx)
  |succ i=>rw[List.getElem?_cons_succ] at hy;exact ih h.2.2 (by omega) hy hx
theorem gU.prev{l:List Mu}{i:Nat}{x y:Mu}(h:gU l)(hi:0<i)(hx:l[i]?=some x)(hy:l[i-1]?=some y):dd y.r x.r=true:=h.lt (by omega) hy hx
theorem Hh{c:Rat}(hc:0<=c):∀{b a:List Mu},gU a->(∀m∈b,0<m.c.q)->gU (eE a b c)
 |[],a,h,_=>h
 |m::b,a,h,hb=>Hh (b:=b) hc (Pp (ZZ (zad (hb m (by simp))) hc) h) (fun m hm=>hb m (by simp[hm]))
theorem Oo:rq false 1 1=1:=by decide +kernel
theorem AA(a b:Bool)(m n d e:Nat)(hn:n≠0):rq (a != b) (m*dn e) (dn d*n)=rq a m d/rq b n e:=by
 have h1:=px a b m (dn e) d n;have h2:=px b b n (dn e) e n;rw[dZ hn] at h1 h2;rw[h1];have h3:rq (b != b) (n*dn e) (dn e*n)=1:=by
  rw[<-Oo,FE,dZ (YP (fp e) hn)];simp[aH,dn,Yu]
 rw[h3] at h2;have h4:rq b n e≠0:=fun h=>by rw[h] at h2;grind
 rw[za1];congr 1;have h5:rq b n e*(rq b n e)⁻¹=1:=Rat.mul_inv_cancel _ h4;generalize rq b n e=p at *;generalize rq b (dn e) n=q at *;generalize p⁻¹=w at *;grind
theorem mG{p:Rat}:sg p<=0↔p<=0:=by unfold sg;grind
theorem lI{p:Rat}:0<=sg p↔0<=p:=by unfold sg;grind
theorem wU{p:Rat}:0<sg p↔0<p:=by unfold sg;grind
def ku(ag v:Nat):List Mu:=if v<ag then[⟨⟨1,(v:Int),0,0⟩,an ((1:Int):Rat)⟩] else[⟨⟨5,((v-ag:Nat):Int),0,0⟩,an ((1:Int):Rat)⟩]
def fP(ag:Nat)(l:List Lm)(v:Nat):Option (List Mu):=
 if v<ag then some [⟨⟨2,(v:Int),0,0⟩,an ((1:Int):Rat)⟩]
 else if (cw l ((v-ag:Nat):Int)).1=0\/(cw l ((v-ag:Nat):Int)).2=0 then none
 else if lv l (cw l ((v-ag:Nat):Int)).2<=0 then some [⟨⟨10,((v-ag:Nat):Int),0,((cw l ((v-ag:Nat):Int)).2:Int)⟩,an ((1:Int):Rat)⟩]
 else if 0<=lv l (cw l ((v-ag:Nat):Int)).1 then some [⟨⟨8,((v-ag:Nat):Int),((cw l ((v-ag:Nat):Int)).1:Int),0⟩,an ((1:Int):Rat)⟩,⟨⟨12,((v-ag:Nat):Int),0,((cw l ((v-ag:Nat):Int)).2:Int)⟩,an ((1:Int):Rat)⟩]
 else some [⟨⟨12,((v-ag:Nat):Int),0,((cw l ((v-ag:Nat):Int)).2:Int)⟩,an (((1:Int):Rat)/(lv l (cw l ((v-ag:Nat):Int)).2-lv l (cw l ((v-ag:Nat):Int)).1)*lv l (cw l ((v-ag:Nat):Int)).2)⟩,
   ⟨⟨13,((v-ag:Nat):Int),((cw l ((v-ag:Nat):Int)).1:Int),((cw l ((v-ag:Nat):Int)).2:Int)⟩,an (((1:Int):Rat)/(lv l (cw l ((v-ag:Nat):Int)).2-lv l (cw l ((v-ag:Nat):Int)).1))⟩]
structure FL(B n:Nat)(f:Af):Prop where
 can:b6 f.ts
 bd:∀t∈f.ts,Br t.2 B
 cb:Br f.c B
 var:∀t∈f.ts,t.1<n
theorem FL.mono{B C n m:Nat}{f:Af}(h:FL B n f)(h1:B<=C)(h2:n<=m):FL C m f:=
 ⟨h.can,fun t ht=>(h.bd t ht).mono h1,h.cb.mono h1,fun t ht=>XZ (h.var t ht) h2⟩
theorem c9.fl{b n:Nat}{f:Af}(h:c9 b n f):FL (b+1) n f:=⟨h.can,fun t ht=>(h.bd t ht).br,h.br,h.var⟩
theorem FL.fm{B n:Nat}{f:Af}(h:FL B n f)(hn:n<=1000000):Fm f.ts B n:=
 ⟨h.can,h.bd,by have:=CQ (a:=0) h.can (fun t ht=>⟨XS _,h.var t ht⟩);omega,fun t ht=>XZ (h.var t ht) hn⟩
def fV(v:Nat):Af:=⟨[(v,((1:Int):Rat))],0⟩
def fN(c:Rat):Af:=⟨[],c⟩
def p7(f g:Af):Af:=⟨ep f.ts g.ts,f.c+g.c⟩
def bN(f:Af)(c:Rat):Af:=⟨dA f.ts c,f.c*c⟩
def bA(f g:Af):Af:=⟨ep f.ts (dA g.ts ((-1:Int):Rat)),f.c+g.c*((-1:Int):Rat)⟩
def fZ:Af:=⟨[],0⟩
theorem FL.v{v n:Nat}(h:v<n):FL 2 n (fV v):=
 ⟨⟨by decide,fun t ht=>by simp at ht,trivial⟩,fun t ht=>by simp[fV] at ht;subst ht;exact Br.one,Br.zero.mono (by omega),fun t ht=>by simp[fV] at ht;subst ht;exact h⟩
theorem FL.n{c:Rat}{B n:Nat}(h:Br c B):FL B n (fN c):=⟨trivial,fun t ht=>by simp[fN] at ht,h,fun t ht=>by simp[fN] at ht⟩
theorem FL.z{n:Nat}:FL 0 n fZ:=⟨trivial,fun t ht=>by simp[fZ] at ht,Br.zero,fun t ht=>by simp[fZ] at ht⟩
theorem FL.add{f g:Af}{B C n:Nat}(hf:FL B n f)(hg:FL C n g):FL (B+C+1) n (p7 f g):=by
 haveI:=hf.cb;haveI:=hg.cb;exact⟨qQ hf.can,Ab hf.can hg.can hf.bd hg.bd,Br.add,Aa hf.var hg.var⟩
theorem FL.sc{f:Af}{c:Rat}{B C n:Nat}(hf:FL B n f)[hc:Br c C]:FL (B+C+1) n (bN f c):=by
 haveI:=hf.cb;refine⟨by show b6 (dA f.ts c);rw[jL];exact q8 hf.can,fun t ht=>?_,Br.mul,fun t ht=>?_⟩
 .have ht:t∈dA f.ts c:=ht;rw[jL] at ht;obtain⟨u,h1,h2,h3,_⟩:=mH ht;rw[h3];haveI:=hf.bd u h1;exact Br.mul
 .have ht:t∈dA f.ts c:=ht;rw[jL] at ht;obtain⟨u,h1,h2,_⟩:=mH ht;rw[<-h2];exact hf.var u h1
theorem FL.sub{f g:Af}{B C n:Nat}(hf:FL B n f)(hg:FL C n g):FL (B+C+4) n (bA f g):=by
 have:=hf.add (FL.sc (c:=((-1:Int):Rat)) hg);exact this.mono (by omega) (XP _)
def j7(b:Nat)(q:Qu)(d:Dc):Prop:=(((d.kind=1\/d.kind=2)/\d.idx<q.g.us.length/\d.pt=0)\/((d.kind=3\/d.kind=4)/\d.idx<q.g.ag))/\Hb d.pt b
def kq(path:List Dc)(k:Nat)(j:Int):Bool:=path.any (fun d=>((d.kind:Int) == (k:Int))&&((d.idx:Int) == j))
def qe(path:List Dc)(k:Nat)(j:Int)(n:Nat):Bool:=(path.take n).any (fun d=>((d.kind:Int) == (k:Int))&&((d.idx:Int) == j))
theorem yC{path:List Dc}{k n:Nat}{j:Int}{d:Dc}(h:path[n]?=some d):qe path k j (n+1)=(qe path k j n||(((d.kind:Int) == (k:Int))&&((d.idx:Int) == j))):=by
 unfold qe;rw[iF h,List.any_append];simp
theorem JM{path:List Dc}{k:Nat}{j:Int}:qe path k j path.length=kq path k j:=by unfold qe kq;rw[Yo]
theorem JL{path:List Dc}{k n:Nat}{j:Int}{d:Dc}(h:path[n]?=some d)(h1:((d.kind:Int) == (k:Int))=true)(h2:((d.idx:Int) == j)=true):kq path k j=true:=by
 unfold kq;rw[zas];exact⟨d,XR h,by rw[h1,h2];rfl⟩
def iH(l:List Lm)(n unit:Int)(up:Bool):Rat×Bool:=
 if n<1 then(0,false) else match l[(n-1).toNat]? with
 |none=>(0,false)
 |some m=>if m.unit=unit/\m.up=up then(m.v.q,true) else(0,false)
theorem R2{l:List Lm}{n unit:Int}{up:Bool}(h:n<1):iH l n unit up=(0,false):=if_pos h
theorem R3{l:List Lm}{n unit:Int}{up:Bool}(h:(l.length:Int)<n):iH l n unit up=(0,false):=by
 unfold iH;rw[if_neg (by omega),Yi (by omega)]
theorem HD{l:List Lm}{n unit:Int}{up:Bool}{m:Lm}(h:¬n<1)(hm:l[(n-1).toNat]?=some m)(hn:¬(m.unit=unit/\m.up=up)):iH l n unit up=(0,false):=by
 unfold iH;rw[if_neg h,hm];simp only[];rw[if_neg hn]
theorem HB{l:List Lm}{n unit:Int}{up:Bool}{m:Lm}(h:¬n<1)(hm:l[(n-1).toNat]?=some m)(hn:m.unit=unit/\m.up=up):iH l n unit up=(m.v.q,true):=by
 unfold iH;rw[if_neg h,hm];simp only[];rw[if_pos hn]
theorem xO{l:List Lm}{n unit:Int}{up:Bool}{B:Nat}(hB:∀m∈l,Fq m.v B):Br (iH l n unit up).1 B:=by
 unfold iH;split
 .exact Br.zero.mono (XS _)
 .split
  .exact Br.zero.mono (XS _)
  .rename_i m hm;split
   .haveI:=hB m (XR hm);exact Fq.br
   .exact Br.zero.mono (XS _)
section
variable (s:Sc)(r:Rw)
@[reducible] def cG:Rat:=(iH s.aq r.lo r.idx false).1
@[reducible] def oq:Bool:=(iH s.aq r.lo r.idx false).2
@[reducible] def cA:Rat:=(iH s.aq r.hi r.idx true).1
@[reducible] def mv:Bool:=(iH s.aq r.hi r.idx true).2
def gE:Bool:=(r.hi == 0)&&(((r.lo == 0)&&kq s.path 1 r.idx)||(oq s r&&decide (0<=sg (cG s r))))
def gG:Bool:=(r.lo == 0)&&(((r.hi == 0)&&kq s.path 2 r.idx)||(mv s r&&decide (sg (cA s r)<=0)))
def cB(p:Af):Af×Bool:=
 if r.kind=5 then(fV (s.q.g.ag+r.idx.toNat),(r.lo == 0)&&(r.hi == 0))
 else if r.kind=6 then(bA (fV (s.q.g.ag+r.idx.toNat)) p,(r.lo == 0)&&(r.hi == 0))
 else if r.kind=7 then(p,gE s r)
 else if r.kind=8 then(bA p (fV (s.q.g.ag+r.idx.toNat)),gE s r)
 else if r.kind=9 then(bN p ((-1:Int):Rat),gG s r)
 else if r.kind=10 then(bN (fV (s.q.g.ag+r.idx.toNat)) ((-1:Int):Rat),gG s r)
 else if r.kind=11 then(bA p (fN (cG s r)),oq s r&&(r.hi == 0))
 else if r.kind=12 then(bA (fN (cA s r)) p,mv s r&&(r.lo == 0))
 else if r.kind=13 then(bA (bN (bA p (fN (cG s r))) (cA s r)) (bN (fV (s.q.g.ag+r.idx.toNat)) (cA s r-cG s r)),oq s r&&mv s r&&decide (sg (cG s r)<0)&&decide (0<sg (cA s r)))
 else(fZ,false)
def xl(x:Af×Bool):Af×Bool:=if x.2=true then x else(fZ,false)
def kz:Af×Bool:=if r.idx<0 then(fZ,false) else match s.q.g.us[r.idx.toNat]? with
 |none=>(fZ,false)
 |some p=>xl (cB s r p)
def js(d:Dc):Af:=if d.kind=3 then bA (fV d.idx) (fN d.pt) else bN (bA (fV d.idx) (fN d.pt)) ((-1:Int):Rat)
def bK:Af×Bool:=
 if 5<=r.kind then kz s r
 else if r.lo≠0\/r.hi≠0\/r.idx<0 then(fZ,false)
 else if r.kind=1 then(match s.q.r.lo[r.idx.toNat]? with|some c=>(bA (fV r.idx.toNat) (fN c),true)|none=>(fZ,false))
 else if r.kind=2 then(match s.q.r.hi[r.idx.toNat]? with|some c=>(bA (fN c) (fV r.idx.toNat),true)|none=>(fZ,false))
 else if r.kind=3 then(match s.q.r.rows[r.idx.toNat]? with|some f=>(f,true)|none=>(fZ,false))
 else if r.kind=4 then(match s.path[r.idx.toNat]? with|some d=>if 3<=d.kind then(js d,true) else(fZ,false)|none=>(fZ,false))
 else(fZ,false)
end
theorem lF{s:Sc}{r:Rw}{p f:Af}(h1:¬r.idx<0)(hp:s.q.g.us[r.idx.toNat]?=some p)(h:cB s r p=(f,true)):kz s r=(f,true):=by
 unfold kz;rw[if_neg h1,hp];simp only[h,xl,if_true]
theorem gX{s:Sc}{r:Rw}{p:Af}(h1:¬r.idx<0)(hp:s.q.g.us[r.idx.toNat]?=some p)(h:(cB s r p).2=false):kz s r=(fZ,false):=by
 unfold kz;rw[if_neg h1,hp];simp only[xl];rw[if_neg (by rw[h];decide)]
theorem cM(b:Bool)(ls:List ab)(h:ls=[bE.row [],ab.val (.bool false),aT,aT]):R.aW [V.agg ls,V.one (ab.val (.bool b))]=R.aW [bL fZ,V.one (ab.val (.bool b))]:=by
 subst h;show _=R.aW [bL ⟨[],0⟩,_];rw[Di]
theorem F7:an 0=n8:=by
 show Qr.mk (bx 0) (ah (aN 0)) (ah (aQ 0)) _ _=Qr.mk false [] [] _ _;simp only[Qr.mk.injEq,qg,qi,cJ,and_true];decide
theorem Mt{s:Sc}{r:Rw}{p:Af}{B n:Nat}(hB:∀m∈s.aq,Fq m.v B)(hp:FL 4 n p)(hv:s.q.g.ag+r.idx.toNat<n):FL (4*B+40) n (cB s r p).1:=by
 haveI hl:Br (cG s r) B:=xO hB;haveI ht:Br (cA s r) B:=xO hB;have h1:=FL.v hv;have m:∀{C:Nat} {f:Af},FL C n f->C<=4*B+40->FL (4*B+40) n f:=fun h hc=>h.mono hc (XP _);unfold cB;split;· exact m h1 (by omega)
 split;· exact m (h1.sub hp) (by omega)
 split;· exact m hp (by omega)
 split;· exact m (hp.sub h1) (by omega)
 split;· exact m (FL.sc (c:=((-1:Int):Rat)) hp) (by omega)
 split;· exact m (FL.sc (c:=((-1:Int):Rat)) h1) (by omega)
 split;· exact m (hp.sub (FL.n hl)) (by omega)
 split;· exact m ((FL.n ht).sub hp) (by omega)
 split;· exact m ((FL.sc (c:=cA s r) (hp.sub (FL.n hl))).sub (FL.sc (c:=cA s r-cG s r) h1)) (by omega)
 exact m FL.z (by omega)
theorem Mq{s:Sc}{r:Rw}{B:Nat}(hq:dt s.q)(hB:∀m∈s.aq,Fq m.v B):FL (4*B+40) (s.q.g.ag+s.q.g.us.length) (kz s r).1:=by
 unfold kz;split
 .exact FL.z.mono (by omega) (XP _)
 .split
  .exact FL.z.mono (by omega) (XP _)
  .rename_i p hp;have hj:=(XN.1 hp).1;unfold xl;split
   .exact Mt hB ((hq.g.us _ p hp).fl.mono (by omega) (by omega)) (by omega)
   .exact FL.z.mono (by omega) (XP _)
theorem BW{s:Sc}{r:Rw}{B b:Nat}(hq:dt s.q)(hd:∀d∈s.path,j7 b s.q d)(hB:∀m∈s.aq,Fq m.v B):FL (4*B+b+40) (s.q.g.ag+s.q.g.us.length) (bK s r).1:=by
 have z:FL (4*B+b+40) (s.q.g.ag+s.q.g.us.length) fZ:=FL.z.mono (by omega) (XP _);have m:∀{C:Nat} {f:Af},FL C (s.q.g.ag+s.q.g.us.length) f->C<=4*B+b+40->FL (4*B+b+40) (s.q.g.ag+s.q.g.us.length) f:=fun h hc=>h.mono hc (XP _);unfold bK;split
 .exact m (Mq hq hB) (by omega)
 split
 .exact z
 split
 .split
  .rename_i c hc;have hj:=(XN.1 hc).1;have hl:=hq.r.lo;have hh:=hq.r.hi;obtain⟨y,hy⟩:∃y,s.q.r.hi[r.idx.toNat]?=some y:=⟨_,XM (by omega)⟩;exact m ((FL.v (by omega)).sub (FL.n (hq.r.bd _ _ _ hc hy).1.br)) (by omega)
  .exact z
 split
 .split
  .rename_i c hc;have hj:=(XN.1 hc).1;have hl:=hq.r.lo;have hh:=hq.r.hi;obtain⟨y,hy⟩:∃y,s.q.r.lo[r.idx.toNat]?=some y:=⟨_,XM (by omega)⟩;exact m ((FL.n (hq.r.bd _ _ _ hy hc).2.1.br).sub (FL.v (by omega))) (by omega)
  .exact z
 split
 .split
  .rename_i f hf;exact(hq.r.rows f (XR hf)).fl.mono (by omega) (by omega)
  .exact z
 split
 .split
  .rename_i d hdd;have hok:=hd d (XR hdd);split
   .rename_i h3;have hv:d.idx<s.q.g.ag+s.q.g.us.length:=by rcases hok.1 with⟨h,_⟩|⟨_,h⟩ <;> omega
    unfold js;split
    .exact m ((FL.v hv).sub (FL.n hok.2.br)) (by omega)
    .exact m (FL.sc (c:=((-1:Int):Rat)) ((FL.v hv).sub (FL.n hok.2.br))) (by omega)
   .exact z
  .exact z
 exact z
def jo(s:Sc)(l:List Mu):Af:=l.foldl (fun a m=>p7 a (bN (bK s m.r).1 m.c.q)) fZ
theorem Nb(s:Sc)(l:List Mu)(m:Mu):jo s (l++[m])=p7 (jo s l) (bN (bK s m.r).1 m.c.q):=by unfold jo;rw[YK];rfl
theorem Na{s:Sc}{l:List Mu}{i:Nat}{m:Mu}(h:l[i]?=some m):jo s (l.take (i+1))=p7 (jo s (l.take i)) (bN (bK s m.r).1 m.c.q):=by rw[iF h,Nb]
theorem IA{s:Sc}{B b C:Nat}(hq:dt s.q)(hd:∀d∈s.path,j7 b s.q d)(hB:∀m∈s.aq,Fq m.v B):∀(l:List Mu) (a:Af) (K:Nat),FL K (s.q.g.ag+s.q.g.us.length) a->MB C l →
  FL (K+l.length*(4*B+b+C+42)) (s.q.g.ag+s.q.g.us.length) (l.foldl (fun a m=>p7 a (bN (bK s m.r).1 m.c.q)) a)
 |[],a,K,h,_=>h.mono (by omega) (XP _)
 |m::l,a,K,h,hm=>by
  haveI:=hm m (by simp);have h1:=h.add (FL.sc (c:=m.c.q) (BW (r:=m.r) hq hd hB));have h2:=IA hq hd hB l _ _ h1 (fun x hx=>hm x (by simp[hx]));refine h2.mono ?_ (XP _);simp only[X6,Ys];omega
theorem EL{s:Sc}{l:List Mu}{B b C:Nat}(hq:dt s.q)(hd:∀d∈s.path,j7 b s.q d)(hB:∀m∈s.aq,Fq m.v B)(hm:MB C l):FL (l.length*(4*B+b+C+42)) (s.q.g.ag+s.q.g.us.length) (jo s l):=
 (IA hq hd hB l fZ 0 FL.z hm).mono (by omega) (XP _)
theorem MB.take{C n:Nat}{l:List Mu}(h:MB C l):MB C (l.take n):=fun m hm=>h m (YB hm)
def eP(ag:Nat)(aq:List Lm)(a:List Mu×Bool)(t:Tm):List Mu×Bool:=
 if a.2=true then
  if 0<t.2 then(eE a.1 (ku ag t.1) (rq false (aN t.2) (aQ t.2)),true)
  else match fP ag aq t.1 with
   |some m=>(eE a.1 m (rq false (aN t.2) (aQ t.2)),true)
   |none=>([],false)
 else a
def gR(ag:Nat)(aq:List Lm)(ts:List Tm):List Mu×Bool:=ts.foldl (eP ag aq) ([],true)
theorem V7(ag:Nat)(aq:List Lm)(ts:List Tm)(t:Tm):gR ag aq (ts++[t])=eP ag aq (gR ag aq ts) t:=by unfold gR;rw[YK];rfl
theorem Dq{ag:Nat}{aq:List Lm}{ts:List Tm}{i:Nat}{t:Tm}(h:ts[i]?=some t):gR ag aq (ts.take (i+1))=eP ag aq (gR ag aq (ts.take i)) t:=by rw[iF h,V7]
theorem Dr{ag:Nat}{aq:List Lm}:∀(ts:List Tm) (a:List Mu×Bool),a.2=false->(ts.foldl (eP ag aq) a).2=false
 |[],a,h=>h
 |t::ts,a,h=>Dr ts _ (by unfold eP;rw[if_neg (by rw[h];decide)];exact h)
theorem V8{ag:Nat}{aq:List Lm}{ts:List Tm}{i:Nat}(h:(gR ag aq (ts.take i)).2=false):(gR ag aq ts).2=false:=by
 have e:gR ag aq ts=(ts.drop i).foldl (eP ag aq) (gR ag aq (ts.take i)):=by
  unfold gR;rw[<-YK,YN]
 rw[e];exact Dr _ _ h
end Rc
namespace Go.Proofs.YtakccfmgipajnaaGreatDoor
open Go Go.RowKit Rc
theorem F0(x:Qr)(r:Rat)(hr:x.q=r)(hfx:Fit 200000000000 x)(y:Qr)(s:Rat)(hs:y.q=s)(hfy:Fit 200000000000 y):ar Tryz.prog 163 [qV x,qV y] (R.one (qV (an (r-s)))):=by
 refine aF Tryz.func163 Tryz.ntmps163 rfl (fun w0 A0=>?_);haveI ixn:Bn (val x.n) 200000000000:=Bn.val x.hn hfx.n;haveI ixd:Bn (val x.d) 200000000000:=Bn.val x.hd hfx.d;haveI iyn:Bn (val y.n) 200000000000:=Bn.val y.hn hfy.n;haveI iyd:Bn (val y.d) 200000000000:=Bn.val y.hd hfy.d;haveI ir:Br r 200000000000:=hr ▸ Br.q hfx;haveI is:Br s 200000000000:=hs ▸ Br.q hfy;refine zc 20 rfl (aj Ce rfl (xc x (r) hr (hfx.mono (by omega)) (Qr.mk (!y.neg) y.n y.d y.hn y.hd) (-(s)) (AY hs) (Fit.neg (hfy.mono (by omega)))) (zl 3 rfl ?_));exact av ai rfl (by rw[ZF] <;> rfl)
theorem O6(x:Qr)(r:Rat)(hr:x.q=r)(hfx:Fit 1000000000000 x)(y:Qr)(s:Rat)(hs:y.q=s)(hfy:Fit 1000000000000 y)(hs0:s≠0):ar Tryz.prog 496 [qV x,qV y] (R.aW [qV (an (r/s)),V.one (ab.val (.int .i64 0))]):=by
 refine aF Tryz.func496 Tryz.ntmps496 rfl (fun w0 A0=>?_);haveI ixn:Bn (val x.n) 1000000000000:=Bn.val x.hn hfx.n;haveI ixd:Bn (val x.d) 1000000000000:=Bn.val x.hd hfx.d;haveI iyn:Bn (val y.n) 1000000000000:=Bn.val y.hn hfy.n;haveI iyd:Bn (val y.d) 1000000000000:=Bn.val y.hd hfy.d;have hyn:val y.n≠0:=fun e=>hs0 (by rw[<-hs];unfold Qr.q;rw[tS];exact e);refine zc 12 rfl (aj jw rfl (iU y (s) hs (hfy.mono (by omega))) (aa rfl (aU rfl (mF hs0)) (zl 6 rfl (aE 0 [(16,2)] [2] (dz 4 rfl (af rfl (oU rfl rfl rfl jH (d:=_) (rfl)) (dz 3 rfl (ax nq rfl (mR y (hfy.mono (by omega))) ?_))))))));refine ax sD rfl (rJ x.n x.hn (hfx.mono (by omega)).n (dl y.d) (mz y.hd) (mZ hfy.d (by omega)) (val x.n) rfl (dn (val y.d)) (mq _)) (dz 1 rfl (ax nq rfl (mR x (hfx.mono (by omega))) (dz 2 rfl (ax sD rfl (rJ (dl x.d) (mz x.hd) (mZ hfx.d (by omega)) y.n y.hn (hfy.mono (by omega)).n (dn (val x.d)) (mq _) (val y.n) rfl) ?_))));refine ax vi rfl (ua (x.neg != y.neg) (ah ((val x.n)*(dn (val y.d)))) (ah ((dn (val x.d))*(val y.n))) (bh _) (bh _) (Bn.use (by omega)) (Bn.use (by omega)) ((val x.n)*(dn (val y.d))) ((dn (val x.d))*(val y.n)) (aZ _) (aZ _) (YP (fp _) hyn)) (dz 2 rfl (aB (za 1 rfl ?_)));exact aI ai rfl (by subst hr;subst hs;rw[AA _ _ _ _ _ _ hyn] <;> rfl)
end Go.Proofs.YtakccfmgipajnaaGreatDoor

namespace Go.Proofs.YtakccfmgipajnaaGreatDoor
open Go Go.RowKit Rc
theorem pE(l:List Tm)(hl:l.length<=1000000)(v:Nat)(c:Rat){B:Nat}[Br c B](hB:B<=400000000000):o4 Tryz.prog 97 113 4 (El.all bE l) (El.all bE (nz l (v,c))) [V.one (ab.own 0 0),V.agg (bE.f (v,c))] (fun n=>V.one (ab.own 0 n)):=by
 refine o4.gO Tryz.func97 rfl Tryz.ntmps97 (XU rfl) (fun w0 A0=>?_);refine jO (zc 11 rfl (aj gy rfl (gm (an (c)) (c) (aG _) (Br.use (by omega))) ?_));by_cases hc0:c=0
 .refine aa rfl (bp rfl (by rw[hc0];rfl)) (zl 9 rfl ?_);exact zy (fun _ _ h=>h) rfl rfl rfl rfl (by rw[og hc0]) (hcl:=by first|rfl|exact El.gK _ _)
 .refine aa rfl (aU rfl (mF hc0)) (zl 9 rfl (aK rfl (b8 rfl jI kA wH rfl (by decide) (by decide) rfl (by decide) rfl) (aK rfl (uK (v,c) rfl rfl) (zl 3 rfl ?_))));exact zy (fun _ _ h=>h) rfl rfl rfl rfl (by rw[kN hc0]) (hcl:=by first|rfl|exact El.gK _ _)
theorem Oi(f:Af)(c:Rat){B C:Nat}(hB:∀t∈f.ts,Br t.2 B)[Br f.c B][Br c C](hBC:B+C<=300000000000)(hl:f.ts.length<=1000):ar Tryz.prog 57 [bL f,V.agg (qL (c))] (R.one (bL ⟨dA f.ts c,f.c*c⟩)):=by
 refine aF Tryz.func57 Tryz.ntmps57 rfl (fun w0 A0=>?_);refine zc 12 rfl (aj pX rfl (po (an (f.c)) (f.c) (aG _) (Br.use (by omega)) (an (c)) (c) (aG _) (Br.use (by omega))) (aa rfl (nN rfl wJ rfl Gf rfl) (aK rfl (oX (n:=3) rfl wJ rfl) (zl 5 rfl ?_))));refine nK 3 113 4 (ls':=[ab.own 4 0,ab.val (.bool (bx ((f.c)*(c)))),ae (ah (aN ((f.c)*(c)))),ae (ah (aQ ((f.c)*(c))))]) rfl rfl rfl ⟨.inr ⟨rfl,rfl⟩,.inl rfl,.inl rfl,.inl rfl,trivial⟩ (zc 5 rfl ?_);refine bH (fun m Γ H=>∃(i:Nat) (n:Nat) (out:List Tm),f.ts.length-i=m/\Γ=[(2,some (D.ptr 0 0)),(3,some (D.ptr 1 0)),(4,some (D.ptr 2 0)),(5,some (D.ptr 3 0)),(6,some (D.val (.int .i64 (i:Int))))]/\H=[au 37 (b7 f),au 35 (qL c),au 37 [El.row bE ([]),ab.val (.bool false),ae ([]),ae ([])],au 37 [ab.own 4 n,ab.val (.bool (bx (f.c*c))),ae (ah (aN (f.c*c))),ae (ah (aQ (f.c*c)))],dO 113 4 bE out n]/\i<=f.ts.length/\out=dA (f.ts.take i) c) ⟨0,0,[],rfl,rfl,rfl,XS _,rfl⟩ rfl ?_;rintro m Γ H ⟨i,n,out,rfl,rfl,rfl,hi0,hout⟩;refine zc 6 rfl (aa rfl (aw rfl) ?_);by_cases hi:i<f.ts.length
 .refine aa rfl (aX rfl) (zl 7 rfl ?_);obtain⟨x,hx⟩:∃x,f.ts[i]?=some x:=⟨_,XM hi⟩;haveI hbx:=hB x (XR hx);have hlo:out.length<=1000:=by rw[hout];exact XY (E8 _ _) (by simp;omega)
  refine aE 0 [(17,4),(19,3)] [4,3] (dz 1 rfl (cK [4] rfl (kU rfl) (dz 3 rfl (af rfl (aS i hx rfl) (af rfl (dW rfl) (af rfl (bB rfl) (dz 3 rfl (af rfl (aS i hx rfl) (af rfl (dW rfl) ?_)))))))));refine af rfl (bo rfl) (dz 1 rfl (ax pX rfl (po (an (x.2)) (x.2) (aG _) (Br.use (by omega)) (an (c)) (c) (aG _) (Br.use (by omega))) (dz 1 rfl ?_)));refine cH 4 rfl (tc (r:=4) (ys:=[V.one (ab.own 4 n),V.agg [ab.val (.int .i64 ((x.1:Nat):Int)),ab.val (.bool (bx ((x.2)*(c)))),ae (ah (aN ((x.2)*(c)))),ae (ah (aQ ((x.2)*(c))))]]) (V.one (ab.own 4 (n+1))) rfl pT rfl rfl (pE out (by omega) x.1 ((x.2)*(c)) (by omega)) (kj _ _)) (dz 2 rfl (aB (za 4 rfl ?_)));refine aa rfl (aL (i+1) rfl) (zl 2 rfl ?_);exact aP ⟨i+1,_,_,rfl,rfl,rfl,hi,by rw[hout,NX hx]⟩ rfl
 .refine aa rfl (aO rfl) (zl 9 rfl ?_);have hie:i=f.ts.length:=by omega
  rw[hie,Yo] at hout;refine zc 5 rfl (nI 2 (ls':=[El.row bE out,ab.val (.bool (bx (f.c*c))),ae (ah (aN (f.c*c))),ae (ah (aQ (f.c*c)))]) rfl rfl (dH.gf bE out rfl (by decide)) ⟨.inr ⟨rfl,rfl⟩,.inl rfl,.inl rfl,.inl rfl,trivial⟩ ?_);exact av ai rfl (by rw[<-hout])
theorem tN(v:Nat)(hv:v<=1000000):ar Tryz.prog 44 [V.one (ab.val (.int .i64 ((v:Int))))] (R.one (bL ⟨[(v,((1:Int):Rat))],0⟩)):=by
 refine aF Tryz.func44 Tryz.ntmps44 rfl (fun w0 A0=>?_);refine zc 8 rfl (aj oG rfl (mP 1 (by decide) (by decide)) (zl 1 rfl (aK rfl (b8 rfl jI kA wH rfl (by decide) (by decide) rfl (by decide) rfl) (zl 4 rfl ?_))));exact av ai rfl (by rw[Di] <;> rfl)
theorem rj(c:Rat):ar Tryz.prog 213 [V.agg (qL (c))] (R.one (bL ⟨[],c⟩)):=by
 refine aF Tryz.func213 Tryz.ntmps213 rfl (fun w0 A0=>?_);refine zc 13 rfl ?_;exact av ai rfl rfl
theorem Fo(f:Af)(vars:Nat){B:Nat}(hcan:b6 f.ts)(hB:∀t∈f.ts,Br t.2 B)[Br f.c B](hBC:B<=300000000000)(hl:f.ts.length<=1000)(hv:vars<=1000000):ar Tryz.prog 74 [bL f,V.one (ab.val (.int .i64 ((vars:Int))))] (R.one (V.one (ab.val (.bool (decide (∀t∈f.ts,t.1<vars)))))):=by
 refine aF Tryz.func74 Tryz.ntmps74 rfl (fun w0 A0=>?_);refine zc 13 rfl (bH (fun m Γ H=>∃(i:Nat),f.ts.length-i=m/\Γ=[(1,some (D.val (.int .i64 (vars:Int)))),(2,some (D.ptr 0 0)),(5,some (D.val (.int .i64 (i:Int))))]/\H=[au 37 (b7 f)]/\i<=f.ts.length/\∀t∈f.ts.take i,t.1<vars) ⟨0,rfl,rfl,rfl,XS _,by simp⟩ rfl ?_);rintro m Γ H ⟨i,rfl,rfl,rfl,hi0,hall⟩;refine zc 6 rfl (aa rfl (aw rfl) ?_);by_cases hi:i<f.ts.length
 .refine aa rfl (aX rfl) (zl 8 rfl ?_);obtain⟨x,hx⟩:∃x,f.ts[i]?=some x:=⟨_,XM hi⟩;haveI hbx:=hB x (XR hx);obtain⟨hn0,hgt,hlt⟩:=hcan.get hx;refine zc 4 rfl (aa rfl (aS i hx rfl) (aa rfl (bo rfl) (zl 5 rfl (aE 0 [] [] (dz 2 rfl (af rfl (aO rfl) (dz 4 rfl ?_)))))));by_cases hvx:vars<=x.1
  .refine af rfl (dR rfl) (dz 24 rfl (dz 5 rfl (aB (za 7 rfl ?_))));exact av ai rfl (by rw[VE hx hvx])
  .refine af rfl (dY rfl) (dz 3 rfl ?_);by_cases hi1:0<i
   .refine af rfl (dQ rfl) (dz 4 rfl ?_);obtain⟨y,hy⟩:∃y,f.ts[i-1]?=some y:=⟨_,XM (by omega)⟩;have hyx:=hcan.prev hi1 hx hy;refine af rfl (b9 (i-1) rfl) (af rfl (aS (i-1) hy rfl) (af rfl (dW rfl) (af rfl (bB rfl) (dz 2 rfl (af rfl (dY rfl) (dz 5 rfl (ax gy rfl (gm (an (x.2)) (x.2) (aG _) (Br.use (by omega))) (af rfl (aU rfl (mF hn0)) (dz 4 rfl ?_)))))))));refine ax p5 rfl (pk (an (x.2)) (x.2) (aG _) (Br.use (by omega))) (gv true rfl (kV _) (dz 2 rfl (aB (za 5 rfl ?_))));have hvx:x.1<vars:=by omega
    refine zc 2 rfl (aa rfl (aL (i+1) rfl) (zl 2 rfl (cX 1 (cN 1 rfl ?_))));exact aP ⟨i+1,rfl,rfl,rfl,hi,EK hx hall hvx⟩ rfl
   .refine af rfl (cD rfl) (dz 16 rfl (ax gy rfl (gm (an (x.2)) (x.2) (aG _) (Br.use (by omega))) (af rfl (aU rfl (mF hn0)) (dz 4 rfl (ax p5 rfl (pk (an (x.2)) (x.2) (aG _) (Br.use (by omega))) (gv true rfl (kV _) (dz 2 rfl (aB (za 5 rfl ?_)))))))));have hvx:x.1<vars:=by omega
    refine zc 2 rfl (aa rfl (aL (i+1) rfl) (zl 2 rfl (cX 1 (cN 1 rfl ?_))));exact aP ⟨i+1,rfl,rfl,rfl,hi,EK hx hall hvx⟩ rfl
 .refine aa rfl (aO rfl) (zl 9 rfl ?_);have hie:i=f.ts.length:=by omega
  rw[hie,Yo] at hall;refine zc 3 rfl (aj p5 rfl (pk (an (f.c)) (f.c) (aG _) (Br.use (by omega))) (bT true rfl (kV _) (zl 3 rfl ?_)));exact av ai rfl (by rw[decide_eq_true hall])
theorem Ot(f:Af)(v:Nat)(c:Rat){B C:Nat}(hcan:b6 f.ts)(hB:∀t∈f.ts,Br t.2 B)[Br c C](hBC:B+C<=300000000000)(hl:f.ts.length<=1000)(hv:v<=1000000):ar Tryz.prog 209 [bL f,V.one (ab.val (.int .i64 ((v:Int)))),V.agg (qL (c))] (R.one (bL ⟨cI f.ts v c,f.c⟩)):=by
 refine aF Tryz.func209 Tryz.ntmps209 rfl (fun w0 A0=>?_);refine zc 9 rfl (aa rfl (v8 rfl (rfl)) (zl 3 rfl (DA 7 113 4 rfl rfl (zc 11 rfl ?_))));refine bH (fun m Γ H=>∃(i:Nat) (n:Nat) (out:List Tm) (done:Bool),f.ts.length-i=m/\Γ=[(1,some (D.val (.int .i64 (v:Int)))),(3,some (D.ptr 0 0)),(5,some (D.ptr 1 0)),(6,some (D.ptr 2 0)),(7,some (D.v (V.one (ab.own 3 n)))),(8,some (D.bool done)),(9,some (D.val (.int .i64 (i:Int))))]/\H=[au 37 (b7 f),au 35 (qL c),au 37 [El.row bE ([]),ab.val (.bool false),ae ([]),ae ([])],dO 113 4 bE out n]/\i<=f.ts.length/\out.length<=2*i/\eo f.ts v c i out done) ⟨0,0,[],false,rfl,rfl,rfl,XS _,XS _,eo.start _ _ _⟩ rfl ?_;rintro m Γ H ⟨i,n,out,done,rfl,rfl,rfl,hi0,hol,hI⟩;refine zc 6 rfl (aa rfl (aw rfl) ?_);by_cases hi:i<f.ts.length
 .refine aa rfl (aX rfl) (zl 8 rfl ?_);obtain⟨x,hx⟩:∃x,f.ts[i]?=some x:=⟨_,XM hi⟩;haveI hbx:=hB x (XR hx);obtain⟨hn0,hgt,hlt⟩:=hcan.get hx;refine zc 4 rfl (aa rfl (aS i hx rfl) (aa rfl (bo rfl) (zl 10 rfl ?_)));by_cases hxv:x.1=v
  .refine aa rfl (bp rfl) (zl 8 rfl (aj kY rfl (kC (an (x.2)) (x.2) (aG _) (Br.use (by omega)) (an (c)) (c) (aG _) (Br.use (by omega))) (zl 24 rfl (zc 3 rfl ?_))));refine aK rfl (qy (r:=3) (ys:=[V.one (ab.own 3 n),V.agg [ab.val (.int .i64 ((x.1:Nat):Int)),ab.val (.bool (bx ((x.2)+(c)))),ae (ah (aN ((x.2)+(c)))),ae (ah (aQ ((x.2)+(c))))]]) (V.one (ab.own 3 (n+1))) rfl pT rfl rfl (pE out (by omega) x.1 ((x.2)+(c)) (by omega)) (kj _ _)) (zl 6 rfl (aa rfl (aL (i+1) rfl) ?_));refine zl 2 rfl (cX 4 (cN 4 rfl ?_));exact aP ⟨i+1,_,_,_,rfl,rfl,rfl,hi,(by have h1:=ki out (x.1,x.2+c);omega),hI.eq hcan hx hxv⟩ rfl
  .refine aa rfl (aU rfl) (zl 11 rfl ?_);refine db rfl (fun hd=>?_) (fun hd=>?_)
   .refine zl 10 rfl ?_;have hd:done=true:=by simpa using hd
    subst hd;refine zc 3 rfl (aK rfl (qy (r:=3) (ys:=[V.one (ab.own 3 n),V.agg [ab.val (.int .i64 ((x.1:Nat):Int)),ab.val (.bool (bx x.2)),ae (ah (aN x.2)),ae (ah (aQ x.2))]]) (V.one (ab.own 3 (n+1))) rfl pT rfl rfl (pE out (by omega) x.1 x.2 (by omega)) (kj _ _)) (zl 6 rfl (aa rfl (aL (i+1) rfl) (zl 2 rfl (cX 4 (cN 4 rfl ?_))))));exact aP ⟨i+1,_,_,_,rfl,rfl,rfl,hi,(by have h1:=ki out (x.1,x.2);omega),hI.rest hcan hx⟩ rfl
   .refine zl 3 rfl ?_;by_cases hvx:v<x.1
    .refine aa rfl (dQ rfl) (zl 5 rfl ?_);have hd:done=false:=by simpa using hd
     subst hd;refine zc 4 rfl (aj ko rfl (kd (an (c)) (c) (aG _) (Br.use (by omega))) (zl 1 rfl (aK rfl (qy (r:=3) (ys:=[V.one (ab.own 3 n),V.agg [ab.val (.int .i64 (v:Int)),ab.val (.bool (bx c)),ae (ah (aN c)),ae (ah (aQ c))]]) (V.one (ab.own 3 (n+1))) rfl pT rfl rfl (pE out (by omega) v c (by omega)) (kj _ _)) ?_)));refine zl 10 rfl (aK rfl (qy (r:=3) (ys:=[V.one (ab.own 3 (n+1)),V.agg [ab.val (.int .i64 ((x.1:Nat):Int)),ab.val (.bool (bx x.2)),ae (ah (aN x.2)),ae (ah (aQ x.2))]]) (V.one (ab.own 3 ((n+1)+1))) rfl pT rfl rfl (pE (nz out (v,c)) (by have h1:=ki out (v,c);omega) x.1 x.2 (by omega)) (kj _ _)) (zl 6 rfl ?_));refine aa rfl (aL (i+1) rfl) (zl 2 rfl (cX 4 (cN 4 rfl ?_)));exact aP ⟨i+1,_,_,_,rfl,rfl,rfl,hi,(by have h1:=ki out (v,c);have h2:=ki (nz out (v,c)) (x.1,x.2);omega),hI.ins hcan hx hvx⟩ rfl
    .refine aa rfl (cD rfl) (zl 6 rfl ?_);have hd:done=false:=by simpa using hd
     subst hd;refine zc 3 rfl (aK rfl (qy (r:=3) (ys:=[V.one (ab.own 3 n),V.agg [ab.val (.int .i64 ((x.1:Nat):Int)),ab.val (.bool (bx x.2)),ae (ah (aN x.2)),ae (ah (aQ x.2))]]) (V.one (ab.own 3 (n+1))) rfl pT rfl rfl (pE out (by omega) x.1 x.2 (by omega)) (kj _ _)) (zl 6 rfl (aa rfl (aL (i+1) rfl) (zl 2 rfl (cX 4 (cN 4 rfl ?_))))));exact aP ⟨i+1,_,_,_,rfl,rfl,rfl,hi,(by have h1:=ki out (x.1,x.2);omega),hI.less hcan hx (by omega)⟩ rfl
 .refine aa rfl (aO rfl) (zl 15 rfl ?_);refine cV rfl (fun hd=>?_) (fun hd=>?_)
  .have hd:done=false:=by simpa using hd
   subst hd;refine zc 4 rfl (aj ko rfl (kd (an (c)) (c) (aG _) (Br.use (by omega))) (zl 1 rfl (aK rfl (qy (r:=3) (ys:=[V.one (ab.own 3 n),V.agg [ab.val (.int .i64 (v:Int)),ab.val (.bool (bx c)),ae (ah (aN c)),ae (ah (aQ c))]]) (V.one (ab.own 3 (n+1))) rfl pT rfl rfl (pE out (by omega) v c (by omega)) (kj _ _)) ?_)));refine zl 12 rfl (nI 2 (ls':=[El.row bE (nz out (v,c)),ab.val (.bool (bx f.c)),ae (ah (aN f.c)),ae (ah (aQ f.c))]) rfl rfl (dH.gf bE (nz out (v,c)) rfl (by decide)) ⟨.inr ⟨rfl,rfl⟩,.inl rfl,.inl rfl,.inl rfl,trivial⟩ ?_);exact av ai rfl (by rw[<-hI.Ua (by omega)])
  .have hd:done=true:=by simpa using hd
   subst hd;refine zc 11 rfl (nI 2 (ls':=[El.row bE out,ab.val (.bool (bx f.c)),ae (ah (aN f.c)),ae (ah (aQ f.c))]) rfl rfl (dH.gf bE out rfl (by decide)) ⟨.inr ⟨rfl,rfl⟩,.inl rfl,.inl rfl,.inl rfl,trivial⟩ ?_);exact av ai rfl (by rw[<-hI.T8 (by omega)])
theorem OW(f g:Af){B C:Nat}(cf:b6 f.ts)(cg:b6 g.ts)(hf:∀t∈f.ts,Br t.2 B)(hg:∀t∈g.ts,Br t.2 C)[Br f.c B][Br g.c C](hBC:B+C<=100000000000)(hlf:f.ts.length<=400)(hlg:g.ts.length<=400)(hv:∀t∈g.ts,t.1<1000000):ar Tryz.prog 149 [bL f,bL g] (R.one (bL ⟨ep f.ts g.ts,f.c+g.c⟩)):=by
 refine aF Tryz.func149 Tryz.ntmps149 rfl (fun w0 A0=>?_);refine zc 8 rfl (aE 1 [(8,3),(9,3)] [3] (dz 6 rfl (ax kY rfl (kC (an (f.c)) (f.c) (aG _) (Br.use (by omega)) (an (g.c)) (g.c) (aG _) (Br.use (by omega))) (dz 3 rfl (aB (za 8 rfl (km [0] rfl ?_)))))));refine bH (fun m Γ H=>∃(i:Nat) (out:List Tm),g.ts.length-i=m/\Γ=[(3,some (D.ptr 1 0)),(4,some (D.ptr 2 0)),(5,some (D.ptr 3 0)),(6,some (D.val (.int .i64 (i:Int))))]/\H=[none,au 37 (b7 g),au 37 [El.row bE ([]),ab.val (.bool false),ae ([]),ae ([])],au 37 [El.row bE out,ab.val (.bool (bx ((f.c)+(g.c)))),ae (ah (aN ((f.c)+(g.c)))),ae (ah (aQ ((f.c)+(g.c))))]]/\i<=g.ts.length/\out=ep f.ts (g.ts.take i)) ⟨0,f.ts,rfl,rfl,rfl,XS _,rfl⟩ rfl ?_;rintro m Γ H ⟨i,out,rfl,rfl,rfl,hi0,hout⟩;refine zc 6 rfl (aa rfl (aw rfl) ?_);by_cases hi:i<g.ts.length
 .refine aa rfl (aX rfl) (zl 7 rfl ?_);obtain⟨x,hx⟩:∃x,g.ts[i]?=some x:=⟨_,XM hi⟩;haveI hbx:=hg x (XR hx);have hvx:=hv x (XR hx);have hlo:out.length<=800:=by rw[hout];exact XY (wN _ _) (by simp;omega)
  have hco:b6 out:=by rw[hout];exact qQ cf
  have hbo:∀t∈out,Br t.2 (B+C+1):=by rw[hout];exact Ab cf (J8 cg) hf (fun t ht=>hg t (YB ht))
  refine aE 0 [(14,3)] [3] (cK [] rfl (jC rfl rfl rfl (by decide) iE (by decide) (XU rfl) rfl) (dz 3 rfl (af rfl (aS i hx rfl) (af rfl (dW rfl) (af rfl (bB rfl) (dz 3 rfl (af rfl (aS i hx rfl) (af rfl (dW rfl) (af rfl (bo rfl) ?_)))))))));refine ax TP rfl (Ot ⟨out,f.c+g.c⟩ x.1 x.2 hco hbo (by omega) (by show out.length<=1000;omega) (by omega)) (dz 1 rfl (aB (za 4 rfl (aa rfl (aL (i+1) rfl) (zl 2 rfl ?_)))));exact aP ⟨i+1,_,rfl,rfl,rfl,hi,by rw[hout,M8 hx]⟩ rfl
 .refine aa rfl (aO rfl) (zl 9 rfl ?_);have hie:i=g.ts.length:=by omega
  rw[hie,Yo] at hout;have hlo:out.length<=800:=by rw[hout];exact XY (wN _ _) (by omega)
  refine aE 0 [(7,2)] [2] (fh rfl (DS rfl jI kA) (dz 2 rfl ?_));obtain⟨ti3,hi3,hz3,hs3,hb3⟩:=SE;refine fh rfl (DU bE out rfl rfl rfl (by decide) jI jI hi3 hz3 hs3 rfl (by simp only[maxLen];omega) (by rw[hb3];omega)) (dz 4 rfl (aB (za 1 rfl ?_)));exact av ai rfl (by subst hout;rfl)
theorem mM(f:Af)(c:Rat){B n:Nat}[ff:Fm f.ts B n]{D C:Nat}[fc:Br f.c D][Br c C](h:B+D+C<=300000000000)(hn:n<=1000):ar Tryz.prog 57 [bL f,V.agg (qL (c))] (R.one (bL ⟨dA f.ts c,f.c*c⟩)):=by
 haveI:=fc.mono (show D<=B+D by omega);exact Oi f c (B:=B+D) (C:=C) (fun t ht=>(ff.bd t ht).mono (by omega)) (by omega) (XY ff.len hn)
theorem AW(f g:Af){B n:Nat}[ff:Fm f.ts B n]{C m:Nat}[fg:Fm g.ts C m]{D E:Nat}[fc:Br f.c D][gc:Br g.c E](h:B+D+C+E<=100000000000)(hn:n<=400)(hm:m<=400):ar Tryz.prog 149 [bL f,bL g] (R.one (bL ⟨ep f.ts g.ts,f.c+g.c⟩)):=by
 haveI:=fc.mono (show D<=B+D by omega);haveI:=gc.mono (show E<=C+E by omega);exact OW f g (B:=B+D) (C:=C+E) ff.can fg.can (fun t ht=>(ff.bd t ht).mono (by omega)) (fun t ht=>(fg.bd t ht).mono (by omega)) (by omega) (XY ff.len hn) (XY fg.len hm) fg.var
theorem lJ(f g:Af){B n:Nat}[ff:Fm f.ts B n]{C m:Nat}[fg:Fm g.ts C m]{D E:Nat}[fc:Br f.c D][gc:Br g.c E](h:B+D+C+E<=90000000000)(hn:n<=400)(hm:m<=400):ar Tryz.prog 96 [bL f,bL g] (R.one (bL ⟨ep f.ts (dA g.ts ((-1:Int):Rat)),f.c+g.c*((-1:Int):Rat)⟩)):=by
 refine aF Tryz.func96 Tryz.ntmps96 rfl (fun w0 A0=>?_);haveI:Br ((-1:Int):Rat) 2:=Br.m8 (by decide) (by decide);refine zc 8 rfl (aE 0 [(5,2)] [2] (dz 2 rfl (ax oG rfl (mP (-1) (by decide) (by decide)) (ax nj rfl (mM ⟨g.ts,g.c⟩ (((-1):Int):Rat) (by omega) (by omega)) (ax Cd rfl (AW ⟨f.ts,f.c⟩ ⟨dA g.ts (((-1):Int):Rat),g.c*(((-1):Int):Rat)⟩ (by omega) (by omega) (by omega)) (dz 1 rfl (aB (za 1 rfl ?_))))))));exact av ai rfl rfl
theorem pF(l:List Nat)(k n:Nat)(hn:0<n)(hn2:n<=1000)(hl:l.length<=1000000)(hk:k<=l.length)(hb:∀x∈l,x<256):iQ Tryz.prog 147 169 [El.row dP l,ab.val (.int .i64 (k:Int))] [El.row dP l,ab.val (.int .i64 ((nk l k:Nat):Int))] [V.one (ab.val (.int .i64 ((n:Int))))] (R.one (V.one (ab.val (.int .i64 ((nx l k n:Int)))))):=by
 refine iQ.gO Tryz.func147 rfl Tryz.ntmps147 (XU rfl) (fun w0 A0 bk hX=>?_);refine jO (zc 7 rfl (aE 0 [] [] (dz 8 rfl (af rfl (aw rfl) ?_))));by_cases hlk:l.length<=k
 .refine af rfl (dR rfl) (aB (za 7 rfl ?_));exact qt (fun _ _ h=>h) rfl rfl (by rw[Qz hlk] <;> rfl) rfl (by rw[QG hlk]) hX
 .refine af rfl (dY rfl) (aB (za 5 rfl ?_));obtain⟨x,hx⟩:∃x,l[k]?=some x:=⟨_,XM (by omega)⟩;have hx2:=hb x (XR hx);refine zc 5 rfl (aa rfl (aL (k+1) rfl) (zl 6 rfl (aE 0 [] [] (dz 8 rfl (af rfl (b9 k rfl) (af rfl (aS k hx rfl) (af rfl (bB rfl) (af rfl (oy x rfl) (dz 1 rfl ?_)))))))));refine af rfl (fR rfl rfl rfl (by omega) (r:=((x%n:Nat):Int)) (fB _ _)) (dz 1 rfl (aB (za 1 rfl ?_)));exact qt (fun _ _ h=>h) rfl rfl (by rw[Qy hx]) rfl (by rw[QF (by omega)] <;> rfl) hX
theorem xw(l:List Nat)(k:Nat)(hl:l.length<=1000000)(hk:k<=l.length)(hb:∀x∈l,x<256):iQ Tryz.prog 148 169 [El.row dP l,ab.val (.int .i64 (k:Int))] [El.row dP l,ab.val (.int .i64 ((nk l (nk l k):Nat):Int))] [] (R.one (V.agg (qL (ef l k)))):=by
 refine iQ.gO Tryz.func148 rfl Tryz.ntmps148 (XU rfl) (fun w0 A0 bk hX=>?_);refine jO ?_;have h9:nx l k 9<9:=g7 (by decide);have hd1:=Bi (nx l (nk l k) 4);refine zc 8 rfl (aK rfl (jD rfl pZ rfl rfl rfl rfl (pF l k 9 (by first|decide|omega) (by first|decide|omega) hl (by first|assumption|exact di (by assumption)) hb)) (aa rfl (du rfl rfl rfl (r:=((nx l k 9:Nat):Int)-4) (bS (by omega) (by omega) (by omega))) (aa rfl (DO rfl z0 rfl gj fW rfl) (zl 1 rfl ?_))));refine aK rfl (jD rfl pZ rfl rfl rfl rfl (pF l (nk l k) 4 (by first|decide|omega) (by first|decide|omega) hl (by first|assumption|exact di (by assumption)) hb)) (aa rfl (WW (nx l (nk l k) 4) rfl rfl rfl gj fW (g7 (by decide)) (QI (g7 (by decide)))) ?_);refine aj ye rfl (w4 (((nx l k 9:Nat):Int)-4) ((nd (nx l (nk l k) 4):Nat):Int) (by omega) (by omega) (by omega) (by omega) (by omega)) (zl 14 rfl ?_);exact qt (fun _ _ h=>h) rfl (⟨_,_,rfl,rfl,.inl ⟨jm,XU rfl,rfl⟩⟩) rfl rfl rfl hX
theorem ya(l:List Nat)(k n:Nat)(hn:n<=100)(hl:l.length<=1000000)(hk:k<=l.length)(hb:∀x∈l,x<256):iQ Tryz.prog 91 169 [El.row dP l,ab.val (.int .i64 (k:Int))] [El.row dP l,ab.val (.int .i64 (((en l k n).2:Nat):Int))] [V.one (ab.val (.int .i64 ((n:Int))))] (R.one (bL (en l k n).1)):=by
 refine iQ.gO Tryz.func91 rfl Tryz.ntmps91 (XU rfl) (fun w0 A0 bk hX=>?_);refine jO (zc 8 rfl (aK rfl (jD rfl yi rfl rfl rfl rfl (xw l k hl (by first|assumption|exact di (by assumption)) hb)) (zl 12 rfl ?_)));refine bH (fun m Γ H=>∃(i:Nat) (out:Af) (q:Nat),n-i=m/\Γ=[(0,some (D.ptr 0 0)),(1,some (D.val (.int .i64 (n:Int)))),(4,some (D.ptr 1 0)),(5,some (D.ptr 2 0)),(6,some (D.val (.int .i64 (i:Int))))]/\H=[dB 169 [El.row dP l,ab.val (.int .i64 (q:Int))] bk,au 37 [El.row bE ([]),ab.val (.bool false),ae ([]),ae ([])],au 37 (b7 out)]/\i<=n/\(out,q)=en l k i) ⟨0,⟨[],ef l k⟩,_,rfl,rfl,rfl,XS _,rfl⟩ rfl ?_;rintro m Γ H ⟨i,out,q,rfl,rfl,rfl,hi0,hs⟩;refine zc 5 rfl ?_;by_cases hi:i<n
 .refine aa rfl (aX rfl) (zl 8 rfl ?_);have hok:=BV l k hk i (by omega);rw[<-hs] at hok;obtain⟨hfm,hfc,hq⟩:=hok;haveI:Fm out.ts (20*i) i:=hfm;haveI:Br out.c (20*i+6):=hfc;have hk:q<=l.length:=hq;haveI:=uo l (nk l q);haveI:Br ((1:Int):Rat) 2:=Br.m8 (by decide) (by decide);haveI:=Fm.one (v:=i) (c:=((1:Int):Rat)) (by omega) (by decide);refine zc 2 rfl (aK rfl (jD rfl pZ rfl rfl rfl rfl (pF l q 3 (by first|decide|omega) (by first|decide|omega) hl (by first|assumption|exact di (by assumption)) hb)) ?_);by_cases hx:0<nx l q 3
  .refine aa rfl (dQ rfl) (zl 3 rfl (aE 0 [(4,0),(7,2)] [0,2] (cK [0] rfl (jC rfl rfl rfl (by decide) iE (by decide) (XU rfl) rfl) (dz 1 rfl (ax vc rfl (tN i (by omega)) (dz 1 rfl (cH 0 rfl (wc rfl yi rfl rfl rfl rfl (xw l (nk l q) hl (by first|assumption|exact di (by assumption)) hb)) ?_)))))));refine ax nj rfl (mM ⟨[(i,((1:Int):Rat))],0⟩ (ef l (nk l q)) (by omega) (by omega)) (ax Cd rfl (AW ⟨out.ts,out.c⟩ ⟨dA ([(i,((1:Int):Rat))]) (ef l (nk l q)),0*(ef l (nk l q))⟩ (by omega) (by omega) (by omega)) (dz 1 rfl (aB (za 4 rfl (aa rfl (aL (i+1) rfl) (zl 2 rfl ?_))))));exact aP ⟨i+1,⟨_,_⟩,_,rfl,rfl,rfl,by omega,by rw[x8,<-hs];exact(if_pos hx).symm⟩ rfl
  .refine aa rfl (cD rfl) (zl 8 rfl (aa rfl (aL (i+1) rfl) (zl 2 rfl ?_)));exact aP ⟨i+1,_,_,rfl,rfl,rfl,by omega,by rw[x8,<-hs];exact(if_neg hx).symm⟩ rfl
 .refine aa rfl (aO rfl) (zl 9 rfl ?_);have hie:i=n:=by omega
  subst hie;refine zc 5 rfl ?_;exact qt (fun _ _ h=>h) rfl (⟨_,_,rfl,rfl,.inl ⟨iE,XU rfl,rfl⟩⟩) (by rw[<-hs] <;> rfl) rfl (by rw[<-hs]) hX
end Go.Proofs.YtakccfmgipajnaaGreatDoor

namespace Go.Proofs.YtakccfmgipajnaaGreatDoor
open Go Go.RowKit Rc
theorem SR(l:List Nat)(k:Nat)(hl:l.length<=1000000)(hk:k<=l.length)(hb:∀x∈l,x<256):iQ Tryz.prog 89 169 [El.row dP l,ab.val (.int .i64 (k:Int))] [El.row dP l,ab.val (.int .i64 (((dC l k).2:Nat):Int))] [] (R.one (sn (dC l k).1)):=by
 refine iQ.gO Tryz.func89 rfl Tryz.ntmps89 (XU rfl) (fun w0 A0 bk hX=>?_);refine jO ?_;have h1:nx l k 3<3:=g7 (by decide);have h2:nx l (nk l k) 5<5:=g7 (by decide);have h3:nx l (nk l (nk l k)) 3<3:=g7 (by decide);have hk1:=di hk;have hk2:=di hk1;have hk3:=di hk2;refine zc 2 rfl (aK rfl (oX (n:=1) rfl z6 rfl) (zl 5 rfl (aK rfl (jD rfl pZ rfl rfl rfl rfl (pF l k 3 (by first|decide|omega) (by first|decide|omega) hl (by first|assumption|exact di (by assumption)) hb)) (aa rfl (aL (1+nx l k 3) rfl) (aa rfl (nN rfl z6 rfl Pt rfl) (aK rfl (oX (n:=2) rfl z6 rfl) (zl 6 rfl ?_)))))));refine aK rfl (jD rfl pZ rfl rfl rfl rfl (pF l (nk l k) 5 (by first|decide|omega) (by first|decide|omega) hl (by first|assumption|exact di (by assumption)) hb)) (zl 1 rfl ?_);refine aK rfl (jD rfl pZ rfl rfl rfl rfl (pF l (nk l (nk l k)) 3 (by first|decide|omega) (by first|decide|omega) hl (by first|assumption|exact di (by assumption)) hb)) (aa rfl (aL (1+nx l (nk l (nk l k)) 3) rfl) (zl 6 rfl ?_));refine nK 2 37 4 (ls':=[ab.val (.int .i64 ((1+nx l k 3:Nat):Int)),ab.own 3 0,ab.val (.slice none 0 0)]) rfl rfl rfl ⟨.inl rfl,.inr ⟨rfl,rfl⟩,.inl rfl,trivial⟩ (zc 5 rfl ?_);refine bH (fun m Γ H=>∃(i:Nat) (n:Nat) (out:List Af) (q:Nat),(nx l (nk l k) 5)-i=m/\Γ=[(0,some (D.ptr 0 0)),(2,some (D.ptr 1 0)),(3,some (D.ptr 2 0)),(4,some (D.val (.int .i64 ((nx l (nk l k) 5:Nat):Int)))),(5,some (D.val (.int .i64 ((1+nx l (nk l (nk l k)) 3:Nat):Int)))),(6,some (D.val (.int .i64 (i:Int))))]/\H=[dB 169 [El.row dP l,ab.val (.int .i64 (q:Int))] bk,au 27 [ab.val (.int .i64 0),ab.val (.slice none 0 0),ab.val (.slice none 0 0)],au 27 [ab.val (.int .i64 (((1+nx l k 3):Nat):Int)),ab.own 3 n,ab.val (.slice none 0 0)],dO 37 4 bC out n]/\i<=(nx l (nk l k) 5)/\(out,q)=ew l (fun j=>1+nx l k 3+j) (nk l (nk l (nk l k))) i) ⟨0,0,[],_,rfl,rfl,rfl,XS _,rfl⟩ rfl ?_;rintro m Γ H ⟨i,n,out,q,rfl,rfl,rfl,hi0,hs⟩;refine zc 5 rfl ?_;by_cases hi:i<(nx l (nk l k) 5)
 .refine aa rfl (aX rfl) (zl 7 rfl ?_);have hol:=congrArg (fun p=>p.1.length) hs;simp only[kW] at hol;have hq:q<=l.length:=by have:=oF (l:=l) (f:=(fun j=>1+nx l k 3+j)) (k:=(nk l (nk l (nk l k)))) (di (di (di hk))) (fun _=>.inr trivial) (fun j hj=>by omega) i (by omega);rw[<-hs] at this;exact this
  refine aE 0 [(7,0),(9,3),(11,2)] [0,3,2] (dz 1 rfl (cK [0,3] rfl (kU rfl) (dz 2 rfl (cK [0,3] rfl (kU rfl) (dz 1 rfl (af rfl (aL (1+nx l k 3+i) rfl) (cH 0 rfl (wc rfl yb rfl rfl rfl rfl (ya l q (1+nx l k 3+i) (by omega) hl (by assumption) hb)) ?_)))))));refine fh rfl (fun _=>b8 rfl zW iE zZ rfl (by decide) (by decide) rfl (by decide) rfl) (cH 3 rfl (ib (e:=bC) (⟨(en l q (1+nx l k 3+i)).1.ts,(en l q (1+nx l k 3+i)).1.c⟩) rfl rfl) (dz 2 rfl (aB (za 4 rfl (aa rfl (aL (i+1) rfl) (zl 2 rfl ?_))))));exact aP ⟨i+1,_,_,_,rfl,rfl,rfl,hi,by rw[sw,<-hs]⟩ rfl
 .refine aa rfl (aO rfl) (zl 10 rfl ?_);have hie:i=(nx l (nk l k) 5):=by omega
  subst hie;refine nK 2 37 4 (ls':=[ab.val (.int .i64 (((1+nx l k 3):Nat):Int)),ab.own 3 n,ab.own 4 0]) rfl rfl rfl ⟨.inl rfl,.inl rfl,.inr ⟨rfl,rfl⟩,trivial⟩ (zc 5 rfl ?_);refine bH (fun m Γ H=>∃(i:Nat) (n2:Nat) (out2:List Af) (q2:Nat),(1+nx l (nk l (nk l k)) 3)-i=m/\Γ=[(0,some (D.ptr 0 0)),(2,some (D.ptr 1 0)),(3,some (D.ptr 2 0)),(4,some (D.val (.int .i64 ((nx l (nk l k) 5:Nat):Int)))),(5,some (D.val (.int .i64 ((1+nx l (nk l (nk l k)) 3:Nat):Int)))),(7,some (D.val (.int .i64 (i:Int))))]/\H=[dB 169 [El.row dP l,ab.val (.int .i64 (q2:Int))] bk,au 27 [ab.val (.int .i64 0),ab.val (.slice none 0 0),ab.val (.slice none 0 0)],au 27 [ab.val (.int .i64 (((1+nx l k 3):Nat):Int)),ab.own 3 n,ab.own 4 n2],dO 37 4 bC out n,dO 37 4 bC out2 n2]/\i<=(1+nx l (nk l (nk l k)) 3)/\(out2,q2)=ew l (fun _=>1+nx l k 3+(nx l (nk l k) 5)) (ew l (fun j=>1+nx l k 3+j) (nk l (nk l (nk l k))) (nx l (nk l k) 5)).2 i) ⟨0,0,[],_,rfl,rfl,rfl,XS _,(by rw[<-hs];rfl)⟩ rfl ?_;rintro m Γ H ⟨i,n2,out2,q2,rfl,rfl,rfl,hj0,hs2⟩;refine zc 5 rfl ?_;by_cases hj:i<(1+nx l (nk l (nk l k)) 3)
  .refine aa rfl (aX rfl) (zl 7 rfl ?_);have hol2:=congrArg (fun p=>p.1.length) hs2;simp only[kW] at hol2;have hq2:q2<=l.length:=by have:=oF (l:=l) (f:=(fun _=>1+nx l k 3+(nx l (nk l k) 5))) (k:=(ew l (fun j=>1+nx l k 3+j) (nk l (nk l (nk l k))) (nx l (nk l k) 5)).2) (oF (di (di (di hk))) (fun _=>.inr trivial) (fun j hj=>by omega) _ (by omega)) (fun _=>.inr trivial) (fun j hj=>by omega) i (by omega);rw[<-hs2] at this;exact this
   refine aE 0 [(7,0),(9,4),(11,2)] [0,4,2] (dz 1 rfl (cK [0,4] rfl (kU rfl) (dz 2 rfl (cK [0,4] rfl (kU rfl) (dz 1 rfl (af rfl (aL ((1+nx l k 3)+(nx l (nk l k) 5)) rfl) (cH 0 rfl (wc rfl yb rfl rfl rfl rfl (ya l q2 ((1+nx l k 3)+(nx l (nk l k) 5)) (by omega) hl (by assumption) hb)) ?_)))))));refine fh rfl (fun _=>b8 rfl zW iE zZ rfl (by decide) (by decide) rfl (by decide) rfl) (cH 4 rfl (ib (e:=bC) (⟨(en l q2 ((1+nx l k 3)+(nx l (nk l k) 5))).1.ts,(en l q2 ((1+nx l k 3)+(nx l (nk l k) 5))).1.c⟩) rfl rfl) (dz 2 rfl (aB (za 4 rfl (aa rfl (aL (i+1) rfl) (zl 2 rfl ?_))))));exact aP ⟨i+1,_,_,_,rfl,rfl,rfl,hj,by rw[sw,<-hs2]⟩ rfl
  .refine aa rfl (aO rfl) (zl 9 rfl ?_);have hie:i=(1+nx l (nk l (nk l k)) 3):=by omega
   subst hie;refine zc 5 rfl (nI 1 (ls':=[ab.val (.int .i64 (((1+nx l k 3):Nat):Int)),El.row bC out,ab.own 4 n2]) rfl rfl (dH.gf bC out rfl (by decide)) ⟨.inl rfl,.inr ⟨rfl,rfl⟩,.inl rfl,trivial⟩ ?_);refine nI 1 (ls':=[ab.val (.int .i64 (((1+nx l k 3):Nat):Int)),El.row bC out,El.row bC out2]) rfl rfl (dH.gf bC out2 rfl (by decide)) ⟨.inl rfl,.inl rfl,.inr ⟨rfl,rfl⟩,trivial⟩ ?_;exact qt (fun _ _ h=>h) rfl (⟨_,_,rfl,rfl,.inl ⟨MH,XU rfl,rfl⟩⟩) (by unfold dC;rw[<-hs2,<-hs]) rfl (by unfold dC;rw[<-hs2]) hX
theorem Nw(l:List Nat)(k ag:Nat)(hn:ag<=100)(hl:l.length<=1000000)(hk:k<=l.length)(hb:∀x∈l,x<256):iQ Tryz.prog 90 169 [El.row dP l,ab.val (.int .i64 (k:Int))] [El.row dP l,ab.val (.int .i64 (((ke l k ag).2:Nat):Int))] [V.one (ab.val (.int .i64 ((ag:Int))))] (R.one (rl (ke l k ag).1)):=by
 refine iQ.gO Tryz.func90 rfl Tryz.ntmps90 (XU rfl) (fun w0 A0 bk hX=>?_);refine jO (zc 2 rfl (aK rfl (oX (n:=1) rfl EB rfl) (zl 4 rfl (aK rfl (oX (n:=2) rfl EB rfl) (zl 4 rfl (nK 2 35 3 (ls':=[ab.own 3 0,ab.val (.slice none 0 0),ab.val (.slice none 0 0)]) rfl rfl rfl ⟨.inr ⟨rfl,rfl⟩,.inl rfl,.inl rfl,trivial⟩ ?_))))));refine nK 2 35 3 (ls':=[ab.own 3 0,ab.own 4 0,ab.val (.slice none 0 0)]) rfl rfl rfl ⟨.inl rfl,.inr ⟨rfl,rfl⟩,.inl rfl,trivial⟩ (zc 5 rfl ?_);refine bH (fun m Γ H=>∃(i:Nat) (n1 n2:Nat) (lo up:List Rat) (q:Nat),ag-i=m/\Γ=[(0,some (D.ptr 0 0)),(1,some (D.val (.int .i64 (ag:Int)))),(4,some (D.ptr 1 0)),(5,some (D.ptr 2 0)),(6,some (D.val (.int .i64 (i:Int))))]/\H=[dB 169 [El.row dP l,ab.val (.int .i64 (q:Int))] bk,au 30 [ab.val (.slice none 0 0),ab.val (.slice none 0 0),ab.val (.slice none 0 0)],au 30 [ab.own 3 n1,ab.own 4 n2,ab.val (.slice none 0 0)],dO 35 3 bw lo n1,dO 35 3 bw up n2]/\i<=ag/\((lo,up),q)=gJ l k i) ⟨0,0,0,[],[],_,rfl,rfl,rfl,XS _,rfl⟩ rfl ?_;rintro m Γ H ⟨i,n1,n2,lo,up,q,rfl,rfl,rfl,hi0,hs⟩;refine zc 5 rfl ?_;by_cases hi:i<ag
 .refine aa rfl (aX rfl) (zl 8 rfl ?_);obtain⟨e1,e2⟩:=vO l k i;have hq:=zd hk i;rw[<-hs] at e1 e2 hq;simp only[] at e1 e2 hq;have hq1:=di hq;have hq2:=di hq1;haveI:=uo l q;haveI:=uo l (nk l (nk l q));refine zc 2 rfl (aK rfl (jD rfl yi rfl rfl rfl rfl (xw l q hl (by first|assumption|exact di (by assumption)) hb)) (zl 1 rfl (aK rfl (jD rfl yi rfl rfl rfl rfl (xw l (nk l (nk l q)) hl (by first|assumption|exact di (by assumption)) hb)) (zl 12 rfl (aE 0 [(4,3),(11,4),(13,2),(15,2)] [3,4,2] (dz 1 rfl ?_))))));refine cK [3,4] rfl (kU rfl) (dz 1 rfl (fh rfl (fun _=>b8 rfl qN jm qO rfl (by decide) (by decide) rfl (by decide) rfl) (cH 3 rfl (ib (ef l q) rfl rfl) (dz 1 rfl (cK [3,4] rfl (kU rfl) (dz 2 rfl ?_))))));refine ax kY rfl (kC (an (ef l q)) (ef l q) (aG _) (Br.use (by omega)) (Qr.mk false (ah (aN (ef l (nk l (nk l q))))) (ah (aQ (ef l (nk l (nk l q))))) (bh _) (bh _)) (rq false (aN (ef l (nk l (nk l q)))) (aQ (ef l (nk l (nk l q))))) (O3 (aZ _) (aZ _)) (Fit.mk (Br.use (r:=ef l (nk l (nk l q))) (by omega)).n (Br.use (r:=ef l (nk l (nk l q))) (by omega)).d)) ?_;refine fh rfl (fun _=>b8 rfl qN jm qO rfl (by decide) (by decide) rfl (by decide) rfl) (cH 4 rfl (ib ((ef l q)+(rq false (aN (ef l (nk l (nk l q)))) (aQ (ef l (nk l (nk l q)))))) rfl rfl) (dz 4 rfl (aB (za 4 rfl (aa rfl (aL (i+1) rfl) (zl 2 rfl (cX 5 (cX 6 (cN 5 rfl ?_)))))))));exact aP ⟨i+1,_,_,_,_,_,rfl,rfl,rfl,hi,by rw[zb,<-hs];rfl⟩ rfl
 .refine aa rfl (aO rfl) (zl 10 rfl ?_);have hie:ag=i:=by omega
  subst hie;have hq:=zd hk ag;rw[<-hs] at hq;have hq:q<=l.length:=hq;have hm3:nx l q 3<3:=g7 (by decide);have hqk:=di hq;refine nK 2 37 4 (ls':=[ab.own 3 n1,ab.own 4 n2,ab.own 5 0]) rfl rfl rfl ⟨.inl rfl,.inl rfl,.inr ⟨rfl,rfl⟩,trivial⟩ (zc 2 rfl (aK rfl (jD rfl pZ rfl rfl rfl rfl (pF l q 3 (by first|decide|omega) (by first|decide|omega) hl (by first|assumption|exact di (by assumption)) hb)) (zl 4 rfl ?_)));refine bH (fun m Γ H=>∃(i:Nat) (n3:Nat) (out:List Af) (q2:Nat),(nx l q 3)-i=m/\Γ=[(0,some (D.ptr 0 0)),(1,some (D.val (.int .i64 (ag:Int)))),(4,some (D.ptr 1 0)),(5,some (D.ptr 2 0)),(9,some (D.val (.int .i64 ((((nx l q 3)-i):Nat):Int))))]/\H=[dB 169 [El.row dP l,ab.val (.int .i64 (q2:Int))] bk,au 30 [ab.val (.slice none 0 0),ab.val (.slice none 0 0),ab.val (.slice none 0 0)],au 30 [ab.own 3 n1,ab.own 4 n2,ab.own 5 n3],dO 35 3 bw lo n1,dO 35 3 bw up n2,dO 37 4 bC out n3]/\i<=(nx l q 3)/\(out,q2)=ew l (fun _=>ag) (nk l q) i) ⟨0,0,[],_,rfl,rfl,rfl,XS _,rfl⟩ rfl ?_;rintro m Γ H ⟨i,n3,out,q2,rfl,rfl,rfl,hj0,hs2⟩;refine zc 4 rfl ?_;by_cases hj:i<(nx l q 3)
  .refine aa rfl (dQ rfl) (zl 7 rfl ?_);have hol:=congrArg (fun p=>p.1.length) hs2;simp only[kW] at hol;have hq2:q2<=l.length:=by have:=oF (l:=l) (f:=(fun _=>ag)) (k:=(nk l q)) hqk (fun _=>.inr trivial) (fun j hj=>by omega) i (by omega);rw[<-hs2] at this;exact this
   refine aE 0 [(4,0),(6,5),(8,2)] [0,5,2] (dz 1 rfl (cK [0,5] rfl (kU rfl) (dz 2 rfl (cH 0 rfl (wc rfl yb rfl rfl rfl rfl (ya l q2 ag (by omega) hl (by assumption) hb)) (fh rfl (fun _=>b8 rfl zW iE zZ rfl (by decide) (by decide) rfl (by decide) rfl) (cH 5 rfl (ib (e:=bC) (⟨(en l q2 ag).1.ts,(en l q2 ag).1.c⟩) rfl rfl) ?_))))));refine dz 2 rfl (aB (za 4 rfl (aa rfl (b9 ((nx l q 3)-(i+1)) rfl) (zl 2 rfl ?_))));exact aP ⟨i+1,_,_,_,rfl,rfl,rfl,(by omega),by rw[sw,<-hs2]⟩ rfl
  .refine aa rfl (cD rfl) (zl 9 rfl ?_);have hie:i=(nx l q 3):=by omega
   subst hie;refine zc 5 rfl (nI 1 (ls':=[El.row bw lo,ab.own 4 n2,ab.own 5 n3]) rfl rfl (dH.gf bw lo rfl (by decide)) ⟨.inr ⟨rfl,rfl⟩,.inl rfl,.inl rfl,trivial⟩ (nI 1 (ls':=[El.row bw lo,El.row bw up,ab.own 5 n3]) rfl rfl (dH.gf bw up rfl (by decide)) ⟨.inl rfl,.inr ⟨rfl,rfl⟩,.inl rfl,trivial⟩ ?_));refine nI 1 (ls':=[El.row bw lo,El.row bw up,El.row bC out]) rfl rfl (dH.gf bC out rfl (by decide)) ⟨.inl rfl,.inl rfl,.inr ⟨rfl,rfl⟩,trivial⟩ ?_;exact qt (fun _ _ h=>h) rfl (⟨_,_,rfl,rfl,.inl ⟨MG,XU rfl,rfl⟩⟩) (by unfold ke;rw[<-hs,<-hs2]) rfl (by unfold ke;rw[<-hs,<-hs2]) hX
theorem O2(l:List Nat)(k:Nat)(hl:l.length<=1000000)(hk:k<=l.length)(hb:∀x∈l,x<256):iQ Tryz.prog 53 169 [El.row dP l,ab.val (.int .i64 (k:Int))] [El.row dP l,ab.val (.int .i64 (((tZ l k).2:Nat):Int))] [] (R.one (n7 (tZ l k).1)):=by
 refine iQ.gO Tryz.func53 rfl Tryz.ntmps53 (XU rfl) (fun w0 A0 bk hX=>?_);refine jO ?_;have hg:=Ij l k;have h1:=hg.i1;have h2:=hg.i3;have h3:=hg.u4;have hk1:=SQ hk;have hk2:=OJ (n:=(dC l k).1.ag) hk1 (by omega);refine zc 8 rfl (aK rfl (jD rfl Tn rfl rfl rfl rfl (SR l k hl (by assumption) hb)) (zl 9 rfl (aK rfl (jD rfl Tj rfl rfl rfl rfl (Nw l ((dC l k).2) ((dC l k).1.ag) (by omega) hl (by assumption) hb)) (zl 5 rfl (aE 0 [(9,0),(11,1)] [0,1] (dz 7 rfl (af rfl (aw rfl) ?_)))))));refine af rfl (aL (((dC l k).1.ag)+(((dC l k).1.us).length)) rfl) (cH 0 rfl (wc rfl yb rfl rfl rfl rfl (ya l ((ke l ((dC l k).2) ((dC l k).1.ag)).2) (((dC l k).1.ag)+(((dC l k).1.us).length)) (by omega) hl (by assumption) hb)) (dz 2 rfl (aB (za 1 rfl ?_))));exact qt (fun _ _ h=>h) rfl (⟨_,_,rfl,rfl,.inl ⟨MF,XU rfl,rfl⟩⟩) rfl rfl rfl hX
theorem Su(l:List Nat)(hl:l.length<=1000000)(hb:∀x∈l,x<256):ar Tryz.prog 18 [V.one (El.row dP l)] (R.one (n7 (tZ l 0).1)):=by
 refine aF Tryz.func18 Tryz.ntmps18 rfl (fun w0 A0=>?_);have hk0:0<=l.length:=XS _;refine zc 8 rfl ?_;refine Wi rfl rfl Tryz.func54 rfl rfl Tryz.ntmps54 (XU rfl) rfl (fun a1 d1 s1=>?_);refine jO (zc 7 rfl (aK rfl (DS rfl zX MD _) (zl 1 rfl ?_)));obtain⟨ti2,hi2,hz2,hs2,hb2⟩:=SD;refine aK rfl (DU dP l rfl rfl rfl (by decide) zX zX hi2 hz2 hs2 rfl (by simp only[maxLen];omega) (by rw[hb2];omega) (H2:=_)) (zl 5 rfl (Wp [(2,some (D.ptr 0 0))] (fun _ _ h=>h) d1 s1 rfl rfl rfl ⟨rfl,trivial⟩ (aK rfl (jD rfl Tv rfl rfl rfl rfl (O2 l 0 hl (by assumption) hb)) (zl 3 rfl ?_))));exact av ai rfl rfl
theorem N4(l:List Af)(vars:Nat){B n:Nat}(hA:∀f∈l,Fm f.ts B n/\Br f.c B)(hB:B<=300000000000)(hn:n<=1000)(hl:l.length<=1000)(hv:vars<=1000000):ar Tryz.prog 75 [V.one (El.row bC l),V.one (ab.val (.int .i64 ((vars:Int))))] (R.one (V.one (ab.val (.bool (decide (∀f∈l,∀t∈f.ts,t.1<vars)))))):=by
 refine aF Tryz.func75 Tryz.ntmps75 rfl (fun w0 A0=>?_);refine zc 12 rfl (bH (fun m Γ H=>∃(i:Nat),l.length-i=m/\Γ=[(0,some (D.v (V.one (El.row bC l)))),(1,some (D.val (.int .i64 (vars:Int)))),(5,some (D.val (.int .i64 (i:Int))))]/\H=[]/\i<=l.length/\∀f∈l.take i,∀t∈f.ts,t.1<vars) ⟨0,rfl,rfl,rfl,XS _,by simp⟩ rfl ?_);rintro m Γ H ⟨i,rfl,rfl,rfl,hi0,hall⟩;refine zc 5 rfl (aa rfl (aw rfl) ?_);by_cases hi:i<l.length
 .refine aa rfl (aX rfl) (zl 8 rfl ?_);obtain⟨x,hx⟩:∃x,l[i]?=some x:=⟨_,XM hi⟩;obtain⟨hxm,hxc⟩:=hA x (XR hx);refine zc 3 rfl (aa rfl (aS i hx rfl) (aa rfl (bo rfl) (zl 1 rfl (aj BZ rfl (Fo x vars hxm.can hxm.bd hB (XY hxm.len hn) hv) (zl 3 rfl ?_)))));refine cV rfl (fun hc18=>?_) (fun hc18=>?_)
  .refine zc 5 rfl ?_;exact av ai rfl (by rw[VF hx (by simpa using hc18)])
  .refine zc 5 rfl (aa rfl (aL (i+1) rfl) (zl 2 rfl ?_));exact aP ⟨i+1,rfl,rfl,rfl,hi,M4 hx hall (by simpa using hc18)⟩ rfl
 .refine aa rfl (aO rfl) (zl 13 rfl ?_);exact av ai rfl (by rw[decide_eq_true (show ∀f∈l,∀t∈f.ts,t.1<vars from by rw[show i=l.length by omega,Yo] at hall;exact hall)])
theorem Fl(f:Af){b n:Nat}(h:c9 b n f)(hb:b<=1000000000)(vars:Nat)(hv:n<=vars)(hv2:vars<=1000):ar Tryz.prog 74 [bL f,V.one (ab.val (.int .i64 ((vars:Int))))] (R.one (V.one (ab.val (.bool true)))):=by
 haveI:=h.br;have e:=Fo f vars (B:=b+1) h.can (fun t ht=>(h.bd t ht).br) (by omega) (XY h.len (by omega)) (by omega)
 rwa [decide_eq_true (fun t ht=>XZ (h.var t ht) hv)] at e
theorem Fk(l:List Af){b n:Nat}(h:∀f∈l,c9 b n f)(hb:b<=1000000000)(hl:l.length<=1000)(vars:Nat)(hv:n<=vars)(hv2:vars<=1000):ar Tryz.prog 75 [V.one (El.row bC l),V.one (ab.val (.int .i64 ((vars:Int))))] (R.one (V.one (ab.val (.bool true)))):=by
 have e:=N4 l vars (B:=b+1) (n:=n) (fun f hf=>⟨(h f hf).fm (by omega),(h f hf).br⟩) (by omega) (by omega) hl (by omega)
 rwa [decide_eq_true (fun f hf t ht=>XZ ((h f hf).var t ht) hv)] at e
theorem FB(l:List Rat){B:Nat}(h:∀x∈l,Br x B)(hB:B<=100000)(hl:l.length<=1000):ar Tryz.prog 114 [V.one (El.row bw l)] (R.one (V.one (ab.val (.bool true)))):=by
 refine aF Tryz.func114 Tryz.ntmps114 rfl (fun w0 A0=>?_);refine zc 12 rfl (bH (fun m Γ H=>∃(i:Nat),l.length-i=m/\Γ=[(0,some (D.v (V.one (El.row bw l)))),(3,some (D.val (.int .i64 (i:Int))))]/\H=[]/\i<=l.length) ⟨0,rfl,rfl,rfl,XS _⟩ rfl ?_);rintro m Γ H ⟨i,rfl,rfl,rfl,hi0⟩;refine zc 5 rfl (aa rfl (aw rfl) ?_);by_cases hi:i<l.length
 .refine aa rfl (aX rfl) (zl 8 rfl ?_);obtain⟨x,hx⟩:∃x,l[i]?=some x:=⟨_,XM hi⟩;haveI hbx:=h x (XR hx);refine zc 3 rfl (aa rfl (aS i hx rfl) (aa rfl (bo rfl) (aj p5 rfl (pk (an x) x (aG _) (Br.use (by omega))) (bT true rfl (kV _) (zl 9 rfl (aa rfl (aL (i+1) rfl) (zl 2 rfl ?_)))))));exact aP ⟨i+1,rfl,rfl,rfl,hi⟩ rfl
 .refine aa rfl (aO rfl) (zl 13 rfl ?_);exact av ai rfl rfl
theorem BN(g:Gr)(hg:oZ g):ar Tryz.prog 37 [sn g] (R.one (V.one (ab.val (.bool true)))):=by
 refine aF Tryz.func37 Tryz.ntmps37 rfl (fun w0 A0=>?_);have h1:=hg.i1;have h2:=hg.i3;have h3:=hg.u4;have h4:=hg.o1;have h5:=hg.o3;refine zc 11 rfl (aa rfl (aO rfl) (zl 3 rfl (aa rfl (cD rfl) (zl 4 rfl (aa rfl (aw rfl) (aa rfl (cD rfl) (zl 4 rfl (aa rfl (aw rfl) (aa rfl (aO rfl) ?_)))))))));refine zl 4 rfl (aa rfl (aw rfl) (aa rfl (cD rfl) (zl 13 rfl (bH (fun m Γ H=>∃(i:Nat),g.us.length-i=m/\Γ=[(1,some (D.ptr 0 0)),(3,some (D.val (.int .i64 (i:Int))))]/\H=[au 27 [ab.val (.int .i64 ((g.ag:Nat):Int)),El.row bC g.us,El.row bC g.os]]/\i<=g.us.length) ⟨0,rfl,rfl,rfl,XS _⟩ rfl ?_))));rintro m Γ H ⟨i,rfl,rfl,rfl,hi0⟩;refine zc 6 rfl (aa rfl (aw rfl) ?_);by_cases hi:i<g.us.length
 .refine aa rfl (aX rfl) (zl 8 rfl ?_);obtain⟨x,hx⟩:∃x,g.us[i]?=some x:=⟨_,XM hi⟩;have hxo:=hg.us i x hx;refine aE 0 [] [] (dz 3 rfl (af rfl (aS i hx rfl) (af rfl (bo rfl) (dz 3 rfl (af rfl (aL (g.ag+i) rfl) (ax BZ rfl (Fl x hxo (by omega) (g.ag+i) (XP _) (by omega)) (dz 1 rfl (aB (za 7 rfl ?_)))))))));refine aa rfl (aL (i+1) rfl) (zl 2 rfl ?_);exact aP ⟨i+1,rfl,rfl,rfl,hi⟩ rfl
 .refine aa rfl (aO rfl) (zl 16 rfl (aa rfl (aw rfl) (aa rfl (aL (g.ag+g.us.length) rfl) (aj IF rfl (Fk g.os hg.os (by omega) (by omega) (g.ag+g.us.length) (XP _) (by omega)) (zl 3 rfl ?_)))));exact av ai rfl rfl
theorem Mg(g:Gr)(hg:oZ g):ar Tryz.prog 262 [sn g] (R.one (V.one (ab.val (.int .i64 (((g.ag+g.us.length:Nat):Int)))))):=by
 refine aF Tryz.func262 Tryz.ntmps262 rfl (fun w0 A0=>?_);have h1:=hg.i1;have h2:=hg.i3;have h3:=hg.u4;have h4:=hg.o1;have h5:=hg.o3;refine zc 10 rfl (aj B5 rfl (BN g (by assumption)) (zl 12 rfl (aa rfl (aw rfl) (aa rfl (aL (g.ag+g.us.length) rfl) (zl 3 rfl ?_)))));exact av ai rfl rfl
theorem FO(r:Rg)(n:Nat)(hr:nL n r)(hn1:1<=n)(hn3:n<=3):ar Tryz.prog 73 [rl r,V.one (ab.val (.int .i64 ((n:Int))))] (R.one (V.one (ab.val (.bool true)))):=by
 refine aF Tryz.func73 Tryz.ntmps73 rfl (fun w0 A0=>?_);have h1:=hr.lo;have h2:=hr.hi;have h3:=hr.r2;refine zc 10 rfl (aa rfl (aO rfl) (zl 2 rfl (aa rfl (cD rfl) (zl 4 rfl (aa rfl (aw rfl) (zl 1 rfl (aa rfl (eg rfl) (zl 4 rfl (aa rfl (aw rfl) ?_)))))))));refine zl 1 rfl (aa rfl (eg rfl) (zl 4 rfl (aa rfl (aw rfl) (aa rfl (cD rfl) (zl 11 rfl ?_)))));refine aj I4 rfl (FB r.lo (B:=4) (fun x hx=>by obtain⟨j,hj⟩:=xD hx;obtain⟨y,hy⟩:∃y,r.hi[j]?=some y:=⟨_,XM (by have:=(XN.1 hj).1;omega)⟩;exact(hr.bd j _ _ hj hy).1.br) (by omega) (by omega)) ?_;refine zl 4 rfl ?_;refine aj I4 rfl (FB r.hi (B:=8) (fun x hx=>by obtain⟨j,hj⟩:=xD hx;obtain⟨y,hy⟩:∃y,r.lo[j]?=some y:=⟨_,XM (by have:=(XN.1 hj).1;omega)⟩;exact(hr.bd j _ _ hy hj).2.1.br) (by omega) (by omega)) ?_;refine zl 6 rfl (aj IF rfl (Fk r.rows hr.rows (by omega) (by omega) n (XP _) (by omega)) (zl 14 rfl ?_));refine bH (fun m Γ H=>∃(i:Nat),n-i=m/\Γ=[(1,some (D.val (.int .i64 (n:Int)))),(2,some (D.ptr 0 0)),(5,some (D.val (.int .i64 (i:Int))))]/\H=[au 30 [El.row bw r.lo,El.row bw r.hi,El.row bC r.rows]]/\i<=n) ⟨0,rfl,rfl,rfl,XS _⟩ rfl ?_;rintro m Γ H ⟨i,rfl,rfl,rfl,hi0⟩;refine zc 5 rfl ?_;by_cases hi:i<n
 .refine aa rfl (aX rfl) (zl 8 rfl ?_);obtain⟨x,hx⟩:∃x,r.lo[i]?=some x:=⟨_,XM (by omega)⟩;obtain⟨y,hy⟩:∃y,r.hi[i]?=some y:=⟨_,XM (by omega)⟩;obtain⟨hb1,hb2,hxy⟩:=hr.bd i x y hx hy;haveI:=hb1.br;haveI:=hb2.br;refine aE 0 [] [] (dz 3 rfl (af rfl (aS i hx rfl) (af rfl (bo rfl) (dz 3 rfl (af rfl (aS i hy rfl) (af rfl (bo rfl) (ax pW rfl (pv (an (x)) (x) (aG _) (Br.use (by omega)) (an (y)) (y) (aG _) (Br.use (by omega))) (af rfl (cD rfl (by have:=vB.2 hxy;omega)) (aB ?_)))))))));refine za 7 rfl (aa rfl (aL (i+1) rfl) (zl 2 rfl ?_));exact aP ⟨i+1,rfl,rfl,rfl,hi⟩ rfl
 .refine aa rfl (aO rfl) (zl 13 rfl ?_);exact av ai rfl rfl
theorem OZ(q:Qu)(hq:dt q):ar Tryz.prog 211 [n7 q] (R.one (V.one (ab.val (.bool true)))):=by
 refine aF Tryz.func211 Tryz.ntmps211 rfl (fun w0 A0=>?_);have hg:=hq.g;have hr:=hq.r;have h1:=hg.i1;have h2:=hg.i3;have h3:=hg.u4;have h4:=hg.o1;have h5:=hg.o3;refine zc 7 rfl (aE 0 [] [] (dz 2 rfl (ax B5 rfl (BN q.g (by assumption)) (dz 6 rfl (ax IG rfl (FO q.r q.g.ag (by assumption) (by omega) (by omega)) (dz 6 rfl (ax TD rfl (Mg q.g (by assumption)) (ax BZ rfl (Fl q.goal hq.goal (by omega) (q.g.ag+q.g.us.length) (XP _) (by omega)) (dz 2 rfl ?_)))))))));refine aB (za 1 rfl ?_);exact av ai rfl rfl
end Go.Proofs.YtakccfmgipajnaaGreatDoor
