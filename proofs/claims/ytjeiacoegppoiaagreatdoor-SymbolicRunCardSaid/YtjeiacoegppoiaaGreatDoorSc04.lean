/- Parts of the proof, 4: the texts FwU, FwV, FwW, Mac, as far as they are used. -/
import Derived.Test.YtjeiacoegppoiaaGreatDoorSc03
import Derived.KernelRfl
set_option linter.unusedSimpArgs false
set_option linter.unusedVariables false
set_option maxRecDepth 10000
namespace Rc
open Go Go.RowKit
def zmU(A:zbX)(u sz:Nat)(ls:List Leaf)(lo:Nat)(v:Value)(w':World)(X:zbX->Prop):Prop:=
 (v = .slice none 0 0/\ls=[]/\∃A':zbX,X A'/\∀k j,A' k j->A k j\/(lo<=k/\k<w'.heap.size)) \/ ∃(A':zbX) (b cap:Nat) (cs rest:List Value),v = .slice (some ⟨b,0,none⟩) (ls.length/sz) cap/\lo<=b/\w'.heap[b]?=some (.cells (cs++rest).toArray u (0,0)) ∧
  (cs++rest).length=cap*sz/\cap<=maxLen/\denL (Foot.of A') ls cs w'/\(∀j,ls.length<=j->¬A' b j)/\(∀k j,A' k j->A k j\/(lo<=k/\k<w'.heap.size))/\X A'
@[reducible] def zAk(A:zbX)(u sz:Nat)(ls:List Leaf)(lo:Nat)(v:Value)(w':World):Prop:=zmU A u sz ls lo v w' (fun _=>True)
def CtrG(P:Program)(f u sz:Nat)(ls:List Leaf)(xs:List V):Prop:=
 ∀(w:World) (vs:List Value) (A:zbX),ztP w->(∀k j,A k j->k<w.heap.size)->denVs (Foot.of A) xs vs w →
  Calls P f vs.toArray w fun e w'=>∃v,e = .returned v/\zAk A u sz ls w.heap.size v w'/\Below w.heap.size w w'
def zAg(P:Program)(fn:Func)(w0:Frm)(A0:Foot)(u sz:Nat)(ls:List Leaf):Exit->Act->World->Prop:=
 bodyPost P fn fun e w'=>∃v,e = .returned v/\zAk A0.c u sz ls w0.w.heap.size v w'/\w0.Bel w'
theorem CtrG.of_body{P:Program}{f N u sz:Nat}{fn:Func}{c:Code}{ls:List Leaf}{xs:List V}(hf:P.funcs[f]?=some fn)(hb:fn.body=some c)(hN:fn.ntmps=N)(hl:xs.length<=min N 2000)
  (h:∀w0 A0,(∀k,¬w0.X k)->Tc P (zAg P fn w0 A0 u sz ls) w0 A0 N (zeJ 0 xs) [] c):CtrG P f u sz ls xs:=by
 intro w vs A hg hA hd;have hlen:=hd.length;refine Calls.mono (calls_of_wp hf hb (R:=fun e w'=>∃v,e = .returned v/\zAk A u sz ls w.heap.size v w'/\(Frm.of w).Bel w') ?_) (fun e w' ⟨v,h1,h2,h3⟩=>⟨v,h1,h2,h3.to_below⟩);refine h (Frm.of w) (Foot.of A) (fun _ h=>h) _ _ ⟨⟨fun _=>0,fun _=>0,fun _=>false,Foot.of A⟩,Frm.Bel.refl (Frm.of w) hg (fun _ _ h=>h),hA,fun k j hk=>.inl hk,rfl,?_,?_,fun i e he=>by simp at he,fun i j e e' he=>by simp at he,fun i e v he=>by simp at he,fun i m v hv=>by simp at hv,fun k j hk=>⟨hk,rfl⟩⟩
 .simp;omega
 .intro s d hs;obtain⟨x,v,rfl,_,h2,h3⟩:=zcn xs vs 0 s d hd hs;refine⟨trivial,v,?_,h3⟩;simp only[Nat.sub_zero] at h2;have hlt:=(zEr.1 h2).1;rw[zbS (by simp;omega),Array.getElem?_append_left (by simpa using hlt)];simpa using h2
section
variable {P:Program}{Q:Exit->Act->World->Prop}{w0:Frm}{A0:Foot}{N:Nat}{Γ:Gam}{H:Hp}
theorem Good.foot_new{E:Env}{a:Act}{w:World}(hG:Good w0 A0 N Γ H E a w)(hX:∀k,¬w0.X k)(k j:Nat)(hA:E.A.c k j):A0.c k j\/(w0.w.heap.size<=k/\k<w.heap.size):=by
 rcases hG.foot0 k j hA with h|h|h
 .exact .inl h
 .exact .inr ⟨h,hG.foot k j hA⟩
 .exact absurd h (hX _)
theorem Good.hand0{E:Env}{a:Act}{w:World}(hG:Good w0 A0 N Γ H E a w)(hX:∀k,¬w0.X k){u sz:Nat}{ls:List Leaf}{v:Value}(hv:v = .slice none 0 0)(hls:ls=[]){X:zbX->Prop}(hx:X E.A.c):zmU A0.c u sz ls w0.w.heap.size v w X:=
 .inl ⟨hv,hls,E.A.c,hx,hG.foot_new hX⟩
theorem Good.hand{E:Env}{a:Act}{w:World}(hG:Good w0 A0 N Γ H E a w)(hX:∀k,¬w0.X k){u sz i n k:Nat}{ls:List Leaf}{v:Value}(hd:E.A.g i n=some v)
  (hH:H[i]?=some (some ⟨u,ls,some sz,some (.inr (k,some n))⟩)) (hk:k=ls.length) (hcl:clL ls=true) {X:zbX->Prop} (hx:X E.A.c):zmU A0.c u sz ls w0.w.heap.size v w X:=by
 subst hk;obtain⟨g1,g2⟩:=hG.boxes i _ hH;have hkn:=(hG.kn i _ n hH ⟨_,rfl⟩).1;rw[hd] at hkn;have hv:v=HE.name E i ⟨u,ls,some sz,some (.inr (ls.length,some n))⟩:=Option.some.inj hkn;unfold HE.ok at g1;unfold HE.name at hv;simp only at g1 hv;cases hn:E.nil i
 .rw[hn] at hv g1;simp only[zEL,if_false] at hv g1;obtain⟨hm,cs,rest,h1,h2,h3⟩:=g1;obtain⟨g3,g4⟩:=g2 hn;refine .inr ⟨E.A.c,E.b i,E.cap i,cs,rest,hv,?_,h1,h2,hm,h3.pure hcl,g4,hG.foot_new hX,hx⟩;rcases g3 with g3|g3
  .exact g3
  .exact absurd g3 (hX _)
 .rw[hn] at hv g1;simp only[if_true] at hv g1;exact hG.hand0 hX hv g1.1 hx
theorem zvK{u sz s:Nat}{fn:Func}{ls':List Leaf}(hQ:∀a w,zAg P fn w0 A0 u sz ls' .ret a w->Q .ret a w)(hr:fn.results = #[.tmp s])(hs:zbP Γ s=some (D.val (.slice none 0 0)))(hls:ls'=[]):Tc P Q w0 A0 N Γ H .ret:=by
 intro a w hSt;obtain⟨E,hG⟩:=hSt;obtain⟨_,v,hv2,hd⟩:=hG.tmp hs;have hd:v = .slice none 0 0:=hd.1;refine wp_ret (hQ a w ⟨hG.defers,v,?_,v,rfl,.inl ⟨hd,hls,fun _ _=>False,trivial,fun _ _ h=>h.elim⟩,hG.below⟩);rw[za7,hr];simp[zdP,hv2]
theorem zz4{u sz s i n k:Nat}{fn:Func}{ls ls':List Leaf}(hQ:∀a w,zAg P fn w0 A0 u sz ls' .ret a w->Q .ret a w)(hX:∀k,¬w0.X k)(hr:fn.results = #[.tmp s])(hs:zbP Γ s=some (D.v (V.one (Leaf.own i n))))
  (hH:H[i]?=some (some ⟨u,ls,some sz,some (.inr (k,some n))⟩)) (hls:ls=ls') (hk:k=ls.length:=by rfl) (hcl:clL ls=true:=by first|rfl|exact El.all_cl _ _):Tc P Q w0 A0 N Γ H .ret:=by
 intro a w hSt;obtain⟨E,hG⟩:=hSt;subst hls;obtain⟨_,v,hv2,hd⟩:=hG.tmp hs;have hd:E.A.g i n=some v:=hd.1;refine wp_ret (hQ a w ⟨hG.defers,v,by rw[za7,hr];simp[zdP,hv2],v,rfl,hG.hand hX hd hH hk hcl trivial,hG.below⟩)
theorem Good.adoptX{E:Env}{a:Act}{w w':World}(h:Good w0 A0 N Γ H E a w)(hb:Below w.heap.size w w'){i u sz:Nat}(hi:H[i]?=some none){v:Value}{ls:List Leaf}{X:zbX->Prop}(hv:zmU E.A.c u sz ls w.heap.size v w' X)(hcl:clL ls=true)(hsz:0<sz) :
  ∃E',Good w0 A0 N Γ (H.set i (some ⟨u,ls,some sz,some (.inr (ls.length,some 0))⟩)) E' a w'/\E'.A.g i 0=some v/\v.oneCell'=true/\∃A':zbX,X A'/\∀k j,A' k j->E'.A.c k j:=by
 have hil:=(zEr.1 hi).1;have hk:kept E.A w w':=zdy fun k j hk=>hb.block k (h.foot k j hk);have hs0:w0.w.heap.size<=w.heap.size:=h.below.size;have hg0:∀m,E.A.g i m=none:=by
  intro m
  cases hm:E.A.g i m with
  |none=>rfl
  |some x=>
   obtain⟨e,k,n,q1,_⟩:=h.gd _ m x hm;rw[hi] at q1;simp at q1
 have hno:∀s d,zbD Γ s=some d->d.nm≠some i:=by
  intro s d hsd hnm;obtain⟨e,he,_⟩:=D.okn_iff.1 (h.slots s d hsd).1 i hnm;rw[hi] at he;simp at he
 obtain⟨A',nl,b,cap,hXA,hA',hrow,hname,hfree,hbs⟩:∃(A':zbX) (nl:Bool) (b cap:Nat),X A'/\(∀k j,A' k j->E.A k j\/(w.heap.size<=k/\k<w'.heap.size)) ∧
   (if nl=true then ls=[]/\cap=0 else cap<=maxLen/\∃cs rest:List Value,w'.heap[b]?=some (.cells (cs++rest).toArray u (0,0))/\(cs++rest).length=cap*sz/\denL (Foot.of A') ls cs w') ∧
   v=(if nl=true then .slice none 0 0 else .slice (some ⟨b,0,none⟩) (ls.length/sz) cap)/\(nl=false->∀j,ls.length<=j->¬A' b j)/\(nl=false->w.heap.size<=b/\b<w'.heap.size):=by
  rcases hv with⟨h1,h2,A',h3,h4⟩|⟨A',b,cap,cs,rest,h1,h2,h3,h4,h5,h6,h7,h8,h9⟩
  .exact⟨A',true,0,0,h3,h4,⟨h2,rfl⟩,h1,fun h=>by simp at h,fun h=>by simp at h⟩
  .exact⟨A',false,b,cap,h9,h8,⟨h5,cs,rest,h3,h4,h6⟩,h1,fun _=>h7,fun _=>⟨h2,(zEO.1 h3).1⟩⟩
 have hone:v.oneCell'=true:=by rw[hname];split <;> rfl
 let A2:Foot:=⟨fun k j=>E.A k j\/A' k j\/(nl=false/\k=b/\j<ls.length),fun x m=>if x=i/\m=0 then some v else E.A.g x m⟩
 let E':Env:=⟨fun x=>if x=i then b else E.b x,fun x=>if x=i then cap else E.cap x,fun x=>if x=i then nl else E.nil x,A2⟩
 have hle:Foot.le E.A A2:=⟨fun x j hx=>.inl hx,fun x m y hy=>by
  show(if x=i/\m=0 then some v else E.A.g x m)=some y;rw[if_neg]
  .exact hy
  .rintro⟨rfl,rfl⟩;rw[hg0] at hy;simp at hy⟩
 have back:∀(j:Nat) (e1:HE),(H.set i (some ⟨u,ls,some sz,some (.inr (ls.length,some 0))⟩))[j]?=some (some e1)->(j=i/\e1=⟨u,ls,some sz,some (.inr (ls.length,some 0))⟩)\/(j≠i/\H[j]?=some (some e1)):=by
  intro j e1 hj;by_cases hij:i=j
  .subst hij;rw[zEH hil] at hj;simp only[zEs] at hj;exact .inl ⟨rfl,hj.symm⟩
  .rw[zEE hij] at hj;exact .inr ⟨fun e=>hij e.symm,hj⟩
 refine⟨E',⟨h.below.then (hb.mono hs0),?_,?_,h.defers,h.size,?_,?_,?_,?_,?_,h.old.keep hle.1 hk⟩,if_pos ⟨rfl,rfl⟩,hone,A',hXA,fun k j hj=>.inr (.inl hj)⟩
 .intro k j hA;rcases hA with hA|hA|⟨h1,h2,_⟩
  .exact zEy (h.foot k j hA) hb.size
  .rcases hA' k j hA with hA|hA
   .exact zEy (h.foot k j hA) hb.size
   .exact hA.2
  .rw[h2];exact(hbs h1).2
 .intro k j hA;rcases hA with hA|hA|⟨h1,h2,_⟩
  .exact h.foot0 k j hA
  .rcases hA' k j hA with hA|hA
   .exact h.foot0 k j hA
   .exact .inr (.inl (zEz hs0 hA.1))
  .rw[h2];exact .inr (.inl (zEz hs0 (hbs h1).1))
 .intro s d hs;obtain⟨ho,x,hx,hd⟩:=h.slots s d hs;have hn:=hno s d hs;refine⟨D.okn_mono ho (fun y e1 hy he1 hv1=>⟨e1,?_,hv1⟩),x,hx,?_⟩
  .have:i≠y:=fun e=>hn (by rw[hy,e]);rw[zEE this];exact he1
  .have hd:=D.den_keep hk hd;rcases d with x|xs|⟨y,o⟩|⟨y,q⟩
   .exact V.den_mono hle hd
   .obtain⟨vs,rfl,hvs⟩:=hd;exact⟨vs,rfl,hvs.mono hle⟩
   .have:y≠i:=fun e=>hn (by rw[<-e];rfl);simp only[D.den,E',if_neg this] at hd ⊢;exact hd
   .have:y≠i:=fun e=>hn (by rw[<-e];rfl);simp only[D.den,E',if_neg this] at hd ⊢;exact hd
 .intro j e1 hj;rcases back j e1 hj with⟨rfl,rfl⟩|⟨hij,hj'⟩
  .refine⟨?_,fun hn=>?_⟩
   .unfold HE.ok;simp only[E',if_true];cases hnl:nl
    .rw[hnl] at hrow;simp only[zEL,if_false] at hrow ⊢;obtain⟨h1,cs,rest,h2,h3,h4⟩:=hrow;exact⟨h1,cs,rest,h2,h3,h4.mono ⟨fun k j hk=>.inr (.inl hk),fun _ _ _ h=>by simp at h⟩⟩
    .rw[hnl] at hrow;simp only[if_true] at hrow ⊢;exact hrow
   .simp only[E',if_true] at hn ⊢;refine⟨.inl (zEz hs0 (hbs hn).1),fun x hx hA=>?_⟩;have hx:ls.length<=x:=hx;rcases hA with hA|hA|⟨_,_,h3⟩
    .have:=h.foot _ _ hA;have:=(hbs hn).1;omega
    .exact hfree hn x hx hA
    .omega
  .obtain⟨g1,g2⟩:=h.boxes j e1 hj';refine⟨?_,fun hn=>?_⟩
   .have g3:=HE.ok_grow hle (HE.ok_keep hk (fun hn=>hb.block _ (HE.ok_lt g1 hn)) g1);unfold HE.ok at g3 ⊢;simp only[E',if_neg hij] at g3 ⊢;exact g3
   .simp only[E',if_neg hij] at hn ⊢;refine⟨(g2 hn).1,fun x hx hA=>?_⟩;have hlt:=HE.ok_lt g1 hn;rcases hA with hA|hA|⟨h1,h2,_⟩
    .exact(g2 hn).2 x hx hA
    .rcases hA' _ _ hA with hA|hA
     .exact(g2 hn).2 x hx hA
     .omega
    .have:=(hbs h1).1;omega
 .have old:∀(j:Nat) (e:HE),j≠i->(H.set i (some ⟨u,ls,some sz,some (.inr (ls.length,some 0))⟩))[j]?=some (some e)->E.nil j=false->E.b j<w.heap.size:=by
   intro j e hj hje hn;rcases back j e hje with⟨h1,_⟩|⟨_,h2⟩
   .exact absurd h1 hj
   .exact HE.ok_lt (h.boxes j e h2).1 hn
  intro j1 j2 e1 e2 g1 g2 n1 n2 h12;by_cases h1:j1=i
  .have h2:j2≠i:=fun e=>h12 (h1.trans e.symm);simp only[E',if_neg h2,if_pos h1] at n1 n2 ⊢;have:=old j2 e2 h2 g2 n2;have:=(hbs n1).1;omega
  .by_cases h2:j2=i
   .simp only[E',if_neg h1,if_pos h2] at n1 n2 ⊢;have:=old j1 e1 h1 g1 n1;have:=(hbs n2).1;omega
   .simp only[E',if_neg h1,if_neg h2] at n1 n2 ⊢;rcases back j1 e1 g1 with⟨q,_⟩|⟨_,g1'⟩
    .exact absurd q h1
    .rcases back j2 e2 g2 with⟨q,_⟩|⟨_,g2'⟩
     .exact absurd q h2
     .exact h.apart j1 j2 e1 e2 g1' g2' n1 n2 h12
 .intro j e1 m hj hm;rcases back j e1 hj with⟨rfl,rfl⟩|⟨hij,hj'⟩
  .obtain⟨k',hm⟩:=hm;simp only[zEs,Sum.inr.injEq,zEu] at hm;obtain⟨_,rfl⟩:=hm;refine⟨?_,fun m' hm'=>?_,fun hn x hx=>?_⟩
   .show(if j=j/\0=0 then some v else E.A.g j 0)=_;rw[if_pos ⟨rfl,rfl⟩];simp only[HE.name,E',if_true];rw[hname]
   .show(if j=j/\m'=0 then some v else E.A.g j m')=none;rw[if_neg (fun e'=>by omega)];exact hg0 m'
   .simp only[E',if_true] at hn ⊢;exact .inr (.inr ⟨hn,rfl,hx⟩)
  .obtain⟨q1,q2,q3⟩:=h.kn j e1 m hj' hm;refine⟨?_,fun m' hm'=>?_,fun hn x hx=>?_⟩
   .show(if j=i/\m=0 then some v else E.A.g j m)=_;rw[if_neg (fun e'=>hij e'.1),q1];unfold HE.name;simp only[E',if_neg hij]
   .show(if j=i/\m'=0 then some v else E.A.g j m')=none;rw[if_neg (fun e'=>hij e'.1)];exact q2 m' hm'
   .simp only[E',if_neg hij] at hn ⊢;exact .inl (q3 hn x hx)
 .intro j m x hg;by_cases hj:j=i
  .subst hj;exact⟨_,_,0,zEH hil,rfl⟩
  .have hg:(if j=i/\m=0 then some v else E.A.g j m)=some x:=hg;rw[if_neg (fun e'=>hj e'.1)] at hg;obtain⟨e1,k1,n1,q1,q2⟩:=h.gd j m x hg;exact⟨e1,k1,n1,by rw[zEE (fun e=>hj e.symm)];exact q1,q2⟩
end
section
variable {P:Program}{ops:Array Oper}{o:Oper}{Γ:Gam}{H:Hp}
def CtrT(P:Program)(f u sz:Nat)(ls:List Leaf)(ys1 ys2:List V)(xs:List V):Prop:=
 ∀(w:World) (vs:List Value) (A:zbX),ztP w->(∀k j,A k j->k<w.heap.size)->denVs (Foot.of A) xs vs w →
  Calls P f vs.toArray w fun e w'=>∃vs1 v vs2,e = .returned (.tuple (vs1++v::vs2).toArray)/\zmU A u sz ls w.heap.size v w' (fun A'=>denVs (Foot.of A') ys1 vs1 w'/\denVs (Foot.of A') ys2 vs2 w')/\Below w.heap.size w w'
def zAf(P:Program)(fn:Func)(w0:Frm)(A0:Foot)(u sz:Nat)(ls:List Leaf)(ys1 ys2:List V):Exit->Act->World->Prop:=
 bodyPost P fn fun e w'=>∃vs1 v vs2,e = .returned (.tuple (vs1++v::vs2).toArray)/\zmU A0.c u sz ls w0.w.heap.size v w' (fun A'=>denVs (Foot.of A') ys1 vs1 w'/\denVs (Foot.of A') ys2 vs2 w')/\w0.Bel w'
theorem CtrT.of_body{P:Program}{f N u sz:Nat}{fn:Func}{c:Code}{ls:List Leaf}{ys1 ys2 xs:List V}(hf:P.funcs[f]?=some fn)(hb:fn.body=some c)(hN:fn.ntmps=N)(hl:xs.length<=min N 2000)
  (h:∀w0 A0,(∀k,¬w0.X k)->Tc P (zAf P fn w0 A0 u sz ls ys1 ys2) w0 A0 N (zeJ 0 xs) [] c):CtrT P f u sz ls ys1 ys2 xs:=by
 intro w vs A hg hA hd;have hlen:=hd.length;refine Calls.mono (calls_of_wp hf hb (R:=fun e w'=>∃vs1 v vs2,e = .returned (.tuple (vs1++v::vs2).toArray)/\zmU A u sz ls w.heap.size v w' (fun A'=>denVs (Foot.of A') ys1 vs1 w'/\denVs (Foot.of A') ys2 vs2 w')/\(Frm.of w).Bel w') ?_) (fun e w' ⟨v1,v,v2,h1,h2,h3⟩=>⟨v1,v,v2,h1,h2,h3.to_below⟩);refine h (Frm.of w) (Foot.of A) (fun _ h=>h) _ _ ⟨⟨fun _=>0,fun _=>0,fun _=>false,Foot.of A⟩,Frm.Bel.refl (Frm.of w) hg (fun _ _ h=>h),hA,fun k j hk=>.inl hk,rfl,?_,?_,fun i e he=>by simp at he,fun i j e e' he=>by simp at he,fun i e v he=>by simp at he,fun i m v hv=>by simp at hv,fun k j hk=>⟨hk,rfl⟩⟩
 .simp;omega
 .intro s d hs;obtain⟨x,v,rfl,_,h2,h3⟩:=zcn xs vs 0 s d hd hs;refine⟨trivial,v,?_,h3⟩;simp only[Nat.sub_zero] at h2;have hlt:=(zEr.1 h2).1;rw[zbS (by simp;omega),Array.getElem?_append_left (by simpa using hlt)];simpa using h2
section
variable {Q:Exit->Act->World->Prop}{w0:Frm}{A0:Foot}{N:Nat}
def rowOk(Γ:Gam)(H:Hp)(u sz:Nat)(ls:List Leaf)(s:Nat):Prop:=
 (zbP Γ s=some (D.val (.slice none 0 0))/\ls=[]) \/ ∃i n k,zbP Γ s=some (D.v (V.one (Leaf.own i n)))/\H[i]?=some (some ⟨u,ls,some sz,some (.inr (k,some n))⟩)/\k=ls.length/\clL ls=true
theorem rowOk.nil{u sz s:Nat}{ls:List Leaf}(h:zbP Γ s=some (D.val (.slice none 0 0)))(hl:ls=[]):rowOk Γ H u sz ls s:=.inl ⟨h,hl⟩
theorem rowOk.own{u sz s i n k:Nat}{ls ls':List Leaf}(h:zbP Γ s=some (D.v (V.one (Leaf.own i n))))(hH:H[i]?=some (some ⟨u,ls,some sz,some (.inr (k,some n))⟩))(hl:ls=ls')(hk:k=ls.length:=by rfl)(hcl:clL ls=true:=by first|rfl|exact El.all_cl _ _):rowOk Γ H u sz ls' s:=by
 subst hl;exact .inr ⟨i,n,k,h,hH,hk,hcl⟩
theorem rowOk.hand{E:Env}{a:Act}{w:World}(hG:Good w0 A0 N Γ H E a w)(hX:∀k,¬w0.X k){u sz s:Nat}{ls:List Leaf}(h:rowOk Γ H u sz ls s){X:zbX->Prop}(hx:X E.A.c):∃v,(zdP a.tmps (.tmp s)).run P w = .ok v w/\zmU A0.c u sz ls w0.w.heap.size v w X:=by
 rcases h with⟨h,hl⟩|⟨i,n,k,h,hH,hk,hcl⟩
 .obtain⟨_,v,hv2,hd⟩:=hG.tmp h;exact⟨v,by simp[zdP,hv2],hG.hand0 hX hd.1 hl hx⟩
 .obtain⟨_,v,hv2,hd⟩:=hG.tmp h;exact⟨v,by simp[zdP,hv2],hG.hand hX hd.1 hH hk hcl hx⟩
theorem zpi{u sz s:Nat}{fn:Func}{r:ResultVar}{y y':V}{ls:List Leaf}(hQ:∀a w,zAf P fn w0 A0 u sz ls [] [y] .ret a w->Q .ret a w)(hX:∀k,¬w0.X k)(hr:fn.results = #[.tmp s,r])
  (hs:rowOk Γ H u sz ls s) (h:zee P Γ H r y') (hy:y'=y) (hcl:y'.cl=true:=by rfl):Tc P Q w0 A0 N Γ H .ret:=by
 intro a w hSt;obtain⟨E,hG⟩:=hSt;subst hy;obtain⟨v',hv',hd'⟩:=zaS hG h;obtain⟨v,hv,hh⟩:=rowOk.hand (P:=P) hG hX hs (X:=fun A'=>denVs (Foot.of A') [] [] w/\denVs (Foot.of A') [y'] [v'] w) ⟨trivial,V.den_pure hcl hd',trivial⟩;refine wp_ret (hQ a w ⟨hG.defers,.tuple #[v,v'],?_,[],v,[v'],rfl,hh,hG.below⟩);rw[za7,hr];simp[hv,hv']
theorem zph{u sz s:Nat}{fn:Func}{r r':ResultVar}{y y1 y' y1':V}{ls:List Leaf}(hQ:∀a w,zAf P fn w0 A0 u sz ls [y] [y1] .ret a w->Q .ret a w)(hX:∀k,¬w0.X k)(hr:fn.results = #[r,.tmp s,r'])
  (h:zee P Γ H r y') (hs:rowOk Γ H u sz ls s) (h':zee P Γ H r' y1') (hy:y'=y) (hy1:y1'=y1) (hcl:y'.cl=true:=by rfl) (hcl1:y1'.cl=true:=by rfl):Tc P Q w0 A0 N Γ H .ret:=by
 intro a w hSt;obtain⟨E,hG⟩:=hSt;subst hy;subst hy1;obtain⟨x,hx,hxd⟩:=zaS hG h;obtain⟨x',hx',hxd'⟩:=zaS hG h';obtain⟨v,hv,hh⟩:=rowOk.hand (P:=P) hG hX hs (X:=fun A'=>denVs (Foot.of A') [y'] [x] w/\denVs (Foot.of A') [y1'] [x'] w) ⟨⟨V.den_pure hcl hxd,trivial⟩,V.den_pure hcl1 hxd',trivial⟩;refine wp_ret (hQ a w ⟨hG.defers,.tuple #[x,v,x'],?_,[x],v,[x'],rfl,hh,hG.below⟩);rw[za7,hr];simp[hv,hx,hx']
end
theorem denVs.glue{A:Foot}{w:World}{v:Value}{y:V}(hv:y.den A v w){ys2:List V}{vs2:List Value}(h2:denVs A ys2 vs2 w):∀{ys1:List V} {vs1:List Value},denVs A ys1 vs1 w->denVs A (ys1++y::ys2) (vs1++v::vs2) w
 |[],[],_=>⟨hv,h2⟩
 |[],_::_,h=>h.elim
 |_::_,[],h=>h.elim
 |_::_,_::_,h=>⟨h.1,denVs.glue hv h2 h.2⟩
theorem zia{f i u sz:Nat}{args:Array Operand}{tys:Array TypeId}{xs ys1 ys2:List V}{ls:List Leaf}(ho:o.op = .call { callee:=.value (.func f),args:=args,argTypes:=tys })(hf:zaq P f)
  (hx:zdC Γ args.toList=some xs) (hspec:CtrT P f u sz ls ys1 ys2 xs) (hsz:0<sz) (hi:H[i]?=some none) (hcl:clL ls=true:=by first|rfl|exact El.all_cl _ _) (hcx:zho xs=true:=by rfl) :
  Je P ops o Γ H (some (D.tup (ys1++V.one (Leaf.own i 0)::ys2))) (H.set i (some ⟨u,ls,some sz,some (.inr (ls.length,some 0))⟩)):=by
 intro w0 A0 N Γ2 a w Q K hs hN hSt hK;obtain⟨E,hG⟩:=hSt;obtain⟨fn,hfn,hb,hn⟩:=hf;have hargs:=zbw (Γ:=Γ) (E:=E) (a:=a) (w:=w) args.toList xs (fun x hx d hd=>(za9 hs hG (x:=x) (by rw[ho];simp[Op.operands,Call.operands];exact .inr (by simpa using hx)) hd).2) hx;have hrun:(execOp a.eval o).run P w = .ok (.enter f (args.map a.eval)) w:=by
  have hn':¬fn.name = "runtime.NumGoroutine":=by simpa using hn
  have hb':¬fn.body=none:=by intro e;rw[e] at hb;simp at hb
  simp[execOp,ho,resolve,Deferred.ofValue,invoke,callFunc,hfn,hn',hb',Act.eval]
 unfold Oper.wp;rw[hrun,Oper.upon_enter];have hc:=hspec w (args.map a.eval).toList E.A.c hG.below.now hG.foot (by have:=hargs.pure hcx;simpa using this);rw[show(args.map a.eval).toList.toArray=args.map a.eval from Array.toArray_toList] at hc;refine Calls.mono hc ?_;rintro e w' ⟨vs1,v,vs2,rfl,hh,hbel⟩;obtain⟨E',hG',hg,hone,A',⟨h1,h2⟩,hle⟩:=hG.adoptX hbel hi hh hcl hsz;have hle':Foot.le (Foot.of A') E'.A:=⟨hle,fun _ _ _ h=>by simp at h⟩;exact hK _ _ ⟨E',hG'.put (fun d hd=>by cases hd;exact⟨trivial,_,rfl,denVs.glue (show(V.one (Leaf.own i 0)).den E'.A v w' from⟨hg,hone⟩) (h2.mono hle') (h1.mono hle')⟩) hN⟩
theorem zvS{f i u sz:Nat}{args:Array Operand}{tys:Array TypeId}{xs:List V}{ls:List Leaf}(ho:o.op = .call { callee:=.value (.func f),args:=args,argTypes:=tys })(hf:zaq P f)
  (hx:zdC Γ args.toList=some xs) (hspec:CtrG P f u sz ls xs) (hsz:0<sz) (hi:H[i]?=some none) (hcl:clL ls=true:=by first|rfl|exact El.all_cl _ _) (hcx:zho xs=true:=by rfl) :
  Je P ops o Γ H (some (D.v (V.one (Leaf.own i 0)))) (H.set i (some ⟨u,ls,some sz,some (.inr (ls.length,some 0))⟩)):=by
 intro w0 A0 N Γ2 a w Q K hs hN hSt hK;obtain⟨E,hG⟩:=hSt;obtain⟨fn,hfn,hb,hn⟩:=hf;have hargs:=zbw (Γ:=Γ) (E:=E) (a:=a) (w:=w) args.toList xs (fun x hx d hd=>(za9 hs hG (x:=x) (by rw[ho];simp[Op.operands,Call.operands];exact .inr (by simpa using hx)) hd).2) hx;have hrun:(execOp a.eval o).run P w = .ok (.enter f (args.map a.eval)) w:=by
  have hn':¬fn.name = "runtime.NumGoroutine":=by simpa using hn
  have hb':¬fn.body=none:=by intro e;rw[e] at hb;simp at hb
  simp[execOp,ho,resolve,Deferred.ofValue,invoke,callFunc,hfn,hn',hb',Act.eval]
 unfold Oper.wp;rw[hrun,Oper.upon_enter];have hc:=hspec w (args.map a.eval).toList E.A.c hG.below.now hG.foot (by have:=hargs.pure hcx;simpa using this);rw[show(args.map a.eval).toList.toArray=args.map a.eval from Array.toArray_toList] at hc;refine Calls.mono hc ?_;rintro e w' ⟨v,rfl,hh,hbel⟩;obtain⟨E',hG',hg,hone,_⟩:=hG.adoptX hbel hi hh hcl hsz;exact hK _ _ ⟨E',hG'.put (fun d hd=>by cases hd;exact⟨trivial,hg,hone⟩) hN⟩
theorem zvT{f i u sz:Nat}{args:Array Operand}{tys:Array TypeId}{xs:List V}{ls:List Leaf}(ho:o.op = .call { callee:=.value (.func f),args:=args,argTypes:=tys })(hf:zaq P f)
  (hx:zdC Γ args.toList=some xs) (hspec:CtrG P f u sz ls xs) (hsz:0<sz) (hi:H[i]?=some none) (hcl:clL ls=true:=by first|rfl|exact El.all_cl _ _) (hcx:zho xs=true:=by rfl) :
  ∀H2:Hp,H2[i]?=H[i]?->Je P ops o Γ H2 (some (D.v (V.one (Leaf.own i 0)))) (H2.set i (some ⟨u,ls,some sz,some (.inr (ls.length,some 0))⟩)):=fun _ hH=>zvS ho hf hx hspec hsz (hH.trans hi) hcl hcx
end
theorem zk5{P:Program}{ops:Array Oper}{Q:Exit->Act->World->Prop}{w0:Frm}{A0:Foot}{N:Nat}{Γ:Gam}{H:Hp}{l:List Oper}(h:Tl P ops Q w0 A0 N Γ (H++[none]) l):Tl P ops Q w0 A0 N Γ H l:=fun a w hs=>h a w (hs.reserve 1)
@[reducible] def ifV(t:Nat)(cs:List Value):Value:=.iface t (.agg cs.toArray)
def zEl(P:Program)(t:Nat):Bool:=match P.underlying t with|some (.interface _)=>true|_=>false
theorem zya{P:Program}{t:Nat}(h:zEl P t=true):∃ms,P.underlying t=some (.interface ms):=by
 unfold zEl at h;split at h
 .exact⟨_,by assumption⟩
 .simp at h
theorem zug{P:Program}{w:World}{t tx:Nat}{vx:Value}(hu:zEl P t=true)(d:Nat):(Op.equalIn (d+1) t (.iface tx vx) .nilIface).run P w = .ok false w:=by
 obtain⟨ms,hu⟩:=zya hu;rw[Op.equalIn];simp[run_underlying hu]
section
variable {P:Program}{ops:Array Oper}{X:List Nat}{o:Oper}{Γ:Gam}{H:Hp}{t u:Nat}{x y:Operand}
theorem zfa{tx:Nat}{vx:Value}(ho:o.op = .binOp .eql t x y u)(hx:opD Γ x=some (D.val (.iface tx vx)))(hy:opD Γ y=some (D.val .nilIface))(h:zEl P t=true):Jq P ops X o Γ H (D.bool false):=by
 intro w0 A0 N Γ2 H2 E a w hs hX hG;have e1:=zbt hs hG (x:=x) (by rw[ho];simp[Op.operands]) hx;have e2:=zbt hs hG (x:=y) (by rw[ho];simp[Op.operands]) hy;have:=zug (tx:=tx) (vx:=vx) (w:=w) h 9999;refine⟨trivial,.bool false,?_,rfl,rfl⟩;simp[execOp,ho,e1,e2,eqGuard,binOp,Op.equal,Op.maxDepth,this]
end
theorem zcY{P:Program}{ops:Array Oper}{Q:Exit->Act->World->Prop}{w0:Frm}{A0:Foot}{N:Nat}{Γ:Gam}{H:Hp}{rest:List Oper}{dst:Option Nat}{a1:Act}{Nc:Nat}{fn:Func}(Γo:Gam)
  (hd:a1.defers=[]) (hs:a1.tmps.size=N) (hN:zcG N dst=true) (hr:fn.results = #[]) (hk:ziI Γ Γo) (hc:Tl P ops Q w0 A0 N (zeq Γo dst (some (D.tup []))) H rest) :
  At (bodyPost P fn (fun e w'=>∃v,e = .returned v/\wpList P ops Q rest (a1.put dst v) w')) (w0.into a1) A0 Nc Γ H .normal:=by
 intro a w hSt;obtain⟨E,hG⟩:=hSt;refine⟨hG.defers,.tuple #[],?_,_,rfl,hc _ _ ⟨E,(hG.leave hd hs hk).put (fun x hx=>by cases hx;exact⟨trivial,[],rfl,trivial⟩) hN⟩⟩;rw[za7,hr];simp
structure FTab where
 fo:List ((Nat×Nat)×Nat×Nat)
 ty:List (Nat×Bool×Nat)
def ztm{α:Type}(p:α->Prop):List α->Prop
 |[]=>True
 |a::l=>p a/\ztm p l
structure FTab.Ok(P:Program)(F:FTab):Prop where
 fo:ztm (fun e=>zai P e.1.1 e.1.2=some e.2) F.fo
 ty:ztm (fun e=>TyIs P e.1 e.2.1 e.2.2) F.ty
def zdW{β:Type}(k:Nat):List (Nat×β)->Option β
 |[]=>none
 |(a,b)::l=>bif Nat.beq a k then some b else zdW k l
def zwJ{β:Type}(k j:Nat):List ((Nat×Nat)×β)->Option β
 |[]=>none
 |((a,c),b)::l=>bif Nat.beq a k&&Nat.beq c j then some b else zwJ k j l
theorem zaZ{β:Type}{p:Nat×β->Prop}{k:Nat}{b:β}:∀{l:List (Nat×β)},ztm p l->zdW k l=some b->p (k,b)
 |[],_,h=>by simp[zdW] at h
 |(a,c)::l,hp,h=>by
  unfold zdW at h;cases hb:Nat.beq a k
  .rw[hb] at h;exact zaZ hp.2 h
  .rw[hb] at h;have:=Nat.eq_of_beq_eq_true hb;simp only[cond_true,zEs] at h;subst this;subst h;exact hp.1
theorem ziM{β:Type}{p:(Nat×Nat)×β->Prop}{k j:Nat}{b:β}:∀{l:List ((Nat×Nat)×β)},ztm p l->zwJ k j l=some b->p ((k,j),b)
 |[],_,h=>by simp[zwJ] at h
 |((a,c),d)::l,hp,h=>by
  unfold zwJ at h;cases hb:(Nat.beq a k&&Nat.beq c j)
  .rw[hb] at h;exact ziM hp.2 h
  .rw[hb] at h;rw[zED] at hb;have h1:=Nat.eq_of_beq_eq_true hb.1;have h2:=Nat.eq_of_beq_eq_true hb.2;simp only[cond_true,zEs] at h;subst h1;subst h2;subst h;exact hp.1
def zwx:Operand->Bool
 |.const (.slice none _ _)=>false
 |_=>true
def ldD(F:FTab)(X:List Nat)(H:Hp)(t i off:Nat):Option D:=
 bif X.contains i then none else
 match H[i]? with
 |some (some e)=>
  match zdW t F.ty with
  |some (true,n)=>bif Nat.blt 0 n&&Nat.ble (off+n) e.ls.length then some (D.agg ((e.ls.drop off).take n)) else none
  |some (false,n)=>
   match e.ls[off]? with
   |some l=>bif Nat.beq n 1 then some (D.v (V.one l)) else none
   |none=>none
  |none=>none
 |_=>none
def zxs(F:FTab)(X:List Nat)(Γ:Gam)(H:Hp):Op->Option D
 |.move x=>bif zwx x then opD Γ x else none
 |.assign x=>bif zwx x then opD Γ x else none
 |.extract x i=>
  match opD Γ x with
  |some (.inr (.inl xs))=>match xs[i]? with
   |some y=>some (.inl y)
   |none=>none
  |_=>none
 |.pick c x y=>
  match opD Γ c with
  |some (.inl (.inl (.inl (.bool b))))=>match b with
   |true=>opD Γ x
   |false=>opD Γ y
  |_=>none
 |.unOp .not _ x=>
  match opD Γ x with
  |some (.inl (.inl (.inl (.bool b))))=>some (D.bool (!b))
  |_=>none
 |.fieldAddr s x f=>
  match opD Γ x with
  |some (.inr (.inr (.inl (i,off))))=>match zwJ s f F.fo with
   |some (fo,sz)=>bif Nat.beq sz 0 then none else some (D.ptr i (off+fo))
   |none=>none
  |_=>none
 |.load t x=>
  match opD Γ x with
  |some (.inr (.inr (.inl (i,off))))=>ldD F X H t i off
  |_=>none
 |.nilCheck x=>
  match opD Γ x with
  |some (.inr (.inr (.inl (i,off))))=>some (D.ptr i off)
  |_=>none
 |_=>none
section
variable {P:Program}{ops:Array Oper}{X:List Nat}{o:Oper}{Γ:Gam}{H:Hp}{F:FTab}
theorem zwE(hF:F.Ok P){t i off:Nat}{x:Operand}{d:D}(ho:o.op = .load t x)(hx:opD Γ x=some (D.ptr i off))(h:ldD F X H t i off=some d):Jq P ops X o Γ H d:=by
 unfold ldD at h;cases hc:X.contains i
 .rw[hc] at h;have hXi:i ∉ X:=fun hm=>by rw[List.contains_iff_mem.2 hm] at hc;simp at hc
  simp only[cond_false] at h;split at h
  .rename_i e hi;split at h
   .rename_i n ht;have ht:TyIs P t true n:=zaZ hF.ty ht;cases hn:(Nat.blt 0 n&&Nat.ble (off+n) e.ls.length)
    .rw[hn] at h;simp at h
    .rw[hn] at h;simp only[cond_true,zEs] at h;simp only[zED,Nat.blt_eq,Nat.ble_eq] at hn;subst h;exact zaI ho hx hi hXi ht hn.1 hn.2 rfl
   .rename_i n ht;have ht:TyIs P t false n:=zaZ hF.ty ht;split at h
    .rename_i l hl;cases hn:Nat.beq n 1
     .rw[hn] at h;simp at h
     .rw[hn] at h;simp only[cond_true,zEs] at h;subst h;have:=Nat.eq_of_beq_eq_true hn;subst this;exact zcD ho hx hi hXi ht hl
    .simp at h
   .simp at h
  .simp at h
 .rw[hc] at h;simp at h
theorem zt9(hF:F.Ok P){d:D}(h:zxs F X Γ H o.op=some d):Jq P ops X o Γ H d:=by
 generalize hop:o.op=op at h;unfold zxs at h;split at h
 .rename_i x;cases hn:zwx x
  .rw[hn] at h;simp at h
  .rw[hn] at h;exact zk9 hop h
 .rename_i x;cases hn:zwx x
  .rw[hn] at h;simp at h
  .rw[hn] at h;exact zcg hop h
 .split at h
  .rename_i xs hx;split at h
   .rename_i y hy;simp only[zEs] at h;subst h;exact zqo hop hx hy
   .simp at h
  .simp at h
 .split at h
  .rename_i b hc;split at h
   .exact ztz hop hc h
   .exact ztA hop hc h
  .simp at h
 .split at h
  .rename_i b hx;simp only[zEs] at h;subst h;exact zD8 hop hx rfl
  .simp at h
 .split at h
  .rename_i i off hx;split at h
   .rename_i fo sz hf;have hf:=ziM hF.fo hf;cases hz:Nat.beq sz 0
    .rw[hz] at h;simp only[cond_false,zEs] at h;subst h;exact zmQ hop hx hf hz
    .rw[hz] at h;simp at h
   .simp at h
  .simp at h
 .split at h
  .rename_i i off hx;exact zwE hF hop hx h
  .simp at h
 .split at h
  .rename_i i off hx;simp only[zEs] at h;subst h;exact znK hop hx
  .simp at h
 .simp at h
def gst(ops:Array Oper)(Γ:Gam)(o:Oper):Option Bool:=
 match o.guard with
 |none=>some true
 |some (j,want)=>match (ops[j]?).bind (·.dst) with
  |some s=>match zbP Γ s with
   |some (.inl (.inl (.inl (.bool b))))=>match b with
    |true=>some want
    |false=>some (!want)
   |some (.inr (.inl []))=>some false
   |_=>none
  |none=>none
theorem gst_f(h:gst ops Γ o=some false):JO P ops X o Γ H (some (D.tup [])) H:=by
 unfold gst at h;split at h
 .simp at h
 .rename_i j want hgd;split at h
  .rename_i s hs;split at h
   .rename_i b hb;split at h
    .simp only[zEs] at h;subst h;exact ztN hgd hs hb
    .simp only[zEs] at h;have:want=true:=by cases want <;> simp_all
     subst this;exact ztN hgd hs hb
   .rename_i hb;exact zvU hgd hs hb
   .simp at h
  .simp at h
theorem DK_no{tl:List (Option Nat)}{n:Nat}{os:List Oper}{K:Gam->Hp->Prop}(h:gst ops Γ o=some false)(hr:DKn P ops tl X (n+1) os (zeq Γ o.dst (some (D.tup []))) H K):DKn P ops tl X n (o::os) Γ H K:=by
 unfold gst at h;split at h
 .simp at h
 .rename_i j want hgd;split at h
  .rename_i s hs;split at h
   .rename_i b hb;split at h
    .simp only[zEs] at h;subst h;exact ztQ hgd hs hb hr
    .simp only[zEs] at h;have:want=true:=by cases want <;> simp_all
     subst this;exact ztQ hgd hs hb hr
   .rename_i hb;exact zvV hgd hs hb hr
   .simp at h
  .simp at h
theorem hq_{α β:Type}{p:α->β->Prop}:∀a w,p a w->p a w:=fun _ _ h=>h
theorem rA{s t i n:Nat}{e:HE}{x:V}(ht:TyIs P t true n)(hs:zbP Γ s=some (D.ptr i 0))(hi:H[i]?=some (some e))(hn:(Nat.beq e.ls.length n&&Nat.blt 0 n)=true)(hx:x=V.agg e.ls):zee P Γ H (.cell s t) x:=by
 simp only[zED,Nat.beq_eq,Nat.blt_eq] at hn;obtain⟨rfl,h2⟩:=hn;exact⟨i,e,hs,hi,.inl ⟨ht,h2,hx⟩⟩
@[reducible] def hb_(t:Nat)(ls:List Leaf):Option HE:=some ⟨t,ls,none,none⟩
@[reducible] def hbq(t:Nat)(ls:List Leaf)(q:Nat):Option HE:=some ⟨t,ls,none,some (.inl q)⟩
@[reducible] def hgr{α:Type}(t sz:Nat)(e:El α)(l:List α)(n:Nat):Option HE:=some ⟨t,e.all l,some sz,some (.inr ((e.all l).length,some n))⟩
theorem zaM{Q:Exit->Act->World->Prop}{w0:Frm}{A0:Foot}{N:Nat}{ex:Exit}(n:Nat)(hn:(H.drop n).all Option.isNone=true)(h:At Q w0 A0 N Γ (H.take n) ex):At Q w0 A0 N Γ H ex:=by
 refine zAm (H.take n) (H.drop n).length ?_ h;have:H.drop n=List.replicate (H.drop n).length none:=by
  refine List.eq_replicate_iff.2 ⟨rfl,fun b hb=>?_⟩;have:=List.all_eq_true.1 hn b hb;exact Option.isNone_iff_eq_none.1 this
 rw[<-this,List.take_append_drop]
end
inductive KF where
 |thn (y:Code)
 |blk (id:Nat)
 |lp (K:Act->World->Prop)
def qk(P:Program)(Q:Exit->Act->World->Prop):List KF->Exit->Act->World->Prop
 |[]=>Q
 |.thn y::ks=>Exit.then (y.wp P (qk P Q ks)) (qk P Q ks)
 |.blk id::ks=>Exit.inBlock id (qk P Q ks)
 |.lp K::ks=>Exit.then K (qk P Q ks)
inductive Md where
 |code (c:Code)
 |ops (r:Array Oper) (l:List Oper)
 |ex (e:Exit)
@[reducible] def Ms(P:Program)(Q:Exit->Act->World->Prop)(w0:Frm)(A0:Foot)(N:Nat)(ks:List KF)(Γ:Gam)(H:Hp):Md->Prop
 |.code c=>Tc P (qk P Q ks) w0 A0 N Γ H c
 |.ops r l=>Tl P r (qk P Q ks) w0 A0 N Γ H l
 |.ex e=>At (qk P Q ks) w0 A0 N Γ H e
structure MTab extends FTab where
 tz:List (Nat×List Leaf)
 pl:List (Nat×List (Nat×Nat))
 ft:List ((Nat×Nat)×Nat×Nat)
 un:List (Nat×Nat)
 ik:List (Nat×IntKind)
 inf:List (Nat×Nat×Nat)
structure MTab.Ok(P:Program)(F:MTab):Prop where
 f:F.toFTab.Ok P
 tz:ztm (fun e=>TyZero P e.1 e.2) F.tz
 pl:ztm (fun e=>zat P e.1=some e.2) F.pl
 ft:ztm (fun e=>zas P e.1.1 e.1.2=some e.2) F.ft
 un:ztm (fun e=>P.underlying e.1=some (.slice e.2)) F.un
 ik:ztm (fun e=>P.underlying e.1=some (.int e.2)) F.ik
 inf:ztm (fun e=>∃(i:TypeInfo) (z:Value),P.info? e.1=some i/\i.zero=some z/\i.size=e.2.1/\z.cells.size=e.2.1/\i.bytes=e.2.2) F.inf
class Tab (P:Program) where
 F:MTab
 ok:F.Ok P
 mo:P.follows .mixedOrders=true
def zeY{α β:Type}:List α->(List α->Option β)->Option β
 |[],k=>k []
 |x::l,k=>zeY l fun l'=>k (x::l')
theorem zbr{α β:Type}:∀(l:List α) (k:List α->Option β),zeY l k=k l
 |[],_=>rfl
 |x::l,k=>zbr l fun l'=>k (x::l')
def zxM{β:Type}(Γ:Gam)(dst:Option Nat)(d:Option D)(k:Gam->Option β):Option β:=
 match dst with
 |some s=>k ((s,d)::Γ)
 |none=>k Γ
theorem zgX{β:Type}(Γ:Gam)(dst:Option Nat)(d:Option D)(k:Gam->Option β):zxM Γ dst d k=k (zeq Γ dst d):=by cases dst <;> rfl
def zBA:List Nat:=[0,1,2,3,4,5,6,7,8,9,10,11,12,13,14,15,16,17,18,19,20,21,22,23,24,25,26,27,28,29,30,31,32,33,34,35,36,37,38,39,40,41,42,43,44,45,46,47,48,49,50,51,52,53,54,55,56,57,58,59,60,61,62,63]
def zAs{β:Type}:Hp->List Nat->(Nat->Option β)->Option β
 |[],n::_,k=>k n
 |_::H,_::l,k=>zAs H l k
 |_,[],_=>none
theorem zrS{β:Type}:∀(H:Hp) (l:List Nat) (k:Nat->Option β) {b:β},zAs H l k=some b->∃n,l[H.length]?=some n/\k n=some b
 |[],n::_,k,b,h=>⟨n,rfl,h⟩
 |_::H,_::l,k,b,h=>zrS H l k h
 |_,[],_,_,h=>by simp[zAs] at h
theorem zrQ:zBA=List.range 64:=by decide
theorem zrR{β:Type}{H:Hp}{k:Nat->Option β}{b:β}(h:zAs H zBA k=some b):k H.length=some b:=by
 obtain⟨n,h1,h2⟩:=zrS H zBA k h;have hl:=(zEr.1 h1).1;rw[zrQ,List.length_range] at hl;rw[zrQ,List.getElem?_range hl] at h1;cases h1;exact h2
def zwF(k k':IntKind):Bool:=decide (k=k')
def cmpD:BinOp->Int->Int->Option D
 |.lss,m,n=>some (D.bool (decide (m<n)))
 |.leq,m,n=>some (D.bool (decide (m<=n)))
 |.gtr,m,n=>some (D.bool (decide (n<m)))
 |.geq,m,n=>some (D.bool (decide (n<=m)))
 |.eql,m,n=>some (D.bool (m == n))
 |.neq,m,n=>some (D.bool (m != n))
 |_,_,_=>none
def mD(F:MTab)(X:List Nat)(Γ:Gam)(H:Hp):Op->Option D
 |.move x=>bif zwx x then opD Γ x else match x with
  |.const (.slice none 0 0)=>some (D.v (V.one nilL))
  |_=>none
 |.assign x=>bif zwx x then opD Γ x else match x with
  |.const (.slice none 0 0)=>some (D.v (V.one nilL))
  |_=>none
 |.build t parts=>
  match zdW t F.tz with
  |some zs=>match zdW t F.pl with
   |some pl=>match zfC Γ parts.toList with
    |some lp=>match zkG (fun i=>pl[i]?) zs lp with
     |some ls=>zeY ls fun ls=>some (D.agg ls)
     |none=>none
    |none=>none
   |none=>none
  |none=>none
 |.field s x f=>
  match opD Γ x with
  |some (.inl (.inr ls))=>match zwJ s f F.ft with
   |some (fo,t)=>match zdW t F.ty with
    |some (true,n)=>zeY ((ls.drop fo).take n) fun ls=>some (D.agg ls)
    |some (false,n)=>match ls[fo]? with
     |some l=>bif Nat.beq n 1 then some (D.v (V.one l)) else none
     |none=>none
    |none=>none
   |none=>none
  |_=>none
 |.binOp op t x y u=>
  match opD Γ x with
  |some (.inl (.inl (.inl (.int k m))))=>match opD Γ y with
   |some (.inl (.inl (.inl (.int k' n))))=>bif zwF k k' then cmpD op m n else none
   |_=>none
  |_=>none
 |.load t x=>
  match opD Γ x with
  |some (.inr (.inr (.inl (i,off))))=>bif X.contains i then none else match H[i]? with
   |some (some e)=>match zdW t F.ty with
    |some (true,n)=>bif Nat.blt 0 n&&Nat.ble (off+n) e.ls.length then zeY ((e.ls.drop off).take n) fun ls=>some (D.agg ls) else none
    |some (false,n)=>match e.ls[off]? with
     |some l=>bif Nat.beq n 1 then some (D.v (V.one l)) else none
     |none=>none
    |none=>none
   |_=>none
  |_=>none
 |op=>zxs F.toFTab X Γ H op
section
variable {P:Program}{ops:Array Oper}{X:List Nat}{o:Oper}{Γ:Gam}{H:Hp}{F:MTab}
theorem zjo{C:Prop}(h:gst ops Γ o=some true)(hj:o.guard=none->C)(hg:∀{j s:Nat} {want:Bool},o.guard=some (j,want)->(ops[j]?).bind (·.dst)=some s->zbP Γ s=some (D.bool want)->C):C:=by
 unfold gst at h;split at h
 .rename_i hn;exact hj hn
 .rename_i j want hgd;split at h
  .rename_i s hs;split at h
   .rename_i b hb;split at h
    .simp only[zEs] at h;subst h;exact hg hgd hs hb
    .simp only[zEs] at h;have:want=false:=by cases want <;> simp_all
     subst this;exact hg hgd hs hb
   .simp at h
   .simp at h
  .simp at h
theorem zzB{op:BinOp}{k:IntKind}{t u:Nat}{x y:Operand}{m n:Int}{d:D}(ho:o.op = .binOp op t x y u)(hx:opD Γ x=some (D.val (.int k m)))(hy:opD Γ y=some (D.val (.int k n)))(h:cmpD op m n=some d):Jq P ops X o Γ H d:=by
 unfold cmpD at h;split at h
 .simp only[zEs] at h;subst h;exact zmN ho hx hy rfl
 .simp only[zEs] at h;subst h;exact ztC ho hx hy rfl
 .simp only[zEs] at h;subst h;exact zpm ho hx hy rfl
 .simp only[zEs] at h;subst h;exact ztH ho hx hy rfl
 .simp only[zEs] at h;subst h;exact ztJ ho hx hy rfl
 .simp only[zEs] at h;subst h;exact ztB ho hx hy rfl
 .simp at h
theorem zBH(hF:F.Ok P){d:D}(h:mD F X Γ H o.op=some d):Jq P ops X o Γ H d:=by
 generalize hop:o.op=op at h;unfold mD at h;split at h
 .rename_i x;cases hn:zwx x
  .rw[hn] at h;simp only[cond_false] at h;split at h
   .simp only[zEs] at h;subst h;exact znL hop
   .simp at h
  .rw[hn] at h;exact zk9 hop h
 .rename_i x;cases hn:zwx x
  .rw[hn] at h;simp only[cond_false] at h;split at h
   .simp only[zEs] at h;subst h;exact zld hop
   .simp at h
  .rw[hn] at h;exact zcg hop h
 .split at h
  .rename_i zs hz;split at h
   .rename_i pl hpl;split at h
    .rename_i lp hlp;split at h
     .rename_i ls hls;rw[zbr] at h;simp only[zEs] at h;subst h;exact zeD hop (zaZ hF.tz hz) hlp (zaZ hF.pl hpl) hls
     .simp at h
    .simp at h
   .simp at h
  .simp at h
 .split at h
  .rename_i ls hx;split at h
   .rename_i fo t hf;have hf:=ziM hF.ft hf;split at h
    .rename_i n ht;rw[zbr] at h;simp only[zEs] at h;subst h;exact zqn hop hx hf (zaZ hF.f.ty ht) rfl
    .rename_i n ht;split at h
     .rename_i l hl;cases hn:Nat.beq n 1
      .rw[hn] at h;simp at h
      .rw[hn] at h;simp only[cond_true,zEs] at h;subst h;have:=Nat.eq_of_beq_eq_true hn;subst this;exact ztI hop hx hf (zaZ hF.f.ty ht) hl
     .simp at h
    .simp at h
   .simp at h
  .simp at h
 .split at h
  .rename_i k m hx;split at h
   .rename_i k' n hy;cases hk:zwF k k'
    .rw[hk] at h;simp at h
    .rw[hk] at h;have:=of_decide_eq_true hk;subst this;exact zzB hop hx hy h
   .simp at h
  .simp at h
 .rename_i t x;split at h
  .rename_i i off hx;cases hc:X.contains i
   .rw[hc] at h;simp only[cond_false] at h;have ho:ldD F.toFTab X H t i off=some d:=by
     rw[<-h];unfold ldD;rw[hc];simp only[cond_false,zbr] <;> rfl
    exact zwE hF.f hop hx ho
   .rw[hc] at h;simp at h
  .simp at h
 .exact zt9 hF.f (by rw[hop];exact h)
def mE(F:MTab)(Γ:Gam)(H:Hp):Op->Option (Option D×Hp)
 |.alloc t=>match zdW t F.tz with
  |some zs=>zAs H zBA fun n=>zeY (H++[some ⟨t,zs,none,none⟩]) fun H'=>some (some (D.ptr n 0),H')
  |none=>none
 |.box t x=>match opD Γ x with
  |some (.inl y)=>zAs H zBA fun n=>zeY y.leaves fun ls=>zeY (H++[some ⟨t,ls,none,none⟩]) fun H'=>some (some (D.ptr n 0),H')
  |_=>none
 |.store t x y=>
  match opD Γ x with
  |some (.inr (.inr (.inl (i,off))))=>match opD Γ y with
   |some (.inl v)=>match H[i]? with
    |some (some e)=>match zdW t F.ty with
     |some (b,n)=>bif Nat.beq v.leaves.length n&&(Nat.blt 0 n&&(Nat.ble (off+n) e.ls.length&&Nat.beq e.fz 0)) then
       zeY (splice e.ls off v.leaves) fun ls=>zeY (H.set i (some ⟨e.t,ls,e.row,e.pin⟩)) fun H'=>some (none,H') else none
     |none=>none
    |_=>none
   |_=>none
  |_=>none
 |_=>none
theorem mE_ok(hF:F.Ok P){d:Option D}{H':Hp}(h:mE F Γ H o.op=some (d,H')):Je P ops o Γ H d H':=by
 generalize hop:o.op=op at h;unfold mE at h;split at h
 .split at h
  .rename_i zs hz;have h:=zrR h;rw[zbr] at h;simp only[zEs,zEu] at h;obtain⟨rfl,rfl⟩:=h;exact zdZ hop (zaZ hF.tz hz) rfl
  .simp at h
 .split at h
  .rename_i y hx;have h:=zrR h;simp only[zbr,zEs,zEu] at h;obtain⟨rfl,rfl⟩:=h;exact zEc hop hx rfl
  .simp at h
 .split at h
  .rename_i i off hx;split at h
   .rename_i v hy;split at h
    .rename_i e hi;split at h
     .rename_i b n ht;have ht:=zaZ hF.f.ty ht;cases hc:(Nat.beq v.leaves.length n&&(Nat.blt 0 n&&(Nat.ble (off+n) e.ls.length&&Nat.beq e.fz 0)))
      .rw[hc] at h;simp at h
      .rw[hc] at h;simp only[zbr,cond_true,zEs,zEu] at h;simp only[zED,Nat.blt_eq,Nat.ble_eq,Nat.beq_eq] at hc;obtain⟨rfl,rfl⟩:=h;exact zaW hop hx hy hi ht hc.1 hc.2.1 hc.2.2.1 rfl hc.2.2.2
     .simp at h
    .simp at h
   .simp at h
  .simp at h
 .simp at h
def mO(F:MTab)(N:Nat)(ops:Array Oper)(Γ:Gam)(H:Hp)(o:Oper):Option (Gam×Hp):=
 bif zcG N o.dst then
  match gst ops Γ o with
  |some true=>
   bif zbF o then
    match mE F Γ H o.op with
    |some (d,H')=>zxM Γ o.dst d fun Γ=>some (Γ,H')
    |none=>none
   else
    match mD F [] Γ H o.op with
    |some d=>zxM Γ o.dst (some d) fun Γ=>some (Γ,H)
    |none=>none
  |some false=>zxM Γ o.dst (some (D.tup [])) fun Γ=>some (Γ,H)
  |none=>none
 else none
theorem mO_ok{Q:Exit->Act->World->Prop}{w0:Frm}{A0:Foot}{N:Nat}{Γ':Gam}{H':Hp}{l:List Oper}(hF:F.Ok P)(h:mO F N ops Γ H o=some (Γ',H'))(hr:Tl P ops Q w0 A0 N Γ' H' l):Tl P ops Q w0 A0 N Γ H (o::l):=by
 unfold mO at h;cases hd:zcG N o.dst
 .rw[hd] at h;simp at h
 .rw[hd] at h;simp only[cond_true] at h;split at h
  .rename_i hg;cases he:zbF o
   .rw[he] at h;simp only[cond_false] at h;split at h
    .rename_i d hq;simp only[zgX,zEs,zEu] at h;obtain⟨rfl,rfl⟩:=h;have hq:=zBH (ops:=ops) hF hq;exact Tl_q (zjo hg (fun hn=>zEe hn he hq) (fun h1 h2 h3=>ztO h1 h2 h3 he hq)) hd hr
    .simp at h
   .rw[he] at h;simp only[cond_true] at h;split at h
    .rename_i d2 H2 hf;simp only[zgX,zEs,zEu] at h;obtain⟨rfl,rfl⟩:=h;have hf:=mE_ok (ops:=ops) hF hf;exact Tl_e (zjo hg (fun hn=>JO_e hn he hf) (fun h1 h2 h3=>zEf h1 h2 h3 he hf)) he hd hr
    .simp at h
  .rename_i hg;simp only[zgX,zEs,zEu] at h;obtain⟨rfl,rfl⟩:=h;exact Tl_q (gst_f hg) hd hr
  .simp at h
def mS1(F:MTab)(N:Nat)(ks:List KF)(Γ:Gam)(H:Hp):Md->Option (List KF×Gam×Hp×Md)
 |.code c=>match c with
  |.seq x y=>some (.thn y::ks,Γ,H,.code x)
  |.region _ r dr=>bif dr then none else some (ks,Γ,H,.ops r r.toList)
  |.skip=>some (ks,Γ,H,.ex .normal)
  |.exit id=>some (ks,Γ,H,.ex (.exit id))
  |.block id x=>some (.blk id::ks,Γ,H,.code x)
  |.cond (.tmp s) x y=>match zbP Γ s with
   |some (.inl (.inl (.inl (.bool b))))=>match b with
    |true=>some (ks,Γ,H,.code x)
    |false=>some (ks,Γ,H,.code y)
   |_=>none
  |_=>none
 |.ops r l=>match l with
  |[]=>some (ks,Γ,H,.ex .normal)
  |o::l=>match mO F N r Γ H o with
   |some (Γ',H')=>some (ks,Γ',H',.ops r l)
   |none=>none
 |.ex e=>match ks with
  |[]=>none
  |.thn y::ks=>match e with
   |.normal=>some (ks,Γ,H,.code y)
   |.exit id=>some (ks,Γ,H,.ex (.exit id))
   |_=>none
  |.blk id::ks=>match e with
   |.normal=>some (ks,Γ,H,.ex .normal)
   |.exit id'=>bif Nat.beq id' id then some (ks,Γ,H,.ex .normal) else some (ks,Γ,H,.ex (.exit id'))
   |_=>none
  |.lp _::ks=>match e with
   |.exit id=>some (ks,Γ,H,.ex (.exit id))
   |_=>none
def mSn(F:MTab)(N:Nat):Nat->List KF->Gam->Hp->Md->Option (List KF×Gam×Hp×Md)
 |0,ks,Γ,H,m=>some (ks,Γ,H,m)
 |k+1,ks,Γ,H,m=>match mS1 F N ks Γ H m with
  |some (ks',Γ',H',m')=>mSn F N k ks' Γ' H' m'
  |none=>none
def zAt(F:MTab)(N k:Nat)(ks:List KF)(Γ:Gam)(H:Hp)(m:Md):Option (List KF×Gam×Hp×Md):=zeY Γ fun Γ=>zeY H fun H=>mSn F N k ks Γ H m
section
variable {Q:Exit->Act->World->Prop}{w0:Frm}{A0:Foot}{N:Nat}{ks ks':List KF}{Γ':Gam}{H':Hp}{m m':Md}
theorem zBG(hF:F.Ok P)(h:mS1 F N ks Γ H m=some (ks',Γ',H',m'))(hr:Ms P Q w0 A0 N ks' Γ' H' m'):Ms P Q w0 A0 N ks Γ H m:=by
 unfold mS1 at h;split at h
 .split at h
  .simp only[zEs,zEu] at h;obtain⟨rfl,rfl,rfl,rfl⟩:=h;exact zxc hr
  .rename_i id r dr;cases dr
   .simp only[cond_false,zEs,zEu] at h;obtain⟨rfl,rfl,rfl,rfl⟩:=h;have:=zty (id:=id) (l:=r.toList) (P:=P) (Q:=qk P Q ks) (w0:=w0) (A0:=A0) (N:=N) (Γ:=Γ) (H:=H) hr;exact this
   .simp at h
  .simp only[zEs,zEu] at h;obtain⟨rfl,rfl,rfl,rfl⟩:=h;exact zvI hr
  .simp only[zEs,zEu] at h;obtain⟨rfl,rfl,rfl,rfl⟩:=h;exact zvL hr
  .simp only[zEs,zEu] at h;obtain⟨rfl,rfl,rfl,rfl⟩:=h;exact zvN hr
  .split at h
   .rename_i b hl;split at h
    .simp only[zEs,zEu] at h;obtain⟨rfl,rfl,rfl,rfl⟩:=h;exact Tc_t hl hr
    .simp only[zEs,zEu] at h;obtain⟨rfl,rfl,rfl,rfl⟩:=h;exact Tc_f hl hr
   .simp at h
  .simp at h
 .split at h
  .simp only[zEs,zEu] at h;obtain⟨rfl,rfl,rfl,rfl⟩:=h;exact zD3 hr
  .split at h
   .rename_i ho;simp only[zEs,zEu] at h;obtain⟨rfl,rfl,rfl,rfl⟩:=h;exact mO_ok hF ho hr
   .simp at h
 .split at h
  .simp at h
  .split at h
   .simp only[zEs,zEu] at h;obtain⟨rfl,rfl,rfl,rfl⟩:=h;exact zAn hr
   .simp only[zEs,zEu] at h;obtain⟨rfl,rfl,rfl,rfl⟩:=h;exact zhu hr
   .simp at h
  .split at h
   .simp only[zEs,zEu] at h;obtain⟨rfl,rfl,rfl,rfl⟩:=h;exact zvW hr
   .rename_i id _ _ id';cases hb:Nat.beq id' id
    .rw[hb] at h;simp only[cond_false,zEs,zEu] at h;obtain⟨rfl,rfl,rfl,rfl⟩:=h;exact zju hb hr
    .rw[hb] at h;have:=Nat.eq_of_beq_eq_true hb;subst this;simp only[cond_true,zEs,zEu] at h;obtain⟨rfl,rfl,rfl,rfl⟩:=h;exact zlg hr
   .simp at h
  .split at h
   .simp only[zEs,zEu] at h;obtain⟨rfl,rfl,rfl,rfl⟩:=h;exact zhu hr
   .simp at h
theorem zrX(hF:F.Ok P)(k:Nat)(h:mSn F N k ks Γ H m=some (ks',Γ',H',m'))(hr:Ms P Q w0 A0 N ks' Γ' H' m'):Ms P Q w0 A0 N ks Γ H m:=by
 induction k generalizing ks Γ H m with
 |zero=>
  simp only[mSn,zEs,zEu] at h;obtain⟨rfl,rfl,rfl,rfl⟩:=h;exact hr
 |succ k ih=>
  simp only[mSn] at h;split at h
  .rename_i hs;exact zBG hF hs (ih h)
  .simp at h
theorem zc[T:Tab P]{c:Code}(k:Nat)(h:zAt T.F N k ks Γ H (.code c)=some (ks',Γ',H',m'))(hr:Ms P Q w0 A0 N ks' Γ' H' m'):Tc P (qk P Q ks) w0 A0 N Γ H c:=zrX T.ok k (by unfold zAt at h;rw[zbr,zbr] at h;exact h) hr
theorem zl[T:Tab P]{l:List Oper}(k:Nat)(h:zAt T.F N k ks Γ H (.ops ops l)=some (ks',Γ',H',m'))(hr:Ms P Q w0 A0 N ks' Γ' H' m'):Tl P ops (qk P Q ks) w0 A0 N Γ H l:=zrX T.ok k (by unfold zAt at h;rw[zbr,zbr] at h;exact h) hr
theorem za[T:Tab P]{e:Exit}(k:Nat)(h:zAt T.F N k ks Γ H (.ex e)=some (ks',Γ',H',m'))(hr:Ms P Q w0 A0 N ks' Γ' H' m'):At (qk P Q ks) w0 A0 N Γ H e:=zrX T.ok k (by unfold zAt at h;rw[zbr,zbr] at h;exact h) hr
end
def mI(F:MTab)(Γ:Gam)(H:Hp)(i:Nat):Op->Option (Option D×HE)
 |.store t x y=>
  match opD Γ x with
  |some (.inr (.inr (.inl (j,off))))=>match opD Γ y with
   |some (.inl v)=>match H[i]? with
    |some (some e)=>match zdW t F.ty with
     |some (b,n)=>bif Nat.beq j i&&(Nat.beq v.leaves.length n&&(Nat.blt 0 n&&(Nat.ble (off+n) e.ls.length&&Nat.beq e.fz 0))) then zeY (splice e.ls off v.leaves) fun ls=>some (none,⟨e.t,ls,e.row,e.pin⟩) else none
     |none=>none
    |_=>none
   |_=>none
  |_=>none
 |.alloc t=>match H[i]? with
  |some none=>match zdW t F.tz with
   |some zs=>some (some (D.ptr i 0),⟨t,zs,none,none⟩)
   |none=>none
  |_=>none
 |.box t x=>match H[i]? with
  |some none=>match opD Γ x with
   |some (.inl y)=>zeY y.leaves fun ls=>some (some (D.ptr i 0),⟨t,ls,none,none⟩)
   |_=>none
  |_=>none
 |_=>none
theorem mI_ok(hF:F.Ok P){i:Nat}{d:Option D}{e:HE}(h:mI F Γ H i o.op=some (d,e)):∀H2:Hp,H2[i]?=H[i]?->Je P ops o Γ H2 d (H2.set i (some e)):=by
 generalize hop:o.op=op at h;unfold mI at h;split at h
 .split at h
  .rename_i j off hx;split at h
   .rename_i v hy;split at h
    .rename_i e0 hi;split at h
     .rename_i b n ht;have ht:=zaZ hF.f.ty ht;cases hc:(Nat.beq j i&&(Nat.beq v.leaves.length n&&(Nat.blt 0 n&&(Nat.ble (off+n) e0.ls.length&&Nat.beq e0.fz 0))))
      .rw[hc] at h;simp at h
      .rw[hc] at h;simp only[zbr,cond_true,zEs,zEu] at h;simp only[zED,Nat.blt_eq,Nat.ble_eq,Nat.beq_eq] at hc;obtain⟨rfl,rfl⟩:=h;obtain⟨rfl,hc⟩:=hc;exact zib hop hx hy hi ht hc.1 hc.2.1 hc.2.2.1 rfl hc.2.2.2
     .simp at h
    .simp at h
   .simp at h
  .simp at h
 .split at h
  .rename_i hi;split at h
   .rename_i zs hz;simp only[zEs,zEu] at h;obtain⟨rfl,rfl⟩:=h;exact zpn hop (zaZ hF.tz hz) hi
   .simp at h
  .simp at h
 .split at h
  .rename_i hi;split at h
   .rename_i y hx;simp only[zbr,zEs,zEu] at h;obtain⟨rfl,rfl⟩:=h;exact zEd hop hx hi
   .simp at h
  .simp at h
 .simp at h
def mK(F:MTab)(X:List Nat)(tl:List (Option Nat))(ops:Array Oper):Nat->Nat->Gam->Hp->List Oper->Option (Gam×Hp×List Oper)
 |0,_,Γ,H,l=>some (Γ,H,l)
 |_+1,_,_,_,[]=>none
 |k+1,n,Γ,H,o::l=>match gst ops Γ o with
  |some true=>bif zbF o then
    match tl.getD n none with
    |some i=>match mI F Γ H i o.op with
     |some (d,e)=>zxM Γ o.dst d fun Γ=>zeY (H.set i (some e)) fun H=>mK F X tl ops k (n+1) Γ H l
     |none=>none
    |none=>none
   else match mD F X Γ H o.op with
    |some d=>zxM Γ o.dst (some d) fun Γ=>mK F X tl ops k (n+1) Γ H l
    |none=>none
  |some false=>zxM Γ o.dst (some (D.tup [])) fun Γ=>mK F X tl ops k (n+1) Γ H l
  |none=>none
theorem mK_ok{tl:List (Option Nat)}{n:Nat}{l l':List Oper}{Γ':Gam}{H':Hp}{K:Gam->Hp->Prop}(hF:F.Ok P)(k:Nat)(h:mK F X tl ops k n Γ H l=some (Γ',H',l'))(hr:DKn P ops tl X (n+k) l' Γ' H' K):DKn P ops tl X n l Γ H K:=by
 induction k generalizing Γ H l n with
 |zero=>
  simp only[mK,zEs,zEu] at h;obtain⟨rfl,rfl,rfl⟩:=h;exact hr
 |succ k ih=>
  have hr:DKn P ops tl X (n+1+k) l' Γ' H' K:=by rw[Nat.add_right_comm];exact hr
  cases l with
  |nil=>simp[mK] at h
  |cons o l=>
   simp only[mK] at h;split at h
   .rename_i hg;cases he:zbF o
    .rw[he] at h;simp only[cond_false] at h;split at h
     .rename_i d hq;rw[zgX] at h;have hq:=zBH (ops:=ops) hF hq;exact DK_q (zjo hg (fun hn=>zEe hn he hq) (fun h1 h2 h3=>ztO h1 h2 h3 he hq)) (ih h hr) he
     .simp at h
    .rw[he] at h;simp only[cond_true] at h;split at h
     .rename_i i ht;split at h
      .rename_i d e hm;rw[zgX,zbr] at h;have hm:=mI_ok (ops:=ops) hF hm;exact zjo hg (fun hn=>DK_s i ht hn he hm (ih h hr)) (fun h1 h2 h3=>zEh i ht h1 h2 h3 he hm (ih h hr))
      .simp at h
     .simp at h
   .rename_i hg;rw[zgX] at h;exact DK_no hg (ih h hr)
   .simp at h
section
variable {tl:List (Option Nat)}{n:Nat}{l l':List Oper}{os rest:List Oper}{Γ':Gam}{H':Hp}{K:Gam->Hp->Prop}
theorem dz[T:Tab P](k:Nat)(h:(zeY Γ fun Γ=>zeY H fun H=>mK T.F X tl ops k n Γ H l)=some (Γ',H',l'))(hr:DKn P ops tl X (n+k) l' Γ' H' K):DKn P ops tl X n l Γ H K:=mK_ok T.ok k (by rw[zbr,zbr] at h;exact h) hr
def mkTl(az:List (Nat×Nat))(m:Nat):List (Option Nat):=(List.range m).map fun k=>zdW k az
variable {Q:Exit->Act->World->Prop}{w0:Frm}{A0:Foot}{N:Nat}{ks:List KF}
theorem dr_[T:Tab P](k:Nat)(az:List (Nat×Nat))(X:List Nat){id:Nat}{l:List Oper}(hd:DKn P l.toArray (mkTl az l.length) X 0 l Γ (H++List.replicate k none) fun Γ' H'=>At Q w0 A0 N Γ' H' .normal)
  (hok:zge N l.toArray (mkTl az l.length) X=true:=by kernel_rfl):Tc P Q w0 A0 N Γ H (.region id l.toArray true):=zvM k _ X T.mo hok hd
theorem tq_{d:D}(h1:(gst ops Γ o,zbF o,zcG N o.dst)=(some true,false,true))(h:Jq P ops [] o Γ H d)(hr:Tl P ops Q w0 A0 N (zeq Γ o.dst (some d)) H rest):Tl P ops Q w0 A0 N Γ H (o::rest):=by
 simp only[zEu] at h1;exact Tl_q (zjo h1.1 (fun hn=>zEe hn h1.2.1 h) (fun a b c=>ztO a b c h1.2.1 h)) h1.2.2 hr
theorem te_{d:Option D}(h1:(gst ops Γ o,zbF o,zcG N o.dst)=(some true,true,true))(h:Je P ops o Γ H d H')(hr:Tl P ops Q w0 A0 N (zeq Γ o.dst d) H' rest):Tl P ops Q w0 A0 N Γ H (o::rest):=by
 simp only[zEu] at h1;exact Tl_e (zjo h1.1 (fun hn=>JO_e hn h1.2.1 h) (fun a b c=>zEf a b c h1.2.1 h)) h1.2.1 h1.2.2 hr
theorem kq_{d:D}(h1:(gst ops Γ o,zbF o)=(some true,false))(h:Jq P ops X o Γ H d)(hr:DKn P ops tl X (n+1) os (zeq Γ o.dst (some d)) H K):DKn P ops tl X n (o::os) Γ H K:=by
 simp only[zEu] at h1;exact DK_q (zjo h1.1 (fun hn=>zEe hn h1.2 h) (fun a b c=>ztO a b c h1.2 h)) hr h1.2
theorem ke_{d:Option D}(h1:(gst ops Γ o,zbF o)=(some true,true))(h:∀H2,Je P ops o Γ H2 d H2)(hr:DKn P ops tl X (n+1) os (zeq Γ o.dst d) H K):DKn P ops tl X n (o::os) Γ H K:=by
 simp only[zEu] at h1;exact zjo h1.1 (fun hn=>DK_c hn h1.2 h hr) (fun a b c=>DK_cg a b c h1.2 h hr)
theorem ki_(i:Nat){d:Option D}{e:Option HE}(h1:(tl.getD n none,gst ops Γ o,zbF o)=(some i,some true,true))(h:∀H2:Hp,H2[i]?=H[i]?->Je P ops o Γ H2 d (H2.set i e))
  (hr:DKn P ops tl X (n+1) os (zeq Γ o.dst d) (H.set i e) K):DKn P ops tl X n (o::os) Γ H K:=by
 simp only[zEu] at h1;exact zjo h1.2.1 (fun hn=>DK_s i h1.1 hn h1.2.2 h hr) (fun a b c=>zEh i h1.1 a b c h1.2.2 h hr)
theorem is_{s:Nat}{b:Bool}{G:Gam}{l:List Oper}(b':Bool)(hG:G=(s,some (D.bool b))::Γ)(h:b=b')(hr:Tl P ops Q w0 A0 N ((s,some (D.bool b'))::Γ) H l):Tl P ops Q w0 A0 N G H l:=by subst hG;subst h;exact hr
theorem zg2{s:Nat}{b:Bool}{G:Gam}(b':Bool)(hG:G=(s,some (D.bool b))::Γ)(h:b=b')(hr:DKn P ops tl X n l ((s,some (D.bool b'))::Γ) H K):DKn P ops tl X n l G H K:=by subst hG;subst h;exact hr
theorem zdM{s:Nat}{b:Bool}{G:Gam}{l:List Oper}(hG:G=(s,some (D.bool b))::Γ)(hf:b=false->Tl P ops Q w0 A0 N ((s,some (D.bool false))::Γ) H l)(ht:b=true->Tl P ops Q w0 A0 N ((s,some (D.bool true))::Γ) H l):Tl P ops Q w0 A0 N G H l:=by
 subst hG;cases b
 .exact hf rfl
 .exact ht rfl
theorem zqt{s:Nat}{b:Bool}{G:Gam}(hG:G=(s,some (D.bool b))::Γ)(hf:b=false->DKn P ops tl X n l ((s,some (D.bool false))::Γ) H K)(ht:b=true->DKn P ops tl X n l ((s,some (D.bool true))::Γ) H K):DKn P ops tl X n l G H K:=by
 subst hG;cases b
 .exact hf rfl
 .exact ht rfl
theorem eq_{s:Nat}{d:D}{G:Gam}{l:List Oper}(d':D)(hG:G=(s,some d)::Γ)(h:d=d')(hr:Tl P ops Q w0 A0 N ((s,some d')::Γ) H l):Tl P ops Q w0 A0 N G H l:=by subst hG;subst h;exact hr
theorem zjf{s:Nat}{d:D}{G:Gam}(d':D)(hG:G=(s,some d)::Γ)(h:d=d')(hr:DKn P ops tl X n l ((s,some d')::Γ) H K):DKn P ops tl X n l G H K:=by subst hG;subst h;exact hr
theorem kp_(X':List Nat){d:D}(h1:(gst ops Γ o,zbF o)=(some true,false))(h:Jq P ops X' o Γ H d)(hr:DKn P ops tl X (n+1) os (zeq Γ o.dst (some d)) H K)(hx:(X.all fun x=>X'.contains x||zc9 ops tl x n)=true:=by kernel_rfl):DKn P ops tl X n (o::os) Γ H K:=by
 simp only[zEu] at h1;exact DK_qp X' (zjo h1.1 (fun hn=>zEe hn h1.2 h) (fun a b c=>ztO a b c h1.2 h)) hx hr h1.2
theorem zjM{f:Nat}{args:Array Operand}{tys:Array TypeId}(ho:o.op = .call { callee:=.value (.func f),args:=args,argTypes:=tys }):zbF o=true:=by unfold zbF;rw[ho]
theorem tc_{f:Nat}{args:Array Operand}{tys:Array TypeId}{xs:List V}{y:R}(hf:zaq P f)(h:(gst ops Γ o,zcG N o.dst,o.op,zdC Γ args.toList)=(some true,true,Op.call { callee:=.value (.func f),args:=args,argTypes:=tys },some xs))
  (hspec:Ctr P f xs y) (hr:Tl P ops Q w0 A0 N (zeq Γ o.dst (some y.toD)) H rest) (hcl:zho xs=true:=by rfl):Tl P ops Q w0 A0 N Γ H (o::rest):=by
 simp only[zEu] at h;exact te_ (by rw[h.1,h.2.1,zjM h.2.2.1]) (ztL h.2.2.1 hf h.2.2.2 hspec hcl) hr
theorem kc_{f:Nat}{args:Array Operand}{tys:Array TypeId}{xs:List V}{y:R}(hf:zaq P f)(h:(gst ops Γ o,o.op,zdC Γ args.toList)=(some true,Op.call { callee:=.value (.func f),args:=args,argTypes:=tys },some xs))
  (hspec:Ctr P f xs y) (hr:DKn P ops tl X (n+1) os (zeq Γ o.dst (some y.toD)) H K) (hcl:zho xs=true:=by rfl):DKn P ops tl X n (o::os) Γ H K:=by
 simp only[zEu] at h;exact ke_ (by rw[h.1,zjM h.2.1]) (zAj h.2.1 hf h.2.2 hspec hcl) hr
end
section
variable {x y:Operand}{t u:Nat}
theorem jld[T:Tab P]{i off:Nat}{e:HE}{l:Leaf}(h:(o.op,opD Γ x,H[i]?,X.contains i,zdW t T.F.ty,e.ls[off]?)=(Op.load t x,some (D.ptr i off),some (some e),false,some (false,1),some l)):Jq P ops X o Γ H (D.v (V.one l)):=by
 simp only[zEu] at h;exact zcD h.1 h.2.1 h.2.2.1 (fun hm=>by rw[List.contains_iff_mem.2 hm] at h;simp at h) (zaZ T.ok.f.ty h.2.2.2.2.1) h.2.2.2.2.2
theorem jln[T:Tab P]{n:Nat}{ls:List Leaf}(h:(o.op,opD Γ x,zdW t T.F.un)=(Op.call { callee:=.builtin .len,args:=#[x],argTypes:=#[t] },some (D.rep (zar n ls)),some u)):Jq P ops X o Γ H (D.int n):=by
 simp only[zEu] at h;exact zEa h.1 h.2.1 (zaZ T.ok.un h.2.2)
theorem jlr[T:Tab P]{n:Nat}{ls:List Leaf}(h:(o.op,opD Γ x,zdW t T.F.ty)=(Op.load t x,some (D.rep (zaT ls)),some (true,n)))(hn:n=ls.length:=by rfl):Jq P ops X o Γ H (D.agg ls):=by
 simp only[zEu] at h;exact zjc h.1 h.2.1 (zaZ T.ok.f.ty h.2.2) hn
theorem jli[T:Tab P]{l:Leaf}{ls:List Leaf}(h:(o.op,opD Γ x,zdW t T.F.ty)=(Op.load t x,some (D.rep (zaT (l::ls))),some (false,1))):Jq P ops X o Γ H (D.v (V.one l)):=by
 simp only[zEu] at h;exact znM h.1 h.2.1 (zaZ T.ok.f.ty h.2.2)
theorem jfr[T:Tab P]{s f fo sz:Nat}{ls:List Leaf}(h:(o.op,opD Γ x,zwJ s f T.F.fo,Nat.beq sz 0)=(Op.fieldAddr s x f,some (D.rep (zaT ls)),some (fo,sz),false)):Jq P ops X o Γ H (D.rep (zaT (ls.drop fo))):=by
 simp only[zEu] at h;exact zeL h.1 h.2.1 (ziM T.ok.f.fo h.2.2.1) h.2.2.2
theorem jft[T:Tab P]{s f fo sz:Nat}{ls:List Leaf}(h:(o.op,opD Γ x,zwJ s f T.F.fo,Nat.beq sz 0)=(Op.fieldAddr s x f,some (D.rep (zaT ls)),some (fo,sz),false)){ls':List Leaf}(hls:(ls.drop fo).take sz=ls':=by rfl):Jq P ops X o Γ H (D.rep (zaT ls')):=by
 simp only[zEu] at h;exact zhc h.1 h.2.1 (ziM T.ok.f.fo h.2.2.1) h.2.2.2 hls
theorem jix[T:Tab P]{α:Type}{e:El α}{l:List α}{v:α}{k:IntKind}{j:Int}{b:Bool}(i:Nat)(hi:l[i]?=some v)(h:(o.op,opD Γ x,opD Γ y,zdW t T.F.un,zdW u T.F.ty)=(Op.indexAddr t x y,some (D.v (V.one (e.row l))),some (D.val (.int k j)),some u,some (b,e.sz)))
  (hj:j=(i:Int):=by first|rfl|omega):Jq P ops X o Γ H (D.rep (zaT (e.f v))):=by
 simp only[zEu] at h;exact ztD e l i h.1 h.2.1 h.2.2.1 (zaZ T.ok.un h.2.2.2.1) (zaZ T.ok.f.ty h.2.2.2.2) hi hj
theorem ji1[T:Tab P]{n:Nat}{k:IntKind}{j:Int}{b:Bool}{ls:List Leaf}{l:Leaf}(h:(o.op,opD Γ x,opD Γ y,zdW t T.F.un,zdW u T.F.ty)=(Op.indexAddr t x y,some (D.rep (zar n ls)),some (D.val (.int k j)),some u,some (b,1)))
  (hl:ls[j.toNat]?=some l) (h0:0<=j:=by omega) (hj:j<n:=by omega):Jq P ops X o Γ H (D.rep (zaT [l])):=by
 simp only[zEu] at h;exact ztG h.1 h.2.1 h.2.2.1 (zaZ T.ok.un h.2.2.2.1) (zaZ T.ok.f.ty h.2.2.2.2) h0 hj hl
theorem zlu{l0 l1:Leaf}:∀(ls:List Leaf),subL l0 l1 ls ls
 |[]=>trivial
 |l::ls=>⟨.inl rfl,zlu ls⟩
theorem zn5{l0 l1:Leaf}:∀{ls:List Leaf} {k:Nat},ls[k]?=some l0->subL l0 l1 ls (ls.set k l1)
 |[],_,h=>by simp at h
 |l::ls,0,h=>by simp at h;subst h;exact⟨.inr ⟨rfl,rfl⟩,zlu ls⟩
 |l::ls,k+1,h=>by simp at h;exact⟨.inl rfl,zn5 h⟩
theorem jvl[T:Tab P]{α:Type}{e:El α}{l:List α}{i off n r m u sz:Nat}{e0:HE}{ls:List Leaf}(k:Nat)
  (h:(o.op,opD Γ x,H[i]?,zdW t T.F.ty,(e0.ls.drop off).take n,ls[k]?,H[r]?)=(Op.load t x,some (D.ptr i off),some (some e0),some (true,n),ls,some (Leaf.own r m),some (some ⟨u,e.all l,some sz,some (.inr ((e.all l).length,some m))⟩)))
  (hk:(X.contains i,X.contains r,Nat.blt 0 n&&Nat.ble (off+n) e0.ls.length,e.sz,Nat.blt 0 sz)=(false,false,true,sz,true)):Jq P ops X o Γ H (D.agg (ls.set k (e.row l))):=by
 simp only[zEu,zED,Nat.blt_eq,Nat.ble_eq] at h hk;obtain⟨h1,h2,h3,h4,rfl,k1,h6⟩:=h;obtain⟨k2,k3,k4,k5,k6⟩:=hk;have ni:∀{a:Nat},X.contains a=false->a ∉ X:=fun hc hm=>by rw[List.contains_iff_mem.2 hm] at hc;simp at hc
 exact ze8 (zaI h1 h2 h3 (ni k2) (zaZ T.ok.f.ty h4) k4.1 k4.2 rfl) (RowAt.ofE e l h6 k6 k5) (ni k3) (zn5 k1)
theorem ltT{k:IntKind}{m n:Int}(h:(o.op,opD Γ x,opD Γ y)=(Op.binOp .lss t x y u,some (D.val (.int k m)),some (D.val (.int k n))))(hr:m<n:=by omega):Jq P ops X o Γ H (D.bool true):=by
 simp only[zEu] at h;exact zmN h.1 h.2.1 h.2.2 (dT hr)
theorem ltF{k:IntKind}{m n:Int}(h:(o.op,opD Γ x,opD Γ y)=(Op.binOp .lss t x y u,some (D.val (.int k m)),some (D.val (.int k n))))(hr:¬m<n:=by omega):Jq P ops X o Γ H (D.bool false):=by
 simp only[zEu] at h;exact zmN h.1 h.2.1 h.2.2 (dF hr)
theorem leT{k:IntKind}{m n:Int}(h:(o.op,opD Γ x,opD Γ y)=(Op.binOp .leq t x y u,some (D.val (.int k m)),some (D.val (.int k n))))(hr:m<=n:=by omega):Jq P ops X o Γ H (D.bool true):=by
 simp only[zEu] at h;exact ztC h.1 h.2.1 h.2.2 (dT hr)
theorem leF{k:IntKind}{m n:Int}(h:(o.op,opD Γ x,opD Γ y)=(Op.binOp .leq t x y u,some (D.val (.int k m)),some (D.val (.int k n))))(hr:¬m<=n:=by omega):Jq P ops X o Γ H (D.bool false):=by
 simp only[zEu] at h;exact ztC h.1 h.2.1 h.2.2 (dF hr)
theorem gtT{k:IntKind}{m n:Int}(h:(o.op,opD Γ x,opD Γ y)=(Op.binOp .gtr t x y u,some (D.val (.int k m)),some (D.val (.int k n))))(hr:n<m:=by omega):Jq P ops X o Γ H (D.bool true):=by
 simp only[zEu] at h;exact zpm h.1 h.2.1 h.2.2 (dT hr)
theorem gtF{k:IntKind}{m n:Int}(h:(o.op,opD Γ x,opD Γ y)=(Op.binOp .gtr t x y u,some (D.val (.int k m)),some (D.val (.int k n))))(hr:¬n<m:=by omega):Jq P ops X o Γ H (D.bool false):=by
 simp only[zEu] at h;exact zpm h.1 h.2.1 h.2.2 (dF hr)
theorem geT{k:IntKind}{m n:Int}(h:(o.op,opD Γ x,opD Γ y)=(Op.binOp .geq t x y u,some (D.val (.int k m)),some (D.val (.int k n))))(hr:n<=m:=by omega):Jq P ops X o Γ H (D.bool true):=by
 simp only[zEu] at h;exact ztH h.1 h.2.1 h.2.2 (dT hr)
theorem geF{k:IntKind}{m n:Int}(h:(o.op,opD Γ x,opD Γ y)=(Op.binOp .geq t x y u,some (D.val (.int k m)),some (D.val (.int k n))))(hr:¬n<=m:=by omega):Jq P ops X o Γ H (D.bool false):=by
 simp only[zEu] at h;exact ztH h.1 h.2.1 h.2.2 (dF hr)
theorem eqT{k:IntKind}{m n:Int}(h:(o.op,opD Γ x,opD Γ y)=(Op.binOp .eql t x y u,some (D.val (.int k m)),some (D.val (.int k n))))(hr:m=n:=by omega):Jq P ops X o Γ H (D.bool true):=by
 simp only[zEu] at h;exact ztJ h.1 h.2.1 h.2.2 (eT hr)
theorem eqF{k:IntKind}{m n:Int}(h:(o.op,opD Γ x,opD Γ y)=(Op.binOp .eql t x y u,some (D.val (.int k m)),some (D.val (.int k n))))(hr:m≠n:=by omega):Jq P ops X o Γ H (D.bool false):=by
 simp only[zEu] at h;exact ztJ h.1 h.2.1 h.2.2 (eF hr)
theorem neT{k:IntKind}{m n:Int}(h:(o.op,opD Γ x,opD Γ y)=(Op.binOp .neq t x y u,some (D.val (.int k m)),some (D.val (.int k n))))(hr:m≠n:=by omega):Jq P ops X o Γ H (D.bool true):=by
 simp only[zEu] at h;exact ztB h.1 h.2.1 h.2.2 (nT hr)
theorem neF{k:IntKind}{m n:Int}(h:(o.op,opD Γ x,opD Γ y)=(Op.binOp .neq t x y u,some (D.val (.int k m)),some (D.val (.int k n))))(hr:m=n:=by omega):Jq P ops X o Γ H (D.bool false):=by
 simp only[zEu] at h;exact ztB h.1 h.2.1 h.2.2 (nF hr)
theorem jad{a b:Int}(n:Nat)(h:(o.op,opD Γ x,opD Γ y)=(Op.binOp .add t x y u,some (D.val (.int .i64 a)),some (D.val (.int .i64 b))))(hr:a+b=(n:Int)/\(n:Int)<=9223372036854775807:=by omega):Jq P ops X o Γ H (D.val (.int .i64 (n:Int))):=by
 simp only[zEu] at h;exact zbe h.1 h.2.1 h.2.2 (w64 hr.1 (by omega) hr.2)
theorem jsb{a b:Int}(n:Nat)(h:(o.op,opD Γ x,opD Γ y)=(Op.binOp .sub t x y u,some (D.val (.int .i64 a)),some (D.val (.int .i64 b))))(hr:a-b=(n:Int)/\(n:Int)<=9223372036854775807:=by omega):Jq P ops X o Γ H (D.val (.int .i64 (n:Int))):=by
 simp only[zEu] at h;exact zaN h.1 h.2.1 h.2.2 (w64 hr.1 (by omega) hr.2)
theorem jcv[T:Tab P]{src dst:Nat}{k k':IntKind}{m:Int}(n:Nat)(h:(o.op,opD Γ x,zdW dst T.F.ik,(zdW src T.F.ik).isSome)=(Op.convert src dst x,some (D.val (.int k m)),some k',true))(hr:k'.wrap m=(n:Int)):Jq P ops X o Γ H (D.val (.int k' (n:Int))):=by
 simp only[zEu,Option.isSome_iff_exists] at h;obtain⟨h1,h2,h3,k0,h4⟩:=h;exact zqp h1 h2 (zaZ T.ok.ik h3) (by rw[zaZ T.ok.ik h4];rfl) hr
theorem jc6[T:Tab P]{src dst:Nat}{k:IntKind}{m:Int}(n:Nat)(h:(o.op,opD Γ x,zdW dst T.F.ik,(zdW src T.F.ik).isSome)=(Op.convert src dst x,some (D.val (.int k m)),some .u64,true))(hr:m%18446744073709551616=(n:Int):=by omega):Jq P ops X o Γ H (D.val (.int .u64 (n:Int))):=jcv n h (zdG hr)
theorem jc3[T:Tab P]{src dst:Nat}{k:IntKind}{m:Int}(n:Nat)(h:(o.op,opD Γ x,zdW dst T.F.ik,(zdW src T.F.ik).isSome)=(Op.convert src dst x,some (D.val (.int k m)),some .u32,true))(hr:m%4294967296=(n:Int):=by omega):Jq P ops X o Γ H (D.val (.int .u32 (n:Int))):=jcv n h (zxh hr)
theorem jci[T:Tab P]{src dst:Nat}{k:IntKind}{m:Int}(n:Nat)(h:(o.op,opD Γ x,zdW dst T.F.ik,(zdW src T.F.ik).isSome)=(Op.convert src dst x,some (D.val (.int k m)),some .i64,true))(hr:m=(n:Int)/\(n:Int)<=9223372036854775807:=by omega):Jq P ops X o Γ H (D.val (.int .i64 (n:Int))):=jcv n h (w64 hr.1 (by omega) hr.2)
theorem jap[T:Tab P]{α:Type}{e:El α}{l:List α}{t2 u2 r n sz bt:Nat}(v:α)
  (h:(o.op,opD Γ x,H[r]?,opD Γ y)=(Op.call { callee:=.builtin .append,args:=#[x,y],argTypes:=#[t,t2] },some (D.v (V.one (Leaf.own r n))),some (some ⟨u,e.all l,some sz,some (.inr ((e.all l).length,some n))⟩),some (D.rep (zar 1 (e.f v)))))
  (h2:(zdW t T.F.un,zdW t2 T.F.un,zdW u T.F.inf,e.sz,Nat.blt 0 sz)=(some u,some u2,some (sz,bt),sz,true))
  (hb:l.length+1<=9223372036854775807/\(l.length+1)*bt<=140737488355328:=by first|omega|(simp only[zEF,zEG,zEP,List.length_cons,List.length_nil];omega)) :
  Je P ops o Γ H (some (D.v (V.one (Leaf.own r (n+1))))) (H.set r (some ⟨u,e.all (l++[v]),some sz,some (.inr ((e.all (l++[v])).length,some (n+1)))⟩)):=by
 simp only[zEu,Nat.blt_eq] at h h2;obtain⟨i,z,i1,i2,i3,i4,i5⟩:=zaZ T.ok.inf h2.2.2.1;exact zqq e l v h.1 h.2.1 h.2.2.2 h.2.2.1 h2.2.2.2.2 (zaZ T.ok.un h2.1) (zaZ T.ok.un h2.2.1) i1 i2 i3 i4 (by simp only[maxLen];omega) (by rw[i5];exact hb.2) h2.2.2.2.1
theorem jal[T:Tab P]{α:Type}{e:El α}{l l2:List α}{t2 u2 r n sz bt:Nat}
  (h:(o.op,opD Γ x,H[r]?,opD Γ y)=(Op.call { callee:=.builtin .append,args:=#[x,y],argTypes:=#[t,t2] },some (D.v (V.one (Leaf.own r n))),some (some ⟨u,e.all l,some sz,some (.inr ((e.all l).length,some n))⟩),some (D.v (V.one (e.row l2)))))
  (h2:(zdW t T.F.un,zdW t2 T.F.un,zdW u T.F.inf,e.sz,Nat.blt 0 sz)=(some u,some u2,some (sz,bt),sz,true))
  (hb:l.length+l2.length<=9223372036854775807/\(l.length+l2.length)*bt<=140737488355328:=by first|omega|(simp only[zEF,zEG,zEP,List.length_cons,List.length_nil];omega)) :
  Je P ops o Γ H (some (D.v (V.one (Leaf.own r (n+1))))) (H.set r (some ⟨u,e.all (l++l2),some sz,some (.inr ((e.all (l++l2)).length,some (n+1)))⟩)):=by
 simp only[zEu,Nat.blt_eq] at h h2;obtain⟨i,z,i1,i2,i3,i4,i5⟩:=zaZ T.ok.inf h2.2.2.1;exact znS e l l2 h.1 h.2.1 h.2.2.2 h.2.2.1 h2.2.2.2.2 (zaZ T.ok.un h2.1) (zaZ T.ok.un h2.2.1) i1 i2 i3 i4 (by simp only[maxLen];omega) (by rw[i5];exact hb.2) h2.2.2.2.1
theorem dap[T:Tab P]{α:Type}{e:El α}{l:List α}{t2 u2 r n sz bt:Nat}(v:α)
  (h:(o.op,opD Γ x,H[r]?,opD Γ y)=(Op.call { callee:=.builtin .append,args:=#[x,y],argTypes:=#[t,t2] },some (D.v (V.one (Leaf.own r n))),some (some ⟨u,e.all l,some sz,some (.inr ((e.all l).length,some n))⟩),some (D.rep (zar 1 (e.f v)))))
  (h2:(zdW t T.F.un,zdW t2 T.F.un,zdW u T.F.inf,e.sz,Nat.blt 0 sz)=(some u,some u2,some (sz,bt),sz,true))
  (hb:l.length+1<=9223372036854775807/\(l.length+1)*bt<=140737488355328:=by first|omega|(simp only[zEF,zEG,zEP,List.length_cons,List.length_nil];omega)) :
  ∀H2:Hp,H2[r]?=H[r]?->Je P ops o Γ H2 (some (D.v (V.one (Leaf.own r (n+1))))) (H2.set r (some ⟨u,e.all (l++[v]),some sz,some (.inr ((e.all (l++[v])).length,some (n+1)))⟩)):=
 fun _ hH=>jap v (by rw[hH];exact h) h2 hb
theorem dal[T:Tab P]{α:Type}{e:El α}{l l2:List α}{t2 u2 r n sz bt:Nat}
  (h:(o.op,opD Γ x,H[r]?,opD Γ y)=(Op.call { callee:=.builtin .append,args:=#[x,y],argTypes:=#[t,t2] },some (D.v (V.one (Leaf.own r n))),some (some ⟨u,e.all l,some sz,some (.inr ((e.all l).length,some n))⟩),some (D.v (V.one (e.row l2)))))
  (h2:(zdW t T.F.un,zdW t2 T.F.un,zdW u T.F.inf,e.sz,Nat.blt 0 sz)=(some u,some u2,some (sz,bt),sz,true))
  (hb:l.length+l2.length<=9223372036854775807/\(l.length+l2.length)*bt<=140737488355328:=by first|omega|(simp only[zEF,zEG,zEP,List.length_cons,List.length_nil];omega)) :
  ∀H2:Hp,H2[r]?=H[r]?->Je P ops o Γ H2 (some (D.v (V.one (Leaf.own r (n+1))))) (H2.set r (some ⟨u,e.all (l++l2),some sz,some (.inr ((e.all (l++l2)).length,some (n+1)))⟩)):=
 fun _ hH=>jal (by rw[hH];exact h) h2 hb
end
end
@[reducible] def so(k:Nat)(d:D):Nat×Option D:=(k,some d)
def lkN(Γ:Gam):Gam->List (Option D)
 |[]=>[]
 |e::g=>zbD Γ e.1::lkN Γ g
def lkV:Gam->List (Option D)
 |[]=>[]
 |e::g=>e.2::lkV g
theorem zfl{Γ:Gam}:∀{g:Gam},lkN Γ g=lkV g->zjn Γ g
 |[],_=>trivial
 |(s,some d)::g,h=>by simp only[lkN,lkV,List.cons.injEq] at h;exact⟨h.1,zfl h.2⟩
 |(s,none)::g,h=>by simp only[lkN,lkV,List.cons.injEq] at h;exact zfl (Γ:=Γ) (g:=g) h.2
def frG:List Nat->Gam->Gam
 |[],g=>g
 |i::l,g=>frG l (za0 i g)
def frH:List Nat->Hp->Hp
 |[],H=>H
 |i::l,H=>frH l (H.set i none)
def frK:List Nat->Hp->Bool
 |[],_=>true
 |i::l,H=>!zll H i&&frK l (H.set i none)
section
variable {P:Program}{Q:Exit->Act->World->Prop}{w0:Frm}{A0:Foot}{N:Nat}{ks:List KF}{Γ:Gam}{H:Hp}
theorem bd_{f N:Nat}{fn:Func}{c:Code}{xs:List V}{y:R}(hf:P.funcs[f]?=some fn)(hN:fn.ntmps=N)(h:(fn.body,Nat.ble xs.length (min N 2000))=(some c,true))
  (hc:∀w0 A0,Tc P (qk P (zvO P fn w0 A0 y) []) w0 A0 N (zeJ 0 xs) [] c):Ctr P f xs y:=by
 simp only[zEu,Nat.ble_eq] at h;exact Ctr.of_body hf h.1 hN h.2 hc
theorem qc_{c:Code}(h:Tc P (qk P Q []) w0 A0 N Γ H c):Tc P Q w0 A0 N Γ H c:=h
theorem nz_{c:Code}(Γ':Gam)(H':Hp)(hk:lkN Γ Γ'=lkV Γ')(hH:H=H')(h:Tc P Q w0 A0 N Γ' H' c):Tc P Q w0 A0 N Γ H c:=zz9 Γ' H' (zfl hk) hH h
theorem fr_{c:Code}:∀(l:List Nat) {Γ:Gam} {H:Hp},frK l H=true->Tc P Q w0 A0 N (frG l Γ) (frH l H) c->Tc P Q w0 A0 N Γ H c
 |[],_,_,_,h=>h
 |i::l,_,_,hk,h=>by
  simp only[frK,zED,Bool.not_eq_true'] at hk;exact zAc i (fr_ l hk.2 h) hk.1
theorem nf_{c:Code}(l:List Nat)(Γ':Gam)(H':Hp)(h0:frK l H=true)(hk:lkN (frG l Γ) Γ'=lkV Γ')(hH:frH l H=H')(h:Tc P Q w0 A0 N Γ' H' c):Tc P Q w0 A0 N Γ H c:=fr_ l h0 (nz_ Γ' H' hk hH h)
theorem zbv{c:Code}(I:Nat->Gam->Hp->Prop){m0:Nat}{Γ0:Gam}(h0:I m0 Γ0 H)(hk:lkN Γ Γ0=lkV Γ0)
  (round:∀m Γ H,I m Γ H->Tc P (qk P Q (.lp (fun a w=>∃m' Γ' H',m'<m/\I m' Γ' H'/\St w0 A0 N Γ' H' a w)::ks)) w0 A0 N Γ H c):Tc P (qk P Q ks) w0 A0 N Γ H (.loop c):=zpk I h0 (zfl hk) round
theorem zAu{c:Code}(I:Nat->Gam->Hp->Prop){m0:Nat}{Γ0:Gam}(h0:I m0 Γ0 H)(hk:zjn Γ Γ0)
  (round:∀m Γ H,I m Γ H->Tc P (qk P Q (.lp (fun a w=>∃m' Γ' H',m'<m/\I m' Γ' H'/\St w0 A0 N Γ' H' a w)::ks)) w0 A0 N Γ H c):Tc P (qk P Q ks) w0 A0 N Γ H (.loop c):=zpk I h0 hk round
theorem nx_{I:Nat->Gam->Hp->Prop}{m m':Nat}{Γ':Gam}(hI:I m' Γ' H)(hk:lkN Γ Γ'=lkV Γ')(hm:m'<m:=by omega) :
  At (qk P Q (.lp (fun a w=>∃m' Γ' H',m'<m/\I m' Γ' H'/\St w0 A0 N Γ' H' a w)::ks)) w0 A0 N Γ H .normal:=znT hm hI (zfl hk)
theorem mt_{x y:Code}(Γ':Gam)(H':Hp)(h:Tc P (qk P Q (.lp (fun a w=>St w0 A0 N Γ' H' a w)::ks)) w0 A0 N Γ H x)(hy:Tc P (qk P Q ks) w0 A0 N Γ' H' y):Tc P (qk P Q ks) w0 A0 N Γ H (.seq x y):=zAa h hy
theorem mx_{Γ':Gam}(hk:lkN Γ Γ'=lkV Γ'):At (qk P Q (.lp (fun a w=>St w0 A0 N Γ' H a w)::ks)) w0 A0 N Γ H .normal:=zeG (zfl hk)
theorem rn_{c:Code}{n:Nat}(h:Tc P (qk P Q (.lp (Code.rounds P c (qk P Q ks) n)::ks)) w0 A0 N Γ H c):Rn P (qk P Q ks) w0 A0 N Γ H (n+1) c:=h
def rvD(F:MTab)(Γ:Gam)(H:Hp):ResultVar->Option V
 |.tmp s=>match zbP Γ s with
  |some (.inl x)=>some x
  |_=>none
 |.cell s t=>match zbP Γ s with
  |some (.inr (.inr (.inl (i,off))))=>match H[i]? with
   |some (some e)=>match zdW t F.ty with
    |some (true,n)=>bif Nat.beq off 0&&(Nat.beq e.ls.length n&&Nat.blt 0 n) then some (V.agg e.ls) else none
    |_=>none
   |_=>none
  |_=>none
theorem zjD{F:MTab}(hF:F.Ok P){r:ResultVar}{x:V}(h:rvD F Γ H r=some x):zee P Γ H r x:=by
 unfold rvD at h;split at h
 .split at h
  .rename_i x hx;simp only[zEs] at h;subst h;exact hx
  .simp at h
 .split at h
  .rename_i i off hs;split at h
   .rename_i e hi;split at h
    .rename_i n ht;cases hc:(Nat.beq off 0&&(Nat.beq e.ls.length n&&Nat.blt 0 n))
     .rw[hc] at h;simp at h
     .rw[hc] at h;simp only[cond_true,zEs] at h;simp only[zED,Nat.beq_eq,Nat.blt_eq] at hc;obtain⟨rfl,rfl,h2⟩:=hc;exact⟨i,e,hs,hi,.inl ⟨zaZ hF.f.ty ht,h2,h.symm⟩⟩
    .simp at h
   .simp at h
  .simp at h
theorem r1_[T:Tab P]{fn:Func}{y:R}{r:ResultVar}{x:V}(hQ:∀a w,zvO P fn w0 A0 y .ret a w->Q .ret a w)(h:(fn.results,rvD T.F Γ H r)=(#[r],some x))(hy:R.one x=y)(hcl:x.cl=true:=by rfl):Tc P Q w0 A0 N Γ H .ret:=by
 simp only[zEu] at h;exact zz8 hQ h.1 (zjD T.ok h.2) hy hcl
theorem r2_[T:Tab P]{fn:Func}{y:R}{r r':ResultVar}{x x':V}(hQ:∀a w,zvO P fn w0 A0 y .ret a w->Q .ret a w)(h:(fn.results,rvD T.F Γ H r,rvD T.F Γ H r')=(#[r,r'],some x,some x'))(hy:R.tup [x,x']=y)(hcl:zho [x,x']=true:=by rfl):Tc P Q w0 A0 N Γ H .ret:=by
 simp only[zEu] at h;exact zz7 hQ h.1 (zjD T.ok h.2.1) (zjD T.ok h.2.2) hy hcl
theorem r3_[T:Tab P]{fn:Func}{y:R}{r r' r'':ResultVar}{x x' x'':V}(hQ:∀a w,zvO P fn w0 A0 y .ret a w->Q .ret a w)(h:(fn.results,rvD T.F Γ H r,rvD T.F Γ H r',rvD T.F Γ H r'')=(#[r,r',r''],some x,some x',some x''))(hy:R.tup [x,x',x'']=y)(hcl:zho [x,x',x'']=true:=by rfl):Tc P Q w0 A0 N Γ H .ret:=by
 simp only[zEu] at h;exact zz6 hQ h.1 (zjD T.ok h.2.1) (zjD T.ok h.2.2.1) (zjD T.ok h.2.2.2) hy hcl
end
end Rc
