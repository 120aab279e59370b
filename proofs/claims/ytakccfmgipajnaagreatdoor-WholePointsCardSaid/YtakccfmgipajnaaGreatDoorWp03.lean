/- Parts of the proof, 3: the texts FwN, FwS, FwO, FwP, FwR, FwT, FwU, FwV, FwW, as far as they are used. -/
import Derived.Test.YtakccfmgipajnaaGreatDoorWp02
set_option linter.unusedSimpArgs false
set_option linter.unusedVariables false
set_option maxRecDepth 10000
namespace Rc
abbrev YN:=@List.take_append_drop
abbrev Y2:=@Nat.one_mul
abbrev Y4:=@Nat.mul_div_cancel
abbrev Zh:=@List.drop_drop
abbrev ZG:=@Sum.inr.injEq
abbrev ZP:=@List.map_cons
abbrev Z9:=@Option.some.inj
abbrev zaf:=@Nat.add_sub_cancel
abbrev zaI:=@List.take_left
abbrev zaK:=@List.take_succ_cons
abbrev za3:=@List.cons.injEq
abbrev za7:=@List.take_length_add_append
end Rc
namespace Rc
open Go Go.RowKit
section
variable {w0:aJ}{A0:ak}{N:Nat}{Γ:aA}{H:Hp}{E:Env}{a:Act}{w:World}
theorem Good.AJ(h:Good w0 A0 N Γ H E a w){s:Nat}{v:Value}{d:D}(hv:mA w0 a s=some v)(ho:d.gb H)(hd:d.den E v w):Good w0 A0 N ((s,some d)::Γ) H E a w:=by
 refine⟨h.below,h.bc,h.cE,h.defers,h.size,?_,h.boxes,h.apart,h.kn,h.gd,h.bg⟩;intro s' d' hs';by_cases e:s=s'
 .subst e;rw[hY] at hs';cases hs';exact⟨ho,v,hv,hd⟩
 .rw[gH e] at hs';exact h.cr s' d' hs'
theorem Good.FT(k':Nat)(h:Good w0 A0 N Γ H E a w){r n k sz:Nat}{e:HE}{w':World}{ls':List ab}{b' cap':Nat}{nl':Bool}{v':Value}(A2:Cells)(hA2:∀x j,A2 x j->x<w'.heap.size/\(E.A x j\/w.heap.size<=x\/(E.nil r=false/\x=E.b r)))(hi:H[r]?=some (some e))(hp:e.cP=some (.inr (k,some n)))(hr:e.row=some sz)
  (hbel:w0.cW w') (hsize:w.heap.size<=w'.heap.size) (hkept:kept E.A w w') (hoth:∀(j:Nat) (e':HE),j≠r->H[j]?=some (some e')->E.nil j=false->w'.heap[E.b j]?=w.heap[E.b j]?)
  (hrow:if nl'=true then ls'=[]/\cap'=0 else cap'<=maxLen/\∃cs rest:List Value,w'.heap[b']?=some (.cells (cs++rest).toArray e.t (0,0))/\(cs++rest).length=cap'*sz/\a9 ⟨fun x j=>E.A x j\/A2 x j,E.A.g⟩ ls' cs w')
  (hmine:nl'=false->w0.w.heap.size<=b'\/w0.X b') (hfree:nl'=false->∀j,k'<=j->¬E.A b' j/\¬A2 b' j) (hap:nl'=false->∀(j:Nat) (e':HE),j≠r->H[j]?=some (some e')->E.nil j=false->E.b j≠b')
  (hv:v'=if nl'=true then .slice none 0 0 else .slice (some ⟨b',0,none⟩) (ls'.length/sz) cap') :
  ∃E',Good w0 A0 N Γ (H.set r (some ⟨e.t,ls',some sz,some (.inr (k',some (n+1)))⟩)) E' a w'/\E'.A.g r (n+1)=some v'/\ak.le E.A E'.A/\∀x j,A2 x j->E'.A x j:=by
 have hil:=(XN.1 hi).1;have hver:e.cY=true:=by unfold HE.cY;rw[hp]
 obtain⟨kn1,kn2,kn3⟩:=h.kn r e n hi ⟨k,hp⟩
 let A':ak:=⟨fun x j=>E.A x j\/A2 x j\/(nl'=false/\x=b'/\j<k'),fun i m=>if i=r/\m=n+1 then some v' else E.A.g i m⟩
 let E':Env:=⟨fun j=>if j=r then b' else E.b j,fun j=>if j=r then cap' else E.cap j,fun j=>if j=r then nl' else E.nil j,A'⟩
 have hle:ak.le E.A A':=⟨fun x j hx=>.inl hx,fun i m u hu=>by
  show(if i=r/\m=n+1 then some v' else E.A.g i m)=some u;rw[if_neg]
  .exact hu
  .rintro⟨rfl,rfl⟩;rw[kn2 (n+1) (by omega)] at hu;simp at hu⟩
 have back:∀(j:Nat) (e1:HE),(H.set r (some ⟨e.t,ls',some sz,some (.inr (k',some (n+1)))⟩))[j]?=some (some e1)->(j=r/\e1=⟨e.t,ls',some sz,some (.inr (k',some (n+1)))⟩)\/(j≠r/\H[j]?=some (some e1)):=by
  intro j e1 hj;by_cases hij:r=j
  .subst hij;rw[X7 hil] at hj;simp only[XL] at hj;exact .inl ⟨rfl,hj.symm⟩
  .rw[X0 hij] at hj;exact .inr ⟨fun e=>hij e.symm,hj⟩
 have hblt:nl'=false->b'<w'.heap.size:=by
  intro hn;rw[if_neg (by simp[hn])] at hrow;obtain⟨_,cs,rest,hc,_⟩:=hrow;exact(X4.1 hc).1
 refine⟨E',⟨hbel,?_,?_,h.defers,h.size,?_,?_,?_,?_,?_,h.bg.bI hle.1 hkept⟩,?_,hle,fun x j hx=>.inr (.inl hx)⟩
 .intro x j hx;rcases hx with hx|hx|⟨hn,rfl,_⟩
  .exact XZ (h.bc x j hx) hsize
  .exact(hA2 x j hx).1
  .exact hblt hn
 .intro x j hx;rcases hx with hx|hx|⟨hn,rfl,_⟩
  .exact h.cE x j hx
  .rcases(hA2 x j hx).2 with hx|hx|⟨hn,rfl⟩
   .exact h.cE x j hx
   .exact .inr (.inl (XY h.below.size hx))
   .have:=((h.boxes r e hi).2 hn).1;rw[hp] at this;exact .inr this
  .exact .inr (hmine hn)
 .intro s d hs;obtain⟨ho,v,hv',hd⟩:=h.cr s d hs;have hno:∀j,d.nm=some j->j≠r:=by
   intro j hj e';subst e';obtain⟨e1,h1,h2⟩:=D.uj.1 ho j hj;rw[hi] at h1;cases h1;rw[hver] at h2;simp at h2
  refine⟨D.kK ho fun j e1 hj h1 h2=>⟨e1,by rw[X0 (fun e'=>hno j hj e'.symm)];exact h1,h2⟩,v,hv',?_⟩;have hd:=D.fK hkept hd;rcases d with x|xs|⟨i,o⟩|⟨i,q⟩
  .exact V.cU hle hd
  .obtain⟨vs,rfl,hvs⟩:=hd;exact⟨vs,rfl,hvs.mono hle⟩
  .have:=hno i rfl;simp only[D.den,E',if_neg this] at hd ⊢;exact hd
  .have:=hno i rfl;simp only[D.den,E',if_neg this] at hd ⊢;exact hd
 .intro j e1 hj;rcases back j e1 hj with⟨rfl,rfl⟩|⟨hij,hj'⟩
  .refine⟨?_,fun hn=>?_⟩
   .unfold HE.ok;simp only[E',if_true];by_cases hn:nl'=true
    .rw[if_pos hn] at hrow ⊢;exact hrow
    .rw[if_neg hn] at hrow ⊢;obtain⟨h1,cs,rest,h2,h3,h4⟩:=hrow;have hle2:ak.le ⟨fun x j=>E.A x j\/A2 x j,E.A.g⟩ A':=⟨fun x j hx=>by
      have hx:E.A x j\/A2 x j:=hx;rcases hx with hx|hx
      .exact .inl hx
      .exact .inr (.inl hx),hle.2⟩
     exact⟨h1,cs,rest,h2,h3,h4.mono hle2⟩
   .simp only[E',if_true] at hn ⊢;refine⟨hmine hn,fun i hi' hA=>?_⟩;have hi':k'<=i:=hi';rcases hA with hA|hA|⟨_,_,hlt⟩
    .exact(hfree hn i hi').1 hA
    .exact(hfree hn i hi').2 hA
    .omega
  .obtain⟨g1,g2⟩:=h.boxes j e1 hj';refine⟨?_,fun hn=>?_⟩
   .have g3:=HE.jt hle (HE.kL hkept (fun hn=>hoth j e1 hij hj' hn) g1);unfold HE.ok at g3 ⊢;simp only[E',if_neg hij] at g3 ⊢;exact g3
   .simp only[E',if_neg hij] at hn ⊢;refine⟨(g2 hn).1,fun i hi' hA=>?_⟩;rcases hA with hA|hA|⟨hn',hb,_⟩
    .exact(g2 hn).2 i hi' hA
    .rcases(hA2 _ _ hA).2 with hx|hx|⟨hnr,hx⟩
     .exact(g2 hn).2 i hi' hx
     .have:=HE.eu g1 hn;omega
     .exact h.apart j r e1 e hj' hi hn hnr hij hx
    .exact hap hn' j e1 hij hj' hn hb
 .intro j1 j2 e1 e2 g1 g2 n1 n2 h12;rcases back j1 e1 g1 with⟨rfl,rfl⟩|⟨hj1,g1'⟩ <;> rcases back j2 e2 g2 with⟨rfl,rfl⟩|⟨hj2,g2'⟩
  .exact absurd rfl h12
  .simp only[E',if_true,if_neg hj2] at n1 n2 ⊢;exact fun e'=>hap n1 j2 e2 hj2 g2' n2 e'.symm
  .simp only[E',if_true,if_neg hj1] at n1 n2 ⊢;exact hap n2 j1 e1 hj1 g1' n1
  .simp only[E',if_neg hj1,if_neg hj2] at n1 n2 ⊢;exact h.apart j1 j2 e1 e2 g1' g2' n1 n2 h12
 .intro j e1 m hj hm;rcases back j e1 hj with⟨rfl,rfl⟩|⟨hij,hj'⟩
  .obtain⟨k',hm⟩:=hm;simp only[XL,ZG,XO] at hm;obtain⟨_,rfl⟩:=hm;refine⟨?_,fun m' hm'=>?_,fun hn i hi'=>?_⟩
   .show(if j=j/\n+1=n+1 then some v' else E.A.g j (n+1))=_;rw[if_pos ⟨rfl,rfl⟩,hv];unfold HE.name;simp only[E',if_true]
   .show(if j=j/\m'=n+1 then some v' else E.A.g j m')=none;rw[if_neg (fun e'=>by omega)];exact kn2 m' (by omega)
   .simp only[E',if_true] at hn ⊢;exact .inr (.inr ⟨hn,rfl,hi'⟩)
  .obtain⟨q1,q2,q3⟩:=h.kn j e1 m hj' hm;refine⟨?_,fun m' hm'=>?_,fun hn i hi'=>?_⟩
   .show(if j=r/\m=n+1 then some v' else E.A.g j m)=_;rw[if_neg (fun e'=>hij e'.1),q1];unfold HE.name;simp only[E',if_neg hij]
   .show(if j=r/\m'=n+1 then some v' else E.A.g j m')=none;rw[if_neg (fun e'=>hij e'.1)];exact q2 m' hm'
   .simp only[E',if_neg hij] at hn ⊢;exact .inl (q3 hn i hi')
 .intro j m v hg;by_cases hj:j=r
  .subst hj;exact⟨_,_,_,X7 hil,rfl⟩
  .have hg:(if j=r/\m=n+1 then some v' else E.A.g j m)=some v:=hg;rw[if_neg (fun e'=>hj e'.1)] at hg;obtain⟨e1,k1,n1,q1,q2⟩:=h.gd j m v hg;exact⟨e1,k1,n1,by rw[X0 (fun e'=>hj e'.symm)];exact q1,q2⟩
 .show(if r=r/\n+1=n+1 then some v' else E.A.g r (n+1))=some v';rw[if_pos ⟨rfl,rfl⟩]
theorem Good.OH(h:Good w0 A0 N Γ H E a w){r n k sz:Nat}{e:HE}{w':World}{ls':List ab}{b' cap':Nat}{nl':Bool}{v':Value}(A2:Cells)(hA2:∀x j,A2 x j->x<w'.heap.size/\(E.A x j\/w.heap.size<=x\/(E.nil r=false/\x=E.b r)))(hi:H[r]?=some (some e))(hp:e.cP=some (.inr (k,some n)))(hr:e.row=some sz)
  (hbel:w0.cW w') (hsize:w.heap.size<=w'.heap.size) (hkept:kept E.A w w') (hoth:∀(j:Nat) (e':HE),j≠r->H[j]?=some (some e')->E.nil j=false->w'.heap[E.b j]?=w.heap[E.b j]?)
  (hrow:if nl'=true then ls'=[]/\cap'=0 else cap'<=maxLen/\∃cs rest:List Value,w'.heap[b']?=some (.cells (cs++rest).toArray e.t (0,0))/\(cs++rest).length=cap'*sz/\a9 ⟨fun x j=>E.A x j\/A2 x j,E.A.g⟩ ls' cs w')
  (hmine:nl'=false->w0.w.heap.size<=b'\/w0.X b') (hfree:nl'=false->∀j,ls'.length<=j->¬E.A b' j/\¬A2 b' j) (hap:nl'=false->∀(j:Nat) (e':HE),j≠r->H[j]?=some (some e')->E.nil j=false->E.b j≠b')
  (hv:v'=if nl'=true then .slice none 0 0 else .slice (some ⟨b',0,none⟩) (ls'.length/sz) cap') :
  ∃E',Good w0 A0 N Γ (H.set r (some ⟨e.t,ls',some sz,some (.inr (ls'.length,some (n+1)))⟩)) E' a w'/\E'.A.g r (n+1)=some v'/\ak.le E.A E'.A/\∀x j,A2 x j->E'.A x j:=h.FT ls'.length A2 hA2 hi hp hr hbel hsize hkept hoth hrow hmine hfree hap hv
theorem Good.tX(k':Nat)(h:Good w0 A0 N Γ H E a w){r n k sz:Nat}{e:HE}{w':World}{ls':List ab}{b' cap':Nat}{nl':Bool}{v':Value}(hi:H[r]?=some (some e))(hp:e.cP=some (.inr (k,some n)))(hr:e.row=some sz)
  (hbel:w0.cW w') (hsize:w.heap.size<=w'.heap.size) (hkept:kept E.A w w') (hoth:∀(j:Nat) (e':HE),j≠r->H[j]?=some (some e')->E.nil j=false->w'.heap[E.b j]?=w.heap[E.b j]?)
  (hrow:if nl'=true then ls'=[]/\cap'=0 else cap'<=maxLen/\∃cs rest:List Value,w'.heap[b']?=some (.cells (cs++rest).toArray e.t (0,0))/\(cs++rest).length=cap'*sz/\a9 E.A ls' cs w')
  (hmine:nl'=false->w0.w.heap.size<=b'\/w0.X b') (hfree:nl'=false->∀j,k'<=j->¬E.A b' j) (hap:nl'=false->∀(j:Nat) (e':HE),j≠r->H[j]?=some (some e')->E.nil j=false->E.b j≠b')
  (hv:v'=if nl'=true then .slice none 0 0 else .slice (some ⟨b',0,none⟩) (ls'.length/sz) cap') :
  ∃E',Good w0 A0 N Γ (H.set r (some ⟨e.t,ls',some sz,some (.inr (k',some (n+1)))⟩)) E' a w'/\E'.A.g r (n+1)=some v':=by
 obtain⟨E',h1,h2,_⟩:=h.FT k' (fun _ _=>False) (fun _ _ hx=>hx.elim) hi hp hr hbel hsize hkept hoth (by
  by_cases hn:nl'=true
  .rw[if_pos hn] at hrow ⊢;exact hrow
  .rw[if_neg hn] at hrow ⊢;obtain⟨h1,cs,rest,h2,h3,h4⟩:=hrow;exact⟨h1,cs,rest,h2,h3,h4.mono ⟨fun x j hx=>.inl hx,fun _ _ _ hx=>hx⟩⟩) hmine (fun hn j hj=>⟨hfree hn j hj,fun hx=>hx⟩) hap hv
 exact⟨E',h1,h2⟩
theorem Good.Ou(h:Good w0 A0 N Γ H E a w){r n q sz k:Nat}{e:HE}{v:Value}(hi:H[r]?=some (some e))(hp:e.cP=some (.inr (k,some n)))(hk:k=e.ls.length)(hr:e.row=some sz)(hl:e.ls.length=q*sz)(hsz:0<sz)(hcl:bW e.ls=true)
  (hv:E.A.g r n=some v):(bX q e.ls).P E.A.c v w:=by
 obtain⟨h1,_,h2⟩:=h.kn r e n hi ⟨k,hp⟩;rw[hv] at h1;simp only[XL] at h1;obtain⟨g1,_⟩:=h.boxes r e hi;unfold HE.name at h1;rw[hr] at h1;simp only at h1;rw[hl,Y4 q hsz] at h1;unfold HE.ok at g1;rw[hr] at g1;have hfz:e.fz=e.ls.length:=by unfold HE.fz;rw[hp];exact hk
 cases hn:E.nil r
 .simp only[hn,X8,if_false] at g1 h1;obtain⟨hm,cs,rest,hc,hlen,hcd⟩:=g1;have hlc:=hcd.length;refine⟨some ⟨E.b r,0,none⟩,E.cap r,h1,?_,hm,fun h=>by simp at h,fun ad had=>?_⟩
  .have:q*sz<=E.cap r*sz:=by rw[<-hl,<-hlen,<-hlc];simp
   exact YV this hsz
  .cases had;refine⟨fun _=>rfl,fun j l hj=>?_⟩;have hjl:=(XN.1 hj).1;obtain⟨u,hu,hud⟩:=(hcd.pure hcl).get hj;have hju:=(XN.1 hu).1;simp only[Yk];exact⟨h2 hn j (by omega),u,kQ (o:=j) hc (v:=u) (by rw[XV hju];exact hu),hud⟩
 .simp only[hn,if_true] at g1 h1;obtain⟨g3,_⟩:=g1;have hn0:q=0:=by
   rw[g3] at hl;rcases Zl.1 hl.symm with h|h
   .exact h
   .omega
  subst hn0;rw[g3,h1];exact oi (ak.of E.A.c) w
end
section
variable {P:Program}{ops:Array Oper}{Q:Exit->Act->World->Prop}{w0:aJ}{A0:ak}{N:Nat}{Γ:aA}{H:Hp}
def jK(l0 l1:ab):List ab->List ab->Prop
 |[],[]=>True
 |l::ls,l'::ls'=>(l=l'\/(l=l0/\l'=l1))/\jK l0 l1 ls ls'
 |[],_::_=>False
 |_::_,[]=>False
theorem jK.den{A A':ak}{w:World}{l0 l1:ab}(hle:ak.le A A')(hr:∀v,l0.den A v w->l1.den A' v w):∀{ls ls':List ab} {cs:List Value},jK l0 l1 ls ls'->a9 A ls cs w->a9 A' ls' cs w
 |[],[],[],_,_=>trivial
 |[],[],_::_,_,h=>h.elim
 |l::ls,l'::ls',[],_,h=>h.elim
 |l::ls,l'::ls',c::cs,h,hd=>by
  refine⟨?_,jK.den hle hr h.2 hd.2⟩;rcases h.1 with h1|⟨h1,h2⟩
  .rw[<-h1];exact ab.cU hle hd.1
  .rw[h2];exact hr c (h1 ▸ hd.1)
 |[],_::_,_,h,_=>h.elim
 |_::_,[],_,h,_=>h.elim
def tK(l0 l1:ab):V->V->Prop
 |.inl l,.inl l'=>l=l'\/(l=l0/\l'=l1)
 |.inr ls,.inr ls'=>jK l0 l1 ls ls'
 |_,_=>False
theorem tK.den{A A':ak}{w:World}{l0 l1:ab}(hle:ak.le A A')(hr:∀v,l0.den A v w->l1.den A' v w){x x':V}{v:Value}(h:tK l0 l1 x x')(hd:x.den A v w):x'.den A' v w:=by
 cases x with
 |inl l=>
  cases x' with
  |inl l'=>
   rcases h with h1|⟨h1,h2⟩
   .have h1:l=l':=h1;rw[<-h1];exact ab.cU hle hd
   .have h1:l=l0:=h1;have h2:l'=l1:=h2;rw[h2];exact hr v (h1 ▸ hd)
  |inr ls'=>exact h.elim
 |inr ls=>
  cases x' with
  |inl l'=>exact h.elim
  |inr ls'=>obtain⟨cs,rfl,hc⟩:=hd;exact⟨cs,rfl,jK.den hle hr h hc⟩
structure dH(H:Hp)(r n q:Nat)(ls:List ab):Prop where
 ex:∃(e:HE) (sz k:Nat),H[r]?=some (some e)/\e.cP=some (.inr (k,some n))/\k=ls.length/\e.row=some sz/\e.ls=ls/\ls.length=q*sz/\0<sz
 cl:bW ls=true
theorem dH.mk'{H:Hp}{r n q k sz u:Nat}{ls:List ab}(hi:H[r]?=some (some ⟨u,ls,some sz,some (.inr (k,some n))⟩))(hk:k=ls.length)(hl:ls.length=q*sz)(hsz:0<sz)(hcl:bW ls=true):dH H r n q ls:=
 ⟨⟨_,sz,k,hi,rfl,hk,rfl,rfl,hl,hsz⟩,hcl⟩
theorem dH.den{E:Env}{a:Act}{w:World}{r n q:Nat}{ls:List ab}(hR:dH H r n q ls)(h:Good w0 A0 N Γ H E a w)(v:Value)(hd:(ab.own r n).den E.A v w):(ab.rep (bX q ls)).den E.A v w:=by
 obtain⟨⟨e,sz,k,h1,h2,h3,h4,h5,h6,h7⟩,hc⟩:=hR;subst h5;exact h.Ou h1 h2 h3 h4 h6 h7 hc hd.1
theorem qw{X:List Nat}{o:Oper}{r n q:Nat}{ls:List ab}{x x':V}(h:Jq P ops X o Γ H (D.v x))(hR:dH H r n q ls)(hX:r ∉ X)(hs:tK (ab.own r n) (ab.rep (bX q ls)) x x'):Jq P ops X o Γ H (D.v x'):=by
 intro w0 A0 N Γ2 H2 E a w hs2 hH hG;obtain⟨_,v,hv,hd⟩:=h w0 A0 N Γ2 H2 E a w hs2 hH hG;have hR2:dH H2 r n q ls:=by
  obtain⟨⟨e,sz,k,h1,h2,h3,h4,h5,h6,h7⟩,hc⟩:=hR;exact⟨⟨e,sz,k,hH r e hX h1,h2,h3,h4,h5,h6,h7⟩,hc⟩
 exact⟨trivial,v,hv,hs.den (ak.le.refl _) (fun u hu=>hR2.den hG u hu) hd⟩
theorem Good.Me{E:Env}{a:Act}{w:World}(h:Good w0 A0 N Γ H E a w){s r n q:Nat}{ls:List ab}{x x':V}(hs:look Γ s=some (D.v x))(hR:dH H r n q ls)(hx:tK (ab.own r n) (ab.rep (bX q ls)) x x'):Good w0 A0 N ((s,some (D.v x'))::Γ) H E a w:=by
 obtain⟨_,v,hv,hd⟩:=h.cr s _ hs;exact h.AJ hv trivial (hx.den (ak.le.refl _) (fun u hu=>hR.den h u hu) hd)
theorem vY{c:Code}(s:Nat){r n q:Nat}{ls:List ab}{x x':V}(hs:look Γ s=some (D.v x))(hR:dH H r n q ls)(hx:tK (ab.own r n) (ab.rep (bX q ls)) x x')(h:Tc P Q w0 A0 N ((s,some (D.v x'))::Γ) H c):Tc P Q w0 A0 N Γ H c:=
 fun a w hSt=>let ⟨E,g⟩:=hSt;h a w ⟨E,g.Me hs hR hx⟩
theorem Good.y9{E:Env}{a:Act}{w:World}(h:Good w0 A0 N Γ H E a w){b:Nat}{l0 l1:ab}{eb:HE}{ls':List ab}(hb:H[b]?=some (some eb))(hbr:eb.row=none)(hr:∀v,l0.den E.A v w->l1.den E.A v w)
  (hsub:jK l0 l1 eb.ls ls'):Good w0 A0 N Γ (H.set b (some ⟨eb.t,ls',eb.row,eb.cP⟩)) E a w:=by
 have hbl:=(XN.1 hb).1;have back:∀(j:Nat) (e1:HE),(H.set b (some ⟨eb.t,ls',eb.row,eb.cP⟩))[j]?=some (some e1)->(b=j/\e1=⟨eb.t,ls',eb.row,eb.cP⟩)\/(b≠j/\H[j]?=some (some e1)):=by
  intro j e1 hj;by_cases hij:b=j
  .subst hij;rw[X7 hbl] at hj;simp only[XL] at hj;exact .inl ⟨rfl,hj.symm⟩
  .rw[X0 hij] at hj;exact .inr ⟨hij,hj⟩
 have get:∀(j:Nat) (e1:HE),(H.set b (some ⟨eb.t,ls',eb.row,eb.cP⟩))[j]?=some (some e1)->∃e2,H[j]?=some (some e2):=by
  intro j e1 hj;rcases back j e1 hj with⟨rfl,_⟩|⟨_,hj'⟩
  .exact⟨eb,hb⟩
  .exact⟨e1,hj'⟩
 refine⟨h.below,h.bc,h.cE,h.defers,h.size,fun s d hs=>?_,?_,?_,?_,?_,h.bg⟩
 .obtain⟨ho,v,hv,hd⟩:=h.cr s d hs;exact⟨ho.oj (fun e0 h0 h1=>by rw[hb] at h0;cases h0;exact h1),v,hv,hd⟩
 .intro j e1 hj;rcases back j e1 hj with⟨rfl,rfl⟩|⟨_,hj'⟩
  .obtain⟨g1,g2⟩:=h.boxes b eb hb;refine⟨?_,g2⟩;unfold HE.ok at g1 ⊢;rw[hbr] at g1;simp only[hbr];obtain⟨g3,cs,g4,g5⟩:=g1;exact⟨g3,cs,g4,hsub.den (ak.le.refl _) hr g5⟩
  .exact h.boxes j e1 hj'
 .intro j1 j2 e1 e2 g1 g2 n1 n2 h12;obtain⟨e1',q1⟩:=get j1 e1 g1;obtain⟨e2',q2⟩:=get j2 e2 g2;exact h.apart j1 j2 e1' e2' q1 q2 n1 n2 h12
 .intro j e1 v1 hj hv;rcases back j e1 hj with⟨rfl,rfl⟩|⟨_,hj'⟩
  .have:=h.kn b eb v1 hb hv;unfold HE.name at this ⊢;simp only[hbr] at this ⊢;exact this
  .exact h.kn j e1 v1 hj' hv
 .intro j m v hg;obtain⟨e1,k,n,q1,q2⟩:=h.gd j m v hg;by_cases hj:b=j
  .subst hj;rw[hb] at q1;cases q1;exact⟨_,k,n,X7 hbl,q2⟩
  .exact⟨e1,k,n,by rw[X0 hj];exact q1,q2⟩
theorem nI{c:Code}(b:Nat){r n q:Nat}{ls ls':List ab}{eb:HE}(hb:H[b]?=some (some eb))(hbr:eb.row=none)(hR:dH H r n q ls)(hsub:jK (ab.own r n) (ab.rep (bX q ls)) eb.ls ls')
  (h:Tc P Q w0 A0 N Γ (H.set b (some ⟨eb.t,ls',eb.row,eb.cP⟩)) c):Tc P Q w0 A0 N Γ H c:=
 fun a w hSt=>let ⟨E,g⟩:=hSt;h a w ⟨E,g.y9 hb hbr (fun v hv=>hR.den g v hv) hsub⟩
theorem Good.Ii{E:Env}{a:Act}{w:World}(h:Good w0 A0 N Γ H E a w){r:Nat}(hr:H.length=r)(u sz:Nat) :
  ∃E',Good w0 A0 N Γ (H++[some ⟨u,[],some sz,some (.inr (0,some 0))⟩]) E' a w/\E'.A.g r 0=some (.slice none 0 0):=by
 subst hr;have bR:∀m,E.A.g H.length m=none:=by
  intro m
  cases hm:E.A.g H.length m with
  |none=>rfl
  |some v=>
   obtain⟨e,k,n,q1,_⟩:=h.gd _ m v hm;have:=(XN.1 q1).1;omega
 let A':ak:=⟨E.A.c,fun i m=>if i=H.length/\m=0 then some (.slice none 0 0) else E.A.g i m⟩
 let E':Env:=⟨E.b,fun j=>if j=H.length then 0 else E.cap j,fun j=>if j=H.length then true else E.nil j,A'⟩
 have hle:ak.le E.A A':=⟨fun x j hx=>hx,fun i m u hu=>by
  show(if i=H.length/\m=0 then some (.slice none 0 0) else E.A.g i m)=some u;rw[if_neg]
  .exact hu
  .rintro⟨rfl,rfl⟩;rw[bR] at hu;simp at hu⟩
 have back:∀(j:Nat) (e1:HE),(H++[some ⟨u,[],some sz,some (.inr (0,some 0))⟩])[j]?=some (some e1)->(j=H.length/\e1=⟨u,[],some sz,some (.inr (0,some 0))⟩)\/(j≠H.length/\H[j]?=some (some e1)):=by
  intro j e1 hj;by_cases hij:j=H.length
  .subst hij;simp at hj;exact .inl ⟨rfl,hj.symm⟩
  .have hlt:j<H.length:=by
    have:=(XN.1 hj).1;simp at this;omega
   rw[XV hlt] at hj;exact .inr ⟨hij,hj⟩
 refine⟨E',⟨h.below,h.bc,h.cE,h.defers,h.size,?_,?_,?_,?_,?_,h.bg⟩,?_⟩
 .intro s d hs;obtain⟨ho,v,hv,hd⟩:=h.cr s d hs;refine⟨ho.xz,v,hv,?_⟩;rcases d with x|xs|⟨i,o⟩|⟨i,q⟩
  .exact V.cU hle hd
  .obtain⟨vs,rfl,hvs⟩:=hd;exact⟨vs,rfl,hvs.mono hle⟩
  .exact hd
  .have:i≠H.length:=zax (oe ho);simp only[D.den,E',if_neg this] at hd ⊢;exact hd
 .intro j e1 hj;rcases back j e1 hj with⟨rfl,rfl⟩|⟨hij,hj'⟩
  .refine⟨?_,fun hn=>?_⟩
   .unfold HE.ok;simp only[E',if_true];exact⟨trivial,trivial⟩
   .simp[E'] at hn
  .obtain⟨g1,g2⟩:=h.boxes j e1 hj';refine⟨?_,fun hn=>?_⟩
   .have g3:=HE.jt hle g1;unfold HE.ok at g3 ⊢;simp only[E',if_neg hij] at g3 ⊢;exact g3
   .simp only[E',if_neg hij] at hn;exact g2 hn
 .intro j1 j2 e1 e2 g1 g2 n1 n2 h12;rcases back j1 e1 g1 with⟨rfl,rfl⟩|⟨hj1,g1'⟩
  .simp[E'] at n1
  .rcases back j2 e2 g2 with⟨rfl,rfl⟩|⟨hj2,g2'⟩
   .simp[E'] at n2
   .simp only[E',if_neg hj1,if_neg hj2] at n1 n2;exact h.apart j1 j2 e1 e2 g1' g2' n1 n2 h12
 .intro j e1 m hj hm;rcases back j e1 hj with⟨rfl,rfl⟩|⟨hij,hj'⟩
  .obtain⟨k',hm⟩:=hm;simp only[XL,ZG,XO] at hm;obtain⟨_,rfl⟩:=hm;refine⟨?_,fun m' hm'=>?_,fun hn=>by simp[E'] at hn⟩
   .show(if H.length=H.length/\0=0 then some (.slice none 0 0) else E.A.g H.length 0)=_;rw[if_pos ⟨rfl,rfl⟩];simp[HE.name,E']
   .show(if H.length=H.length/\m'=0 then some (.slice none 0 0) else E.A.g H.length m')=none;rw[if_neg (fun e'=>by omega)];exact bR m'
  .obtain⟨q1,q2,q3⟩:=h.kn j e1 m hj' hm;refine⟨?_,fun m' hm'=>?_,fun hn i hi'=>?_⟩
   .show(if j=H.length/\m=0 then some (.slice none 0 0) else E.A.g j m)=_;rw[if_neg (fun e'=>hij e'.1),q1];unfold HE.name;simp only[E',if_neg hij]
   .show(if j=H.length/\m'=0 then some (.slice none 0 0) else E.A.g j m')=none;rw[if_neg (fun e'=>hij e'.1)];exact q2 m' hm'
   .simp only[E',if_neg hij] at hn;exact q3 hn i hi'
 .intro j m v hg;by_cases hj:j=H.length
  .subst hj;exact⟨⟨u,[],some sz,some (.inr (0,some 0))⟩,0,0,by simp,rfl⟩
  .have hg:(if j=H.length/\m=0 then some (.slice none 0 0) else E.A.g j m)=some v:=hg;rw[if_neg (fun e'=>hj e'.1)] at hg;obtain⟨e1,k1,n1,q1,q2⟩:=h.gd j m v hg;exact⟨e1,k1,n1,by rw[XV (XN.1 q1).1];exact q1,q2⟩
 .show(if H.length=H.length/\0=0 then some (.slice none 0 0) else E.A.g H.length 0)=some (.slice none 0 0);rw[if_pos ⟨rfl,rfl⟩]
theorem DA{c:Code}(s u sz:Nat){r:Nat}(hs:look Γ s=some (D.val (.slice none 0 0)))(hr:H.length=r)(h:Tc P Q w0 A0 N ((s,some (D.v (V.one (ab.own r 0))))::Γ) (H++[some ⟨u,[],some sz,some (.inr (0,some 0))⟩]) c):Tc P Q w0 A0 N Γ H c:=by
 intro a w hSt;obtain⟨E,g⟩:=hSt;obtain⟨E',g',hg⟩:=g.Ii hr u sz;obtain⟨_,v,hv,hd⟩:=g.cr s _ hs;obtain⟨rfl,_⟩:v = .slice none 0 0/\_:=hd;exact h a w ⟨E',g'.AJ (d:=D.v (V.one (ab.own r 0))) hv trivial ⟨hg,rfl⟩⟩
theorem nK{c:Code}(b u sz:Nat){r:Nat}{ls':List ab}{eb:HE}(hb:H[b]?=some (some eb))(hbr:eb.row=none)(hr:H.length=r)(hsub:jK (ab.val (.slice none 0 0)) (ab.own r 0) eb.ls ls')
  (h:Tc P Q w0 A0 N Γ ((H++[some (⟨u,[],some sz,some (.inr (0,some 0))⟩:HE)]:Hp).set b (some ⟨eb.t,ls',eb.row,eb.cP⟩)) c):Tc P Q w0 A0 N Γ H c:=by
 intro a w hSt;obtain⟨E,g⟩:=hSt;obtain⟨E',g',hg⟩:=g.Ii hr u sz;exact h a w ⟨E',g'.y9 (by rw[XV (XN.1 hb).1];exact hb) hbr (l0:=ab.val (.slice none 0 0)) (l1:=ab.own r 0) (fun v hv=>by rw[hv.1];exact⟨hg,rfl⟩) hsub⟩
theorem Good.NV{E:Env}{a:Act}{w:World}(h:Good w0 A0 N Γ H E a w){i:Nat}{e:HE}(he:H[i]?=some (some e))(hn:E.nil i=false){cs':Array Value}{cs0:Array Value}
  (h0:w.heap[E.b i]?=some (.cells cs0 e.t (0,0))) (hfz:∀j,j<e.fz->cs'[j]?=cs0[j]?):kept E.A w (w.setRow (E.b i) cs'):=by
 obtain⟨h1,h2⟩:=h.boxes i e he;obtain⟨h3,h4⟩:=h2 hn;have hnew:=setRow_heap w (E.b i) cs0 cs' e.t (0,0) h0;intro k j hA;by_cases hkb:k=E.b i
 .subst hkb;have hj:j<e.fz:=Nat.lt_of_not_le fun hle=>h4 j hle hA;unfold World.cell?;rw[hnew,h0];exact hfz j hj
 .exact Zk (setRow_other w _ k _ (fun e=>hkb e))
theorem Ny{A:ak}{w:World}{ls2:List ab}{m capy:Nat}{ay:Option Addr}(hl2:m=0->ls2=[])(cy1:m<=capy)(cy3:ay=none->m=0/\ls2=[])
  (cy4:∀ad,ay=some ad->(0<capy->ad.spot=none)/\∀(i:Nat) (l:ab),ls2[i]?=some l->A ad.block (ad.off+i)/\∃x,w.cell? ⟨ad.block,ad.off+i,none⟩=some x/\l.den (ak.of A.c) x w) :
  ∃news:List Value,a9 A ls2 news w/\∀ad,ay=some ad->∀j v,news[j]?=some v->w.cell? (ad.add j)=some v:=by
 cases ay with
 |none=>
  obtain⟨_,e2⟩:=cy3 rfl;subst e2;exact⟨[],trivial,fun ad h=>by simp at h⟩
 |some ad=>
  by_cases hcy:capy=0
  .have hl0:ls2=[]:=hl2 (by omega);subst hl0;exact⟨[],trivial,fun ad _ j v h=>by simp at h⟩
  obtain⟨d1,d2⟩:=cy4 ad rfl;obtain⟨bl,off,sp⟩:=ad;simp only at d1 d2;have d1:=d1 (by omega);subst d1;have hex:∀(ls:List ab) (off:Nat),(∀(i:Nat) (l:ab),ls[i]?=some l->A bl (off+i)/\∃x,w.cell? ⟨bl,off+i,none⟩=some x/\l.den (ak.of A.c) x w) →
    ∃cs:List Value,a9 (ak.of A.c) ls cs w/\∀j v,cs[j]?=some v->w.cell? ⟨bl,off+j,none⟩=some v:=by
   intro ls
   induction ls with
   |nil=>intro off _;exact⟨[],trivial,fun j v h=>by simp at h⟩
   |cons l ls ih=>
    intro off h;obtain⟨_,x,hx,hd⟩:=h 0 l rfl;obtain⟨cs,hcs,hcc⟩:=ih (off+1) (fun i l hi=>by
     have:=h (i+1) l (by simpa using hi)
     rwa [show off+(i+1)=off+1+i from by omega] at this)
    refine⟨x::cs,⟨hd,hcs⟩,fun j v hj=>?_⟩
    cases j with
    |zero=>simp at hj;subst hj;exact hx
    |succ j=>have:=hcc j v (by simpa using hj);rwa [show off+(j+1)=off+1+j from by omega]
  obtain⟨cs,hcs,hcc⟩:=hex ls2 off d2;exact⟨cs,hcs.mono (uE _),fun ad had j v hj=>by cases had;rw[jW];exact hcc j v hj⟩
theorem DT{o:Oper}{x y:Operand}{t t2 u u2 r n q m sz k:Nat}(k':Nat){pl ls2 ls:List ab}{inf:TypeInfo}{z:Value}
  (ho:o.op = .call { callee:=.builtin .append,args:=#[x,y],argTypes:=#[t,t2] })
  (hx:ao Γ x=some (D.v (V.one (ab.own r n)))) (hy:ao Γ y=some (D.rep (bX m ls2))) (hi:H[r]?=some (some ⟨u,pl,some sz,some (.inr (k,some n))⟩)) (hl:pl.length=q*sz) (hl2:ls2.length=m*sz) (hsz:0<sz)
  (ht:P.underlying t=some (.slice u)) (ht2:P.underlying t2=some (.slice u2)) (hinf:P.info? u=some inf) (hz:inf.zero=some z) (hisz:inf.size=sz) (hzs:z.cells.size=sz)
  (hlen:q+m<=maxLen) (hbytes:(q+m)*inf.bytes<=140737488355328) (hk:k<=pl.length) (hk2:k<=k') (hls:pl++ls2=ls:=by rfl) :
  Je P ops o Γ H (some (D.v (V.one (ab.own r (n+1))))) (H.set r (some ⟨u,ls,some sz,some (.inr (k',some (n+1)))⟩)):=by
 intro w0 A0 N Γ2 a w Q K hs hN hSt hK;obtain⟨E,hG⟩:=hSt;subst hls hisz;obtain⟨_,h1⟩:=bY hs hG (x:=x) (by rw[ho];simp[Op.operands,Call.operands]) hx;obtain⟨_,ay,capy,h2,cy1,cy2,cy3,cy4⟩:=bY hs hG (x:=y) (by rw[ho];simp[Op.operands,Call.operands]) hy;obtain⟨g1,g2⟩:=hG.boxes r _ hi;obtain⟨kn1,kn2,kn3⟩:=hG.kn r _ n hi ⟨_,rfl⟩;have h1:a.eval x=HE.name E r ⟨u,pl,some inf.size,some (.inr (k,some n))⟩:=by
  have h1:E.A.g r n=some (a.eval x)/\_:=h1;rw[kn1] at h1;exact(Z9 h1.1).symm
 have hq:pl.length/inf.size=q:=by rw[hl];exact Y4 q hsz
 have hq2:(pl++ls2).length/inf.size=q+m:=by rw[XX,hl,hl2,<-Ys];exact Y4 _ hsz
 unfold HE.name at h1;simp only[hq] at h1;obtain⟨news,hnd,hnc⟩:=Ny (A:=E.A) (w:=w) (ls2:=ls2) (m:=m) (capy:=capy) (ay:=ay) (fun h=>X5 (by rw[hl2,h,Zm])) cy1 (fun h=>⟨(cy3 h).1,(cy3 h).2.1⟩) cy4;have hnl:news.length=m*inf.size:=by rw[hnd.length,hl2]
 have hn1:=hnd.one;have hexec:∀v' w',(Builtin.append_ #[t,t] o.type #[a.eval x,a.eval y]).run P w = .ok v' w'->(execOp a.eval o).run P w = .ok (.value v') w':=by
  intro v' w' hh;simp[execOp,ho,resolve,invoke,builtin,zk w _ _ ht ht2,hh]
 have fin:∀(v:Value) (w':World) (E':Env),(Builtin.append_ #[t,t] o.type #[a.eval x,a.eval y]).run P w = .ok v w'->v.oneCell'=true →
   Good w0 A0 N Γ2 (H.set r (some ⟨u,pl++ls2,some inf.size,some (.inr (k',some (n+1)))⟩)) E' a w'->E'.A.g r (n+1)=some v->Oper.wp P o a w K Q:=by
  intro v w' E' hrun h1v hg hgv;exact gh (hexec _ _ hrun) (hK _ _ ⟨E',hg.put (fun d hd=>by cases hd;exact⟨trivial,hgv,h1v⟩) hN⟩)
 have inPlace:E.nil r=false->q+m<=E.cap r->ay≠none->Oper.wp P o a w K Q:=by
  intro hn hroom hay
  cases hay':ay with
  |none=>exact absurd hay' hay
  |some ad=>
   subst hay';simp only[hn,X8,if_false] at h1;unfold HE.ok at g1;simp only[hn] at g1;obtain⟨hm,cs,rest',hc,hlc,hcd⟩:=g1;have hcl:=hcd.length;have hfit:q*inf.size+news.length<=(cs++rest').toArray.size:=by
    rw[hnl,<-Ys];simp only[zan];rw[hlc];exact Ya _ hroom
   have hrun:=run_append_room (P:=P) w t o.type u inf ht hinf (E.b r) q (E.cap r) (cs++rest').toArray hc ad m capy news hnl (hnc ad rfl) hn1 hroom hfit;have hcsn:cs.length=q*inf.size:=by rw[hcl,hl]
   have hrow:((cs++rest').toArray.toList.take (q*inf.size)++news++(cs++rest').toArray.toList.drop (q*inf.size+news.length))=cs++(news++rest'.drop news.length):=by
    show((cs++rest').take _++news++(cs++rest').drop _)=_;rw[YY (by omega),YH (by omega),<-hcsn,zaX];simp
   rw[hrow] at hrun;have hfz:∀j,j<k->(cs++(news++rest'.drop news.length)).toArray[j]?=(cs++rest').toArray[j]?:=by
    intro j hj;rw[Zt,Zt,XV (by omega),XV (by omega)]
   have hkp:=hG.NV hi hn (cs':=(cs++(news++rest'.drop news.length)).toArray) hc hfz;have hG':=hG.setRow hi hn (ls':=pl) (cs':=cs) (rest':=news++rest'.drop news.length) hc
    (by simp at hfit ⊢;omega) (fun h=>by simp at h) hcd (.inr rfl) (fun j hj=>by have:=hfz j hj;rw[Zt] at this;exact this)
   have hnew:=setRow_heap w (E.b r) _ (cs++(news++rest'.drop news.length)).toArray u (0,0) hc;rw[show H.set r (some ({ (⟨u,pl,some inf.size,some (.inr (k,some n))⟩:HE) with ls:=pl }))=H from by
    apply zaU;intro j;rw[getElem?_set'];by_cases hij:r=j
    .subst hij;rw[if_pos rfl,if_pos (XN.1 hi).1,hi]
    .rw[if_neg hij]] at hG'
   obtain⟨E',hg,hgv⟩:=hG'.tX k' (w':=w.setRow (E.b r) (cs++(news++rest'.drop news.length)).toArray) (ls':=pl++ls2) (b':=E.b r) (cap':=E.cap r) (nl':=false) (v':=.slice (some ⟨E.b r,0,none⟩) (q+m) (E.cap r)) hi rfl rfl
    hG'.below (XP _) (fun _ _ _=>rfl) (fun _ _ _ _ _=>rfl)
    (by
     simp only[X8,if_false];exact⟨hm,cs++news,rest'.drop news.length,by rw[Yf];exact hnew,by
      rw[<-hlc];simp at hfit ⊢;omega,(hcd.append hnd).bI hkp⟩)
    (fun _=>(g2 hn).1)
    (fun _ j hj=>(hG'.boxes r _ hi).2 hn |>.2 j (by show k<=j;omega))
    (fun _ j e' hj he' hn'=>fun e2=>hG.apart j r e' _ he' hi hn' hn hj e2)
    (by simp only[X8,if_false];rw[hq2])
   exact fin _ _ E' (by rw[h1,h2];exact hrun) rfl hg hgv
 have anew:∀(cap:Nat) (cells:List Value) (spare:List Value),q+m<=cap->cap<=maxLen->a9 E.A pl cells w->(cells++news++spare).length=cap*inf.size →
   (Builtin.append_ #[t,t] o.type #[a.eval x,a.eval y]).run P w = .ok (.slice (some ⟨w.heap.size,0,none⟩) (q+m) cap) (w.drew.alloc (.cells (cells++news++spare).toArray u)) →
   Oper.wp P o a w K Q:=by
  intro cap cells spare hcap hcm hcd hcl hrun;have hb0:=ma w.drew (.cells (cells++news++spare).toArray u);have hb:Below w.heap.size w (w.drew.alloc (.cells (cells++news++spare).toArray u)):=⟨hb0.os,hb0.tape,hb0.output,hb0.size,hb0.block⟩;have hkp:kept E.A w (w.drew.alloc (.cells (cells++news++spare).toArray u)):=ju fun k j hk=>hb.block k (hG.bc k j hk);have hsz':(w.drew.alloc (.cells (cells++news++spare).toArray u)).heap.size=w.heap.size+1:=by
   rw[za6];rfl
  have hnew:(w.drew.alloc (.cells (cells++news++spare).toArray u)).heap[w.heap.size]?=some (.cells (cells++news++spare).toArray u (0,0)):=heap_alloc_new w.drew _;obtain⟨E',hg,hgv⟩:=hG.tX k' (w':=w.drew.alloc (.cells (cells++news++spare).toArray u)) (ls':=pl++ls2) (b':=w.heap.size) (cap':=cap) (nl':=false) (v':=.slice (some ⟨w.heap.size,0,none⟩) (q+m) cap) hi rfl rfl
   (hG.below.then (hb.mono hG.below.size)) (by omega) hkp (fun j e' _ hj' hn'=>hb.block _ (HE.eu (hG.boxes j e' hj').1 hn'))
   (by
    simp only[X8,if_false];exact⟨hcm,cells++news,spare,hnew,hcl,(hcd.append hnd).bI hkp⟩)
   (fun _=>.inl hG.below.size)
   (fun _ j _ hA=>by have:=hG.bc _ _ hA;omega)
   (fun _ j e' _ hj' hn' hbj=>by have:=HE.eu (hG.boxes j e' hj').1 hn';omega)
   (by simp only[X8,if_false];rw[hq2])
  exact fin _ _ E' hrun rfl hg hgv
 have harr:∀(cs:List Value) (Z:Array Value),(cs++news++Z.toList).toArray=cs.toArray++news.toArray++Z:=fun cs Z=>by
  apply Array.ext';simp
 have hcapm:∀bg,grownCap w (q+m) bg u<=maxLen:=fun bg=>grownCap_le_maxLen w (q+m) bg u hlen;have hcapg:∀bg,q+m<=grownCap w (q+m) bg u:=fun bg=>grownCap_ge w (q+m) bg u;have h63:q+m<=9223372036854775807:=by simp only[maxLen] at hlen;omega
 have hspare:∀c:Nat,(Builtin.zeroCells z.cells c).toList.length=c*inf.size:=by intro c;simp[size_zeroCells,hzs]
 have same:ls2=[]->m=0->(Builtin.append_ #[t,t] o.type #[a.eval x,a.eval y]).run P w = .ok (a.eval x) w->Oper.wp P o a w K Q:=by
  intro e1 e2 hrun;subst e1 e2;have hxv:a.eval x=if E.nil r=true then .slice none 0 0 else .slice (some ⟨E.b r,0,none⟩) ((pl++[]).length/inf.size) (E.cap r):=by
   rw[h1,YF,hq]
  obtain⟨E',hg,hgv⟩:=hG.tX k' (w':=w) (ls':=pl++[]) (b':=E.b r) (cap':=E.cap r) (nl':=E.nil r) (v':=a.eval x) hi rfl rfl
   hG.below (XP _) (fun _ _ _=>rfl) (fun _ _ _ _ _=>rfl)
   (by
    unfold HE.ok at g1;simp only[YF];cases hn:E.nil r
    .simp only[hn,X8,if_false] at g1 ⊢;exact g1
    .simp only[hn,if_true] at g1 ⊢;exact g1)
   (fun hn=>(g2 hn).1) (fun hn j hj=>(g2 hn).2 j (by show k<=j;omega)) (fun hn j e' hj he' hn'=>fun e2=>hG.apart j r e' _ he' hi hn' hn hj e2) hxv
  refine fin _ _ E' hrun ?_ hg hgv;rw[hxv];split <;> rfl
 cases hn:E.nil r
 ·
  have g1':=g1;unfold HE.ok at g1';simp only[hn] at g1';obtain⟨hm,cs,rest',hc,hlc,hcd⟩:=g1';have hcl:=hcd.length;have hcsn:cs.length=q*inf.size:=by rw[hcl,hl]
  have hncap:q<=E.cap r:=by
   have:q*inf.size<=E.cap r*inf.size:=by rw[<-hlc,<-hcsn];simp
   exact YV this hsz
  have h1':=h1;simp only[hn,X8,if_false] at h1'
  cases hay:ay with
  |none=>
   subst hay;obtain⟨e1,e2,e3⟩:=cy3 rfl;refine same e2 e1 ?_;subst e1 e2;rw[h1',h2];simp[Builtin.append_,run_underlying ht,Go.sizeOf,typeInfo,hinf,Builtin.lenOf,hncap,Builtin.firstCells,storeCells]
  |some ad=>
   by_cases hroom:q+m<=E.cap r
   .exact inPlace hn hroom (by rw[hay];simp)
   .subst hay;have holds:∀j u,cs[j]?=some u->w.cell? ((⟨E.b r,0,none⟩:Addr).add j)=some u:=by
     intro j u hu;have hlt:=(XN.1 hu).1;rw[jW,Yk];exact kQ hc (by rw[XV hlt];exact hu)
    have hrun:=run_append_grow (P:=P) w t o.type u inf z ht hinf hz ⟨E.b r,0,none⟩ q (E.cap r) cs hcsn holds ad m capy news hnl (hnc ad rfl) (by omega) (by omega) (growslice_fits (by omega) hbytes);refine anew (grownCap w (q+m) (E.cap r) u) cs (Builtin.zeroCells z.cells (grownCap w (q+m) (E.cap r) u-(q+m))).toList (hcapg _) (hcapm _) hcd ?_ ?_
    .rw[XX,XX,hcsn,hnl,hspare,<-Ys,<-Ys];congr 1;have:=hcapg (E.cap r);omega
    .rw[h1',h2,harr];exact hrun
 ·
  have h1':=h1;simp only[hn,if_true] at h1';have g1':=g1;unfold HE.ok at g1';simp only[hn,if_true] at g1';have hn0:q=0:=by
   rw[g1'.1] at hl;rcases Zl.1 hl.symm with h|h
   .exact h
   .omega
  subst hn0;by_cases hm0:m=0
  .have hls2:ls2=[]:=X5 (by rw[hl2,hm0,Zm]);refine same hls2 hm0 ?_;subst hm0;have hnews0:news=[]:=X5 (by simpa using hnl);rw[h1',h2];cases ay <;> simp[Builtin.append_,run_underlying ht,Go.sizeOf,typeInfo,hinf,Builtin.lenOf,Builtin.firstCells,loadCells,loadCellsFrom]
  .cases hay:ay with
   |none=>obtain⟨e1,_⟩:=cy3 hay;omega
   |some ad=>
    subst hay;have hnb:m*inf.bytes<=281474976710656:=by have:=hbytes;simp only[Yk] at this;omega
    have hrun:=run_append_nil (P:=P) w t o.type u inf z ht hinf hz ad m capy news hnl (hnc ad rfl) (by omega) (by omega) hnb;refine anew (grownCap w (0+m) 0 u) [] (Builtin.zeroCells z.cells (grownCap w (0+m) 0 u-(0+m))).toList (hcapg _) (hcapm _) (by rw[g1'.1];trivial) ?_ ?_
    .rw[XX,XX,hnl,hspare];simp only[Yg,Yk];rw[<-Ys];congr 1;have:=hcapg 0;simp only[Yk] at this;omega
    .rw[h1',h2,harr];simp only[Yk];simpa using hrun
theorem Lo{o:Oper}{x y:Operand}{t t2 u u2 r n q m sz k:Nat}{pl ls2 ls:List ab}{inf:TypeInfo}{z:Value}
  (ho:o.op = .call { callee:=.builtin .append,args:=#[x,y],argTypes:=#[t,t2] })
  (hx:ao Γ x=some (D.v (V.one (ab.own r n)))) (hy:ao Γ y=some (D.rep (bX m ls2))) (hi:H[r]?=some (some ⟨u,pl,some sz,some (.inr (k,some n))⟩)) (hl:pl.length=q*sz) (hl2:ls2.length=m*sz) (hsz:0<sz)
  (ht:P.underlying t=some (.slice u)) (ht2:P.underlying t2=some (.slice u2)) (hinf:P.info? u=some inf) (hz:inf.zero=some z) (hisz:inf.size=sz) (hzs:z.cells.size=sz)
  (hlen:q+m<=maxLen) (hbytes:(q+m)*inf.bytes<=140737488355328) (hk:k=pl.length:=by rfl) (hls:pl++ls2=ls:=by rfl) :
  Je P ops o Γ H (some (D.v (V.one (ab.own r (n+1))))) (H.set r (some ⟨u,ls,some sz,some (.inr (ls.length,some (n+1)))⟩)):=by
 subst hls hk;exact DT _ ho hx hy hi hl hl2 hsz ht ht2 hinf hz hisz hzs hlen hbytes (XP _) (by rw[XX];omega)
def lL(Γ:aA):List Operand->Option (List D)
 |[]=>some []
 |x::xs=>
  match ao Γ x,lL Γ xs with
  |some d,some ds=>some (d::ds)
  |_,_=>none
def sK:Nat->List D->aA
 |_,[]=>[]
 |k,d::ds=>(k,some d)::sK (k+1) ds
def up:aA->aA
 |[]=>[]
 |(s,d)::g=>(s+2000,d)::up g
def p8(F:aJ)(a:Act)(s:Nat):Option Value:=mA F a (s-2000)
@[reducible] def aJ.m7(F:aJ)(a:Act):aJ:=⟨F.w,F.X,p8 F a⟩
theorem Gm:∀{xs:List Operand} {ds:List D} {i:Nat} {d:D},lL Γ xs=some ds->ds[i]?=some d->∃x,xs[i]?=some x/\ao Γ x=some d
 |[],ds,i,d,h,hi=>by simp only[lL,XL] at h;subst h;simp at hi
 |x::xs,ds,i,d,h,hi=>by
  unfold lL at h
  cases hx:ao Γ x with
  |none=>rw[hx] at h;simp at h
  |some d0=>
   rw[hx] at h
   cases hr:lL Γ xs with
   |none=>rw[hr] at h;simp at h
   |some ds0=>
    rw[hr] at h;simp only[XL] at h;subst h
    cases i with
    |zero=>simp at hi;subst hi;exact⟨x,rfl,hx⟩
    |succ i=>simpa using Gm hr (by simpa using hi)
theorem Gl:∀{xs:List Operand} {ds:List D},lL Γ xs=some ds->ds.length=xs.length
 |[],ds,h=>by simp only[lL,XL] at h;subst h;rfl
 |x::xs,ds,h=>by
  unfold lL at h
  cases hx:ao Γ x with
  |none=>rw[hx] at h;simp at h
  |some d0=>
   rw[hx] at h
   cases hr:lL Γ xs with
   |none=>rw[hr] at h;simp at h
   |some ds0=>
    rw[hr] at h;simp only[XL] at h;subst h;simp[Gl hr]
theorem Hq:∀{ds:List D} {k s:Nat} {G:aA} {d:D},look (sK k ds++G) s=some d->(∃i,ds[i]?=some d/\s=k+i)\/look G s=some d
 |[],k,s,G,d,h=>.inr h
 |d0::ds,k,s,G,d,h=>by
  by_cases e:k=s
  .subst e;have:look ((k,some d0)::(sK (k+1) ds++G)) k=some d:=h;rw[hY] at this;exact .inl ⟨0,by simpa using this,rfl⟩
  .have:look ((k,some d0)::(sK (k+1) ds++G)) s=some d:=h;rw[gH e] at this;rcases Hq this with⟨i,h1,h2⟩|h1
   .exact .inl ⟨i+1,by simpa using h1,by omega⟩
   .exact .inr h1
theorem Ho:∀{g:aA} {s:Nat} {d:D},look (up g) s=some d->2000<=s/\look g (s-2000)=some d
 |[],s,d,h=>by simp[up,look] at h
 |(k,d0)::g,s,d,h=>by
  by_cases e:k+2000=s
  .subst e;unfold up at h;rw[hY] at h;subst h;refine⟨by omega,?_⟩;rw[zaf,hY]
  .unfold up at h;rw[gH e] at h;obtain⟨h1,h2⟩:=Ho h;exact⟨h1,by rw[gH (by omega)];exact h2⟩
theorem aJ.cW.Qx{F:aJ}{w:World}(g:Nat->Option Value)(h:F.cW w):aJ.cW ⟨F.w,F.X,g⟩ w:=⟨h.os,h.tape,h.output,h.size,h.block,h.kb,h.jU,h.apart⟩
theorem aJ.cW.MW{F:aJ}{w:World}{g:Nat->Option Value}(h:aJ.cW ⟨F.w,F.X,g⟩ w):F.cW w:=⟨h.os,h.tape,h.output,h.size,h.block,h.kb,h.jU,h.apart⟩
theorem aJ.cW.m7{F:aJ}{a:Act}{w:World}(h:F.cW w):(F.m7 a).cW w:=h.Qx (p8 F a)
theorem aJ.cW.PC{F:aJ}{a:Act}{w:World}(h:(F.m7 a).cW w):F.cW w:=aJ.cW.MW (g:=p8 F a) h
theorem Ha(F:aJ)(g:Nat->Option Value)(p:Option (Nat ⊕ (Nat×Option Nat)))(b:Nat):aJ.oo ⟨F.w,F.X,g⟩ p b=F.oo p b:=by
 unfold aJ.oo;rcases p with _|_|_ <;> rfl
theorem Vq{s:Nat}(h:2000<=s):Nat.blt s 2000=false:=by
 cases hb:Nat.blt s 2000
 .rfl
 .simp at hb;omega
theorem E1{F:aJ}{a a':Act}{s:Nat}(h:2000<=s):mA (F.m7 a) a' s=p8 F a s:=by unfold mA;rw[Vq h,cond_false]
theorem Jg(F:aJ)(a:Act)(s:Nat):p8 F a s=mA F a (s-2000):=by rw[p8]
theorem Good.enter{E:Env}{a:Act}{w:World}(hG:Good w0 A0 N Γ H E a w){vs:Array Value}{ds:List D}{Nc:Nat}(hl:vs.size=ds.length)(hN:ds.length<=min Nc 2000)
  (hd:∀(i:Nat) (d:D),ds[i]?=some d->d.gb H/\∃v,vs[i]?=some v/\d.den E v w) :
  Good (w0.m7 a) A0 Nc (sK 0 ds++up Γ) H E { tmps:=vs++Array.replicate (Nc-vs.size) undef,defers:=[] } w:=by
 refine⟨hG.below.m7,hG.bc,hG.cE,rfl,by simp;omega,fun s d hs=>?_,fun i e he=>⟨(hG.boxes i e he).1,fun hn=>⟨by rw[Ha];exact((hG.boxes i e he).2 hn).1,((hG.boxes i e he).2 hn).2⟩⟩,hG.apart,hG.kn,hG.gd,hG.bg⟩;rcases Hq hs with⟨i,h1,h2⟩|h1
 .have hi:=(XN.1 h1).1;rw[Yk] at h2;subst h2;obtain⟨ho,v,hv,hdv⟩:=hd s d h1;refine⟨ho,v,?_,hdv⟩;rw[jq (by simp;omega),Yj (by omega)];exact hv
 .obtain⟨h2,h3⟩:=Ho h1;obtain⟨ho,v,hv,hdv⟩:=hG.cr _ _ h3;refine⟨ho,v,?_,hdv⟩;rw[E1 h2,Jg];exact hv
theorem Wi{o:Oper}{rest:List Oper}{f Nc:Nat}{fn:Func}{c:Code}{args:Array Operand}{tys:Array TypeId}{ds:List D}(ho:o.op = .call { callee:=.value (.func f),args:=args,argTypes:=tys })(hp:pe N o=true)
  (hf:P.funcs[f]?=some fn) (hb:fn.body=some c) (hnm:(fn.name == "runtime.NumGoroutine")=false) (hN:fn.ntmps=Nc) (hl:ds.length<=min Nc 2000) (hx:lL Γ args.toList=some ds)
  (h:∀a1:Act,a1.defers=[]->a1.tmps.size=N->Tc P (bodyPost P fn fun e w'=>∃v,e = .returned v/\wpList P ops Q rest (a1.put o.dst v) w') (w0.m7 a1) A0 Nc (sK 0 ds++up Γ) H c):Tl P ops Q w0 A0 N Γ H (o::rest):=by
 intro a w hSt;obtain⟨E,hG⟩:=hSt;unfold wpList;rw[if_pos (by simp[Region.wanted,(Pw hp).1])];left;have hrun:(execOp a.eval o).run P w = .ok (.enter f (args.map a.eval)) w:=by
  have hn':¬fn.name = "runtime.NumGoroutine":=by simpa using hnm
  simp[execOp,ho,resolve,Deferred.ofValue,invoke,callFunc,hf,hn',hb,Act.eval]
 unfold Oper.wp;rw[hrun,Ze];refine Zg (calls_of_wp hf hb (R:=fun e w'=>∃v,e = .returned v/\wpList P ops Q rest (a.put o.dst v) w') ?_) ?_
 .rw[hN];have hlen:=Gl hx;refine h a hG.defers hG.size _ _ ⟨E,hG.enter (vs:=args.map a.eval) (by simp;simpa using hlen.symm) hl (fun i d hi=>?_)⟩;obtain⟨x,h1,h2⟩:=Gm hx hi;obtain⟨ho',hdv⟩:=uh hG h2;refine⟨ho',a.eval x,?_,hdv⟩;simp only[Z4] at h1;simp[h1]
 .rintro e w' ⟨v,rfl,hv⟩;exact hv
def uI(Γ:aA):aA->Prop
 |[]=>True
 |(s,some d)::g=>look Γ (s+2000)=some d/\uI Γ g
 |(_,none)::g=>uI Γ g
theorem BF:∀{g:aA} {s:Nat} {d:D},uI Γ g->look g s=some d->look Γ (s+2000)=some d
 |[],s,d,_,h=>by simp[look] at h
 |(k,none)::g,s,d,hk,h=>by
  by_cases e:k=s
  .subst e;rw[hY] at h;simp at h
  .rw[gH e] at h;exact BF (g:=g) hk h
 |(k,some d0)::g,s,d,hk,h=>by
  by_cases e:k=s
  .subst e;rw[hY] at h;cases h;exact hk.1
  .rw[gH e] at h;exact BF hk.2 h
theorem Good.leave{E:Env}{a1 a:Act}{w:World}{Nc:Nat}{Γo:aA}(hG:Good (w0.m7 a1) A0 Nc Γ H E a w)(hd:a1.defers=[])(hs:a1.tmps.size=N)(hk:uI Γ Γo):Good w0 A0 N Γo H E a1 w:=by
 refine⟨hG.below.PC,hG.bc,hG.cE,hd,hs,fun s d hl=>?_,fun i e he=>⟨(hG.boxes i e he).1,fun hn=>⟨by rw[<-Ha w0 (p8 w0 a1)];exact((hG.boxes i e he).2 hn).1,((hG.boxes i e he).2 hn).2⟩⟩,hG.apart,hG.kn,hG.gd,hG.bg⟩;obtain⟨ho,v,hv,hdv⟩:=hG.cr _ _ (BF hk hl);refine⟨ho,v,?_,hdv⟩;rw[E1 (by omega),Jg,zaf] at hv;exact hv
def FP(P:Program)(Γ:aA)(H:Hp)(r:ResultVar)(d:D):Prop:=
 match r with
 |.tmp t=>dL Γ t=some d
 |.cell s t=>∃x,d=D.v x/\jN P Γ H (.cell s t) x
theorem OC{Nc:Nat}{E:Env}{a:Act}{w:World}(hG:Good w0 A0 Nc Γ H E a w){r:ResultVar}{d:D}(h:FP P Γ H r d):∃v,(mQ a.tmps r).run P w = .ok v w/\d.gb H/\d.den E v w:=by
 cases r with
 |tmp t=>
  obtain⟨ho,v,hv,hd⟩:=hG.tmp (s:=t) h;exact⟨v,by simp[mQ,hv],ho,hd⟩
 |cell s t=>
  obtain⟨x,rfl,h1⟩:=h;obtain⟨v,hv,hd⟩:=kE hG h1;exact⟨v,hv,trivial,hd⟩
theorem Wp{Q':Exit->Act->World->Prop}{rest:List Oper}{dst:Option Nat}{a1:Act}{Nc:Nat}{fn:Func}{r:ResultVar}{d:D}(Γo:aA)(hQ:∀a w,bodyPost P fn (fun e w'=>∃v,e = .returned v/\wpList P ops Q rest (a1.put dst v) w') .ret a w->Q' .ret a w)
  (hd:a1.defers=[]) (hs:a1.tmps.size=N) (hN:eA N dst=true) (hr:fn.results = #[r]) (h:FP P Γ H r d) (hk:uI Γ Γo) (hc:Tl P ops Q w0 A0 N (ct Γo dst (some d)) H rest):Tc P Q' (w0.m7 a1) A0 Nc Γ H .ret:=by
 intro a w hSt;obtain⟨E,hG⟩:=hSt;obtain⟨v,hv,ho,hdv⟩:=OC hG h;refine wp_ret (hQ a w ⟨hG.defers,v,?_,v,rfl,hc _ _ ⟨E,(hG.leave hd hs hk).put (fun x hx=>by cases hx;exact⟨ho,hdv⟩) hN⟩⟩);rw[kD,hr];simp[hv]
end
structure El(α:Type) where
 f:α->List ab
 sz:Nat
 len:∀x,(f x).length=sz
 cl:∀x,bW (f x)=true
def El.all{α:Type}(e:El α):List α->List ab
 |[]=>[]
 |x::xs=>e.f x++e.all xs
def El.row{α:Type}(e:El α)(l:List α):ab:=ab.rep (bX l.length (e.all l))
theorem JZ(a b:List ab):bW (a++b)=(bW a&&bW b):=by
 induction a with
 |nil=>rfl
 |cons x xs ih=>simp only[Z6,bW,ih,Bool.and_assoc]
section
variable {α:Type}(e:El α)
theorem El.eI(l:List α):(e.all l).length=l.length*e.sz:=by
 induction l with
 |nil=>simp[El.all]
 |cons x xs ih=>simp only[El.all,XX,e.len,ih,X6,Ys,Y2];omega
theorem El.all_append(a b:List α):e.all (a++b)=e.all a++e.all b:=by
 induction a with
 |nil=>rfl
 |cons x xs ih=>simp only[Z6,El.all,ih,Yf]
theorem El.Kx(a:List α)(x:α):e.all a++e.f x=e.all (a++[x]):=by
 rw[El.all_append];simp[El.all]
theorem El.Kz(l:List α)(k:Nat):(e.all l).drop (k*e.sz)=e.all (l.drop k):=by
 induction l generalizing k with
 |nil=>simp[El.all]
 |cons x xs ih=>
  cases k with
  |zero=>simp
  |succ k=>
   have h1:(k+1)*e.sz=(e.f x).length+k*e.sz:=by rw[e.len,Ys];omega
   rw[List.drop_succ_cons,<-ih k];show(e.f x++e.all xs).drop _=_;rw[h1,<-Zh,List.drop_left]
theorem El.zq(l:List α)(k:Nat):(e.all l).take (k*e.sz)=e.all (l.take k):=by
 induction l generalizing k with
 |nil=>simp[El.all]
 |cons x xs ih=>
  cases k with
  |zero=>simp[El.all]
  |succ k=>
   have h1:(k+1)*e.sz=(e.f x).length+k*e.sz:=by rw[e.len,Ys];omega
   rw[zaK];show(e.f x++e.all xs).take _=e.f x++e.all (xs.take k);rw[h1,za7,ih k]
theorem El.Ky{l:List α}{j:Nat}(hj:j<l.length):((e.all l).drop (j*e.sz)).take e.sz=e.f l[j]:=by
 rw[El.Kz,Yh hj];show(e.f l[j]++e.all (l.drop (j+1))).take e.sz=_;rw[<-e.len l[j],zaI]
theorem El.gK(l:List α):bW (e.all l)=true:=by
 induction l with
 |nil=>rfl
 |cons x xs ih=>unfold El.all;rw[JZ,e.cl,ih];rfl
end
inductive fx(r n r' n':Nat):List ab->List ab->Prop
 |nil:fx r n r' n' [] []
 |own {ls ls':List ab} (h:fx r n r' n' ls ls'):fx r n r' n' (ab.own r n::ls) (ab.own r' n'::ls')
 |cl {l:ab} {ls ls':List ab} (hc:l.cl=true) (h:fx r n r' n' ls ls'):fx r n r' n' (l::ls) (l::ls')
inductive eW(r n r' n':Nat):V->V->Prop
 |own:eW r n r' n' (V.one (ab.own r n)) (V.one (ab.own r' n'))
 |one {l:ab} (hc:l.cl=true):eW r n r' n' (V.one l) (V.one l)
 |agg {ls ls':List ab} (h:fx r n r' n' ls ls'):eW r n r' n' (V.agg ls) (V.agg ls')
inductive ig(r n r' n':Nat):List V->List V->Prop
 |nil:ig r n r' n' [] []
 |cons {x x':V} {xs xs':List V} (h:eW r n r' n' x x') (hs:ig r n r' n' xs xs'):ig r n r' n' (x::xs) (x'::xs')
theorem fx.den{A A':ak}{r n r' n':Nat}{w:World}(hA:∀k j,A k j->A' k j)(hg:∀u,A.g r n=some u->A'.g r' n'=some u){ls ls':List ab}(h:fx r n r' n' ls ls'):∀{cs:List Value},a9 A ls cs w->a9 A' ls' cs w:=by
 induction h with
 |nil=>
  intro cs hd
  cases cs with
  |nil=>trivial
  |cons c cs=>exact hd.elim
 |own h ih=>
  intro cs hd
  cases cs with
  |nil=>exact hd.elim
  |cons c cs=>exact⟨⟨hg _ hd.1.1,hd.1.2⟩,ih hd.2⟩
 |cl hc h ih=>
  intro cs hd
  cases cs with
  |nil=>exact hd.elim
  |cons c cs=>exact⟨ab.cU (ak.le.pure hA) (ab.ja hc hd.1),ih hd.2⟩
theorem eW.den{A A':ak}{r n r' n':Nat}{w:World}(hA:∀k j,A k j->A' k j)(hg:∀u,A.g r n=some u->A'.g r' n'=some u){x x':V}(h:eW r n r' n' x x'){v:Value}(hd:x.den A v w):x'.den A' v w:=by
 cases h with
 |own=>
  have hd:A.g r n=some v/\v.oneCell'=true:=hd;exact⟨hg _ hd.1,hd.2⟩
 |one hc=>exact ab.cU (ak.le.pure hA) (ab.ja hc hd)
 |agg h=>obtain⟨cs,rfl,h2⟩:=hd;exact⟨cs,rfl,h.den hA hg h2⟩
theorem ig.den{A A':ak}{r n r' n':Nat}{w:World}(hA:∀k j,A k j->A' k j)(hg:∀u,A.g r n=some u->A'.g r' n'=some u){xs xs':List V}(h:ig r n r' n' xs xs'):∀{vs:List Value},c6 A xs vs w->c6 A' xs' vs w:=by
 induction h with
 |nil=>
  intro vs hd
  cases vs with
  |nil=>trivial
  |cons c cs=>exact hd.elim
 |cons h hs ih=>
  intro vs hd
  cases vs with
  |nil=>exact hd.elim
  |cons c cs=>exact⟨h.den hA hg hd.1,ih hd.2⟩
def o4(P:Program)(f u sz:Nat)(ls ls':List ab)(xs:List V)(y:Nat->V):Prop:=
 ∀(E:Env) (vs:List Value) (w:World),Good ⟨w,fun k=>E.nil 0=false/\k=E.b 0,fun _=>none⟩ (ak.of E.A.c) 0 [] [some ⟨u,ls,some sz,some (.inr (ls.length,some 0))⟩] E ⟨#[],[]⟩ w->c6 E.A xs vs w →
  Calls P f vs.toArray w fun e w'=>∃v E' n1,e = .returned v/\Good ⟨w,fun k=>E.nil 0=false/\k=E.b 0,fun _=>none⟩ (ak.of E.A.c) 0 [] [some ⟨u,ls',some sz,some (.inr (ls'.length,some n1))⟩] E' ⟨#[],[]⟩ w'/\(y n1).den E'.A v w'
def K8(P:Program)(fn:Func)(w0:aJ)(A0:ak)(u sz:Nat)(ls':List ab)(y:Nat->V):Exit->Act->World->Prop:=
 bodyPost P fn fun e w'=>∃v E' n1,e = .returned v/\Good w0 A0 0 [] [some ⟨u,ls',some sz,some (.inr (ls'.length,some n1))⟩] E' ⟨#[],[]⟩ w'/\(y n1).den E'.A v w'
section
variable {P:Program}{ops:Array Oper}{o:Oper}{Γ:aA}{H:Hp}
theorem o4.gO{f N u sz:Nat}{fn:Func}{c:Code}{ls ls':List ab}{xs:List V}{y:Nat->V}(hf:P.funcs[f]?=some fn)(hb:fn.body=some c)(hN:fn.ntmps=N)(hl:xs.length<=min N 2000)
  (h:∀w0 A0,Tc P (K8 P fn w0 A0 u sz ls' y) w0 A0 N (lY 0 xs) [some ⟨u,ls,some sz,some (.inr (ls.length,some 0))⟩] c):o4 P f u sz ls ls' xs y:=by
 intro E vs w hG hd;have hlen:=hd.length;refine calls_of_wp hf hb ?_;refine h _ _ _ _ ⟨E,hG.below,hG.bc,hG.cE,rfl,?_,?_,hG.boxes,hG.apart,hG.kn,hG.gd,hG.bg⟩
 .simp;omega
 .intro s d hs;obtain⟨x,v,rfl,_,h2,h3⟩:=vq xs vs 0 s d hd hs;refine⟨trivial,v,?_,h3⟩;simp only[zay] at h2;have hlt:=(XN.1 h2).1;rw[jq (by simp;omega),Yj (by simpa using hlt)];simpa using h2
theorem zy{Q:Exit->Act->World->Prop}{w0:aJ}{A0:ak}{N u sz n1 k:Nat}{fn:Func}{y:Nat->V}{x:V}{r:ResultVar}{ls ls':List ab}(hQ:∀a w,K8 P fn w0 A0 u sz ls' y .ret a w->Q .ret a w)
  (hr:fn.results = #[r]) (h:jN P Γ H r x) (hy:x=y n1) (hH:H[0]?=some (some ⟨u,ls,some sz,some (.inr (k,some n1))⟩)) (hls:ls=ls') (hk:k=ls.length:=by rfl) (hcx:eW 0 n1 0 n1 x x:=by intros;repeat (first|exact fx.nil|exact ig.nil|exact eW.own|exact eW.one rfl|refine eW.agg ?_|refine ig.cons ?_ ?_|refine fx.own ?_|refine fx.cl rfl ?_)) (hcl:bW ls=true:=by rfl):Tc P Q w0 A0 N Γ H .ret:=by
 intro a w hSt;obtain⟨E,hG⟩:=hSt;obtain⟨v,hv,hd⟩:=kE hG h;subst hls hk
 let A':ak:=⟨E.A.c,fun i m=>if i=0 then E.A.g i m else none⟩
 have hE:∀i,i=0->(A'.g i=E.A.g i):=fun i hi=>by subst hi;rfl
 have back:∀(i:Nat) (e:HE),([some ⟨u,ls,some sz,some (.inr (ls.length,some n1))⟩]:Hp)[i]?=some (some e)->i=0/\H[i]?=some (some e):=by
  intro i e he
  match i,he with
  |0,he=>simp only[YD,XL] at he;subst he;exact⟨rfl,hH⟩
  |i+1,he=>simp at he
 refine wp_ret (hQ a w ⟨hG.defers,v,?_,v,{ E with A:=A' },n1,rfl,⟨hG.below,hG.bc,hG.cE,rfl,rfl,fun s d hs=>by simp[look] at hs,fun i e he=>?_,fun i j e e' hi hj _ _ hij=>?_,fun i e m he hm=>?_,fun i m v hv=>?_,hG.bg⟩,?_⟩)
 .rw[kD,hr];simp[hv]
 .obtain⟨rfl,h1⟩:=back i e he;obtain⟨g1,g2⟩:=hG.boxes 0 e h1;refine⟨?_,g2⟩;rw[hH] at h1;cases h1;unfold HE.ok at g1 ⊢;simp only at g1 ⊢;cases hn:E.nil 0
  .simp only[hn,X8,if_false] at g1 ⊢;obtain⟨q1,cs,rest,q2,q3,q4⟩:=g1;exact⟨q1,cs,rest,q2,q3,(q4.pure hcl).mono (ak.le.pure fun _ _ x=>x)⟩
  .simp only[hn,if_true] at g1 ⊢;exact g1
 .obtain⟨rfl,_⟩:=back i e hi;obtain⟨rfl,_⟩:=back j e' hj;exact absurd rfl hij
 .obtain⟨rfl,h1⟩:=back i e he;exact hG.kn 0 e m h1 hm
 .have hv:(if i=0 then E.A.g i m else none)=some v:=hv;by_cases hi:i=0
  .subst hi;exact⟨_,_,_,rfl,rfl⟩
  .rw[if_neg hi] at hv;simp at hv
 .rw[<-hy];exact hcx.den (A:=E.A) (A':=A') (fun _ _ x=>x) (fun u (hu:E.A.g 0 n1=some u)=>(show A'.g 0 n1=some u from hu)) hd
theorem qy{f r n sz k u:Nat}{args:Array Operand}{tys:Array TypeId}{ys xs:List V}{y:Nat->V}(y':V){ls ls':List ab}(ho:o.op = .call { callee:=.value (.func f),args:=args,argTypes:=tys })(hf:aD P f)(hx:gA Γ args.toList=some ys)
  (hi:H[r]?=some (some ⟨u,ls,some sz,some (.inr (k,some n))⟩)) (hspec:o4 P f u sz ls ls' xs y) (hle:ls.length<=ls'.length) (hxs:ig r n 0 0 ys xs:=by intros;repeat (first|exact fx.nil|exact ig.nil|exact eW.own|exact eW.one rfl|refine eW.agg ?_|refine ig.cons ?_ ?_|refine fx.own ?_|refine fx.cl rfl ?_)) (hy:∀n1,eW 0 n1 r (n+1) (y n1) y':=by intros;repeat (first|exact fx.nil|exact ig.nil|exact eW.own|exact eW.one rfl|refine eW.agg ?_|refine ig.cons ?_ ?_|refine fx.own ?_|refine fx.cl rfl ?_)) (hk:k=ls.length:=by rfl)
  (hcl:bW ls=true:=by first|rfl|exact El.gK _ _) (hcl':bW ls'=true:=by first|rfl|exact El.gK _ _) :
  Je P ops o Γ H (some (D.v y')) (H.set r (some ⟨u,ls',some sz,some (.inr (ls'.length,some (n+1)))⟩)):=by
 intro w0 A0 N Γ2 a w Q K hs hN hSt hK;obtain⟨E,hG⟩:=hSt;obtain⟨fn,hfn,hb,hnn⟩:=hf;subst hk;have hyd:=mc (Γ:=Γ) (E:=E) (a:=a) (w:=w) args.toList ys (fun x hx d hd=>(bY hs hG (x:=x) (by rw[ho];simp[Op.operands,Call.operands];exact .inr (by simpa using hx)) hd).2) hx;have hrun:(execOp a.eval o).run P w = .ok (.enter f (args.map a.eval)) w:=by
  have hn':¬fn.name = "runtime.NumGoroutine":=by simpa using hnn
  have hb':¬fn.body=none:=by intro e;rw[e] at hb;simp at hb
  simp[execOp,ho,resolve,Deferred.ofValue,invoke,callFunc,hfn,hn',hb',Act.eval]
 unfold Oper.wp;rw[hrun,Ze];obtain⟨g1,g2⟩:=hG.boxes r _ hi;obtain⟨kn1,kn2,kn3⟩:=hG.kn r _ n hi ⟨_,rfl⟩
 let Ac:ak:=⟨E.A.c,fun i m=>if i=0/\m=0 then E.A.g r n else none⟩
 let Ec:Env:=⟨fun _=>E.b r,fun _=>E.cap r,fun _=>E.nil r,Ac⟩
 have hne:∀p∈jn,¬(E.nil r=false/\p.1=E.b r):=by
  rintro q hq ⟨hn,e''⟩;have h1:=(hG.below.jU q hq).1;have h2:=hG.below.apart q hq;rw[e''] at h1 h2;rcases(g2 hn).1 with b1|b1
  .omega
  .exact h2 b1
 have hGc:Good ⟨w,fun k=>Ec.nil 0=false/\k=Ec.b 0,fun _=>none⟩ (ak.of Ec.A.c) 0 [] [some ⟨u,ls,some sz,some (.inr (ls.length,some 0))⟩] Ec ⟨#[],[]⟩ w:=by
  refine⟨aJ.cW.refl ⟨w,fun k=>E.nil r=false/\k=E.b r,fun _=>none⟩ hG.below.now hne,hG.bc,fun k j hk=>.inl hk,rfl,rfl,fun s d hs=>by simp[look] at hs,fun i e he=>?_,fun i j e e' hi hj _ _ hij=>?_,fun i e m he hm=>?_,fun i m v hv=>?_,fun k j hk=>⟨hk,rfl⟩⟩
  .match i,he with
   |0,he=>
    simp only[YD,XL] at he;subst he;refine⟨?_,fun hn=>⟨.inr ⟨hn,rfl⟩,(g2 hn).2⟩⟩;unfold HE.ok at g1 ⊢;simp only at g1 ⊢;cases hn:E.nil r
    .simp only[hn,X8,if_false,Ec] at g1 ⊢;obtain⟨q1,cs,rest,q2,q3,q4⟩:=g1;exact⟨q1,cs,rest,q2,q3,(q4.pure hcl).mono (ak.le.pure fun _ _ x=>x)⟩
    .simp only[hn,if_true,Ec] at g1 ⊢;exact g1
   |i+1,he=>simp at he
  .have h1:=(XN.1 hi).1;have h2:=(XN.1 hj).1;simp at h1 h2;omega
  .match i,he with
   |0,he=>
    simp only[YD,XL] at he;subst he;obtain⟨k',hm⟩:=hm;simp only[XL,ZG,XO] at hm;obtain⟨_,rfl⟩:=hm;refine⟨?_,fun m' hm'=>?_,kn3⟩
    .show(if 0=0/\0=0 then E.A.g r n else none)=_;rw[if_pos ⟨rfl,rfl⟩,kn1];rfl
    .show(if 0=0/\m'=0 then E.A.g r n else none)=none;rw[if_neg (fun e=>by omega)]
   |i+1,he=>simp at he
  .have hv:(if i=0/\m=0 then E.A.g r n else none)=some v:=hv;by_cases hi:i=0/\m=0
   .obtain⟨rfl,rfl⟩:=hi;exact⟨_,_,_,rfl,rfl⟩
   .rw[if_neg hi] at hv;simp at hv
 have hdc:c6 Ec.A xs (args.toList.map a.eval) w:=hxs.den (A:=E.A) (A':=Ec.A) (fun _ _ x=>x) (fun v hv=>by
  show(if 0=0/\0=0 then E.A.g r n else none)=_;rw[if_pos ⟨rfl,rfl⟩];exact hv) hyd
 have hcall:=hspec Ec (args.toList.map a.eval) w hGc hdc;rw[show(args.toList.map a.eval).toArray=args.map a.eval from by
  apply YC.1;simp] at hcall
 refine Zg hcall ?_;rintro e' w' ⟨v,E',n1,rfl,hG',hyd'⟩;obtain⟨f1,f2⟩:=hG'.boxes 0 _ rfl;obtain⟨kf1,kf2,kf3⟩:=hG'.kn 0 _ n1 rfl ⟨_,rfl⟩;have hbel:=hG'.below;have hkA:kept E.A w w':=fun k j hA=>(hG'.bg k j hA).2;have hblk:∀k,k<w.heap.size->¬(E.nil r=false/\k=E.b r)->w'.heap[k]?=w.heap[k]?:=fun k h1 h2=>hbel.block k h1 h2;have hmine:∀b,w0.w.heap.size<=b\/w0.X b\/¬(E.nil r=false/\b=E.b r):=by
  intro b;by_cases hc:E.nil r=false/\b=E.b r
  .rw[hc.2];rcases(g2 hc.1).1 with h|h
   .exact .inl h
   .exact .inr (.inl h)
  .exact .inr (.inr hc)
 have hbel0:w0.cW w':=by
  refine⟨hbel.os.trans hG.below.os,hbel.tape.trans hG.below.tape,hbel.output.trans hG.below.output,XY hG.below.size hbel.size,fun k h1 h2=>?_,fun k cs t m h1 h2=>?_,hG.below.jU,hG.below.apart⟩
  .rw[hblk k (XZ h1 hG.below.size) (fun hc=>by
    rcases hmine k with h|h|h
    .omega
    .exact h2 h
    .exact h hc)]
   exact hG.below.block k h1 h2
  .obtain⟨cs2,k1,k2⟩:=hG.below.kb k cs t m h1 h2;by_cases hc:E.nil r=false/\k=E.b r
   .obtain⟨cs3,k3,k4⟩:=hbel.kb k cs2 t m hc k1;exact⟨cs3,k3,k4.trans k2⟩
   .exact⟨cs2,by rw[hblk k (X4.1 k1).1 hc];exact k1,k2⟩
 obtain⟨E2,hg2,hv2,hle2,hA2⟩:=hG.OH (w':=w') (ls':=ls') (b':=E'.b 0) (cap':=E'.cap 0) (nl':=E'.nil 0) (v':=HE.name E' 0 ⟨u,ls',some sz,some (.inr (ls'.length,some n1))⟩) E'.A.c
  (fun x j hx=>⟨hG'.bc x j hx,by
   rcases hG'.cE x j hx with h|h|h
   .exact .inl h
   .exact .inr (.inl h)
   .exact .inr (.inr h)⟩) hi rfl rfl hbel0 hbel.size hkA
  (fun j e' hj hj' hn=>hblk _ (HE.eu (hG.boxes j e' hj').1 hn) (fun hc=>hG.apart j r e' _ hj' hi hn hc.1 hj hc.2))
  (by
   unfold HE.ok at f1;simp only at f1;cases hn:E'.nil 0
   .simp only[hn,X8,if_false] at f1 ⊢;obtain⟨q1,cs,rest,q2,q3,q4⟩:=f1;exact⟨q1,cs,rest,q2,q3,(q4.pure hcl').mono (ak.le.pure fun _ _ x=>Or.inr x)⟩
   .simp only[hn,if_true] at f1 ⊢;exact f1)
  (fun hn=>by
   rcases(f2 hn).1 with h|⟨h1,h2⟩
   .exact .inl (XY hG.below.size h)
   .have h2:E'.b 0=E.b r:=h2;rw[h2];exact(g2 h1).1)
  (fun hn j hj=>⟨fun hA=>by
   rcases(f2 hn).1 with h|⟨h1,h2⟩
   .have h:w.heap.size<=E'.b 0:=h;have:=hG.bc _ _ hA;omega
   .have h2:E'.b 0=E.b r:=h2;rw[h2] at hA;exact(g2 h1).2 j (XY hle hj) hA,(f2 hn).2 j hj⟩)
  (fun hn j e' hj hj' hnj hb=>by
   rcases(f2 hn).1 with h|⟨h1,h2⟩
   .have h:w.heap.size<=E'.b 0:=h;have:=HE.eu (hG.boxes j e' hj').1 hnj;omega
   .have h2:E'.b 0=E.b r:=h2;exact hG.apart j r e' _ hj' hi hnj h1 hj (hb.trans h2))
  rfl
 exact hK _ _ ⟨E2,hg2.put (fun d hd=>by
  cases hd;exact⟨trivial,(hy n1).den hA2 (fun v hv=>by rw[hv2,<-kf1];exact hv) hyd'⟩) hN⟩
end
section
variable {P:Program}{ops:Array Oper}{X:List Nat}{o:Oper}{Γ:aA}{H:Hp}
def iQ(P:Program)(f t:Nat)(ls ls':List ab)(xs:List V)(y:R):Prop:=
 ∀(w:World) (vs:List Value) (A:Cells) (b:Nat) (cs:List Value),kv w->(∀p∈jn,p.1≠b)->(∀k j,A k j->k<w.heap.size)->(∀j,¬A b j)->w.heap[b]?=some (.cells cs.toArray t (0,0)) →
  a9 (ak.of A) ls cs w->c6 (ak.of A) xs vs w →
  Calls P f (.pointer (some ⟨b,0,none⟩)::vs).toArray w fun e w'=>∃v,e = .returned v/\y.den (grown (ak.of A) w w') v w'/\aJ.cW ⟨w,(· = b),fun _=>none⟩ w' ∧
   ∃cs',w'.heap[b]?=some (.cells cs'.toArray t (0,0))/\a9 (grown (ak.of A) w w') ls' cs' w'
def K7(P:Program)(fn:Func)(w0:aJ)(A0:ak)(y:R)(t b:Nat)(ls':List ab):Exit->Act->World->Prop:=
 bodyPost P fn fun e w'=>∃v,e = .returned v/\y.den (grown (ak.of A0.c) w0.w w') v w'/\w0.cW w'/\∃cs',w'.heap[b]?=some (.cells cs'.toArray t (0,0))/\a9 (grown (ak.of A0.c) w0.w w') ls' cs' w'
theorem iQ.gO{f N t:Nat}{fn:Func}{c:Code}{ls ls':List ab}{xs:List V}{y:R}(hf:P.funcs[f]?=some fn)(hb:fn.body=some c)(hN:fn.ntmps=N)(hl:xs.length+1<=min N 2000)
  (h:∀(w0:aJ) A0 b,(∀k,w0.X k->k=b)->Tc P (K7 P fn w0 A0 y t b ls') w0 A0 N ((0,some (D.ptr 0 0))::lY 1 xs) [some ⟨t,ls,none,some (.inl b)⟩] c):iQ P f t ls ls' xs y:=by
 intro w vs A b cs hg hgb hA hAb hheap hd hvs;have hlv:=hvs.length;have hdl:=hd.length;refine calls_of_wp hf hb ?_;refine h ⟨w,(· = b),fun _=>none⟩ (ak.of A) b (fun _ h=>h) _ _ ⟨⟨fun _=>b,fun _=>0,fun _=>false,ak.of A⟩,aJ.cW.refl ⟨w,(· = b),fun _=>none⟩ hg hgb,hA,fun k j hk=>.inl hk,rfl,?_,?_,?_,?_,?_,fun i m v hv=>by simp at hv,fun k j hk=>⟨hk,rfl⟩⟩
 .simp;omega
 .intro s d hs;by_cases hs0:0=s
  .subst hs0;rw[hY] at hs;cases hs;refine⟨⟨_,rfl,rfl⟩,.pointer (some ⟨b,0,none⟩),?_,rfl⟩;rw[jq rfl,Yj (by simp)];simp
  .rw[gH hs0] at hs;obtain⟨x,v,rfl,h1,h2,h3⟩:=vq xs vs 1 s d hvs hs;refine⟨trivial,v,?_,h3⟩;have hlt:=(XN.1 h2).1;rw[jq (by simp;omega),Yj (by simp;omega)];obtain⟨s',rfl⟩:∃s',s=s'+1:=⟨s-1,by omega⟩;simpa using h2
 .intro i e he
  match i,he with
  |0,he=>
   simp only[YD,XL] at he;subst he;refine⟨?_,fun _=>⟨⟨rfl,.inr rfl⟩,fun j _=>hAb j⟩⟩;exact⟨rfl,cs,hheap,hd⟩
  |i+1,he=>simp at he
 .intro i j e e' hi hj _ _ hij;have h1:=(XN.1 hi).1;have h2:=(XN.1 hj).1;simp at h1 h2;omega
 .intro i e v he hp
  match i,he with
  |0,he=>
   simp only[YD,XL] at he;subst he;simp at hp
  |i+1,he=>simp at he
theorem jD{f:Nat}{x:Operand}{args:Array Operand}{ys:List Operand}{tys:Array TypeId}{xs:List V}{y:R}{i t:Nat}{ls ls':List ab}{p:Option (Nat ⊕ (Nat×Option Nat))}(ho:o.op = .call { callee:=.value (.func f),args:=args,argTypes:=tys })(hf:aD P f)
  (hargs:args.toList=x::ys) (hx:ao Γ x=some (D.ptr i 0)) (hi:H[i]?=some (some ⟨t,ls,none,p⟩)) (hys:gA Γ ys=some xs) (hspec:iQ P f t ls ls' xs y) (hp0:∀k n,p≠some (.inr (k,some n)):=by exact fun _ _ h=>by simp at h) (hfz0:(⟨t,ls,none,p⟩:HE).fz=0:=by rfl) (hcl:bW ls=true:=by rfl) (hcx:fq xs=true:=by rfl) :
  Je P ops o Γ H (some y.lG) (H.set i (some ⟨t,ls',none,p⟩)):=by
 intro w0 A0 N Γ2 a w Q K hs hN hSt hK;obtain⟨E,hG⟩:=hSt;obtain⟨fn,hfn,hb,hn⟩:=hf;have hmem:∀z∈args.toList,z∈o.op.operands:=by
  intro z hz;rw[ho];simp[Op.operands,Call.operands];exact .inr (by simpa using hz)
 have hat:=fun z (hz:z∈args.toList) d hd=>(bY hs hG (x:=z) (hmem z hz) hd (d:=d)).2;have hxd:=hat x (by rw[hargs];simp) _ hx;have hyd:=mc (Γ:=Γ) (E:=E) (a:=a) (w:=w) ys xs (fun z hz d hd=>hat z (by rw[hargs];simp[hz]) d hd) hys;have hrun:(execOp a.eval o).run P w = .ok (.enter f (args.map a.eval)) w:=by
  have hn':¬fn.name = "runtime.NumGoroutine":=by simpa using hn
  have hb':¬fn.body=none:=by intro e;rw[e] at hb;simp at hb
  simp[execOp,ho,resolve,Deferred.ofValue,invoke,callFunc,hfn,hn',hb',Act.eval]
 unfold Oper.wp;rw[hrun,Ze];obtain⟨g1,g2⟩:=hG.boxes i _ hi;obtain⟨hnl,cs,hc,hd⟩:=HE.box g1 rfl;obtain⟨b1,b2'⟩:=g2 hnl;have b2:∀j,¬E.A (E.b i) j:=fun j=>b2' j (by rw[hfz0];exact XS _);have hxd:a.eval x = .pointer (some ⟨E.b i,0,none⟩):=hxd;have hne:∀p∈jn,p.1≠E.b i:=by
  intro q hq e'';have h1:=(hG.below.jU q hq).1;have h2:=hG.below.apart q hq;rw[e''] at h1 h2
  cases hp:p with
  |none=>rw[hp] at b1;have:w0.w.heap.size<=E.b i:=b1;omega
  |some q'=>
   rw[hp] at b1
   cases q' with
   |inl q'=>
    obtain⟨h5,h6⟩:=b1;rw[h5] at h2 h1;rcases h6 with h6|h6
    .omega
    .exact h2 h6
   |inr q'=>
    rcases b1 with b1|b1
    .omega
    .exact h2 b1
 have hcall:=hspec w (ys.map a.eval) E.A.c (E.b i) cs hG.below.now hne hG.bc b2 hc (hd.pure hcl) (hyd.pure hcx);rw[show(Value.pointer (some ⟨E.b i,0,none⟩)::ys.map a.eval).toArray=args.map a.eval from by
  apply YC.1;simp[hargs,hxd]] at hcall
 refine Zg hcall ?_;rintro e' w' ⟨v,rfl,hy,hbel,cs',hc',hd'⟩;have hil:i<H.length:=(XN.1 hi).1;have hwlt:E.b i<w.heap.size:=(X4.1 hc).1;have hsz:cs'.length=cs.length:=by
  obtain⟨cs2,k1,k2⟩:=hbel.kb (E.b i) _ _ _ rfl hc;rw[hc'] at k1;cases k1;simpa using k2
 have hk:∀k,k<w.heap.size->k≠E.b i->w'.heap[k]?=w.heap[k]?:=fun k hk hne=>hbel.block k hk hne;have hkA:kept E.A w w':=ju fun k j hA=>hk k (hG.bc k j hA) (fun e=>b2 j (e ▸ hA));have hmA:ak.le E.A (grown E.A w w'):=BO _ _ _;have hgb:∀b j,b<w.heap.size->¬E.A b j->¬grown E.A w w' b j:=fun b j h1 h2 h3=>by
  rcases h3 with h3|h3
  .exact h2 h3
  .omega
 have hnoX:∀k,k<w0.w.heap.size->¬w0.X k->k≠E.b i:=by
  intro k hk hx e'';subst e''
  cases hp:p with
  |none=>rw[hp] at b1;have:w0.w.heap.size<=E.b i:=b1;omega
  |some q=>
   rw[hp] at b1
   cases q with
   |inl q=>
    obtain⟨h5,h6⟩:=b1;rw[h5] at hx hk;rcases h6 with h6|h6
    .omega
    .exact hx h6
   |inr q=>
    rcases b1 with b1|b1
    .omega
    .exact hx b1
 refine hK _ _ ⟨{ E with A:=grown E.A w w' },Good.put (H:=H.set i (some ⟨t,ls',none,p⟩)) ?_ (fun d hd=>by cases hd;exact⟨R.wK,R.wL (R.cU (sm _ _ _) hy)⟩) hN⟩;have hs0:=hG.below.size;refine⟨⟨hbel.os.trans hG.below.os,hbel.tape.trans hG.below.tape,hbel.output.trans hG.below.output,XY hs0 hbel.size,fun k h1 h2=>?_,fun k cs1 t1 m1 h1 h2=>?_,hG.below.jU,hG.below.apart⟩,?_,?_,hG.defers,hG.size,?_,?_,?_,?_,?_,hG.bg.bI hmA.1 hkA⟩
 .rw[hk k (XZ h1 hs0) (hnoX k h1 h2)];exact hG.below.block k h1 h2
 .obtain⟨cs2,k1,k2⟩:=hG.below.kb k cs1 t1 m1 h1 h2;by_cases hkb:k=E.b i
  .subst hkb;rw[hc] at k1;cases k1;exact⟨_,hc',by rw[<-k2];simp[hsz]⟩
  .exact⟨cs2,by rw[hk k (X4.1 k1).1 hkb];exact k1,k2⟩
 .intro k j hk;rcases hk with hk|hk
  .exact XZ (hG.bc k j hk) hbel.size
  .exact hk.2
 .intro k j hk;rcases hk with hk|hk
  .exact hG.cE k j hk
  .exact .inr (.inl (XY hs0 hk.1))
 .intro s d hs;obtain⟨ho',v,hv,hd⟩:=hG.cr s d hs;exact⟨ho'.oj (fun e0 h0 h1=>by rw[hi] at h0;cases h0;exact h1),v,hv,D.sM hmA (D.fK hkA hd)⟩
 .intro j e he;by_cases hj:i=j
  .subst hj;rw[X7 hil] at he;simp only[XL] at he;subst he;refine⟨?_,fun _=>⟨b1,fun j _=>hgb _ j hwlt (b2 j)⟩⟩;exact⟨hnl,cs',hc',hd'.mono (sm _ _ _)⟩
  .rw[X0 hj] at he;obtain⟨k1,k2⟩:=hG.boxes j e he;have hlt:E.nil j=false->E.b j<w.heap.size:=fun hnj=>HE.eu k1 hnj;have hsame:E.nil j=false->w'.heap[E.b j]?=w.heap[E.b j]?:=fun hnj=>hk _ (hlt hnj) (fun hb=>hG.apart i j _ e hi he hnl hnj hj hb.symm);exact⟨HE.jt hmA (HE.kL hkA hsame k1),fun hnj=>⟨(k2 hnj).1,fun jj hjj=>hgb _ jj (hlt hnj) ((k2 hnj).2 jj hjj)⟩⟩
 .intro j1 j2 e1 e2 he1 he2 hn1 hn2 h12;have back:∀(j:Nat) (e1:HE),(H.set i (some ⟨t,ls',none,p⟩))[j]?=some (some e1)->∃e2,H[j]?=some (some e2):=by
   intro j e1 h1;by_cases hj:i=j
   .subst hj;exact⟨_,hi⟩
   .rw[X0 hj] at h1;exact⟨e1,h1⟩
  obtain⟨e1',g1⟩:=back j1 e1 he1;obtain⟨e2',g2⟩:=back j2 e2 he2;exact hG.apart j1 j2 e1' e2' g1 g2 hn1 hn2 h12
 .intro j e v he hp;by_cases hj:i=j
  .subst hj;rw[X7 hil] at he;simp only[XL] at he;subst he;simp only at hp;obtain⟨k,hp⟩:=hp;exact absurd hp (hp0 k v)
  .rw[X0 hj] at he;exact⟨(hG.kn j e v he hp).1,(hG.kn j e v he hp).2.1,fun hn j' hj'=>.inl ((hG.kn j e v he hp).2.2 hn j' hj')⟩
 .intro j m v hv;obtain⟨e1,k,n,h5,h6⟩:=hG.gd j m v hv;by_cases hj:i=j
  .subst hj;rw[hi] at h5;cases h5;exact absurd h6 (hp0 k n)
  .exact⟨e1,k,n,by rw[X0 hj];exact h5,h6⟩
theorem qt{Q:Exit->Act->World->Prop}{w0:aJ}{A0:ak}{N t b:Nat}{fn:Func}{y:R}{r:ResultVar}{x:V}{ls':List ab}(hQ:∀a w,K7 P fn w0 A0 y t b ls' .ret a w->Q .ret a w)
  (hr:fn.results = #[r]) (h:jN P Γ H r x) (hy:R.one x=y) {ls:List ab} (hH:H[0]?=some (some ⟨t,ls,none,some (.inl b)⟩)) (hls:ls=ls') (hX:∀k,w0.X k->k=b) (hcx:x.cl=true:=by rfl) (hcl:bW ls=true:=by rfl):Tc P Q w0 A0 N Γ H .ret:=by
 intro a w hSt;obtain⟨E,hG⟩:=hSt;obtain⟨v,hv,hd⟩:=kE hG h;obtain⟨g1,g2⟩:=hG.boxes 0 _ hH;obtain⟨hn,cs,hc,hcd⟩:=HE.box g1 rfl;have hb:E.b 0=b:=(g2 hn).1.1;have hout:=hG.Gj hX (fun j=>by rw[<-hb];exact(g2 hn).2 j (XS _));rw[hb] at hc;subst hls;refine wp_ret (hQ a w ⟨hG.defers,v,?_,v,rfl,?_,hG.below,cs,hc,(hcd.pure hcl).mono hout⟩)
 .rw[kD,hr];simp[hv]
 .subst hy;exact V.cU hout (V.ja hcx hd)
theorem Dz{Q:Exit->Act->World->Prop}{w0:aJ}{A0:ak}{N:Nat}{c:Code}(j:Nat){t:Nat}{ls:List ab}(hj:H[j]?=some (some ⟨t,ls,none,none⟩))(h:∀q,Tc P Q w0 A0 N Γ (H.set j (some ⟨t,ls,none,some (.inl q)⟩)) c):Tc P Q w0 A0 N Γ H c:=by
 intro a w hSt;obtain⟨E,hG⟩:=hSt;have hjl:=(XN.1 hj).1;have back:∀(i:Nat) (e:HE),(H.set j (some ⟨t,ls,none,some (.inl (E.b j))⟩))[i]?=some (some e)->(i=j/\e=⟨t,ls,none,some (.inl (E.b j))⟩)\/(j≠i/\H[i]?=some (some e)):=by
  intro i e he;by_cases hij:j=i
  .subst hij;rw[X7 hjl] at he;simp only[XL] at he;exact .inl ⟨rfl,he.symm⟩
  .rw[X0 hij] at he;exact .inr ⟨hij,he⟩
 have get:∀(i:Nat) (e:HE),(H.set j (some ⟨t,ls,none,some (.inl (E.b j))⟩))[i]?=some (some e)->∃e2,H[i]?=some (some e2):=by
  intro i e he;rcases back i e he with⟨rfl,_⟩|⟨_,h2⟩
  .exact⟨_,hj⟩
  .exact⟨e,h2⟩
 refine h (E.b j) a w ⟨E,hG.below,hG.bc,hG.cE,hG.defers,hG.size,fun s d hs=>?_,fun i e he=>?_,fun i i' e e' h1 h2=>?_,fun i e m he hm=>?_,fun i m v hv=>?_,hG.bg⟩
 .obtain⟨ho,v,hv,hd⟩:=hG.cr s d hs;exact⟨ho.oj (fun _ _ _=>rfl),v,hv,hd⟩
 .rcases back i e he with⟨rfl,rfl⟩|⟨_,h2⟩
  .obtain⟨g1,g2⟩:=hG.boxes i _ hj;exact⟨g1,fun hn=>⟨⟨rfl,.inl (g2 hn).1⟩,(g2 hn).2⟩⟩
  .exact hG.boxes i e h2
 .obtain⟨e2,k2⟩:=get _ _ h1;obtain⟨e3,k3⟩:=get _ _ h2;exact hG.apart i i' e2 e3 k2 k3
 .rcases back i e he with⟨rfl,rfl⟩|⟨_,h2⟩
  .obtain⟨k,hm⟩:=hm;simp at hm
  .exact hG.kn i e m h2 hm
 .obtain⟨e1,k,n,h5,h6⟩:=hG.gd i m v hv;by_cases hij:j=i
  .subst hij;rw[hj] at h5;cases h5;simp at h6
  .exact⟨e1,k,n,by rw[X0 hij];exact h5,h6⟩
def J7(H:Hp)(d:D)(v:Value):Prop:=(d=D.val v/\v.oneCell'=true) \/ ∃(j:Nat) (e:HE) (q:Nat),d=D.ptr j 0/\H[j]?=some (some e)/\e.row=none/\e.cP=some (.inl q)/\v = .pointer (some ⟨q,0,none⟩)
def CP(Γ:aA)(H:Hp):List Operand->List Value->Prop
 |[],[]=>True
 |x::xs,v::vs=>(∃d,ao Γ x=some d/\J7 H d v)/\CP Γ H xs vs
 |[],_::_=>False
 |_::_,[]=>False
theorem Vg{w0:aJ}{A0:ak}{N:Nat}{Γ2:aA}{E:Env}{a:Act}{w:World}(hG:Good w0 A0 N Γ2 H E a w){d:D}{v u:Value}(hc:J7 H d v):d.den E u w↔u=v:=by
 rcases hc with⟨rfl,h1⟩|⟨j,e,q,rfl,h1,h2,h3,rfl⟩
 .exact⟨fun h=>h.1,fun h=>⟨h,h ▸ h1⟩⟩
 .obtain⟨g1,g2⟩:=hG.boxes j e h1;have hn:E.nil j=false:=by
   unfold HE.ok at g1;rw[h2] at g1;exact g1.1
  have hb:=(g2 hn).1;rw[h3] at hb;obtain⟨hb,_⟩:=hb;show u = .pointer (some ⟨E.b j,0,none⟩)↔_;rw[hb]
theorem J6{w0:aJ}{A0:ak}{N:Nat}{Γ2:aA}{E:Env}{a:Act}{w:World}(hG:Good w0 A0 N Γ2 H E a w):∀{xs:List Operand} {vs:List Value},(∀x∈xs,∀d,ao Γ x=some d->d.den E (a.eval x) w)->CP Γ H xs vs->xs.map a.eval=vs
 |[],[],_,_=>rfl
 |x::xs,v::vs,hd,h=>by
  obtain⟨⟨d,h1,h2⟩,h3⟩:=h;have:=(Vg hG h2).1 (hd x (by simp) d h1);rw[ZP,this,J6 hG (fun y hy=>hd y (by simp[hy])) h3]
 |[],_::_,_,h=>h.elim
 |_::_,[],_,h=>h.elim
theorem W6{f:Nat}{captured:Array Operand}{vs:List Value}(ho:o.op = .makeFunc (.func f) #[] captured)(hc:CP Γ H captured.toList vs):Je P ops o Γ H (some (D.val (.func (.func f) #[] vs.toArray))) H:=by
 intro w0 A0 N Γ2 a w Q K hs hN hSt hK;obtain⟨E,hG⟩:=hSt;have hv:=J6 (Γ:=Γ) hG (fun x hx d hd=>(bY hs hG (x:=x) (by rw[ho];simpa[Op.operands] using hx) hd).2) hc;refine gh (v:=.func (.func f) #[] vs.toArray) (w':=w) ?_ (hK _ _ ⟨E,hG.put (fun d hd=>by cases hd;exact⟨trivial,rfl,rfl⟩) hN⟩);have:captured.map a.eval=vs.toArray:=by apply YC.1;simpa using hv
 simp[execOp,ho,Instr.makeFunc,this]
def uy(P:Program)(t:Nat)(name:String):Option Nat:=
 match P.info? t,P.underlying t with
 |some i,some d=>
  match i.methods.find? (·.name == name),d with
  |some m,.pointer _=>none
  |some m,_=>if m.path.isEmpty then(match m.func with|some (f,false)=>some f|_=>none) else none
  |none,_=>none
 |_,_=>none
theorem Av{w:World}{t f fuel:Nat}{name:String}{v:Value}(h:uy P t name=some f):(method (fuel+1) t v name).run P w = .ok (f,v) w:=by
 unfold uy at h
 cases hi:P.info? t with
 |none=>rw[hi] at h;simp at h
 |some i=>
  cases hu:P.underlying t with
  |none=>rw[hi,hu] at h;simp at h
  |some d=>
   rw[hi,hu] at h;simp only at h
   cases hm:i.methods.find? (·.name == name) with
   |none=>rw[hm] at h;simp at h
   |some m=>
    rw[hm] at h;have hp:m.path.isEmpty=true/\m.func=some (f,false)/\∀e,d≠.pointer e:=by
     cases d <;> simp at h <;> (obtain⟨h1,h2⟩:=h;refine⟨by simpa using h1,?_,fun e he=>by simp at he⟩;split at h2 <;> simp_all)
    obtain⟨h1,h2,h3⟩:=hp;have h1':m.path.toList=[]:=by
     have:m.path = #[]:=by simpa using h1
     rw[this]
    unfold method;simp only[typeInfo,Sem.run];simp[hi,hm,h1',follow,h2,receiverAt,run_underlying hu];cases d <;> first|rfl|(exact absurd rfl (h3 _))|simp[Place.get]
end
section
variable {P:Program}{ops:Array Oper}{X:List Nat}{o:Oper}{Γ:aA}{H:Hp}{α:Type}
theorem WV{x y:Operand}{t u:Nat}{k:IntKind}{j:Int}{b:Bool}(e:El α)(l:List α)(i:Nat)(ho:o.op = .indexAddr t x y)(hx:ao Γ x=some (D.v (V.one (e.row l))))(hy:ao Γ y=some (D.val (.int k j)))
  (ht:P.underlying t=some (.slice u)) (hu:bJ P u b e.sz) (hj:j=(i:Int)) (hi:i<l.length):Jq P ops X o Γ H (D.rep (eR (e.f l[i]))):=by
 subst hj;exact Li ho hx hy ht hu (by omega) (by omega) (by rw[Int.toNat_natCast];exact e.Ky hi)
theorem Lg{x y:Operand}{t u:Nat}{k:IntKind}{j:Int}{b:Bool}(e:El α)(l:List α)(i:Nat)(ho:o.op = .slice t x none (some y) none)(hx:ao Γ x=some (D.v (V.one (e.row l))))(hy:ao Γ y=some (D.val (.int k j)))
  (ht:P.underlying t=some (.slice u)) (hu:bJ P u b e.sz) (hj:j=(i:Int)) (hi:i<=l.length):Jq P ops X o Γ H (D.v (V.one (e.row (l.take i)))):=by
 subst hj;have:=Lf (ops:=ops) (X:=X) (H:=H) ho hx hy ht hu hi (e.zq l i);unfold El.row;rw[X2,YA hi];exact this
theorem lu{x y:Operand}{t u:Nat}{k:IntKind}{j:Int}{b:Bool}(e:El α)(l:List α)(i:Nat)(ho:o.op = .slice t x (some y) none none)(hx:ao Γ x=some (D.v (V.one (e.row l))))(hy:ao Γ y=some (D.val (.int k j)))
  (ht:P.underlying t=some (.slice u)) (hu:bJ P u b e.sz) (hj:j=(i:Int)) (hi:i<=l.length):Jq P ops X o Γ H (D.v (V.one (e.row (l.drop i)))):=by
 subst hj;have:=Le (ops:=ops) (X:=X) (H:=H) ho hx hy ht hu hi rfl (ls':=e.all (l.drop i)) (by
  rw[El.Kz,YH];rw[El.eI,X1];exact XP _)
 unfold El.row;rw[X1];exact this
theorem Xf{x y:Operand}{t t2 u u2 r n sz:Nat}{inf:TypeInfo}{z:Value}(e:El α)(l:List α)(v:α)
  (ho:o.op = .call { callee:=.builtin .append,args:=#[x,y],argTypes:=#[t,t2] })
  (hx:ao Γ x=some (D.v (V.one (ab.own r n)))) (hy:ao Γ y=some (D.rep (bX 1 (e.f v)))) (hi:H[r]?=some (some ⟨u,e.all l,some sz,some (.inr ((e.all l).length,some n))⟩)) (hsz:0<sz)
  (ht:P.underlying t=some (.slice u)) (ht2:P.underlying t2=some (.slice u2)) (hinf:P.info? u=some inf) (hz:inf.zero=some z) (hisz:inf.size=sz) (hzs:z.cells.size=sz)
  (hlen:l.length+1<=maxLen) (hbytes:(l.length+1)*inf.bytes<=140737488355328) (hes:e.sz=sz:=by rfl) :
  Je P ops o Γ H (some (D.v (V.one (ab.own r (n+1))))) (H.set r (some ⟨u,e.all (l++[v]),some sz,some (.inr ((e.all (l++[v])).length,some (n+1)))⟩)):=by
 subst hes;exact Lo ho hx hy hi (e.eI l) (by rw[e.len,Y2]) hsz ht ht2 hinf hz hisz hzs hlen hbytes rfl (e.Kx l v)
theorem Xe{x y:Operand}{t t2 u u2 r n sz:Nat}{inf:TypeInfo}{z:Value}(e:El α)(l l2:List α)
  (ho:o.op = .call { callee:=.builtin .append,args:=#[x,y],argTypes:=#[t,t2] })
  (hx:ao Γ x=some (D.v (V.one (ab.own r n)))) (hy:ao Γ y=some (D.v (V.one (e.row l2)))) (hi:H[r]?=some (some ⟨u,e.all l,some sz,some (.inr ((e.all l).length,some n))⟩)) (hsz:0<sz)
  (ht:P.underlying t=some (.slice u)) (ht2:P.underlying t2=some (.slice u2)) (hinf:P.info? u=some inf) (hz:inf.zero=some z) (hisz:inf.size=sz) (hzs:z.cells.size=sz)
  (hlen:l.length+l2.length<=maxLen) (hbytes:(l.length+l2.length)*inf.bytes<=140737488355328) (hes:e.sz=sz:=by rfl) :
  Je P ops o Γ H (some (D.v (V.one (ab.own r (n+1))))) (H.set r (some ⟨u,e.all (l++l2),some sz,some (.inr ((e.all (l++l2)).length,some (n+1)))⟩)):=by
 subst hes;exact Lo ho hx hy hi (e.eI l) (e.eI l2) hsz ht ht2 hinf hz hisz hzs hlen hbytes rfl (e.all_append l l2).symm
theorem dH.gf{r n u sz:Nat}(e:El α)(l:List α)(hi:H[r]?=some (some ⟨u,e.all l,some sz,some (.inr ((e.all l).length,some n))⟩))(hsz:0<sz)(hes:e.sz=sz:=by rfl):dH H r n l.length (e.all l):=by
 subst hes;exact dH.mk' hi rfl (e.eI l) hsz (e.gK l)
theorem DJ{x y:Operand}{t u:Nat}{k:IntKind}{j:Int}{b:Bool}(e:El α)(l:List α)(i:Nat){v:α}(ho:o.op = .indexAddr t x y)(hx:ao Γ x=some (D.v (V.one (e.row l))))(hy:ao Γ y=some (D.val (.int k j)))
  (ht:P.underlying t=some (.slice u)) (hu:bJ P u b e.sz) (hi:l[i]?=some v) (hj:j=(i:Int):=by first|rfl|omega):Jq P ops X o Γ H (D.rep (eR (e.f v))):=by
 obtain⟨h1,h2⟩:=XN.1 hi;rw[<-h2];exact WV e l i ho hx hy ht hu hj h1
theorem tc{f r n sz k u:Nat}{args:Array Operand}{tys:Array TypeId}{ys xs:List V}{y:Nat->V}(y':V){ls ls':List ab}(ho:o.op = .call { callee:=.value (.func f),args:=args,argTypes:=tys })(hf:aD P f)(hx:gA Γ args.toList=some ys)
  (hi:H[r]?=some (some ⟨u,ls,some sz,some (.inr (k,some n))⟩)) (hspec:o4 P f u sz ls ls' xs y) (hle:ls.length<=ls'.length) (hxs:ig r n 0 0 ys xs:=by intros;repeat (first|exact fx.nil|exact ig.nil|exact eW.own|exact eW.one rfl|refine eW.agg ?_|refine ig.cons ?_ ?_|refine fx.own ?_|refine fx.cl rfl ?_)) (hy:∀n1,eW 0 n1 r (n+1) (y n1) y':=by intros;repeat (first|exact fx.nil|exact ig.nil|exact eW.own|exact eW.one rfl|refine eW.agg ?_|refine ig.cons ?_ ?_|refine fx.own ?_|refine fx.cl rfl ?_)) (hk:k=ls.length:=by rfl)
  (hcl:bW ls=true:=by first|rfl|exact El.gK _ _) (hcl':bW ls'=true:=by first|rfl|exact El.gK _ _) :
  ∀H2:Hp,H2[r]?=H[r]?->Je P ops o Γ H2 (some (D.v y')) (H2.set r (some ⟨u,ls',some sz,some (.inr (ls'.length,some (n+1)))⟩)):=
 fun _ hH=>qy y' ho hf hx (hH.trans hi) hspec hle hxs hy hk hcl hcl'
theorem wc{f:Nat}{x:Operand}{args:Array Operand}{ys:List Operand}{tys:Array TypeId}{xs:List V}{y:R}{i t:Nat}{ls ls':List ab}{p:Option (Nat ⊕ (Nat×Option Nat))}(ho:o.op = .call { callee:=.value (.func f),args:=args,argTypes:=tys })(hf:aD P f)
  (hargs:args.toList=x::ys) (hx:ao Γ x=some (D.ptr i 0)) (hi:H[i]?=some (some ⟨t,ls,none,p⟩)) (hys:gA Γ ys=some xs) (hspec:iQ P f t ls ls' xs y) (hp0:∀k n,p≠some (.inr (k,some n)):=by exact fun _ _ h=>by simp at h) (hfz0:(⟨t,ls,none,p⟩:HE).fz=0:=by rfl) (hcl:bW ls=true:=by rfl) (hcx:fq xs=true:=by rfl) :
  ∀H2:Hp,H2[i]?=H[i]?->Je P ops o Γ H2 (some y.lG) (H2.set i (some ⟨t,ls',none,p⟩)):=
 fun _ hH=>jD ho hf hargs hx (hH.trans hi) hys hspec hp0 hfz0 hcl hcx
theorem cX{Q:Exit->Act->World->Prop}{w0:aJ}{A0:ak}{N:Nat}{ex:Exit}(i:Nat)(h:At Q w0 A0 N (fk i Γ) (H.set i none) ex)(hv:nU H i=false:=by rfl):At Q w0 A0 N Γ H ex:=
 fun a w ⟨E,hG⟩=>h a w ⟨E,hG.free i hv⟩
theorem Good.trim{w0:aJ}{A0:ak}{N:Nat}{H':Hp}{E:Env}{a:Act}{w:World}(hG:Good w0 A0 N Γ H E a w)(k:Nat)(h:H=H'++List.replicate k none):Good w0 A0 N Γ H' E a w:=by
 subst h;have fwd:∀(j:Nat) (e:HE),H'[j]?=some (some e)->(H'++List.replicate k none)[j]?=some (some e):=fun j e hj=>by
  rw[XV (XN.1 hj).1];exact hj
 have back:∀(j:Nat) (e:HE),(H'++List.replicate k none)[j]?=some (some e)->H'[j]?=some (some e):=by
  intro j e hj;by_cases hl:j<H'.length
  .rwa [XV hl] at hj
  .rw[YL (by omega),List.getElem?_replicate] at hj;split at hj <;> simp at hj
 refine⟨hG.below,hG.bc,hG.cE,hG.defers,hG.size,fun s d hs=>?_,fun j e hj=>hG.boxes j e (fwd j e hj),fun j1 j2 e1 e2 h1 h2=>hG.apart j1 j2 e1 e2 (fwd _ _ h1) (fwd _ _ h2),fun j e v hj hp=>hG.kn j e v (fwd _ _ hj) hp,fun j m v hg=>?_,hG.bg⟩
 .obtain⟨ho,v,hv,hd⟩:=hG.cr s d hs;exact⟨D.kK ho (fun j e _ he hv=>⟨e,back j e he,hv⟩),v,hv,hd⟩
 .obtain⟨e,k',n,h1,h2⟩:=hG.gd j m v hg;exact⟨e,k',n,back j e h1,h2⟩
theorem Xu{Q:Exit->Act->World->Prop}{w0:aJ}{A0:ak}{N:Nat}{ex:Exit}(H':Hp)(k:Nat)(hH:H=H'++List.replicate k none)(h:At Q w0 A0 N Γ H' ex):At Q w0 A0 N Γ H ex:=
 fun a w ⟨E,hG⟩=>h a w ⟨E,hG.trim k hH⟩
theorem DS{t u sz:Nat}{b:Bool}(ho:o.op = .buildSlice t 0 #[])(ht:P.underlying t=some (.slice u))(hu:bJ P u b sz):∀H2:Hp,Je P ops o Γ H2 (some (D.rep (Aj 0 []))) H2:=by
 intro H2 w0 A0 N Γ2 a w Q K hs hN hSt hK;obtain⟨E,hG⟩:=hSt;have hb:=ma w (.cells [].toArray u);refine gh (v:=.slice (some ⟨w.heap.size,0,none⟩) 0 0) (w':=w.alloc (.cells [].toArray u)) ?_ (hK _ _ ⟨_,(hG.grow hb).put (fun d hd=>by
  cases hd;exact⟨trivial,⟨some ⟨w.heap.size,0,none⟩,0,rfl,XP _,XS _,fun h=>by simp at h,fun ad had=>⟨fun h=>by omega,fun i l hi=>by simp at hi⟩⟩,_,rfl⟩) hN⟩)
 simp[execOp,ho,Instr.buildSlice,run_underlying ht,hu.sizeOf,Instr.fill,newRow,show Array.range 0 = #[] from rfl]
theorem DU{x y:Operand}{t t2 u u2 sz:Nat}{inf:TypeInfo}{z:Value}(e:El α)(l:List α)
  (ho:o.op = .call { callee:=.builtin .append,args:=#[x,y],argTypes:=#[t,t2] })
  (hx:ao Γ x=some (D.rep (Aj 0 []))) (hy:ao Γ y=some (D.v (V.one (e.row l)))) (hsz:0<sz)
  (ht:P.underlying t=some (.slice u)) (ht2:P.underlying t2=some (.slice u2)) (hinf:P.info? u=some inf) (hz:inf.zero=some z) (hisz:inf.size=sz) (hzs:z.cells.size=sz)
  (hlen:l.length<=maxLen) (hbytes:l.length*inf.bytes<=140737488355328) (hes:e.sz=sz:=by rfl):∀H2:Hp,Je P ops o Γ H2 (some (D.v (V.one (e.row l)))) H2:=by
 subst hes;by_cases hm:l.length=0
 .have hl0:l=[]:=X5 hm;subst hl0;intro H2 w0 A0 N Γ2 a w Q K hs hN hSt hK;obtain⟨E,hG⟩:=hSt;obtain⟨_,h1,adx,hvx⟩:=bY hs hG (x:=x) (by rw[ho];simp[Op.operands,Call.operands]) hx;obtain⟨_,ay,capy,hvy,_⟩:=bY hs hG (x:=y) (by rw[ho];simp[Op.operands,Call.operands]) hy;have hvy:a.eval y = .slice ay 0 capy:=hvy;refine gh (v:=.slice (some adx) 0 0) (w':=w) ?_ (hK _ _ ⟨E,hG.put (fun d hd=>by
   cases hd;refine⟨trivial,?_⟩;rw[hvx] at h1;exact h1) hN⟩)
  have hrun:(Builtin.append_ #[t,t] o.type #[a.eval x,a.eval y]).run P w = .ok (.slice (some adx) 0 0) w:=by
   rw[hvx,hvy];cases ay <;> simp[Builtin.append_,run_underlying ht,Go.sizeOf,typeInfo,hinf,Builtin.lenOf,Builtin.firstCells,storeCells,loadCells,loadCellsFrom]
  simp[execOp,ho,resolve,invoke,builtin,zk w _ _ ht ht2,hrun]
 .exact Xg ho hx hy (by simp) (e.eI l) hsz (by omega) ht ht2 hinf hz hisz hzs (by simpa using hlen) (by simpa using hbytes) (Yk _) (List.nil_append _)
theorem WN{x:Operand}{i off:Nat}(ho:o.op = .nilCheck x)(hx:ao Γ x=some (D.ptr i off)):Jq P ops X o Γ H (D.ptr i off):=by
 intro w0 A0 N Γ2 H2 E a w hs hX hG;obtain⟨h0,h1⟩:=bY hs hG (x:=x) (by rw[ho];simp[Op.operands]) hx;have h1:a.eval x = .pointer (some ⟨E.b i,off,none⟩):=h1;exact⟨h0,.pointer (some ⟨E.b i,off,none⟩),by simp[execOp,ho,h1],rfl⟩
def dP:El Nat:=⟨fun x=>[ab.val (.int .u8 (x:Int))],1,fun _=>rfl,fun _=>rfl⟩
theorem WW{x y:Operand}{t u n:Nat}{k:IntKind}(j:Nat){ls:List ab}{l:ab}(ho:o.op = .index t x y)(hx:ao Γ x=some (D.agg ls))(hy:ao Γ y=some (D.val (.int k (j:Int))))
  (ht:P.underlying t=some (.array n u)) (hu:bJ P u false 1) (hj:j<n) (hl:ls[j]?=some l):Jq P ops X o Γ H (D.v (V.one l)):=by
 intro w0 A0 N Γ2 H2 E a w hs hX hG;obtain⟨h1,cs,h2,h3⟩:=bY hs hG (x:=x) (by rw[ho];simp[Op.operands]) hx;have e2:=cT hs hG (x:=y) (by rw[ho];simp[Op.operands]) hy;obtain⟨v,hv,hd⟩:=h3.get hl;refine⟨trivial,v,?_,hd⟩;simp[execOp,ho,h2,e2,Instr.index,asIntOf,run_underlying ht,part,hu.isAgg,hu.sizeOf,hj,hv]
end
def uY(f:Nat)(ls:List ab):qv where
 P A v w:=∃cs:List Value,v = .func (.func f) #[] cs.toArray/\a9 (ak.of A) ls cs w
 mono:=fun hA ⟨cs,h,hd⟩=>⟨cs,h,hd.mono (ak.le.of hA)⟩
 bI:=fun hk ⟨cs,h,hd⟩=>⟨cs,h,hd.bI hk⟩
 one:=by rintro A v w ⟨cs,rfl,_⟩;rfl
def pD(ls:List ab):List V:=ls.map V.one
theorem Gq{A:ak}{w:World}:∀{ls:List ab} {vs:List Value},c6 A (pD ls) vs w->a9 A ls vs w
 |[],[],_=>trivial
 |l::ls,v::vs,h=>⟨h.1,Gq h.2⟩
 |[],_::_,h=>h.elim
 |_::_,[],h=>h.elim
theorem JG{A:ak}{w:World}:∀{ls:List ab} {vs:List Value},a9 A ls vs w->c6 A (pD ls) vs w
 |[],[],_=>trivial
 |l::ls,v::vs,h=>⟨h.1,JG h.2⟩
 |[],_::_,h=>h.elim
 |_::_,[],h=>h.elim
theorem c6.append{A:ak}{w:World}{ys:List V}{us:List Value}(h2:c6 A ys us w):∀{xs:List V} {vs:List Value},c6 A xs vs w->c6 A (xs++ys) (vs++us) w
 |[],[],_=>h2
 |x::xs,v::vs,h=>⟨h.1,c6.append h2 h.2⟩
 |[],_::_,h=>h.elim
 |_::_,[],h=>h.elim
section
variable {P:Program}{ops:Array Oper}{X:List Nat}{o:Oper}{Γ:aA}{H:Hp}
theorem Ll{f:Nat}{captured:Array Operand}(ls:List ab)(ho:o.op = .makeFunc (.func f) #[] captured)(hc:gA Γ captured.toList=some (pD ls))(hcl:bW ls=true:=by rfl):Je P ops o Γ H (some (D.rep (uY f ls))) H:=by
 intro w0 A0 N Γ2 a w Q K hs hN hSt hK;obtain⟨E,hG⟩:=hSt;have hargs:=mc (Γ:=Γ) (E:=E) (a:=a) (w:=w) captured.toList (pD ls) (fun x hx d hd=>(bY hs hG (x:=x) (by rw[ho];simpa[Op.operands] using hx) hd).2) hc;refine gh (v:=.func (.func f) #[] (captured.map a.eval)) (w':=w) ?_ (hK _ _ ⟨E,hG.put (fun d hd=>by cases hd;exact⟨trivial,(captured.map a.eval).toList,by rw[Y5],(Gq (by simpa using hargs)).pure hcl⟩) hN⟩);simp[execOp,ho,Instr.makeFunc]
theorem Xa{f:Nat}{x:Operand}{args:Array Operand}{tys:Array TypeId}{xs:List V}{ls:List ab}{y:R}(ho:o.op = .call { callee:=.value x,args:=args,argTypes:=tys })(hx:ao Γ x=some (D.rep (uY f ls)))(hf:aD P f)
  (hxs:gA Γ args.toList=some xs) (hspec:ar P f (xs++pD ls) y) (hcl:fq xs=true:=by rfl):Je P ops o Γ H (some y.lG) H:=by
 intro w0 A0 N Γ2 a w Q K hs hN hSt hK;obtain⟨E,hG⟩:=hSt;obtain⟨fn,hfn,hb,hn⟩:=hf;obtain⟨cs,hxv,hcs⟩:=(bY hs hG (x:=x) (by rw[ho];simp[Op.operands,Call.operands]) hx).2;have hargs:=mc (Γ:=Γ) (E:=E) (a:=a) (w:=w) args.toList xs (fun x hx d hd=>(bY hs hG (x:=x) (by rw[ho];simp[Op.operands,Call.operands];exact .inr (by simpa using hx)) hd).2) hxs;have hrun:(execOp a.eval o).run P w = .ok (.enter f (args.map a.eval++cs.toArray)) w:=by
  have hn':¬fn.name = "runtime.NumGoroutine":=by simpa using hn
  have hb':¬fn.body=none:=by intro e;rw[e] at hb;simp at hb
  simp[execOp,ho,resolve,Deferred.ofValue,invoke,callFunc,hfn,hn',hb',hxv]
 unfold Oper.wp;rw[hrun,Ze];have hc:=hspec w ((args.map a.eval).toList++cs) E.A.c hG.below.now hG.bc ((JG hcs).append (by simpa using hargs.pure hcl));rw[show((args.map a.eval).toList++cs).toArray=args.map a.eval++cs.toArray from by apply YC.1;simp] at hc;refine Zg hc ?_;rintro e w' ⟨v,rfl,hy,hbel⟩;exact hK _ _ ⟨_,(hG.grow hbel).put (fun d hd=>by cases hd;exact⟨R.wK,R.wL (R.cU (sm _ _ _) hy)⟩) hN⟩
end
def I9(P:Program)(t:Nat):Option (List (Bool×Nat×Nat)):=
 match P.underlying t with
 |some (.struct fs)=>some (fs.toList.map fun f=>(f.name == "_",f.offset,f.type))
 |_=>none
structure wh(P:Program)(t ti:Nat):Prop where
 sG:I9 P t=some [(false,0,ti),(false,1,ti),(false,2,ti),(false,3,ti)]
 int:P.underlying ti=some (.int .i64)
 one:bJ P ti false 1
 held:P.stoodInHeld t=false
 guard:P.eqGuardType P.depth t=false
theorem wh.ex {P:Program} {t ti:Nat} (h:wh P t ti):∃fs:Array Field,P.underlying t=some (.struct fs)/\fs.toList.map (fun f=>(f.name == "_",f.offset,f.type))=[(false,0,ti),(false,1,ti),(false,2,ti),(false,3,ti)]:=by
 have:=h.sG;unfold I9 at this;split at this
 .rename_i fs hu;exact⟨fs,hu,by simpa using this⟩
 .simp at this
theorem N6{P:Program}{w:World}{ti:Nat}(h:bJ P ti false 1)(vs:Array Value)(i:Nat)(v:Value)(hi:vs[i]?=some v):(part ti vs i).run P w = .ok v w:=by
 have e:=h.1
 cases hu:P.underlying ti with
 |none=>rw[hu] at e;simp at e
 |some d=>rw[hu] at e;simp[part,isAgg,run_underlying hu,hi];cases d <;> simp[Dh] at e ⊢
theorem Oa{P:Program}{w:World}{ti:Nat}(h:P.underlying ti=some (.int .i64))(d:Nat)(a b:Int):(Op.equalIn (d+1) ti (.int .i64 a) (.int .i64 b)).run P w = .ok (a == b) w:=by
 simp[Op.equalIn,run_underlying h]
theorem Ob{P:Program}{w:World}{t ti:Nat}(h:wh P t ti)(d:Nat)(a0 a1 a2 a3 b0 b1 b2 b3:Int) :
  (Op.equalIn (d+2) t (.agg #[.int .i64 a0,.int .i64 a1,.int .i64 a2,.int .i64 a3]) (.agg #[.int .i64 b0,.int .i64 b1,.int .i64 b2,.int .i64 b3])).run P w = .ok (a0 == b0&&(a1 == b1&&(a2 == b2&&a3 == b3))) w:=by
 obtain⟨fs,hu,hf⟩:=h.ex;obtain⟨l⟩:=fs;simp only[] at hf;have hl:l.length=4:=by simpa using congrArg List.length hf
 obtain⟨f0,f1,f2,f3,rfl⟩:∃f0 f1 f2 f3,l=[f0,f1,f2,f3]:=by
  match l,hl with
  |[a,b,c,d],_=>exact⟨_,_,_,_,rfl⟩
 simp only[ZP,List.map_nil,za3,XO,and_true] at hf;obtain⟨⟨n0,o0,t0⟩,⟨n1,o1,t1⟩,⟨n2,o2,t2⟩,n3,o3,t3⟩:=hf;have p:=@N6 P w ti h.one;have q:=@Oa P w ti h.int d;rw[Op.equalIn];have e0:¬f0.name = "_":=by simpa using n0
 have e1:¬f1.name = "_":=by simpa using n1
 have e2:¬f2.name = "_":=by simpa using n2
 have e3:¬f3.name = "_":=by simpa using n3
 have pa0:=p #[Value.int .i64 a0,.int .i64 a1,.int .i64 a2,.int .i64 a3] 0 _ rfl;have pa1:=p #[Value.int .i64 a0,.int .i64 a1,.int .i64 a2,.int .i64 a3] 1 _ rfl;have pa2:=p #[Value.int .i64 a0,.int .i64 a1,.int .i64 a2,.int .i64 a3] 2 _ rfl;have pa3:=p #[Value.int .i64 a0,.int .i64 a1,.int .i64 a2,.int .i64 a3] 3 _ rfl;have pb0:=p #[Value.int .i64 b0,.int .i64 b1,.int .i64 b2,.int .i64 b3] 0 _ rfl;have pb1:=p #[Value.int .i64 b0,.int .i64 b1,.int .i64 b2,.int .i64 b3] 1 _ rfl;have pb2:=p #[Value.int .i64 b0,.int .i64 b1,.int .i64 b2,.int .i64 b3] 2 _ rfl;have pb3:=p #[Value.int .i64 b0,.int .i64 b1,.int .i64 b2,.int .i64 b3] 3 _ rfl;have q0:=q a0 b0;have q1:=q a1 b1;have q2:=q a2 b2;have q3:=q a3 b3;clear p q;cases hq0:(a0 == b0)
 .rw[hq0] at q0;simp[run_underlying hu,h.held,e0,o0,t0,pa0,pb0,q0]
 rw[hq0] at q0;cases hq1:(a1 == b1)
 .rw[hq1] at q1;simp[run_underlying hu,h.held,e0,e1,o0,o1,t0,t1,pa0,pa1,pb0,pb1,q0,q1]
 rw[hq1] at q1;cases hq2:(a2 == b2)
 .rw[hq2] at q2;simp[run_underlying hu,h.held,e0,e1,e2,o0,o1,o2,t0,t1,t2,pa0,pa1,pa2,pb0,pb1,pb2,q0,q1,q2]
 rw[hq2] at q2;cases hq3:(a3 == b3)
 .rw[hq3] at q3;simp[run_underlying hu,h.held,e0,e1,e2,e3,o0,o1,o2,o3,t0,t1,t2,t3,pa0,pa1,pa2,pa3,pb0,pb1,pb2,pb3,q0,q1,q2,q3]
 rw[hq3] at q3;simp[run_underlying hu,h.held,e0,e1,e2,e3,o0,o1,o2,o3,t0,t1,t2,t3,pa0,pa1,pa2,pa3,pb0,pb1,pb2,pb3,q0,q1,q2,q3]
def qc(a0 a1 a2 a3 b0 b1 b2 b3:Int):Bool:=a0 == b0&&(a1 == b1&&(a2 == b2&&a3 == b3))
section
variable {P:Program}{ops:Array Oper}{X:List Nat}{o:Oper}{Γ:aA}{H:Hp}
theorem Gp{Γ2:aA}{w0:aJ}{A0:ak}{N:Nat}{H2:Hp}{E:Env}{a:Act}{w:World}(hs:∀s∈o.looksAt ops,look Γ2 s=look Γ s)(hG:Good w0 A0 N Γ2 H2 E a w){x:Operand}(hm:x∈o.op.operands){a0 a1 a2 a3:Int}
  (hx:ao Γ x=some (D.agg [ab.val (.int .i64 a0),ab.val (.int .i64 a1),ab.val (.int .i64 a2),ab.val (.int .i64 a3)])):a.eval x = .agg #[.int .i64 a0,.int .i64 a1,.int .i64 a2,.int .i64 a3]:=by
 obtain⟨cs,h1,h2⟩:=(bY hs hG hm hx).2
 match cs,h2 with
 |[c0,c1,c2,c3],h2=>
  obtain⟨⟨rfl,_⟩,⟨rfl,_⟩,⟨rfl,_⟩,⟨rfl,_⟩,_⟩:=h2;exact h1
theorem Lk{t ti u:Nat}{x y:Operand}{a0 a1 a2 a3 b0 b1 b2 b3:Int}(ho:o.op = .binOp .eql t x y u)(hx:ao Γ x=some (D.agg [ab.val (.int .i64 a0),ab.val (.int .i64 a1),ab.val (.int .i64 a2),ab.val (.int .i64 a3)]))
  (hy:ao Γ y=some (D.agg [ab.val (.int .i64 b0),ab.val (.int .i64 b1),ab.val (.int .i64 b2),ab.val (.int .i64 b3)])) (h:wh P t ti) {d:Bool} (hr:qc a0 a1 a2 a3 b0 b1 b2 b3=d):Jq P ops X o Γ H (D.bool d):=by
 intro w0 A0 N Γ2 H2 E a w hs hX hG;have e1:=Gp hs hG (x:=x) (by rw[ho];simp[Op.operands]) hx;have e2:=Gp hs hG (x:=y) (by rw[ho];simp[Op.operands]) hy;refine⟨trivial,.bool d,?_,rfl,rfl⟩;subst hr;have:=Ob (w:=w) h 9998 a0 a1 a2 a3 b0 b1 b2 b3;simp[execOp,ho,e1,e2,eqGuard,h.guard,binOp,Op.equal,Op.maxDepth,this,qc]
end
section
variable {P:Program}{ops:Array Oper}{Q:Exit->Act->World->Prop}{w0:aJ}{A0:ak}{N:Nat}{Γ:aA}{H:Hp}
theorem Good.PB{E:Env}{a:Act}{w:World}(h:Good w0 A0 N Γ H E a w){s r u sz:Nat}(hs:look Γ s=some (D.own r 0))(hr:H[r]?=some (some ⟨u,[],some sz,none⟩)) :
  ∃E',Good w0 A0 N ((s,some (D.v (V.one (ab.own r 0))))::fk r Γ) (H.set r (some ⟨u,[],some sz,some (.inr (0,some 0))⟩)) E' a w:=by
 have hrl:=(XN.1 hr).1;have bR:∀m,E.A.g r m=none:=by
  intro m
  cases hm:E.A.g r m with
  |none=>rfl
  |some v=>
   obtain⟨e,k,n,q1,q2⟩:=h.gd _ m v hm;rw[hr] at q1;cases q1;simp at q2
 obtain⟨_,vs,hvs,hds⟩:=h.cr s _ hs;have hds:vs=if E.nil r then .slice none 0 0 else .slice (some ⟨E.b r,0,none⟩) 0 (E.cap r-0):=hds;have hone:vs.oneCell'=true:=by rw[hds];split <;> rfl
 let A':ak:=⟨E.A.c,fun i m=>if i=r/\m=0 then some vs else E.A.g i m⟩
 let E':Env:=⟨E.b,E.cap,E.nil,A'⟩
 have hle:ak.le E.A A':=⟨fun x j hx=>hx,fun i m u hu=>by
  show(if i=r/\m=0 then some vs else E.A.g i m)=some u;rw[if_neg]
  .exact hu
  .rintro⟨rfl,rfl⟩;rw[bR] at hu;simp at hu⟩
 have back:∀(j:Nat) (e1:HE),(H.set r (some ⟨u,[],some sz,some (.inr (0,some 0))⟩))[j]?=some (some e1)->(j=r/\e1=⟨u,[],some sz,some (.inr (0,some 0))⟩)\/(j≠r/\H[j]?=some (some e1)):=by
  intro j e1 hj;by_cases hij:r=j
  .subst hij;rw[X7 hrl] at hj;simp only[XL] at hj;exact .inl ⟨rfl,hj.symm⟩
  .rw[X0 hij] at hj;exact .inr ⟨fun e=>hij e.symm,hj⟩
 have hden:∀(d:D) (v:Value),d.den E v w->d.den E' v w:=by
  intro d v hd;rcases d with x|xs|⟨i,o⟩|⟨i,q⟩
  .exact V.cU hle hd
  .obtain⟨vs,rfl,hvs⟩:=hd;exact⟨vs,rfl,hvs.mono hle⟩
  .exact hd
  .exact hd
 refine⟨E',⟨h.below,h.bc,h.cE,h.defers,h.size,?_,?_,?_,?_,?_,h.bg⟩⟩
 .intro s' d hs';by_cases e:s=s'
  .subst e;rw[hY] at hs';cases hs';exact⟨trivial,vs,hvs,if_pos ⟨rfl,rfl⟩,hone⟩
  .rw[gH e,rP] at hs';obtain⟨h1,h2⟩:=rW hs';obtain⟨ho,v,hv,hd⟩:=h.cr s' d h1;refine⟨D.kK ho (fun i e1 hi he1 hv1=>⟨e1,?_,hv1⟩),v,hv,hden d v hd⟩;have hir:r≠i:=fun e=>h2 (by rw[hi,e]);rw[X0 hir];exact he1
 .intro j e1 hj;rcases back j e1 hj with⟨rfl,rfl⟩|⟨hij,hj'⟩
  .obtain⟨g1,g2⟩:=h.boxes j _ hr;exact⟨HE.jt hle g1,fun hn=>⟨.inl (g2 hn).1,(g2 hn).2⟩⟩
  .obtain⟨g1,g2⟩:=h.boxes j e1 hj';exact⟨HE.jt hle g1,g2⟩
 .intro j1 j2 e1 e2 g1 g2 n1 n2 h12;have get:∀(j:Nat) (e:HE),(H.set r (some ⟨u,[],some sz,some (.inr (0,some 0))⟩))[j]?=some (some e)->∃e',H[j]?=some (some e'):=by
   intro j e hj;rcases back j e hj with⟨rfl,_⟩|⟨_,hj'⟩
   .exact⟨_,hr⟩
   .exact⟨_,hj'⟩
  obtain⟨e1',k1⟩:=get j1 e1 g1;obtain⟨e2',k2⟩:=get j2 e2 g2;exact h.apart j1 j2 e1' e2' k1 k2 n1 n2 h12
 .intro j e1 m hj hm;rcases back j e1 hj with⟨rfl,rfl⟩|⟨hij,hj'⟩
  .obtain⟨k',hm⟩:=hm;simp only[XL,ZG,XO] at hm;obtain⟨_,rfl⟩:=hm;refine⟨?_,fun m' hm'=>?_,fun hn i hi=>by simp[HE.fz] at hi⟩
   .show(if j=j/\0=0 then some vs else E.A.g j 0)=_;rw[if_pos ⟨rfl,rfl⟩,hds];simp[HE.name,E']
   .show(if j=j/\m'=0 then some vs else E.A.g j m')=none;rw[if_neg (fun e'=>by omega)];exact bR m'
  .obtain⟨q1,q2,q3⟩:=h.kn j e1 m hj' hm;refine⟨?_,fun m' hm'=>?_,q3⟩
   .show(if j=r/\m=0 then some vs else E.A.g j m)=_;rw[if_neg (fun e'=>hij e'.1),q1];rfl
   .show(if j=r/\m'=0 then some vs else E.A.g j m')=none;rw[if_neg (fun e'=>hij e'.1)];exact q2 m' hm'
 .intro j m v hg;by_cases hj:j=r
  .subst hj;exact⟨⟨u,[],some sz,some (.inr (0,some 0))⟩,0,0,X7 hrl,rfl⟩
  .have hg:(if j=r/\m=0 then some vs else E.A.g j m)=some v:=hg;rw[if_neg (fun e'=>hj e'.1)] at hg;obtain⟨e1,k1,n1,q1,q2⟩:=h.gd j m v hg;exact⟨e1,k1,n1,by rw[X0 (fun e=>hj e.symm)];exact q1,q2⟩
theorem qp{l:List Oper}(s r:Nat){u sz:Nat}(hs:look Γ s=some (D.own r 0))(hr:H[r]?=some (some ⟨u,[],some sz,none⟩))
  (h:Tl P ops Q w0 A0 N ((s,some (D.v (V.one (ab.own r 0))))::fk r Γ) (H.set r (some ⟨u,[],some sz,some (.inr (0,some 0))⟩)) l):Tl P ops Q w0 A0 N Γ H l:=
 fun a w hSt=>let ⟨_,g⟩:=hSt;let ⟨E',g'⟩:=g.PB hs hr;h a w ⟨E',g'⟩
end
section
variable {P:Program}{ops:Array Oper}{X:List Nat}{o:Oper}{Γ:aA}{H:Hp}
theorem W1{x:Operand}{s f fo sz:Nat}{ls ls':List ab}(ho:o.op = .fieldAddr s x f)(hx:ao Γ x=some (D.rep (eR ls)))(hf:p6 P s f=some (fo,sz))(hsz:Nat.beq sz 0=false)(hls:(ls.drop fo).take sz=ls') :
  Jq P ops X o Γ H (D.rep (eR ls')):=by
 subst hls;intro w0 A0 N Γ2 H2 E a w hs hX hG;obtain⟨h1,v,h2,ad,h3,h4,h5⟩:=Lj (X:=X) (H:=H) ho hx hf hsz w0 A0 N Γ2 H2 E a w hs hX hG;refine⟨h1,v,h2,ad,h3,h4,fun i l hi=>h5 i l ?_⟩;rw[YS] at hi;split at hi
 .exact hi
 .simp at hi
end
section
variable {P:Program}{ops:Array Oper}{o:Oper}{w0:aJ}{A0:ak}{N:Nat}{Γ:aA}{H:Hp}
theorem Good.Vl{E:Env}{a:Act}{w:World}(h:Good w0 A0 N Γ H E a w){r u:Nat}(sz:Nat)(hr:H[r]?=some (some ⟨u,[],none,none⟩))(hno:∀s d,look Γ s=some d->d.nm≠some r) :
  ∃E',Good w0 A0 N Γ (H.set r (some ⟨u,[],some sz,some (.inr (0,some 0))⟩)) E' a w/\E'.A.g r 0=some (.slice (some ⟨E.b r,0,none⟩) 0 0):=by
 have hrl:=(XN.1 hr).1;have bR:∀m,E.A.g r m=none:=by
  intro m
  cases hm:E.A.g r m with
  |none=>rfl
  |some v=>
   obtain⟨e,k,n,q1,q2⟩:=h.gd _ m v hm;rw[hr] at q1;cases q1;simp at q2
 obtain⟨⟨hnil,cs,hcs,hden0⟩,hmine⟩:=h.boxes r _ hr;have hcs0:cs=[]:=by have:=hden0.length;exact X5 this
 subst hcs0
 let vs:Value:=.slice (some ⟨E.b r,0,none⟩) 0 0
 let A':ak:=⟨E.A.c,fun i m=>if i=r/\m=0 then some vs else E.A.g i m⟩
 let E':Env:=⟨E.b,fun j=>if j=r then 0 else E.cap j,E.nil,A'⟩
 have hle:ak.le E.A A':=⟨fun x j hx=>hx,fun i m u hu=>by
  show(if i=r/\m=0 then some vs else E.A.g i m)=some u;rw[if_neg]
  .exact hu
  .rintro⟨rfl,rfl⟩;rw[bR] at hu;simp at hu⟩
 have back:∀(j:Nat) (e1:HE),(H.set r (some ⟨u,[],some sz,some (.inr (0,some 0))⟩))[j]?=some (some e1)->(j=r/\e1=⟨u,[],some sz,some (.inr (0,some 0))⟩)\/(j≠r/\H[j]?=some (some e1)):=by
  intro j e1 hj;by_cases hij:r=j
  .subst hij;rw[X7 hrl] at hj;simp only[XL] at hj;exact .inl ⟨rfl,hj.symm⟩
  .rw[X0 hij] at hj;exact .inr ⟨fun e=>hij e.symm,hj⟩
 refine⟨E',⟨h.below,h.bc,h.cE,h.defers,h.size,?_,?_,?_,?_,?_,h.bg⟩,if_pos ⟨rfl,rfl⟩⟩
 .intro s' d hs';obtain⟨ho,v,hv,hd⟩:=h.cr s' d hs';have hn:=hno s' d hs';refine⟨D.kK ho (fun i e1 hi he1 hv1=>⟨e1,?_,hv1⟩),v,hv,?_⟩
  .have hir:r≠i:=fun e=>hn (by rw[hi,e]);rw[X0 hir];exact he1
  .rcases d with x|xs|⟨i,o⟩|⟨i,q⟩
   .exact V.cU hle hd
   .obtain⟨vs,rfl,hvs⟩:=hd;exact⟨vs,rfl,hvs.mono hle⟩
   .exact hd
   .have hir:i≠r:=fun e=>hn (by rw[<-e];rfl);simp only[D.den,E',if_neg hir] at hd ⊢;exact hd
 .intro j e1 hj;rcases back j e1 hj with⟨rfl,rfl⟩|⟨hij,hj'⟩
  .refine⟨?_,fun hn=>⟨.inl (hmine hn).1,(hmine hn).2⟩⟩;unfold HE.ok;have hn':E'.nil j=false:=hnil;simp only[hn'];exact⟨by show(if j=j then 0 else _)<=_;rw[if_pos rfl];exact XS _,[],[],by simpa using hcs,by show([]:List Value).length=(if j=j then 0 else _)*sz;rw[if_pos rfl];simp,trivial⟩
  .obtain⟨g1,g2⟩:=h.boxes j e1 hj';refine⟨?_,g2⟩;have g3:=HE.jt hle g1;unfold HE.ok at g3 ⊢;simp only[E',if_neg hij] at g3 ⊢;exact g3
 .intro j1 j2 e1 e2 g1 g2 n1 n2 h12;have get:∀(j:Nat) (e:HE),(H.set r (some ⟨u,[],some sz,some (.inr (0,some 0))⟩))[j]?=some (some e)->∃e',H[j]?=some (some e'):=by
   intro j e hj;rcases back j e hj with⟨rfl,_⟩|⟨_,hj'⟩
   .exact⟨_,hr⟩
   .exact⟨_,hj'⟩
  obtain⟨e1',k1⟩:=get j1 e1 g1;obtain⟨e2',k2⟩:=get j2 e2 g2;exact h.apart j1 j2 e1' e2' k1 k2 n1 n2 h12
 .intro j e1 m hj hm;rcases back j e1 hj with⟨rfl,rfl⟩|⟨hij,hj'⟩
  .obtain⟨k',hm⟩:=hm;simp only[XL,ZG,XO] at hm;obtain⟨_,rfl⟩:=hm;refine⟨?_,fun m' hm'=>?_,fun hn i hi=>by simp[HE.fz] at hi⟩
   .show(if j=j/\0=0 then some vs else E.A.g j 0)=_;rw[if_pos ⟨rfl,rfl⟩];simp[HE.name,E',hnil,vs]
   .show(if j=j/\m'=0 then some vs else E.A.g j m')=none;rw[if_neg (fun e'=>by omega)];exact bR m'
  .obtain⟨q1,q2,q3⟩:=h.kn j e1 m hj' hm;refine⟨?_,fun m' hm'=>?_,q3⟩
   .show(if j=r/\m=0 then some vs else E.A.g j m)=_;rw[if_neg (fun e'=>hij e'.1),q1];unfold HE.name;simp only[E',if_neg hij]
   .show(if j=r/\m'=0 then some vs else E.A.g j m')=none;rw[if_neg (fun e'=>hij e'.1)];exact q2 m' hm'
 .intro j m v hg;by_cases hj:j=r
  .subst hj;exact⟨⟨u,[],some sz,some (.inr (0,some 0))⟩,0,0,X7 hrl,rfl⟩
  .have hg:(if j=r/\m=0 then some vs else E.A.g j m)=some v:=hg;rw[if_neg (fun e'=>hj e'.1)] at hg;obtain⟨e1,k1,n1,q1,q2⟩:=h.gd j m v hg;exact⟨e1,k1,n1,by rw[X0 (fun e=>hj e.symm)];exact q1,q2⟩
theorem Xb{t u sz i:Nat}{b:Bool}(ho:o.op = .buildSlice t 0 #[])(ht:P.underlying t=some (.slice u))(hu:bJ P u b sz)(hi:H[i]?=some none) :
  Je P ops o Γ H (some (D.v (V.one (ab.own i 0)))) (H.set i (some ⟨u,[],some sz,some (.inr (0,some 0))⟩)):=by
 intro w0 A0 N Γ2 a w Q K hs hN hSt hK;obtain⟨E,hG⟩:=hSt;have hil:=(XN.1 hi).1;have hno:∀s d,look Γ2 s=some d->d.nm≠some i:=by
  intro s d hsd hnm;obtain⟨e,he,_⟩:=D.uj.1 (hG.cr s d hsd).1 i hnm;rw[hi] at he;simp at he
 obtain⟨E',hG',hb,hA⟩:=hG.Dg (t:=u) (ls:=[]) (cs:=[]) hi trivial;obtain⟨E2,hG2,hg2⟩:=hG'.Vl sz (X7 hil) hno;rw[List.set_set] at hG2;refine gh (v:=.slice (some ⟨w.heap.size,0,none⟩) 0 0) (w':=w.alloc (.cells [].toArray u)) ?_ (hK _ _ ⟨E2,hG2.put (fun d hd=>?_) hN⟩)
 .simp[execOp,ho,Instr.buildSlice,run_underlying ht,hu.sizeOf,Instr.fill,newRow,show Array.range 0 = #[] from rfl]
 .cases hd;exact⟨trivial,by rw[<-hb];exact hg2,rfl⟩
theorem we{t u sz i:Nat}{b:Bool}(ho:o.op = .buildSlice t 0 #[])(ht:P.underlying t=some (.slice u))(hu:bJ P u b sz)(hi:H[i]?=some none) :
  ∀H2:Hp,H2[i]?=H[i]?->Je P ops o Γ H2 (some (D.v (V.one (ab.own i 0)))) (H2.set i (some ⟨u,[],some sz,some (.inr (0,some 0))⟩)):=fun _ hH=>Xb ho ht hu (hH.trans hi)
end
section
variable {P:Program}{ops:Array Oper}{X:List Nat}{o:Oper}{Γ:aA}{H:Hp}
theorem WZ{x:Operand}{s f fo t sz:Nat}{ls ls':List ab}(ho:o.op = .field s x f)(hx:ao Γ x=some (D.agg ls))(hf:vj P s f=some (fo,t))(ht:bJ P t true sz)(hls:(ls.drop fo).take sz=ls') :
  Jq P ops X o Γ H (D.agg ls'):=by
 unfold vj at hf;split at hf
 .rename_i fields hu
  cases hfl:fields[f]? with
  |none=>rw[hfl] at hf;simp at hf
  |some fl=>
   rw[hfl] at hf;simp only[Y0,XL,XO] at hf;obtain⟨h1,h2⟩:=hf;subst h2;exact WY ho hx hu hfl h1 ht hls
 .simp at hf
end
structure td where
 fo:List ((Nat×Nat)×Nat×Nat)
 ty:List (Nat×Bool×Nat)
def lr{α:Type}(p:α->Prop):List α->Prop
 |[]=>True
 |a::l=>p a/\lr p l
structure td.Ok(P:Program)(F:td):Prop where
 fo:lr (fun e=>p6 P e.1.1 e.1.2=some e.2) F.fo
 ty:lr (fun e=>bJ P e.1 e.2.1 e.2.2) F.ty
def cL{β:Type}(k:Nat):List (Nat×β)->Option β
 |[]=>none
 |(a,b)::l=>bif Nat.beq a k then some b else cL k l
def oE{β:Type}(k j:Nat):List ((Nat×Nat)×β)->Option β
 |[]=>none
 |((a,c),b)::l=>bif Nat.beq a k&&Nat.beq c j then some b else oE k j l
theorem eh{β:Type}{p:Nat×β->Prop}{k:Nat}{b:β}:∀{l:List (Nat×β)},lr p l->cL k l=some b->p (k,b)
 |[],_,h=>by simp[cL] at h
 |(a,c)::l,hp,h=>by
  unfold cL at h;cases hb:Nat.beq a k
  .rw[hb] at h;exact eh hp.2 h
  .rw[hb] at h;have:=XT hb;simp only[cond_true,XL] at h;subst this;subst h;exact hp.1
theorem uX{β:Type}{p:(Nat×Nat)×β->Prop}{k j:Nat}{b:β}:∀{l:List ((Nat×Nat)×β)},lr p l->oE k j l=some b->p ((k,j),b)
 |[],_,h=>by simp[oE] at h
 |((a,c),d)::l,hp,h=>by
  unfold oE at h;cases hb:(Nat.beq a k&&Nat.beq c j)
  .rw[hb] at h;exact uX hp.2 h
  .rw[hb] at h;rw[XQ] at hb;have h1:=XT hb.1;have h2:=XT hb.2;simp only[cond_true,XL] at h;subst h1;subst h2;subst h;exact hp.1
def oh:Operand->Bool
 |.const (.slice none _ _)=>false
 |_=>true
def uG(F:td)(X:List Nat)(H:Hp)(t i off:Nat):Option D:=
 bif X.contains i then none else
 match H[i]? with
 |some (some e)=>
  match cL t F.ty with
  |some (true,n)=>bif Nat.blt 0 n&&Nat.ble (off+n) e.ls.length then some (D.agg ((e.ls.drop off).take n)) else none
  |some (false,n)=>
   match e.ls[off]? with
   |some l=>bif Nat.beq n 1 then some (D.v (V.one l)) else none
   |none=>none
  |none=>none
 |_=>none
def Ae(F:td)(X:List Nat)(Γ:aA)(H:Hp):Op->Option D
 |.move x=>bif oh x then ao Γ x else none
 |.assign x=>bif oh x then ao Γ x else none
 |.extract x i=>
  match ao Γ x with
  |some (.inr (.inl xs))=>match xs[i]? with
   |some y=>some (.inl y)
   |none=>none
  |_=>none
 |.pick c x y=>
  match ao Γ c with
  |some (.inl (.inl (.inl (.bool b))))=>match b with
   |true=>ao Γ x
   |false=>ao Γ y
  |_=>none
 |.unOp .not _ x=>
  match ao Γ x with
  |some (.inl (.inl (.inl (.bool b))))=>some (D.bool (!b))
  |_=>none
 |.fieldAddr s x f=>
  match ao Γ x with
  |some (.inr (.inr (.inl (i,off))))=>match oE s f F.fo with
   |some (fo,sz)=>bif Nat.beq sz 0 then none else some (D.ptr i (off+fo))
   |none=>none
  |_=>none
 |.load t x=>
  match ao Γ x with
  |some (.inr (.inr (.inl (i,off))))=>uG F X H t i off
  |_=>none
 |.nilCheck x=>
  match ao Γ x with
  |some (.inr (.inr (.inl (i,off))))=>some (D.ptr i off)
  |_=>none
 |_=>none
section
variable {P:Program}{ops:Array Oper}{X:List Nat}{o:Oper}{Γ:aA}{H:Hp}{F:td}
theorem HK(hF:F.Ok P){t i off:Nat}{x:Operand}{d:D}(ho:o.op = .load t x)(hx:ao Γ x=some (D.ptr i off))(h:uG F X H t i off=some d):Jq P ops X o Γ H d:=by
 unfold uG at h;cases hc:X.contains i
 .rw[hc] at h;have hXi:i ∉ X:=fun hm=>by rw[Zq.2 hm] at hc;simp at hc
  simp only[cond_false] at h;split at h
  .rename_i e hi;split at h
   .rename_i n ht;have ht:bJ P t true n:=eh hF.ty ht;cases hn:(Nat.blt 0 n&&Nat.ble (off+n) e.ls.length)
    .rw[hn] at h;simp at h
    .rw[hn] at h;simp only[cond_true,XL] at h;simp only[XQ,ZV,zav] at hn;subst h;exact jC ho hx hi hXi ht hn.1 hn.2 rfl
   .rename_i n ht;have ht:bJ P t false n:=eh hF.ty ht;split at h
    .rename_i l hl;cases hn:Nat.beq n 1
     .rw[hn] at h;simp at h
     .rw[hn] at h;simp only[cond_true,XL] at h;subst h;have:=XT hn;subst this;exact gT ho hx hi hXi ht hl
    .simp at h
   .simp at h
  .simp at h
 .rw[hc] at h;simp at h
theorem Nj(hF:F.Ok P){d:D}(h:Ae F X Γ H o.op=some d):Jq P ops X o Γ H d:=by
 generalize hop:o.op=op at h;unfold Ae at h;split at h
 .rename_i x;cases hn:oh x
  .rw[hn] at h;simp at h
  .rw[hn] at h;exact v5 hop h
 .rename_i x;cases hn:oh x
  .rw[hn] at h;simp at h
  .rw[hn] at h;exact v8 hop h
 .split at h
  .rename_i xs hx;split at h
   .rename_i y hy;simp only[XL] at h;subst h;exact W3 hop hx hy
   .simp at h
  .simp at h
 .split at h
  .rename_i b hc;split at h
   .exact WL hop hc h
   .exact WM hop hc h
  .simp at h
 .split at h
  .rename_i b hx;simp only[XL] at h;subst h;exact DD hop hx rfl
  .simp at h
 .split at h
  .rename_i i off hx;split at h
   .rename_i fo sz hf;have hf:=uX hF.fo hf;cases hz:Nat.beq sz 0
    .rw[hz] at h;simp only[cond_false,XL] at h;subst h;exact DM hop hx hf hz
    .rw[hz] at h;simp at h
   .simp at h
  .simp at h
 .split at h
  .rename_i i off hx;exact HK hF hop hx h
  .simp at h
 .split at h
  .rename_i i off hx;simp only[XL] at h;subst h;exact WN hop hx
  .simp at h
 .simp at h
def iI(ops:Array Oper)(Γ:aA)(o:Oper):Option Bool:=
 match o.guard with
 |none=>some true
 |some (j,want)=>match (ops[j]?).bind (·.dst) with
  |some s=>match dL Γ s with
   |some (.inl (.inl (.inl (.bool b))))=>match b with
    |true=>some want
    |false=>some (!want)
   |some (.inr (.inl []))=>some false
   |_=>none
  |none=>none
theorem SN(h:iI ops Γ o=some false):JO P ops X o Γ H (some (D.aW [])) H:=by
 unfold iI at h;split at h
 .simp at h
 .rename_i j want hgd;split at h
  .rename_i s hs;split at h
   .rename_i b hb;split at h
    .simp only[XL] at h;subst h;exact Lq hgd hs hb
    .simp only[XL] at h;have:want=true:=by cases want <;> simp_all
     subst this;exact Lq hgd hs hb
   .rename_i hb;exact Xk hgd hs hb
   .simp at h
  .simp at h
theorem Xr{tl:List (Option Nat)}{n:Nat}{os:List Oper}{K:aA->Hp->Prop}(h:iI ops Γ o=some false)(hr:cy P ops tl X (n+1) os (ct Γ o.dst (some (D.aW []))) H K):cy P ops tl X n (o::os) Γ H K:=by
 unfold iI at h;split at h
 .simp at h
 .rename_i j want hgd;split at h
  .rename_i s hs;split at h
   .rename_i b hb;split at h
    .simp only[XL] at h;subst h;exact Lv hgd hs hb hr
    .simp only[XL] at h;have:want=true:=by cases want <;> simp_all
     subst this;exact Lv hgd hs hb hr
   .rename_i hb;exact Xp hgd hs hb hr
   .simp at h
  .simp at h
theorem ai{α β:Type}{p:α->β->Prop}:∀a w,p a w->p a w:=fun _ _ h=>h
@[reducible] def au(t:Nat)(ls:List ab):Option HE:=some ⟨t,ls,none,none⟩
@[reducible] def dB(t:Nat)(ls:List ab)(q:Nat):Option HE:=some ⟨t,ls,none,some (.inl q)⟩
@[reducible] def dO{α:Type}(t sz:Nat)(e:El α)(l:List α)(n:Nat):Option HE:=some ⟨t,e.all l,some sz,some (.inr ((e.all l).length,some n))⟩
theorem cN{Q:Exit->Act->World->Prop}{w0:aJ}{A0:ak}{N:Nat}{ex:Exit}(n:Nat)(hn:(H.drop n).all Option.isNone=true)(h:At Q w0 A0 N Γ (H.take n) ex):At Q w0 A0 N Γ H ex:=by
 refine Xu (H.take n) (H.drop n).length ?_ h;have:H.drop n=List.replicate (H.drop n).length none:=by
  refine List.eq_replicate_iff.2 ⟨rfl,fun b hb=>?_⟩;have:=Yz.1 hn b hb;exact zai.1 this
 rw[<-this,YN]
end
end Rc
