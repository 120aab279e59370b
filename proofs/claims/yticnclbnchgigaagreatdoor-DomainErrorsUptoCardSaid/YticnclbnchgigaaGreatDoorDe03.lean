/- Parts of the proof, 3: the texts FwN, FwS, FwO, FwP, FwR, FwT, FwU, as far as they are used. -/
import Derived.Test.YticnclbnchgigaaGreatDoorDe02
set_option linter.unusedSimpArgs false
set_option linter.unusedVariables false
set_option maxRecDepth 10000
namespace Rc
open Go Go.RowKit
section
variable {w0:Frm}{A0:Foot}{N:Nat}{Γ:Gam}{H:Hp}{E:Env}{a:Act}{w:World}
theorem Good.reslot(h:Good w0 A0 N Γ H E a w){s:Nat}{v:Value}{d:D}(hv:zhk w0 a s=some v)(ho:d.okn H)(hd:d.den E v w):Good w0 A0 N ((s,some d)::Γ) H E a w:=by
 refine⟨h.below,h.foot,h.foot0,h.defers,h.size,?_,h.boxes,h.apart,h.kn,h.gd,h.old⟩;intro s' d' hs';by_cases e:s=s'
 .subst e;rw[zar] at hs';cases hs';exact⟨ho,v,hv,hd⟩
 .rw[zaB e] at hs';exact h.slots s' d' hs'
theorem Good.regrowG(h:Good w0 A0 N Γ H E a w){r n k sz:Nat}{e:HE}{w':World}{ls':List Leaf}{b' cap':Nat}{nl':Bool}{v':Value}(A2:zbG)(hA2:∀x j,A2 x j->x<w'.heap.size/\(E.A x j\/w.heap.size<=x\/(E.nil r=false/\x=E.b r)))(hi:H[r]?=some (some e))(hp:e.pin=some (.inr (k,some n)))(hr:e.row=some sz)
  (hbel:w0.Bel w') (hsize:w.heap.size<=w'.heap.size) (hkept:kept E.A w w') (hoth:∀(j:Nat) (e':HE),j≠r->H[j]?=some (some e')->E.nil j=false->w'.heap[E.b j]?=w.heap[E.b j]?)
  (hrow:if nl'=true then ls'=[]/\cap'=0 else cap'<=maxLen/\∃cs rest:List Value,w'.heap[b']?=some (.cells (cs++rest).toArray e.t (0,0))/\(cs++rest).length=cap'*sz/\denL ⟨fun x j=>E.A x j\/A2 x j,E.A.g⟩ ls' cs w')
  (hmine:nl'=false->w0.w.heap.size<=b'\/w0.X b') (hfree:nl'=false->∀j,ls'.length<=j->¬E.A b' j/\¬A2 b' j) (hap:nl'=false->∀(j:Nat) (e':HE),j≠r->H[j]?=some (some e')->E.nil j=false->E.b j≠b')
  (hv:v'=if nl'=true then .slice none 0 0 else .slice (some ⟨b',0,none⟩) (ls'.length/sz) cap') :
  ∃E',Good w0 A0 N Γ (H.set r (some ⟨e.t,ls',some sz,some (.inr (ls'.length,some (n+1)))⟩)) E' a w'/\E'.A.g r (n+1)=some v'/\Foot.le E.A E'.A/\∀x j,A2 x j->E'.A x j:=by
 have hil:=(zxc.1 hi).1;have hver:e.ver=true:=by unfold HE.ver;rw[hp]
 obtain⟨kn1,kn2,kn3⟩:=h.kn r e n hi ⟨k,hp⟩
 let A':Foot:=⟨fun x j=>E.A x j\/A2 x j\/(nl'=false/\x=b'/\j<ls'.length),fun i m=>if i=r/\m=n+1 then some v' else E.A.g i m⟩
 let E':Env:=⟨fun j=>if j=r then b' else E.b j,fun j=>if j=r then cap' else E.cap j,fun j=>if j=r then nl' else E.nil j,A'⟩
 have hle:Foot.le E.A A':=⟨fun x j hx=>.inl hx,fun i m u hu=>by
  show(if i=r/\m=n+1 then some v' else E.A.g i m)=some u;rw[if_neg]
  .exact hu
  .rintro⟨rfl,rfl⟩;rw[kn2 (n+1) (by omega)] at hu;simp at hu⟩
 have back:∀(j:Nat) (e1:HE),(H.set r (some ⟨e.t,ls',some sz,some (.inr (ls'.length,some (n+1)))⟩))[j]?=some (some e1)->(j=r/\e1=⟨e.t,ls',some sz,some (.inr (ls'.length,some (n+1)))⟩)\/(j≠r/\H[j]?=some (some e1)):=by
  intro j e1 hj;by_cases hij:r=j
  .subst hij;rw[zxs hil] at hj;simp only[zxd] at hj;exact .inl ⟨rfl,hj.symm⟩
  .rw[zxp hij] at hj;exact .inr ⟨fun e=>hij e.symm,hj⟩
 have hblt:nl'=false->b'<w'.heap.size:=by
  intro hn;rw[if_neg (by simp[hn])] at hrow;obtain⟨_,cs,rest,hc,_⟩:=hrow;exact(zxz.1 hc).1
 refine⟨E',⟨hbel,?_,?_,h.defers,h.size,?_,?_,?_,?_,?_,h.old.keep hle.1 hkept⟩,?_,hle,fun x j hx=>.inr (.inl hx)⟩
 .intro x j hx;rcases hx with hx|hx|⟨hn,rfl,_⟩
  .exact zxj (h.foot x j hx) hsize
  .exact(hA2 x j hx).1
  .exact hblt hn
 .intro x j hx;rcases hx with hx|hx|⟨hn,rfl,_⟩
  .exact h.foot0 x j hx
  .rcases(hA2 x j hx).2 with hx|hx|⟨hn,rfl⟩
   .exact h.foot0 x j hx
   .exact .inr (.inl (zxk h.below.size hx))
   .have:=((h.boxes r e hi).2 hn).1;rw[hp] at this;exact .inr this
  .exact .inr (hmine hn)
 .intro s d hs;obtain⟨ho,v,hv',hd⟩:=h.slots s d hs;have hno:∀j,d.nm=some j->j≠r:=by
   intro j hj e';subst e';obtain⟨e1,h1,h2⟩:=D.okn_iff.1 ho j hj;rw[hi] at h1;cases h1;rw[hver] at h2;simp at h2
  refine⟨D.okn_mono ho fun j e1 hj h1 h2=>⟨e1,by rw[zxp (fun e'=>hno j hj e'.symm)];exact h1,h2⟩,v,hv',?_⟩;have hd:=D.den_keep hkept hd;rcases d with x|xs|⟨i,o⟩|⟨i,q⟩
  .exact V.den_mono hle hd
  .obtain⟨vs,rfl,hvs⟩:=hd;exact⟨vs,rfl,hvs.mono hle⟩
  .have:=hno i rfl;simp only[D.den,E',if_neg this] at hd ⊢;exact hd
  .have:=hno i rfl;simp only[D.den,E',if_neg this] at hd ⊢;exact hd
 .intro j e1 hj;rcases back j e1 hj with⟨rfl,rfl⟩|⟨hij,hj'⟩
  .refine⟨?_,fun hn=>?_⟩
   .unfold HE.ok;simp only[E',if_true];by_cases hn:nl'=true
    .rw[if_pos hn] at hrow ⊢;exact hrow
    .rw[if_neg hn] at hrow ⊢;obtain⟨h1,cs,rest,h2,h3,h4⟩:=hrow;have hle2:Foot.le ⟨fun x j=>E.A x j\/A2 x j,E.A.g⟩ A':=⟨fun x j hx=>by
      have hx:E.A x j\/A2 x j:=hx;rcases hx with hx|hx
      .exact .inl hx
      .exact .inr (.inl hx),hle.2⟩
     exact⟨h1,cs,rest,h2,h3,h4.mono hle2⟩
   .simp only[E',if_true] at hn ⊢;refine⟨hmine hn,fun i hi' hA=>?_⟩;have hi':ls'.length<=i:=hi';rcases hA with hA|hA|⟨_,_,hlt⟩
    .exact(hfree hn i hi').1 hA
    .exact(hfree hn i hi').2 hA
    .omega
  .obtain⟨g1,g2⟩:=h.boxes j e1 hj';refine⟨?_,fun hn=>?_⟩
   .have g3:=HE.ok_grow hle (HE.ok_keep hkept (fun hn=>hoth j e1 hij hj' hn) g1);unfold HE.ok at g3 ⊢;simp only[E',if_neg hij] at g3 ⊢;exact g3
   .simp only[E',if_neg hij] at hn ⊢;refine⟨(g2 hn).1,fun i hi' hA=>?_⟩;rcases hA with hA|hA|⟨hn',hb,_⟩
    .exact(g2 hn).2 i hi' hA
    .rcases(hA2 _ _ hA).2 with hx|hx|⟨hnr,hx⟩
     .exact(g2 hn).2 i hi' hx
     .have:=HE.ok_lt g1 hn;omega
     .exact h.apart j r e1 e hj' hi hn hnr hij hx
    .exact hap hn' j e1 hij hj' hn hb
 .intro j1 j2 e1 e2 g1 g2 n1 n2 h12;rcases back j1 e1 g1 with⟨rfl,rfl⟩|⟨hj1,g1'⟩ <;> rcases back j2 e2 g2 with⟨rfl,rfl⟩|⟨hj2,g2'⟩
  .exact absurd rfl h12
  .simp only[E',if_true,if_neg hj2] at n1 n2 ⊢;exact fun e'=>hap n1 j2 e2 hj2 g2' n2 e'.symm
  .simp only[E',if_true,if_neg hj1] at n1 n2 ⊢;exact hap n2 j1 e1 hj1 g1' n1
  .simp only[E',if_neg hj1,if_neg hj2] at n1 n2 ⊢;exact h.apart j1 j2 e1 e2 g1' g2' n1 n2 h12
 .intro j e1 m hj hm;rcases back j e1 hj with⟨rfl,rfl⟩|⟨hij,hj'⟩
  .obtain⟨k',hm⟩:=hm;simp only[zxd,Sum.inr.injEq,zxf] at hm;obtain⟨_,rfl⟩:=hm;refine⟨?_,fun m' hm'=>?_,fun hn i hi'=>?_⟩
   .show(if j=j/\n+1=n+1 then some v' else E.A.g j (n+1))=_;rw[if_pos ⟨rfl,rfl⟩,hv];unfold HE.name;simp only[E',if_true]
   .show(if j=j/\m'=n+1 then some v' else E.A.g j m')=none;rw[if_neg (fun e'=>by omega)];exact kn2 m' (by omega)
   .simp only[E',if_true] at hn ⊢;exact .inr (.inr ⟨hn,rfl,hi'⟩)
  .obtain⟨q1,q2,q3⟩:=h.kn j e1 m hj' hm;refine⟨?_,fun m' hm'=>?_,fun hn i hi'=>?_⟩
   .show(if j=r/\m=n+1 then some v' else E.A.g j m)=_;rw[if_neg (fun e'=>hij e'.1),q1];unfold HE.name;simp only[E',if_neg hij]
   .show(if j=r/\m'=n+1 then some v' else E.A.g j m')=none;rw[if_neg (fun e'=>hij e'.1)];exact q2 m' hm'
   .simp only[E',if_neg hij] at hn ⊢;exact .inl (q3 hn i hi')
 .intro j m v hg;by_cases hj:j=r
  .subst hj;exact⟨_,_,_,zxs hil,rfl⟩
  .have hg:(if j=r/\m=n+1 then some v' else E.A.g j m)=some v:=hg;rw[if_neg (fun e'=>hj e'.1)] at hg;obtain⟨e1,k1,n1,q1,q2⟩:=h.gd j m v hg;exact⟨e1,k1,n1,by rw[zxp (fun e'=>hj e'.symm)];exact q1,q2⟩
 .show(if r=r/\n+1=n+1 then some v' else E.A.g r (n+1))=some v';rw[if_pos ⟨rfl,rfl⟩]
theorem Good.regrow(h:Good w0 A0 N Γ H E a w){r n k sz:Nat}{e:HE}{w':World}{ls':List Leaf}{b' cap':Nat}{nl':Bool}{v':Value}(hi:H[r]?=some (some e))(hp:e.pin=some (.inr (k,some n)))(hr:e.row=some sz)
  (hbel:w0.Bel w') (hsize:w.heap.size<=w'.heap.size) (hkept:kept E.A w w') (hoth:∀(j:Nat) (e':HE),j≠r->H[j]?=some (some e')->E.nil j=false->w'.heap[E.b j]?=w.heap[E.b j]?)
  (hrow:if nl'=true then ls'=[]/\cap'=0 else cap'<=maxLen/\∃cs rest:List Value,w'.heap[b']?=some (.cells (cs++rest).toArray e.t (0,0))/\(cs++rest).length=cap'*sz/\denL E.A ls' cs w')
  (hmine:nl'=false->w0.w.heap.size<=b'\/w0.X b') (hfree:nl'=false->∀j,ls'.length<=j->¬E.A b' j) (hap:nl'=false->∀(j:Nat) (e':HE),j≠r->H[j]?=some (some e')->E.nil j=false->E.b j≠b')
  (hv:v'=if nl'=true then .slice none 0 0 else .slice (some ⟨b',0,none⟩) (ls'.length/sz) cap') :
  ∃E',Good w0 A0 N Γ (H.set r (some ⟨e.t,ls',some sz,some (.inr (ls'.length,some (n+1)))⟩)) E' a w'/\E'.A.g r (n+1)=some v':=by
 obtain⟨E',h1,h2,_⟩:=h.regrowG (fun _ _=>False) (fun _ _ hx=>hx.elim) hi hp hr hbel hsize hkept hoth (by
  by_cases hn:nl'=true
  .rw[if_pos hn] at hrow ⊢;exact hrow
  .rw[if_neg hn] at hrow ⊢;obtain⟨h1,cs,rest,h2,h3,h4⟩:=hrow;exact⟨h1,cs,rest,h2,h3,h4.mono ⟨fun x j hx=>.inl hx,fun _ _ _ hx=>hx⟩⟩) hmine (fun hn j hj=>⟨hfree hn j hj,fun hx=>hx⟩) hap hv
 exact⟨E',h1,h2⟩
theorem Good.row_rep(h:Good w0 A0 N Γ H E a w){r n q sz k:Nat}{e:HE}{v:Value}(hi:H[r]?=some (some e))(hp:e.pin=some (.inr (k,some n)))(hk:k=e.ls.length)(hr:e.row=some sz)(hl:e.ls.length=q*sz)(hsz:0<sz)(hcl:clL e.ls=true)
  (hv:E.A.g r n=some v):(zal q e.ls).P E.A.c v w:=by
 obtain⟨h1,_,h2⟩:=h.kn r e n hi ⟨k,hp⟩;rw[hv] at h1;simp only[zxd] at h1;obtain⟨g1,_⟩:=h.boxes r e hi;unfold HE.name at h1;rw[hr] at h1;simp only at h1;rw[hl,Nat.mul_div_cancel q hsz] at h1;unfold HE.ok at g1;rw[hr] at g1;have hfz:e.fz=e.ls.length:=by unfold HE.fz;rw[hp];exact hk
 cases hn:E.nil r
 .simp only[hn,zxw,if_false] at g1 h1;obtain⟨hm,cs,rest,hc,hlen,hcd⟩:=g1;have hlc:=hcd.length;refine⟨some ⟨E.b r,0,none⟩,E.cap r,h1,?_,hm,fun h=>by simp at h,fun ad had=>?_⟩
  .have:q*sz<=E.cap r*sz:=by rw[<-hl,<-hlen,<-hlc];simp
   exact Nat.le_of_mul_le_mul_right this hsz
  .cases had;refine⟨fun _=>rfl,fun j l hj=>?_⟩;have hjl:=(zxc.1 hj).1;obtain⟨u,hu,hud⟩:=(hcd.pure hcl).get hj;have hju:=(zxc.1 hu).1;simp only[Nat.zero_add];exact⟨h2 hn j (by omega),u,zbW (o:=j) hc (v:=u) (by rw[zxi hju];exact hu),hud⟩
 .simp only[hn,if_true] at g1 h1;obtain⟨g3,_⟩:=g1;have hn0:q=0:=by
   rw[g3] at hl;rcases Nat.mul_eq_zero.1 hl.symm with h|h
   .exact h
   .omega
  subst hn0;rw[g3,h1];exact zca (Foot.of E.A.c) w
end
section
variable {P:Program}{ops:Array Oper}{Q:Exit->Act->World->Prop}{w0:Frm}{A0:Foot}{N:Nat}{Γ:Gam}{H:Hp}
def subL(l0 l1:Leaf):List Leaf->List Leaf->Prop
 |[],[]=>True
 |l::ls,l'::ls'=>(l=l'\/(l=l0/\l'=l1))/\subL l0 l1 ls ls'
 |[],_::_=>False
 |_::_,[]=>False
theorem subL.den{A A':Foot}{w:World}{l0 l1:Leaf}(hle:Foot.le A A')(hr:∀v,l0.den A v w->l1.den A' v w):∀{ls ls':List Leaf} {cs:List Value},subL l0 l1 ls ls'->denL A ls cs w->denL A' ls' cs w
 |[],[],[],_,_=>trivial
 |[],[],_::_,_,h=>h.elim
 |l::ls,l'::ls',[],_,h=>h.elim
 |l::ls,l'::ls',c::cs,h,hd=>by
  refine⟨?_,subL.den hle hr h.2 hd.2⟩;rcases h.1 with h1|⟨h1,h2⟩
  .rw[<-h1];exact Leaf.den_mono hle hd.1
  .rw[h2];exact hr c (h1 ▸ hd.1)
 |[],_::_,_,h,_=>h.elim
 |_::_,[],_,h,_=>h.elim
def subV(l0 l1:Leaf):V->V->Prop
 |.inl l,.inl l'=>l=l'\/(l=l0/\l'=l1)
 |.inr ls,.inr ls'=>subL l0 l1 ls ls'
 |_,_=>False
theorem subV.den{A A':Foot}{w:World}{l0 l1:Leaf}(hle:Foot.le A A')(hr:∀v,l0.den A v w->l1.den A' v w){x x':V}{v:Value}(h:subV l0 l1 x x')(hd:x.den A v w):x'.den A' v w:=by
 cases x with
 |inl l=>
  cases x' with
  |inl l'=>
   rcases h with h1|⟨h1,h2⟩
   .have h1:l=l':=h1;rw[<-h1];exact Leaf.den_mono hle hd
   .have h1:l=l0:=h1;have h2:l'=l1:=h2;rw[h2];exact hr v (h1 ▸ hd)
  |inr ls'=>exact h.elim
 |inr ls=>
  cases x' with
  |inl l'=>exact h.elim
  |inr ls'=>obtain⟨cs,rfl,hc⟩:=hd;exact⟨cs,rfl,subL.den hle hr h hc⟩
structure RowAt(H:Hp)(r n q:Nat)(ls:List Leaf):Prop where
 ex:∃(e:HE) (sz k:Nat),H[r]?=some (some e)/\e.pin=some (.inr (k,some n))/\k=ls.length/\e.row=some sz/\e.ls=ls/\ls.length=q*sz/\0<sz
 cl:clL ls=true
theorem RowAt.mk'{H:Hp}{r n q k sz u:Nat}{ls:List Leaf}(hi:H[r]?=some (some ⟨u,ls,some sz,some (.inr (k,some n))⟩))(hk:k=ls.length)(hl:ls.length=q*sz)(hsz:0<sz)(hcl:clL ls=true):RowAt H r n q ls:=
 ⟨⟨_,sz,k,hi,rfl,hk,rfl,rfl,hl,hsz⟩,hcl⟩
theorem RowAt.den{E:Env}{a:Act}{w:World}{r n q:Nat}{ls:List Leaf}(hR:RowAt H r n q ls)(h:Good w0 A0 N Γ H E a w)(v:Value)(hd:(Leaf.own r n).den E.A v w):(Leaf.rep (zal q ls)).den E.A v w:=by
 obtain⟨⟨e,sz,k,h1,h2,h3,h4,h5,h6,h7⟩,hc⟩:=hR;subst h5;exact h.row_rep h1 h2 h3 h4 h6 h7 hc hd.1
theorem zjU{X:List Nat}{o:Oper}{r n q:Nat}{ls:List Leaf}{x x':V}(h:Jq P ops X o Γ H (D.v x))(hR:RowAt H r n q ls)(hX:r ∉ X)(hs:subV (Leaf.own r n) (Leaf.rep (zal q ls)) x x'):Jq P ops X o Γ H (D.v x'):=by
 intro w0 A0 N Γ2 H2 E a w hs2 hH hG;obtain⟨_,v,hv,hd⟩:=h w0 A0 N Γ2 H2 E a w hs2 hH hG;have hR2:RowAt H2 r n q ls:=by
  obtain⟨⟨e,sz,k,h1,h2,h3,h4,h5,h6,h7⟩,hc⟩:=hR;exact⟨⟨e,sz,k,hH r e hX h1,h2,h3,h4,h5,h6,h7⟩,hc⟩
 exact⟨trivial,v,hv,hs.den (Foot.le.refl _) (fun u hu=>hR2.den hG u hu) hd⟩
theorem Good.viewS{E:Env}{a:Act}{w:World}(h:Good w0 A0 N Γ H E a w){s r n q:Nat}{ls:List Leaf}{x x':V}(hs:zbm Γ s=some (D.v x))(hR:RowAt H r n q ls)(hx:subV (Leaf.own r n) (Leaf.rep (zal q ls)) x x'):Good w0 A0 N ((s,some (D.v x'))::Γ) H E a w:=by
 obtain⟨_,v,hv,hd⟩:=h.slots s _ hs;exact h.reslot hv trivial (hx.den (Foot.le.refl _) (fun u hu=>hR.den h u hu) hd)
theorem zhM{c:Code}(s:Nat){r n q:Nat}{ls:List Leaf}{x x':V}(hs:zbm Γ s=some (D.v x))(hR:RowAt H r n q ls)(hx:subV (Leaf.own r n) (Leaf.rep (zal q ls)) x x')(h:Tc P Q w0 A0 N ((s,some (D.v x'))::Γ) H c):Tc P Q w0 A0 N Γ H c:=
 fun a w hSt=>let ⟨E,g⟩:=hSt;h a w ⟨E,g.viewS hs hR hx⟩
theorem Good.boxsub{E:Env}{a:Act}{w:World}(h:Good w0 A0 N Γ H E a w){b:Nat}{l0 l1:Leaf}{eb:HE}{ls':List Leaf}(hb:H[b]?=some (some eb))(hbr:eb.row=none)(hr:∀v,l0.den E.A v w->l1.den E.A v w)
  (hsub:subL l0 l1 eb.ls ls'):Good w0 A0 N Γ (H.set b (some ⟨eb.t,ls',eb.row,eb.pin⟩)) E a w:=by
 have hbl:=(zxc.1 hb).1;have back:∀(j:Nat) (e1:HE),(H.set b (some ⟨eb.t,ls',eb.row,eb.pin⟩))[j]?=some (some e1)->(b=j/\e1=⟨eb.t,ls',eb.row,eb.pin⟩)\/(b≠j/\H[j]?=some (some e1)):=by
  intro j e1 hj;by_cases hij:b=j
  .subst hij;rw[zxs hbl] at hj;simp only[zxd] at hj;exact .inl ⟨rfl,hj.symm⟩
  .rw[zxp hij] at hj;exact .inr ⟨hij,hj⟩
 have get:∀(j:Nat) (e1:HE),(H.set b (some ⟨eb.t,ls',eb.row,eb.pin⟩))[j]?=some (some e1)->∃e2,H[j]?=some (some e2):=by
  intro j e1 hj;rcases back j e1 hj with⟨rfl,_⟩|⟨_,hj'⟩
  .exact⟨eb,hb⟩
  .exact⟨e1,hj'⟩
 refine⟨h.below,h.foot,h.foot0,h.defers,h.size,fun s d hs=>?_,?_,?_,?_,?_,h.old⟩
 .obtain⟨ho,v,hv,hd⟩:=h.slots s d hs;exact⟨ho.mono_set (fun e0 h0 h1=>by rw[hb] at h0;cases h0;exact h1),v,hv,hd⟩
 .intro j e1 hj;rcases back j e1 hj with⟨rfl,rfl⟩|⟨_,hj'⟩
  .obtain⟨g1,g2⟩:=h.boxes b eb hb;refine⟨?_,g2⟩;unfold HE.ok at g1 ⊢;rw[hbr] at g1;simp only[hbr];obtain⟨g3,cs,g4,g5⟩:=g1;exact⟨g3,cs,g4,hsub.den (Foot.le.refl _) hr g5⟩
  .exact h.boxes j e1 hj'
 .intro j1 j2 e1 e2 g1 g2 n1 n2 h12;obtain⟨e1',q1⟩:=get j1 e1 g1;obtain⟨e2',q2⟩:=get j2 e2 g2;exact h.apart j1 j2 e1' e2' q1 q2 n1 n2 h12
 .intro j e1 v1 hj hv;rcases back j e1 hj with⟨rfl,rfl⟩|⟨_,hj'⟩
  .have:=h.kn b eb v1 hb hv;unfold HE.name at this ⊢;simp only[hbr] at this ⊢;exact this
  .exact h.kn j e1 v1 hj' hv
 .intro j m v hg;obtain⟨e1,k,n,q1,q2⟩:=h.gd j m v hg;by_cases hj:b=j
  .subst hj;rw[hb] at q1;cases q1;exact⟨_,k,n,zxs hbl,q2⟩
  .exact⟨e1,k,n,by rw[zxp hj];exact q1,q2⟩
theorem zcj{c:Code}(b:Nat){r n q:Nat}{ls ls':List Leaf}{eb:HE}(hb:H[b]?=some (some eb))(hbr:eb.row=none)(hR:RowAt H r n q ls)(hsub:subL (Leaf.own r n) (Leaf.rep (zal q ls)) eb.ls ls')
  (h:Tc P Q w0 A0 N Γ (H.set b (some ⟨eb.t,ls',eb.row,eb.pin⟩)) c):Tc P Q w0 A0 N Γ H c:=
 fun a w hSt=>let ⟨E,g⟩:=hSt;h a w ⟨E,g.boxsub hb hbr (fun v hv=>hR.den g v hv) hsub⟩
theorem Good.growNil{E:Env}{a:Act}{w:World}(h:Good w0 A0 N Γ H E a w){r:Nat}(hr:H.length=r)(u sz:Nat) :
  ∃E',Good w0 A0 N Γ (H++[some ⟨u,[],some sz,some (.inr (0,some 0))⟩]) E' a w/\E'.A.g r 0=some (.slice none 0 0):=by
 subst hr;have hg0:∀m,E.A.g H.length m=none:=by
  intro m
  cases hm:E.A.g H.length m with
  |none=>rfl
  |some v=>
   obtain⟨e,k,n,q1,_⟩:=h.gd _ m v hm;have:=(zxc.1 q1).1;omega
 let A':Foot:=⟨E.A.c,fun i m=>if i=H.length/\m=0 then some (.slice none 0 0) else E.A.g i m⟩
 let E':Env:=⟨E.b,fun j=>if j=H.length then 0 else E.cap j,fun j=>if j=H.length then true else E.nil j,A'⟩
 have hle:Foot.le E.A A':=⟨fun x j hx=>hx,fun i m u hu=>by
  show(if i=H.length/\m=0 then some (.slice none 0 0) else E.A.g i m)=some u;rw[if_neg]
  .exact hu
  .rintro⟨rfl,rfl⟩;rw[hg0] at hu;simp at hu⟩
 have back:∀(j:Nat) (e1:HE),(H++[some ⟨u,[],some sz,some (.inr (0,some 0))⟩])[j]?=some (some e1)->(j=H.length/\e1=⟨u,[],some sz,some (.inr (0,some 0))⟩)\/(j≠H.length/\H[j]?=some (some e1)):=by
  intro j e1 hj;by_cases hij:j=H.length
  .subst hij;simp at hj;exact .inl ⟨rfl,hj.symm⟩
  .have hlt:j<H.length:=by
    have:=(zxc.1 hj).1;simp at this;omega
   rw[zxi hlt] at hj;exact .inr ⟨hij,hj⟩
 refine⟨E',⟨h.below,h.foot,h.foot0,h.defers,h.size,?_,?_,?_,?_,?_,h.old⟩,?_⟩
 .intro s d hs;obtain⟨ho,v,hv,hd⟩:=h.slots s d hs;refine⟨ho.mono_app,v,hv,?_⟩;rcases d with x|xs|⟨i,o⟩|⟨i,q⟩
  .exact V.den_mono hle hd
  .obtain⟨vs,rfl,hvs⟩:=hd;exact⟨vs,rfl,hvs.mono hle⟩
  .exact hd
  .have:i≠H.length:=Nat.ne_of_lt (ze9 ho);simp only[D.den,E',if_neg this] at hd ⊢;exact hd
 .intro j e1 hj;rcases back j e1 hj with⟨rfl,rfl⟩|⟨hij,hj'⟩
  .refine⟨?_,fun hn=>?_⟩
   .unfold HE.ok;simp only[E',if_true];exact⟨trivial,trivial⟩
   .simp[E'] at hn
  .obtain⟨g1,g2⟩:=h.boxes j e1 hj';refine⟨?_,fun hn=>?_⟩
   .have g3:=HE.ok_grow hle g1;unfold HE.ok at g3 ⊢;simp only[E',if_neg hij] at g3 ⊢;exact g3
   .simp only[E',if_neg hij] at hn;exact g2 hn
 .intro j1 j2 e1 e2 g1 g2 n1 n2 h12;rcases back j1 e1 g1 with⟨rfl,rfl⟩|⟨hj1,g1'⟩
  .simp[E'] at n1
  .rcases back j2 e2 g2 with⟨rfl,rfl⟩|⟨hj2,g2'⟩
   .simp[E'] at n2
   .simp only[E',if_neg hj1,if_neg hj2] at n1 n2;exact h.apart j1 j2 e1 e2 g1' g2' n1 n2 h12
 .intro j e1 m hj hm;rcases back j e1 hj with⟨rfl,rfl⟩|⟨hij,hj'⟩
  .obtain⟨k',hm⟩:=hm;simp only[zxd,Sum.inr.injEq,zxf] at hm;obtain⟨_,rfl⟩:=hm;refine⟨?_,fun m' hm'=>?_,fun hn=>by simp[E'] at hn⟩
   .show(if H.length=H.length/\0=0 then some (.slice none 0 0) else E.A.g H.length 0)=_;rw[if_pos ⟨rfl,rfl⟩];simp[HE.name,E']
   .show(if H.length=H.length/\m'=0 then some (.slice none 0 0) else E.A.g H.length m')=none;rw[if_neg (fun e'=>by omega)];exact hg0 m'
  .obtain⟨q1,q2,q3⟩:=h.kn j e1 m hj' hm;refine⟨?_,fun m' hm'=>?_,fun hn i hi'=>?_⟩
   .show(if j=H.length/\m=0 then some (.slice none 0 0) else E.A.g j m)=_;rw[if_neg (fun e'=>hij e'.1),q1];unfold HE.name;simp only[E',if_neg hij]
   .show(if j=H.length/\m'=0 then some (.slice none 0 0) else E.A.g j m')=none;rw[if_neg (fun e'=>hij e'.1)];exact q2 m' hm'
   .simp only[E',if_neg hij] at hn;exact q3 hn i hi'
 .intro j m v hg;by_cases hj:j=H.length
  .subst hj;exact⟨⟨u,[],some sz,some (.inr (0,some 0))⟩,0,0,by simp,rfl⟩
  .have hg:(if j=H.length/\m=0 then some (.slice none 0 0) else E.A.g j m)=some v:=hg;rw[if_neg (fun e'=>hj e'.1)] at hg;obtain⟨e1,k1,n1,q1,q2⟩:=h.gd j m v hg;exact⟨e1,k1,n1,by rw[zxi (zxc.1 q1).1];exact q1,q2⟩
 .show(if H.length=H.length/\0=0 then some (.slice none 0 0) else E.A.g H.length 0)=some (.slice none 0 0);rw[if_pos ⟨rfl,rfl⟩]
theorem zqj{c:Code}(s u sz:Nat){r:Nat}(hs:zbm Γ s=some (D.val (.slice none 0 0)))(hr:H.length=r)(h:Tc P Q w0 A0 N ((s,some (D.v (V.one (Leaf.own r 0))))::Γ) (H++[some ⟨u,[],some sz,some (.inr (0,some 0))⟩]) c):Tc P Q w0 A0 N Γ H c:=by
 intro a w hSt;obtain⟨E,g⟩:=hSt;obtain⟨E',g',hg⟩:=g.growNil hr u sz;obtain⟨_,v,hv,hd⟩:=g.slots s _ hs;obtain⟨rfl,_⟩:v = .slice none 0 0/\_:=hd;exact h a w ⟨E',g'.reslot (d:=D.v (V.one (Leaf.own r 0))) hv trivial ⟨hg,rfl⟩⟩
theorem zdi{c:Code}(b u sz:Nat){r:Nat}{ls':List Leaf}{eb:HE}(hb:H[b]?=some (some eb))(hbr:eb.row=none)(hr:H.length=r)(hsub:subL (Leaf.val (.slice none 0 0)) (Leaf.own r 0) eb.ls ls')
  (h:Tc P Q w0 A0 N Γ ((H++[some (⟨u,[],some sz,some (.inr (0,some 0))⟩:HE)]:Hp).set b (some ⟨eb.t,ls',eb.row,eb.pin⟩)) c):Tc P Q w0 A0 N Γ H c:=by
 intro a w hSt;obtain⟨E,g⟩:=hSt;obtain⟨E',g',hg⟩:=g.growNil hr u sz;exact h a w ⟨E',g'.boxsub (by rw[zxi (zxc.1 hb).1];exact hb) hbr (l0:=Leaf.val (.slice none 0 0)) (l1:=Leaf.own r 0) (fun v hv=>by rw[hv.1];exact⟨hg,rfl⟩) hsub⟩
theorem Good.setRow_kept{E:Env}{a:Act}{w:World}(h:Good w0 A0 N Γ H E a w){i:Nat}{e:HE}(he:H[i]?=some (some e))(hn:E.nil i=false){cs':Array Value}{cs0:Array Value}
  (h0:w.heap[E.b i]?=some (.cells cs0 e.t (0,0))) (hfz:∀j,j<e.fz->cs'[j]?=cs0[j]?):kept E.A w (w.setRow (E.b i) cs'):=by
 obtain⟨h1,h2⟩:=h.boxes i e he;obtain⟨h3,h4⟩:=h2 hn;have hnew:=setRow_heap w (E.b i) cs0 cs' e.t (0,0) h0;intro k j hA;by_cases hkb:k=E.b i
 .subst hkb;have hj:j<e.fz:=Nat.lt_of_not_le fun hle=>h4 j hle hA;unfold World.cell?;rw[hnew,h0];exact hfz j hj
 .exact World.cell?_of_block (setRow_other w _ k _ (fun e=>hkb e))
theorem zjk{A:Foot}{w:World}{ls2:List Leaf}{m capy:Nat}{ay:Option Addr}(hl2:m=0->ls2=[])(cy1:m<=capy)(cy3:ay=none->m=0/\ls2=[])
  (cy4:∀ad,ay=some ad->(0<capy->ad.spot=none)/\∀(i:Nat) (l:Leaf),ls2[i]?=some l->A ad.block (ad.off+i)/\∃x,w.cell? ⟨ad.block,ad.off+i,none⟩=some x/\l.den (Foot.of A.c) x w) :
  ∃news:List Value,denL A ls2 news w/\∀ad,ay=some ad->∀j v,news[j]?=some v->w.cell? (ad.add j)=some v:=by
 cases ay with
 |none=>
  obtain⟨_,e2⟩:=cy3 rfl;subst e2;exact⟨[],trivial,fun ad h=>by simp at h⟩
 |some ad=>
  by_cases hcy:capy=0
  .have hl0:ls2=[]:=hl2 (by omega);subst hl0;exact⟨[],trivial,fun ad _ j v h=>by simp at h⟩
  obtain⟨d1,d2⟩:=cy4 ad rfl;obtain⟨bl,off,sp⟩:=ad;simp only at d1 d2;have d1:=d1 (by omega);subst d1;have hex:∀(ls:List Leaf) (off:Nat),(∀(i:Nat) (l:Leaf),ls[i]?=some l->A bl (off+i)/\∃x,w.cell? ⟨bl,off+i,none⟩=some x/\l.den (Foot.of A.c) x w) →
    ∃cs:List Value,denL (Foot.of A.c) ls cs w/\∀j v,cs[j]?=some v->w.cell? ⟨bl,off+j,none⟩=some v:=by
   intro ls
   induction ls with
   |nil=>intro off _;exact⟨[],trivial,fun j v h=>by simp at h⟩
   |cons l ls ih=>
    intro off h;obtain⟨_,x,hx,hd⟩:=h 0 l rfl;obtain⟨cs,hcs,hcc⟩:=ih (off+1) (fun i l hi=>by
     have:=h (i+1) l (by simpa using hi)
     rwa [show off+(i+1)=off+1+i from by omega] at this)
    refine⟨x::cs,⟨hd,hcs⟩,fun j v hj=>?_⟩
    cases j with
    |zero=>simp at hj;subst hj;exact hx
    |succ j=>have:=hcc j v (by simpa using hj);rwa [show off+(j+1)=off+1+j from by omega]
  obtain⟨cs,hcs,hcc⟩:=hex ls2 off d2;exact⟨cs,hcs.mono (zfZ _),fun ad had j v hj=>by cases had;rw[zbX];exact hcc j v hj⟩
theorem zhc{o:Oper}{x y:Operand}{t t2 u u2 r n q m sz k:Nat}{pl ls2 ls:List Leaf}{inf:TypeInfo}{z:Value}
  (ho:o.op = .call { callee:=.builtin .append,args:=#[x,y],argTypes:=#[t,t2] })
  (hx:opD Γ x=some (D.v (V.one (Leaf.own r n)))) (hy:opD Γ y=some (D.rep (zal m ls2))) (hi:H[r]?=some (some ⟨u,pl,some sz,some (.inr (k,some n))⟩)) (hl:pl.length=q*sz) (hl2:ls2.length=m*sz) (hsz:0<sz)
  (ht:P.underlying t=some (.slice u)) (ht2:P.underlying t2=some (.slice u2)) (hinf:P.info? u=some inf) (hz:inf.zero=some z) (hisz:inf.size=sz) (hzs:z.cells.size=sz)
  (hlen:q+m<=maxLen) (hbytes:(q+m)*inf.bytes<=140737488355328) (hk:k=pl.length:=by rfl) (hls:pl++ls2=ls:=by rfl) :
  Je P ops o Γ H (some (D.v (V.one (Leaf.own r (n+1))))) (H.set r (some ⟨u,ls,some sz,some (.inr (ls.length,some (n+1)))⟩)):=by
 intro w0 A0 N Γ2 a w Q K hs hN hSt hK;obtain⟨E,hG⟩:=hSt;subst hls hisz hk;obtain⟨_,h1⟩:=za1 hs hG (x:=x) (by rw[ho];simp[Op.operands,Call.operands]) hx;obtain⟨_,ay,capy,h2,cy1,cy2,cy3,cy4⟩:=za1 hs hG (x:=y) (by rw[ho];simp[Op.operands,Call.operands]) hy;obtain⟨g1,g2⟩:=hG.boxes r _ hi;obtain⟨kn1,kn2,kn3⟩:=hG.kn r _ n hi ⟨_,rfl⟩;have h1:a.eval x=HE.name E r ⟨u,pl,some inf.size,some (.inr (pl.length,some n))⟩:=by
  have h1:E.A.g r n=some (a.eval x)/\_:=h1;rw[kn1] at h1;exact(Option.some.inj h1.1).symm
 have hq:pl.length/inf.size=q:=by rw[hl];exact Nat.mul_div_cancel q hsz
 have hq2:(pl++ls2).length/inf.size=q+m:=by rw[zxq,hl,hl2,<-Nat.add_mul];exact Nat.mul_div_cancel _ hsz
 unfold HE.name at h1;simp only[hq] at h1;obtain⟨news,hnd,hnc⟩:=zjk (A:=E.A) (w:=w) (ls2:=ls2) (m:=m) (capy:=capy) (ay:=ay) (fun h=>zxm (by rw[hl2,h,Nat.zero_mul])) cy1 (fun h=>⟨(cy3 h).1,(cy3 h).2.1⟩) cy4;have hnl:news.length=m*inf.size:=by rw[hnd.length,hl2]
 have hn1:=hnd.one;have hexec:∀v' w',(Builtin.append_ #[t,t] o.type #[a.eval x,a.eval y]).run P w = .ok v' w'->(execOp a.eval o).run P w = .ok (.value v') w':=by
  intro v' w' hh;simp[execOp,ho,resolve,invoke,builtin,zes w _ _ ht ht2,hh]
 have fin:∀(v:Value) (w':World) (E':Env),(Builtin.append_ #[t,t] o.type #[a.eval x,a.eval y]).run P w = .ok v w'->v.oneCell'=true →
   Good w0 A0 N Γ2 (H.set r (some ⟨u,pl++ls2,some inf.size,some (.inr ((pl++ls2).length,some (n+1)))⟩)) E' a w'->E'.A.g r (n+1)=some v->Oper.wp P o a w K Q:=by
  intro v w' E' hrun h1v hg hgv;exact zaS (hexec _ _ hrun) (hK _ _ ⟨E',hg.put (fun d hd=>by cases hd;exact⟨trivial,hgv,h1v⟩) hN⟩)
 have inPlace:E.nil r=false->q+m<=E.cap r->ay≠none->Oper.wp P o a w K Q:=by
  intro hn hroom hay
  cases hay':ay with
  |none=>exact absurd hay' hay
  |some ad=>
   subst hay';simp only[hn,zxw,if_false] at h1;unfold HE.ok at g1;simp only[hn] at g1;obtain⟨hm,cs,rest',hc,hlc,hcd⟩:=g1;have hcl:=hcd.length;have hfit:q*inf.size+news.length<=(cs++rest').toArray.size:=by
    rw[hnl,<-Nat.add_mul];simp only[List.size_toArray];rw[hlc];exact zxl _ hroom
   have hrun:=run_append_room (P:=P) w t o.type u inf ht hinf (E.b r) q (E.cap r) (cs++rest').toArray hc ad m capy news hnl (hnc ad rfl) hn1 hroom hfit;have hcsn:cs.length=q*inf.size:=by rw[hcl,hl]
   have hrow:((cs++rest').toArray.toList.take (q*inf.size)++news++(cs++rest').toArray.toList.drop (q*inf.size+news.length))=cs++(news++rest'.drop news.length):=by
    show((cs++rest').take _++news++(cs++rest').drop _)=_;rw[List.take_append_of_le_length (by omega),zxJ (by omega),<-hcsn,List.drop_append];simp
   rw[hrow] at hrun;have hfz:∀j,j<pl.length->(cs++(news++rest'.drop news.length)).toArray[j]?=(cs++rest').toArray[j]?:=by
    intro j hj;rw[List.getElem?_toArray,List.getElem?_toArray,zxi (by omega),zxi (by omega)]
   have hkp:=hG.setRow_kept hi hn (cs':=(cs++(news++rest'.drop news.length)).toArray) hc hfz;have hG':=hG.setRow hi hn (ls':=pl) (cs':=cs) (rest':=news++rest'.drop news.length) hc
    (by simp at hfit ⊢;omega) (fun h=>by simp at h) hcd (.inr rfl) (fun j hj=>by have:=hfz j hj;rw[List.getElem?_toArray] at this;exact this)
   have hnew:=setRow_heap w (E.b r) _ (cs++(news++rest'.drop news.length)).toArray u (0,0) hc;rw[show H.set r (some ({ (⟨u,pl,some inf.size,some (.inr (pl.length,some n))⟩:HE) with ls:=pl }))=H from by
    apply List.ext_getElem?;intro j;rw[getElem?_set'];by_cases hij:r=j
    .subst hij;rw[if_pos rfl,if_pos (zxc.1 hi).1,hi]
    .rw[if_neg hij]] at hG'
   obtain⟨E',hg,hgv⟩:=hG'.regrow (w':=w.setRow (E.b r) (cs++(news++rest'.drop news.length)).toArray) (ls':=pl++ls2) (b':=E.b r) (cap':=E.cap r) (nl':=false) (v':=.slice (some ⟨E.b r,0,none⟩) (q+m) (E.cap r)) hi rfl rfl
    hG'.below (zxe _) (fun _ _ _=>rfl) (fun _ _ _ _ _=>rfl)
    (by
     simp only[zxw,if_false];exact⟨hm,cs++news,rest'.drop news.length,by rw[zxD];exact hnew,by
      rw[<-hlc];simp at hfit ⊢;omega,(hcd.append hnd).keep hkp⟩)
    (fun _=>(g2 hn).1)
    (fun _ j hj=>(hG'.boxes r _ hi).2 hn |>.2 j (by show pl.length<=j;rw[zxq] at hj;omega))
    (fun _ j e' hj he' hn'=>fun e2=>hG.apart j r e' _ he' hi hn' hn hj e2)
    (by simp only[zxw,if_false];rw[hq2])
   exact fin _ _ E' (by rw[h1,h2];exact hrun) rfl hg hgv
 have anew:∀(cap:Nat) (cells:List Value) (spare:List Value),q+m<=cap->cap<=maxLen->denL E.A pl cells w->(cells++news++spare).length=cap*inf.size →
   (Builtin.append_ #[t,t] o.type #[a.eval x,a.eval y]).run P w = .ok (.slice (some ⟨w.heap.size,0,none⟩) (q+m) cap) (w.drew.alloc (.cells (cells++news++spare).toArray u)) →
   Oper.wp P o a w K Q:=by
  intro cap cells spare hcap hcm hcd hcl hrun;have hb0:=zbF w.drew (.cells (cells++news++spare).toArray u);have hb:Below w.heap.size w (w.drew.alloc (.cells (cells++news++spare).toArray u)):=⟨hb0.os,hb0.tape,hb0.output,hb0.size,hb0.block⟩;have hkp:kept E.A w (w.drew.alloc (.cells (cells++news++spare).toArray u)):=zcr fun k j hk=>hb.block k (hG.foot k j hk);have hsz':(w.drew.alloc (.cells (cells++news++spare).toArray u)).heap.size=w.heap.size+1:=by
   rw[World.size_alloc];rfl
  have hnew:(w.drew.alloc (.cells (cells++news++spare).toArray u)).heap[w.heap.size]?=some (.cells (cells++news++spare).toArray u (0,0)):=heap_alloc_new w.drew _;obtain⟨E',hg,hgv⟩:=hG.regrow (w':=w.drew.alloc (.cells (cells++news++spare).toArray u)) (ls':=pl++ls2) (b':=w.heap.size) (cap':=cap) (nl':=false) (v':=.slice (some ⟨w.heap.size,0,none⟩) (q+m) cap) hi rfl rfl
   (hG.below.then (hb.mono hG.below.size)) (by omega) hkp (fun j e' _ hj' hn'=>hb.block _ (HE.ok_lt (hG.boxes j e' hj').1 hn'))
   (by
    simp only[zxw,if_false];exact⟨hcm,cells++news,spare,hnew,hcl,(hcd.append hnd).keep hkp⟩)
   (fun _=>.inl hG.below.size)
   (fun _ j _ hA=>by have:=hG.foot _ _ hA;omega)
   (fun _ j e' _ hj' hn' hbj=>by have:=HE.ok_lt (hG.boxes j e' hj').1 hn';omega)
   (by simp only[zxw,if_false];rw[hq2])
  exact fin _ _ E' hrun rfl hg hgv
 have harr:∀(cs:List Value) (Z:Array Value),(cs++news++Z.toList).toArray=cs.toArray++news.toArray++Z:=fun cs Z=>by
  apply Array.ext';simp
 have hcapm:∀old,grownCap w (q+m) old u<=maxLen:=fun old=>grownCap_le_maxLen w (q+m) old u hlen;have hcapg:∀old,q+m<=grownCap w (q+m) old u:=fun old=>grownCap_ge w (q+m) old u;have h63:q+m<=9223372036854775807:=by simp only[maxLen] at hlen;omega
 have hspare:∀c:Nat,(Builtin.zeroCells z.cells c).toList.length=c*inf.size:=by intro c;simp[size_zeroCells,hzs]
 have same:ls2=[]->m=0->(Builtin.append_ #[t,t] o.type #[a.eval x,a.eval y]).run P w = .ok (a.eval x) w->Oper.wp P o a w K Q:=by
  intro e1 e2 hrun;subst e1 e2;have hxv:a.eval x=if E.nil r=true then .slice none 0 0 else .slice (some ⟨E.b r,0,none⟩) ((pl++[]).length/inf.size) (E.cap r):=by
   rw[h1,zxy,hq]
  obtain⟨E',hg,hgv⟩:=hG.regrow (w':=w) (ls':=pl++[]) (b':=E.b r) (cap':=E.cap r) (nl':=E.nil r) (v':=a.eval x) hi rfl rfl
   hG.below (zxe _) (fun _ _ _=>rfl) (fun _ _ _ _ _=>rfl)
   (by
    unfold HE.ok at g1;simp only[zxy];cases hn:E.nil r
    .simp only[hn,zxw,if_false] at g1 ⊢;exact g1
    .simp only[hn,if_true] at g1 ⊢;exact g1)
   (fun hn=>(g2 hn).1) (fun hn j hj=>(g2 hn).2 j (by rw[zxy] at hj;exact hj)) (fun hn j e' hj he' hn'=>fun e2=>hG.apart j r e' _ he' hi hn' hn hj e2) hxv
  refine fin _ _ E' hrun ?_ hg hgv;rw[hxv];split <;> rfl
 cases hn:E.nil r
 ·
  have g1':=g1;unfold HE.ok at g1';simp only[hn] at g1';obtain⟨hm,cs,rest',hc,hlc,hcd⟩:=g1';have hcl:=hcd.length;have hcsn:cs.length=q*inf.size:=by rw[hcl,hl]
  have hncap:q<=E.cap r:=by
   have:q*inf.size<=E.cap r*inf.size:=by rw[<-hlc,<-hcsn];simp
   exact Nat.le_of_mul_le_mul_right this hsz
  have h1':=h1;simp only[hn,zxw,if_false] at h1'
  cases hay:ay with
  |none=>
   subst hay;obtain⟨e1,e2,e3⟩:=cy3 rfl;refine same e2 e1 ?_;subst e1 e2;rw[h1',h2];simp[Builtin.append_,run_underlying ht,Go.sizeOf,typeInfo,hinf,Builtin.lenOf,hncap,Builtin.firstCells,storeCells]
  |some ad=>
   by_cases hroom:q+m<=E.cap r
   .exact inPlace hn hroom (by rw[hay];simp)
   .subst hay;have holds:∀j u,cs[j]?=some u->w.cell? ((⟨E.b r,0,none⟩:Addr).add j)=some u:=by
     intro j u hu;have hlt:=(zxc.1 hu).1;rw[zbX,Nat.zero_add];exact zbW hc (by rw[zxi hlt];exact hu)
    have hrun:=run_append_grow (P:=P) w t o.type u inf z ht hinf hz ⟨E.b r,0,none⟩ q (E.cap r) cs hcsn holds ad m capy news hnl (hnc ad rfl) (by omega) (by omega) (growslice_fits (by omega) hbytes);refine anew (grownCap w (q+m) (E.cap r) u) cs (Builtin.zeroCells z.cells (grownCap w (q+m) (E.cap r) u-(q+m))).toList (hcapg _) (hcapm _) hcd ?_ ?_
    .rw[zxq,zxq,hcsn,hnl,hspare,<-Nat.add_mul,<-Nat.add_mul];congr 1;have:=hcapg (E.cap r);omega
    .rw[h1',h2,harr];exact hrun
 ·
  have h1':=h1;simp only[hn,if_true] at h1';have g1':=g1;unfold HE.ok at g1';simp only[hn,if_true] at g1';have hn0:q=0:=by
   rw[g1'.1] at hl;rcases Nat.mul_eq_zero.1 hl.symm with h|h
   .exact h
   .omega
  subst hn0;by_cases hm0:m=0
  .have hls2:ls2=[]:=zxm (by rw[hl2,hm0,Nat.zero_mul]);refine same hls2 hm0 ?_;subst hm0;have hnews0:news=[]:=zxm (by simpa using hnl);rw[h1',h2];cases ay <;> simp[Builtin.append_,run_underlying ht,Go.sizeOf,typeInfo,hinf,Builtin.lenOf,Builtin.firstCells,loadCells,loadCellsFrom]
  .cases hay:ay with
   |none=>obtain⟨e1,_⟩:=cy3 hay;omega
   |some ad=>
    subst hay;have hnb:m*inf.bytes<=281474976710656:=by have:=hbytes;simp only[Nat.zero_add] at this;omega
    have hrun:=run_append_nil (P:=P) w t o.type u inf z ht hinf hz ad m capy news hnl (hnc ad rfl) (by omega) (by omega) hnb;refine anew (grownCap w (0+m) 0 u) [] (Builtin.zeroCells z.cells (grownCap w (0+m) 0 u-(0+m))).toList (hcapg _) (hcapm _) (by rw[g1'.1];trivial) ?_ ?_
    .rw[zxq,zxq,hnl,hspare];simp only[List.length_nil,Nat.zero_add];rw[<-Nat.add_mul];congr 1;have:=hcapg 0;simp only[Nat.zero_add] at this;omega
    .rw[h1',h2,harr];simp only[Nat.zero_add];simpa using hrun
def znh(Γ:Gam):List Operand->Option (List D)
 |[]=>some []
 |x::xs=>
  match opD Γ x,znh Γ xs with
  |some d,some ds=>some (d::ds)
  |_,_=>none
def zf7:Nat->List D->Gam
 |_,[]=>[]
 |k,d::ds=>(k,some d)::zf7 (k+1) ds
def up:Gam->Gam
 |[]=>[]
 |(s,d)::g=>(s+2000,d)::up g
def zjI(F:Frm)(a:Act)(s:Nat):Option Value:=zhk F a (s-2000)
@[reducible] def Frm.into(F:Frm)(a:Act):Frm:=⟨F.w,F.X,zjI F a⟩
theorem zhr:∀{xs:List Operand} {ds:List D} {i:Nat} {d:D},znh Γ xs=some ds->ds[i]?=some d->∃x,xs[i]?=some x/\opD Γ x=some d
 |[],ds,i,d,h,hi=>by simp only[znh,zxd] at h;subst h;simp at hi
 |x::xs,ds,i,d,h,hi=>by
  unfold znh at h
  cases hx:opD Γ x with
  |none=>rw[hx] at h;simp at h
  |some d0=>
   rw[hx] at h
   cases hr:znh Γ xs with
   |none=>rw[hr] at h;simp at h
   |some ds0=>
    rw[hr] at h;simp only[zxd] at h;subst h
    cases i with
    |zero=>simp at hi;subst hi;exact⟨x,rfl,hx⟩
    |succ i=>simpa using zhr hr (by simpa using hi)
theorem zd3:∀{xs:List Operand} {ds:List D},znh Γ xs=some ds->ds.length=xs.length
 |[],ds,h=>by simp only[znh,zxd] at h;subst h;rfl
 |x::xs,ds,h=>by
  unfold znh at h
  cases hx:opD Γ x with
  |none=>rw[hx] at h;simp at h
  |some d0=>
   rw[hx] at h
   cases hr:znh Γ xs with
   |none=>rw[hr] at h;simp at h
   |some ds0=>
    rw[hr] at h;simp only[zxd] at h;subst h;simp[zd3 hr]
theorem zfX:∀{ds:List D} {k s:Nat} {G:Gam} {d:D},zbm (zf7 k ds++G) s=some d->(∃i,ds[i]?=some d/\s=k+i)\/zbm G s=some d
 |[],k,s,G,d,h=>.inr h
 |d0::ds,k,s,G,d,h=>by
  by_cases e:k=s
  .subst e;have:zbm ((k,some d0)::(zf7 (k+1) ds++G)) k=some d:=h;rw[zar] at this;exact .inl ⟨0,by simpa using this,rfl⟩
  .have:zbm ((k,some d0)::(zf7 (k+1) ds++G)) s=some d:=h;rw[zaB e] at this;rcases zfX this with⟨i,h1,h2⟩|h1
   .exact .inl ⟨i+1,by simpa using h1,by omega⟩
   .exact .inr h1
theorem znw:∀{g:Gam} {s:Nat} {d:D},zbm (up g) s=some d->2000<=s/\zbm g (s-2000)=some d
 |[],s,d,h=>by simp[up,zbm] at h
 |(k,d0)::g,s,d,h=>by
  by_cases e:k+2000=s
  .subst e;unfold up at h;rw[zar] at h;subst h;refine⟨by omega,?_⟩;rw[Nat.add_sub_cancel,zar]
  .unfold up at h;rw[zaB e] at h;obtain⟨h1,h2⟩:=znw h;exact⟨h1,by rw[zaB (by omega)];exact h2⟩
theorem Frm.Bel.ofExt{F:Frm}{w:World}(g:Nat->Option Value)(h:F.Bel w):Frm.Bel ⟨F.w,F.X,g⟩ w:=⟨h.os,h.tape,h.output,h.size,h.block,h.sizes,h.glob,h.apart⟩
theorem Frm.Bel.toExt{F:Frm}{w:World}{g:Nat->Option Value}(h:Frm.Bel ⟨F.w,F.X,g⟩ w):F.Bel w:=⟨h.os,h.tape,h.output,h.size,h.block,h.sizes,h.glob,h.apart⟩
theorem Frm.Bel.into{F:Frm}{a:Act}{w:World}(h:F.Bel w):(F.into a).Bel w:=h.ofExt (zjI F a)
theorem Frm.Bel.outof{F:Frm}{a:Act}{w:World}(h:(F.into a).Bel w):F.Bel w:=Frm.Bel.toExt (g:=zjI F a) h
theorem zkB(F:Frm)(g:Nat->Option Value)(p:Option (Nat ⊕ (Nat×Option Nat)))(b:Nat):Frm.mine ⟨F.w,F.X,g⟩ p b=F.mine p b:=by
 unfold Frm.mine;rcases p with _|_|_ <;> rfl
theorem zn4{s:Nat}(h:2000<=s):Nat.blt s 2000=false:=by
 cases hb:Nat.blt s 2000
 .rfl
 .simp at hb;omega
theorem zh9{F:Frm}{a a':Act}{s:Nat}(h:2000<=s):zhk (F.into a) a' s=zjI F a s:=by unfold zhk;rw[zn4 h,cond_false]
theorem zkP(F:Frm)(a:Act)(s:Nat):zjI F a s=zhk F a (s-2000):=by rw[zjI]
theorem Good.enter{E:Env}{a:Act}{w:World}(hG:Good w0 A0 N Γ H E a w){vs:Array Value}{ds:List D}{Nc:Nat}(hl:vs.size=ds.length)(hN:ds.length<=min Nc 2000)
  (hd:∀(i:Nat) (d:D),ds[i]?=some d->d.okn H/\∃v,vs[i]?=some v/\d.den E v w) :
  Good (w0.into a) A0 Nc (zf7 0 ds++up Γ) H E { tmps:=vs++Array.replicate (Nc-vs.size) undef,defers:=[] } w:=by
 refine⟨hG.below.into,hG.foot,hG.foot0,rfl,by simp;omega,fun s d hs=>?_,fun i e he=>⟨(hG.boxes i e he).1,fun hn=>⟨by rw[zkB];exact((hG.boxes i e he).2 hn).1,((hG.boxes i e he).2 hn).2⟩⟩,hG.apart,hG.kn,hG.gd,hG.old⟩;rcases zfX hs with⟨i,h1,h2⟩|h1
 .have hi:=(zxc.1 h1).1;rw[Nat.zero_add] at h2;subst h2;obtain⟨ho,v,hv,hdv⟩:=hd s d h1;refine⟨ho,v,?_,hdv⟩;rw[zbA (by simp;omega),Array.getElem?_append_left (by omega)];exact hv
 .obtain⟨h2,h3⟩:=znw h1;obtain⟨ho,v,hv,hdv⟩:=hG.slots _ _ h3;refine⟨ho,v,?_,hdv⟩;rw[zh9 h2,zkP];exact hv
theorem zop{o:Oper}{rest:List Oper}{f Nc:Nat}{fn:Func}{c:Code}{args:Array Operand}{tys:Array TypeId}{ds:List D}(ho:o.op = .call { callee:=.value (.func f),args:=args,argTypes:=tys })(hp:pe N o=true)
  (hf:P.funcs[f]?=some fn) (hb:fn.body=some c) (hnm:(fn.name == "runtime.NumGoroutine")=false) (hN:fn.ntmps=Nc) (hl:ds.length<=min Nc 2000) (hx:znh Γ args.toList=some ds)
  (h:∀a1:Act,a1.defers=[]->a1.tmps.size=N->Tc P (bodyPost P fn fun e w'=>∃v,e = .returned v/\wpList P ops Q rest (a1.put o.dst v) w') (w0.into a1) A0 Nc (zf7 0 ds++up Γ) H c):Tl P ops Q w0 A0 N Γ H (o::rest):=by
 intro a w hSt;obtain⟨E,hG⟩:=hSt;unfold wpList;rw[if_pos (by simp[Region.wanted,(zq1 hp).1])];left;have hrun:(execOp a.eval o).run P w = .ok (.enter f (args.map a.eval)) w:=by
  have hn':¬fn.name = "runtime.NumGoroutine":=by simpa using hnm
  simp[execOp,ho,resolve,Deferred.ofValue,invoke,callFunc,hf,hn',hb,Act.eval]
 unfold Oper.wp;rw[hrun,Oper.upon_enter];refine Calls.mono (calls_of_wp hf hb (R:=fun e w'=>∃v,e = .returned v/\wpList P ops Q rest (a.put o.dst v) w') ?_) ?_
 .rw[hN];have hlen:=zd3 hx;refine h a hG.defers hG.size _ _ ⟨E,hG.enter (vs:=args.map a.eval) (by simp;simpa using hlen.symm) hl (fun i d hi=>?_)⟩;obtain⟨x,h1,h2⟩:=zhr hx hi;obtain⟨ho',hdv⟩:=zfR hG h2;refine⟨ho',a.eval x,?_,hdv⟩;simp only[Array.getElem?_toList] at h1;simp[h1]
 .rintro e w' ⟨v,rfl,hv⟩;exact hv
def zf0(Γ:Gam):Gam->Prop
 |[]=>True
 |(s,some d)::g=>zbm Γ (s+2000)=some d/\zf0 Γ g
 |(_,none)::g=>zf0 Γ g
theorem zd5:∀{g:Gam} {s:Nat} {d:D},zf0 Γ g->zbm g s=some d->zbm Γ (s+2000)=some d
 |[],s,d,_,h=>by simp[zbm] at h
 |(k,none)::g,s,d,hk,h=>by
  by_cases e:k=s
  .subst e;rw[zar] at h;simp at h
  .rw[zaB e] at h;exact zd5 (g:=g) hk h
 |(k,some d0)::g,s,d,hk,h=>by
  by_cases e:k=s
  .subst e;rw[zar] at h;cases h;exact hk.1
  .rw[zaB e] at h;exact zd5 hk.2 h
theorem Good.leave{E:Env}{a1 a:Act}{w:World}{Nc:Nat}{Γo:Gam}(hG:Good (w0.into a1) A0 Nc Γ H E a w)(hd:a1.defers=[])(hs:a1.tmps.size=N)(hk:zf0 Γ Γo):Good w0 A0 N Γo H E a1 w:=by
 refine⟨hG.below.outof,hG.foot,hG.foot0,hd,hs,fun s d hl=>?_,fun i e he=>⟨(hG.boxes i e he).1,fun hn=>⟨by rw[<-zkB w0 (zjI w0 a1)];exact((hG.boxes i e he).2 hn).1,((hG.boxes i e he).2 hn).2⟩⟩,hG.apart,hG.kn,hG.gd,hG.old⟩;obtain⟨ho,v,hv,hdv⟩:=hG.slots _ _ (zd5 hk hl);refine⟨ho,v,?_,hdv⟩;rw[zh9 (by omega),zkP,Nat.add_sub_cancel] at hv;exact hv
def resD(P:Program)(Γ:Gam)(H:Hp)(r:ResultVar)(d:D):Prop:=
 match r with
 |.tmp t=>zbI Γ t=some d
 |.cell s t=>∃x,d=D.v x/\zfk P Γ H (.cell s t) x
theorem zpd{Nc:Nat}{E:Env}{a:Act}{w:World}(hG:Good w0 A0 Nc Γ H E a w){r:ResultVar}{d:D}(h:resD P Γ H r d):∃v,(zdu a.tmps r).run P w = .ok v w/\d.okn H/\d.den E v w:=by
 cases r with
 |tmp t=>
  obtain⟨ho,v,hv,hd⟩:=hG.tmp (s:=t) h;exact⟨v,by simp[zdu,hv],ho,hd⟩
 |cell s t=>
  obtain⟨x,rfl,h1⟩:=h;obtain⟨v,hv,hd⟩:=zbu hG h1;exact⟨v,hv,trivial,hd⟩
theorem zqh{Q':Exit->Act->World->Prop}{rest:List Oper}{dst:Option Nat}{a1:Act}{Nc:Nat}{fn:Func}{r:ResultVar}{d:D}(Γo:Gam)(hQ:∀a w,bodyPost P fn (fun e w'=>∃v,e = .returned v/\wpList P ops Q rest (a1.put dst v) w') .ret a w->Q' .ret a w)
  (hd:a1.defers=[]) (hs:a1.tmps.size=N) (hN:zb1 N dst=true) (hr:fn.results = #[r]) (h:resD P Γ H r d) (hk:zf0 Γ Γo) (hc:Tl P ops Q w0 A0 N (zc8 Γo dst (some d)) H rest):Tc P Q' (w0.into a1) A0 Nc Γ H .ret:=by
 intro a w hSt;obtain⟨E,hG⟩:=hSt;obtain⟨v,hv,ho,hdv⟩:=zpd hG h;refine wp_ret (hQ a w ⟨hG.defers,v,?_,v,rfl,hc _ _ ⟨E,(hG.leave hd hs hk).put (fun x hx=>by cases hx;exact⟨ho,hdv⟩) hN⟩⟩);rw[zba,hr];simp[hv]
theorem zk9{Q':Exit->Act->World->Prop}{rest:List Oper}{dst:Option Nat}{a1:Act}{Nc:Nat}{fn:Func}(Γo:Gam)(hQ:∀a w,bodyPost P fn (fun e w'=>∃v,e = .returned v/\wpList P ops Q rest (a1.put dst v) w') .ret a w->Q' .ret a w)
  (hd:a1.defers=[]) (hs:a1.tmps.size=N) (hN:zb1 N dst=true) (hr:fn.results = #[]) (hk:zf0 Γ Γo) (hc:Tl P ops Q w0 A0 N (zc8 Γo dst (some (D.tup []))) H rest):Tc P Q' (w0.into a1) A0 Nc Γ H .ret:=by
 intro a w hSt;obtain⟨E,hG⟩:=hSt;refine wp_ret (hQ a w ⟨hG.defers,.tuple #[],?_,_,rfl,hc _ _ ⟨E,(hG.leave hd hs hk).put (fun x hx=>by cases hx;exact⟨trivial,[],rfl,trivial⟩) hN⟩⟩);rw[zba,hr];simp
end
structure El(α:Type) where
 f:α->List Leaf
 sz:Nat
 len:∀x,(f x).length=sz
 cl:∀x,clL (f x)=true
def El.all{α:Type}(e:El α):List α->List Leaf
 |[]=>[]
 |x::xs=>e.f x++e.all xs
def El.row{α:Type}(e:El α)(l:List α):Leaf:=Leaf.rep (zal l.length (e.all l))
theorem zlT(a b:List Leaf):clL (a++b)=(clL a&&clL b):=by
 induction a with
 |nil=>rfl
 |cons x xs ih=>simp only[List.cons_append,clL,ih,Bool.and_assoc]
section
variable {α:Type}(e:El α)
theorem El.all_length(l:List α):(e.all l).length=l.length*e.sz:=by
 induction l with
 |nil=>simp[El.all]
 |cons x xs ih=>simp only[El.all,zxq,e.len,ih,List.length_cons,Nat.add_mul,Nat.one_mul];omega
theorem El.all_append(a b:List α):e.all (a++b)=e.all a++e.all b:=by
 induction a with
 |nil=>rfl
 |cons x xs ih=>simp only[List.cons_append,El.all,ih,zxD]
theorem El.all_snoc(a:List α)(x:α):e.all a++e.f x=e.all (a++[x]):=by
 rw[El.all_append];simp[El.all]
theorem El.all_drop(l:List α)(k:Nat):(e.all l).drop (k*e.sz)=e.all (l.drop k):=by
 induction l generalizing k with
 |nil=>simp[El.all]
 |cons x xs ih=>
  cases k with
  |zero=>simp
  |succ k=>
   have h1:(k+1)*e.sz=(e.f x).length+k*e.sz:=by rw[e.len,Nat.add_mul];omega
   rw[List.drop_succ_cons,<-ih k];show(e.f x++e.all xs).drop _=_;rw[h1,<-List.drop_drop,List.drop_left]
theorem El.all_take(l:List α)(k:Nat):(e.all l).take (k*e.sz)=e.all (l.take k):=by
 induction l generalizing k with
 |nil=>simp[El.all]
 |cons x xs ih=>
  cases k with
  |zero=>simp[El.all]
  |succ k=>
   have h1:(k+1)*e.sz=(e.f x).length+k*e.sz:=by rw[e.len,Nat.add_mul];omega
   rw[List.take_succ_cons];show(e.f x++e.all xs).take _=e.f x++e.all (xs.take k);rw[h1,List.take_length_add_append,ih k]
theorem El.all_get{l:List α}{j:Nat}(hj:j<l.length):((e.all l).drop (j*e.sz)).take e.sz=e.f l[j]:=by
 rw[El.all_drop,zxH hj];show(e.f l[j]++e.all (l.drop (j+1))).take e.sz=_;rw[<-e.len l[j],List.take_left]
theorem El.all_cl(l:List α):clL (e.all l)=true:=by
 induction l with
 |nil=>rfl
 |cons x xs ih=>unfold El.all;rw[zlT,e.cl,ih];rfl
end
inductive RnL(r n r' n':Nat):List Leaf->List Leaf->Prop
 |nil:RnL r n r' n' [] []
 |own {ls ls':List Leaf} (h:RnL r n r' n' ls ls'):RnL r n r' n' (Leaf.own r n::ls) (Leaf.own r' n'::ls')
 |cl {l:Leaf} {ls ls':List Leaf} (hc:l.cl=true) (h:RnL r n r' n' ls ls'):RnL r n r' n' (l::ls) (l::ls')
inductive RnV(r n r' n':Nat):V->V->Prop
 |own:RnV r n r' n' (V.one (Leaf.own r n)) (V.one (Leaf.own r' n'))
 |one {l:Leaf} (hc:l.cl=true):RnV r n r' n' (V.one l) (V.one l)
 |agg {ls ls':List Leaf} (h:RnL r n r' n' ls ls'):RnV r n r' n' (V.agg ls) (V.agg ls')
inductive RnVs(r n r' n':Nat):List V->List V->Prop
 |nil:RnVs r n r' n' [] []
 |cons {x x':V} {xs xs':List V} (h:RnV r n r' n' x x') (hs:RnVs r n r' n' xs xs'):RnVs r n r' n' (x::xs) (x'::xs')
theorem RnL.den{A A':Foot}{r n r' n':Nat}{w:World}(hA:∀k j,A k j->A' k j)(hg:∀u,A.g r n=some u->A'.g r' n'=some u){ls ls':List Leaf}(h:RnL r n r' n' ls ls'):∀{cs:List Value},denL A ls cs w->denL A' ls' cs w:=by
 induction h with
 |nil=>
  intro cs hd
  cases cs with
  |nil=>trivial
  |cons c cs=>exact hd.elim
 |own h ih=>
  intro cs hd
  cases cs with
  |nil=>exact hd.elim
  |cons c cs=>exact⟨⟨hg _ hd.1.1,hd.1.2⟩,ih hd.2⟩
 |cl hc h ih=>
  intro cs hd
  cases cs with
  |nil=>exact hd.elim
  |cons c cs=>exact⟨Leaf.den_mono (Foot.le.pure hA) (Leaf.den_pure hc hd.1),ih hd.2⟩
theorem RnV.den{A A':Foot}{r n r' n':Nat}{w:World}(hA:∀k j,A k j->A' k j)(hg:∀u,A.g r n=some u->A'.g r' n'=some u){x x':V}(h:RnV r n r' n' x x'){v:Value}(hd:x.den A v w):x'.den A' v w:=by
 cases h with
 |own=>
  have hd:A.g r n=some v/\v.oneCell'=true:=hd;exact⟨hg _ hd.1,hd.2⟩
 |one hc=>exact Leaf.den_mono (Foot.le.pure hA) (Leaf.den_pure hc hd)
 |agg h=>obtain⟨cs,rfl,h2⟩:=hd;exact⟨cs,rfl,h.den hA hg h2⟩
theorem RnVs.den{A A':Foot}{r n r' n':Nat}{w:World}(hA:∀k j,A k j->A' k j)(hg:∀u,A.g r n=some u->A'.g r' n'=some u){xs xs':List V}(h:RnVs r n r' n' xs xs'):∀{vs:List Value},denVs A xs vs w->denVs A' xs' vs w:=by
 induction h with
 |nil=>
  intro vs hd
  cases vs with
  |nil=>trivial
  |cons c cs=>exact hd.elim
 |cons h hs ih=>
  intro vs hd
  cases vs with
  |nil=>exact hd.elim
  |cons c cs=>exact⟨h.den hA hg hd.1,ih hd.2⟩
def CtrO(P:Program)(f u sz:Nat)(ls ls':List Leaf)(xs:List V)(y:Nat->V):Prop:=
 ∀(E:Env) (vs:List Value) (w:World),Good ⟨w,fun k=>E.nil 0=false/\k=E.b 0,fun _=>none⟩ (Foot.of E.A.c) 0 [] [some ⟨u,ls,some sz,some (.inr (ls.length,some 0))⟩] E ⟨#[],[]⟩ w->denVs E.A xs vs w →
  Calls P f vs.toArray w fun e w'=>∃v E' n1,e = .returned v/\Good ⟨w,fun k=>E.nil 0=false/\k=E.b 0,fun _=>none⟩ (Foot.of E.A.c) 0 [] [some ⟨u,ls',some sz,some (.inr (ls'.length,some n1))⟩] E' ⟨#[],[]⟩ w'/\(y n1).den E'.A v w'
def zwF(P:Program)(fn:Func)(w0:Frm)(A0:Foot)(u sz:Nat)(ls':List Leaf)(y:Nat->V):Exit->Act->World->Prop:=
 bodyPost P fn fun e w'=>∃v E' n1,e = .returned v/\Good w0 A0 0 [] [some ⟨u,ls',some sz,some (.inr (ls'.length,some n1))⟩] E' ⟨#[],[]⟩ w'/\(y n1).den E'.A v w'
section
variable {P:Program}{ops:Array Oper}{o:Oper}{Γ:Gam}{H:Hp}
theorem CtrO.of_body{f N u sz:Nat}{fn:Func}{c:Code}{ls ls':List Leaf}{xs:List V}{y:Nat->V}(hf:P.funcs[f]?=some fn)(hb:fn.body=some c)(hN:fn.ntmps=N)(hl:xs.length<=min N 2000)
  (h:∀w0 A0,Tc P (zwF P fn w0 A0 u sz ls' y) w0 A0 N (zdD 0 xs) [some ⟨u,ls,some sz,some (.inr (ls.length,some 0))⟩] c):CtrO P f u sz ls ls' xs y:=by
 intro E vs w hG hd;have hlen:=hd.length;refine calls_of_wp hf hb ?_;refine h _ _ _ _ ⟨E,hG.below,hG.foot,hG.foot0,rfl,?_,?_,hG.boxes,hG.apart,hG.kn,hG.gd,hG.old⟩
 .simp;omega
 .intro s d hs;obtain⟨x,v,rfl,_,h2,h3⟩:=zb7 xs vs 0 s d hd hs;refine⟨trivial,v,?_,h3⟩;simp only[Nat.sub_zero] at h2;have hlt:=(zxc.1 h2).1;rw[zbA (by simp;omega),Array.getElem?_append_left (by simpa using hlt)];simpa using h2
theorem zhN{Q:Exit->Act->World->Prop}{w0:Frm}{A0:Foot}{N u sz n1 k:Nat}{fn:Func}{y:Nat->V}{x:V}{r:ResultVar}{ls ls':List Leaf}(hQ:∀a w,zwF P fn w0 A0 u sz ls' y .ret a w->Q .ret a w)
  (hr:fn.results = #[r]) (h:zfk P Γ H r x) (hy:x=y n1) (hH:H[0]?=some (some ⟨u,ls,some sz,some (.inr (k,some n1))⟩)) (hls:ls=ls') (hk:k=ls.length:=by rfl) (hcx:RnV 0 n1 0 n1 x x:=by intros;repeat (first|exact RnL.nil|exact RnVs.nil|exact RnV.own|exact RnV.one rfl|refine RnV.agg ?_|refine RnVs.cons ?_ ?_|refine RnL.own ?_|refine RnL.cl rfl ?_)) (hcl:clL ls=true:=by rfl):Tc P Q w0 A0 N Γ H .ret:=by
 intro a w hSt;obtain⟨E,hG⟩:=hSt;obtain⟨v,hv,hd⟩:=zbu hG h;subst hls hk
 let A':Foot:=⟨E.A.c,fun i m=>if i=0 then E.A.g i m else none⟩
 have hE:∀i,i=0->(A'.g i=E.A.g i):=fun i hi=>by subst hi;rfl
 have back:∀(i:Nat) (e:HE),([some ⟨u,ls,some sz,some (.inr (ls.length,some n1))⟩]:Hp)[i]?=some (some e)->i=0/\H[i]?=some (some e):=by
  intro i e he
  match i,he with
  |0,he=>simp only[List.getElem?_cons_zero,zxd] at he;subst he;exact⟨rfl,hH⟩
  |i+1,he=>simp at he
 refine wp_ret (hQ a w ⟨hG.defers,v,?_,v,{ E with A:=A' },n1,rfl,⟨hG.below,hG.foot,hG.foot0,rfl,rfl,fun s d hs=>by simp[zbm] at hs,fun i e he=>?_,fun i j e e' hi hj _ _ hij=>?_,fun i e m he hm=>?_,fun i m v hv=>?_,hG.old⟩,?_⟩)
 .rw[zba,hr];simp[hv]
 .obtain⟨rfl,h1⟩:=back i e he;obtain⟨g1,g2⟩:=hG.boxes 0 e h1;refine⟨?_,g2⟩;rw[hH] at h1;cases h1;unfold HE.ok at g1 ⊢;simp only at g1 ⊢;cases hn:E.nil 0
  .simp only[hn,zxw,if_false] at g1 ⊢;obtain⟨q1,cs,rest,q2,q3,q4⟩:=g1;exact⟨q1,cs,rest,q2,q3,(q4.pure hcl).mono (Foot.le.pure fun _ _ x=>x)⟩
  .simp only[hn,if_true] at g1 ⊢;exact g1
 .obtain⟨rfl,_⟩:=back i e hi;obtain⟨rfl,_⟩:=back j e' hj;exact absurd rfl hij
 .obtain⟨rfl,h1⟩:=back i e he;exact hG.kn 0 e m h1 hm
 .have hv:(if i=0 then E.A.g i m else none)=some v:=hv;by_cases hi:i=0
  .subst hi;exact⟨_,_,_,rfl,rfl⟩
  .rw[if_neg hi] at hv;simp at hv
 .rw[<-hy];exact hcx.den (A:=E.A) (A':=A') (fun _ _ x=>x) (fun u (hu:E.A.g 0 n1=some u)=>(show A'.g 0 n1=some u from hu)) hd
theorem zdj{f r n sz k u:Nat}{args:Array Operand}{tys:Array TypeId}{ys xs:List V}{y:Nat->V}(y':V){ls ls':List Leaf}(ho:o.op = .call { callee:=.value (.func f),args:=args,argTypes:=tys })(hf:zay P f)(hx:zcE Γ args.toList=some ys)
  (hi:H[r]?=some (some ⟨u,ls,some sz,some (.inr (k,some n))⟩)) (hspec:CtrO P f u sz ls ls' xs y) (hle:ls.length<=ls'.length) (hxs:RnVs r n 0 0 ys xs:=by intros;repeat (first|exact RnL.nil|exact RnVs.nil|exact RnV.own|exact RnV.one rfl|refine RnV.agg ?_|refine RnVs.cons ?_ ?_|refine RnL.own ?_|refine RnL.cl rfl ?_)) (hy:∀n1,RnV 0 n1 r (n+1) (y n1) y':=by intros;repeat (first|exact RnL.nil|exact RnVs.nil|exact RnV.own|exact RnV.one rfl|refine RnV.agg ?_|refine RnVs.cons ?_ ?_|refine RnL.own ?_|refine RnL.cl rfl ?_)) (hk:k=ls.length:=by rfl)
  (hcl:clL ls=true:=by first|rfl|exact El.all_cl _ _) (hcl':clL ls'=true:=by first|rfl|exact El.all_cl _ _) :
  Je P ops o Γ H (some (D.v y')) (H.set r (some ⟨u,ls',some sz,some (.inr (ls'.length,some (n+1)))⟩)):=by
 intro w0 A0 N Γ2 a w Q K hs hN hSt hK;obtain⟨E,hG⟩:=hSt;obtain⟨fn,hfn,hb,hnn⟩:=hf;subst hk;have hyd:=zbo (Γ:=Γ) (E:=E) (a:=a) (w:=w) args.toList ys (fun x hx d hd=>(za1 hs hG (x:=x) (by rw[ho];simp[Op.operands,Call.operands];exact .inr (by simpa using hx)) hd).2) hx;have hrun:(execOp a.eval o).run P w = .ok (.enter f (args.map a.eval)) w:=by
  have hn':¬fn.name = "runtime.NumGoroutine":=by simpa using hnn
  have hb':¬fn.body=none:=by intro e;rw[e] at hb;simp at hb
  simp[execOp,ho,resolve,Deferred.ofValue,invoke,callFunc,hfn,hn',hb',Act.eval]
 unfold Oper.wp;rw[hrun,Oper.upon_enter];obtain⟨g1,g2⟩:=hG.boxes r _ hi;obtain⟨kn1,kn2,kn3⟩:=hG.kn r _ n hi ⟨_,rfl⟩
 let Ac:Foot:=⟨E.A.c,fun i m=>if i=0/\m=0 then E.A.g r n else none⟩
 let Ec:Env:=⟨fun _=>E.b r,fun _=>E.cap r,fun _=>E.nil r,Ac⟩
 have hne:∀p∈tab,¬(E.nil r=false/\p.1=E.b r):=by
  rintro q hq ⟨hn,e''⟩;have h1:=(hG.below.glob q hq).1;have h2:=hG.below.apart q hq;rw[e''] at h1 h2;rcases(g2 hn).1 with b1|b1
  .omega
  .exact h2 b1
 have hGc:Good ⟨w,fun k=>Ec.nil 0=false/\k=Ec.b 0,fun _=>none⟩ (Foot.of Ec.A.c) 0 [] [some ⟨u,ls,some sz,some (.inr (ls.length,some 0))⟩] Ec ⟨#[],[]⟩ w:=by
  refine⟨Frm.Bel.refl ⟨w,fun k=>E.nil r=false/\k=E.b r,fun _=>none⟩ hG.below.now hne,hG.foot,fun k j hk=>.inl hk,rfl,rfl,fun s d hs=>by simp[zbm] at hs,fun i e he=>?_,fun i j e e' hi hj _ _ hij=>?_,fun i e m he hm=>?_,fun i m v hv=>?_,fun k j hk=>⟨hk,rfl⟩⟩
  .match i,he with
   |0,he=>
    simp only[List.getElem?_cons_zero,zxd] at he;subst he;refine⟨?_,fun hn=>⟨.inr ⟨hn,rfl⟩,(g2 hn).2⟩⟩;unfold HE.ok at g1 ⊢;simp only at g1 ⊢;cases hn:E.nil r
    .simp only[hn,zxw,if_false,Ec] at g1 ⊢;obtain⟨q1,cs,rest,q2,q3,q4⟩:=g1;exact⟨q1,cs,rest,q2,q3,(q4.pure hcl).mono (Foot.le.pure fun _ _ x=>x)⟩
    .simp only[hn,if_true,Ec] at g1 ⊢;exact g1
   |i+1,he=>simp at he
  .have h1:=(zxc.1 hi).1;have h2:=(zxc.1 hj).1;simp at h1 h2;omega
  .match i,he with
   |0,he=>
    simp only[List.getElem?_cons_zero,zxd] at he;subst he;obtain⟨k',hm⟩:=hm;simp only[zxd,Sum.inr.injEq,zxf] at hm;obtain⟨_,rfl⟩:=hm;refine⟨?_,fun m' hm'=>?_,kn3⟩
    .show(if 0=0/\0=0 then E.A.g r n else none)=_;rw[if_pos ⟨rfl,rfl⟩,kn1];rfl
    .show(if 0=0/\m'=0 then E.A.g r n else none)=none;rw[if_neg (fun e=>by omega)]
   |i+1,he=>simp at he
  .have hv:(if i=0/\m=0 then E.A.g r n else none)=some v:=hv;by_cases hi:i=0/\m=0
   .obtain⟨rfl,rfl⟩:=hi;exact⟨_,_,_,rfl,rfl⟩
   .rw[if_neg hi] at hv;simp at hv
 have hdc:denVs Ec.A xs (args.toList.map a.eval) w:=hxs.den (A:=E.A) (A':=Ec.A) (fun _ _ x=>x) (fun v hv=>by
  show(if 0=0/\0=0 then E.A.g r n else none)=_;rw[if_pos ⟨rfl,rfl⟩];exact hv) hyd
 have hcall:=hspec Ec (args.toList.map a.eval) w hGc hdc;rw[show(args.toList.map a.eval).toArray=args.map a.eval from by
  apply Array.toList_inj.1;simp] at hcall
 refine Calls.mono hcall ?_;rintro e' w' ⟨v,E',n1,rfl,hG',hyd'⟩;obtain⟨f1,f2⟩:=hG'.boxes 0 _ rfl;obtain⟨kf1,kf2,kf3⟩:=hG'.kn 0 _ n1 rfl ⟨_,rfl⟩;have hbel:=hG'.below;have hkA:kept E.A w w':=fun k j hA=>(hG'.old k j hA).2;have hblk:∀k,k<w.heap.size->¬(E.nil r=false/\k=E.b r)->w'.heap[k]?=w.heap[k]?:=fun k h1 h2=>hbel.block k h1 h2;have hmine:∀b,w0.w.heap.size<=b\/w0.X b\/¬(E.nil r=false/\b=E.b r):=by
  intro b;by_cases hc:E.nil r=false/\b=E.b r
  .rw[hc.2];rcases(g2 hc.1).1 with h|h
   .exact .inl h
   .exact .inr (.inl h)
  .exact .inr (.inr hc)
 have hbel0:w0.Bel w':=by
  refine⟨hbel.os.trans hG.below.os,hbel.tape.trans hG.below.tape,hbel.output.trans hG.below.output,zxk hG.below.size hbel.size,fun k h1 h2=>?_,fun k cs t m h1 h2=>?_,hG.below.glob,hG.below.apart⟩
  .rw[hblk k (zxj h1 hG.below.size) (fun hc=>by
    rcases hmine k with h|h|h
    .omega
    .exact h2 h
    .exact h hc)]
   exact hG.below.block k h1 h2
  .obtain⟨cs2,k1,k2⟩:=hG.below.sizes k cs t m h1 h2;by_cases hc:E.nil r=false/\k=E.b r
   .obtain⟨cs3,k3,k4⟩:=hbel.sizes k cs2 t m hc k1;exact⟨cs3,k3,k4.trans k2⟩
   .exact⟨cs2,by rw[hblk k (zxz.1 k1).1 hc];exact k1,k2⟩
 obtain⟨E2,hg2,hv2,hle2,hA2⟩:=hG.regrowG (w':=w') (ls':=ls') (b':=E'.b 0) (cap':=E'.cap 0) (nl':=E'.nil 0) (v':=HE.name E' 0 ⟨u,ls',some sz,some (.inr (ls'.length,some n1))⟩) E'.A.c
  (fun x j hx=>⟨hG'.foot x j hx,by
   rcases hG'.foot0 x j hx with h|h|h
   .exact .inl h
   .exact .inr (.inl h)
   .exact .inr (.inr h)⟩) hi rfl rfl hbel0 hbel.size hkA
  (fun j e' hj hj' hn=>hblk _ (HE.ok_lt (hG.boxes j e' hj').1 hn) (fun hc=>hG.apart j r e' _ hj' hi hn hc.1 hj hc.2))
  (by
   unfold HE.ok at f1;simp only at f1;cases hn:E'.nil 0
   .simp only[hn,zxw,if_false] at f1 ⊢;obtain⟨q1,cs,rest,q2,q3,q4⟩:=f1;exact⟨q1,cs,rest,q2,q3,(q4.pure hcl').mono (Foot.le.pure fun _ _ x=>Or.inr x)⟩
   .simp only[hn,if_true] at f1 ⊢;exact f1)
  (fun hn=>by
   rcases(f2 hn).1 with h|⟨h1,h2⟩
   .exact .inl (zxk hG.below.size h)
   .have h2:E'.b 0=E.b r:=h2;rw[h2];exact(g2 h1).1)
  (fun hn j hj=>⟨fun hA=>by
   rcases(f2 hn).1 with h|⟨h1,h2⟩
   .have h:w.heap.size<=E'.b 0:=h;have:=hG.foot _ _ hA;omega
   .have h2:E'.b 0=E.b r:=h2;rw[h2] at hA;exact(g2 h1).2 j (zxk hle hj) hA,(f2 hn).2 j hj⟩)
  (fun hn j e' hj hj' hnj hb=>by
   rcases(f2 hn).1 with h|⟨h1,h2⟩
   .have h:w.heap.size<=E'.b 0:=h;have:=HE.ok_lt (hG.boxes j e' hj').1 hnj;omega
   .have h2:E'.b 0=E.b r:=h2;exact hG.apart j r e' _ hj' hi hnj h1 hj (hb.trans h2))
  rfl
 exact hK _ _ ⟨E2,hg2.put (fun d hd=>by
  cases hd;exact⟨trivial,(hy n1).den hA2 (fun v hv=>by rw[hv2,<-kf1];exact hv) hyd'⟩) hN⟩
end
section
variable {P:Program}{ops:Array Oper}{X:List Nat}{o:Oper}{Γ:Gam}{H:Hp}
def CtrP(P:Program)(f t:Nat)(ls ls':List Leaf)(xs:List V)(y:R):Prop:=
 ∀(w:World) (vs:List Value) (A:zbG) (b:Nat) (cs:List Value),zoP w->(∀p∈tab,p.1≠b)->(∀k j,A k j->k<w.heap.size)->(∀j,¬A b j)->w.heap[b]?=some (.cells cs.toArray t (0,0)) →
  denL (Foot.of A) ls cs w->denVs (Foot.of A) xs vs w →
  Calls P f (.pointer (some ⟨b,0,none⟩)::vs).toArray w fun e w'=>∃v,e = .returned v/\y.den (zct (Foot.of A) w w') v w'/\Frm.Bel ⟨w,(· = b),fun _=>none⟩ w' ∧
   ∃cs',w'.heap[b]?=some (.cells cs'.toArray t (0,0))/\denL (zct (Foot.of A) w w') ls' cs' w'
def zwE(P:Program)(fn:Func)(w0:Frm)(A0:Foot)(y:R)(t b:Nat)(ls':List Leaf):Exit->Act->World->Prop:=
 bodyPost P fn fun e w'=>∃v,e = .returned v/\y.den (zct (Foot.of A0.c) w0.w w') v w'/\w0.Bel w'/\∃cs',w'.heap[b]?=some (.cells cs'.toArray t (0,0))/\denL (zct (Foot.of A0.c) w0.w w') ls' cs' w'
theorem CtrP.of_body{f N t:Nat}{fn:Func}{c:Code}{ls ls':List Leaf}{xs:List V}{y:R}(hf:P.funcs[f]?=some fn)(hb:fn.body=some c)(hN:fn.ntmps=N)(hl:xs.length+1<=min N 2000)
  (h:∀(w0:Frm) A0 b,(∀k,w0.X k->k=b)->Tc P (zwE P fn w0 A0 y t b ls') w0 A0 N ((0,some (D.ptr 0 0))::zdD 1 xs) [some ⟨t,ls,none,some (.inl b)⟩] c):CtrP P f t ls ls' xs y:=by
 intro w vs A b cs hg hgb hA hAb hheap hd hvs;have hlv:=hvs.length;have hdl:=hd.length;refine calls_of_wp hf hb ?_;refine h ⟨w,(· = b),fun _=>none⟩ (Foot.of A) b (fun _ h=>h) _ _ ⟨⟨fun _=>b,fun _=>0,fun _=>false,Foot.of A⟩,Frm.Bel.refl ⟨w,(· = b),fun _=>none⟩ hg hgb,hA,fun k j hk=>.inl hk,rfl,?_,?_,?_,?_,?_,fun i m v hv=>by simp at hv,fun k j hk=>⟨hk,rfl⟩⟩
 .simp;omega
 .intro s d hs;by_cases hs0:0=s
  .subst hs0;rw[zar] at hs;cases hs;refine⟨⟨_,rfl,rfl⟩,.pointer (some ⟨b,0,none⟩),?_,rfl⟩;rw[zbA rfl,Array.getElem?_append_left (by simp)];simp
  .rw[zaB hs0] at hs;obtain⟨x,v,rfl,h1,h2,h3⟩:=zb7 xs vs 1 s d hvs hs;refine⟨trivial,v,?_,h3⟩;have hlt:=(zxc.1 h2).1;rw[zbA (by simp;omega),Array.getElem?_append_left (by simp;omega)];obtain⟨s',rfl⟩:∃s',s=s'+1:=⟨s-1,by omega⟩;simpa using h2
 .intro i e he
  match i,he with
  |0,he=>
   simp only[List.getElem?_cons_zero,zxd] at he;subst he;refine⟨?_,fun _=>⟨⟨rfl,.inr rfl⟩,fun j _=>hAb j⟩⟩;exact⟨rfl,cs,hheap,hd⟩
  |i+1,he=>simp at he
 .intro i j e e' hi hj _ _ hij;have h1:=(zxc.1 hi).1;have h2:=(zxc.1 hj).1;simp at h1 h2;omega
 .intro i e v he hp
  match i,he with
  |0,he=>
   simp only[List.getElem?_cons_zero,zxd] at he;subst he;simp at hp
  |i+1,he=>simp at he
theorem zaN{f:Nat}{x:Operand}{args:Array Operand}{ys:List Operand}{tys:Array TypeId}{xs:List V}{y:R}{i t:Nat}{ls ls':List Leaf}{p:Option (Nat ⊕ (Nat×Option Nat))}(ho:o.op = .call { callee:=.value (.func f),args:=args,argTypes:=tys })(hf:zay P f)
  (hargs:args.toList=x::ys) (hx:opD Γ x=some (D.ptr i 0)) (hi:H[i]?=some (some ⟨t,ls,none,p⟩)) (hys:zcE Γ ys=some xs) (hspec:CtrP P f t ls ls' xs y) (hp0:∀k n,p≠some (.inr (k,some n)):=by exact fun _ _ h=>by simp at h) (hfz0:(⟨t,ls,none,p⟩:HE).fz=0:=by rfl) (hcl:clL ls=true:=by rfl) (hcx:zgd xs=true:=by rfl) :
  Je P ops o Γ H (some y.toD) (H.set i (some ⟨t,ls',none,p⟩)):=by
 intro w0 A0 N Γ2 a w Q K hs hN hSt hK;obtain⟨E,hG⟩:=hSt;obtain⟨fn,hfn,hb,hn⟩:=hf;have hmem:∀z∈args.toList,z∈o.op.operands:=by
  intro z hz;rw[ho];simp[Op.operands,Call.operands];exact .inr (by simpa using hz)
 have hat:=fun z (hz:z∈args.toList) d hd=>(za1 hs hG (x:=z) (hmem z hz) hd (d:=d)).2;have hxd:=hat x (by rw[hargs];simp) _ hx;have hyd:=zbo (Γ:=Γ) (E:=E) (a:=a) (w:=w) ys xs (fun z hz d hd=>hat z (by rw[hargs];simp[hz]) d hd) hys;have hrun:(execOp a.eval o).run P w = .ok (.enter f (args.map a.eval)) w:=by
  have hn':¬fn.name = "runtime.NumGoroutine":=by simpa using hn
  have hb':¬fn.body=none:=by intro e;rw[e] at hb;simp at hb
  simp[execOp,ho,resolve,Deferred.ofValue,invoke,callFunc,hfn,hn',hb',Act.eval]
 unfold Oper.wp;rw[hrun,Oper.upon_enter];obtain⟨g1,g2⟩:=hG.boxes i _ hi;obtain⟨hnl,cs,hc,hd⟩:=HE.box g1 rfl;obtain⟨b1,b2'⟩:=g2 hnl;have b2:∀j,¬E.A (E.b i) j:=fun j=>b2' j (by rw[hfz0];exact zxg _);have hxd:a.eval x = .pointer (some ⟨E.b i,0,none⟩):=hxd;have hne:∀p∈tab,p.1≠E.b i:=by
  intro q hq e'';have h1:=(hG.below.glob q hq).1;have h2:=hG.below.apart q hq;rw[e''] at h1 h2
  cases hp:p with
  |none=>rw[hp] at b1;have:w0.w.heap.size<=E.b i:=b1;omega
  |some q'=>
   rw[hp] at b1
   cases q' with
   |inl q'=>
    obtain⟨h5,h6⟩:=b1;rw[h5] at h2 h1;rcases h6 with h6|h6
    .omega
    .exact h2 h6
   |inr q'=>
    rcases b1 with b1|b1
    .omega
    .exact h2 b1
 have hcall:=hspec w (ys.map a.eval) E.A.c (E.b i) cs hG.below.now hne hG.foot b2 hc (hd.pure hcl) (hyd.pure hcx);rw[show(Value.pointer (some ⟨E.b i,0,none⟩)::ys.map a.eval).toArray=args.map a.eval from by
  apply Array.toList_inj.1;simp[hargs,hxd]] at hcall
 refine Calls.mono hcall ?_;rintro e' w' ⟨v,rfl,hy,hbel,cs',hc',hd'⟩;have hil:i<H.length:=(zxc.1 hi).1;have hwlt:E.b i<w.heap.size:=(zxz.1 hc).1;have hsz:cs'.length=cs.length:=by
  obtain⟨cs2,k1,k2⟩:=hbel.sizes (E.b i) _ _ _ rfl hc;rw[hc'] at k1;cases k1;simpa using k2
 have hk:∀k,k<w.heap.size->k≠E.b i->w'.heap[k]?=w.heap[k]?:=fun k hk hne=>hbel.block k hk hne;have hkA:kept E.A w w':=zcr fun k j hA=>hk k (hG.foot k j hA) (fun e=>b2 j (e ▸ hA));have hmA:Foot.le E.A (zct E.A w w'):=zhy _ _ _;have hgb:∀b j,b<w.heap.size->¬E.A b j->¬zct E.A w w' b j:=fun b j h1 h2 h3=>by
  rcases h3 with h3|h3
  .exact h2 h3
  .omega
 have hnoX:∀k,k<w0.w.heap.size->¬w0.X k->k≠E.b i:=by
  intro k hk hx e'';subst e''
  cases hp:p with
  |none=>rw[hp] at b1;have:w0.w.heap.size<=E.b i:=b1;omega
  |some q=>
   rw[hp] at b1
   cases q with
   |inl q=>
    obtain⟨h5,h6⟩:=b1;rw[h5] at hx hk;rcases h6 with h6|h6
    .omega
    .exact hx h6
   |inr q=>
    rcases b1 with b1|b1
    .omega
    .exact hx b1
 refine hK _ _ ⟨{ E with A:=zct E.A w w' },Good.put (H:=H.set i (some ⟨t,ls',none,p⟩)) ?_ (fun d hd=>by cases hd;exact⟨R.toD_okn,R.toD_den (R.den_mono (zbE _ _ _) hy)⟩) hN⟩;have hs0:=hG.below.size;refine⟨⟨hbel.os.trans hG.below.os,hbel.tape.trans hG.below.tape,hbel.output.trans hG.below.output,zxk hs0 hbel.size,fun k h1 h2=>?_,fun k cs1 t1 m1 h1 h2=>?_,hG.below.glob,hG.below.apart⟩,?_,?_,hG.defers,hG.size,?_,?_,?_,?_,?_,hG.old.keep hmA.1 hkA⟩
 .rw[hk k (zxj h1 hs0) (hnoX k h1 h2)];exact hG.below.block k h1 h2
 .obtain⟨cs2,k1,k2⟩:=hG.below.sizes k cs1 t1 m1 h1 h2;by_cases hkb:k=E.b i
  .subst hkb;rw[hc] at k1;cases k1;exact⟨_,hc',by rw[<-k2];simp[hsz]⟩
  .exact⟨cs2,by rw[hk k (zxz.1 k1).1 hkb];exact k1,k2⟩
 .intro k j hk;rcases hk with hk|hk
  .exact zxj (hG.foot k j hk) hbel.size
  .exact hk.2
 .intro k j hk;rcases hk with hk|hk
  .exact hG.foot0 k j hk
  .exact .inr (.inl (zxk hs0 hk.1))
 .intro s d hs;obtain⟨ho',v,hv,hd⟩:=hG.slots s d hs;exact⟨ho'.mono_set (fun e0 h0 h1=>by rw[hi] at h0;cases h0;exact h1),v,hv,D.den_grow hmA (D.den_keep hkA hd)⟩
 .intro j e he;by_cases hj:i=j
  .subst hj;rw[zxs hil] at he;simp only[zxd] at he;subst he;refine⟨?_,fun _=>⟨b1,fun j _=>hgb _ j hwlt (b2 j)⟩⟩;exact⟨hnl,cs',hc',hd'.mono (zbE _ _ _)⟩
  .rw[zxp hj] at he;obtain⟨k1,k2⟩:=hG.boxes j e he;have hlt:E.nil j=false->E.b j<w.heap.size:=fun hnj=>HE.ok_lt k1 hnj;have hsame:E.nil j=false->w'.heap[E.b j]?=w.heap[E.b j]?:=fun hnj=>hk _ (hlt hnj) (fun hb=>hG.apart i j _ e hi he hnl hnj hj hb.symm);exact⟨HE.ok_grow hmA (HE.ok_keep hkA hsame k1),fun hnj=>⟨(k2 hnj).1,fun jj hjj=>hgb _ jj (hlt hnj) ((k2 hnj).2 jj hjj)⟩⟩
 .intro j1 j2 e1 e2 he1 he2 hn1 hn2 h12;have back:∀(j:Nat) (e1:HE),(H.set i (some ⟨t,ls',none,p⟩))[j]?=some (some e1)->∃e2,H[j]?=some (some e2):=by
   intro j e1 h1;by_cases hj:i=j
   .subst hj;exact⟨_,hi⟩
   .rw[zxp hj] at h1;exact⟨e1,h1⟩
  obtain⟨e1',g1⟩:=back j1 e1 he1;obtain⟨e2',g2⟩:=back j2 e2 he2;exact hG.apart j1 j2 e1' e2' g1 g2 hn1 hn2 h12
 .intro j e v he hp;by_cases hj:i=j
  .subst hj;rw[zxs hil] at he;simp only[zxd] at he;subst he;simp only at hp;obtain⟨k,hp⟩:=hp;exact absurd hp (hp0 k v)
  .rw[zxp hj] at he;exact⟨(hG.kn j e v he hp).1,(hG.kn j e v he hp).2.1,fun hn j' hj'=>.inl ((hG.kn j e v he hp).2.2 hn j' hj')⟩
 .intro j m v hv;obtain⟨e1,k,n,h5,h6⟩:=hG.gd j m v hv;by_cases hj:i=j
  .subst hj;rw[hi] at h5;cases h5;exact absurd h6 (hp0 k n)
  .exact⟨e1,k,n,by rw[zxp hj];exact h5,h6⟩
theorem zea{Q:Exit->Act->World->Prop}{w0:Frm}{A0:Foot}{N t b:Nat}{fn:Func}{y:R}{r:ResultVar}{x:V}{ls':List Leaf}(hQ:∀a w,zwE P fn w0 A0 y t b ls' .ret a w->Q .ret a w)
  (hr:fn.results = #[r]) (h:zfk P Γ H r x) (hy:R.one x=y) {ls:List Leaf} (hH:H[0]?=some (some ⟨t,ls,none,some (.inl b)⟩)) (hls:ls=ls') (hX:∀k,w0.X k->k=b) (hcx:x.cl=true:=by rfl) (hcl:clL ls=true:=by rfl):Tc P Q w0 A0 N Γ H .ret:=by
 intro a w hSt;obtain⟨E,hG⟩:=hSt;obtain⟨v,hv,hd⟩:=zbu hG h;obtain⟨g1,g2⟩:=hG.boxes 0 _ hH;obtain⟨hn,cs,hc,hcd⟩:=HE.box g1 rfl;have hb:E.b 0=b:=(g2 hn).1.1;have hout:=hG.out0 hX (fun j=>by rw[<-hb];exact(g2 hn).2 j (zxg _));rw[hb] at hc;subst hls;refine wp_ret (hQ a w ⟨hG.defers,v,?_,v,rfl,?_,hG.below,cs,hc,(hcd.pure hcl).mono hout⟩)
 .rw[zba,hr];simp[hv]
 .subst hy;exact V.den_mono hout (V.den_pure hcx hd)
theorem zi6{Q:Exit->Act->World->Prop}{w0:Frm}{A0:Foot}{N:Nat}{c:Code}(j:Nat){t:Nat}{ls:List Leaf}(hj:H[j]?=some (some ⟨t,ls,none,none⟩))(h:∀q,Tc P Q w0 A0 N Γ (H.set j (some ⟨t,ls,none,some (.inl q)⟩)) c):Tc P Q w0 A0 N Γ H c:=by
 intro a w hSt;obtain⟨E,hG⟩:=hSt;have hjl:=(zxc.1 hj).1;have back:∀(i:Nat) (e:HE),(H.set j (some ⟨t,ls,none,some (.inl (E.b j))⟩))[i]?=some (some e)->(i=j/\e=⟨t,ls,none,some (.inl (E.b j))⟩)\/(j≠i/\H[i]?=some (some e)):=by
  intro i e he;by_cases hij:j=i
  .subst hij;rw[zxs hjl] at he;simp only[zxd] at he;exact .inl ⟨rfl,he.symm⟩
  .rw[zxp hij] at he;exact .inr ⟨hij,he⟩
 have get:∀(i:Nat) (e:HE),(H.set j (some ⟨t,ls,none,some (.inl (E.b j))⟩))[i]?=some (some e)->∃e2,H[i]?=some (some e2):=by
  intro i e he;rcases back i e he with⟨rfl,_⟩|⟨_,h2⟩
  .exact⟨_,hj⟩
  .exact⟨e,h2⟩
 refine h (E.b j) a w ⟨E,hG.below,hG.foot,hG.foot0,hG.defers,hG.size,fun s d hs=>?_,fun i e he=>?_,fun i i' e e' h1 h2=>?_,fun i e m he hm=>?_,fun i m v hv=>?_,hG.old⟩
 .obtain⟨ho,v,hv,hd⟩:=hG.slots s d hs;exact⟨ho.mono_set (fun _ _ _=>rfl),v,hv,hd⟩
 .rcases back i e he with⟨rfl,rfl⟩|⟨_,h2⟩
  .obtain⟨g1,g2⟩:=hG.boxes i _ hj;exact⟨g1,fun hn=>⟨⟨rfl,.inl (g2 hn).1⟩,(g2 hn).2⟩⟩
  .exact hG.boxes i e h2
 .obtain⟨e2,k2⟩:=get _ _ h1;obtain⟨e3,k3⟩:=get _ _ h2;exact hG.apart i i' e2 e3 k2 k3
 .rcases back i e he with⟨rfl,rfl⟩|⟨_,h2⟩
  .obtain⟨k,hm⟩:=hm;simp at hm
  .exact hG.kn i e m h2 hm
 .obtain⟨e1,k,n,h5,h6⟩:=hG.gd i m v hv;by_cases hij:j=i
  .subst hij;rw[hj] at h5;cases h5;simp at h6
  .exact⟨e1,k,n,by rw[zxp hij];exact h5,h6⟩
def zn0(H:Hp)(d:D)(v:Value):Prop:=(d=D.val v/\v.oneCell'=true) \/ ∃(j:Nat) (e:HE) (q:Nat),d=D.ptr j 0/\H[j]?=some (some e)/\e.row=none/\e.pin=some (.inl q)/\v = .pointer (some ⟨q,0,none⟩)
def znY(Γ:Gam)(H:Hp):List Operand->List Value->Prop
 |[],[]=>True
 |x::xs,v::vs=>(∃d,opD Γ x=some d/\zn0 H d v)/\znY Γ H xs vs
 |[],_::_=>False
 |_::_,[]=>False
theorem ziW{w0:Frm}{A0:Foot}{N:Nat}{Γ2:Gam}{E:Env}{a:Act}{w:World}(hG:Good w0 A0 N Γ2 H E a w){d:D}{v u:Value}(hc:zn0 H d v):d.den E u w↔u=v:=by
 rcases hc with⟨rfl,h1⟩|⟨j,e,q,rfl,h1,h2,h3,rfl⟩
 .exact⟨fun h=>h.1,fun h=>⟨h,h ▸ h1⟩⟩
 .obtain⟨g1,g2⟩:=hG.boxes j e h1;have hn:E.nil j=false:=by
   unfold HE.ok at g1;rw[h2] at g1;exact g1.1
  have hb:=(g2 hn).1;rw[h3] at hb;obtain⟨hb,_⟩:=hb;show u = .pointer (some ⟨E.b j,0,none⟩)↔_;rw[hb]
theorem znZ{d:D}{v:Value}(hc:zn0 H d v):d.okn H:=by
 rcases hc with⟨rfl,h1⟩|⟨j,e,q,rfl,h1,h2,h3,rfl⟩
 .trivial
 .exact⟨e,h1,by unfold HE.ver;rw[h3]⟩
theorem zge{w0:Frm}{A0:Foot}{N:Nat}{Γ2:Gam}{E:Env}{a:Act}{w:World}(hG:Good w0 A0 N Γ2 H E a w):∀{xs:List Operand} {vs:List Value},(∀x∈xs,∀d,opD Γ x=some d->d.den E (a.eval x) w)->znY Γ H xs vs->xs.map a.eval=vs
 |[],[],_,_=>rfl
 |x::xs,v::vs,hd,h=>by
  obtain⟨⟨d,h1,h2⟩,h3⟩:=h;have:=(ziW hG h2).1 (hd x (by simp) d h1);rw[List.map_cons,this,zge hG (fun y hy=>hd y (by simp[hy])) h3]
 |[],_::_,_,h=>h.elim
 |_::_,[],_,h=>h.elim
theorem zjZ{f:Nat}{captured:Array Operand}{vs:List Value}(ho:o.op = .makeFunc (.func f) #[] captured)(hc:znY Γ H captured.toList vs):Je P ops o Γ H (some (D.val (.func (.func f) #[] vs.toArray))) H:=by
 intro w0 A0 N Γ2 a w Q K hs hN hSt hK;obtain⟨E,hG⟩:=hSt;have hv:=zge (Γ:=Γ) hG (fun x hx d hd=>(za1 hs hG (x:=x) (by rw[ho];simpa[Op.operands] using hx) hd).2) hc;refine zaS (v:=.func (.func f) #[] vs.toArray) (w':=w) ?_ (hK _ _ ⟨E,hG.put (fun d hd=>by cases hd;exact⟨trivial,rfl,rfl⟩) hN⟩);have:captured.map a.eval=vs.toArray:=by apply Array.toList_inj.1;simpa using hv
 simp[execOp,ho,Instr.makeFunc,this]
theorem zld{f:Nat}{x:Operand}{args:Array Operand}{tys:Array TypeId}{xs:List V}{y:R}(ho:o.op = .call { callee:=.value x,args:=args,argTypes:=tys })(hx:opD Γ x=some (D.val (.func (.func f) #[] #[])))(hf:zay P f)
  (hxs:zcE Γ args.toList=some xs) (hspec:Ctr P f xs y) (hcl:zgd xs=true:=by rfl):Je P ops o Γ H (some y.toD) H:=by
 intro w0 A0 N Γ2 a w Q K hs hN hSt hK;obtain⟨E,hG⟩:=hSt;obtain⟨fn,hfn,hb,hn⟩:=hf;have hxv:=za3 hs hG (x:=x) (by rw[ho];simp[Op.operands,Call.operands]) hx;have hargs:=zbo (Γ:=Γ) (E:=E) (a:=a) (w:=w) args.toList xs (fun x hx d hd=>(za1 hs hG (x:=x) (by rw[ho];simp[Op.operands,Call.operands];exact .inr (by simpa using hx)) hd).2) hxs;have hrun:(execOp a.eval o).run P w = .ok (.enter f (args.map a.eval)) w:=by
  have hn':¬fn.name = "runtime.NumGoroutine":=by simpa using hn
  have hb':¬fn.body=none:=by intro e;rw[e] at hb;simp at hb
  simp[execOp,ho,resolve,Deferred.ofValue,invoke,callFunc,hfn,hn',hb',hxv]
 unfold Oper.wp;rw[hrun,Oper.upon_enter];have hc:=hspec w (args.map a.eval).toList E.A.c hG.below.now hG.foot (by simpa using hargs.pure hcl);rw[show(args.map a.eval).toList.toArray=args.map a.eval from Array.toArray_toList] at hc;refine Calls.mono hc ?_;rintro e w' ⟨v,rfl,hy,hbel⟩;exact hK _ _ ⟨_,(hG.grow hbel).put (fun d hd=>by cases hd;exact⟨R.toD_okn,R.toD_den (R.den_mono (zbE _ _ _) hy)⟩) hN⟩
def zp0(H:Hp):List D->List Value->Prop
 |[],[]=>True
 |d::ds,v::vs=>zn0 H d v/\zp0 H ds vs
 |[],_::_=>False
 |_::_,[]=>False
theorem ziU:∀{ds:List D} {vs:List Value},zp0 H ds vs->ds.length=vs.length
 |[],[],_=>rfl
 |d::ds,v::vs,h=>by simp[ziU h.2]
 |[],_::_,h=>h.elim
 |_::_,[],h=>h.elim
theorem ziV:∀{ds:List D} {vs:List Value} {i:Nat} {d:D},zp0 H ds vs->ds[i]?=some d->∃v,vs[i]?=some v/\zn0 H d v
 |[],[],i,d,_,hi=>by simp at hi
 |d0::ds,v::vs,i,d,h,hi=>by
  cases i with
  |zero=>simp at hi;subst hi;exact⟨v,rfl,h.1⟩
  |succ i=>simpa using ziV h.2 (by simpa using hi)
 |[],_::_,_,_,h,_=>h.elim
 |_::_,[],_,_,h,_=>h.elim
theorem zha{Q:Exit->Act->World->Prop}{w0:Frm}{A0:Foot}{N:Nat}{rest:List Oper}{f Nc:Nat}{x:Operand}{fn:Func}{c:Code}{args:Array Operand}{tys:Array TypeId}{ds dc:List D}{vs:Array Value}(ho:o.op = .call { callee:=.value x,args:=args,argTypes:=tys })(hpe:pe N o=true)
  (hxf:opD Γ x=some (D.val (.func (.func f) #[] vs))) (hcap:zp0 H dc vs.toList) (hf:P.funcs[f]?=some fn) (hb:fn.body=some c) (hnm:(fn.name == "runtime.NumGoroutine")=false) (hN:fn.ntmps=Nc) (hl:(ds++dc).length<=min Nc 2000) (hx:znh Γ args.toList=some ds)
  (h:∀a1:Act,a1.defers=[]->a1.tmps.size=N->Tc P (bodyPost P fn fun e w'=>∃v,e = .returned v/\wpList P ops Q rest (a1.put o.dst v) w') (w0.into a1) A0 Nc (zf7 0 (ds++dc)++up Γ) H c):Tl P ops Q w0 A0 N Γ H (o::rest):=by
 intro a w hSt;obtain⟨E,hG⟩:=hSt;unfold wpList;rw[if_pos (by simp[Region.wanted,(zq1 hpe).1])];left;have hxv:a.eval x = .func (.func f) #[] vs:=(zfR hG hxf).2.1;have hrun:(execOp a.eval o).run P w = .ok (.enter f (args.map a.eval++vs)) w:=by
  have hn':¬fn.name = "runtime.NumGoroutine":=by simpa using hnm
  have hb':¬fn.body=none:=by intro e;rw[e] at hb;simp at hb
  simp[execOp,ho,resolve,Deferred.ofValue,invoke,callFunc,hf,hn',hb',hxv]
 unfold Oper.wp;rw[hrun,Oper.upon_enter];refine Calls.mono (calls_of_wp hf hb (R:=fun e w'=>∃v,e = .returned v/\wpList P ops Q rest (a.put o.dst v) w') ?_) ?_
 .rw[hN];have hlen:=zd3 hx;have hlc:=ziU hcap;refine h a hG.defers hG.size _ _ ⟨E,hG.enter (vs:=args.map a.eval++vs) (by simp at hlen hlc ⊢;omega) hl (fun i d hi=>?_)⟩;by_cases hil:i<ds.length
  .rw[zxi hil] at hi;obtain⟨x,h1,h2⟩:=zhr hx hi;obtain⟨ho',hdv⟩:=zfR hG h2;refine⟨ho',a.eval x,?_,hdv⟩;simp only[Array.getElem?_toList] at h1;rw[Array.getElem?_append_left (by simp at hlen ⊢;omega)];simp[h1]
  .rw[List.getElem?_append_right (by omega)] at hi;obtain⟨v,h1,h2⟩:=ziV hcap hi;refine⟨znZ h2,v,?_,(ziW hG h2).2 rfl⟩;have hs:(args.map a.eval).size=ds.length:=by simp at hlen ⊢;omega
   rw[Array.getElem?_append_right (by omega),hs];simpa using h1
 .rintro e w' ⟨v,rfl,hv⟩;exact hv
def zrC(vs:List Value):List Leaf:=vs.map Leaf.val
theorem zfe{A:Foot}{w:World}:∀{vs cs:List Value},denL A (zrC vs) cs w->cs=vs
 |[],[],_=>rfl
 |v::vs,c::cs,h=>by
  have h1:c=v:=h.1.1;have h2:denL A (zrC vs) cs w:=h.2;rw[h1,zfe h2]
 |[],_::_,h=>h.elim
 |_::_,[],h=>h.elim
def znD(P:Program)(t:Nat):Bool:=match P.underlying t with|some (.interface _)=>true|some _=>false|none=>true
theorem zcO{t:Nat}{x:Operand}{vs:List Value}(ho:o.op = .makeInterface t x)(hx:opD Γ x=some (D.agg (zrC vs)))(ht:znD P t=false):Jq P ops X o Γ H (D.val (.iface t (.agg vs.toArray))):=by
 intro w0 A0 N Γ2 H2 E a w hs hX hG;obtain⟨_,cs,h1,h2⟩:=za1 hs hG (x:=x) (by rw[ho];simp[Op.operands]) hx;have h3:=zfe h2;subst h3;refine⟨trivial,.iface t (.agg cs.toArray),?_,rfl,rfl⟩;unfold znD at ht
 cases hu:P.underlying t with
 |none=>rw[hu] at ht;simp at ht
 |some d=>
  rw[hu] at ht;cases d <;> simp at ht <;> simp[execOp,ho,Instr.makeInterface,run_underlying hu,h1]
def zns(P:Program)(t:Nat)(name:String):Option Nat:=
 match P.info? t,P.underlying t with
 |some i,some d=>
  match i.methods.find? (·.name == name),d with
  |some m,.pointer _=>none
  |some m,_=>if m.path.isEmpty then(match m.func with|some (f,false)=>some f|_=>none) else none
  |none,_=>none
 |_,_=>none
theorem zlt{w:World}{t f fuel:Nat}{name:String}{v:Value}(h:zns P t name=some f):(method (fuel+1) t v name).run P w = .ok (f,v) w:=by
 unfold zns at h
 cases hi:P.info? t with
 |none=>rw[hi] at h;simp at h
 |some i=>
  cases hu:P.underlying t with
  |none=>rw[hi,hu] at h;simp at h
  |some d=>
   rw[hi,hu] at h;simp only at h
   cases hm:i.methods.find? (·.name == name) with
   |none=>rw[hm] at h;simp at h
   |some m=>
    rw[hm] at h;have hp:m.path.isEmpty=true/\m.func=some (f,false)/\∀e,d≠.pointer e:=by
     cases d <;> simp at h <;> (obtain⟨h1,h2⟩:=h;refine⟨by simpa using h1,?_,fun e he=>by simp at he⟩;split at h2 <;> simp_all)
    obtain⟨h1,h2,h3⟩:=hp;have h1':m.path.toList=[]:=by
     have:m.path = #[]:=by simpa using h1
     rw[this]
    unfold method;simp only[typeInfo,Sem.run];simp[hi,hm,h1',follow,h2,receiverAt,run_underlying hu];cases d <;> first|rfl|(exact absurd rfl (h3 _))|simp[Place.get]
theorem zj6{A:Foot}{w:World}:∀{cs:List Value},cs.all Value.oneCell'=true->denL A (zrC cs) cs w
 |[],_=>trivial
 |c::cs,h=>by
  rw[List.all_cons,zxo] at h;exact⟨⟨rfl,h.1⟩,zj6 h.2⟩
theorem zjb{f t:Nat}{x:Operand}{name:String}{cs:List Value}{args:Array Operand}{tys:Array TypeId}{xs:List V}{y:R}(ho:o.op = .call { callee:=.invoke x name,args:=args,argTypes:=tys })(hx:opD Γ x=some (D.val (.iface t (.agg cs.toArray))))
  (hm:zns P t name=some f) (hf:zay P f) (hxs:zcE Γ args.toList=some xs) (hspec:Ctr P f (V.agg (zrC cs)::xs) y) (hone:cs.all Value.oneCell'=true:=by rfl) (hcl:zgd xs=true:=by rfl):Je P ops o Γ H (some y.toD) H:=by
 intro w0 A0 N Γ2 a w Q K hs hN hSt hK;obtain⟨E,hG⟩:=hSt;obtain⟨fn,hfn,hb,hn⟩:=hf;have hxv:=za3 hs hG (x:=x) (by rw[ho];simp[Op.operands,Call.operands]) hx;have hargs:=zbo (Γ:=Γ) (E:=E) (a:=a) (w:=w) args.toList xs (fun x hx d hd=>(za1 hs hG (x:=x) (by rw[ho];simp[Op.operands,Call.operands];exact .inr (by simpa using hx)) hd).2) hxs;have hmm:=fun fuel=>zlt (P:=P) (w:=w) (t:=t) (f:=f) (fuel:=fuel) (name:=name) (v:=.agg cs.toArray) hm;have hrun:(execOp a.eval o).run P w = .ok (.enter f (#[.agg cs.toArray]++args.map a.eval)) w:=by
  have hn':¬fn.name = "runtime.NumGoroutine":=by simpa using hn
  have hb':¬fn.body=none:=by intro e;rw[e] at hb;simp at hb
  have h0:(#[Value.iface t (.agg cs.toArray)]++args.map a.eval)[0]?=some (.iface t (.agg cs.toArray)):=by
   rw[Array.getElem?_append_left (by simp)];rfl
  have hex:(args.map a.eval).extract 0 args.size=args.map a.eval:=by
   have:args.size=(args.map a.eval).size:=by simp
   rw[this,Array.extract_size]
  have hd2:∀n:Nat,n+Made.depth=(n+99)+1:=fun n=>rfl;simp[execOp,ho,resolve,Deferred.ofValue,invoke,callMethod,callFunc,hfn,hn',hb',hxv,h0,hex,hd2,hmm]
 unfold Oper.wp;rw[hrun,Oper.upon_enter];have hc:=hspec w (.agg cs.toArray::(args.map a.eval).toList) E.A.c hG.below.now hG.foot ⟨⟨cs,rfl,zj6 hone⟩,by simpa using hargs.pure hcl⟩;rw[show(Value.agg cs.toArray::(args.map a.eval).toList).toArray = #[.agg cs.toArray]++args.map a.eval from by
  apply Array.toList_inj.1;simp] at hc
 refine Calls.mono hc ?_;rintro e w' ⟨v,rfl,hy,hbel⟩;exact hK _ _ ⟨_,(hG.grow hbel).put (fun d hd=>by cases hd;exact⟨R.toD_okn,R.toD_den (R.den_mono (zbE _ _ _) hy)⟩) hN⟩
end
section
variable {P:Program}{ops:Array Oper}{X:List Nat}{o:Oper}{Γ:Gam}{H:Hp}{α:Type}
theorem zoy{x y:Operand}{t u:Nat}{k:IntKind}{j:Int}{b:Bool}(e:El α)(l:List α)(i:Nat)(ho:o.op = .indexAddr t x y)(hx:opD Γ x=some (D.v (V.one (e.row l))))(hy:opD Γ y=some (D.val (.int k j)))
  (ht:P.underlying t=some (.slice u)) (hu:TyIs P u b e.sz) (hj:j=(i:Int)) (hi:i<l.length):Jq P ops X o Γ H (D.rep (zbf (e.f l[i]))):=by
 subst hj;exact zlb ho hx hy ht hu (by omega) (by omega) (by rw[Int.toNat_natCast];exact e.all_get hi)
theorem zfg{x y:Operand}{t u:Nat}{k:IntKind}{j:Int}{b:Bool}(e:El α)(l:List α)(i:Nat)(ho:o.op = .slice t x none (some y) none)(hx:opD Γ x=some (D.v (V.one (e.row l))))(hy:opD Γ y=some (D.val (.int k j)))
  (ht:P.underlying t=some (.slice u)) (hu:TyIs P u b e.sz) (hj:j=(i:Int)) (hi:i<=l.length):Jq P ops X o Γ H (D.v (V.one (e.row (l.take i)))):=by
 subst hj;have:=zgu (ops:=ops) (X:=X) (H:=H) ho hx hy ht hu hi (e.all_take l i);unfold El.row;rw[zxr,Nat.min_eq_left hi];exact this
theorem zbc{x y:Operand}{t u:Nat}{k:IntKind}{j:Int}{b:Bool}(e:El α)(l:List α)(i:Nat)(ho:o.op = .slice t x (some y) none none)(hx:opD Γ x=some (D.v (V.one (e.row l))))(hy:opD Γ y=some (D.val (.int k j)))
  (ht:P.underlying t=some (.slice u)) (hu:TyIs P u b e.sz) (hj:j=(i:Int)) (hi:i<=l.length):Jq P ops X o Γ H (D.v (V.one (e.row (l.drop i)))):=by
 subst hj;have:=zgt (ops:=ops) (X:=X) (H:=H) ho hx hy ht hu hi rfl (ls':=e.all (l.drop i)) (by
  rw[El.all_drop,zxJ];rw[El.all_length,zxA];exact zxe _)
 unfold El.row;rw[zxA];exact this
theorem zl4{x y:Operand}{t t2 u u2 r n sz:Nat}{inf:TypeInfo}{z:Value}(e:El α)(l:List α)(v:α)
  (ho:o.op = .call { callee:=.builtin .append,args:=#[x,y],argTypes:=#[t,t2] })
  (hx:opD Γ x=some (D.v (V.one (Leaf.own r n)))) (hy:opD Γ y=some (D.rep (zal 1 (e.f v)))) (hi:H[r]?=some (some ⟨u,e.all l,some sz,some (.inr ((e.all l).length,some n))⟩)) (hsz:0<sz)
  (ht:P.underlying t=some (.slice u)) (ht2:P.underlying t2=some (.slice u2)) (hinf:P.info? u=some inf) (hz:inf.zero=some z) (hisz:inf.size=sz) (hzs:z.cells.size=sz)
  (hlen:l.length+1<=maxLen) (hbytes:(l.length+1)*inf.bytes<=140737488355328) (hes:e.sz=sz:=by rfl) :
  Je P ops o Γ H (some (D.v (V.one (Leaf.own r (n+1))))) (H.set r (some ⟨u,e.all (l++[v]),some sz,some (.inr ((e.all (l++[v])).length,some (n+1)))⟩)):=by
 subst hes;exact zhc ho hx hy hi (e.all_length l) (by rw[e.len,Nat.one_mul]) hsz ht ht2 hinf hz hisz hzs hlen hbytes rfl (e.all_snoc l v)
theorem zj2{x y:Operand}{t t2 u u2 r n sz:Nat}{inf:TypeInfo}{z:Value}(e:El α)(l l2:List α)
  (ho:o.op = .call { callee:=.builtin .append,args:=#[x,y],argTypes:=#[t,t2] })
  (hx:opD Γ x=some (D.v (V.one (Leaf.own r n)))) (hy:opD Γ y=some (D.v (V.one (e.row l2)))) (hi:H[r]?=some (some ⟨u,e.all l,some sz,some (.inr ((e.all l).length,some n))⟩)) (hsz:0<sz)
  (ht:P.underlying t=some (.slice u)) (ht2:P.underlying t2=some (.slice u2)) (hinf:P.info? u=some inf) (hz:inf.zero=some z) (hisz:inf.size=sz) (hzs:z.cells.size=sz)
  (hlen:l.length+l2.length<=maxLen) (hbytes:(l.length+l2.length)*inf.bytes<=140737488355328) (hes:e.sz=sz:=by rfl) :
  Je P ops o Γ H (some (D.v (V.one (Leaf.own r (n+1))))) (H.set r (some ⟨u,e.all (l++l2),some sz,some (.inr ((e.all (l++l2)).length,some (n+1)))⟩)):=by
 subst hes;exact zhc ho hx hy hi (e.all_length l) (e.all_length l2) hsz ht ht2 hinf hz hisz hzs hlen hbytes rfl (e.all_append l l2).symm
theorem RowAt.ofE{r n u sz:Nat}(e:El α)(l:List α)(hi:H[r]?=some (some ⟨u,e.all l,some sz,some (.inr ((e.all l).length,some n))⟩))(hsz:0<sz)(hes:e.sz=sz:=by rfl):RowAt H r n l.length (e.all l):=by
 subst hes;exact RowAt.mk' hi rfl (e.all_length l) hsz (e.all_cl l)
theorem zox{x y:Operand}{t u:Nat}{k:IntKind}{j:Int}{b:Bool}(e:El α)(l:List α)(i:Nat){v:α}(ho:o.op = .indexAddr t x y)(hx:opD Γ x=some (D.v (V.one (e.row l))))(hy:opD Γ y=some (D.val (.int k j)))
  (ht:P.underlying t=some (.slice u)) (hu:TyIs P u b e.sz) (hi:l[i]?=some v) (hj:j=(i:Int):=by first|rfl|omega):Jq P ops X o Γ H (D.rep (zbf (e.f v))):=by
 obtain⟨h1,h2⟩:=zxc.1 hi;rw[<-h2];exact zoy e l i ho hx hy ht hu hj h1
theorem zdQ{f r n sz k u:Nat}{args:Array Operand}{tys:Array TypeId}{ys xs:List V}{y:Nat->V}(y':V){ls ls':List Leaf}(ho:o.op = .call { callee:=.value (.func f),args:=args,argTypes:=tys })(hf:zay P f)(hx:zcE Γ args.toList=some ys)
  (hi:H[r]?=some (some ⟨u,ls,some sz,some (.inr (k,some n))⟩)) (hspec:CtrO P f u sz ls ls' xs y) (hle:ls.length<=ls'.length) (hxs:RnVs r n 0 0 ys xs:=by intros;repeat (first|exact RnL.nil|exact RnVs.nil|exact RnV.own|exact RnV.one rfl|refine RnV.agg ?_|refine RnVs.cons ?_ ?_|refine RnL.own ?_|refine RnL.cl rfl ?_)) (hy:∀n1,RnV 0 n1 r (n+1) (y n1) y':=by intros;repeat (first|exact RnL.nil|exact RnVs.nil|exact RnV.own|exact RnV.one rfl|refine RnV.agg ?_|refine RnVs.cons ?_ ?_|refine RnL.own ?_|refine RnL.cl rfl ?_)) (hk:k=ls.length:=by rfl)
  (hcl:clL ls=true:=by first|rfl|exact El.all_cl _ _) (hcl':clL ls'=true:=by first|rfl|exact El.all_cl _ _) :
  ∀H2:Hp,H2[r]?=H[r]?->Je P ops o Γ H2 (some (D.v y')) (H2.set r (some ⟨u,ls',some sz,some (.inr (ls'.length,some (n+1)))⟩)):=
 fun _ hH=>zdj y' ho hf hx (hH.trans hi) hspec hle hxs hy hk hcl hcl'
theorem zcB{f:Nat}{x:Operand}{args:Array Operand}{ys:List Operand}{tys:Array TypeId}{xs:List V}{y:R}{i t:Nat}{ls ls':List Leaf}{p:Option (Nat ⊕ (Nat×Option Nat))}(ho:o.op = .call { callee:=.value (.func f),args:=args,argTypes:=tys })(hf:zay P f)
  (hargs:args.toList=x::ys) (hx:opD Γ x=some (D.ptr i 0)) (hi:H[i]?=some (some ⟨t,ls,none,p⟩)) (hys:zcE Γ ys=some xs) (hspec:CtrP P f t ls ls' xs y) (hp0:∀k n,p≠some (.inr (k,some n)):=by exact fun _ _ h=>by simp at h) (hfz0:(⟨t,ls,none,p⟩:HE).fz=0:=by rfl) (hcl:clL ls=true:=by rfl) (hcx:zgd xs=true:=by rfl) :
  ∀H2:Hp,H2[i]?=H[i]?->Je P ops o Γ H2 (some y.toD) (H2.set i (some ⟨t,ls',none,p⟩)):=
 fun _ hH=>zaN ho hf hargs hx (hH.trans hi) hys hspec hp0 hfz0 hcl hcx
theorem zan{Q:Exit->Act->World->Prop}{w0:Frm}{A0:Foot}{N:Nat}{ex:Exit}(i:Nat)(h:At Q w0 A0 N (zaL i Γ) (H.set i none) ex)(hv:zhZ H i=false:=by rfl):At Q w0 A0 N Γ H ex:=
 fun a w ⟨E,hG⟩=>h a w ⟨E,hG.free i hv⟩
theorem Good.trim{w0:Frm}{A0:Foot}{N:Nat}{H':Hp}{E:Env}{a:Act}{w:World}(hG:Good w0 A0 N Γ H E a w)(k:Nat)(h:H=H'++List.replicate k none):Good w0 A0 N Γ H' E a w:=by
 subst h;have fwd:∀(j:Nat) (e:HE),H'[j]?=some (some e)->(H'++List.replicate k none)[j]?=some (some e):=fun j e hj=>by
  rw[zxi (zxc.1 hj).1];exact hj
 have back:∀(j:Nat) (e:HE),(H'++List.replicate k none)[j]?=some (some e)->H'[j]?=some (some e):=by
  intro j e hj;by_cases hl:j<H'.length
  .rwa [zxi hl] at hj
  .rw[List.getElem?_append_right (by omega),List.getElem?_replicate] at hj;split at hj <;> simp at hj
 refine⟨hG.below,hG.foot,hG.foot0,hG.defers,hG.size,fun s d hs=>?_,fun j e hj=>hG.boxes j e (fwd j e hj),fun j1 j2 e1 e2 h1 h2=>hG.apart j1 j2 e1 e2 (fwd _ _ h1) (fwd _ _ h2),fun j e v hj hp=>hG.kn j e v (fwd _ _ hj) hp,fun j m v hg=>?_,hG.old⟩
 .obtain⟨ho,v,hv,hd⟩:=hG.slots s d hs;exact⟨D.okn_mono ho (fun j e _ he hv=>⟨e,back j e he,hv⟩),v,hv,hd⟩
 .obtain⟨e,k',n,h1,h2⟩:=hG.gd j m v hg;exact⟨e,k',n,back j e h1,h2⟩
theorem ztN{Q:Exit->Act->World->Prop}{w0:Frm}{A0:Foot}{N:Nat}{ex:Exit}(H':Hp)(k:Nat)(hH:H=H'++List.replicate k none)(h:At Q w0 A0 N Γ H' ex):At Q w0 A0 N Γ H ex:=
 fun a w ⟨E,hG⟩=>h a w ⟨E,hG.trim k hH⟩
theorem ze3{t u sz:Nat}{b:Bool}(ho:o.op = .buildSlice t 0 #[])(ht:P.underlying t=some (.slice u))(hu:TyIs P u b sz):∀H2:Hp,Je P ops o Γ H2 (some (D.rep (zeg 0 []))) H2:=by
 intro H2 w0 A0 N Γ2 a w Q K hs hN hSt hK;obtain⟨E,hG⟩:=hSt;have hb:=zbF w (.cells [].toArray u);refine zaS (v:=.slice (some ⟨w.heap.size,0,none⟩) 0 0) (w':=w.alloc (.cells [].toArray u)) ?_ (hK _ _ ⟨_,(hG.grow hb).put (fun d hd=>by
  cases hd;exact⟨trivial,⟨some ⟨w.heap.size,0,none⟩,0,rfl,zxe _,zxg _,fun h=>by simp at h,fun ad had=>⟨fun h=>by omega,fun i l hi=>by simp at hi⟩⟩,_,rfl⟩) hN⟩)
 simp[execOp,ho,Instr.buildSlice,run_underlying ht,hu.sizeOf,Instr.fill,newRow,show Array.range 0 = #[] from rfl]
theorem zeb{x y:Operand}{t t2 u u2 sz:Nat}{inf:TypeInfo}{z:Value}(e:El α)(l:List α)
  (ho:o.op = .call { callee:=.builtin .append,args:=#[x,y],argTypes:=#[t,t2] })
  (hx:opD Γ x=some (D.rep (zeg 0 []))) (hy:opD Γ y=some (D.v (V.one (e.row l)))) (hsz:0<sz)
  (ht:P.underlying t=some (.slice u)) (ht2:P.underlying t2=some (.slice u2)) (hinf:P.info? u=some inf) (hz:inf.zero=some z) (hisz:inf.size=sz) (hzs:z.cells.size=sz)
  (hlen:l.length<=maxLen) (hbytes:l.length*inf.bytes<=140737488355328) (hes:e.sz=sz:=by rfl):∀H2:Hp,Je P ops o Γ H2 (some (D.v (V.one (e.row l)))) H2:=by
 subst hes;by_cases hm:l.length=0
 .have hl0:l=[]:=zxm hm;subst hl0;intro H2 w0 A0 N Γ2 a w Q K hs hN hSt hK;obtain⟨E,hG⟩:=hSt;obtain⟨_,h1,adx,hvx⟩:=za1 hs hG (x:=x) (by rw[ho];simp[Op.operands,Call.operands]) hx;obtain⟨_,ay,capy,hvy,_⟩:=za1 hs hG (x:=y) (by rw[ho];simp[Op.operands,Call.operands]) hy;have hvy:a.eval y = .slice ay 0 capy:=hvy;refine zaS (v:=.slice (some adx) 0 0) (w':=w) ?_ (hK _ _ ⟨E,hG.put (fun d hd=>by
   cases hd;refine⟨trivial,?_⟩;rw[hvx] at h1;exact h1) hN⟩)
  have hrun:(Builtin.append_ #[t,t] o.type #[a.eval x,a.eval y]).run P w = .ok (.slice (some adx) 0 0) w:=by
   rw[hvx,hvy];cases ay <;> simp[Builtin.append_,run_underlying ht,Go.sizeOf,typeInfo,hinf,Builtin.lenOf,Builtin.firstCells,storeCells,loadCells,loadCellsFrom]
  simp[execOp,ho,resolve,invoke,builtin,zes w _ _ ht ht2,hrun]
 .exact zey ho hx hy (by simp) (e.all_length l) hsz (by omega) ht ht2 hinf hz hisz hzs (by simpa using hlen) (by simpa using hbytes) (Nat.zero_add _) (List.nil_append _)
theorem zjV{x:Operand}{i off:Nat}(ho:o.op = .nilCheck x)(hx:opD Γ x=some (D.ptr i off)):Jq P ops X o Γ H (D.ptr i off):=by
 intro w0 A0 N Γ2 H2 E a w hs hX hG;obtain⟨h0,h1⟩:=za1 hs hG (x:=x) (by rw[ho];simp[Op.operands]) hx;have h1:a.eval x = .pointer (some ⟨E.b i,off,none⟩):=h1;exact⟨h0,.pointer (some ⟨E.b i,off,none⟩),by simp[execOp,ho,h1],rfl⟩
def u8E:El Nat:=⟨fun x=>[Leaf.val (.int .u8 (x:Int))],1,fun _=>rfl,fun _=>rfl⟩
theorem zoz{x y:Operand}{t u n:Nat}{k:IntKind}(j:Nat){ls:List Leaf}{l:Leaf}(ho:o.op = .index t x y)(hx:opD Γ x=some (D.agg ls))(hy:opD Γ y=some (D.val (.int k (j:Int))))
  (ht:P.underlying t=some (.array n u)) (hu:TyIs P u false 1) (hj:j<n) (hl:ls[j]?=some l):Jq P ops X o Γ H (D.v (V.one l)):=by
 intro w0 A0 N Γ2 H2 E a w hs hX hG;obtain⟨h1,cs,h2,h3⟩:=za1 hs hG (x:=x) (by rw[ho];simp[Op.operands]) hx;have e2:=za3 hs hG (x:=y) (by rw[ho];simp[Op.operands]) hy;obtain⟨v,hv,hd⟩:=h3.get hl;refine⟨trivial,v,?_,hd⟩;simp[execOp,ho,h2,e2,Instr.index,asIntOf,run_underlying ht,part,hu.isAgg,hu.sizeOf,hj,hv]
end
def zdA(f:Nat)(ls:List Leaf):Rep where
 P A v w:=∃cs:List Value,v = .func (.func f) #[] cs.toArray/\denL (Foot.of A) ls cs w
 mono:=fun hA ⟨cs,h,hd⟩=>⟨cs,h,hd.mono (Foot.le.of hA)⟩
 keep:=fun hk ⟨cs,h,hd⟩=>⟨cs,h,hd.keep hk⟩
 one:=by rintro A v w ⟨cs,rfl,_⟩;rfl
def zpq(ls:List Leaf):List V:=ls.map V.one
theorem zky{A:Foot}{w:World}:∀{ls:List Leaf} {vs:List Value},denVs A (zpq ls) vs w->denL A ls vs w
 |[],[],_=>trivial
 |l::ls,v::vs,h=>⟨h.1,zky h.2⟩
 |[],_::_,h=>h.elim
 |_::_,[],h=>h.elim
theorem zkS{A:Foot}{w:World}:∀{ls:List Leaf} {vs:List Value},denL A ls vs w->denVs A (zpq ls) vs w
 |[],[],_=>trivial
 |l::ls,v::vs,h=>⟨h.1,zkS h.2⟩
 |[],_::_,h=>h.elim
 |_::_,[],h=>h.elim
theorem denVs.append{A:Foot}{w:World}{ys:List V}{us:List Value}(h2:denVs A ys us w):∀{xs:List V} {vs:List Value},denVs A xs vs w->denVs A (xs++ys) (vs++us) w
 |[],[],_=>h2
 |x::xs,v::vs,h=>⟨h.1,denVs.append h2 h.2⟩
 |[],_::_,h=>h.elim
 |_::_,[],h=>h.elim
section
variable {P:Program}{ops:Array Oper}{X:List Nat}{o:Oper}{Γ:Gam}{H:Hp}
theorem zcP{f:Nat}{captured:Array Operand}(ls:List Leaf)(ho:o.op = .makeFunc (.func f) #[] captured)(hc:zcE Γ captured.toList=some (zpq ls))(hcl:clL ls=true:=by rfl):Je P ops o Γ H (some (D.rep (zdA f ls))) H:=by
 intro w0 A0 N Γ2 a w Q K hs hN hSt hK;obtain⟨E,hG⟩:=hSt;have hargs:=zbo (Γ:=Γ) (E:=E) (a:=a) (w:=w) captured.toList (zpq ls) (fun x hx d hd=>(za1 hs hG (x:=x) (by rw[ho];simpa[Op.operands] using hx) hd).2) hc;refine zaS (v:=.func (.func f) #[] (captured.map a.eval)) (w':=w) ?_ (hK _ _ ⟨E,hG.put (fun d hd=>by cases hd;exact⟨trivial,(captured.map a.eval).toList,by rw[Array.toArray_toList],(zky (by simpa using hargs)).pure hcl⟩) hN⟩);simp[execOp,ho,Instr.makeFunc]
theorem zjd{f:Nat}{x:Operand}{args:Array Operand}{tys:Array TypeId}{xs:List V}{ls:List Leaf}{y:R}(ho:o.op = .call { callee:=.value x,args:=args,argTypes:=tys })(hx:opD Γ x=some (D.rep (zdA f ls)))(hf:zay P f)
  (hxs:zcE Γ args.toList=some xs) (hspec:Ctr P f (xs++zpq ls) y) (hcl:zgd xs=true:=by rfl):Je P ops o Γ H (some y.toD) H:=by
 intro w0 A0 N Γ2 a w Q K hs hN hSt hK;obtain⟨E,hG⟩:=hSt;obtain⟨fn,hfn,hb,hn⟩:=hf;obtain⟨cs,hxv,hcs⟩:=(za1 hs hG (x:=x) (by rw[ho];simp[Op.operands,Call.operands]) hx).2;have hargs:=zbo (Γ:=Γ) (E:=E) (a:=a) (w:=w) args.toList xs (fun x hx d hd=>(za1 hs hG (x:=x) (by rw[ho];simp[Op.operands,Call.operands];exact .inr (by simpa using hx)) hd).2) hxs;have hrun:(execOp a.eval o).run P w = .ok (.enter f (args.map a.eval++cs.toArray)) w:=by
  have hn':¬fn.name = "runtime.NumGoroutine":=by simpa using hn
  have hb':¬fn.body=none:=by intro e;rw[e] at hb;simp at hb
  simp[execOp,ho,resolve,Deferred.ofValue,invoke,callFunc,hfn,hn',hb',hxv]
 unfold Oper.wp;rw[hrun,Oper.upon_enter];have hc:=hspec w ((args.map a.eval).toList++cs) E.A.c hG.below.now hG.foot ((zkS hcs).append (by simpa using hargs.pure hcl));rw[show((args.map a.eval).toList++cs).toArray=args.map a.eval++cs.toArray from by apply Array.toList_inj.1;simp] at hc;refine Calls.mono hc ?_;rintro e w' ⟨v,rfl,hy,hbel⟩;exact hK _ _ ⟨_,(hG.grow hbel).put (fun d hd=>by cases hd;exact⟨R.toD_okn,R.toD_den (R.den_mono (zbE _ _ _) hy)⟩) hN⟩
end
def fldN(P:Program)(t:Nat):Option (List (Bool×Nat×Nat)):=
 match P.underlying t with
 |some (.struct fs)=>some (fs.toList.map fun f=>(f.name == "_",f.offset,f.type))
 |_=>none
structure Ints4(P:Program)(t ti:Nat):Prop where
 fld:fldN P t=some [(false,0,ti),(false,1,ti),(false,2,ti),(false,3,ti)]
 int:P.underlying ti=some (.int .i64)
 one:TyIs P ti false 1
 held:P.stoodInHeld t=false
 guard:P.eqGuardType P.depth t=false
theorem Ints4.ex {P:Program} {t ti:Nat} (h:Ints4 P t ti):∃fs:Array Field,P.underlying t=some (.struct fs)/\fs.toList.map (fun f=>(f.name == "_",f.offset,f.type))=[(false,0,ti),(false,1,ti),(false,2,ti),(false,3,ti)]:=by
 have:=h.fld;unfold fldN at this;split at this
 .rename_i fs hu;exact⟨fs,hu,by simpa using this⟩
 .simp at this
theorem zmL{P:Program}{w:World}{ti:Nat}(h:TyIs P ti false 1)(vs:Array Value)(i:Nat)(v:Value)(hi:vs[i]?=some v):(part ti vs i).run P w = .ok v w:=by
 have e:=h.1
 cases hu:P.underlying ti with
 |none=>rw[hu] at e;simp at e
 |some d=>rw[hu] at e;simp[part,isAgg,run_underlying hu,hi];cases d <;> simp[aggD] at e ⊢
theorem zmN{P:Program}{w:World}{ti:Nat}(h:P.underlying ti=some (.int .i64))(d:Nat)(a b:Int):(Op.equalIn (d+1) ti (.int .i64 a) (.int .i64 b)).run P w = .ok (a == b) w:=by
 simp[Op.equalIn,run_underlying h]
theorem zrV{P:Program}{w:World}{t ti:Nat}(h:Ints4 P t ti)(d:Nat)(a0 a1 a2 a3 b0 b1 b2 b3:Int) :
  (Op.equalIn (d+2) t (.agg #[.int .i64 a0,.int .i64 a1,.int .i64 a2,.int .i64 a3]) (.agg #[.int .i64 b0,.int .i64 b1,.int .i64 b2,.int .i64 b3])).run P w = .ok (a0 == b0&&(a1 == b1&&(a2 == b2&&a3 == b3))) w:=by
 obtain⟨fs,hu,hf⟩:=h.ex;obtain⟨l⟩:=fs;simp only[] at hf;have hl:l.length=4:=by simpa using congrArg List.length hf
 obtain⟨f0,f1,f2,f3,rfl⟩:∃f0 f1 f2 f3,l=[f0,f1,f2,f3]:=by
  match l,hl with
  |[a,b,c,d],_=>exact⟨_,_,_,_,rfl⟩
 simp only[List.map_cons,List.map_nil,List.cons.injEq,zxf,and_true] at hf;obtain⟨⟨n0,o0,t0⟩,⟨n1,o1,t1⟩,⟨n2,o2,t2⟩,n3,o3,t3⟩:=hf;have p:=@zmL P w ti h.one;have q:=@zmN P w ti h.int d;rw[Op.equalIn];have e0:¬f0.name = "_":=by simpa using n0
 have e1:¬f1.name = "_":=by simpa using n1
 have e2:¬f2.name = "_":=by simpa using n2
 have e3:¬f3.name = "_":=by simpa using n3
 have pa0:=p #[Value.int .i64 a0,.int .i64 a1,.int .i64 a2,.int .i64 a3] 0 _ rfl;have pa1:=p #[Value.int .i64 a0,.int .i64 a1,.int .i64 a2,.int .i64 a3] 1 _ rfl;have pa2:=p #[Value.int .i64 a0,.int .i64 a1,.int .i64 a2,.int .i64 a3] 2 _ rfl;have pa3:=p #[Value.int .i64 a0,.int .i64 a1,.int .i64 a2,.int .i64 a3] 3 _ rfl;have pb0:=p #[Value.int .i64 b0,.int .i64 b1,.int .i64 b2,.int .i64 b3] 0 _ rfl;have pb1:=p #[Value.int .i64 b0,.int .i64 b1,.int .i64 b2,.int .i64 b3] 1 _ rfl;have pb2:=p #[Value.int .i64 b0,.int .i64 b1,.int .i64 b2,.int .i64 b3] 2 _ rfl;have pb3:=p #[Value.int .i64 b0,.int .i64 b1,.int .i64 b2,.int .i64 b3] 3 _ rfl;have q0:=q a0 b0;have q1:=q a1 b1;have q2:=q a2 b2;have q3:=q a3 b3;clear p q;cases hq0:(a0 == b0)
 .rw[hq0] at q0;simp[run_underlying hu,h.held,e0,o0,t0,pa0,pb0,q0]
 rw[hq0] at q0;cases hq1:(a1 == b1)
 .rw[hq1] at q1;simp[run_underlying hu,h.held,e0,e1,o0,o1,t0,t1,pa0,pa1,pb0,pb1,q0,q1]
 rw[hq1] at q1;cases hq2:(a2 == b2)
 .rw[hq2] at q2;simp[run_underlying hu,h.held,e0,e1,e2,o0,o1,o2,t0,t1,t2,pa0,pa1,pa2,pb0,pb1,pb2,q0,q1,q2]
 rw[hq2] at q2;cases hq3:(a3 == b3)
 .rw[hq3] at q3;simp[run_underlying hu,h.held,e0,e1,e2,e3,o0,o1,o2,o3,t0,t1,t2,t3,pa0,pa1,pa2,pa3,pb0,pb1,pb2,pb3,q0,q1,q2,q3]
 rw[hq3] at q3;simp[run_underlying hu,h.held,e0,e1,e2,e3,o0,o1,o2,o3,t0,t1,t2,t3,pa0,pa1,pa2,pa3,pb0,pb1,pb2,pb3,q0,q1,q2,q3]
def eq4(a0 a1 a2 a3 b0 b1 b2 b3:Int):Bool:=a0 == b0&&(a1 == b1&&(a2 == b2&&a3 == b3))
section
variable {P:Program}{ops:Array Oper}{X:List Nat}{o:Oper}{Γ:Gam}{H:Hp}
theorem zni{Γ2:Gam}{w0:Frm}{A0:Foot}{N:Nat}{H2:Hp}{E:Env}{a:Act}{w:World}(hs:∀s∈o.looksAt ops,zbm Γ2 s=zbm Γ s)(hG:Good w0 A0 N Γ2 H2 E a w){x:Operand}(hm:x∈o.op.operands){a0 a1 a2 a3:Int}
  (hx:opD Γ x=some (D.agg [Leaf.val (.int .i64 a0),Leaf.val (.int .i64 a1),Leaf.val (.int .i64 a2),Leaf.val (.int .i64 a3)])):a.eval x = .agg #[.int .i64 a0,.int .i64 a1,.int .i64 a2,.int .i64 a3]:=by
 obtain⟨cs,h1,h2⟩:=(za1 hs hG hm hx).2
 match cs,h2 with
 |[c0,c1,c2,c3],h2=>
  obtain⟨⟨rfl,_⟩,⟨rfl,_⟩,⟨rfl,_⟩,⟨rfl,_⟩,_⟩:=h2;exact h1
theorem zoE{t ti u:Nat}{x y:Operand}{a0 a1 a2 a3 b0 b1 b2 b3:Int}(ho:o.op = .binOp .eql t x y u)(hx:opD Γ x=some (D.agg [Leaf.val (.int .i64 a0),Leaf.val (.int .i64 a1),Leaf.val (.int .i64 a2),Leaf.val (.int .i64 a3)]))
  (hy:opD Γ y=some (D.agg [Leaf.val (.int .i64 b0),Leaf.val (.int .i64 b1),Leaf.val (.int .i64 b2),Leaf.val (.int .i64 b3)])) (h:Ints4 P t ti) {d:Bool} (hr:eq4 a0 a1 a2 a3 b0 b1 b2 b3=d):Jq P ops X o Γ H (D.bool d):=by
 intro w0 A0 N Γ2 H2 E a w hs hX hG;have e1:=zni hs hG (x:=x) (by rw[ho];simp[Op.operands]) hx;have e2:=zni hs hG (x:=y) (by rw[ho];simp[Op.operands]) hy;refine⟨trivial,.bool d,?_,rfl,rfl⟩;subst hr;have:=zrV (w:=w) h 9998 a0 a1 a2 a3 b0 b1 b2 b3;simp[execOp,ho,e1,e2,eqGuard,h.guard,binOp,Op.equal,Op.maxDepth,this,eq4]
end
section
variable {P:Program}{ops:Array Oper}{Q:Exit->Act->World->Prop}{w0:Frm}{A0:Foot}{N:Nat}{Γ:Gam}{H:Hp}
theorem Good.ownGrow{E:Env}{a:Act}{w:World}(h:Good w0 A0 N Γ H E a w){s r u sz:Nat}(hs:zbm Γ s=some (D.own r 0))(hr:H[r]?=some (some ⟨u,[],some sz,none⟩)) :
  ∃E',Good w0 A0 N ((s,some (D.v (V.one (Leaf.own r 0))))::zaL r Γ) (H.set r (some ⟨u,[],some sz,some (.inr (0,some 0))⟩)) E' a w:=by
 have hrl:=(zxc.1 hr).1;have hg0:∀m,E.A.g r m=none:=by
  intro m
  cases hm:E.A.g r m with
  |none=>rfl
  |some v=>
   obtain⟨e,k,n,q1,q2⟩:=h.gd _ m v hm;rw[hr] at q1;cases q1;simp at q2
 obtain⟨_,vs,hvs,hds⟩:=h.slots s _ hs;have hds:vs=if E.nil r then .slice none 0 0 else .slice (some ⟨E.b r,0,none⟩) 0 (E.cap r-0):=hds;have hone:vs.oneCell'=true:=by rw[hds];split <;> rfl
 let A':Foot:=⟨E.A.c,fun i m=>if i=r/\m=0 then some vs else E.A.g i m⟩
 let E':Env:=⟨E.b,E.cap,E.nil,A'⟩
 have hle:Foot.le E.A A':=⟨fun x j hx=>hx,fun i m u hu=>by
  show(if i=r/\m=0 then some vs else E.A.g i m)=some u;rw[if_neg]
  .exact hu
  .rintro⟨rfl,rfl⟩;rw[hg0] at hu;simp at hu⟩
 have back:∀(j:Nat) (e1:HE),(H.set r (some ⟨u,[],some sz,some (.inr (0,some 0))⟩))[j]?=some (some e1)->(j=r/\e1=⟨u,[],some sz,some (.inr (0,some 0))⟩)\/(j≠r/\H[j]?=some (some e1)):=by
  intro j e1 hj;by_cases hij:r=j
  .subst hij;rw[zxs hrl] at hj;simp only[zxd] at hj;exact .inl ⟨rfl,hj.symm⟩
  .rw[zxp hij] at hj;exact .inr ⟨fun e=>hij e.symm,hj⟩
 have hden:∀(d:D) (v:Value),d.den E v w->d.den E' v w:=by
  intro d v hd;rcases d with x|xs|⟨i,o⟩|⟨i,q⟩
  .exact V.den_mono hle hd
  .obtain⟨vs,rfl,hvs⟩:=hd;exact⟨vs,rfl,hvs.mono hle⟩
  .exact hd
  .exact hd
 refine⟨E',⟨h.below,h.foot,h.foot0,h.defers,h.size,?_,?_,?_,?_,?_,h.old⟩⟩
 .intro s' d hs';by_cases e:s=s'
  .subst e;rw[zar] at hs';cases hs';exact⟨trivial,vs,hvs,if_pos ⟨rfl,rfl⟩,hone⟩
  .rw[zaB e,zcX] at hs';obtain⟨h1,h2⟩:=zcm hs';obtain⟨ho,v,hv,hd⟩:=h.slots s' d h1;refine⟨D.okn_mono ho (fun i e1 hi he1 hv1=>⟨e1,?_,hv1⟩),v,hv,hden d v hd⟩;have hir:r≠i:=fun e=>h2 (by rw[hi,e]);rw[zxp hir];exact he1
 .intro j e1 hj;rcases back j e1 hj with⟨rfl,rfl⟩|⟨hij,hj'⟩
  .obtain⟨g1,g2⟩:=h.boxes j _ hr;exact⟨HE.ok_grow hle g1,fun hn=>⟨.inl (g2 hn).1,(g2 hn).2⟩⟩
  .obtain⟨g1,g2⟩:=h.boxes j e1 hj';exact⟨HE.ok_grow hle g1,g2⟩
 .intro j1 j2 e1 e2 g1 g2 n1 n2 h12;have get:∀(j:Nat) (e:HE),(H.set r (some ⟨u,[],some sz,some (.inr (0,some 0))⟩))[j]?=some (some e)->∃e',H[j]?=some (some e'):=by
   intro j e hj;rcases back j e hj with⟨rfl,_⟩|⟨_,hj'⟩
   .exact⟨_,hr⟩
   .exact⟨_,hj'⟩
  obtain⟨e1',k1⟩:=get j1 e1 g1;obtain⟨e2',k2⟩:=get j2 e2 g2;exact h.apart j1 j2 e1' e2' k1 k2 n1 n2 h12
 .intro j e1 m hj hm;rcases back j e1 hj with⟨rfl,rfl⟩|⟨hij,hj'⟩
  .obtain⟨k',hm⟩:=hm;simp only[zxd,Sum.inr.injEq,zxf] at hm;obtain⟨_,rfl⟩:=hm;refine⟨?_,fun m' hm'=>?_,fun hn i hi=>by simp[HE.fz] at hi⟩
   .show(if j=j/\0=0 then some vs else E.A.g j 0)=_;rw[if_pos ⟨rfl,rfl⟩,hds];simp[HE.name,E']
   .show(if j=j/\m'=0 then some vs else E.A.g j m')=none;rw[if_neg (fun e'=>by omega)];exact hg0 m'
  .obtain⟨q1,q2,q3⟩:=h.kn j e1 m hj' hm;refine⟨?_,fun m' hm'=>?_,q3⟩
   .show(if j=r/\m=0 then some vs else E.A.g j m)=_;rw[if_neg (fun e'=>hij e'.1),q1];rfl
   .show(if j=r/\m'=0 then some vs else E.A.g j m')=none;rw[if_neg (fun e'=>hij e'.1)];exact q2 m' hm'
 .intro j m v hg;by_cases hj:j=r
  .subst hj;exact⟨⟨u,[],some sz,some (.inr (0,some 0))⟩,0,0,zxs hrl,rfl⟩
  .have hg:(if j=r/\m=0 then some vs else E.A.g j m)=some v:=hg;rw[if_neg (fun e'=>hj e'.1)] at hg;obtain⟨e1,k1,n1,q1,q2⟩:=h.gd j m v hg;exact⟨e1,k1,n1,by rw[zxp (fun e=>hj e.symm)];exact q1,q2⟩
theorem zjT{l:List Oper}(s r:Nat){u sz:Nat}(hs:zbm Γ s=some (D.own r 0))(hr:H[r]?=some (some ⟨u,[],some sz,none⟩))
  (h:Tl P ops Q w0 A0 N ((s,some (D.v (V.one (Leaf.own r 0))))::zaL r Γ) (H.set r (some ⟨u,[],some sz,some (.inr (0,some 0))⟩)) l):Tl P ops Q w0 A0 N Γ H l:=
 fun a w hSt=>let ⟨_,g⟩:=hSt;let ⟨E',g'⟩:=g.ownGrow hs hr;h a w ⟨E',g'⟩
end
section
variable {P:Program}{ops:Array Oper}{X:List Nat}{o:Oper}{Γ:Gam}{H:Hp}
theorem ze2{x:Operand}{s f fo sz:Nat}{ls ls':List Leaf}(ho:o.op = .fieldAddr s x f)(hx:opD Γ x=some (D.rep (zbf ls)))(hf:zah P s f=some (fo,sz))(hsz:Nat.beq sz 0=false)(hls:(ls.drop fo).take sz=ls') :
  Jq P ops X o Γ H (D.rep (zbf ls')):=by
 subst hls;intro w0 A0 N Γ2 H2 E a w hs hX hG;obtain⟨h1,v,h2,ad,h3,h4,h5⟩:=zdn (X:=X) (H:=H) ho hx hf hsz w0 A0 N Γ2 H2 E a w hs hX hG;refine⟨h1,v,h2,ad,h3,h4,fun i l hi=>h5 i l ?_⟩;rw[List.getElem?_take] at hi;split at hi
 .exact hi
 .simp at hi
end
section
variable {P:Program}{ops:Array Oper}{X:List Nat}{o:Oper}{Γ:Gam}{H:Hp}
theorem zl0{x:Operand}{s f fo t sz:Nat}{ls ls':List Leaf}(ho:o.op = .field s x f)(hx:opD Γ x=some (D.agg ls))(hf:zaq P s f=some (fo,t))(ht:TyIs P t true sz)(hls:(ls.drop fo).take sz=ls') :
  Jq P ops X o Γ H (D.agg ls'):=by
 unfold zaq at hf;split at hf
 .rename_i fields hu
  cases hfl:fields[f]? with
  |none=>rw[hfl] at hf;simp at hf
  |some fl=>
   rw[hfl] at hf;simp only[Option.map_some,zxd,zxf] at hf;obtain⟨h1,h2⟩:=hf;subst h2;exact zi9 ho hx hu hfl h1 ht hls
 .simp at hf
end
def zqr(A:zbG)(u sz:Nat)(ls:List Leaf)(lo:Nat)(v:Value)(w':World)(X:zbG->Prop):Prop:=
 (v = .slice none 0 0/\ls=[]/\∃A':zbG,X A'/\∀k j,A' k j->A k j\/(lo<=k/\k<w'.heap.size)) \/ ∃(A':zbG) (b cap:Nat) (cs rest:List Value),v = .slice (some ⟨b,0,none⟩) (ls.length/sz) cap/\lo<=b/\w'.heap[b]?=some (.cells (cs++rest).toArray u (0,0)) ∧
  (cs++rest).length=cap*sz/\cap<=maxLen/\denL (Foot.of A') ls cs w'/\(∀j,ls.length<=j->¬A' b j)/\(∀k j,A' k j->A k j\/(lo<=k/\k<w'.heap.size))/\X A'
@[reducible] def ztM(A:zbG)(u sz:Nat)(ls:List Leaf)(lo:Nat)(v:Value)(w':World):Prop:=zqr A u sz ls lo v w' (fun _=>True)
def CtrG(P:Program)(f u sz:Nat)(ls:List Leaf)(xs:List V):Prop:=
 ∀(w:World) (vs:List Value) (A:zbG),zoP w->(∀k j,A k j->k<w.heap.size)->denVs (Foot.of A) xs vs w →
  Calls P f vs.toArray w fun e w'=>∃v,e = .returned v/\ztM A u sz ls w.heap.size v w'/\Below w.heap.size w w'
def ztI(P:Program)(fn:Func)(w0:Frm)(A0:Foot)(u sz:Nat)(ls:List Leaf):Exit->Act->World->Prop:=
 bodyPost P fn fun e w'=>∃v,e = .returned v/\ztM A0.c u sz ls w0.w.heap.size v w'/\w0.Bel w'
theorem CtrG.of_body{P:Program}{f N u sz:Nat}{fn:Func}{c:Code}{ls:List Leaf}{xs:List V}(hf:P.funcs[f]?=some fn)(hb:fn.body=some c)(hN:fn.ntmps=N)(hl:xs.length<=min N 2000)
  (h:∀w0 A0,(∀k,¬w0.X k)->Tc P (ztI P fn w0 A0 u sz ls) w0 A0 N (zdD 0 xs) [] c):CtrG P f u sz ls xs:=by
 intro w vs A hg hA hd;have hlen:=hd.length;refine Calls.mono (calls_of_wp hf hb (R:=fun e w'=>∃v,e = .returned v/\ztM A u sz ls w.heap.size v w'/\(Frm.of w).Bel w') ?_) (fun e w' ⟨v,h1,h2,h3⟩=>⟨v,h1,h2,h3.to_below⟩);refine h (Frm.of w) (Foot.of A) (fun _ h=>h) _ _ ⟨⟨fun _=>0,fun _=>0,fun _=>false,Foot.of A⟩,Frm.Bel.refl (Frm.of w) hg (fun _ _ h=>h),hA,fun k j hk=>.inl hk,rfl,?_,?_,fun i e he=>by simp at he,fun i j e e' he=>by simp at he,fun i e v he=>by simp at he,fun i m v hv=>by simp at hv,fun k j hk=>⟨hk,rfl⟩⟩
 .simp;omega
 .intro s d hs;obtain⟨x,v,rfl,_,h2,h3⟩:=zb7 xs vs 0 s d hd hs;refine⟨trivial,v,?_,h3⟩;simp only[Nat.sub_zero] at h2;have hlt:=(zxc.1 h2).1;rw[zbA (by simp;omega),Array.getElem?_append_left (by simpa using hlt)];simpa using h2
section
variable {P:Program}{Q:Exit->Act->World->Prop}{w0:Frm}{A0:Foot}{N:Nat}{Γ:Gam}{H:Hp}
theorem Good.foot_new{E:Env}{a:Act}{w:World}(hG:Good w0 A0 N Γ H E a w)(hX:∀k,¬w0.X k)(k j:Nat)(hA:E.A.c k j):A0.c k j\/(w0.w.heap.size<=k/\k<w.heap.size):=by
 rcases hG.foot0 k j hA with h|h|h
 .exact .inl h
 .exact .inr ⟨h,hG.foot k j hA⟩
 .exact absurd h (hX _)
theorem Good.hand0{E:Env}{a:Act}{w:World}(hG:Good w0 A0 N Γ H E a w)(hX:∀k,¬w0.X k){u sz:Nat}{ls:List Leaf}{v:Value}(hv:v = .slice none 0 0)(hls:ls=[]){X:zbG->Prop}(hx:X E.A.c):zqr A0.c u sz ls w0.w.heap.size v w X:=
 .inl ⟨hv,hls,E.A.c,hx,hG.foot_new hX⟩
theorem Good.hand{E:Env}{a:Act}{w:World}(hG:Good w0 A0 N Γ H E a w)(hX:∀k,¬w0.X k){u sz i n k:Nat}{ls:List Leaf}{v:Value}(hd:E.A.g i n=some v)
  (hH:H[i]?=some (some ⟨u,ls,some sz,some (.inr (k,some n))⟩)) (hk:k=ls.length) (hcl:clL ls=true) {X:zbG->Prop} (hx:X E.A.c):zqr A0.c u sz ls w0.w.heap.size v w X:=by
 subst hk;obtain⟨g1,g2⟩:=hG.boxes i _ hH;have hkn:=(hG.kn i _ n hH ⟨_,rfl⟩).1;rw[hd] at hkn;have hv:v=HE.name E i ⟨u,ls,some sz,some (.inr (ls.length,some n))⟩:=Option.some.inj hkn;unfold HE.ok at g1;unfold HE.name at hv;simp only at g1 hv;cases hn:E.nil i
 .rw[hn] at hv g1;simp only[zxw,if_false] at hv g1;obtain⟨hm,cs,rest,h1,h2,h3⟩:=g1;obtain⟨g3,g4⟩:=g2 hn;refine .inr ⟨E.A.c,E.b i,E.cap i,cs,rest,hv,?_,h1,h2,hm,h3.pure hcl,g4,hG.foot_new hX,hx⟩;rcases g3 with g3|g3
  .exact g3
  .exact absurd g3 (hX _)
 .rw[hn] at hv g1;simp only[if_true] at hv g1;exact hG.hand0 hX hv g1.1 hx
theorem zqi{u sz s:Nat}{fn:Func}{ls':List Leaf}(hQ:∀a w,ztI P fn w0 A0 u sz ls' .ret a w->Q .ret a w)(hr:fn.results = #[.tmp s])(hs:zbI Γ s=some (D.val (.slice none 0 0)))(hls:ls'=[]):Tc P Q w0 A0 N Γ H .ret:=by
 intro a w hSt;obtain⟨E,hG⟩:=hSt;obtain⟨_,v,hv2,hd⟩:=hG.tmp hs;have hd:v = .slice none 0 0:=hd.1;refine wp_ret (hQ a w ⟨hG.defers,v,?_,v,rfl,.inl ⟨hd,hls,fun _ _=>False,trivial,fun _ _ h=>h.elim⟩,hG.below⟩);rw[zba,hr];simp[zdu,hv2]
theorem ztx{u sz s i n k:Nat}{fn:Func}{ls ls':List Leaf}(hQ:∀a w,ztI P fn w0 A0 u sz ls' .ret a w->Q .ret a w)(hX:∀k,¬w0.X k)(hr:fn.results = #[.tmp s])(hs:zbI Γ s=some (D.v (V.one (Leaf.own i n))))
  (hH:H[i]?=some (some ⟨u,ls,some sz,some (.inr (k,some n))⟩)) (hls:ls=ls') (hk:k=ls.length:=by rfl) (hcl:clL ls=true:=by first|rfl|exact El.all_cl _ _):Tc P Q w0 A0 N Γ H .ret:=by
 intro a w hSt;obtain⟨E,hG⟩:=hSt;subst hls;obtain⟨_,v,hv2,hd⟩:=hG.tmp hs;have hd:E.A.g i n=some v:=hd.1;refine wp_ret (hQ a w ⟨hG.defers,v,by rw[zba,hr];simp[zdu,hv2],v,rfl,hG.hand hX hd hH hk hcl trivial,hG.below⟩)
theorem Good.adoptX{E:Env}{a:Act}{w w':World}(h:Good w0 A0 N Γ H E a w)(hb:Below w.heap.size w w'){i u sz:Nat}(hi:H[i]?=some none){v:Value}{ls:List Leaf}{X:zbG->Prop}(hv:zqr E.A.c u sz ls w.heap.size v w' X)(hcl:clL ls=true)(hsz:0<sz) :
  ∃E',Good w0 A0 N Γ (H.set i (some ⟨u,ls,some sz,some (.inr (ls.length,some 0))⟩)) E' a w'/\E'.A.g i 0=some v/\v.oneCell'=true/\∃A':zbG,X A'/\∀k j,A' k j->E'.A.c k j:=by
 have hil:=(zxc.1 hi).1;have hk:kept E.A w w':=zcr fun k j hk=>hb.block k (h.foot k j hk);have hs0:w0.w.heap.size<=w.heap.size:=h.below.size;have hg0:∀m,E.A.g i m=none:=by
  intro m
  cases hm:E.A.g i m with
  |none=>rfl
  |some x=>
   obtain⟨e,k,n,q1,_⟩:=h.gd _ m x hm;rw[hi] at q1;simp at q1
 have hno:∀s d,zbm Γ s=some d->d.nm≠some i:=by
  intro s d hsd hnm;obtain⟨e,he,_⟩:=D.okn_iff.1 (h.slots s d hsd).1 i hnm;rw[hi] at he;simp at he
 obtain⟨A',nl,b,cap,hXA,hA',hrow,hname,hfree,hbs⟩:∃(A':zbG) (nl:Bool) (b cap:Nat),X A'/\(∀k j,A' k j->E.A k j\/(w.heap.size<=k/\k<w'.heap.size)) ∧
   (if nl=true then ls=[]/\cap=0 else cap<=maxLen/\∃cs rest:List Value,w'.heap[b]?=some (.cells (cs++rest).toArray u (0,0))/\(cs++rest).length=cap*sz/\denL (Foot.of A') ls cs w') ∧
   v=(if nl=true then .slice none 0 0 else .slice (some ⟨b,0,none⟩) (ls.length/sz) cap)/\(nl=false->∀j,ls.length<=j->¬A' b j)/\(nl=false->w.heap.size<=b/\b<w'.heap.size):=by
  rcases hv with⟨h1,h2,A',h3,h4⟩|⟨A',b,cap,cs,rest,h1,h2,h3,h4,h5,h6,h7,h8,h9⟩
  .exact⟨A',true,0,0,h3,h4,⟨h2,rfl⟩,h1,fun h=>by simp at h,fun h=>by simp at h⟩
  .exact⟨A',false,b,cap,h9,h8,⟨h5,cs,rest,h3,h4,h6⟩,h1,fun _=>h7,fun _=>⟨h2,(zxz.1 h3).1⟩⟩
 have hone:v.oneCell'=true:=by rw[hname];split <;> rfl
 let A2:Foot:=⟨fun k j=>E.A k j\/A' k j\/(nl=false/\k=b/\j<ls.length),fun x m=>if x=i/\m=0 then some v else E.A.g x m⟩
 let E':Env:=⟨fun x=>if x=i then b else E.b x,fun x=>if x=i then cap else E.cap x,fun x=>if x=i then nl else E.nil x,A2⟩
 have hle:Foot.le E.A A2:=⟨fun x j hx=>.inl hx,fun x m y hy=>by
  show(if x=i/\m=0 then some v else E.A.g x m)=some y;rw[if_neg]
  .exact hy
  .rintro⟨rfl,rfl⟩;rw[hg0] at hy;simp at hy⟩
 have back:∀(j:Nat) (e1:HE),(H.set i (some ⟨u,ls,some sz,some (.inr (ls.length,some 0))⟩))[j]?=some (some e1)->(j=i/\e1=⟨u,ls,some sz,some (.inr (ls.length,some 0))⟩)\/(j≠i/\H[j]?=some (some e1)):=by
  intro j e1 hj;by_cases hij:i=j
  .subst hij;rw[zxs hil] at hj;simp only[zxd] at hj;exact .inl ⟨rfl,hj.symm⟩
  .rw[zxp hij] at hj;exact .inr ⟨fun e=>hij e.symm,hj⟩
 refine⟨E',⟨h.below.then (hb.mono hs0),?_,?_,h.defers,h.size,?_,?_,?_,?_,?_,h.old.keep hle.1 hk⟩,if_pos ⟨rfl,rfl⟩,hone,A',hXA,fun k j hj=>.inr (.inl hj)⟩
 .intro k j hA;rcases hA with hA|hA|⟨h1,h2,_⟩
  .exact zxj (h.foot k j hA) hb.size
  .rcases hA' k j hA with hA|hA
   .exact zxj (h.foot k j hA) hb.size
   .exact hA.2
  .rw[h2];exact(hbs h1).2
 .intro k j hA;rcases hA with hA|hA|⟨h1,h2,_⟩
  .exact h.foot0 k j hA
  .rcases hA' k j hA with hA|hA
   .exact h.foot0 k j hA
   .exact .inr (.inl (zxk hs0 hA.1))
  .rw[h2];exact .inr (.inl (zxk hs0 (hbs h1).1))
 .intro s d hs;obtain⟨ho,x,hx,hd⟩:=h.slots s d hs;have hn:=hno s d hs;refine⟨D.okn_mono ho (fun y e1 hy he1 hv1=>⟨e1,?_,hv1⟩),x,hx,?_⟩
  .have:i≠y:=fun e=>hn (by rw[hy,e]);rw[zxp this];exact he1
  .have hd:=D.den_keep hk hd;rcases d with x|xs|⟨y,o⟩|⟨y,q⟩
   .exact V.den_mono hle hd
   .obtain⟨vs,rfl,hvs⟩:=hd;exact⟨vs,rfl,hvs.mono hle⟩
   .have:y≠i:=fun e=>hn (by rw[<-e];rfl);simp only[D.den,E',if_neg this] at hd ⊢;exact hd
   .have:y≠i:=fun e=>hn (by rw[<-e];rfl);simp only[D.den,E',if_neg this] at hd ⊢;exact hd
 .intro j e1 hj;rcases back j e1 hj with⟨rfl,rfl⟩|⟨hij,hj'⟩
  .refine⟨?_,fun hn=>?_⟩
   .unfold HE.ok;simp only[E',if_true];cases hnl:nl
    .rw[hnl] at hrow;simp only[zxw,if_false] at hrow ⊢;obtain⟨h1,cs,rest,h2,h3,h4⟩:=hrow;exact⟨h1,cs,rest,h2,h3,h4.mono ⟨fun k j hk=>.inr (.inl hk),fun _ _ _ h=>by simp at h⟩⟩
    .rw[hnl] at hrow;simp only[if_true] at hrow ⊢;exact hrow
   .simp only[E',if_true] at hn ⊢;refine⟨.inl (zxk hs0 (hbs hn).1),fun x hx hA=>?_⟩;have hx:ls.length<=x:=hx;rcases hA with hA|hA|⟨_,_,h3⟩
    .have:=h.foot _ _ hA;have:=(hbs hn).1;omega
    .exact hfree hn x hx hA
    .omega
  .obtain⟨g1,g2⟩:=h.boxes j e1 hj';refine⟨?_,fun hn=>?_⟩
   .have g3:=HE.ok_grow hle (HE.ok_keep hk (fun hn=>hb.block _ (HE.ok_lt g1 hn)) g1);unfold HE.ok at g3 ⊢;simp only[E',if_neg hij] at g3 ⊢;exact g3
   .simp only[E',if_neg hij] at hn ⊢;refine⟨(g2 hn).1,fun x hx hA=>?_⟩;have hlt:=HE.ok_lt g1 hn;rcases hA with hA|hA|⟨h1,h2,_⟩
    .exact(g2 hn).2 x hx hA
    .rcases hA' _ _ hA with hA|hA
     .exact(g2 hn).2 x hx hA
     .omega
    .have:=(hbs h1).1;omega
 .have old:∀(j:Nat) (e:HE),j≠i->(H.set i (some ⟨u,ls,some sz,some (.inr (ls.length,some 0))⟩))[j]?=some (some e)->E.nil j=false->E.b j<w.heap.size:=by
   intro j e hj hje hn;rcases back j e hje with⟨h1,_⟩|⟨_,h2⟩
   .exact absurd h1 hj
   .exact HE.ok_lt (h.boxes j e h2).1 hn
  intro j1 j2 e1 e2 g1 g2 n1 n2 h12;by_cases h1:j1=i
  .have h2:j2≠i:=fun e=>h12 (h1.trans e.symm);simp only[E',if_neg h2,if_pos h1] at n1 n2 ⊢;have:=old j2 e2 h2 g2 n2;have:=(hbs n1).1;omega
  .by_cases h2:j2=i
   .simp only[E',if_neg h1,if_pos h2] at n1 n2 ⊢;have:=old j1 e1 h1 g1 n1;have:=(hbs n2).1;omega
   .simp only[E',if_neg h1,if_neg h2] at n1 n2 ⊢;rcases back j1 e1 g1 with⟨q,_⟩|⟨_,g1'⟩
    .exact absurd q h1
    .rcases back j2 e2 g2 with⟨q,_⟩|⟨_,g2'⟩
     .exact absurd q h2
     .exact h.apart j1 j2 e1 e2 g1' g2' n1 n2 h12
 .intro j e1 m hj hm;rcases back j e1 hj with⟨rfl,rfl⟩|⟨hij,hj'⟩
  .obtain⟨k',hm⟩:=hm;simp only[zxd,Sum.inr.injEq,zxf] at hm;obtain⟨_,rfl⟩:=hm;refine⟨?_,fun m' hm'=>?_,fun hn x hx=>?_⟩
   .show(if j=j/\0=0 then some v else E.A.g j 0)=_;rw[if_pos ⟨rfl,rfl⟩];simp only[HE.name,E',if_true];rw[hname]
   .show(if j=j/\m'=0 then some v else E.A.g j m')=none;rw[if_neg (fun e'=>by omega)];exact hg0 m'
   .simp only[E',if_true] at hn ⊢;exact .inr (.inr ⟨hn,rfl,hx⟩)
  .obtain⟨q1,q2,q3⟩:=h.kn j e1 m hj' hm;refine⟨?_,fun m' hm'=>?_,fun hn x hx=>?_⟩
   .show(if j=i/\m=0 then some v else E.A.g j m)=_;rw[if_neg (fun e'=>hij e'.1),q1];unfold HE.name;simp only[E',if_neg hij]
   .show(if j=i/\m'=0 then some v else E.A.g j m')=none;rw[if_neg (fun e'=>hij e'.1)];exact q2 m' hm'
   .simp only[E',if_neg hij] at hn ⊢;exact .inl (q3 hn x hx)
 .intro j m x hg;by_cases hj:j=i
  .subst hj;exact⟨_,_,0,zxs hil,rfl⟩
  .have hg:(if j=i/\m=0 then some v else E.A.g j m)=some x:=hg;rw[if_neg (fun e'=>hj e'.1)] at hg;obtain⟨e1,k1,n1,q1,q2⟩:=h.gd j m x hg;exact⟨e1,k1,n1,by rw[zxp (fun e=>hj e.symm)];exact q1,q2⟩
end
section
variable {P:Program}{ops:Array Oper}{o:Oper}{Γ:Gam}{H:Hp}
theorem zqo{f i u sz:Nat}{args:Array Operand}{tys:Array TypeId}{xs:List V}{ls:List Leaf}(ho:o.op = .call { callee:=.value (.func f),args:=args,argTypes:=tys })(hf:zay P f)
  (hx:zcE Γ args.toList=some xs) (hspec:CtrG P f u sz ls xs) (hsz:0<sz) (hi:H[i]?=some none) (hcl:clL ls=true:=by first|rfl|exact El.all_cl _ _) (hcx:zgd xs=true:=by rfl) :
  Je P ops o Γ H (some (D.v (V.one (Leaf.own i 0)))) (H.set i (some ⟨u,ls,some sz,some (.inr (ls.length,some 0))⟩)):=by
 intro w0 A0 N Γ2 a w Q K hs hN hSt hK;obtain⟨E,hG⟩:=hSt;obtain⟨fn,hfn,hb,hn⟩:=hf;have hargs:=zbo (Γ:=Γ) (E:=E) (a:=a) (w:=w) args.toList xs (fun x hx d hd=>(za1 hs hG (x:=x) (by rw[ho];simp[Op.operands,Call.operands];exact .inr (by simpa using hx)) hd).2) hx;have hrun:(execOp a.eval o).run P w = .ok (.enter f (args.map a.eval)) w:=by
  have hn':¬fn.name = "runtime.NumGoroutine":=by simpa using hn
  have hb':¬fn.body=none:=by intro e;rw[e] at hb;simp at hb
  simp[execOp,ho,resolve,Deferred.ofValue,invoke,callFunc,hfn,hn',hb',Act.eval]
 unfold Oper.wp;rw[hrun,Oper.upon_enter];have hc:=hspec w (args.map a.eval).toList E.A.c hG.below.now hG.foot (by have:=hargs.pure hcx;simpa using this);rw[show(args.map a.eval).toList.toArray=args.map a.eval from Array.toArray_toList] at hc;refine Calls.mono hc ?_;rintro e w' ⟨v,rfl,hh,hbel⟩;obtain⟨E',hG',hg,hone,_⟩:=hG.adoptX hbel hi hh hcl hsz;exact hK _ _ ⟨E',hG'.put (fun d hd=>by cases hd;exact⟨trivial,hg,hone⟩) hN⟩
theorem zqp{f i u sz:Nat}{args:Array Operand}{tys:Array TypeId}{xs:List V}{ls:List Leaf}(ho:o.op = .call { callee:=.value (.func f),args:=args,argTypes:=tys })(hf:zay P f)
  (hx:zcE Γ args.toList=some xs) (hspec:CtrG P f u sz ls xs) (hsz:0<sz) (hi:H[i]?=some none) (hcl:clL ls=true:=by first|rfl|exact El.all_cl _ _) (hcx:zgd xs=true:=by rfl) :
  ∀H2:Hp,H2[i]?=H[i]?->Je P ops o Γ H2 (some (D.v (V.one (Leaf.own i 0)))) (H2.set i (some ⟨u,ls,some sz,some (.inr (ls.length,some 0))⟩)):=fun _ hH=>zqo ho hf hx hspec hsz (hH.trans hi) hcl hcx
end
end Rc
