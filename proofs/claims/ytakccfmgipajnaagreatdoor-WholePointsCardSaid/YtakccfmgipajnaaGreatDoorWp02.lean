/- Parts of the proof, 2: the texts FwF, FwG, FwH, FwJ, FwK, FwL, FwM, FwQ, as far as they are used. -/
import Derived.Test.YtakccfmgipajnaaGreatDoorWp01
import Derived.WalkSpells
import Derived.LoopN
set_option linter.unusedSimpArgs false
set_option linter.unusedVariables false
set_option maxRecDepth 10000
namespace Rc
abbrev XO:=@Prod.mk.injEq
abbrev XX:=@List.length_append
abbrev X5:=@List.eq_nil_of_length_eq_zero
abbrev Ya:=@Nat.mul_le_mul_right
abbrev Yg:=@List.length_nil
abbrev Yh:=@List.drop_eq_getElem_cons
abbrev Yi:=@List.getElem?_eq_none
abbrev Yn:=@Nat.le_of_lt
abbrev Ys:=@Nat.add_mul
abbrev YC:=@Array.toList_inj
abbrev YV:=@Nat.le_of_mul_le_mul_right
abbrev Y1:=@Nat.mul_one
abbrev Zf:=@Nat.lt_succ_self
abbrev Zl:=@Nat.mul_eq_zero
abbrev Zm:=@Nat.zero_mul
abbrev Zt:=@List.getElem?_toArray
abbrev Zu:=@Int.natCast_mul
abbrev ZO:=@Nat.add_assoc
abbrev Z8:=@Int.natCast_pow
abbrev zai:=@Option.isNone_iff_eq_none
abbrev zam:=@List.getElem?_set
abbrev zan:=@List.size_toArray
abbrev zaX:=@List.drop_append
abbrev za6:=@Go.World.size_alloc
end Rc
namespace Rc
open Go Go.RowKit
theorem qh(l:List Nat):bW (l.map aY)=true:=by
 induction l with
 |nil=>rfl
 |cons x xs ih=>exact ih
def xQ(i:Nat):Option D->Option D
 |none=>none
 |some d=>match d.nm with
  |none=>some d
  |some j=>bif Nat.beq j i then none else some d
def fk(i:Nat):aA->aA
 |[]=>[]
 |(s,d)::g=>(s,xQ i d)::fk i g
theorem rP(i:Nat)(g:aA)(s:Nat):look (fk i g) s=xQ i (look g s):=by
 induction g with
 |nil=>rfl
 |cons p g ih=>
  obtain⟨k,d⟩:=p;simp only[fk,uB];cases Nat.beq k s
  .simpa using ih
  .rfl
theorem rW{i:Nat}{x:Option D}{d:D}(h:xQ i x=some d):x=some d/\d.nm≠some i:=by
 unfold xQ at h
 cases x with
 |none=>simp at h
 |some d'=>
  simp only at h
  cases hn:d'.nm with
  |none=>rw[hn] at h;simp at h;subst h;exact⟨rfl,by rw[hn];simp⟩
  |some j=>
   rw[hn] at h;simp only at h
   cases hb:Nat.beq j i with
   |true=>rw[hb] at h;simp at h
   |false=>
    rw[hb] at h;simp at h;subst h;refine⟨rfl,?_⟩;rw[hn];intro e;cases e;simp at hb
theorem D.UM{E E':Env}{d:D}{v:Value}{w:World}(hA:E'.A=E.A)(h:∀i,d.nm=some i->E'.b i=E.b i/\E'.cap i=E.cap i/\E'.nil i=E.nil i)(hd:d.den E v w):d.den E' v w:=by
 rcases d with x|xs|⟨i,o⟩|⟨i,n⟩
 .simp only[D.den,hA] at hd ⊢;exact hd
 .simp only[D.den,hA] at hd ⊢;exact hd
 .obtain⟨h1,_,_⟩:=h i rfl;simp only[D.den,h1] at hd ⊢;exact hd
 .obtain⟨h1,h2,h3⟩:=h i rfl;simp only[D.den,h1,h2,h3] at hd ⊢;exact hd
section
variable {w0:aJ}{A0:ak}{N:Nat}{Γ:aA}{H:Hp}{E:Env}{a:Act}{w:World}
theorem getElem?_set'{α:Type}(l:List α)(i j:Nat)(x:α):(l.set i x)[j]?=if i=j then(if i<l.length then some x else none) else l[j]?:=by
 by_cases h:i=j
 .subst h;simp[zam]
 .simp[h]
def nU(H:Hp)(i:Nat):Bool:=match H[i]? with|some (some e)=>e.cY|_=>false
theorem Mf{e:HE}{i k n:Nat}(hi:H[i]?=some (some e))(hp:e.cP=some (.inr (k,some n))):nU H i=true:=by unfold nU HE.cY;rw[hi];simp only[hp]
theorem zP{e:HE}{i:Nat}(hi:H[i]?=some (some e))(hp:e.cY=false):nU H i=false:=by unfold nU;rw[hi];exact hp
theorem Good.free(h:Good w0 A0 N Γ H E a w)(i:Nat)(hv:nU H i=false):Good w0 A0 N (fk i Γ) (H.set i none) E a w:=by
 have hlen:(H.set i none).length=H.length:=by simp
 have back:∀(j:Nat) (e:HE),(H.set i none)[j]?=some (some e)->H[j]?=some (some e):=by
  intro j e hj;rw[getElem?_set'] at hj;split at hj
  .split at hj <;> simp at hj
  .exact hj
 refine⟨h.below,h.bc,h.cE,h.defers,h.size,?_,fun j e hj=>h.boxes j e (back j e hj),fun j1 j2 e1 e2 h1 h2=>h.apart j1 j2 e1 e2 (back _ _ h1) (back _ _ h2),fun j e v hj hp=>h.kn j e v (back _ _ hj) hp,fun j m v hg=>by
  obtain⟨e,k,n,h1,h2⟩:=h.gd j m v hg;refine⟨e,k,n,?_,h2⟩;rw[getElem?_set',if_neg (fun e'=>by subst e';rw[Mf h1 h2] at hv;simp at hv)];exact h1,h.bg⟩
 intro s d hs;rw[rP] at hs;obtain⟨h1,h2⟩:=rW hs;obtain⟨ho,v,hv,hd⟩:=h.cr s d h1;refine⟨D.kK ho (fun j e hj he hv=>⟨e,?_,hv⟩),v,hv,hd⟩;rw[X0 (fun hij=>h2 (by rw[hij];exact hj))];exact he
theorem Good.bind(h:Good w0 A0 N Γ H E a w){i:Nat}(hi:H[i]?=some none)(hno:∀s d,look Γ s=some d->d.nm≠some i){b cap:Nat}{nl:Bool}{e:HE}{E':Env}
  (hE:E'=⟨fun j=>if j=i then b else E.b j,fun j=>if j=i then cap else E.cap j,fun j=>if j=i then nl else E.nil j,E.A⟩)
  (hok:e.ok E' i w) (hb:nl=false->w0.oo e.cP b/\(∀j,e.fz<=j->¬E.A b j)/\∀j e',H[j]?=some (some e')->E.nil j=false->E.b j≠b) (hkn:∀n,(∃k,e.cP=some (.inr (k,some n)))->E.A.g i n=some (e.name E' i)/\(∀m,n<m->E.A.g i m=none)/\(E'.nil i=false->∀j,j<e.fz->E.A (E'.b i) j)) :
  Good w0 A0 N Γ (H.set i (some e)) E' a w:=by
 subst hE;have hil:i<H.length:=(XN.1 hi).1;have hlen:(H.set i (some e)).length=H.length:=by simp
 have back:∀(j:Nat) (e1:HE),j≠i->(H.set i (some e))[j]?=some (some e1)->H[j]?=some (some e1):=by
  intro j e1 hj h1;rw[getElem?_set',if_neg (fun h=>hj h.symm)] at h1;exact h1
 have same:∀(j:Nat) (e1:HE),j≠i->e1.ok E j w->e1.ok ⟨fun j=>if j=i then b else E.b j,fun j=>if j=i then cap else E.cap j,fun j=>if j=i then nl else E.nil j,E.A⟩ j w:=by
  intro j e1 hj h1;unfold HE.ok at h1 ⊢;simp only[if_neg hj];exact h1
 refine⟨h.below,h.bc,h.cE,h.defers,h.size,?_,?_,?_,?_,?_,h.bg⟩
 .intro s d hs;obtain⟨ho,v,hv,hd⟩:=h.cr s d hs;refine⟨ho.oj (fun e0 h0 _=>by rw[hi] at h0;simp at h0),v,hv,D.UM (E:=E) rfl (fun j hj=>?_) hd⟩;have:j≠i:=fun e=>hno s d hs (by rw[hj,e]);simp[this]
 .intro j e1 h1;by_cases hj:j=i
  .subst hj;rw[X7 hil] at h1;simp only[XL] at h1;subst h1;refine⟨hok,fun hn=>?_⟩;simp only[if_true] at hn ⊢;exact⟨(hb hn).1,(hb hn).2.1⟩
  .obtain⟨g1,g2⟩:=h.boxes j e1 (back j e1 hj h1);refine⟨same j e1 hj g1,fun hn=>?_⟩;simp only[if_neg hj] at hn ⊢;exact g2 hn
 .intro j1 j2 e1 e2 h1 h2 hn1 hn2 hne;by_cases hj1:j1=i
  .have hj2:j2≠i:=fun e=>hne (hj1.trans e.symm);simp only[if_neg hj2] at hn2 ⊢;simp only[if_pos hj1] at hn1 ⊢;exact fun e=>(hb hn1).2.2 j2 e2 (back j2 e2 hj2 h2) hn2 e.symm
  .by_cases hj2:j2=i
   .simp only[if_neg hj1] at hn1 ⊢;simp only[if_pos hj2] at hn2 ⊢;exact(hb hn2).2.2 j1 e1 (back j1 e1 hj1 h1) hn1
   .simp only[if_neg hj1,if_neg hj2] at hn1 hn2 ⊢;exact h.apart j1 j2 e1 e2 (back j1 e1 hj1 h1) (back j2 e2 hj2 h2) hn1 hn2 hne
 .intro j e1 v h1 hp;by_cases hj:j=i
  .subst hj;rw[X7 hil] at h1;simp only[XL] at h1;subst h1;exact hkn v hp
  .have:=h.kn j e1 v (back j e1 hj h1) hp;unfold HE.name at this ⊢;simp only[if_neg hj];exact this
 .intro j m v hg;obtain⟨e1,k,n,h1,h2⟩:=h.gd j m v hg;refine⟨e1,k,n,?_,h2⟩;rw[X0 (fun e'=>by subst e';rw[hi] at h1;simp at h1)];exact h1
theorem Good.Dg(h:Good w0 A0 N Γ H E a w){i t:Nat}{ls:List ab}{cs:List Value}(hi:H[i]?=some none)(hc:a9 E.A ls cs w) :
  ∃E',Good w0 A0 N Γ (H.set i (some ⟨t,ls,none,none⟩)) E' a (w.alloc (.cells cs.toArray t))/\E'.b i=w.heap.size/\E'.A=E.A:=by
 have hb:=ma w (.cells cs.toArray t);have hk:kept E.A w (w.alloc (.cells cs.toArray t)):=ju fun k j hk=>hb.block k (h.bc k j hk);have hsz:(w.alloc (.cells cs.toArray t)).heap.size=w.heap.size+1:=by simp
 have hnew:(w.alloc (.cells cs.toArray t)).heap[w.heap.size]?=some (.cells cs.toArray t (0,0)):=heap_alloc_new w _;have hgw:Good w0 A0 N Γ H E a (w.alloc (.cells cs.toArray t)):=
  ⟨h.below.then (hb.mono h.below.size),fun k j hk=>by have:=h.bc k j hk;omega,h.cE,h.defers,h.size,
   fun s d hs=>let ⟨ho',v,hv,hd⟩:=h.cr s d hs;⟨ho',v,hv,D.fK hk hd⟩,
   fun j e' hj=>⟨HE.kL hk (fun hn=>hb.block _ (HE.eu (h.boxes j e' hj).1 hn)) (h.boxes j e' hj).1,(h.boxes j e' hj).2⟩,h.apart,h.kn,h.gd,h.bg.bI (fun _ _ x=>x) hk⟩
 have hbind:=hgw.bind (i:=i) (b:=w.heap.size) (cap:=0) (nl:=false) (e:=⟨t,ls,none,none⟩) hi
  (fun s d hs hn=>by
   obtain⟨ho,_⟩:=hgw.cr s d hs;obtain⟨e,he,_⟩:=D.uj.1 ho i hn;rw[hi] at he;simp at he) rfl
  (by simp only[HE.ok,if_true];exact⟨trivial,cs,hnew,hc.bI hk⟩)
  (fun _=>⟨h.below.size,fun j _ hA=>by have:=h.bc _ _ hA;omega,fun j e' hj hn' hbj=>by
   have:=HE.eu (h.boxes j e' hj).1 hn';omega⟩) (fun v h=>by simp at h)
 exact⟨_,hbind,by simp,rfl⟩
theorem Good.Ea(h:Good w0 A0 N Γ H E a w)(A':Cells)(hA:∀k j,E.A k j->A' k j)(h1:∀k j,A' k j->k<w.heap.size)(h2:∀k j,A' k j->A0 k j\/w0.w.heap.size<=k\/w0.X k)
  (h3:∀i e,H[i]?=some (some e)->E.nil i=false->∀j,e.fz<=j->¬A' (E.b i) j):Good w0 A0 N Γ H { E with A:=⟨A',E.A.g⟩ } a w:=
 ⟨h.below,h1,h2,h.defers,h.size,fun s d hs=>let ⟨ho,v,hv,hd⟩:=h.cr s d hs;⟨ho,v,hv,D.sM ⟨hA,fun _ _ _ h=>h⟩ hd⟩,
  fun i e he=>⟨HE.jt ⟨hA,fun _ _ _ h=>h⟩ (h.boxes i e he).1,fun hn=>⟨((h.boxes i e he).2 hn).1,h3 i e he hn⟩⟩,h.apart,fun i e v he hp=>⟨(h.kn i e v he hp).1,(h.kn i e v he hp).2.1,fun hn j hj=>hA _ _ ((h.kn i e v he hp).2.2 hn j hj)⟩,h.gd,h.bg.bI hA (kept.refl _ _)⟩
theorem Good.share(h:Good w0 A0 N Γ H E a w){s i n sz:Nat}{e:HE}(hs:look Γ s=some (D.own i n))(hi:H[i]?=some (some e))(hr:e.row=some sz)(hl:e.ls.length=n*sz)(hsz:0<sz)(hp:e.cP=none)(hcl:bW e.ls=true) :
  St w0 A0 N ((s,some (D.rep (bX n e.ls)))::fk i Γ) (H.set i none) a w:=by
 obtain⟨_,v,hv,hd⟩:=h.cr s _ hs;have hd:v=if E.nil i then .slice none 0 0 else .slice (some ⟨E.b i,0,none⟩) n (E.cap i):=hd;obtain⟨g1,g2⟩:=h.boxes i e hi;have hf:=h.free i (zP hi (by unfold HE.cY;rw[hp]));unfold HE.ok at g1;rw[hr] at g1;have fin:∀(E':Env) (hg:Good w0 A0 N (fk i Γ) (H.set i none) E' a w),(bX n e.ls).P E'.A v w->St w0 A0 N ((s,some (D.rep (bX n e.ls)))::fk i Γ) (H.set i none) a w:=by
  intro E' hg hP;refine⟨E',hg.below,hg.bc,hg.cE,hg.defers,hg.size,?_,hg.boxes,hg.apart,hg.kn,hg.gd,hg.bg⟩;intro s' d hs';by_cases e':s=s'
  .subst e';rw[hY] at hs';cases hs';exact⟨trivial,v,hv,hP⟩
  .rw[gH e'] at hs';exact hg.cr s' d hs'
 cases hn:E.nil i
 .simp only[hn] at g1 hd;obtain⟨hm,cs,rest,hc,hlen,hcd⟩:=g1;obtain⟨b1,b2⟩:=g2 hn;rw[hp] at b1;have hlt:E.b i<w.heap.size:=(X4.1 hc).1;have hlc:=hcd.length;have hw:=hf.Ea (fun k j=>E.A k j\/k=E.b i) (fun k j hk=>.inl hk) (fun k j hk=>by rcases hk with hk|rfl;exact h.bc k j hk;exact hlt)
   (fun k j hk=>by rcases hk with hk|rfl;exact h.cE k j hk;exact .inr (.inl b1))
   (fun j e' hj hnj jj hjj hA=>by
    rw[getElem?_set'] at hj;split at hj
    .split at hj <;> simp at hj
    .rename_i hij;rcases hA with hA|hA
     .exact((h.boxes j e' hj).2 hnj).2 jj hjj hA
     .exact h.apart i j e e' hi hj hn hnj hij hA.symm)
  refine fin _ hw ⟨some ⟨E.b i,0,none⟩,E.cap i,by simpa using hd,?_,hm,fun h=>by simp at h,fun ad had=>?_⟩
  .have:n*sz<=E.cap i*sz:=by rw[<-hl,<-hlen,<-hlc];simp
   exact YV this hsz
  .cases had;refine⟨fun _=>rfl,fun j l hj=>⟨.inr rfl,?_⟩⟩;obtain⟨u,hu,hud⟩:=(hcd.pure hcl).get hj;have hju:=(XN.1 hu).1;refine⟨u,?_,ab.cU (ak.le.of fun k j hk=>.inl hk) hud⟩;have:=kQ (o:=j) hc (v:=u) (by rw[XV hju];exact hu);simpa using this
 .simp only[hn,if_true] at g1;obtain⟨g3,_⟩:=g1;have hn0:n=0:=by
   rw[g3] at hl;rcases Zl.1 hl.symm with h|h
   .exact h
   .omega
  subst hn0;refine fin E hf ?_;rw[g3,if_pos hn] at *;subst hd;exact oi E.A w
end
section
variable {P:Program}{ops:Array Oper}{Q:Exit->Act->World->Prop}{w0:aJ}{A0:ak}{N:Nat}{Γ:aA}{H:Hp}
theorem Wo{c:Code}(s:Nat){i n sz:Nat}{e:HE}(hs:look Γ s=some (D.own i n))(hi:H[i]?=some (some e))(hr:e.row=some sz)(hl:e.ls.length=n*sz)(hsz:0<sz)
  (h:Tc P Q w0 A0 N ((s,some (D.rep (bX n e.ls)))::fk i Γ) (H.set i none) c) (hp:e.cP=none:=by rfl) (hcl:bW e.ls=true:=by first|rfl|exact qh _):Tc P Q w0 A0 N Γ H c:=
 fun a w hSt=>let ⟨_,g⟩:=hSt;h a w (g.share hs hi hr hl hsz hp hcl)
theorem Wg{l:List Oper}(s:Nat){i n sz:Nat}{e:HE}(hs:look Γ s=some (D.own i n))(hi:H[i]?=some (some e))(hr:e.row=some sz)(hl:e.ls.length=n*sz)(hsz:0<sz)
  (h:Tl P ops Q w0 A0 N ((s,some (D.rep (bX n e.ls)))::fk i Γ) (H.set i none) l) (hp:e.cP=none:=by rfl) (hcl:bW e.ls=true:=by first|rfl|exact qh _):Tl P ops Q w0 A0 N Γ H l:=
 fun a w hSt=>let ⟨_,g⟩:=hSt;h a w (g.share hs hi hr hl hsz hp hcl)
end
section
variable {P:Program}{ops:Array Oper}{o:Oper}{Γ:aA}{H:Hp}
theorem Xh{t i:Nat}{zs:List ab}(ho:o.op = .alloc t)(hz:de P t zs)(hi:H[i]?=some none):Je P ops o Γ H (some (D.ptr i 0)) (H.set i (some ⟨t,zs,none,none⟩)):=by
 intro w0 A0 N Γ2 a w Q K hs hN hSt hK;obtain⟨E,hG⟩:=hSt;obtain⟨z,hzr,hzd⟩:=hz.run w E.A;obtain⟨E',hG',hb,hA⟩:=hG.Dg (t:=t) hi hzd;rw[show z.cells.toList.toArray=z.cells from by simp] at hG';refine gh (v:=.pointer (some ⟨w.heap.size,0,none⟩)) (w':=w.alloc (.cells z.cells t)) ?_ (hK _ _ ⟨E',hG'.put (fun d hd=>?_) hN⟩)
 .simp[execOp,ho,Instr.alloc,newVar,newRow,hzr]
 .cases hd;exact⟨⟨_,X7 (XN.1 hi).1,rfl⟩,by show _=_;rw[hb]⟩
theorem Xc{t i:Nat}{x:Operand}{y:V}(ho:o.op = .box t x)(hx:ao Γ x=some (D.v y))(hi:H[i]?=some none):Je P ops o Γ H (some (D.ptr i 0)) (H.set i (some ⟨t,y.leaves,none,none⟩)):=by
 intro w0 A0 N Γ2 a w Q K hs hN hSt hK;obtain⟨E,hG⟩:=hSt;obtain⟨_,h2⟩:=bY hs hG (x:=x) (by rw[ho];simp[Op.operands]) hx;have hc:=V.yB (show y.den E.A (a.eval x) w from h2);obtain⟨E',hG',hb,hA⟩:=hG.Dg (t:=t) hi hc;rw[show(a.eval x).cells.toList.toArray=(a.eval x).cells from by simp] at hG';refine gh (v:=.pointer (some ⟨w.heap.size,0,none⟩)) (w':=w.alloc (.cells (a.eval x).cells t)) ?_ (hK _ _ ⟨E',hG'.put (fun d hd=>?_) hN⟩)
 .simp[execOp,ho,Instr.box,newVar,newRow]
 .cases hd;exact⟨⟨_,X7 (XN.1 hi).1,rfl⟩,by show _=_;rw[hb]⟩
end
section
variable {P:Program}{ops:Array Oper}{X:List Nat}{o:Oper}{Γ:aA}{H:Hp}
theorem WU{x:Operand}{t u n:Nat}{ls:List ab}(ho:o.op = .call { callee:=.builtin .len,args:=#[x],argTypes:=#[t] })(hx:ao Γ x=some (D.rep (bX n ls)))(ht:P.underlying t=some (.slice u)) :
  Jq P ops X o Γ H (D.int n):=by
 intro w0 A0 N Γ2 H2 E a w hs hX hG;obtain⟨_,ad,cap,h2,_⟩:=bY hs hG (x:=x) (by rw[ho];simp[Op.operands,Call.operands]) hx;refine⟨trivial,goInt n,?_,rfl,rfl⟩;simp[execOp,ho,resolve,invoke,builtin,Builtin.len_,h2,run_underlying ht]
theorem WT{x:Operand}{t u i n sz:Nat}{e:HE}(ho:o.op = .call { callee:=.builtin .len,args:=#[x],argTypes:=#[t] })(hx:ao Γ x=some (D.own i n))(hi:H[i]?=some (some e))(hXi:i ∉ X)
  (hr:e.row=some sz) (hl:e.ls.length=n*sz) (hsz:0<sz) (ht:P.underlying t=some (.slice u)):Jq P ops X o Γ H (D.int n):=by
 intro w0 A0 N Γ2 H2 E a w hs hX hG;obtain⟨_,h2d⟩:=bY hs hG (x:=x) (by rw[ho];simp[Op.operands,Call.operands]) hx;have h2:a.eval x=if E.nil i then .slice none 0 0 else .slice (some ⟨E.b i,0,none⟩) n (E.cap i):=h2d;obtain⟨g1,_⟩:=hG.boxes i e (hX i e hXi hi);refine⟨trivial,goInt n,?_,rfl,rfl⟩;cases hn:E.nil i
 .simp only[hn] at h2;simp[execOp,ho,resolve,invoke,builtin,Builtin.len_,h2,run_underlying ht]
 .unfold HE.ok at g1;rw[hr] at g1;simp only[hn,if_true] at g1 h2;have:n=0:=by
   rw[g1.1] at hl;rcases Zl.1 hl.symm with h|h
   .exact h
   .omega
  subst this;simp[execOp,ho,resolve,invoke,builtin,Builtin.len_,h2,run_underlying ht]
theorem jW(b o n:Nat):(⟨b,o,none⟩:Addr).add n=⟨b,o+n,none⟩:=zaE b o n
theorem Li{x y:Operand}{t u n sz:Nat}{k:IntKind}{j:Int}{b:Bool}{ls ls':List ab}(ho:o.op = .indexAddr t x y)(hx:ao Γ x=some (D.rep (bX n ls)))(hy:ao Γ y=some (D.val (.int k j)))
  (ht:P.underlying t=some (.slice u)) (hu:bJ P u b sz) (h0:0<=j) (hj:j<n) (hls:(ls.drop (j.toNat*sz)).take sz=ls'):Jq P ops X o Γ H (D.rep (eR ls')):=by
 intro w0 A0 N Γ2 H2 E a w hs hX hG;obtain⟨_,ad,cap,h2,hnc,_,hnil,hcells⟩:=bY hs hG (x:=x) (by rw[ho];simp[Op.operands]) hx;have e2:=cT hs hG (x:=y) (by rw[ho];simp[Op.operands]) hy
 cases ad with
 |none=>obtain⟨h3,_⟩:=hnil rfl;omega
 |some ad=>
  obtain⟨h3,h4⟩:=hcells ad rfl;obtain⟨bl,off,sp⟩:=ad;simp only at h3 h4;have h3:=h3 (by omega);subst h3;refine⟨trivial,.pointer (some ⟨bl,off+j.toNat*sz,none⟩),?_,⟨bl,off+j.toNat*sz,none⟩,rfl,rfl,fun i l hil=>?_⟩
  .simp[execOp,ho,h2,e2,Instr.indexAt,asIntOf,run_underlying ht,h0,hj,hu.sizeOf,jW]
  .rw[<-hls,YS] at hil;split at hil
   .rw[Yw] at hil;have:=h4 _ l hil;simpa[ZO] using this
   .simp at hil
theorem WX{x y:Operand}{t u n:Nat}{k:IntKind}{j:Int}{b:Bool}{ls:List ab}{l:ab}(ho:o.op = .indexAddr t x y)(hx:ao Γ x=some (D.rep (bX n ls)))(hy:ao Γ y=some (D.val (.int k j)))
  (ht:P.underlying t=some (.slice u)) (hu:bJ P u b 1) (h0:0<=j) (hj:j<n) (hl:ls[j.toNat]?=some l):Jq P ops X o Γ H (D.rep (eR [l])):=by
 refine Li ho hx hy ht hu h0 hj ?_;have hlt:=(XN.1 hl);obtain⟨h1,h2⟩:=hlt;rw[Y1,Yh h1,h2];rfl
theorem eK{x y:Operand}{t u i n sz:Nat}{k:IntKind}{j:Int}{b:Bool}{e:HE}(ho:o.op = .indexAddr t x y)(hx:ao Γ x=some (D.own i n))(hy:ao Γ y=some (D.val (.int k j)))(hi:H[i]?=some (some e))(hXi:i ∉ X)
  (hl:e.ls.length=n*sz) (hsz:0<sz) (ht:P.underlying t=some (.slice u)) (hu:bJ P u b sz) (h0:0<=j) (hj:j<n) {off:Nat} (hoff:j.toNat*sz=off):Jq P ops X o Γ H (D.ptr i off):=by
 intro w0 A0 N Γ2 H2 E a w hs hX hG;obtain⟨h1,h2⟩:=bY hs hG (x:=x) (by rw[ho];simp[Op.operands]) hx;have h2:a.eval x=if E.nil i then .slice none 0 0 else .slice (some ⟨E.b i,0,none⟩) n (E.cap i):=h2;have e2:=cT hs hG (x:=y) (by rw[ho];simp[Op.operands]) hy;obtain⟨g1,_⟩:=hG.boxes i e (hX i e hXi hi);have hnn:=HE.not_nil g1 (by rw[hl];exact Zn (by omega) hsz);simp only[hnn] at h2;refine⟨h1,.pointer (some ⟨E.b i,off,none⟩),?_,rfl⟩;subst hoff;simp[execOp,ho,h2,e2,Instr.indexAt,asIntOf,run_underlying ht,h0,hj,hu.sizeOf,jW]
theorem qW{w:World}{A:Cells}{t u n sz:Nat}{b:Bool}{v:Value}{ls ls':List ab}{lo hi:Nat}{olo ohi:Option Value}(ht:P.underlying t=some (.slice u))(hu:bJ P u b sz)(hv:(bX n ls).P A v w)
  (hlo:(∃k,olo=some (.int k lo))\/(olo=none/\lo=0)) (hhi:(∃k,ohi=some (.int k hi))\/(ohi=none/\hi=n)) (h1:lo<=hi) (h2:hi<=n) (hls:(ls.drop (lo*sz)).take ((hi-lo)*sz)=ls') :
  ∃v',(Instr.sliceAt t v olo ohi none).run P w = .ok v' w/\(bX (hi-lo) ls').P A v' w:=by
 obtain⟨a,cap,rfl,c1,c2,c3,c4⟩:=hv;have hrun:(Instr.sliceAt t (.slice a n cap) olo ohi none).run P w = .ok (.slice (if cap=lo then a else a.map (·.add (lo*sz))) (hi-lo) (cap-lo)) w:=by
  have b1:hi<=cap:=by omega
  rcases hlo with⟨k,rfl⟩|⟨rfl,rfl⟩ <;> rcases hhi with⟨k',rfl⟩|⟨rfl,rfl⟩ <;>
   simp[Instr.sliceAt,Instr.slice,run_underlying ht,Instr.sliceBounds,Instr.sliceBound,asIntOf,hu.sizeOf,b1,h1,c1]
 refine⟨_,hrun,(if cap=lo then a else a.map (·.add (lo*sz))),cap-lo,rfl,by omega,by omega,fun hn=>?_,fun ad had=>?_⟩
 .have ha:a=none:=by
   split at hn
   .exact hn
   .simpa using hn
  obtain⟨d1,d2,d3⟩:=c3 ha;subst d2;exact⟨by omega,by rw[<-hls];simp,by omega⟩
 .by_cases hc:cap=lo
  .rw[if_pos hc] at had;obtain⟨e1,e2⟩:=c4 ad had;refine⟨fun h=>by omega,fun i l hl=>?_⟩;rw[<-hls,show hi-lo=0 from by omega] at hl;simp at hl
  .rw[if_neg hc] at had
   cases a with
   |none=>simp at had
   |some ad0=>
    obtain⟨e1,e2⟩:=c4 ad0 rfl;obtain⟨bl,off,sp⟩:=ad0;simp only at e1 e2;have e1:=e1 (by omega);subst e1;simp only[Y0,XL,jW] at had;subst had;refine⟨fun _=>rfl,fun i l hl=>?_⟩;rw[<-hls,YS] at hl;split at hl
    .rw[Yw] at hl;have:=e2 _ l hl;simpa[ZO] using this
    .simp at hl
theorem Lf{x y:Operand}{t u n sz:Nat}{k:IntKind}{hi:Nat}{b:Bool}{ls ls':List ab}(ho:o.op = .slice t x none (some y) none)(hx:ao Γ x=some (D.rep (bX n ls)))(hy:ao Γ y=some (D.val (.int k hi)))
  (ht:P.underlying t=some (.slice u)) (hu:bJ P u b sz) (h2:hi<=n) (hls:ls.take (hi*sz)=ls'):Jq P ops X o Γ H (D.rep (bX hi ls')):=by
 intro w0 A0 N Γ2 H2 E a w hs hX hG;obtain⟨_,hv⟩:=bY hs hG (x:=x) (by rw[ho];simp[Op.operands]) hx;have e2:=cT hs hG (x:=y) (by rw[ho];simp[Op.operands]) hy;obtain⟨v',h3,h4⟩:=qW (lo:=0) (hi:=hi) ht hu hv (.inr ⟨rfl,rfl⟩) (.inl ⟨k,rfl⟩) (XS _) h2 (ls':=ls') (by simpa using hls);rw[zay] at h4;exact⟨trivial,v',by simp[execOp,ho,e2,h3],h4⟩
theorem Le{x y:Operand}{t u n sz:Nat}{k:IntKind}{lo:Nat}{b:Bool}{ls ls':List ab}(ho:o.op = .slice t x (some y) none none)(hx:ao Γ x=some (D.rep (bX n ls)))(hy:ao Γ y=some (D.val (.int k lo)))
  (ht:P.underlying t=some (.slice u)) (hu:bJ P u b sz) (h2:lo<=n) {m:Nat} (hm:n-lo=m) (hls:(ls.drop (lo*sz)).take (m*sz)=ls'):Jq P ops X o Γ H (D.rep (bX m ls')):=by
 intro w0 A0 N Γ2 H2 E a w hs hX hG;subst hm;obtain⟨_,hv⟩:=bY hs hG (x:=x) (by rw[ho];simp[Op.operands]) hx;have e2:=cT hs hG (x:=y) (by rw[ho];simp[Op.operands]) hy;obtain⟨v',h3,h4⟩:=qW (lo:=lo) (hi:=n) ht hu hv (.inl ⟨k,rfl⟩) (.inr ⟨rfl,rfl⟩) h2 (XP _) hls;exact⟨trivial,v',by simp[execOp,ho,e2,h3],h4⟩
theorem j6{t u sz:Nat}{x y:Operand}{n:Nat}{i:Nat}{k k':IntKind}{zs ls:List ab}{inf:TypeInfo}{z:Value}(ho:o.op = .makeSlice t x y)(hx:ao Γ x=some (D.val (.int k n)))(hy:ao Γ y=some (D.val (.int k' n)))
  (ht:P.underlying t=some (.slice u)) (hinf:P.info? u=some inf) (hz:inf.zero=some z) (hsz:inf.size=sz) (hsz0:0<sz) (hzl:z.cells.toList.map nQ=zs) (hz1:z.cells.toList.all Value.oneCell'=true) (hzs:zs.length=sz)
  (hb:inf.bytes*n<=281474976710656) (hm:n<=maxLen) (hls:qD (n*sz) zs=ls) (hi:H.length=i):Je P ops o Γ H (some (D.own i n)) (H++[some ⟨u,ls,some sz,none⟩]):=by
 intro w0 A0 N Γ2 a w Q K hs hN hSt hK;obtain⟨E,hG⟩:=hSt;have e1:=cT hs hG (x:=x) (by rw[ho];simp[Op.operands]) hx;have e2:=cT hs hG (x:=y) (by rw[ho];simp[Op.operands]) hy;have hzd:a9 E.A zs z.cells.toList w:=hzl ▸ LB hz1;have hc:a9 E.A ls (madeCells z.cells (n*sz)).toList w:=hls ▸ D6 hzd (by omega) (n*sz);obtain⟨E',hG',hb',hcap,hnil,hA⟩:=hG.alloc (t:=u) (row:=some sz) (cap:=n) hc (fun s h=>by cases h;exact⟨hm,by simp[size_madeCells]⟩);rw[show(madeCells z.cells (n*sz)).toList.toArray=madeCells z.cells (n*sz) from Y5] at hG';have hr:=run_make (P:=P) w t u inf z ht hinf hz k k' n n (by omega) (Int.le_refl _) (by rw[<-Zu];omega) (by simp only[maxLen] at hm;omega);rw[hsz,show((n:Int)).toNat=n from by omega] at hr;refine gh (v:=.slice (some ⟨w.heap.size,0,none⟩) n n) (w':=w.alloc (.cells (madeCells z.cells (n*sz)) u)) (by simp[execOp,ho,e1,e2,hr]) (hK _ _ ⟨E',hG'.put (fun d hd=>?_) hN⟩);cases hd;subst hi;refine⟨rE,?_⟩;show _=_;rw[hnil,hb',hcap];rfl
end
section
variable {P:Program}{ops:Array Oper}{Q:Exit->Act->World->Prop}{w0:aJ}{A0:ak}{N:Nat}{Γ:aA}{H:Hp}
theorem KX{o:Oper}{rest:List Oper}{s i sz u:Nat}(ho:o.op = .assign (.const (.slice none 0 0)))(hg:o.guard=none)(hd:o.dst=some s)(hN:eA N (some s)=true)(hi:H.length=i)
  (h:Tl P ops Q w0 A0 N ((s,some (D.own i 0))::Γ) (H++[some ⟨u,[],some sz,none⟩]) rest):Tl P ops Q w0 A0 N Γ H (o::rest):=by
 intro a w hSt;obtain⟨E,hG⟩:=hSt;unfold wpList;rw[if_pos (by simp[Region.wanted,hg])];refine .inl (wy (v:=.slice none 0 0) (by simp[execOp,ho,Act.eval]) ?_);rw[hd];refine h _ _ ?_;subst hi;have h1:Good w0 A0 N Γ (H++[none]) E a w:=by
  have back:∀(j:Nat) (e:HE),(H++[none])[j]?=some (some e)->H[j]?=some (some e):=by
   intro j e hj;by_cases hl:j<H.length
   .rwa [XV hl] at hj
   .rw[YL (by omega)] at hj;by_cases h0:j-H.length=0
    .rw[h0] at hj;simp at hj
    .rw[Yi (by simp;omega)] at hj;simp at hj
  refine⟨hG.below,hG.bc,hG.cE,hG.defers,hG.size,fun s d hs=>?_,fun j e hj=>hG.boxes j e (back j e hj),fun j1 j2 e1 e2 g1 g2=>hG.apart j1 j2 e1 e2 (back _ _ g1) (back _ _ g2),fun j e v hj hp=>hG.kn j e v (back _ _ hj) hp,fun j m v hg=>by
   obtain⟨e,k,n,h1,h2⟩:=hG.gd j m v hg;exact⟨e,k,n,by rw[XV (XN.1 h1).1];exact h1,h2⟩,hG.bg⟩
  obtain⟨ho',v,hv,hd'⟩:=hG.cr s d hs;exact⟨ho'.xz,v,hv,hd'⟩
 have h2:=h1.bind (i:=H.length) (b:=0) (cap:=0) (nl:=true) (e:=⟨u,[],some sz,none⟩) (by simp) (fun s d hs=>?_) rfl (by simp[HE.ok]) (fun h=>by simp at h) (fun v h=>by simp at h)
 .rw[List.set_append_right _ _ (XP _)] at h2;simp only[zaS,List.set_cons_zero] at h2;exact⟨_,h2.put (dst:=some s) (d:=some (D.own H.length 0)) (fun d hd=>by cases hd;exact⟨rE,by show _=_;simp⟩) hN⟩
 .obtain⟨ho',_⟩:=hG.cr s d hs;rcases d with x|xs|⟨i,o⟩|⟨i,n⟩
  .simp[D.nm]
  .simp[D.nm]
  .have:i<H.length:=oe ho';simp[D.nm];omega
  .have:i<H.length:=oe ho';simp[D.nm];omega
theorem zk(w:World){t t2 u u2 ty:TypeId}(s x:Value)(ht:P.underlying t=some (.slice u))(ht2:P.underlying t2=some (.slice u2)) :
  (Builtin.append_ #[t,t2] ty #[s,x]).run P w=(Builtin.append_ #[t,t] ty #[s,x]).run P w:=by
 cases s <;> simp[Builtin.append_,run_underlying ht,run_underlying ht2]
def HE.loose(e:HE):Bool:=
 match e.cP with
 |none=>true
 |some (.inr (k,none))=>Nat.ble k e.ls.length
 |_=>false
theorem HE.BA{e:HE}(h:e.loose=true)(k:Nat)(v:Nat):e.cP≠some (.inr (k,some v)):=by
 intro hp;unfold HE.loose at h;rw[hp] at h;simp at h
theorem HE.RG{e:HE}(h:e.loose=true):e.fz<=e.ls.length:=by
 unfold HE.loose at h;unfold HE.fz;split
 .rename_i k ov hp;rw[hp] at h
  cases ov with
  |none=>simpa using h
  |some v=>simp at h
 .exact XS _
theorem HE.RF{e:HE}(h:e.loose=true){F:aJ}{b:Nat}(hb:F.w.heap.size<=b):F.oo e.cP b:=by
 unfold HE.loose at h
 cases hp:e.cP with
 |none=>exact hb
 |some q=>
  cases q with
  |inl q=>rw[hp] at h;simp at h
  |inr q=>exact .inl hb
theorem HE.pJ{e:HE}(h:e.loose=true):e.cY=false:=by
 unfold HE.cY
 cases hp:e.cP with
 |none=>rfl
 |some q=>
  rcases q with q|⟨k,_|n⟩
  .rfl
  .rfl
  .exact absurd hp (HE.BA h k n)
theorem mf{o:Oper}{rest:List Oper}{x y:Operand}{t t2 u u2 i n m s sz:Nat}{e:HE}{ls2 ls:List ab}{inf:TypeInfo}{z:Value}
  (ho:o.op = .call { callee:=.builtin .append,args:=#[x,y],argTypes:=#[t,t2] }) (hg:o.guard=none) (hdst:o.dst=some s) (hN:eA N (some s)=true)
  (hx:ao Γ x=some (D.own i n)) (hy:ao Γ y=some (D.rep (bX m ls2))) (hi:H[i]?=some (some e)) (hr:e.row=some sz) (het:e.t=u) (hl:e.ls.length=n*sz) (hl2:ls2.length=m*sz) (hsz:0<sz)
  (ht:P.underlying t=some (.slice u)) (ht2:P.underlying t2=some (.slice u2)) (hinf:P.info? u=some inf) (hz:inf.zero=some z) (hisz:inf.size=sz) (hzs:z.cells.size=sz)
  (hlen:n+m<=maxLen) (hbytes:(n+m)*inf.bytes<=140737488355328) {nm:Nat} (hnm:n+m=nm) (hls:e.ls++ls2=ls)
  (h:Tl P ops Q w0 A0 N ((s,some (D.own i nm))::fk i Γ) (H.set i (some { e with ls:=ls })) rest) (hp:e.loose=true:=by rfl):Tl P ops Q w0 A0 N Γ H (o::rest):=by
 intro a w hSt;obtain⟨E,hG⟩:=hSt;unfold wpList;rw[if_pos (by simp[Region.wanted,hg])];left;subst hnm hls het hisz;obtain⟨hoki',h1d⟩:=uh hG hx;have hoki:i<H.length:=oe hoki';have h1:a.eval x=if E.nil i then .slice none 0 0 else .slice (some ⟨E.b i,0,none⟩) n (E.cap i):=h1d;clear h1d hoki';obtain⟨_,ay,capy,h2,cy1,cy2,cy3,cy4⟩:=uh hG hy;obtain⟨g1,g2⟩:=hG.boxes i e hi;have hnews:∃news:List Value,a9 E.A ls2 news w/\∀ad,ay=some ad->∀j v,news[j]?=some v->w.cell? (ad.add j)=some v:=by
  cases ay with
  |none=>
   obtain⟨_,e2,_⟩:=cy3 rfl;subst e2;exact⟨[],trivial,fun ad h=>by simp at h⟩
  |some ad=>
   by_cases hcy:capy=0
   .have hm0:m=0:=by omega
    have hl0:ls2=[]:=X5 (by rw[hl2,hm0,Zm]);subst hl0;exact⟨[],trivial,fun ad _ j v h=>by simp at h⟩
   obtain⟨d1,d2⟩:=cy4 ad rfl;obtain⟨bl,off,sp⟩:=ad;simp only at d1 d2;have d1:=d1 (by omega);subst d1;have hex:∀(ls:List ab) (off:Nat),(∀(i:Nat) (l:ab),ls[i]?=some l->E.A bl (off+i)/\∃x,w.cell? ⟨bl,off+i,none⟩=some x/\l.den (ak.of E.A.c) x w) →
     ∃cs:List Value,a9 (ak.of E.A.c) ls cs w/\∀j v,cs[j]?=some v->w.cell? ⟨bl,off+j,none⟩=some v:=by
    intro ls
    induction ls with
    |nil=>intro off _;exact⟨[],trivial,fun j v h=>by simp at h⟩
    |cons l ls ih=>
     intro off h;obtain⟨_,x,hx,hd⟩:=h 0 l rfl;obtain⟨cs,hcs,hcc⟩:=ih (off+1) (fun i l hi=>by
      have:=h (i+1) l (by simpa using hi)
      rwa [show off+(i+1)=off+1+i from by omega] at this)
     refine⟨x::cs,⟨hd,hcs⟩,fun j v hj=>?_⟩
     cases j with
     |zero=>simp at hj;subst hj;exact hx
     |succ j=>have:=hcc j v (by simpa using hj);rwa [show off+(j+1)=off+1+j from by omega]
   obtain⟨cs,hcs,hcc⟩:=hex ls2 off d2;exact⟨cs,hcs.mono (uE _),fun ad had j v hj=>by cases had;rw[jW];exact hcc j v hj⟩
 obtain⟨news,hnd,hnc⟩:=hnews;have hnl:news.length=m*inf.size:=by rw[hnd.length,hl2]
 have hn1:=hnd.one;have hexec:∀v' w',(Builtin.append_ #[t,t] o.type #[a.eval x,a.eval y]).run P w = .ok v' w'->(execOp a.eval o).run P w = .ok (.value v') w':=by
  intro v' w' hh;simp[execOp,ho,resolve,invoke,builtin,zk w _ _ ht ht2,hh]
 have ownv:∀(k:Nat) (w':World),E.nil i=false->(D.own i k).den E (.slice (some ⟨E.b i,0,none⟩) k (E.cap i)) w':=by
  intro k w' hn;show _=if E.nil i then _ else _;rw[hn];rfl
 have nilv:∀(w':World),E.nil i=true->(D.own i 0).den E (.slice none 0 0) w':=by
  intro w' hn;show _=if E.nil i then _ else _;rw[hn];rfl
 have hset:H.set i (some { e with ls:=e.ls++[] })=H:=by
  rw[YF];apply zaU;intro j;rw[getElem?_set'];by_cases hij:i=j
  .subst hij;rw[if_pos rfl,if_pos hoki,hi]
  .rw[if_neg hij]
 have inPlace:E.nil i=false->n+m<=E.cap i->ay≠none->Oper.wp P o a w (wpList P ops Q rest) Q:=by
  intro hn hroom hay
  cases hay':ay with
  |none=>exact absurd hay' hay
  |some ad=>
   subst hay';simp only[hn,X8,if_false] at h1;unfold HE.ok at g1;rw[hr] at g1;simp only[hn] at g1;obtain⟨hm,cs,rest',hc,hlc,hcd⟩:=g1;have hcl:=hcd.length;have hfit:n*inf.size+news.length<=(cs++rest').toArray.size:=by
    rw[hnl,<-Ys];simp only[zan];rw[hlc];exact Ya _ hroom
   have hrun:=run_append_room (P:=P) w t o.type e.t inf ht hinf (E.b i) n (E.cap i) (cs++rest').toArray hc ad m capy news hnl (hnc ad rfl) hn1 hroom hfit;have hcsn:cs.length=n*inf.size:=by rw[hcl,hl]
   have hrow:((cs++rest').toArray.toList.take (n*inf.size)++news++(cs++rest').toArray.toList.drop (n*inf.size+news.length))=(cs++news)++rest'.drop news.length:=by
    show((cs++rest').take _++news++(cs++rest').drop _)=_;rw[YY (by omega),YH (by omega),<-hcsn,zaX];simp
   rw[hrow] at hrun;have hG':=hG.setRow hi hn (ls':=e.ls++ls2) (cs':=cs++news) (rest':=rest'.drop news.length) hc
    (by simp at hfit ⊢;omega) (fun h=>by rw[hr] at h;simp at h) (hcd.append hnd) (.inl (HE.BA hp)) (fun j hj=>by
     have:=HE.RG hp;show((cs++news)++rest'.drop news.length)[j]?=(cs++rest').toArray[j]?;rw[Zt,Yf,XV (by omega),XV (by omega)])
   refine gh (v:=.slice (some ⟨E.b i,0,none⟩) (n+m) (E.cap i)) (hexec _ _ (by rw[h1,h2];exact hrun)) ?_;rw[hdst];refine h _ _ ⟨E,?_⟩;have hdrop:Good w0 A0 N (fk i Γ) (H.set i (some { e with ls:=e.ls++ls2 })) E a _:=
    ⟨hG'.below,hG'.bc,hG'.cE,hG'.defers,hG'.size,fun s d hs=>hG'.cr s d (by rw[rP] at hs;exact(rW hs).1),hG'.boxes,hG'.apart,hG'.kn,hG'.gd,hG'.bg⟩
   exact hdrop.put (dst:=some s) (d:=some (D.own i (n+m))) (fun d hd=>by cases hd;exact⟨Bc hi (HE.pJ hp) (by have h0:e.cY=false:=HE.pJ hp;exact h0),ownv _ _ hn⟩) hN
 have anew:∀(cap:Nat) (cells:List Value) (spare:List Value),n+m<=cap->cap<=maxLen->a9 E.A e.ls cells w->(cells++news++spare).length=cap*inf.size →
   (Builtin.append_ #[t,t] o.type #[a.eval x,a.eval y]).run P w = .ok (.slice (some ⟨w.heap.size,0,none⟩) (n+m) cap) (w.drew.alloc (.cells (cells++news++spare).toArray e.t)) →
   Oper.wp P o a w (wpList P ops Q rest) Q:=by
  intro cap cells spare hcap hcm hcd hcl hrun;refine gh (hexec _ _ hrun) ?_;rw[hdst];refine h _ _ ?_;have hf:=hG.free i (zP hi (HE.pJ hp));have hb0:=ma w.drew (.cells (cells++news++spare).toArray e.t);have hb:Below w.heap.size w (w.drew.alloc (.cells (cells++news++spare).toArray e.t)):=⟨hb0.os,hb0.tape,hb0.output,hb0.size,hb0.block⟩;have hk:kept E.A w (w.drew.alloc (.cells (cells++news++spare).toArray e.t)):=ju fun k j hk=>hb.block k (hG.bc k j hk);have hsz':(w.drew.alloc (.cells (cells++news++spare).toArray e.t)).heap.size=w.heap.size+1:=by
   rw[za6];rfl
  have hnew:(w.drew.alloc (.cells (cells++news++spare).toArray e.t)).heap[w.heap.size]?=some (.cells (cells++news++spare).toArray e.t (0,0)):=heap_alloc_new w.drew _;have hgw:Good w0 A0 N (fk i Γ) (H.set i none) E a (w.drew.alloc (.cells (cells++news++spare).toArray e.t)):=
   ⟨hf.below.then (hb.mono hG.below.size),fun k j hk=>by have:=hG.bc k j hk;omega,hf.cE,hf.defers,hf.size,
    fun s d hs=>let ⟨ho',v,hv,hd⟩:=hf.cr s d hs;⟨ho',v,hv,D.fK hk hd⟩,
    fun j e' hj=>⟨HE.kL hk (fun hn=>hb.block _ (HE.eu (hf.boxes j e' hj).1 hn)) (hf.boxes j e' hj).1,(hf.boxes j e' hj).2⟩,hf.apart,hf.kn,hf.gd,hf.bg.bI (fun _ _ x=>x) hk⟩
  have hbind:=hgw.bind (i:=i) (b:=w.heap.size) (cap:=cap) (nl:=false) (e:={ e with ls:=e.ls++ls2 }) (by simp[hoki])
   (fun s d hs=>by rw[rP] at hs;exact(rW hs).2) rfl
   (by
    unfold HE.ok;simp only[hr,if_true];exact⟨hcm,cells++news,spare,hnew,hcl,(hcd.append hnd).bI hk⟩)
   (fun _=>⟨HE.RF hp (by exact hG.below.size),fun j _ hA=>by have:=hG.bc _ _ hA;omega,fun j e' hj hn' hbj=>by
    have:=HE.eu (hf.boxes j e' hj).1 hn';have h3:(w.drew).heap.size=w.heap.size:=rfl;omega⟩) (fun v h=>by obtain⟨k,h⟩:=h;exact absurd h (HE.BA hp k v))
  rw[List.set_set] at hbind;exact⟨_,hbind.put (dst:=some s) (d:=some (D.own i (n+m))) (fun d hd=>by cases hd;exact⟨Bc hi (HE.pJ hp) (by have h0:e.cY=false:=HE.pJ hp;exact h0),by show _=_;simp⟩) hN⟩
 have harr:∀(cs:List Value) (Z:Array Value),(cs++news++Z.toList).toArray=cs.toArray++news.toArray++Z:=fun cs Z=>by
  apply Array.ext';simp
 have hcapm:∀bg,grownCap w (n+m) bg e.t<=maxLen:=fun bg=>grownCap_le_maxLen w (n+m) bg e.t hlen;have hcapg:∀bg,n+m<=grownCap w (n+m) bg e.t:=fun bg=>grownCap_ge w (n+m) bg e.t;have h63:n+m<=9223372036854775807:=by simp only[maxLen] at hlen;omega
 have hspare:∀c:Nat,(Builtin.zeroCells z.cells c).toList.length=c*inf.size:=by intro c;simp[size_zeroCells,hzs]
 cases hn:E.nil i
 ·
  simp only[hn,X8,if_false] at h1;have g1':=g1;unfold HE.ok at g1';rw[hr] at g1';simp only[hn] at g1';obtain⟨hm,cs,rest',hc,hlc,hcd⟩:=g1';have hcl:=hcd.length;have hcsn:cs.length=n*inf.size:=by rw[hcl,hl]
  have hncap:n<=E.cap i:=by
   have:n*inf.size<=E.cap i*inf.size:=by rw[<-hlc,<-hcsn];simp
   exact YV this hsz
  cases hay:ay with
  |none=>
   subst hay;obtain⟨e1,e2,e3⟩:=cy3 rfl;subst e1 e2;have hrun:(Builtin.append_ #[t,t] o.type #[a.eval x,a.eval y]).run P w = .ok (.slice (some ⟨E.b i,0,none⟩) n (E.cap i)) w:=by
    rw[h1,h2];simp[Builtin.append_,run_underlying ht,Go.sizeOf,typeInfo,hinf,Builtin.lenOf,hncap,Builtin.firstCells,storeCells]
   refine gh (hexec _ _ hrun) ?_;rw[hdst];refine h _ _ ⟨E,?_⟩;rw[hset];have hdrop:Good w0 A0 N (fk i Γ) H E a w:=
    ⟨hG.below,hG.bc,hG.cE,hG.defers,hG.size,fun s d hs=>hG.cr s d (by rw[rP] at hs;exact(rW hs).1),hG.boxes,hG.apart,hG.kn,hG.gd,hG.bg⟩
   exact hdrop.put (dst:=some s) (d:=some (D.own i (n+0))) (fun d hd=>by cases hd;exact⟨⟨e,hi,HE.pJ hp⟩,ownv _ _ hn⟩) hN
  |some ad=>
   by_cases hroom:n+m<=E.cap i
   .exact inPlace hn hroom (by rw[hay];simp)
   .subst hay;have holds:∀j u,cs[j]?=some u->w.cell? ((⟨E.b i,0,none⟩:Addr).add j)=some u:=by
     intro j u hu;have hlt:=(XN.1 hu).1;rw[jW,Yk];exact kQ hc (by rw[XV hlt];exact hu)
    have hrun:=run_append_grow (P:=P) w t o.type e.t inf z ht hinf hz ⟨E.b i,0,none⟩ n (E.cap i) cs hcsn holds ad m capy news hnl (hnc ad rfl) (by omega) (by omega) (growslice_fits (by omega) hbytes);refine anew (grownCap w (n+m) (E.cap i) e.t) cs (Builtin.zeroCells z.cells (grownCap w (n+m) (E.cap i) e.t-(n+m))).toList (hcapg _) (hcapm _) hcd ?_ ?_
    .rw[XX,XX,hcsn,hnl,hspare,<-Ys,<-Ys];congr 1;have:=hcapg (E.cap i);omega
    .rw[h1,h2,harr];exact hrun
 ·
  simp only[hn,if_true] at h1;have g1':=g1;unfold HE.ok at g1';rw[hr] at g1';simp only[hn,if_true] at g1';have hn0:n=0:=by
   rw[g1'.1] at hl;rcases Zl.1 hl.symm with h|h
   .exact h
   .omega
  subst hn0;by_cases hm0:m=0
  .subst hm0;have hls2:ls2=[]:=X5 (by simpa using hl2);subst hls2;have hrun:(Builtin.append_ #[t,t] o.type #[a.eval x,a.eval y]).run P w = .ok (.slice none 0 0) w:=by
    rw[h1,h2];cases ay <;> simp[Builtin.append_,run_underlying ht,Go.sizeOf,typeInfo,hinf,Builtin.lenOf,Builtin.firstCells,loadCells,loadCellsFrom]
   refine gh (hexec _ _ hrun) ?_;rw[hdst];refine h _ _ ⟨E,?_⟩;rw[hset];have hdrop:Good w0 A0 N (fk i Γ) H E a w:=
    ⟨hG.below,hG.bc,hG.cE,hG.defers,hG.size,fun s d hs=>hG.cr s d (by rw[rP] at hs;exact(rW hs).1),hG.boxes,hG.apart,hG.kn,hG.gd,hG.bg⟩
   exact hdrop.put (dst:=some s) (d:=some (D.own i (0+0))) (fun d hd=>by cases hd;exact⟨⟨e,hi,HE.pJ hp⟩,nilv _ hn⟩) hN
  .cases hay:ay with
   |none=>obtain⟨e1,_⟩:=cy3 hay;omega
   |some ad=>
    subst hay;have hnb:m*inf.bytes<=281474976710656:=by have:=hbytes;simp only[Yk] at this;omega
    have hrun:=run_append_nil (P:=P) w t o.type e.t inf z ht hinf hz ad m capy news hnl (hnc ad rfl) (by omega) (by omega) hnb;refine anew (grownCap w (0+m) 0 e.t) [] (Builtin.zeroCells z.cells (grownCap w (0+m) 0 e.t-(0+m))).toList (hcapg _) (hcapm _) (by rw[g1'.1];trivial) ?_ ?_
    .rw[XX,XX,hnl,hspare];simp only[Yg,Yk];rw[<-Ys];congr 1;have:=hcapg 0;simp only[Yk] at this;omega
    .rw[h1,h2,harr];simp only[Yk];simpa using hrun
end
def At(Q:Exit->Act->World->Prop)(w0:aJ)(A0:ak)(N:Nat)(Γ:aA)(H:Hp)(e:Exit):Prop:=
 ∀a w,St w0 A0 N Γ H a w->Q e a w
section
variable {P:Program}{ops:Array Oper}{Q:Exit->Act->World->Prop}{w0:aJ}{A0:ak}{N:Nat}{Γ:aA}{H:Hp}
theorem Wk(h:At Q w0 A0 N Γ H .normal):Tl P ops Q w0 A0 N Γ H []:=Wh h
theorem Wm(h:At Q w0 A0 N Γ H .normal):Tc P Q w0 A0 N Γ H .skip:=Wn h
theorem Wz{id:Nat}(h:At Q w0 A0 N Γ H (.exit id)):Tc P Q w0 A0 N Γ H (.exit id):=WA h
theorem Xv{y:Code}(h:Tc P Q w0 A0 N Γ H y):At (Exit.then (y.wp P Q) Q) w0 A0 N Γ H .normal:=h
theorem LA{K:Act->World->Prop}{id:Nat}(h:At Q w0 A0 N Γ H (.exit id)):At (Exit.then K Q) w0 A0 N Γ H (.exit id):=h
theorem XA{id:Nat}(h:At Q w0 A0 N Γ H .normal):At (Exit.inBlock id Q) w0 A0 N Γ H .normal:=h
theorem Xz{id:Nat}(h:At Q w0 A0 N Γ H .normal):At (Exit.inBlock id Q) w0 A0 N Γ H (.exit id):=fun a w hs=>by
 show if id=id then _ else _;rw[if_pos rfl];exact h a w hs
theorem Xy{id id':Nat}(hne:Nat.beq id id'=false)(h:At Q w0 A0 N Γ H (.exit id)):At (Exit.inBlock id' Q) w0 A0 N Γ H (.exit id):=fun a w hs=>by
 show if id=id' then _ else _;rw[if_neg (fun e=>by subst e;simp at hne)];exact h a w hs
theorem Wl{s:Nat}{x y:Code}(hl:dL Γ s=some (D.bool true))(h:Tc P Q w0 A0 N Γ H x):Tc P Q w0 A0 N Γ H (.cond (.tmp s) x y):=
 cV hl (fun _=>h) (fun h=>by simp at h)
theorem Wy{s:Nat}{x y:Code}(hl:dL Γ s=some (D.bool false))(h:Tc P Q w0 A0 N Γ H y):Tc P Q w0 A0 N Γ H (.cond (.tmp s) x y):=
 cV hl (fun h=>by simp at h) (fun _=>h)
def cy(P:Program)(ops:Array Oper)(tl:List (Option Nat))(X:List Nat):Nat->List Oper->aA->Hp->(aA->Hp->Prop)->Prop
 |_,[],Γ,H,K=>K Γ H
 |n,o::os,Γ,H,K=>∃d H1,((cu o=false/\H1=H/\∃X',(X.all fun x=>X'.contains x||kg ops tl x n)=true/\JO P ops X' o Γ H d H) ∨
   (cu o=true/\JE P ops (tl.getD n none) o Γ H d H1/\∀j,tl.getD n none≠some j->H1[j]?=H[j]?))/\cy P ops tl X (n+1) os (ct Γ o.dst d) H1 K
section
variable {tl:List (Option Nat)}{X:List Nat}{n:Nat}{o:Oper}{os:List Oper}{K:aA->Hp->Prop}
theorem cy.Ux{l:List Oper}{Γ:aA}{H:Hp}(h:cy P ops tl X n l Γ H K):∃Γ' H',wj P ops tl X n l Γ H Γ' H'/\K Γ' H':=by
 induction l generalizing Γ H n with
 |nil=>exact⟨Γ,H,⟨rfl,rfl⟩,h⟩
 |cons o os ih=>
  obtain⟨d,H1,h1,h2⟩:=h;obtain⟨Γ',H',h5,h6⟩:=ih h2;exact⟨Γ',H',⟨d,H1,h1,h5⟩,h6⟩
theorem St.OB{a:Act}{w:World}(h:St w0 A0 N Γ H a w)(k:Nat):St w0 A0 N Γ (H++List.replicate k none) a w:=by
 obtain⟨E,hG⟩:=h;have back:∀(j:Nat) (e:HE),(H++List.replicate k none)[j]?=some (some e)->H[j]?=some (some e):=by
  intro j e hj;by_cases hl:j<H.length
  .rwa [XV hl] at hj
  .rw[YL (by omega),List.getElem?_replicate] at hj;split at hj <;> simp at hj
 exact⟨E,hG.below,hG.bc,hG.cE,hG.defers,hG.size,fun s d hs=>let ⟨ho,v,hv,hd⟩:=hG.cr s d hs;⟨D.kK ho (fun j e _ he hv=>⟨e,by rw[XV (XN.1 he).1];exact he,hv⟩),v,hv,hd⟩,
  fun j e hj=>hG.boxes j e (back j e hj),fun j1 j2 e1 e2 g1 g2=>hG.apart j1 j2 e1 e2 (back _ _ g1) (back _ _ g2),fun j e v hj hp=>hG.kn j e v (back _ _ hj) hp,fun j m v hg=>by
   obtain⟨e,k,n,h1,h2⟩:=hG.gd j m v hg;exact⟨e,k,n,by rw[XV (XN.1 h1).1];exact h1,h2⟩,hG.bg⟩
theorem WB(k:Nat)(tl:List (Option Nat))(X:List Nat){id:Nat}{l:List Oper}(hm:P.follows .mixedOrders=true)(hok:rp N l.toArray tl X=true)
  (hd:cy P l.toArray tl X 0 l Γ (H++List.replicate k none) fun Γ' H'=>At Q w0 A0 N Γ' H' .normal):Tc P Q w0 A0 N Γ H (.region id l.toArray true):=by
 obtain⟨Γ',H',h1,h2⟩:=hd.Ux;exact fun a w hs=>WC hm hok h1 h2 a w (hs.OB k)
theorem aB(h:K Γ H):cy P ops tl X n [] Γ H K:=h
theorem DX{d:Option D}(h:JO P ops X o Γ H d H)(hr:cy P ops tl X (n+1) os (ct Γ o.dst d) H K)(he:cu o=false:=by rfl):cy P ops tl X n (o::os) Γ H K:=
 ⟨d,H,.inl ⟨he,rfl,X,Yz.2 (fun x hx=>by rw[YO,Zq];exact .inl hx),h⟩,hr⟩
theorem Xq(X':List Nat){d:Option D}(h:JO P ops X' o Γ H d H)(hx:(X.all fun x=>X'.contains x||kg ops tl x n)=true)(hr:cy P ops tl X (n+1) os (ct Γ o.dst d) H K)(he:cu o=false:=by rfl):cy P ops tl X n (o::os) Γ H K:=
 ⟨d,H,.inl ⟨he,rfl,X',hx,h⟩,hr⟩
theorem Lt{t:Option Nat}{d:Option D}{H':Hp}(hg:o.guard=none)(hH:∀H2,(∀i,t=some i->H2[i]?=H[i]?)->∃H2',Je P ops o Γ H2 d H2'/\(∀j,t≠some j->H2'[j]?=H2[j]?)/\(∀i,t=some i->H2'[i]?=H'[i]?)):JE P ops t o Γ H d H':=by
 intro w0 A0 N Γ2 H2 a w Q K hs hi hN hSt hK;rw[if_pos (by simp[Region.wanted,hg])];obtain⟨H2',h1,h2,h3⟩:=hH H2 hi;exact h1 w0 A0 N Γ2 a w Q K hs hN hSt (fun a' w' hs'=>hK a' w' H2' h2 h3 hs')
theorem Ls{t:Option Nat}{d:Option D}{H':Hp}{j s:Nat}{want:Bool}(hg:o.guard=some (j,want))(hj:(ops[j]?).bind (·.dst)=some s)(hl:dL Γ s=some (D.bool want))
  (hH:∀H2,(∀i,t=some i->H2[i]?=H[i]?)->∃H2',Je P ops o Γ H2 d H2'/\(∀j,t≠some j->H2'[j]?=H2[j]?)/\(∀i,t=some i->H2'[i]?=H'[i]?)):JE P ops t o Γ H d H':=by
 intro w0 A0 N Γ2 H2 a w Q K hs hi hN hSt hK;have hSt':=hSt;obtain⟨E,hG⟩:=hSt';rw[tA hg hj (by rw[ot (hs s (pQ hg hj))];exact hl) hG,if_pos (by simp)];obtain⟨H2',h1,h2,h3⟩:=hH H2 hi;exact h1 w0 A0 N Γ2 a w Q K hs hN hSt (fun a' w' hs'=>hK a' w' H2' h2 h3 hs')
theorem Lu{j s:Nat}{want:Bool}(hg:o.guard=some (j,want))(hj:(ops[j]?).bind (·.dst)=some s)(hl:Ep Γ s want)
  (hr:cy P ops tl X (n+1) os (ct Γ o.dst (some (D.aW []))) H K):cy P ops tl X n (o::os) Γ H K:=by
 cases he:cu o
 .exact DX (DV hg hj hl) hr he
 .refine⟨_,H,.inr ⟨he,?_,fun _ _=>rfl⟩,hr⟩;intro w0 A0 N Γ2 H2 a w Q K hs hi hN hSt hK;obtain⟨E,hG⟩:=hSt;have hw:Region.wanted o (yielded ops a.tmps)=false:=by
   rcases hl with hl|hl
   .rw[tA hg hj (by rw[ot (hs s (pQ hg hj))];exact hl) hG];simp
   .exact GF hg hj (by rw[ot (hs s (pQ hg hj))];exact hl) hG
  rw[if_neg (by rw[hw];simp)];exact hK _ _ H2 (fun _ _=>rfl) hi ⟨E,E3 hG hN⟩
theorem Lv{j s:Nat}{want:Bool}(hg:o.guard=some (j,want))(hj:(ops[j]?).bind (·.dst)=some s)(hl:dL Γ s=some (D.bool (!want)))
  (hr:cy P ops tl X (n+1) os (ct Γ o.dst (some (D.aW []))) H K):cy P ops tl X n (o::os) Γ H K:=Lu hg hj (.inl hl) hr
theorem Xp{j s:Nat}{want:Bool}(hg:o.guard=some (j,want))(hj:(ops[j]?).bind (·.dst)=some s)(hl:dL Γ s=some (D.aW []))
  (hr:cy P ops tl X (n+1) os (ct Γ o.dst (some (D.aW []))) H K):cy P ops tl X n (o::os) Γ H K:=Lu hg hj (.inr hl) hr
theorem Fh{t:Option Nat}{d:Option D}(h:∀H2,Je P ops o Γ H2 d H2):∀H2,(∀i,t=some i->H2[i]?=H[i]?)->∃H2',Je P ops o Γ H2 d H2'/\(∀j,t≠some j->H2'[j]?=H2[j]?)/\(∀i,t=some i->H2'[i]?=H[i]?):=
 fun H2 hi=>⟨H2,h H2,fun _ _=>rfl,hi⟩
theorem Xt{d:Option D}(hg:o.guard=none)(he:cu o=true)(h:∀H2,Je P ops o Γ H2 d H2)(hr:cy P ops tl X (n+1) os (ct Γ o.dst d) H K):cy P ops tl X n (o::os) Γ H K:=
 ⟨d,H,.inr ⟨he,Lt hg (Fh h),fun _ _=>rfl⟩,hr⟩
theorem Xs{d:Option D}{j s:Nat}{want:Bool}(hg:o.guard=some (j,want))(hj:(ops[j]?).bind (·.dst)=some s)(hl:dL Γ s=some (D.bool want))(he:cu o=true)(h:∀H2,Je P ops o Γ H2 d H2)
  (hr:cy P ops tl X (n+1) os (ct Γ o.dst d) H K):cy P ops tl X n (o::os) Γ H K:=
 ⟨d,H,.inr ⟨he,Ls hg hj hl (Fh h),fun _ _=>rfl⟩,hr⟩
theorem Fg{t:Option Nat}{d:Option D}{i:Nat}{e:Option HE}(ht:t=some i)(h:∀H2:Hp,H2[i]?=H[i]?->Je P ops o Γ H2 d (H2.set i e)) :
  ∀H2,(∀i,t=some i->H2[i]?=H[i]?)->∃H2',Je P ops o Γ H2 d H2'/\(∀j,t≠some j->H2'[j]?=H2[j]?)/\(∀i,t=some i->H2'[i]?=(H.set i e)[i]?):=by
 intro H2 hi;refine⟨H2.set i e,h H2 (hi i ht),fun j hj=>?_,fun j hj=>?_⟩
 .rw[getElem?_set',if_neg (fun e=>hj (by rw[ht,e]))]
 .rw[ht] at hj;cases hj;have h1:=hi i ht;rw[getElem?_set',getElem?_set',if_pos rfl,if_pos rfl];by_cases h2:i<H.length
  .rw[XM h2] at h1;rw[if_pos h2,if_pos (XN.1 h1).1]
  .rw[Yi (l:=H) (by omega)] at h1;rw[if_neg h2,if_neg (by have:=List.getElem?_eq_none_iff.1 h1;omega)]
theorem Gk{t:Option Nat}{i:Nat}{e:Option HE}(ht:t=some i):∀j,t≠some j->(H.set i e)[j]?=H[j]?:=fun j hj=>by
 rw[getElem?_set',if_neg (fun e=>hj (by rw[ht,e]))]
theorem Lx(i:Nat){d:Option D}{e:Option HE}(ht:tl.getD n none=some i)(hg:o.guard=none)(he:cu o=true)(h:∀H2:Hp,H2[i]?=H[i]?->Je P ops o Γ H2 d (H2.set i e))
  (hr:cy P ops tl X (n+1) os (ct Γ o.dst d) (H.set i e) K):cy P ops tl X n (o::os) Γ H K:=by
 refine⟨d,H.set i e,.inr ⟨he,Lt hg ?_,Gk ht⟩,hr⟩;intro H2 hi;obtain⟨H2',h1,h2,h3⟩:=Fg ht h H2 hi;exact⟨H2',h1,h2,fun j hj=>by rw[ht] at hj;cases hj;exact h3 i ht⟩
theorem Lw(i:Nat){d:Option D}{e:Option HE}{j s:Nat}{want:Bool}(ht:tl.getD n none=some i)(hg:o.guard=some (j,want))(hj:(ops[j]?).bind (·.dst)=some s)(hl:dL Γ s=some (D.bool want))(he:cu o=true)
  (h:∀H2:Hp,H2[i]?=H[i]?->Je P ops o Γ H2 d (H2.set i e)) (hr:cy P ops tl X (n+1) os (ct Γ o.dst d) (H.set i e) K):cy P ops tl X n (o::os) Γ H K:=by
 refine⟨d,H.set i e,.inr ⟨he,Ls hg hj hl ?_,Gk ht⟩,hr⟩;intro H2 hi;obtain⟨H2',h1,h2,h3⟩:=Fg ht h H2 hi;exact⟨H2',h1,h2,fun j hj=>by rw[ht] at hj;cases hj;exact h3 i ht⟩
end
theorem zE{o:Oper}{t:Nat}{x y:Operand}{i off n:Nat}{e:HE}{v:V}{b:Bool}(ho:o.op = .store t x y)(hx:ao Γ x=some (D.ptr i off))(hy:ao Γ y=some (D.v v))(hi:H[i]?=some (some e))
  (ht:bJ P t b n) (hn:v.leaves.length=n) (hn0:0<n) (hfit:off+n<=e.ls.length) {ls:List ab} (hls:splice e.ls off v.leaves=ls) (hfz:e.fz=0:=by rfl) :
  ∀H2:Hp,H2[i]?=H[i]?->Je P ops o Γ H2 none (H2.set i (some { e with ls:=ls })):=fun _ hH=>eQ ho hx hy (hH.trans hi) ht hn hn0 hfit hls hfz
theorem Lp{o:Oper}{t i:Nat}{zs:List ab}(ho:o.op = .alloc t)(hz:de P t zs)(hi:H[i]?=some none) :
  ∀H2:Hp,H2[i]?=H[i]?->Je P ops o Γ H2 (some (D.ptr i 0)) (H2.set i (some ⟨t,zs,none,none⟩)):=fun _ hH=>Xh ho hz (hH.trans hi)
theorem Xj{o:Oper}{t i:Nat}{x:Operand}{y:V}(ho:o.op = .box t x)(hx:ao Γ x=some (D.v y))(hi:H[i]?=some none) :
  ∀H2:Hp,H2[i]?=H[i]?->Je P ops o Γ H2 (some (D.ptr i 0)) (H2.set i (some ⟨t,y.leaves,none,none⟩)):=fun _ hH=>Xc ho hx (hH.trans hi)
theorem Xi{o:Oper}{f:Nat}{args:Array Operand}{tys:Array TypeId}{xs:List V}{y:R}(ho:o.op = .call { callee:=.value (.func f),args:=args,argTypes:=tys })(hf:aD P f)
  (hx:gA Γ args.toList=some xs) (hspec:ar P f xs y) (hcl:fq xs=true:=by rfl):∀H2:Hp,Je P ops o Γ H2 (some y.lG) H2:=fun _=>Ln ho hf hx hspec hcl
theorem Dv{o:Oper}{rest:List Oper}{d:Option D}(h:JO P ops [] o Γ H d H)(hN:eA N o.dst=true)(hr:Tl P ops Q w0 A0 N (ct Γ o.dst d) H rest):Tl P ops Q w0 A0 N Γ H (o::rest):=
 KW h (fun _=>rfl) hN hr
theorem KZ{o:Oper}{rest:List Oper}{d:Option D}{H':Hp}(h:JO P ops [] o Γ H d H')(he:cu o=true)(hN:eA N o.dst=true)(hr:Tl P ops Q w0 A0 N (ct Γ o.dst d) H' rest):Tl P ops Q w0 A0 N Γ H (o::rest):=
 KW h (fun h=>by rw[he] at h;simp at h) hN hr
theorem K4{c:Code}(I:Nat->aA->Hp->Prop){m0:Nat}{Γ0:aA}(h0:I m0 Γ0 H)(hk:known Γ Γ0)
  (round:∀m Γ H,I m Γ H->Tc P (Exit.then (fun a w=>∃m' Γ' H',m'<m/\I m' Γ' H'/\St w0 A0 N Γ' H' a w) Q) w0 A0 N Γ H c):Tc P Q w0 A0 N Γ H (.loop c):=by
 refine Wv (S:=Nat×aA×Hp) (fun s=>s.2.1) (fun s=>s.2.2) (fun s=>s.1) (fun s=>I s.1 s.2.1 s.2.2) (m0,Γ0,H) h0 hk rfl ?_;intro s hs a w hst;refine wp_mono (round s.1 s.2.1 s.2.2 hs a w hst) ?_;intro e a' w' h
 cases e with
 |normal=>
  obtain⟨m',Γ',H',h1,h2,h3⟩:=h;exact⟨(m',Γ',H'),h2,h1,h3⟩
 |exit id=>exact h
 |goto l=>exact h
 |ret=>exact h
 |panic ch=>exact h
 |outgrown=>exact h
theorem Xw{I:Nat->aA->Hp->Prop}{m m':Nat}{Γ':aA}(hm:m'<m)(hI:I m' Γ' H)(hk:known Γ Γ') :
  At (Exit.then (fun a w=>∃m' Γ' H',m'<m/\I m' Γ' H'/\St w0 A0 N Γ' H' a w) Q) w0 A0 N Γ H .normal:=
 fun _ _ hs=>⟨m',Γ',H,hm,hI,hs.weaken (wO hk)⟩
theorem nJ{c:Code}{s n:Nat}{ls:List ab}(hs:look Γ s=some (D.rep (bX n ls)))(h:n<=9223372036854775807->Tc P Q w0 A0 N Γ H c):Tc P Q w0 A0 N Γ H c:=by
 intro a w hSt;have hSt':=hSt;obtain⟨E,hG⟩:=hSt';obtain⟨_,v,_,ad,cap,_,h1,h2,_⟩:=hG.cr s _ hs;exact h (XY h1 (by simpa[maxLen] using h2)) a w hSt
theorem Wu{x y:Code}{Γ':aA}{H':Hp}(h:Tc P (Exit.then (fun a w=>St w0 A0 N Γ' H' a w) Q) w0 A0 N Γ H x)(hy:Tc P Q w0 A0 N Γ' H' y):Tc P Q w0 A0 N Γ H (.seq x y):=by
 refine Dw fun a w hs=>wp_mono (h a w hs) ?_;intro e a' w' hh
 cases e with
 |normal=>exact hy a' w' hh
 |exit id=>exact hh
 |goto l=>exact hh
 |ret=>exact hh
 |panic ch=>exact hh
 |outgrown=>exact hh
theorem Xx{Γ':aA}(hk:known Γ Γ'):At (Exit.then (fun a w=>St w0 A0 N Γ' H a w) Q) w0 A0 N Γ H .normal:=fun _ _ hs=>hs.weaken (wO hk)
theorem je{l:List Oper}(s:Nat)(out:List Nat){i n:Nat}{e:HE}(hs:look Γ s=some (D.own i n))(hi:H[i]?=some (some e))(hr:e.row=some 1)(hl:e.ls=out.map aY)(hn:n=out.length)
  (h:Tl P ops Q w0 A0 N ((s,some (D.v (V.one (ae out))))::fk i Γ) (H.set i none) l) (hp:e.cP=none:=by rfl):Tl P ops Q w0 A0 N Γ H l:=by
 subst hn;refine Wg s hs hi hr (by rw[hl];simp) (by decide) ?_ hp (by rw[hl];exact qh _);rw[hl];exact h
theorem s9{c:Code}(s:Nat)(out:List Nat){i n:Nat}{e:HE}(hs:look Γ s=some (D.own i n))(hi:H[i]?=some (some e))(hr:e.row=some 1)(hl:e.ls=out.map aY)(hn:n=out.length)
  (h:Tc P Q w0 A0 N ((s,some (D.v (V.one (ae out))))::fk i Γ) (H.set i none) c) (hp:e.cP=none:=by rfl):Tc P Q w0 A0 N Γ H c:=by
 subst hn;refine Wo s hs hi hr (by rw[hl];simp) (by decide) ?_ hp (by rw[hl];exact qh _);rw[hl];exact h
theorem N9(w:World){t e:TypeId}(a:Option Addr)(n c:Nat)(ht:P.underlying t=some (.slice e)) :
  (binOp .eql t (.slice a n c) (.slice none 0 0)).run P w = .ok (.bool a.isNone) w:=by
 simp only[binOp];exact Lib.run_eql_slice_nil w t e a n c 0 0 ht
theorem Wj{o:Oper}{rest:List Oper}{x:Operand}{t u el s n:Nat}{ls:List ab}(ho:o.op = .binOp .eql t x (.const (.slice none 0 0)) u)(hg:o.guard=none)(hd:o.dst=some s)(hN:eA N (some s)=true)
  (hx:ao Γ x=some (D.rep (bX n ls))) (ht:P.underlying t=some (.slice el)) (h:∀b:Bool,(b=true->n=0/\ls=[])->Tl P ops Q w0 A0 N ((s,some (D.bool b))::Γ) H rest):Tl P ops Q w0 A0 N Γ H (o::rest):=by
 intro a w hSt;obtain⟨E,hG⟩:=hSt;unfold wpList;rw[if_pos (by simp[Region.wanted,hg])];left;obtain⟨_,ad,cap,h2,_,_,h3,_⟩:=uh hG hx;refine wy (v:=.bool ad.isNone) ?_ ?_
 .have hgd:∀y,(eqGuard .eql t x y (.slice ad n cap) (.slice none 0 0)).run P w = .ok () w:=by intro y;simp[eqGuard]
  have hcv:a.eval (.const (.slice none 0 0)) = .slice none 0 0:=rfl;simp[execOp,ho,h2,hcv,hgd,N9 w ad n cap ht]
 .rw[hd];exact h ad.isNone (fun hb=>let ⟨h4,h5,_⟩:=h3 (by simpa using hb);⟨h4,h5⟩) _ _ ⟨E,hG.put (dst:=some s) (d:=some (D.bool ad.isNone)) (fun d hd=>by cases hd;exact⟨trivial,rfl,rfl⟩) hN⟩
theorem j0{o:Oper}{rest:List Oper}{t u sz s i:Nat}(ho:o.op = .buildSlice t 0 #[])(hg:o.guard=none)(hd:o.dst=some s)(hN:eA N (some s)=true)(ht:P.underlying t=some (.slice u)){b:Bool}(hu:bJ P u b sz)(hi:H.length=i)
  (h:Tl P ops Q w0 A0 N ((s,some (D.own i 0))::Γ) (H++[some ⟨u,[],some sz,none⟩]) rest):Tl P ops Q w0 A0 N Γ H (o::rest):=by
 intro a w hSt;obtain⟨E,hG⟩:=hSt;unfold wpList;rw[if_pos (by simp[Region.wanted,hg])];left;obtain⟨E',hG',hb,hc,hn,hA⟩:=hG.alloc (t:=u) (ls:=[]) (cs:=[]) (row:=some sz) (cap:=0) trivial (fun z hz=>⟨XS _,by simp⟩);refine gh (v:=.slice (some ⟨w.heap.size,0,none⟩) 0 0) (w':=w.alloc (.cells [].toArray u)) ?_ ?_
 .simp[execOp,ho,Instr.buildSlice,run_underlying ht,hu.sizeOf,Instr.fill,newRow,show Array.range 0 = #[] from rfl]
 .rw[hd];subst hi;have hden:(D.own H.length 0).den E' (.slice (some ⟨w.heap.size,0,none⟩) 0 0) (w.alloc (.cells [].toArray u)):=by
   show _=if E'.nil H.length then _ else _;rw[hn,hb,hc];rfl
  exact h _ _ ⟨E',hG'.put (dst:=some s) (d:=some (D.own H.length 0)) (fun d hd=>by cases hd;exact⟨rE,hden⟩) hN⟩
end
section
variable {P:Program}{ops:Array Oper}{X:List Nat}{o:Oper}{Γ:aA}{H:Hp}
theorem zB{t:Nat}{s:ByteArray}{y:Operand}{k:IntKind}{j:Nat}{c:UInt8}(ho:o.op = .index t (.const (.string s)) y)(hy:ao Γ y=some (D.val (.int k j)))(ht:P.underlying t=some .string)(hc:s[j]?=some c) :
  Jq P ops X o Γ H (D.val (.int .u8 c.toNat)):=by
 intro w0 A0 N Γ2 H2 E a w hs hX hG;have e2:=cT hs hG (x:=y) (by rw[ho];simp[Op.operands]) hy;refine⟨trivial,.int .u8 c.toNat,?_,rfl,rfl⟩;have hcv:a.eval (.const (.string s)) = .string s:=rfl;simp[execOp,ho,e2,hcv,Instr.index,asIntOf,run_underlying ht,hc]
theorem DC{x y:Operand}{t u hi:Nat}{k:IntKind}{b:Bool}{l:List Nat}(ho:o.op = .slice t x none (some y) none)(hx:ao Γ x=some (D.v (V.one (ae l))))(hy:ao Γ y=some (D.val (.int k hi)))
  (ht:P.underlying t=some (.slice u)) (hu:bJ P u b 1) (h2:hi<=l.length):Jq P ops X o Γ H (D.v (V.one (ae (l.take hi)))):=by
 have:=Lf (ls':=(l.take hi).map aY) (X:=X) (H:=H) (ops:=ops) ho hx hy ht hu h2 (by simp[List.map_take]);have e:hi=(l.take hi).length:=by simp[YA h2]
 show Jq P ops X o Γ H (D.rep (bX (l.take hi).length _));rw[<-e];exact this
theorem WK{x y:Operand}{t u lo:Nat}{k:IntKind}{b:Bool}{l:List Nat}(ho:o.op = .slice t x (some y) none none)(hx:ao Γ x=some (D.v (V.one (ae l))))(hy:ao Γ y=some (D.val (.int k lo)))
  (ht:P.underlying t=some (.slice u)) (hu:bJ P u b 1) (h2:lo<=l.length):Jq P ops X o Γ H (D.v (V.one (ae (l.drop lo)))):=by
 refine Le (X:=X) (H:=H) (ops:=ops) ho hx hy ht hu h2 (by simp) ?_;rw[Y1,Y1,List.map_drop];exact YH (by simp)
end
theorem bS{x r:Int}(h:x=r)(h1:-9223372036854775808<=r)(h2:r<=9223372036854775807):IntKind.i64.wrap x=r:=by
 subst h;rw[IntKind.wrap_i64];omega
theorem cF{x r:Int}(h:x%18446744073709551616=r):IntKind.u64.wrap x=r:=by
 subst h;simp[IntKind.wrap,IntKind.bits,IntKind.signed]
theorem tt{x r:Int}(h:x%4294967296=r):IntKind.u32.wrap x=r:=by
 subst h;simp[IntKind.wrap,IntKind.bits,IntKind.signed]
theorem fj{l:List Nat}{i:Nat}(h:i<l.length):(l.map aY)[(i:Int).toNat]?=some (aY l[i]):=by
 simp[h]
theorem eV{l:List Nat}{j:Int}(i:Nat)(h:i<l.length)(hj:j=i):(l.map aY)[j.toNat]?=some (aY l[i]):=by
 subst hj;simp[h]
theorem sv{l:List Nat}{i:Nat}(h:i<l.length):(l.map aY)[i]?=some (aY l[i]):=by simp[h]
theorem fX{l:List Nat}{i x:Nat}(h:i<l.length):splice (l.map aY) i [aY x]=(l.set i x).map aY:=by
 unfold splice;rw[List.map_set];apply zaq
 .simp;omega
 .intro j h1 h2;simp only[List.getElem_append,XX,X2,List.length_map,X6,Yg,List.getElem_set];have hm:min i l.length=i:=YA (Yn h);simp only[hm];split
  .split
   .rename_i h3;rw[if_neg (by omega)];simp
   .rename_i h3 h4;have:i=j:=by omega
    subst this;rw[if_pos rfl];simp
  .rename_i h3;rw[if_neg (by omega)];simp only[List.getElem_drop];congr 1;omega
theorem jF(n:Nat):qD (n*1) [ab.val (.int .u32 0)]=(List.replicate n 0).map aY:=by
 rw[LD];simp[aY]
theorem er{k:IntKind}{c:Int}(x c':Nat)(hc:min c.toNat k.bits=c'):(x:Int).fdiv (2^(min c.toNat k.bits))=((x/2^c':Nat):Int):=by
 rw[hc,Int.fdiv_eq_ediv_of_nonneg _ (by exact Int.le_of_lt (Int.pow_pos (by omega))),Int.natCast_ediv,Z8];rfl
theorem dT{p:Prop}[Decidable p](h:p):decide p=true:=decide_eq_true h
theorem dF{p:Prop}[Decidable p](h:¬p):decide p=false:=decide_eq_false h
theorem eT{a b:Int}(h:a=b):(a == b)=true:=beq_iff_eq.2 h
theorem eF{a b:Int}(h:a≠b):(a == b)=false:=beq_eq_false_iff_ne.2 h
theorem nT{a b:Int}(h:a≠b):(a != b)=true:=by simp[h]
theorem nF{a b:Int}(h:a=b):(a != b)=false:=by simp[h]
section
variable {P:Program}{ops:Array Oper}{X:List Nat}{o:Oper}{Γ:aA}{H:Hp}
theorem HE.tV{E:Env}{i:Nat}{e:HE}{w:World}(h:e.ok E i w)(hr:e.row=some 1)(h0:0<e.ls.length) :
  E.nil i=false/\E.cap i<=maxLen/\∃cs rest:List Value,w.heap[E.b i]?=some (.cells (cs++rest).toArray e.t (0,0))/\(cs++rest).length=E.cap i/\a9 E.A e.ls cs w:=by
 have hn:=HE.not_nil h h0;unfold HE.ok at h;rw[hr] at h;simp only[hn,Y1] at h;obtain⟨h1,cs,rest,h2,h3,h4⟩:=h;exact⟨hn,h1,cs,rest,h2,h3,h4⟩
theorem WJ{x y z:Operand}{t u i n:Nat}{k k':IntKind}{lo hi:Nat}{b:Bool}{e:HE}(ho:o.op = .slice t x (some y) (some z) none)(hx:ao Γ x=some (D.own i n))(hy:ao Γ y=some (D.val (.int k lo)))
  (hz:ao Γ z=some (D.val (.int k' hi))) (hi':H[i]?=some (some e)) (hXi:i ∉ X) (hr:e.row=some 1) (hl:e.ls.length=n) (ht:P.underlying t=some (.slice u)) (hu:bJ P u b 1) (h1:lo<hi) (h2:hi<=n) {m:Nat} (hm:hi-lo=m) :
  Jq P ops X o Γ H (D.part i lo m):=by
 intro w0 A0 N Γ2 H2 E a w hs hX hG;subst hm;obtain⟨hk,hv⟩:=bY hs hG (x:=x) (by rw[ho];simp[Op.operands]) hx;have hv:a.eval x=if E.nil i then .slice none 0 0 else .slice (some ⟨E.b i,0,none⟩) n (E.cap i):=hv;have e2:=cT hs hG (x:=y) (by rw[ho];simp[Op.operands]) hy;have e3:=cT hs hG (x:=z) (by rw[ho];simp[Op.operands]) hz;obtain⟨g1,_⟩:=hG.boxes i e (hX i e hXi hi');obtain⟨hn,hm,cs,rest,hc,hlen,hd⟩:=HE.tV g1 hr (by omega);have hdl:=hd.length;have hcap:n<=E.cap i:=by rw[<-hlen,<-hl,<-hdl];simp
 simp only[hn] at hv;have c1:hi<=E.cap i:=by omega
 have c2:lo<=hi:=by omega
 have c3:¬E.cap i=lo:=by omega
 refine⟨hk,.slice (some ⟨E.b i,lo,none⟩) (hi-lo) (E.cap i-lo),?_,by show _=_;rw[hn];rfl⟩;simp[execOp,ho,hv,e2,e3,Instr.sliceAt,Instr.slice,run_underlying ht,Instr.sliceBounds,Instr.sliceBound,asIntOf,hu.sizeOf,c1,c2,c3,jW]
theorem oW{x y:Operand}{t u i o' n:Nat}{k:IntKind}{j:Int}{b:Bool}{e:HE}(ho:o.op = .indexAddr t x y)(hx:ao Γ x=some (D.part i o' n))(hy:ao Γ y=some (D.val (.int k j)))(hi:H[i]?=some (some e))(hXi:i ∉ X)
  (h00:0<e.ls.length) (ht:P.underlying t=some (.slice u)) (hu:bJ P u b 1) (h0:0<=j) (hj:j<n) {off:Nat} (hoff:o'+j.toNat=off):Jq P ops X o Γ H (D.ptr i off):=by
 intro w0 A0 N Γ2 H2 E a w hs hX hG;obtain⟨h1,h2⟩:=bY hs hG (x:=x) (by rw[ho];simp[Op.operands]) hx;have h2:a.eval x=if E.nil i then .slice none 0 0 else .slice (some ⟨E.b i,o',none⟩) n (E.cap i-o'):=h2;have e2:=cT hs hG (x:=y) (by rw[ho];simp[Op.operands]) hy;obtain⟨g1,_⟩:=hG.boxes i e (hX i e hXi hi);have hnn:=HE.not_nil g1 h00;simp only[hnn] at h2;refine⟨h1,.pointer (some ⟨E.b i,off,none⟩),?_,rfl⟩;subst hoff;simp[execOp,ho,h2,e2,Instr.indexAt,asIntOf,run_underlying ht,h0,hj,hu.sizeOf,jW]
theorem Px{w0:aJ}{A0:ak}{N:Nat}{Γ2:aA}{H2:Hp}{E:Env}{a:Act}{w:World}(hG:Good w0 A0 N Γ2 H2 E a w){i off n:Nat}{e:HE}(hi:H2[i]?=some (some e))(hr:e.row=some 1)(h0:0<n)(hle:off+n<=e.ls.length)
  {v:Value} (hv:(D.part i off n).den E v w) (hcl:bW e.ls=true):(bX n ((e.ls.drop off).take n)).P (fun k j=>E.A k j\/k=E.b i) v w:=by
 obtain⟨g1,_⟩:=hG.boxes i e hi;obtain⟨hn,hm,cs,rest,hc,hlen,hd⟩:=HE.tV g1 hr (by omega);have hdl:=hd.length;have hcap:e.ls.length<=E.cap i:=by rw[<-hlen,<-hdl];simp
 have hv:v=if E.nil i then .slice none 0 0 else .slice (some ⟨E.b i,off,none⟩) n (E.cap i-off):=hv;simp only[hn] at hv;refine⟨some ⟨E.b i,off,none⟩,E.cap i-off,by simpa using hv,by omega,by omega,fun h=>by simp at h,fun ad had=>?_⟩;cases had;refine⟨fun _=>rfl,fun j l hj=>⟨.inr rfl,?_⟩⟩;rw[YS] at hj;split at hj
 .rw[Yw] at hj;obtain⟨u,hu,hud⟩:=(hd.pure hcl).get hj;have hju:=(XN.1 hu).1;exact⟨u,kQ (o:=off+j) hc (v:=u) (by rw[XV hju];exact hu),ab.cU (ak.le.of fun k j hk=>.inl hk) hud⟩
 .simp at hj
theorem W7{f:Nat}{x:Operand}{args:Array Operand}{ys:List Operand}{tys:Array TypeId}{xs:List V}{r:Value}{i off n:Nat}{e:HE}(ho:o.op = .call { callee:=.value (.func f),args:=args,argTypes:=tys })(hf:aD P f)
  (hargs:args.toList=x::ys) (hx:ao Γ x=some (D.part i off n)) (hi:H[i]?=some (some e)) (hr:e.row=some 1) (h0:0<n) (hle:off+n<=e.ls.length) {ls':List ab} (hls:(e.ls.drop off).take n=ls')
  (hys:gA Γ ys=some xs) (hspec:ar P f (V.one (ab.rep (bX n ls'))::xs) (R.one (V.one (ab.val r)))) (hcl:bW e.ls=true:=by first|rfl|exact qh _) (hcx:fq xs=true:=by rfl):Je P ops o Γ H (some (D.val r)) H:=by
 intro w0 A0 N Γ2 a w Q K hs hN hSt hK;obtain⟨E,hG⟩:=hSt;obtain⟨fn,hfn,hb,hn⟩:=hf;have hmem:∀z∈args.toList,z∈o.op.operands:=by
  intro z hz;rw[ho];simp[Op.operands,Call.operands];exact .inr (by simpa using hz)
 have hat:=fun z (hz:z∈args.toList) d hd=>(bY hs hG (x:=z) (hmem z hz) hd (d:=d)).2;have hxd:=hat x (by rw[hargs];simp) _ hx;have hyd:=mc (Γ:=Γ) (E:=E) (a:=a) (w:=w) ys xs (fun z hz d hd=>hat z (by rw[hargs];simp[hz]) d hd) hys;have hrun:(execOp a.eval o).run P w = .ok (.enter f (args.map a.eval)) w:=by
  have hn':¬fn.name = "runtime.NumGoroutine":=by simpa using hn
  have hb':¬fn.body=none:=by intro e;rw[e] at hb;simp at hb
  simp[execOp,ho,resolve,Deferred.ofValue,invoke,callFunc,hfn,hn',hb',Act.eval]
 unfold Oper.wp;rw[hrun,Ze];have hrep:=Px hG hi hr h0 hle hxd hcl;rw[hls] at hrep;have hfoot:∀k j,(E.A k j\/k=E.b i)->k<w.heap.size:=by
  intro k j hk;rcases hk with hk|rfl
  .exact hG.bc k j hk
  .obtain⟨g1,_⟩:=hG.boxes i e hi;exact HE.eu g1 (HE.not_nil g1 (by omega))
 have hc:=hspec w (a.eval x::ys.map a.eval) (fun k j=>E.A k j\/k=E.b i) hG.below.now hfoot ⟨hrep,(hyd.pure hcx).mono (ak.le.of fun k j hk=>.inl hk)⟩;rw[show(a.eval x::ys.map a.eval).toArray=args.map a.eval from by
  apply YC.1;simp[hargs]] at hc
 refine Zg hc ?_;rintro e' w' ⟨v,rfl,hy,hbel⟩;obtain⟨rfl,hone⟩:=hy;exact hK _ _ ⟨_,(hG.grow hbel).put (fun d hd=>by cases hd;exact⟨trivial,rfl,hone⟩) hN⟩
def te(P:Program)(f t off n:Nat)(ls ls':List ab)(xs:List V)(y:R):Prop:=
 ∀(w:World) (vs:List Value) (A:Cells) (b cap:Nat) (cs rest:List Value),kv w->(∀p∈jn,p.1≠b)->(∀k j,A k j->k<w.heap.size)->(∀j,¬A b j)->w.heap[b]?=some (.cells (cs++rest).toArray t (0,0))->(cs++rest).length=cap->cap<=maxLen →
  a9 (ak.of A) ls cs w->c6 (ak.of A) xs vs w →
  Calls P f (.slice (some ⟨b,off,none⟩) n (cap-off)::vs).toArray w fun e w'=>∃v,e = .returned v/\y.den (grown (ak.of A) w w') v w'/\aJ.cW ⟨w,(· = b),fun _=>none⟩ w' ∧
   ∃cs' rest',w'.heap[b]?=some (.cells (cs'++rest').toArray t (0,0))/\a9 (grown (ak.of A) w w') ls' cs' w'
def K9(P:Program)(fn:Func)(w0:aJ)(A0:ak)(y:R)(t b:Nat)(ls':List ab):Exit->Act->World->Prop:=
 bodyPost P fn fun e w'=>∃v,e = .returned v/\y.den (grown (ak.of A0.c) w0.w w') v w'/\w0.cW w'/\∃cs' rest',w'.heap[b]?=some (.cells (cs'++rest').toArray t (0,0))/\a9 (grown (ak.of A0.c) w0.w w') ls' cs' w'
theorem te.gO{f N t off n:Nat}{fn:Func}{c:Code}{ls ls':List ab}{xs:List V}{y:R}(hf:P.funcs[f]?=some fn)(hb:fn.body=some c)(hN:fn.ntmps=N)(hl:xs.length+1<=min N 2000)
  (h:∀(w0:aJ) A0 b,(∀k,w0.X k->k=b)->Tc P (K9 P fn w0 A0 y t b ls') w0 A0 N ((0,some (D.part 0 off n))::lY 1 xs) [some ⟨t,ls,some 1,some (.inl b)⟩] c):te P f t off n ls ls' xs y:=by
 intro w vs A b cap cs rest hg hgb hA hAb hheap hlen hcap hd hvs;have hlv:=hvs.length;have hdl:=hd.length;refine calls_of_wp hf hb ?_;refine h ⟨w,(· = b),fun _=>none⟩ (ak.of A) b (fun _ h=>h) _ _ ⟨⟨fun _=>b,fun _=>cap,fun _=>false,ak.of A⟩,aJ.cW.refl ⟨w,(· = b),fun _=>none⟩ hg hgb,hA,fun k j hk=>.inl hk,rfl,?_,?_,?_,?_,?_,fun i m v hv=>by simp at hv,fun k j hk=>⟨hk,rfl⟩⟩
 .simp;omega
 .intro s d hs;by_cases hs0:0=s
  .subst hs0;rw[hY] at hs;cases hs;refine⟨⟨_,rfl,rfl⟩,.slice (some ⟨b,off,none⟩) n (cap-off),?_,rfl⟩;rw[jq rfl,Yj (by simp)];simp
  .rw[gH hs0] at hs;obtain⟨x,v,rfl,h1,h2,h3⟩:=vq xs vs 1 s d hvs hs;refine⟨trivial,v,?_,h3⟩;have hlt:=(XN.1 h2).1;rw[jq (by simp;omega),Yj (by simp;omega)];obtain⟨s',rfl⟩:∃s',s=s'+1:=⟨s-1,by omega⟩;simpa using h2
 .intro i e he
  match i,he with
  |0,he=>
   simp only[YD,XL] at he;subst he;refine⟨?_,fun _=>⟨⟨rfl,.inr rfl⟩,fun j _=>hAb j⟩⟩;show HE.ok ⟨fun _=>b,fun _=>cap,fun _=>false,ak.of A⟩ 0 ⟨t,ls,some 1,some (.inl b)⟩ w;simp only[HE.ok,X8,if_false];exact⟨hcap,cs,rest,hheap,by rw[Y1];exact hlen,hd⟩
  |i+1,he=>simp at he
 .intro i j e e' hi hj _ _ hij;have h1:=(XN.1 hi).1;have h2:=(XN.1 hj).1;simp at h1 h2;omega
 .intro i e v he hp
  match i,he with
  |0,he=>
   simp only[YD,XL] at he;subst he;simp at hp
  |i+1,he=>simp at he
theorem W8{f:Nat}{x:Operand}{args:Array Operand}{ys:List Operand}{tys:Array TypeId}{xs:List V}{y:R}{i off n t:Nat}{ls ls':List ab}{p:Option (Nat ⊕ (Nat×Option Nat))}(ho:o.op = .call { callee:=.value (.func f),args:=args,argTypes:=tys })(hf:aD P f)
  (hargs:args.toList=x::ys) (hx:ao Γ x=some (D.part i off n)) (hi:H[i]?=some (some ⟨t,ls,some 1,p⟩)) (h0:0<ls.length) (hys:gA Γ ys=some xs) (hspec:te P f t off n ls ls' xs y) (hpk:(∀k v,p≠some (.inr (k,some v)))\/ls'.length=ls.length:=by exact .inl (fun _ _ h=>by simp at h)) (hfz0:(⟨t,ls,some 1,p⟩:HE).fz=0:=by rfl) (hcl:bW ls=true:=by first|rfl|exact qh _) (hcx:fq xs=true:=by rfl) :
  Je P ops o Γ H (some y.lG) (H.set i (some ⟨t,ls',some 1,p⟩)):=by
 intro w0 A0 N Γ2 a w Q K hs hN hSt hK;obtain⟨E,hG⟩:=hSt;obtain⟨fn,hfn,hb,hn⟩:=hf;have hmem:∀z∈args.toList,z∈o.op.operands:=by
  intro z hz;rw[ho];simp[Op.operands,Call.operands];exact .inr (by simpa using hz)
 have hat:=fun z (hz:z∈args.toList) d hd=>(bY hs hG (x:=z) (hmem z hz) hd (d:=d)).2;have hxd:=hat x (by rw[hargs];simp) _ hx;have hyd:=mc (Γ:=Γ) (E:=E) (a:=a) (w:=w) ys xs (fun z hz d hd=>hat z (by rw[hargs];simp[hz]) d hd) hys;have hrun:(execOp a.eval o).run P w = .ok (.enter f (args.map a.eval)) w:=by
  have hn':¬fn.name = "runtime.NumGoroutine":=by simpa using hn
  have hb':¬fn.body=none:=by intro e;rw[e] at hb;simp at hb
  simp[execOp,ho,resolve,Deferred.ofValue,invoke,callFunc,hfn,hn',hb',Act.eval]
 unfold Oper.wp;rw[hrun,Ze];obtain⟨g1,g2⟩:=hG.boxes i _ hi;obtain⟨hnl,hm,cs,rest,hc,hlen,hd⟩:=HE.tV g1 rfl h0;obtain⟨b1,b2'⟩:=g2 hnl;have b2:∀j,¬E.A (E.b i) j:=fun j=>b2' j (by rw[hfz0];exact XS _);have hfz1:(⟨t,ls',some 1,p⟩:HE).fz=0:=by
  unfold HE.fz at hfz0 ⊢;exact hfz0
 have hxd:a.eval x=if E.nil i then .slice none 0 0 else .slice (some ⟨E.b i,off,none⟩) n (E.cap i-off):=hxd;simp only[hnl] at hxd;have hne:∀p∈jn,p.1≠E.b i:=by
  intro q hq e'';have h1:=(hG.below.jU q hq).1;have h2:=hG.below.apart q hq;rw[e''] at h1 h2
  cases hp:p with
  |none=>rw[hp] at b1;have:w0.w.heap.size<=E.b i:=b1;omega
  |some q'=>
   rw[hp] at b1
   cases q' with
   |inl q'=>
    obtain⟨h5,h6⟩:=b1;rw[h5] at h2 h1;rcases h6 with h6|h6
    .omega
    .exact h2 h6
   |inr q'=>
    rcases b1 with b1|b1
    .omega
    .exact h2 b1
 have hcall:=hspec w (ys.map a.eval) E.A.c (E.b i) (E.cap i) cs rest hG.below.now hne hG.bc b2 hc hlen hm (hd.pure hcl) (hyd.pure hcx);rw[show(Value.slice (some ⟨E.b i,off,none⟩) n (E.cap i-off)::ys.map a.eval).toArray=args.map a.eval from by
  apply YC.1;simp[hargs,hxd]] at hcall
 refine Zg hcall ?_;rintro e' w' ⟨v,rfl,hy,hbel,cs',rest',hc',hd'⟩;have hsz:(cs'++rest').length=E.cap i:=by
  obtain⟨cs2,k1,k2⟩:=hbel.kb (E.b i) _ _ _ rfl hc;rw[hc'] at k1;cases k1;rw[<-hlen];simpa using k2
 have hil:i<H.length:=(XN.1 hi).1;have hwlt:E.b i<w.heap.size:=(X4.1 hc).1;have hk:∀k,k<w.heap.size->k≠E.b i->w'.heap[k]?=w.heap[k]?:=fun k hk hne=>hbel.block k hk hne;have hkA:kept E.A w w':=ju fun k j hA=>hk k (hG.bc k j hA) (fun e=>b2 j (e ▸ hA));have hmA:ak.le E.A (grown E.A w w'):=BO _ _ _;have hgb:∀b j,b<w.heap.size->¬E.A b j->¬grown E.A w w' b j:=fun b j h1 h2 h3=>by
  rcases h3 with h3|h3
  .exact h2 h3
  .omega
 have hnoX:∀k,k<w0.w.heap.size->¬w0.X k->k≠E.b i:=by
  intro k hk hx e'';subst e''
  cases hp:p with
  |none=>rw[hp] at b1;have:w0.w.heap.size<=E.b i:=b1;omega
  |some q=>
   rw[hp] at b1
   cases q with
   |inl q=>
    obtain⟨h5,h6⟩:=b1;rw[h5] at hx hk;rcases h6 with h6|h6
    .omega
    .exact hx h6
   |inr q=>
    rcases b1 with b1|b1
    .omega
    .exact hx b1
 refine hK _ _ ⟨{ E with A:=grown E.A w w' },Good.put (H:=H.set i (some ⟨t,ls',some 1,p⟩)) ?_ (fun d hd=>by cases hd;exact⟨R.wK,R.wL (R.cU (sm _ _ _) hy)⟩) hN⟩;have hs0:=hG.below.size;refine⟨⟨hbel.os.trans hG.below.os,hbel.tape.trans hG.below.tape,hbel.output.trans hG.below.output,XY hs0 hbel.size,fun k h1 h2=>?_,fun k cs1 t1 m1 h1 h2=>?_,hG.below.jU,hG.below.apart⟩,?_,?_,hG.defers,hG.size,?_,?_,?_,?_,?_,hG.bg.bI hmA.1 hkA⟩
 .rw[hk k (XZ h1 hs0) (hnoX k h1 h2)];exact hG.below.block k h1 h2
 .obtain⟨cs2,k1,k2⟩:=hG.below.kb k cs1 t1 m1 h1 h2;by_cases hkb:k=E.b i
  .subst hkb;rw[hc] at k1;cases k1;exact⟨_,hc',by rw[<-k2];simp only[zan];rw[hsz,hlen]⟩
  .exact⟨cs2,by rw[hk k (X4.1 k1).1 hkb];exact k1,k2⟩
 .intro k j hk;rcases hk with hk|hk
  .exact XZ (hG.bc k j hk) hbel.size
  .exact hk.2
 .intro k j hk;rcases hk with hk|hk
  .exact hG.cE k j hk
  .exact .inr (.inl (XY hs0 hk.1))
 .intro s d hs;obtain⟨ho',v,hv,hd⟩:=hG.cr s d hs;exact⟨ho'.oj (fun e0 h0 h1=>by rw[hi] at h0;cases h0;exact h1),v,hv,D.sM hmA (D.fK hkA hd)⟩
 .intro j e he;by_cases hj:i=j
  .subst hj;rw[X7 hil] at he;simp only[XL] at he;subst he;refine⟨?_,fun _=>⟨b1,fun j _=>hgb _ j hwlt (b2 j)⟩⟩;simp only[HE.ok,hnl,X8,if_false];exact⟨hm,cs',rest',hc',by rw[Y1];exact hsz,hd'.mono (sm _ _ _)⟩
  .rw[X0 hj] at he;obtain⟨k1,k2⟩:=hG.boxes j e he;have hlt:E.nil j=false->E.b j<w.heap.size:=fun hnj=>HE.eu k1 hnj;have hsame:E.nil j=false->w'.heap[E.b j]?=w.heap[E.b j]?:=fun hnj=>hk _ (hlt hnj) (fun hb=>hG.apart i j _ e hi he hnl hnj hj hb.symm);exact⟨HE.jt hmA (HE.kL hkA hsame k1),fun hnj=>⟨(k2 hnj).1,fun jj hjj=>hgb _ jj (hlt hnj) ((k2 hnj).2 jj hjj)⟩⟩
 .intro j1 j2 e1 e2 he1 he2 hn1 hn2 h12;have back:∀(j:Nat) (e1:HE),(H.set i (some ⟨t,ls',some 1,p⟩))[j]?=some (some e1)->∃e2,H[j]?=some (some e2):=by
   intro j e1 h1;by_cases hj:i=j
   .subst hj;exact⟨_,hi⟩
   .rw[X0 hj] at h1;exact⟨e1,h1⟩
  obtain⟨e1',g1⟩:=back j1 e1 he1;obtain⟨e2',g2⟩:=back j2 e2 he2;exact hG.apart j1 j2 e1' e2' g1 g2 hn1 hn2 h12
 .intro j e v he hp;by_cases hj:i=j
  .subst hj;rw[X7 hil] at he;simp only[XL] at he;subst he;simp only at hp;rcases hpk with h0|h0
   .obtain⟨k,hp⟩:=hp;exact absurd hp (h0 k v)
   .have h1:=hG.kn i _ v hi hp;have:=h1.1;refine⟨?_,h1.2.1,fun _ j hj=>by rw[hfz1] at hj;omega⟩;unfold HE.name at this ⊢;simp only[h0];exact this
  .rw[X0 hj] at he;exact⟨(hG.kn j e v he hp).1,(hG.kn j e v he hp).2.1,fun hn j' hj'=>.inl ((hG.kn j e v he hp).2.2 hn j' hj')⟩
 .intro j m v hv;obtain⟨e1,k,n,h5,h6⟩:=hG.gd j m v hv;by_cases hj:i=j
  .subst hj;rw[hi] at h5;cases h5;exact⟨_,k,n,X7 hil,h6⟩
  .exact⟨e1,k,n,by rw[X0 hj];exact h5,h6⟩
theorem Good.Gj{w0:aJ}{A0:ak}{N b:Nat}{E:Env}{a:Act}{w:World}(hG:Good w0 A0 N Γ H E a w)(hX:∀k,w0.X k->k=b)(hb:∀j,¬E.A b j):ak.le (ak.of E.A.c) (grown (ak.of A0.c) w0.w w):=ak.le.of fun k j hk=>by
 rcases hG.cE k j hk with h|h|h
 .exact .inl h
 .exact .inr ⟨h,hG.bc k j hk⟩
 .have:=hX k h;subst this;exact absurd hk (hb j)
theorem K1{Q:Exit->Act->World->Prop}{w0:aJ}{A0:ak}{N t b:Nat}{fn:Func}{y:R}{r:ResultVar}{x:V}{ls':List ab}(hQ:∀a w,K9 P fn w0 A0 y t b ls' .ret a w->Q .ret a w)
  (hr:fn.results = #[r]) (h:jN P Γ H r x) (hy:R.one x=y) {ls:List ab} (hH:H[0]?=some (some ⟨t,ls,some 1,some (.inl b)⟩)) (h0:0<ls.length) (hls:ls=ls') (hX:∀k,w0.X k->k=b) (hcx:x.cl=true:=by rfl) (hcl:bW ls=true:=by first|rfl|exact qh _):Tc P Q w0 A0 N Γ H .ret:=by
 intro a w hSt;obtain⟨E,hG⟩:=hSt;obtain⟨v,hv,hd⟩:=kE hG h;subst hls;obtain⟨g1,g2⟩:=hG.boxes 0 _ hH;obtain⟨hn,hm,cs,rest,hc,hlen,hcd⟩:=HE.tV g1 rfl h0;obtain⟨⟨hb,_⟩,hfree⟩:=g2 hn;have hout:=hG.Gj hX (fun j=>by rw[<-hb];exact hfree j (XS _));refine wp_ret (hQ a w ⟨hG.defers,v,?_,v,rfl,?_,hG.below,cs,rest,?_,(hcd.pure hcl).mono hout⟩)
 .rw[kD,hr];simp[hv]
 .subst hy;exact V.cU hout (V.ja hcx hd)
 .rw[<-hb];exact hc
end
section
variable {P:Program}{ops:Array Oper}{X:List Nat}{o:Oper}{Γ:aA}{H:Hp}
theorem JI{A A':ak}{w:World}:∀{ls:List ab} {cs:List Value},(∀l∈ls,∃v,l=ab.val v)->a9 A ls cs w->a9 A' ls cs w
 |[],[],_,_=>trivial
 |l::ls,c::cs,hv,h=>by
  obtain⟨v,rfl⟩:=hv l (by simp);exact⟨h.1,JI (fun l hl=>hv l (by simp[hl])) h.2⟩
 |[],_::_,_,h=>h.elim
 |_::_,[],_,h=>h.elim
def tf(P:Program)(f t n:Nat)(ls:List ab)(xs:List V):Prop:=
 ∀(w:World) (vs:List Value) (A:Cells),kv w->(∀k j,A k j->k<w.heap.size)->c6 (ak.of A) xs vs w →
  Calls P f vs.toArray w fun e w'=>∃b cap cs rest,e = .returned (.slice (some ⟨b,0,none⟩) n cap)/\w.heap.size<=b/\w'.heap[b]?=some (.cells (cs++rest).toArray t (0,0)) ∧
   (cs++rest).length=cap/\cap<=maxLen/\a9 (ak.of A) ls cs w'/\Below w.heap.size w w'
def La(P:Program)(fn:Func)(w0:aJ)(A0:ak)(t n:Nat)(ls:List ab):Exit->Act->World->Prop:=
 bodyPost P fn fun e w'=>∃b cap cs rest,e = .returned (.slice (some ⟨b,0,none⟩) n cap)/\w0.w.heap.size<=b/\w'.heap[b]?=some (.cells (cs++rest).toArray t (0,0)) ∧
   (cs++rest).length=cap/\cap<=maxLen/\a9 (ak.of A0.c) ls cs w'/\w0.cW w'
theorem tf.gO{f N t n:Nat}{fn:Func}{c:Code}{ls:List ab}{xs:List V}(hf:P.funcs[f]?=some fn)(hb:fn.body=some c)(hN:fn.ntmps=N)(hl:xs.length<=min N 2000)
  (h:∀w0 A0,Tc P (La P fn w0 A0 t n ls) w0 A0 N (lY 0 xs) [] c):tf P f t n ls xs:=by
 intro w vs A hg hA hd;have hlen:=hd.length;refine Zg (calls_of_wp hf hb (R:=fun e w'=>∃b cap cs rest,e = .returned (.slice (some ⟨b,0,none⟩) n cap)/\w.heap.size<=b/\w'.heap[b]?=some (.cells (cs++rest).toArray t (0,0)) ∧
   (cs++rest).length=cap/\cap<=maxLen/\a9 (ak.of A) ls cs w'/\(aJ.of w).cW w') ?_) (fun e w' ⟨b,cap,cs,rest,h1,h2,h3,h4,h5,h6,h7⟩=>⟨b,cap,cs,rest,h1,h2,h3,h4,h5,h6,h7.EC⟩)
 refine h (aJ.of w) (ak.of A) _ _ ⟨⟨fun _=>0,fun _=>0,fun _=>false,ak.of A⟩,aJ.cW.refl (aJ.of w) hg (fun _ _ h=>h),hA,fun k j hk=>.inl hk,rfl,?_,?_,fun i e he=>by simp at he,fun i j e e' he=>by simp at he,fun i e v he=>by simp at he,fun i m v hv=>by simp at hv,fun k j hk=>⟨hk,rfl⟩⟩
 .simp;omega
 .intro s d hs;obtain⟨x,v,rfl,_,h2,h3⟩:=vq xs vs 0 s d hd hs;refine⟨trivial,v,?_,h3⟩;simp only[zay] at h2;have hlt:=(XN.1 h2).1;rw[jq (by simp;omega),Yj (by simpa using hlt)];simpa using h2
theorem Wq{Q:Exit->Act->World->Prop}{w0:aJ}{A0:ak}{N t n s i:Nat}{fn:Func}{ls ls':List ab}(hQ:∀a w,La P fn w0 A0 t n ls' .ret a w->Q .ret a w)
  (hr:fn.results = #[.tmp s]) (hs:dL Γ s=some (D.own i n)) (hH:H[i]?=some (some ⟨t,ls,some 1,none⟩)) (h0:0<ls.length) (hls:ls=ls') (hv:∀l∈ls,∃v,l=ab.val v):Tc P Q w0 A0 N Γ H .ret:=by
 intro a w hSt;obtain⟨E,hG⟩:=hSt;subst hls;obtain⟨_,v,hv2,hd⟩:=hG.tmp hs;have hd:v=if E.nil i then .slice none 0 0 else .slice (some ⟨E.b i,0,none⟩) n (E.cap i):=hd;obtain⟨g1,g2⟩:=hG.boxes i _ hH;obtain⟨hn,hm,cs,rest,hc,hlen,hcd⟩:=HE.tV g1 rfl h0;simp only[hn] at hd;refine wp_ret (hQ a w ⟨hG.defers,v,?_,E.b i,E.cap i,cs,rest,by rw[hd];rfl,(g2 hn).1,hc,hlen,hm,JI hv hcd,hG.below⟩);rw[kD,hr];simp[mQ,hv2]
theorem ar.Qw{f t n:Nat}{ls:List ab}{xs:List V}(h:tf P f t n ls xs)(hl:ls.length=n):ar P f xs (R.one (V.one (ab.rep (bX n ls)))):=by
 intro w vs A hg hA hd;refine Zg (h w vs A hg hA hd) ?_;rintro e w' ⟨b,cap,cs,rest,rfl,hb,hc,hlen,hcap,hcd,hbel⟩;have hdl:=hcd.length;have hle:n<=cap:=by rw[<-hlen,<-hl,<-hdl];simp
 refine⟨_,rfl,⟨some ⟨b,0,none⟩,cap,rfl,hle,hcap,fun h=>by simp at h,fun ad had=>?_⟩,hbel⟩;cases had;refine⟨fun _=>rfl,fun j l hj=>⟨.inr ⟨hb,(X4.1 hc).1⟩,?_⟩⟩;obtain⟨u,hu,hud⟩:=hcd.get hj;have hju:=(XN.1 hu).1;refine⟨u,?_,ab.cU (ak.le.of fun k j hk=>.inl hk) hud⟩;have:=kQ (o:=j) hc (v:=u) (by rw[XV hju];exact hu);simpa using this
theorem Good.VR{w0:aJ}{A0:ak}{N:Nat}{E:Env}{a:Act}{w w':World}(h:Good w0 A0 N Γ H E a w)(hb:Below w.heap.size w w'){t b cap:Nat}{ls:List ab}{cs rest:List Value}(hbs:w.heap.size<=b)
  (hnew:w'.heap[b]?=some (.cells (cs++rest).toArray t (0,0))) (hlen:(cs++rest).length=cap) (hcap:cap<=maxLen) (hc:a9 E.A ls cs w') :
  ∃E',Good w0 A0 N Γ (H++[some ⟨t,ls,some 1,none⟩]) E' a w'/\E'.b H.length=b/\E'.cap H.length=cap/\E'.nil H.length=false/\E'.A=E.A:=by
 let E':Env:={ b:=fun i=>if i=H.length then b else E.b i,cap:=fun i=>if i=H.length then cap else E.cap i,nil:=fun i=>if i=H.length then false else E.nil i,A:=E.A }
 have hk:kept E.A w w':=ju fun k j hk=>hb.block k (h.bc k j hk);have hs0:=h.below.size;have hden:∀(d:D) v,d.gb H->d.den E v w->d.den E' v w':=by
  intro d v ho hd;have hd:=D.fK hk hd;rcases d with x|xs|⟨i,o⟩|⟨i,n⟩
  .exact hd
  .exact hd
  .have hi:i≠H.length:=zax (oe ho);simp only[D.den,E',if_neg hi] at hd ⊢;exact hd
  .have hi:i≠H.length:=zax (oe ho);simp only[D.den,E',if_neg hi] at hd ⊢;exact hd
 have hoks:∀(i:Nat) (e:HE),i≠H.length->e.ok E i w->e.ok E' i w':=by
  intro i e hi he;have he':=HE.kL (w':=w') hk (fun hn=>hb.block _ (HE.eu he hn)) he;simp only[HE.ok,E',if_neg hi] at he' ⊢;exact he'
 refine⟨E',⟨h.below.then (hb.mono h.below.size),?_,h.cE,h.defers,h.size,?_,?_,?_,?_,?_,h.bg.bI (fun _ _ x=>x) hk⟩,by simp[E'],by simp[E'],by simp[E'],rfl⟩
 .intro k j hk;exact XZ (h.bc k j hk) hb.size
 .intro s d hs;obtain⟨ho,v,hv,hd⟩:=h.cr s d hs;exact⟨ho.xz,v,hv,hden d v ho hd⟩
 .intro i e he;by_cases hi:i=H.length
  .subst hi;simp at he;subst he;refine⟨?_,fun _=>⟨by simp only[E',if_true];exact XY h.below.size hbs,by simp only[E',if_true];intro j _ hA;have:=h.bc _ _ hA;omega⟩⟩;simp only[HE.ok,E',if_true];exact⟨hcap,cs,rest,hnew,by rw[Y1];exact hlen,hc⟩
  .have hlt:i<H.length:=by
    have:=(XN.1 he).1;simp at this;omega
   rw[XV hlt] at he;obtain⟨h1,h2⟩:=h.boxes i e he;refine⟨hoks i e hi h1,fun hn=>?_⟩;simp only[E',if_neg hi] at hn ⊢;exact h2 hn
 .intro i j e e' he he' hn hn' hij;have bg:∀(i:Nat) (e:HE),(H++[some ⟨t,ls,some 1,none⟩])[i]?=some (some e)->i≠H.length->H[i]?=some (some e):=by
   intro i e he hi;have hlt:i<H.length:=by
    have:=(XN.1 he).1;simp at this;omega
   rwa [XV hlt] at he
  by_cases hi:i=H.length
  .have hj:j≠H.length:=fun e=>hij (hi.trans e.symm);simp only[E',if_neg hj] at hn' ⊢;rw[if_pos hi];have:=HE.eu (h.boxes j e' (bg j e' he' hj)).1 hn';omega
  .by_cases hj:j=H.length
   .simp only[E',if_neg hi] at hn ⊢;rw[if_pos hj];have:=HE.eu (h.boxes i e (bg i e he hi)).1 hn;omega
   .simp only[E',if_neg hi,if_neg hj] at hn hn' ⊢;exact h.apart i j e e' (bg i e he hi) (bg j e' he' hj) hn hn' hij
 .intro i e v he hp;by_cases hi:i=H.length
  .subst hi;simp at he;subst he;simp at hp
  .have hlt:i<H.length:=by
    have:=(XN.1 he).1;simp at this;omega
   rw[XV hlt] at he;have:=h.kn i e v he hp;unfold HE.name at this ⊢;simp only[E',if_neg hi];exact this
 .intro i m v hv;obtain⟨e,k,n,h1,h2⟩:=h.gd i m v hv;exact⟨e,k,n,by rw[XV (XN.1 h1).1];exact h1,h2⟩
theorem W9{f:Nat}{args:Array Operand}{tys:Array TypeId}{xs:List V}{t n i:Nat}{ls:List ab}(ho:o.op = .call { callee:=.value (.func f),args:=args,argTypes:=tys })(hf:aD P f)
  (hx:gA Γ args.toList=some xs) (hspec:tf P f t n ls xs) (hi:H.length=i) (hcx:fq xs=true:=by rfl):Je P ops o Γ H (some (D.own i n)) (H++[some ⟨t,ls,some 1,none⟩]):=by
 intro w0 A0 N Γ2 a w Q K hs hN hSt hK;obtain⟨E,hG⟩:=hSt;obtain⟨fn,hfn,hb,hn⟩:=hf;have hargs:=mc (Γ:=Γ) (E:=E) (a:=a) (w:=w) args.toList xs (fun x hx d hd=>(bY hs hG (x:=x) (by rw[ho];simp[Op.operands,Call.operands];exact .inr (by simpa using hx)) hd).2) hx;have hrun:(execOp a.eval o).run P w = .ok (.enter f (args.map a.eval)) w:=by
  have hn':¬fn.name = "runtime.NumGoroutine":=by simpa using hn
  have hb':¬fn.body=none:=by intro e;rw[e] at hb;simp at hb
  simp[execOp,ho,resolve,Deferred.ofValue,invoke,callFunc,hfn,hn',hb',Act.eval]
 unfold Oper.wp;rw[hrun,Ze];have hc:=hspec w (args.map a.eval).toList E.A.c hG.below.now hG.bc (by have:=hargs.pure hcx;simpa using this);rw[show(args.map a.eval).toList.toArray=args.map a.eval from Y5] at hc;refine Zg hc ?_;rintro e w' ⟨b,cap,cs,rest,rfl,hbs,hnew,hlen,hcap,hcd,hbel⟩;obtain⟨E',hG',hb',hcap',hnil,hA⟩:=hG.VR hbel hbs hnew hlen hcap (hcd.mono (uE _));refine hK _ _ ⟨E',hG'.put (fun d hd=>?_) hN⟩;cases hd;subst hi;refine⟨rE,?_⟩;show _=_;rw[hnil,hb',hcap'];rfl
end
section
variable {P:Program}{ops:Array Oper}{X:List Nat}{Q:Exit->Act->World->Prop}{w0:aJ}{A0:ak}{N:Nat}{Γ:aA}{H:Hp}
theorem qu{c:Code}(Γ':aA)(H':Hp)(hk:known Γ Γ')(hH:H=H')(h:Tc P Q w0 A0 N Γ' H' c):Tc P Q w0 A0 N Γ H c:=
 fun a w hs=>h a w (by subst hH;exact hs.weaken (wO hk))
theorem Wx{c:Code}(i:Nat)(h:Tc P Q w0 A0 N (fk i Γ) (H.set i none) c)(hv:nU H i=false:=by rfl):Tc P Q w0 A0 N Γ H c:=
 fun a w hs=>let ⟨E,g⟩:=hs;h a w ⟨E,g.free i hv⟩
def Rn(P:Program)(Q:Exit->Act->World->Prop)(w0:aJ)(A0:ak)(N:Nat)(Γ:aA)(H:Hp)(n:Nat)(c:Code):Prop:=∀a w,St w0 A0 N Γ H a w->Code.rounds P c Q n a w
theorem K0{c:Code}(n:Nat)(h:Rn P Q w0 A0 N Γ H n c):Tc P Q w0 A0 N Γ H (.loop c):=fun a w hs=>wp_loop_rounds n (h a w hs)
theorem th{c:Code}{n:Nat}(h:Rn P Q w0 A0 N Γ H n c):At (Exit.then (Code.rounds P c Q n) Q) w0 A0 N Γ H .normal:=h
theorem Good.NJ{E:Env}{a:Act}{w:World}(h:Good w0 A0 N Γ H E a w){s i:Nat}{e:HE}(hs:look Γ s=some (D.ptr i 0))(hi:H[i]?=some (some e))(hr:e.row=none)(hp:e.cP=none)(hcl:bW e.ls=true) :
  St w0 A0 N ((s,some (D.rep (eR e.ls)))::fk i Γ) (H.set i none) a w:=by
 obtain⟨_,v,hv,hd⟩:=h.cr s _ hs;have hd:v = .pointer (some ⟨E.b i,0,none⟩):=hd;obtain⟨g1,g2⟩:=h.boxes i e hi;obtain⟨hn,cs,hc,hcd⟩:=HE.box g1 hr;obtain⟨b1,b2⟩:=g2 hn;rw[hp] at b1;have hf:=h.free i (zP hi (by unfold HE.cY;rw[hp]));have hlt:E.b i<w.heap.size:=(X4.1 hc).1;have hw:=hf.Ea (fun k j=>E.A k j\/k=E.b i) (fun k j hk=>.inl hk) (fun k j hk=>by rcases hk with hk|rfl;exact h.bc k j hk;exact hlt)
  (fun k j hk=>by rcases hk with hk|rfl;exact h.cE k j hk;exact .inr (.inl b1))
  (fun j e' hj hnj jj hjj hA=>by
   rw[getElem?_set'] at hj;split at hj
   .split at hj <;> simp at hj
   .rename_i hij;rcases hA with hA|hA
    .exact((h.boxes j e' hj).2 hnj).2 jj hjj hA
    .exact h.apart i j e e' hi hj hn hnj hij hA.symm)
 refine⟨_,hw.below,hw.bc,hw.cE,hw.defers,hw.size,?_,hw.boxes,hw.apart,hw.kn,hw.gd,hw.bg⟩;intro s' d hs';by_cases e':s=s'
 .subst e';rw[hY] at hs';cases hs';refine⟨trivial,v,hv,⟨E.b i,0,none⟩,hd,rfl,fun j l hj=>⟨.inr rfl,?_⟩⟩;obtain⟨u,hu,hud⟩:=(hcd.pure hcl).get hj;refine⟨u,?_,ab.cU (ak.le.of fun k j hk=>.inl hk) hud⟩;have:=kQ (o:=j) hc (v:=u) hu;simpa using this
 .rw[gH e'] at hs';exact hw.cr s' d hs'
theorem KY{l:List Oper}(s:Nat){i:Nat}{e:HE}(hs:look Γ s=some (D.ptr i 0))(hi:H[i]?=some (some e))(hr:e.row=none)
  (h:Tl P ops Q w0 A0 N ((s,some (D.rep (eR e.ls)))::fk i Γ) (H.set i none) l) (hp:e.cP=none:=by rfl) (hcl:bW e.ls=true:=by rfl):Tl P ops Q w0 A0 N Γ H l:=
 fun a w hSt=>let ⟨_,g⟩:=hSt;h a w (g.NJ hs hi hr hp hcl)
end
section
variable {P:Program}{ops:Array Oper}{X:List Nat}{o:Oper}{Γ:aA}{H:Hp}
theorem iP{x y:Operand}{t u i off n sz:Nat}{k:IntKind}{j:Nat}{b:Bool}(ho:o.op = .indexAddr t x y)(hx:ao Γ x=some (D.ptr i off))(hy:ao Γ y=some (D.val (.int k j)))
  (ht:P.underlying t=some (.array n u)) (hu:bJ P u b sz) (hj:j<n) {off':Nat} (hoff:off+j*sz=off'):Jq P ops X o Γ H (D.ptr i off'):=by
 intro w0 A0 N Γ2 H2 E a w hs hX hG;obtain⟨h1,h2⟩:=bY hs hG (x:=x) (by rw[ho];simp[Op.operands]) hx;have h2:a.eval x = .pointer (some ⟨E.b i,off,none⟩):=h2;have e2:=cT hs hG (x:=y) (by rw[ho];simp[Op.operands]) hy;subst hoff;refine⟨h1,.pointer (some ⟨E.b i,off+j*sz,none⟩),?_,rfl⟩;simp[execOp,ho,h2,e2,Instr.indexAt,Instr.sureAddr,asIntOf,run_underlying ht,hj,hu.sizeOf,jW]
theorem WR{x y:Operand}{k:IntKind}{m n r:Int}{tys:Array TypeId}(ho:o.op = .call { callee:=.builtin .max,args:=#[x,y],argTypes:=tys })(hx:ao Γ x=some (D.val (.int k m)))(hy:ao Γ y=some (D.val (.int k n)))
  (hr:(if m<n then n else m)=r):Jq P ops X o Γ H (D.val (.int k r)):=by
 intro w0 A0 N Γ2 H2 E a w hs hX hG;have e1:=cT hs hG (x:=x) (by rw[ho];simp[Op.operands,Call.operands]) hx;have e2:=cT hs hG (x:=y) (by rw[ho];simp[Op.operands,Call.operands]) hy;subst hr;refine⟨trivial,.int k (if m<n then n else m),?_,rfl,rfl⟩;simp[execOp,ho,resolve,invoke,builtin,Builtin.max_,Builtin.max2,e1,e2]
theorem WQ{x y:Operand}{k:IntKind}{m n r:Int}{tys:Array TypeId}(ho:o.op = .call { callee:=.builtin .min,args:=#[x,y],argTypes:=tys })(hx:ao Γ x=some (D.val (.int k m)))(hy:ao Γ y=some (D.val (.int k n)))
  (hr:(if n<m then n else m)=r):Jq P ops X o Γ H (D.val (.int k r)):=by
 intro w0 A0 N Γ2 H2 E a w hs hX hG;have e1:=cT hs hG (x:=x) (by rw[ho];simp[Op.operands,Call.operands]) hx;have e2:=cT hs hG (x:=y) (by rw[ho];simp[Op.operands,Call.operands]) hy;subst hr;refine⟨trivial,.int k (if n<m then n else m),?_,rfl,rfl⟩;simp[execOp,ho,resolve,invoke,builtin,Builtin.min_,Builtin.min2,e1,e2]
theorem DO{t u n sz:Nat}{b:Bool}{parts:Array (Nat×Operand)}{zs ls:List ab}{lp:List (Nat×List ab)}(ho:o.op = .build t parts)(hz:de P t zs)(hp:mT Γ parts.toList=some lp)
  (ht:P.underlying t=some (.array n u)) (hu:bJ P u b sz) (hf:oI (fun i=>some (i*sz,sz)) zs lp=some ls):Jq P ops X o Γ H (D.agg ls):=by
 intro w0 A0 N Γ2 H2 E a w hs hX hG;obtain⟨z,hzr,hzd⟩:=hz.run w E.A;obtain⟨h1,h2⟩:=A5 parts.toList lp (CR (.inl ho) hs hG) hp;obtain⟨cs,hc1,hc2⟩:=Cj (A:=E.A) (w:=w) (places:=fun i=>some (i*sz,sz)) (parts.toList.map fun p=>(p.1,a.eval p.2)) lp z.cells zs ls hzd h1 h2 hf;refine⟨trivial,.agg cs,?_,cs.toList,by simp,hc2⟩;simp only[execOp,ho,Instr.build];simp[hzr,run_underlying ht,hu.sizeOf,hc1]
end
section
variable {P:Program}{ops:Array Oper}{X:List Nat}{o:Oper}{Γ:aA}{H:Hp}
def vj(P:Program)(s f:Nat):Option (Nat×Nat):=
 match P.underlying s with
 |some (.struct fields)=>(fields[f]?).map fun fl=>(fl.offset,fl.type)
 |_=>none
theorem W0{x:Operand}{s f fo t:Nat}{ls:List ab}{l:ab}(ho:o.op = .field s x f)(hx:ao Γ x=some (D.agg ls))(hf:vj P s f=some (fo,t))(ht:bJ P t false 1)(hls:ls[fo]?=some l) :
  Jq P ops X o Γ H (D.v (V.one l)):=by
 unfold vj at hf;split at hf
 .rename_i fields hu
  cases hfl:fields[f]? with
  |none=>rw[hfl] at hf;simp at hf
  |some fl=>
   rw[hfl] at hf;simp only[Y0,XL,XO] at hf;obtain⟨h1,h2⟩:=hf;subst h2;exact W2 ho hx hu hfl h1 ht hls
 .simp at hf
def Aj(n:Nat)(ls:List ab):qv where
 P A v w:=(bX n ls).P A v w/\∃ad,v = .slice (some ad) n n
 mono:=fun hA h=>⟨(bX n ls).mono hA h.1,h.2⟩
 bI:=fun hk h=>⟨(bX n ls).bI hk h.1,h.2⟩
 one:=fun h=>(bX n ls).one h.1
theorem FR{A:Cells}{w:World}{ad:Addr}{m cap:Nat}{ls:List ab}(h:(bX m ls).P A (.slice (some ad) m cap) w)(hcap:0<cap) :
  ∃news:List Value,a9 (ak.of A) ls news w/\∀j v,news[j]?=some v->w.cell? (ad.add j)=some v:=by
 obtain⟨a,c,he,c1,c2,c3,c4⟩:=h;cases he;obtain⟨d1,d2⟩:=c4 ad rfl;obtain⟨bl,off,sp⟩:=ad;simp only at d1 d2;have d1:=d1 hcap;subst d1;have hex:∀(ls:List ab) (off:Nat),(∀(i:Nat) (l:ab),ls[i]?=some l->A bl (off+i)/\∃x,w.cell? ⟨bl,off+i,none⟩=some x/\l.den (ak.of A) x w) →
   ∃cs:List Value,a9 (ak.of A) ls cs w/\∀j v,cs[j]?=some v->w.cell? ⟨bl,off+j,none⟩=some v:=by
  intro ls
  induction ls with
  |nil=>intro off _;exact⟨[],trivial,fun j v h=>by simp at h⟩
  |cons l ls ih=>
   intro off h;obtain⟨_,x,hx,hd⟩:=h 0 l rfl;obtain⟨cs,hcs,hcc⟩:=ih (off+1) (fun i l hi=>by
    have:=h (i+1) l (by simpa using hi)
    rwa [show off+(i+1)=off+1+i from by omega] at this)
   refine⟨x::cs,⟨hd,hcs⟩,fun j v hj=>?_⟩
   cases j with
   |zero=>simp at hj;subst hj;exact hx
   |succ j=>have:=hcc j v (by simpa using hj);rwa [show off+(j+1)=off+1+j from by omega]
 obtain⟨cs,hcs,hcc⟩:=hex ls off d2;exact⟨cs,hcs,fun j v hj=>by rw[jW];exact hcc j v hj⟩
theorem Xg{x y:Operand}{t t2 u u2 n m sz:Nat}{ls1 ls2 ls:List ab}{inf:TypeInfo}{z:Value}
  (ho:o.op = .call { callee:=.builtin .append,args:=#[x,y],argTypes:=#[t,t2] })
  (hx:ao Γ x=some (D.rep (Aj n ls1))) (hy:ao Γ y=some (D.rep (bX m ls2))) (hl:ls1.length=n*sz) (hl2:ls2.length=m*sz) (hsz:0<sz) (hm:0<m)
  (ht:P.underlying t=some (.slice u)) (ht2:P.underlying t2=some (.slice u2)) (hinf:P.info? u=some inf) (hz:inf.zero=some z) (hisz:inf.size=sz) (hzs:z.cells.size=sz)
  (hlen:n+m<=maxLen) (hbytes:(n+m)*inf.bytes<=140737488355328) {nm:Nat} (hnm:n+m=nm) (hls:ls1++ls2=ls):∀H2:Hp,Je P ops o Γ H2 (some (D.rep (bX nm ls))) H2:=by
 intro H2 w0 A0 N Γ2 a w Q K hs hN hSt hK;obtain⟨E,hG⟩:=hSt;subst hnm hls hisz;obtain⟨_,h1,adx,hvx⟩:=bY hs hG (x:=x) (by rw[ho];simp[Op.operands,Call.operands]) hx;obtain⟨_,h2⟩:=bY hs hG (x:=y) (by rw[ho];simp[Op.operands,Call.operands]) hy;have h2':=h2;obtain⟨ay,capy,hvy,cy1,cy2,cy3,cy4⟩:=h2'
 cases ay with
 |none=>have:=(cy3 rfl).1;omega
 |some ad=>
 rw[hvx] at h1;have h2:(bX m ls2).P E.A (a.eval y) w:=h2;rw[hvy] at h2;obtain⟨news,hnd,hnc⟩:=FR h2 (by omega);have hcs:∃cs:List Value,a9 (ak.of E.A.c) ls1 cs w/\∀j v,cs[j]?=some v->w.cell? (adx.add j)=some v:=by
  by_cases hn:n=0
  .have:ls1=[]:=X5 (by rw[hl,hn,Zm]);subst this;exact⟨[],trivial,fun j v h=>by simp at h⟩
  .exact FR h1 (by omega)
 obtain⟨cs,hcd,hcc⟩:=hcs;have hcsn:cs.length=n*inf.size:=by rw[hcd.length,hl]
 have hnl:news.length=m*inf.size:=by rw[hnd.length,hl2]
 have hrun:=run_append_grow (P:=P) w t o.type u inf z ht hinf hz adx n n cs hcsn hcc ad m capy news hnl hnc (by omega) (by simp only[maxLen] at hlen;omega) (growslice_fits (by omega) hbytes);have harr:(cs++news++(Builtin.zeroCells z.cells (grownCap w (n+m) n u-(n+m))).toList).toArray=cs.toArray++news.toArray++Builtin.zeroCells z.cells (grownCap w (n+m) n u-(n+m)):=by
  apply Array.ext';simp
 rw[<-harr] at hrun;have hexec:(execOp a.eval o).run P w = .ok (.value (.slice (some ⟨w.heap.size,0,none⟩) (n+m) (grownCap w (n+m) n u)))
   (w.drew.alloc (.cells (cs++news++(Builtin.zeroCells z.cells (grownCap w (n+m) n u-(n+m))).toList).toArray u)):=by
  simp[execOp,ho,resolve,invoke,builtin,zk w _ _ ht ht2,hvx,hvy,hrun]
 generalize (Builtin.zeroCells z.cells (grownCap w (n+m) n u-(n+m))).toList=spare at hexec;have hb0:=ma w.drew (.cells (cs++news++spare).toArray u);have hb:Below w.heap.size w (w.drew.alloc (.cells (cs++news++spare).toArray u)):=⟨hb0.os,hb0.tape,hb0.output,hb0.size,hb0.block⟩;have hG':=hG.grow hb;refine gh hexec (hK _ _ ⟨_,hG'.put (fun d hd=>?_) hN⟩);cases hd;refine⟨trivial,some ⟨w.heap.size,0,none⟩,_,rfl,grownCap_ge w (n+m) n u,grownCap_le_maxLen w (n+m) n u hlen,fun h=>by simp at h,fun ad' had=>?_⟩;cases had;refine⟨fun _=>rfl,fun i l hi=>⟨.inr ⟨XP _,by rw[za6];exact Zf _⟩,?_⟩⟩;obtain⟨v,hv,hvd⟩:=(hcd.append hnd).get hi;refine⟨v,?_,ab.cU (ak.le.of fun k j hk=>.inl hk) (ab.fK (ju fun k j hk=>hb.block k (hG.bc k j hk)) hvd)⟩;have hc:=heap_alloc_new w.drew (.cells (cs++news++spare).toArray u);have hc:(w.drew.alloc (.cells (cs++news++spare).toArray u)).heap[w.heap.size]?=_:=hc;have hlt:=(XN.1 hv).1;unfold World.cell?;rw[hc];show(((cs++news++spare).toArray)[0+i]?)=_;rw[Yk,Zt,XV hlt];exact hv
end
def pq(N:Nat)(o:Oper):Bool:=o.guard.isNone&&(!cu o&&eA N o.dst)
def pe(N:Nat)(o:Oper):Bool:=o.guard.isNone&&(cu o&&eA N o.dst)
theorem XE{N:Nat}{o:Oper}(h:pq N o=true):o.guard=none/\cu o=false/\eA N o.dst=true:=by
 unfold pq at h;simp only[XQ,zai,Zi] at h;exact h
theorem Pw{N:Nat}{o:Oper}(h:pe N o=true):o.guard=none/\cu o=true/\eA N o.dst=true:=by
 unfold pe at h;simp only[XQ,zai] at h;exact h
section
variable {P:Program}{ops:Array Oper}{Q:Exit->Act->World->Prop}{w0:aJ}{A0:ak}{N:Nat}{Γ:aA}{H H':Hp}{o:Oper}{rest:List Oper}{X:List Nat}
theorem vJ{y:Code}{id:Nat}{l:List Oper}(h:Tl P l.toArray (Exit.then (y.wp P Q) Q) w0 A0 N Γ H l):Tc P Q w0 A0 N Γ H (.seq (.region id l.toArray false) y):=Dw (K2 h)
end
end Rc
