/- Parts of the proof, 10: the texts Mrg, WlQ, WkM, WkN, WkO, WlR, WlT, Coll, Fw1, Fw2, as far as they are used. -/
import Derived.Test.YtjeiacoegppoiaaGreatDoorSa09
set_option linter.unusedSimpArgs false
set_option linter.unusedVariables false
set_option maxRecDepth 10000
namespace Rc
open Go Go.RowKit
theorem zkM{p q:Rat}:zfg p q = -1↔p<q:=by unfold zfg;split <;> grind
theorem zkN{p q:Rat}:zfg p q=1↔q<p:=by unfold zfg;split <;> grind
section
variable {d:Dom}{s:Sc}{bits:Int}{j:Nat}{up:Bool}{p:Af}
theorem zj8(h1:ztW d s up p=true)(h2:zck s.lems j up (zpj d s bits up p)=true):zhj d s bits j up p=[⟨(j:Int),up,qOf (zpj d s bits up p),zAR d s up p⟩]:=by
 unfold zhj;rw[h1,h2];rfl
theorem zhw(h1:ztW d s up p=false):zhj d s bits j up p=[]:=by unfold zhj;rw[h1];rfl
theorem zhv(h2:zck s.lems j up (zpj d s bits up p)=false):zhj d s bits j up p=[]:=by unfold zhj;rw[h2,Bool.and_false];rfl
end
theorem zfO{l:List Lm}{j:Nat}{x:Rat}(h:(zak l (j:Int)).2=0\/x<lv l (zak l (j:Int)).2):zck l j true x=true:=by
 unfold zck;rw[if_pos rfl,Bool.or_eq_true];exact h.elim (fun h=>.inl (decide_eq_true h)) (fun h=>.inr (decide_eq_true h))
theorem zlo{l:List Lm}{j:Nat}{x:Rat}(h:¬(zak l (j:Int)).2=0)(h':¬x<lv l (zak l (j:Int)).2):zck l j true x=false:=by
 unfold zck;rw[if_pos rfl,decide_eq_false h,decide_eq_false h'];rfl
theorem zfP{l:List Lm}{j:Nat}{x:Rat}(h:(zak l (j:Int)).1=0\/lv l (zak l (j:Int)).1<x):zck l j false x=true:=by
 unfold zck;rw[if_neg (by decide),Bool.or_eq_true];exact h.elim (fun h=>.inl (decide_eq_true h)) (fun h=>.inr (decide_eq_true h))
theorem zlp{l:List Lm}{j:Nat}{x:Rat}(h:¬(zak l (j:Int)).1=0)(h':¬lv l (zak l (j:Int)).1<x):zck l j false x=false:=by
 unfold zck;rw[if_neg (by decide),decide_eq_false h,decide_eq_false h'];rfl
def mrg(c:Rat):List Tm->List Tm->List Tm
 |[],[]=>[]
 |x::a,[]=>(if x.2=0 then[] else[x])++mrg c a []
 |[],y::b=>(if y.2*c=0 then[] else[(y.1,y.2*c)])++mrg c [] b
 |x::a,y::b=>if x.1<y.1 then(if x.2=0 then[] else[x])++mrg c a (y::b)
   else if y.1<x.1 then(if y.2*c=0 then[] else[(y.1,y.2*c)])++mrg c (x::a) b
   else(if x.2+y.2*c=0 then[] else[(x.1,x.2+y.2*c)])++mrg c a b
termination_by a b=>a.length+b.length
theorem zlO(l:List Tm)(v:Nat)(c:Rat):nz l (v,c)=l++(if c=0 then[] else[(v,c)]):=by
 by_cases h:c=0
 .rw[zg7 h,if_pos h,zEK]
 .rw[zeS h,if_neg h]
section
variable {c:Rat}{a b:List Tm}{i j:Nat}{x y:Tm}{out:List Tm}
theorem zhI{l:List Tm}{i:Nat}(h:¬i<l.length):l.drop i=[]:=List.drop_of_length_le (by omega)
theorem mrg_l(hx:a[i]?=some x)(hj:¬j<b.length):out++mrg c (a.drop i) (b.drop j)=nz out (x.1,x.2)++mrg c (a.drop (i+1)) (b.drop j):=by
 rw[zbc hx,zhI hj,zlO,zEP];show _++mrg c (x::_) []=_;rw[mrg]
theorem mrg_r(hi:¬i<a.length)(hy:b[j]?=some y):out++mrg c (a.drop i) (b.drop j)=nz out (y.1,y.2*c)++mrg c (a.drop i) (b.drop (j+1)):=by
 rw[zbc hy,zhI hi,zlO,zEP,mrg]
theorem zBz(hx:a[i]?=some x)(hy:b[j]?=some y)(h:x.1<y.1):out++mrg c (a.drop i) (b.drop j)=nz out (x.1,x.2)++mrg c (a.drop (i+1)) (b.drop j):=by
 rw[zbc hx,zbc hy,zlO,zEP,mrg,if_pos h]
theorem zBA(hx:a[i]?=some x)(hy:b[j]?=some y)(h:¬x.1<y.1)(h':y.1<x.1):out++mrg c (a.drop i) (b.drop j)=nz out (y.1,y.2*c)++mrg c (a.drop i) (b.drop (j+1)):=by
 rw[zbc hx,zbc hy,zlO,zEP,mrg,if_neg h,if_pos h']
theorem zBB(hx:a[i]?=some x)(hy:b[j]?=some y)(h:¬x.1<y.1)(h':¬y.1<x.1):out++mrg c (a.drop i) (b.drop j)=nz out (x.1,x.2+y.2*c)++mrg c (a.drop (i+1)) (b.drop (j+1)):=by
 rw[zbc hx,zbc hy,zlO,zEP,mrg,if_neg h,if_neg h']
theorem zxZ(hi:¬i<a.length)(hj:¬j<b.length):out++mrg c (a.drop i) (b.drop j)=out:=by
 rw[zhI hi,zhI hj,mrg,zEK]
end
theorem zdX(c:Rat):∀(a b:List Tm) (t:Tm),t∈mrg c a b->(∃u∈a,u.1=t.1) \/ ∃u∈b,u.1=t.1
 |[],[],t,h=>by rw[mrg] at h;simp at h
 |x::a,[],t,h=>by
  rw[mrg] at h;rcases zEH.1 h with h|h
  .split at h
   .simp at h
   .rw[List.mem_singleton] at h;subst h;exact .inl ⟨t,by simp,rfl⟩
  .rcases zdX c a [] t h with⟨u,hu,e⟩|⟨u,hu,_⟩
   .exact .inl ⟨u,by simp[hu],e⟩
   .simp at hu
 |[],y::b,t,h=>by
  rw[mrg] at h;rcases zEH.1 h with h|h
  .split at h
   .simp at h
   .rw[List.mem_singleton] at h;subst h;exact .inr ⟨y,by simp,rfl⟩
  .rcases zdX c [] b t h with⟨u,hu,_⟩|⟨u,hu,e⟩
   .simp at hu
   .exact .inr ⟨u,by simp[hu],e⟩
 |x::a,y::b,t,h=>by
  rw[mrg] at h;split at h
  .rcases zEH.1 h with h|h
   .split at h
    .simp at h
    .rw[List.mem_singleton] at h;subst h;exact .inl ⟨t,by simp,rfl⟩
   .rcases zdX c a (y::b) t h with⟨u,hu,e⟩|h
    .exact .inl ⟨u,by simp[hu],e⟩
    .exact .inr h
  .split at h
   .rcases zEH.1 h with h|h
    .split at h
     .simp at h
     .rw[List.mem_singleton] at h;subst h;exact .inr ⟨y,by simp,rfl⟩
    .rcases zdX c (x::a) b t h with h|⟨u,hu,e⟩
     .exact .inl h
     .exact .inr ⟨u,by simp[hu],e⟩
   .rcases zEH.1 h with h|h
    .split at h
     .simp at h
     .rw[List.mem_singleton] at h;subst h;exact .inl ⟨x,by simp,rfl⟩
    .rcases zdX c a b t h with⟨u,hu,e⟩|⟨u,hu,e⟩
     .exact .inl ⟨u,by simp[hu],e⟩
     .exact .inr ⟨u,by simp[hu],e⟩
termination_by a b=>a.length+b.length
theorem ziK{v:Nat}{d:Rat}{l:List Tm}(h:CanT l)(hv:∀t∈l,v<t.1):CanT ((if d=0 then[] else[(v,d)])++l):=by
 split
 .exact h
 .rename_i hd;exact⟨hd,hv,h⟩
theorem zl6{v:Nat}{d:Rat}{l:List Tm}(hv:∀t∈l,v<t.1)(x:Nat):co ((if d=0 then[] else[(v,d)])++l) x=if v=x then d else co l x:=by
 split
 .rename_i hd;by_cases e:v=x
  .subst e;rw[if_pos rfl,hd];exact zc9 hv
  .rw[if_neg e];rfl
 .rfl
theorem zfD(c:Rat):∀(a b:List Tm),CanT a->CanT b->CanT (mrg c a b)/\∀v,co (mrg c a b) v=co a v+co b v*c
 |[],[],_,_=>by rw[mrg];exact⟨trivial,fun v=>by show(0:Rat)=0+0*c;grind⟩
 |(w,d)::a,[],ha,hb=>by
  obtain⟨h1,h2,h3⟩:=ha;obtain⟨i1,i2⟩:=zfD c a [] h3 trivial;have hv:∀t∈mrg c a [],w<t.1:=fun t ht=>by
   rcases zdX c a [] t ht with⟨u,hu,e⟩|⟨u,hu,_⟩
   .rw[<-e];exact h2 u hu
   .simp at hu
  rw[mrg];refine⟨ziK i1 hv,fun v=>?_⟩;rw[zl6 hv,i2];show _=(if w=v then d else co a v)+0*c;show(if w=v then d else co a v+0*c)=_;split <;> grind
 |[],(w,d)::b,ha,hb=>by
  obtain⟨h1,h2,h3⟩:=hb;obtain⟨i1,i2⟩:=zfD c [] b trivial h3;have hv:∀t∈mrg c [] b,w<t.1:=fun t ht=>by
   rcases zdX c [] b t ht with⟨u,hu,_⟩|⟨u,hu,e⟩
   .simp at hu
   .rw[<-e];exact h2 u hu
  rw[mrg];refine⟨ziK i1 hv,fun v=>?_⟩;rw[zl6 hv,i2];show(if w=v then d*c else 0+co b v*c)=0+(if w=v then d else co b v)*c;split <;> grind
 |(w,d)::a,(z,e)::b,ha,hb=>by
  obtain⟨h1,h2,h3⟩:=ha;obtain⟨g1,g2,g3⟩:=hb;have cva:∀v,co ((w,d)::a) v=if w=v then d else co a v:=fun _=>rfl;have cvb:∀v,co ((z,e)::b) v=if z=v then e else co b v:=fun _=>rfl;rw[mrg];by_cases hlt:w<z
  .rw[if_pos (show((w,d):Tm).1<((z,e):Tm).1 from hlt)];obtain⟨i1,i2⟩:=zfD c a ((z,e)::b) h3 ⟨g1,g2,g3⟩;have hv:∀t∈mrg c a ((z,e)::b),w<t.1:=fun t ht=>by
    rcases zdX c a _ t ht with⟨u,hu,e⟩|⟨u,hu,e⟩
    .rw[<-e];exact h2 u hu
    .rw[<-e];rcases zEQ.1 hu with rfl|hu
     .exact hlt
     .have:=g2 u hu;omega
   refine⟨ziK i1 hv,fun v=>?_⟩;rw[zl6 hv,i2,cva];split
   .rename_i e1;subst e1;have:co ((z,e)::b) w=0:=zc9 (fun t ht=>by
     rcases zEQ.1 ht with rfl|ht
     .exact hlt
     .have:=g2 t ht;omega)
    rw[this];grind
   .rfl
  .rw[if_neg (show ¬((w,d):Tm).1<((z,e):Tm).1 from hlt)];have hnl:¬w<z:=hlt;by_cases hgt:z<w
   .rw[if_pos (show((z,e):Tm).1<((w,d):Tm).1 from hgt)];obtain⟨i1,i2⟩:=zfD c ((w,d)::a) b ⟨h1,h2,h3⟩ g3;have hv:∀t∈mrg c ((w,d)::a) b,z<t.1:=fun t ht=>by
     rcases zdX c _ b t ht with⟨u,hu,e⟩|⟨u,hu,e⟩
     .rw[<-e];rcases zEQ.1 hu with rfl|hu
      .exact hgt
      .have:=h2 u hu;omega
     .rw[<-e];exact g2 u hu
    refine⟨ziK i1 hv,fun v=>?_⟩;rw[zl6 hv,i2,cvb];split
    .rename_i e1;subst e1;have:co ((w,d)::a) z=0:=zc9 (fun t ht=>by
      rcases zEQ.1 ht with rfl|ht
      .exact hgt
      .have:=h2 t ht;omega)
     rw[this];grind
    .rfl
   .rw[if_neg (show ¬((z,e):Tm).1<((w,d):Tm).1 from hgt)];have hng:¬z<w:=hgt;have hwz:w=z:=by omega
    subst hwz;obtain⟨i1,i2⟩:=zfD c a b h3 g3;have hv:∀t∈mrg c a b,w<t.1:=fun t ht=>by
     rcases zdX c a b t ht with⟨u,hu,e⟩|⟨u,hu,e⟩
     .rw[<-e];exact h2 u hu
     .rw[<-e];exact g2 u hu
    refine⟨ziK i1 hv,fun v=>?_⟩;rw[zl6 hv,i2,cva,cvb];split <;> rfl
termination_by a b=>a.length+b.length
theorem zqT{ts:List Tm}{c:Rat}(h:CanT ts):CanT (scT ts c):=by rw[zd4];exact zfz h
theorem zrD{a b:List Tm}{c:Rat}(ha:CanT a)(hb:CanT b):mrg c a b=zgE a (scT b c):=by
 obtain⟨h1,h2⟩:=zfD c a b ha hb;refine zjO h1 (zcp ha) (fun v=>?_);rw[h2,zfH ha (zqT hb),zd4,zjN hb]
theorem zxY{b:List Tm}{c:Rat}(hb:CanT b):mrg c [] b=scT b c:=by
 obtain⟨h1,h2⟩:=zfD c [] b trivial hb;refine zjO h1 (zqT hb) (fun v=>?_);rw[h2,zd4,zjN hb];show(0:Rat)+_=_;grind
end Rc
namespace Go.Proofs.YtjeiacoegppoiaaGreatDoor
open Go Go.RowKit Rc
theorem zf4(l:List Tm)(hl:l.length<=1000000)(k:Rat)(v:Nat)(c:Rat){B:Nat}[Br c B](hB:B<=400000000000):CtrO Tryz.prog 183 103 4 (El.all tmE l) (El.all tmE (nz l (v,c))) [V.agg [Leaf.own 0 0,Leaf.val (.bool (zaR k)),zaf (zaa (zav k)),zaf (zaa (zaC k))],V.one (Leaf.val (.int .i64 ((v:Int)))),V.agg (qL (c))] (fun n=>V.agg [Leaf.own 0 n,Leaf.val (.bool (zaR k)),zaf (zaa (zav k)),zaf (zaa (zaC k))]):=by
 refine CtrO.of_body Tryz.func183 rfl Tryz.ntmps183 (zEt rfl) (fun w0 A0=>?_);refine qc_ (zc 11 rfl (tc_ ziB rfl (zdm (qOf (c)) (c) (zaj _) (Br.use (by omega))) ?_));by_cases hc0:c≠0
 .refine tq_ rfl (neT rfl (zfy hc0)) (zl 3 rfl (dr_ 0 [(7,0),(9,1)] [0,1] (dz 1 rfl (kp_ [0] rfl (jld rfl) (dz 2 rfl (kc_ zkE rfl (zf2 (qOf (c)) (c) (zaj _) (Br.use (by omega))) (dz 1 rfl (ke_ rfl (fun _=>zae rfl zlh zfw zlk rfl (by decide) (by decide) rfl (by decide) rfl) (ki_ 0 rfl (dap (v,c) rfl rfl) ?_)))))))));refine dz 2 rfl (zad (za 7 rfl ?_));exact zk1 (fun _ _ h=>h) rfl (⟨_,_,rfl,rfl,.inl ⟨zj4,zEt rfl,rfl⟩⟩) rfl rfl (by rw[zeS hc0]) (hcl:=by first|rfl|exact El.all_cl _ _)
 .refine tq_ rfl (neF rfl (by rw[Classical.not_not.1 hc0];rfl)) (zl 11 rfl ?_);exact zk1 (fun _ _ h=>h) rfl (⟨_,_,rfl,rfl,.inl ⟨zj4,zEt rfl,rfl⟩⟩) rfl rfl (by rw[zg7 (Classical.not_not.1 hc0)]) (hcl:=by first|rfl|exact El.all_cl _ _)
set_option maxHeartbeats 2000000 in
theorem zm1(f g:Af)(c:Rat){B C K n:Nat}(hf:FL B n f)(hg:FL C n g)[Br c K](h1:B<=10000000000)(h2:C<=10000000000)(h3:K<=10000000000)(hn:n<=1000):Ctr Tryz.prog 115 [afV f,afV g,V.agg (qL (c))] (R.one (afV ⟨mrg c f.ts g.ts,f.c+g.c*c⟩)):=by
 refine bd_ Tryz.func115 Tryz.ntmps115 rfl (fun w0 A0=>?_);haveI:=hf.fm (by omega);haveI:=hf.cb;haveI:=hg.fm (by omega);haveI:=hg.cb;have hfl:=(hf.fm (by omega)).len;have hgl:=(hg.fm (by omega)).len;refine zc 9 rfl (dr_ 1 [(8,4),(9,4)] [4] (dz 5 rfl (kc_ zlZ rfl (zwj (qOf (g.c)) (g.c) (zaj _) (Br.use (by omega)) (qOf (c)) (c) (zaj _) (Br.use (by omega))) (kc_ zr9 rfl (zBd (qOf (f.c)) (f.c) (zaj _) (Br.use (by omega)) (qOf ((g.c)*(c))) ((g.c)*(c)) (zaj _) (Br.use (by omega))) (kq_ rfl (zey rfl zAm rfl zEg rfl) ?_)))));refine ki_ 4 rfl (zo8 (i:=4) rfl zAm rfl) (dz 1 rfl (zad (za 2 rfl (zcS 4 103 4 (ls':=[Leaf.own 5 0,Leaf.val (.bool (zaR ((f.c)+((g.c)*(c))))),zaf (zaa (zav ((f.c)+((g.c)*(c))))),zaf (zaa (zaC ((f.c)+((g.c)*(c)))))]) rfl rfl rfl ⟨.inr ⟨rfl,rfl⟩,.inl rfl,.inl rfl,.inl rfl,trivial⟩ (dr_ 0 [] [] (dz 6 rfl (zad (za 3 rfl ?_))))))));refine fr_ [0,1] rfl ?_;refine zbq (fun m Γ H=>∃(i j:Nat) (m_:Nat) (out:List Tm),(f.ts.length-i)+(g.ts.length-j)=m/\Γ=[(5,some (D.ptr 2 0)),(6,some (D.ptr 3 0)),(7,some (D.ptr 4 0)),(8,some (D.v (V.one (El.row tmE (f.ts.drop i))))),(9,some (D.v (V.one (El.row tmE (g.ts.drop j)))))]/\H=[none,none,hb_ 36 (qL c),hb_ 38 [El.row tmE ([]),Leaf.val (.bool false),zaf ([]),zaf ([])],hb_ 38 [Leaf.own 5 m_,Leaf.val (.bool (zaR ((f.c)+((g.c)*(c))))),zaf (zaa (zav ((f.c)+((g.c)*(c))))),zaf (zaa (zaC ((f.c)+((g.c)*(c)))))],hgr 103 4 tmE out m_]/\i<=f.ts.length/\j<=g.ts.length/\out.length<=i+j/\out++mrg c (f.ts.drop i) (g.ts.drop j)=mrg c f.ts g.ts) ⟨0,0,0,[],rfl,rfl,rfl,zEs _,zEs _,zEs _,rfl⟩ rfl ?_;rintro m Γ H ⟨i,j,m_,out,rfl,rfl,rfl,hi0,hj0,hol,hinv⟩;refine zc 4 rfl (tq_ rfl (jln rfl) ?_);by_cases hi:i<f.ts.length
 .refine tq_ rfl (gtT rfl (by rw[zEM];omega)) (zl 13 rfl ?_);by_cases hj:j<g.ts.length
  .obtain⟨x,hx⟩:∃x,f.ts[i]?=some x:=⟨_,zEm hi⟩;have hx0:(f.ts.drop i)[0]?=some x:=by rw[List.getElem?_drop];exact hx
   haveI hxb:=hf.bd x (zEn hx);refine dr_ 0 [] [] ?_;obtain⟨y,hy⟩:∃y,g.ts[j]?=some y:=⟨_,zEm hj⟩;have hy0:(g.ts.drop j)[0]?=some y:=by rw[List.getElem?_drop];exact hy
   haveI hyb:=hg.bd y (zEn hy);refine dz 1 rfl (kq_ rfl (jln rfl) (kq_ rfl (eqF rfl (by rw[zEM];omega)) (dz 2 rfl (kq_ rfl (jln rfl) (kq_ rfl (gtT rfl (by rw[zEM];omega)) (dz 2 rfl (kq_ rfl (jix 0 hx0 rfl) (kq_ rfl (jfr rfl) (kq_ rfl (jli rfl) ?_)))))))));refine dz 1 rfl (kq_ rfl (jix 0 hy0 rfl) (kq_ rfl (jfr rfl) (kq_ rfl (jli rfl) ?_)));by_cases hlt:x.1<y.1
   .refine kq_ rfl (ltT rfl) (dz 3 rfl (zad (za 3 rfl (dr_ 0 [(9,5),(10,4)] [5,4] (kp_ [5] rfl (zaJ rfl rfl rfl (by decide) zj4 (by decide) (zEt rfl) rfl) (dz 1 rfl (kq_ rfl (jix 0 hx0 rfl) (kq_ rfl (jfr rfl) (kq_ rfl (jli rfl) ?_)))))))));refine dz 1 rfl (kq_ rfl (jix 0 hx0 rfl) (kq_ rfl (jfr rfl) (kq_ rfl (jlr rfl) ?_)));refine ki_ 5 rfl (zfl (r:=5) (ys:=[V.agg [Leaf.own 5 m_,Leaf.val (.bool (zaR ((f.c)+((g.c)*(c))))),zaf (zaa (zav ((f.c)+((g.c)*(c))))),zaf (zaa (zaC ((f.c)+((g.c)*(c)))))],V.one (Leaf.val (.int .i64 ((x.1:Nat):Int))),V.agg (qL x.2)]) (V.agg [Leaf.own 5 (m_+1),Leaf.val (.bool (zaR ((f.c)+((g.c)*(c))))),zaf (zaa (zav ((f.c)+((g.c)*(c))))),zaf (zaa (zaC ((f.c)+((g.c)*(c)))))]) rfl zr5 rfl rfl (zf4 out (by omega) ((f.c)+((g.c)*(c))) x.1 x.2 (by omega)) (zhk _ _)) ?_;refine dz 1 rfl (zad (za 3 rfl (tq_ rfl (zbs tmE (f.ts.drop i) (1) rfl rfl rfl zlh zfw rfl (by rw[zEM];omega)) (eq_ (D.v (V.one (tmE.row (f.ts.drop (i+1))))) rfl (by rw[List.drop_drop]) (zl 4 rfl ?_)))));exact nx_ ⟨i+1,j,_,_,rfl,rfl,rfl,by omega,by omega,(by have h1:=zeE out (x.1,x.2);omega),by rw[<-hinv,zBz hx hy hlt]⟩ rfl
   .refine kq_ rfl (ltF rfl) (dz 3 rfl (zad (za 3 rfl (dr_ 0 [] [] (dz 1 rfl (kq_ rfl (jln rfl) (kq_ rfl (eqF rfl (by rw[zEM];omega)) (dz 2 rfl (kq_ rfl (jix 0 hy0 rfl) ?_)))))))));refine kq_ rfl (jfr rfl) (kq_ rfl (jli rfl) (dz 1 rfl (kq_ rfl (jix 0 hx0 rfl) (kq_ rfl (jfr rfl) (kq_ rfl (jli rfl) ?_)))));by_cases hgt:y.1<x.1
    .refine kq_ rfl (ltT rfl) (dz 2 rfl (zad (za 3 rfl (dr_ 0 [(11,5),(12,4)] [5,4] (kp_ [5] rfl (zaJ rfl rfl rfl (by decide) zj4 (by decide) (zEt rfl) rfl) (dz 1 rfl (kq_ rfl (jix 0 hy0 rfl) (kq_ rfl (jfr rfl) (kq_ rfl (jli rfl) ?_)))))))));refine dz 1 rfl (kq_ rfl (jix 0 hy0 rfl) (kq_ rfl (jfr rfl) (kq_ rfl (jlr rfl) (dz 1 rfl (kc_ zlZ rfl (zwj (qOf (y.2)) (y.2) (zaj _) (Br.use (by omega)) (qOf (c)) (c) (zaj _) (Br.use (by omega))) ?_)))));refine ki_ 5 rfl (zfl (r:=5) (ys:=[V.agg [Leaf.own 5 m_,Leaf.val (.bool (zaR ((f.c)+((g.c)*(c))))),zaf (zaa (zav ((f.c)+((g.c)*(c))))),zaf (zaa (zaC ((f.c)+((g.c)*(c)))))],V.one (Leaf.val (.int .i64 ((y.1:Nat):Int))),V.agg (qL ((y.2)*(c)))]) (V.agg [Leaf.own 5 (m_+1),Leaf.val (.bool (zaR ((f.c)+((g.c)*(c))))),zaf (zaa (zav ((f.c)+((g.c)*(c))))),zaf (zaa (zaC ((f.c)+((g.c)*(c)))))]) rfl zr5 rfl rfl (zf4 out (by omega) ((f.c)+((g.c)*(c))) y.1 ((y.2)*(c)) (by omega)) (zhk _ _)) ?_;refine dz 1 rfl (zad (za 3 rfl (tq_ rfl (zbs tmE (g.ts.drop j) (1) rfl rfl rfl zlh zfw rfl (by rw[zEM];omega)) (eq_ (D.v (V.one (tmE.row (g.ts.drop (j+1))))) rfl (by rw[List.drop_drop]) (zl 4 rfl ?_)))));exact nx_ ⟨i,j+1,_,_,rfl,rfl,rfl,by omega,by omega,(by have h1:=zeE out (y.1,y.2*c);omega),by rw[<-hinv,zBA hx hy hlt hgt]⟩ rfl
    .refine kq_ rfl (ltF rfl) (dz 2 rfl (zad (za 3 rfl (dr_ 0 [(16,5),(17,4)] [5,4] (kp_ [5] rfl (zaJ rfl rfl rfl (by decide) zj4 (by decide) (zEt rfl) rfl) (dz 1 rfl (kq_ rfl (jix 0 hx0 rfl) (kq_ rfl (jfr rfl) (kq_ rfl (jli rfl) ?_)))))))));refine dz 1 rfl (kq_ rfl (jix 0 hx0 rfl) (kq_ rfl (jfr rfl) (kq_ rfl (jlr rfl) (dz 1 rfl (kq_ rfl (jix 0 hy0 rfl) (kq_ rfl (jfr rfl) (kq_ rfl (jlr rfl) (dz 1 rfl (kc_ zlZ rfl (zwj (qOf (y.2)) (y.2) (zaj _) (Br.use (by omega)) (qOf (c)) (c) (zaj _) (Br.use (by omega))) ?_)))))))));refine kc_ zr9 rfl (zBd (qOf (x.2)) (x.2) (zaj _) (Br.use (by omega)) (qOf ((y.2)*(c))) ((y.2)*(c)) (zaj _) (Br.use (by omega))) ?_;refine ki_ 5 rfl (zfl (r:=5) (ys:=[V.agg [Leaf.own 5 m_,Leaf.val (.bool (zaR ((f.c)+((g.c)*(c))))),zaf (zaa (zav ((f.c)+((g.c)*(c))))),zaf (zaa (zaC ((f.c)+((g.c)*(c)))))],V.one (Leaf.val (.int .i64 ((x.1:Nat):Int))),V.agg (qL ((x.2)+((y.2)*(c))))]) (V.agg [Leaf.own 5 (m_+1),Leaf.val (.bool (zaR ((f.c)+((g.c)*(c))))),zaf (zaa (zav ((f.c)+((g.c)*(c))))),zaf (zaa (zaC ((f.c)+((g.c)*(c)))))]) rfl zr5 rfl rfl (zf4 out (by omega) ((f.c)+((g.c)*(c))) x.1 ((x.2)+((y.2)*(c))) (by omega)) (zhk _ _)) ?_;refine dz 1 rfl (zad (za 1 rfl (dr_ 0 [] [] (dz 1 rfl (kq_ rfl (zbs tmE (f.ts.drop i) (1) rfl rfl rfl zlh zfw rfl (by rw[zEM];omega)) (zi8 (D.v (V.one (tmE.row (f.ts.drop (i+1))))) rfl (by rw[List.drop_drop]) (dz 1 rfl (kq_ rfl (zbs tmE (g.ts.drop j) (1) rfl rfl rfl zlh zfw rfl (by rw[zEM];omega)) ?_))))))));refine zi8 (D.v (V.one (tmE.row (g.ts.drop (j+1))))) rfl (by rw[List.drop_drop]) (dz 2 rfl (zad (za 2 rfl ?_)));exact nx_ ⟨i+1,j+1,_,_,rfl,rfl,rfl,by omega,by omega,(by have h1:=zeE out (x.1,x.2+y.2*c);omega),by rw[<-hinv,zBB hx hy hlt hgt]⟩ rfl
  .obtain⟨x,hx⟩:∃x,f.ts[i]?=some x:=⟨_,zEm hi⟩;have hx0:(f.ts.drop i)[0]?=some x:=by rw[List.getElem?_drop];exact hx
   haveI hxb:=hf.bd x (zEn hx);refine dr_ 0 [] [] (dz 1 rfl (kq_ rfl (jln rfl) (kq_ rfl (eqT rfl (by rw[zEM];omega)) (dz 17 rfl (zad (za 3 rfl (dr_ 0 [(9,5),(10,4)] [5,4] (kp_ [5] rfl (zaJ rfl rfl rfl (by decide) zj4 (by decide) (zEt rfl) rfl) (dz 1 rfl ?_)))))))));refine kq_ rfl (jix 0 hx0 rfl) (kq_ rfl (jfr rfl) (kq_ rfl (jli rfl) (dz 1 rfl (kq_ rfl (jix 0 hx0 rfl) (kq_ rfl (jfr rfl) (kq_ rfl (jlr rfl) ?_))))));refine ki_ 5 rfl (zfl (r:=5) (ys:=[V.agg [Leaf.own 5 m_,Leaf.val (.bool (zaR ((f.c)+((g.c)*(c))))),zaf (zaa (zav ((f.c)+((g.c)*(c))))),zaf (zaa (zaC ((f.c)+((g.c)*(c)))))],V.one (Leaf.val (.int .i64 ((x.1:Nat):Int))),V.agg (qL x.2)]) (V.agg [Leaf.own 5 (m_+1),Leaf.val (.bool (zaR ((f.c)+((g.c)*(c))))),zaf (zaa (zav ((f.c)+((g.c)*(c))))),zaf (zaa (zaC ((f.c)+((g.c)*(c)))))]) rfl zr5 rfl rfl (zf4 out (by omega) ((f.c)+((g.c)*(c))) x.1 x.2 (by omega)) (zhk _ _)) ?_;refine dz 1 rfl (zad (za 3 rfl (tq_ rfl (zbs tmE (f.ts.drop i) (1) rfl rfl rfl zlh zfw rfl (by rw[zEM];omega)) (eq_ (D.v (V.one (tmE.row (f.ts.drop (i+1))))) rfl (by rw[List.drop_drop]) (zl 4 rfl ?_)))));exact nx_ ⟨i+1,j,_,_,rfl,rfl,rfl,by omega,by omega,(by have h1:=zeE out (x.1,x.2);omega),by rw[<-hinv,mrg_l hx hj]⟩ rfl
 .refine tq_ rfl (gtF rfl (by rw[zEM];omega)) (zl 2 rfl (tq_ rfl (jln rfl) ?_));by_cases hj:j<g.ts.length
  .refine tq_ rfl (gtT rfl (by rw[zEM];omega)) (zl 9 rfl ?_);obtain⟨y,hy⟩:∃y,g.ts[j]?=some y:=⟨_,zEm hj⟩;have hy0:(g.ts.drop j)[0]?=some y:=by rw[List.getElem?_drop];exact hy
   haveI hyb:=hg.bd y (zEn hy);refine dr_ 0 [] [] (dz 1 rfl (kq_ rfl (jln rfl) (kq_ rfl (eqF rfl (by rw[zEM];omega)) (dz 2 rfl (kq_ rfl (jln rfl) (kq_ rfl (gtF rfl (by rw[zEM];omega)) (dz 13 rfl (zad (za 3 rfl ?_)))))))));refine dr_ 0 [] [] (dz 1 rfl (kq_ rfl (jln rfl) (kq_ rfl (eqT rfl (by rw[zEM];omega)) (dz 12 rfl (zad (za 3 rfl (dr_ 0 [(11,5),(12,4)] [5,4] (kp_ [5] rfl (zaJ rfl rfl rfl (by decide) zj4 (by decide) (zEt rfl) rfl) (dz 1 rfl ?_)))))))));refine kq_ rfl (jix 0 hy0 rfl) (kq_ rfl (jfr rfl) (kq_ rfl (jli rfl) (dz 1 rfl (kq_ rfl (jix 0 hy0 rfl) (kq_ rfl (jfr rfl) (kq_ rfl (jlr rfl) (dz 1 rfl (kc_ zlZ rfl (zwj (qOf (y.2)) (y.2) (zaj _) (Br.use (by omega)) (qOf (c)) (c) (zaj _) (Br.use (by omega))) ?_))))))));refine ki_ 5 rfl (zfl (r:=5) (ys:=[V.agg [Leaf.own 5 m_,Leaf.val (.bool (zaR ((f.c)+((g.c)*(c))))),zaf (zaa (zav ((f.c)+((g.c)*(c))))),zaf (zaa (zaC ((f.c)+((g.c)*(c)))))],V.one (Leaf.val (.int .i64 ((y.1:Nat):Int))),V.agg (qL ((y.2)*(c)))]) (V.agg [Leaf.own 5 (m_+1),Leaf.val (.bool (zaR ((f.c)+((g.c)*(c))))),zaf (zaa (zav ((f.c)+((g.c)*(c))))),zaf (zaa (zaC ((f.c)+((g.c)*(c)))))]) rfl zr5 rfl rfl (zf4 out (by omega) ((f.c)+((g.c)*(c))) y.1 ((y.2)*(c)) (by omega)) (zhk _ _)) ?_;refine dz 1 rfl (zad (za 3 rfl (tq_ rfl (zbs tmE (g.ts.drop j) (1) rfl rfl rfl zlh zfw rfl (by rw[zEM];omega)) (eq_ (D.v (V.one (tmE.row (g.ts.drop (j+1))))) rfl (by rw[List.drop_drop]) (zl 4 rfl ?_)))));exact nx_ ⟨i,j+1,_,_,rfl,rfl,rfl,by omega,by omega,(by have h1:=zeE out (y.1,y.2*c);omega),by rw[<-hinv,mrg_r hi hy]⟩ rfl
  .refine tq_ rfl (gtF rfl (by rw[zEM];omega)) (zl 15 rfl (zcR 3 (ls':=[El.row tmE out,Leaf.val (.bool (zaR ((f.c)+((g.c)*(c))))),zaf (zaa (zav ((f.c)+((g.c)*(c))))),zaf (zaa (zaC ((f.c)+((g.c)*(c)))))]) rfl rfl (RowAt.ofE tmE out rfl (by decide)) ⟨.inr ⟨rfl,rfl⟩,.inl rfl,.inl rfl,.inl rfl,trivial⟩ ?_));exact r1_ hq_ rfl (by rw[<-hinv,zxZ hi hj])
theorem zxk:(0,bruijn.map fun n:Nat=>Value.int .u8 (n:Int))∈tab:=by simp[tab,bruijn]
theorem zxl{k:Nat}(h:k<32):(bruijn.map fun n:Nat=>Value.int .u8 (n:Int))[2^k*125613361%4294967296/134217728*1]?=some (.int .u8 (k:Int)):=by
 rw[Nat.mul_one,List.getElem?_map,zp7 h];rfl
theorem zzQ{x y z:Nat}(hx:x<4294967296)(hy:y<4294967296)(h:x &&& y=z)(hz:z<4294967296):IntKind.u32.wrap ((BitVec.ofInt IntKind.u32.bits (x:Int) &&& BitVec.ofInt IntKind.u32.bits (y:Int)).toNat)=(z:Int):=by
 rw[BitVec.toNat_and,zbN _ x (by simp only[IntKind.bits];omega),zbN _ y (by simp only[IntKind.bits];omega),h];exact zbU hz
theorem zqu(x:Nat)(h0:x≠0)(hx:x<4294967296):Ctr Tryz.prog 258 [V.one (Leaf.val (.int .u32 x))] (R.one (V.one (Leaf.val (.int .i64 ((tz x:Nat):Int))))):=by
 refine bd_ Tryz.func258 Tryz.ntmps258 rfl (fun w0 A0=>?_);refine zc 9 rfl (tq_ rfl (eqF rfl) (zl 6 rfl ?_));have ht:=zqv h0 hx;have hp:2^tz x<=2^31:=zEz (by decide) (by omega);have hi:=zsx ht;refine zc 3 rfl (tq_ rfl (zhg rfl rfl (r:=((4294967296-x:Nat):Int)) (zxe (by omega))) (tq_ rfl (zmt rfl rfl rfl (r:=((2^tz x:Nat):Int)) (zzQ hx (by omega) (zzR h0 hx) (by omega))) (tq_ rfl (zfv rfl rfl rfl (r:=((2^tz x*125613361%4294967296:Nat):Int)) (zxe (by omega))) ?_)));refine tq_ rfl (zbt rfl rfl rfl (by decide) (r:=((2^tz x*125613361%4294967296/134217728:Nat):Int)) (zaZ _ 27 rfl)) (tq_ rfl (zk4 (j:=2^tz x*125613361%4294967296/134217728) rfl rfl un264 ty5 hi) (tq_ rfl (zmp rfl rfl ty5 zxk (zxl ht) rfl) (tq_ rfl (jci (tz x) rfl) (zl 3 rfl ?_))));exact r1_ hq_ rfl rfl
theorem ztX(la:List Nat)(k:Nat)(hsa:Small la)(hk:k<=1048576)(hla:la.length<=9000000000000):Ctr Tryz.prog 241 [V.one (zaf la),V.one (Leaf.val (.int .i64 (k:Int)))] (R.tup [V.one (zaf (zaa (val la*2^k))),V.one (Leaf.val (.int .i64 0))]):=by
 refine bd_ Tryz.func241 Tryz.ntmps241 rfl (fun w0 A0=>?_);refine zc 10 rfl (tq_ rfl (ltF rfl) (zl 2 rfl (tq_ rfl (gtF rfl) (zl 9 rfl (tc_ zcN rfl (zaH la hsa) (zl 5 rfl ?_))))));have hl0:=zam hsa;have vl:=zac (val la);have sl:=zab (val la);have hn0:(zaa (val la)).length=0->val la=0:=fun h=>za3.1 (zEy h);generalize zaa (val la)=l at *;refine zc 2 rfl (tq_ rfl (jln rfl) ?_);by_cases hz:l.length=0
 .refine tq_ rfl (eqT rfl) (zl 9 rfl ?_);exact r2_ hq_ rfl (by rw[hn0 hz,Nat.zero_mul,zai] <;> rfl)
 .refine tq_ rfl (eqF rfl) (zl 6 rfl (dr_ 0 [] [] (dz 1 rfl (kq_ rfl (zdO rfl rfl rfl (by decide) (r:=((k/32:Nat):Int)) (w64 (zfN k 32) (by omega) (by omega))) ?_))));obtain⟨ti2,hi2,hz2,hs2,hb2⟩:=zcL;refine ke_ rfl (fun _=>znB (n:=k/32) (ls:=((List.replicate (k/32) 0).map zbh)) rfl rfl rfl zce hi2 hz2 hs2 (by decide) rfl (by decide) rfl (by rw[hb2];omega) (by simp only[maxLen];omega) (zdD _) (by first|rfl|exact zeu _) _) (dz 2 rfl (kq_ rfl (zcz rfl rfl rfl (by decide) (r:=((k%32:Nat):Int)) (zei k 32)) ?_));refine kc_ zzj rfl (zlR l (k%32) sl (by omega) (by omega)) ?_;obtain⟨ti3,hi3,hz3,hs3,hb3⟩:=zcL;refine ke_ rfl (fun _=>zdf rfl rfl rfl (by simp) (by simp) (by decide) (by rw[zcg];omega) zce zce hi3 hz3 hs3 rfl (by rw[zcg];simp only[maxLen];omega) (by rw[hb3,zcg];omega) (nm:=(List.replicate (k/32) 0++zg5 (l.length+1) (val l*2^(k%32))).length) (by rw[zEC,List.length_replicate]) (ls:=((List.replicate (k/32) 0++zg5 (l.length+1) (val l*2^(k%32))).map zbh)) (by rw[List.map_append]) _) ?_;refine kc_ zcN rfl (zaH (List.replicate (k/32) 0++zg5 (l.length+1) (val l*2^(k%32))) ((Small.replicate _).append (zd2 _ _))) (dz 2 rfl (zad (za 1 rfl ?_)));exact r2_ hq_ rfl (by rw[zxr sl,vl])
theorem zBq(l:List Nat)(k:Nat)(hs:Small l)(hk:k<=1048576)(hl:l.length<=9000000000000)(m:Nat)(hm:val l=m):Ctr Tryz.prog 241 [V.one (zaf l),V.one (Leaf.val (.int .i64 (k:Int)))] (R.tup [V.one (zaf (zaa (m*2^k))),V.one (Leaf.val (.int .i64 0))]):=by
 subst hm;exact ztX l k hs hk hl
theorem zBp(l:List Nat)(k:Nat)(hs:Small l)(hk:k<=1048576)(hl:l.length<=10000000000000)(m:Nat)(hm:val l=m):Ctr Tryz.prog 252 [V.one (zaf l),V.one (Leaf.val (.int .i64 (k:Int)))] (R.tup [V.one (zaf (zaa (m/2^k))),V.one (Leaf.val (.int .i64 0))]):=by
 subst hm;exact zn0 l k hs hk hl
theorem zpa(l:List Nat)(hs:Small l)(hn:val l≠0)(hl:l.length<=10000000000000):Ctr Tryz.prog 254 [V.one (zaf l)] (R.one (V.one (Leaf.val (.int .i64 ((tz (val l):Nat):Int))))):=by
 refine bd_ Tryz.func254 Tryz.ntmps254 rfl (fun w0 A0=>?_);refine zc 12 rfl (zbq (fun m Γ H=>∃(k:Nat),l.length-k=m/\Γ=[(0,some (D.v (V.one (zaf l)))),(3,some (D.int (k:Int)))]/\H=[]/\val (l.take k)=0) ⟨0,rfl,rfl,rfl,rfl⟩ rfl ?_);rintro m Γ H ⟨k,rfl,rfl,rfl,hz⟩;have hk:=ztD hn hz;have hlk:=hs.get k hk;have hlt:=zqv (x:=l[k]);have hta:=ztE hs hk hz;refine zc 5 rfl (tq_ rfl (ji1 rfl (zbb hk)) (tq_ rfl (jli rfl) ?_));by_cases h0:l[k]'hk=0
 .refine tq_ rfl (eqT rfl) (zl 8 rfl (tq_ rfl (jad (k+1) rfl) (zl 3 rfl ?_)));exact nx_ ⟨k+1,rfl,rfl,rfl,zpb hk hz h0⟩ rfl
 .refine tq_ rfl (eqF rfl) (zl 11 rfl (tq_ rfl (zfv rfl rfl rfl (r:=((32*k:Nat):Int)) (w64 (by omega) (by omega) (by omega))) (zl 2 rfl (tq_ rfl (ji1 rfl (zbb hk)) (tq_ rfl (jli rfl) (tc_ fn258 rfl (zqu (l[k]'hk) h0 hlk) ?_))))));refine tq_ rfl (zbg rfl rfl rfl (r:=((32*k+tz (l[k]'hk):Nat):Int)) (w64 (by omega) (by have:=hlt h0 hlk;omega) (by have:=hlt h0 hlk;omega))) (zl 3 rfl ?_);exact r1_ hq_ rfl (by rw[hta h0])
theorem zec(u:Nat)(k:Int)(hk:k<=100000000000000)(hl:(zaa (u*2^k.toNat)).length<=1000000000000):Ctr Tryz.prog 212 [V.one (zaf (zaa u)),V.one (Leaf.val (.int .i64 k))] (R.one (V.one (zaf (zaa (u*2^k.toNat))))):=by
 refine bd_ Tryz.func212 Tryz.ntmps212 rfl (fun w0 A0=>?_);refine zc 7 rfl (zAp (fun m Γ H=>∃(c:Nat) (r:Int),r.toNat=m/\Γ=[(0,some (D.v (V.one (zaf (zaa (u*2^c)))))),(1,some (D.int r))]/\H=[]/\r.toNat+c=k.toNat/\r<=100000000000000) ⟨0,k,rfl,rfl,rfl,by omega,hk⟩ ⟨by rw[Nat.pow_zero,Nat.mul_one];rfl,rfl,trivial⟩ ?_);rintro m Γ H ⟨c,r,rfl,rfl,rfl,hrc,hr⟩;refine zc 4 rfl ?_;by_cases hr0:0<r
 .refine tq_ rfl (gtT rfl) (zl 7 rfl ?_);obtain⟨p,hp⟩:∃p:Nat,(p:Int)=min r 1048576:=⟨(min r 1048576).toNat,by omega⟩;have hm1:u*2^c<=u*2^k.toNat:=zEU _ (zEz (by decide) (by omega));have hm2:=zaz hm1;refine zc 2 rfl (tq_ rfl (zxa rfl rfl rfl (r:=(p:Int)) (by split <;> omega)) (zl 7 rfl (tc_ fn241 rfl (zBq (zaa (u*2^c)) p (zab _) (by omega) (by omega) (u*2^c) (zac _)) (zl 9 rfl (tq_ rfl (zaO rfl rfl rfl (r:=r-p) (w64 (by omega) (by omega) (by omega))) (zl 3 rfl ?_))))));exact znF (m':=(r-p).toNat) (by omega) ⟨c+p,r-p,rfl,rfl,rfl,by omega,by omega⟩ ⟨by rw[zEG,<-Nat.mul_assoc];rfl,rfl,trivial⟩
 .refine tq_ rfl (gtF rfl) (zl 14 rfl ?_);exact r1_ hq_ rfl (by rw[show c=k.toNat from by omega])
theorem zsh(u:Nat)(k:Int)(hk:k<=100000000000000)(hl:(zaa (u)).length<=1000000000000):Ctr Tryz.prog 255 [V.one (zaf (zaa u)),V.one (Leaf.val (.int .i64 k))] (R.one (V.one (zaf (zaa (u/2^k.toNat))))):=by
 refine bd_ Tryz.func255 Tryz.ntmps255 rfl (fun w0 A0=>?_);refine zc 7 rfl (zAp (fun m Γ H=>∃(c:Nat) (r:Int),r.toNat=m/\Γ=[(0,some (D.v (V.one (zaf (zaa (u/2^c)))))),(1,some (D.int r))]/\H=[]/\r.toNat+c=k.toNat/\r<=100000000000000) ⟨0,k,rfl,rfl,rfl,by omega,hk⟩ ⟨by rw[Nat.pow_zero,Nat.div_one];rfl,rfl,trivial⟩ ?_);rintro m Γ H ⟨c,r,rfl,rfl,rfl,hrc,hr⟩;refine zc 4 rfl ?_;by_cases hr0:0<r
 .refine tq_ rfl (gtT rfl) (zl 7 rfl ?_);obtain⟨p,hp⟩:∃p:Nat,(p:Int)=min r 1048576:=⟨(min r 1048576).toNat,by omega⟩;have hm2:=zaz (Nat.div_le_self u (2^c));refine zc 2 rfl (tq_ rfl (zxa rfl rfl rfl (r:=(p:Int)) (by split <;> omega)) (zl 7 rfl (tc_ zCI rfl (zBp (zaa (u/2^c)) p (zab _) (by omega) (by omega) (u/2^c) (zac _)) (zl 9 rfl (tq_ rfl (zaO rfl rfl rfl (r:=r-p) (w64 (by omega) (by omega) (by omega))) (zl 3 rfl ?_))))));exact znF (m':=(r-p).toNat) (by omega) ⟨c+p,r-p,rfl,rfl,rfl,by omega,by omega⟩ ⟨by rw[zEG,<-Nat.div_div_eq_div_mul];rfl,rfl,trivial⟩
 .refine tq_ rfl (gtF rfl) (zl 14 rfl ?_);exact r1_ hq_ rfl (by rw[show c=k.toNat from by omega])
theorem zlH(l:List Nat)(k:Nat)(hs:Small l)(hk:k<=1048576)(hl:l.length<=9000000000000)(m:Nat)(hm:val l=m):Ctr Tryz.prog 215 [V.one (zaf l),V.one (Leaf.val (.int .i64 (k:Int)))] (R.tup [V.one (zaf (zaa (m*2^k))),V.one (Leaf.val (.int .i64 0))]):=by
 refine bd_ Tryz.func215 Tryz.ntmps215 rfl (fun w0 A0=>?_);refine zc 10 rfl (tq_ rfl (ltF rfl) (zl 2 rfl (tq_ rfl (gtF rfl) (zl 10 rfl (tc_ zuF rfl (zn3 l k hs (by omega) hl m hm) (zl 4 rfl ?_))))));exact r2_ hq_ rfl rfl
theorem zq7(a:List Nat)(k:Nat)(hsa:Small a)(hk:k<=1048576)(hla:a.length<=9000000000000):Ctr Tryz.prog 259 [V.one (zaf a),V.one (Leaf.val (.int .i64 (k:Int)))] (R.one (V.one (zaf (zaa (val a/2^k))))):=by
 refine bd_ Tryz.func259 Tryz.ntmps259 rfl (fun w0 A0=>?_);refine zc 7 rfl (zfi (u:=182) (sz:=1) rfl rfl rfl rfl rfl (zl 6 rfl (tq_ rfl (zdO rfl rfl rfl (by decide) (r:=((k/32:Nat):Int)) (w64 (zfN k 32) (by omega) (by omega))) (zl 4 rfl ?_))));refine zbq (fun m Γ H=>∃(i:Nat) (out:List Nat),a.length-i=m/\Γ=[(0,some (D.v (V.one (zaf a)))),(1,some (D.int (k:Int))),(5,some (D.own 0 out.length)),(6,some (D.int (i:Int)))]/\H=[some ⟨182,out.map zbh,some 1,none⟩]/\k/32+out.length=i/\(i<=a.length\/out=[])/\Small out/\val out=val (a.drop (k/32))/2^(k%32)%4294967296^out.length) ⟨k/32,[],rfl,rfl,rfl,rfl,.inr rfl,Small.nil,by simp[Nat.mod_one]⟩ rfl ?_;rintro m Γ H ⟨i,out,rfl,rfl,rfl,hol,hil,hos,heq⟩;refine zc 5 rfl (tq_ rfl (jln rfl) ?_);by_cases hi:i<a.length
 .refine tq_ rfl (ltT rfl) (zl 8 rfl ?_);have hai:=hsa.get i hi;have haj:=hsa.getD (i+1);refine dr_ 0 [] [] (dz 2 rfl (kq_ rfl (ji1 rfl (zbb (by omega))) (kq_ rfl (jli rfl) (kq_ rfl (jc6 (a[i]'hi) rfl) (dz 2 rfl (kq_ rfl (jad (i+1) rfl) (kc_ zhn rfl (zbP a (i+1)) (kq_ rfl (jc6 (a.getD (i+1) 0) rfl) (kq_ rfl (zeG rfl rfl rfl (by decide) (r:=((a.getD (i+1) 0*2^32:Nat):Int)) (zka _ 32 rfl (by omega))) ?_)))))))));refine kq_ rfl (zhq rfl rfl rfl (r:=((a[i]'hi+a.getD (i+1) 0*2^32:Nat):Int)) (zru 32 (Nat.mul_mod_left _ _) (by omega) (by omega))) (dz 1 rfl (zad (za 5 rfl (tq_ rfl (zcz rfl rfl rfl (by decide) (r:=((k%32:Nat):Int)) (zei k 32)) ?_))));refine tq_ rfl (zbt rfl rfl rfl (by omega) (r:=(((a[i]'hi+a.getD (i+1) 0*2^32)/2^(k%32):Nat):Int)) (zaZ _ (k%32) (zd7 (by omega)))) (tq_ rfl (jc3 (((a[i]'hi+a.getD (i+1) 0*2^32)/2^(k%32))%4294967296) rfl) (te_ rfl (zae rfl zdS zaw zd1 rfl (by decide) (by decide) rfl (by decide) rfl) ?_));obtain⟨ti3,hi3,hz3,hs3,hb3⟩:=zcL;refine zbR rfl rfl rfl rfl rfl rfl rfl rfl rfl (by simp) rfl (by decide) zdS zdS hi3 hz3 hs3 rfl (by simp only[maxLen];omega) (by rw[hb3];omega) (nm:=(out++[((a[i]'hi+a.getD (i+1) 0*2^32)/2^(k%32))%4294967296]).length) (by simp) (ls:=((out++[((a[i]'hi+a.getD (i+1) 0*2^32)/2^(k%32))%4294967296]).map zbh)) (by rw[List.map_append];rfl) ?_;refine zl 6 rfl (tq_ rfl (jad (i+1) rfl) (zl 2 rfl ?_));exact nx_ ⟨i+1,_,rfl,rfl,rfl,by simp;omega,.inl (by omega),zcl hos (Nat.mod_lt _ (by decide)),zt7 hsa hi hol heq⟩ rfl
 .refine tq_ rfl (ltF rfl) (zl 11 rfl (zaN 36 (out) rfl rfl rfl rfl rfl (tc_ zeY rfl (za6 out hos (by rcases hil with h|h;omega;rw[h];simp)) (zl 3 rfl ?_))));exact r1_ hq_ rfl (by rw[zt6 hsa (by omega) heq])
theorem zrp(l:List Nat)(k:Nat)(hs:Small l)(hk:k<=1048576)(hl:l.length<=9000000000000)(m:Nat)(hm:val l=m):Ctr Tryz.prog 256 [V.one (zaf l),V.one (Leaf.val (.int .i64 (k:Int)))] (R.tup [V.one (zaf (zaa (m/2^k))),V.one (Leaf.val (.int .i64 0))]):=by
 refine bd_ Tryz.func256 Tryz.ntmps256 rfl (fun w0 A0=>?_);refine zc 10 rfl (tq_ rfl (ltF rfl) (zl 2 rfl (tq_ rfl (gtF rfl) (zl 10 rfl (tc_ fn259 rfl (zq7 l k hs hk hl) (zl 4 rfl ?_))))));exact r2_ hq_ rfl (by rw[hm])
theorem zxd(n:Nat)(h:n≠0)(hl:(zaa n).length<=10000000000000):Ctr Tryz.prog 254 [V.one (zaf (zaa n))] (R.one (V.one (Leaf.val (.int .i64 ((tz n:Nat):Int))))):=by
 have h1:=zpa (zaa n) (zab _) (by rw[zac];exact h) hl
 rwa [zac] at h1
theorem zuh(l:List Nat)(k:Int)(h0:0<=k)(hk:k<=1048576)(hs:Small l)(hl:l.length<=9000000000000)(m:Nat)(hm:val l=m):Ctr Tryz.prog 215 [V.one (zaf l),V.one (Leaf.val (.int .i64 k))] (R.tup [V.one (zaf (zaa (m*2^k.toNat))),V.one (Leaf.val (.int .i64 0))]):=by
 obtain⟨n,rfl⟩:=Int.eq_ofNat_of_zero_le h0;exact zlH l n hs (by omega) hl m hm
theorem zkh(a:List Nat)(hsa:Small a)(hla:a.length<=10000000000000)(m:Nat)(hm:val a=m):Ctr Tryz.prog 235 [V.one (zaf a)] (R.one (V.one (Leaf.val (.int .i64 ((bl m:Nat):Int))))):=by
 subst hm;exact ze6 a hsa hla
theorem qnum(x:Qr)(r:Rat)(hr:x.q=r)(hfx:Fit 1000000000000 x):Ctr Tryz.prog 237 [qV x] (R.one (zV (zOf r.num))):=by
 refine bd_ Tryz.func237 Tryz.ntmps237 rfl (fun w0 A0=>?_);haveI ir:Br r 1000000000000:=Br.fitq hr hfx;refine zc 9 rfl (tc_ zkE rfl (zf2 x (r) hr (hfx.mono (by omega))) (zl 14 rfl ?_));exact r1_ hq_ rfl rfl
theorem qden(x:Qr)(r:Rat)(hr:x.q=r)(hfx:Fit 1000000000000 x):Ctr Tryz.prog 238 [qV x] (R.one (V.one (zaf (zaa r.den)))):=by
 refine bd_ Tryz.func238 Tryz.ntmps238 rfl (fun w0 A0=>?_);haveI ir:Br r 1000000000000:=Br.fitq hr hfx;refine zc 9 rfl (tc_ zkE rfl (zf2 x (r) hr (hfx.mono (by omega))) (tc_ zji rfl (zfr (qOf (r)) (Br.use (by omega))) (tc_ zkC rfl (zin (dl (qOf (r)).d) (zcQ (qOf (r)).hd) (zfu (Br.use (r:=(r)) (zEq _)).d (by omega)) (dn (val (qOf (r)).d)) (zfp _)) (zl 3 rfl ?_))));exact r1_ hq_ rfl (congrArg (fun n=>R.one (V.one (zaf (zaa n)))) (zwM r))
theorem rqden(x:Qr)(r:Rat)(hr:x.q=r)(hfx:Fit 1000000000000 x):Ctr Tryz.prog 242 [qV x] (R.one (V.one (zaf (zaa r.den)))):=by
 refine bd_ Tryz.func242 Tryz.ntmps242 rfl (fun w0 A0=>?_);haveI ir:Br r 1000000000000:=Br.fitq hr hfx;refine zc 9 rfl (tc_ zmz rfl (zb6 x (r) hr (hfx.mono (by omega))) (zl 1 rfl (tc_ zjj rfl (zAX (zaa (zaC r)) (zab _) (Br.use (r:=r) (by omega)).d) (zl 3 rfl ?_))));exact r1_ hq_ rfl (congrArg (fun n=>R.one (V.one (zaf (zaa n)))) (zwM r))
theorem zgS(s:Bool)(l:List Nat)(e:Int)(hs:Small l)(hl:l.length<=100000000000)(he1:-1000000000000000<=e)(he2:e<=1000000000000000)(n:Nat)(hn:val l=n):Ctr Tryz.prog 240 [V.one (Leaf.val (.bool s)),V.one (zaf l),V.one (Leaf.val (.int .i64 e))] (R.tup [dV (nrm s n e),V.one (Leaf.val (.bool (nok n e)))]):=by
 refine bd_ Tryz.func240 Tryz.ntmps240 rfl (fun w0 A0=>?_);haveI i0:Bn n 100000000000:=by subst hn;exact Bn.val hs hl
 have hb:=zcb (Bn.use (n:=n) (zEq _));have ht:=zh0 (Bn.use (n:=n) (zEq _));refine zc 9 rfl (tc_ zkC rfl (zin l hs (zEw hl (by omega)) (n) hn) (zl 7 rfl (tq_ rfl (jln rfl) ?_)));by_cases hn0:n=0
 .refine tq_ rfl (eqT rfl (by rw[hn0,zai];rfl)) (zl 10 rfl ?_);exact r2_ hq_ rfl (by rw[hn0,zkq,zog,zc8] <;> rfl)
 .refine tq_ rfl (eqF rfl (by have:=zaB.2 hn0;omega)) (zl 8 rfl (tc_ fn254 rfl (zxd n hn0 (Bn.use (by omega))) (zl 8 rfl (tq_ rfl (zbg rfl rfl rfl (r:=e+(tz n:Int)) (w64 rfl (by omega) (by omega))) (zl 6 rfl ?_)))));by_cases h1:e+(tz n:Int) < -1048576
  .refine tq_ rfl (ltT rfl) (zl 14 rfl ?_);exact r2_ hq_ rfl (by rw[zmZ hn0 (.inl h1),zkr hn0 (.inl h1),zc8] <;> rfl)
  .refine tq_ rfl (ltF rfl) (zl 2 rfl ?_);by_cases h2:1048576<e+(tz n:Int)
   .refine tq_ rfl (gtT rfl) (zl 11 rfl ?_);exact r2_ hq_ rfl (by rw[zmZ hn0 (.inr h2),zkr hn0 (.inr h2),zc8] <;> rfl)
   .refine tq_ rfl (gtF rfl) (zl 11 rfl (tc_ fn255 rfl (zsh n (tz n:Int) (by omega) (Bn.use (by omega))) (zl 6 rfl ?_)));exact r2_ hq_ rfl (by rw[zwp hn0 (by omega) (by omega),zoh hn0 (by omega) (by omega)] <;> rfl)
theorem zDD(s:Bool)(l:List Nat)(e:Int)(hs:Small l)(hl:l.length<=100000000000)(he1:-1000000000000000<=e)(he2:e<=1000000000000000)(n:Nat)(hn:val l=n):Ctr Tryz.prog 244 [V.one (Leaf.val (.bool s)),V.one (zaf l),V.one (Leaf.val (.int .i64 e))] (R.tup [dV (nrm s n e),V.one (Leaf.val (.bool (nok n e)))]):=by
 refine bd_ Tryz.func244 Tryz.ntmps244 rfl (fun w0 A0=>?_);haveI i0:Bn n 100000000000:=by subst hn;exact Bn.val hs hl
 have hb:=zcb (Bn.use (n:=n) (zEq _));have ht:=zh0 (Bn.use (n:=n) (zEq _));refine zc 9 rfl (tc_ zeY rfl (zmT l hs (zEw hl (by omega)) (n) hn) (zl 7 rfl (tq_ rfl (jln rfl) ?_)));by_cases hn0:n=0
 .refine tq_ rfl (eqT rfl (by rw[hn0,zai];rfl)) (zl 10 rfl ?_);exact r2_ hq_ rfl (by rw[hn0,zkq,zog,zc8] <;> rfl)
 .refine tq_ rfl (eqF rfl (by have:=zaB.2 hn0;omega)) (zl 7 rfl ?_);refine zbq (fun m Γ H=>∃(x:Nat) (f:Int),x=m/\Γ=[(0,some (D.bool s)),(1,some (D.v (V.one (zaf (zaa x))))),(2,some (D.int f)),(6,some (D.ptr 0 0))]/\H=[some ⟨198,[Leaf.val (.bool false),nilL,Leaf.val (.int .i64 0)],none,none⟩]/\x≠0/\(zaa x).length<=100000000000/\f+bl x=e+bl n/\nrm s x f=nrm s n e/\nok x f=nok n e) ⟨n,e,rfl,rfl,rfl,hn0,Bn.use (zEq _),rfl,rfl,rfl⟩ rfl ?_;rintro m Γ H ⟨x,f,rfl,rfl,rfl,hx0,hxl,hf,hnr,hok⟩;have hxb:=zcb hxl;have hxp:=zaB.2 hx0;refine zc 4 rfl (tq_ rfl (ji1 rfl (zrY hx0)) (tq_ rfl (jli rfl) (tq_ rfl (zmt rfl rfl rfl (r:=((x%4294967296%2:Nat):Int)) (zk0 (Nat.mod_lt _ (by decide)))) ?_)));by_cases h2:x%2=0
  .refine tq_ rfl (eqT rfl) (zl 9 rfl (tc_ fn256 rfl (zrp (zaa x) 1 (zab _) (by decide) (by omega) x (zac _)) (zl 8 rfl (tq_ rfl (zbg rfl rfl rfl (r:=f+1) (w64 (by omega) (by omega) (by omega))) (zl 3 rfl ?_)))));exact nx_ ⟨x/2^1,f+1,rfl,rfl,rfl,by omega,zEw (zaz (Nat.div_le_self _ _)) hxl,by have:=zsS (x:=x) (by omega);rw[Nat.pow_one];omega,(zof hx0 h2).1.trans hnr,(zof (s:=s) hx0 h2).2.trans hok⟩ rfl
  .refine tq_ rfl (eqF rfl) (zl 12 rfl ?_);by_cases h3:f < -1048576
   .refine tq_ rfl (ltT rfl) (zl 14 rfl ?_);exact r2_ hq_ rfl (by have h:=zik (s:=s) (n:=x) (by omega) (.inl h3);rw[<-hnr,<-hok,h.1,h.2,zc8] <;> rfl)
   .refine tq_ rfl (ltF rfl) (zl 2 rfl ?_);by_cases h4:1048576<f
    .refine tq_ rfl (gtT rfl) (zl 11 rfl ?_);exact r2_ hq_ rfl (by have h:=zik (s:=s) (n:=x) (by omega) (.inr h4);rw[<-hnr,<-hok,h.1,h.2,zc8] <;> rfl)
    .refine tq_ rfl (gtF rfl) (zl 16 rfl ?_);exact r2_ hq_ rfl (by have h:=zpy (s:=s) (n:=x) (e:=f) (by omega) (by omega) (by omega);rw[<-hnr,<-hok,h.1,h.2] <;> rfl)
theorem drat(d:Dy)(hd:Dfit 1000000000 d):Ctr Tryz.prog 156 [dV d] (R.one (qV (qOf (dq d)))):=by
 refine bd_ Tryz.func156 Tryz.ntmps156 rfl (fun w0 A0=>?_);haveI id:Bd d 1000000000:=⟨hd⟩;have hlo:=hd.lo;have hhi:=hd.hi;refine zc 11 rfl ?_;by_cases h1:0<=d.exp
 .refine tq_ rfl (geT rfl) (zl 4 rfl ?_);haveI i1:Bn (d.mag*2^d.exp.toNat) (1000000000+32769):=Bn.shift 32769 inferInstance (by omega);refine dr_ 0 [(9,1)] [1] (dz 6 rfl (kc_ zpQ rfl (zec d.mag d.exp (by omega) (Bn.use (by omega))) (dz 1 rfl (kc_ zkE rfl (zf2 (Qr.mk d.neg (zaa (d.mag*2^d.exp.toNat)) [] (zab _) Small.nil) (rq d.neg (d.mag*2^d.exp.toNat) (0)) (zpu (zac _) rfl) (Fit.mk (Bn.use (by omega)) (zEs _))) (dz 1 rfl (zad (za 1 rfl ?_)))))));exact r1_ hq_ rfl (by unfold dq;rw[if_pos h1] <;> rfl)
 .refine tq_ rfl (geF rfl) (zl 6 rfl ?_);haveI i2:Bn (1*2^(-d.exp).toNat) (1+32769):=Bn.shift 32769 ⟨by rw[zdo];exact zEq _⟩ (by omega);refine dr_ 0 [(11,1)] [1] (dz 4 rfl (kc_ znd rfl (zfC 1 (by decide)) (dz 2 rfl (kq_ rfl (zhg rfl rfl (r:=-d.exp) (w64 (by omega) (by omega) (by omega))) (kc_ zpQ rfl (zec 1 (-d.exp) (by omega) (Bn.use (by omega))) (dz 1 rfl ?_))))));refine kc_ zkE rfl (zf2 (Qr.mk d.neg (zaa (d.mag)) (zaa (1*2^(-d.exp).toNat)) (zab _) (zab _)) (rq d.neg (d.mag) (1*2^(-d.exp).toNat)) (zpu (zac _) (zac _)) (Fit.mk (Bn.use (by omega)) (Bn.use (by omega)))) (dz 1 rfl (zad (za 1 rfl ?_)));exact r1_ hq_ rfl (by unfold dq;rw[if_neg h1,Nat.one_mul] <;> rfl)
theorem zA8(d:Dy)(hd:Dfit 1000000000 d):Ctr Tryz.prog 160 [dV d] (R.one (qV (qOf (dq d)))):=by
 refine bd_ Tryz.func160 Tryz.ntmps160 rfl (fun w0 A0=>?_);haveI id:Bd d 1000000000:=⟨hd⟩;have hlo:=hd.lo;have hhi:=hd.hi;refine zc 11 rfl ?_;by_cases h0:d.exp<0
 .refine tq_ rfl (ltT rfl) (zl 4 rfl ?_);haveI i2:Bn (1*2^(-d.exp).toNat) (1+32769):=Bn.shift 32769 ⟨by rw[zdo];exact zEq _⟩ (by omega);refine zc 1 rfl (te_ rfl (zae rfl zce zaw zd1 rfl (by decide) (by decide) rfl (by decide) rfl) (zl 2 rfl (tq_ rfl (zhg rfl rfl (r:=-d.exp) (w64 (by omega) (by omega) (by omega))) (tc_ zr2 rfl (zuh [1] (-d.exp) (by omega) (by omega) (Small.cons (by decide) Small.nil) (by simp) 1 rfl) (zl 15 rfl ?_)))));refine tc_ zmz rfl (zb6 (Qr.mk d.neg (zaa (d.mag)) (zaa (1*2^(-d.exp).toNat)) (zab _) (zab _)) (rq d.neg (d.mag) (1*2^(-d.exp).toNat)) (zpu (zac _) (zac _)) (Fit.mk (Bn.use (by omega)) (Bn.use (by omega)))) (zl 3 rfl ?_);have h1:¬0<=d.exp:=by omega
  exact r1_ hq_ rfl (by unfold dq;rw[if_neg h1,Nat.one_mul] <;> rfl)
 .refine tq_ rfl (ltF rfl) (zl 6 rfl ?_);haveI i1:Bn (d.mag*2^d.exp.toNat) (1000000000+32769):=Bn.shift 32769 inferInstance (by omega);refine zc 5 rfl (tc_ zr2 rfl (zuh (zaa d.mag) d.exp (by omega) (by omega) (zab _) (Bn.use (by omega)) d.mag (zac _)) (zl 13 rfl (tc_ zmz rfl (zb6 (Qr.mk d.neg (zaa (d.mag*2^d.exp.toNat)) [] (zab _) Small.nil) (rq d.neg (d.mag*2^d.exp.toNat) (0)) (zpu (zac _) rfl) (Fit.mk (Bn.use (by omega)) (zEs _))) (zl 3 rfl ?_))));have h1:0<=d.exp:=by omega
  exact r1_ hq_ rfl (by unfold dq;rw[if_pos h1] <;> rfl)
theorem dsize(a b:Nat)(ha0:a≠0)(hb0:b≠0)(ha:(zaa a).length<=26000)(hb:(zaa b).length<=26000):Ctr Tryz.prog 239 [V.one (zaf (zaa a)),V.one (zaf (zaa b))] (R.tup [V.one (Leaf.val (.int .i64 (lg a b))),V.one (Leaf.val (.bool true))]):=by
 refine bd_ Tryz.func239 Tryz.ntmps239 rfl (fun w0 A0=>?_);haveI ia:Bn a 26000:=⟨ha⟩;haveI ib:Bn b 26000:=⟨hb⟩;have hla:=zcb ha;have hlb:=zcb hb;have hlg:=zga ha hb;have hlo:=zut a b;refine zc 9 rfl (tc_ zuK rfl (zoX (zaa (a)) (zab _) (Bn.use (by omega)) (a) (zac _)) (zl 1 rfl (tc_ zuK rfl (zoX (zaa (b)) (zab _) (Bn.use (by omega)) (b) (zac _)) (tq_ rfl (zaO rfl rfl rfl (r:=(bl a:Int)-bl b) (w64 (by omega) (by omega) (by omega))) (zl 7 rfl (tq_ rfl (gtF rfl) (zl 2 rfl (tq_ rfl (ltF rfl) (zl 18 rfl ?_)))))))));by_cases h1:0<=(bl a:Int)-bl b
 .refine tq_ rfl (geT rfl) (zl 3 rfl ?_);haveI i1:Bn (b*2^((bl a:Int)-bl b).toNat) (26000+27000):=Bn.shift 27000 ib (by omega);refine zc 3 rfl (tc_ zpQ rfl (zec b ((bl a:Int)-bl b) (by omega) (Bn.use (by omega))) (zl 8 rfl (tc_ zkD rfl (znj (zaa (a)) (zab _) (zaa (b*2^((bl a:Int)-bl b).toNat)) (zab _) (a) (zac _) (b*2^((bl a:Int)-bl b).toNat) (zac _)) ?_)));by_cases h2:a<b*2^((bl a:Int)-bl b).toNat
  .refine tq_ rfl (ltT rfl (by rw[zda h2];decide)) (zl 5 rfl (tq_ rfl (zaO rfl rfl rfl (r:=(bl a:Int)-bl b-1) (w64 (by omega) (by omega) (by omega))) (zl 7 rfl (tq_ rfl (geT rfl) (zl 2 rfl (tq_ rfl (ltT rfl) (zl 5 rfl ?_)))))));exact r2_ hq_ rfl (by unfold lg;rw[if_pos h1,if_pos h2] <;> rfl)
  .refine tq_ rfl (ltF rfl (by unfold zgz;rw[if_neg h2];split <;> decide)) (zl 9 rfl (tq_ rfl (geT rfl) (zl 2 rfl (tq_ rfl (ltT rfl) (zl 5 rfl ?_)))));exact r2_ hq_ rfl (by unfold lg;rw[if_pos h1,if_neg h2] <;> rfl)
 .refine tq_ rfl (geF rfl) (zl 3 rfl ?_);haveI i2:Bn (a*2^(-((bl a:Int)-bl b)).toNat) (26000+27000):=Bn.shift 27000 ia (by omega);refine zc 3 rfl (tq_ rfl (zhg rfl rfl (r:=-((bl a:Int)-bl b)) (w64 (by omega) (by omega) (by omega))) (tc_ zpQ rfl (zec a (-((bl a:Int)-bl b)) (by omega) (Bn.use (by omega))) (zl 8 rfl ?_)));refine tc_ zkD rfl (znj (zaa (a*2^(-((bl a:Int)-bl b)).toNat)) (zab _) (zaa (b)) (zab _) (a*2^(-((bl a:Int)-bl b)).toNat) (zac _) (b) (zac _)) ?_;by_cases h2:a*2^(-((bl a:Int)-bl b)).toNat<b
  .refine tq_ rfl (ltT rfl (by rw[zda h2];decide)) (zl 5 rfl (tq_ rfl (zaO rfl rfl rfl (r:=(bl a:Int)-bl b-1) (w64 (by omega) (by omega) (by omega))) (zl 7 rfl (tq_ rfl (geT rfl) (zl 2 rfl (tq_ rfl (ltT rfl) (zl 5 rfl ?_)))))));exact r2_ hq_ rfl (by unfold lg;rw[if_neg h1,if_pos h2] <;> rfl)
  .refine tq_ rfl (ltF rfl (by unfold zgz;rw[if_neg h2];split <;> decide)) (zl 9 rfl (tq_ rfl (geT rfl) (zl 2 rfl (tq_ rfl (ltT rfl) (zl 5 rfl ?_)))));exact r2_ hq_ rfl (by unfold lg;rw[if_neg h1,if_neg h2] <;> rfl)
theorem zAW(a b:Nat)(ha0:a≠0)(hb0:b≠0)(ha:(zaa a).length<=26000)(hb:(zaa b).length<=26000)(p:Int)(hp1:1<=p)(hp2:p<=4096)(up:Bool):Ctr Tryz.prog 243 [V.one (zaf (zaa a)),V.one (zaf (zaa b)),V.one (Leaf.val (.int .i64 p)),V.one (Leaf.val (.bool up))] (R.tup [V.one (zaf (zaa (rndQ a b (lg a b-p+1) up))),V.one (Leaf.val (.int .i64 (lg a b-p+1)))]):=by
 refine bd_ Tryz.func243 Tryz.ntmps243 rfl (fun w0 A0=>?_);haveI ia:Bn a 26000:=⟨ha⟩;haveI ib:Bn b 26000:=⟨hb⟩;have hla:=zcb ha;have hlb:=zcb hb;have hlg:=zga ha hb;have hlo:=zut a b;refine zc 9 rfl (tc_ znb rfl (zkh (zaa (a)) (zab _) (Bn.use (by omega)) (a) (zac _)) (zl 1 rfl (tc_ znb rfl (zkh (zaa (b)) (zab _) (Bn.use (by omega)) (b) (zac _)) (tq_ rfl (zaO rfl rfl rfl (r:=(bl a:Int)-bl b) (w64 (by omega) (by omega) (by omega))) (zl 1 rfl ?_)))));refine tq_ rfl (zaO rfl rfl rfl (r:=(bl a:Int)-bl b-p) (w64 (by omega) (by omega) (by omega))) (zl 4 rfl ?_);refine zbq (fun m Γ H=>∃(E:Int),(lg a b-p+1-E).toNat=m/\Γ=[(0,some (D.v (V.one (zaf (zaa a))))),(1,some (D.v (V.one (zaf (zaa b))))),(2,some (D.int p)),(3,some (D.bool up)),(10,some (D.int E))]/\H=[]/\E<=lg a b-p+1/\lg a b-p<=E) ⟨(bl a:Int)-bl b-p,rfl,rfl,rfl,by omega,by omega⟩ rfl ?_;rintro m Γ H ⟨E,rfl,rfl,rfl,hE1,hE2⟩;refine zc 13 rfl ?_;by_cases h1:0<E
 .refine tq_ rfl (gtT rfl) (zl 3 rfl ?_);haveI i1:Bn (b*2^E.toNat) (26000+27000):=Bn.shift 27000 ib (by omega);refine zc 3 rfl (tc_ zr2 rfl (zuh (zaa b) E (by omega) (by omega) (zab _) (Bn.use (by omega)) b (zac _)) (zl 7 rfl ?_));have hd0:b*2^E.toNat≠0:=by have h:=zlt hb0 E;rwa [zcq (Int.le_of_lt h1)] at h
  have hq:(bl (a/(b*2^E.toNat)):Int)=lg a b-E+1:=by have h:=znp ha0 hb0 (e:=E) (by omega);rwa [zc3 (Int.le_of_lt h1),zcq (Int.le_of_lt h1)] at h
  refine zc 3 rfl (tc_ zr4 rfl (zeO (zaa (a)) (zaa (b*2^E.toNat)) (zab _) (zab _) (Bn.use (by omega)) (Bn.use (by omega)) (a) (b*2^E.toNat) (zac _) (zac _) hd0) (zl 13 rfl (tc_ znb rfl (zkh (zaa (a/(b*2^E.toNat))) (zab _) (Bn.use (by omega)) (a/(b*2^E.toNat)) (zac _)) (zl 1 rfl ?_))));by_cases hE:E<lg a b-p+1
  .refine tq_ rfl (gtT rfl) (zl 6 rfl (tq_ rfl (zbg rfl rfl rfl (r:=E+1) (w64 (by omega) (by omega) (by omega))) (zl 6 rfl ?_)));exact nx_ ⟨E+1,rfl,rfl,rfl,by omega,by omega⟩ rfl
  .refine tq_ rfl (gtF rfl) (zl 7 rfl ?_);have he:lg a b-p+1=E:=by omega
   refine zc 3 rfl ?_;refine zdT rfl (fun hup=>?_) (fun hup=>?_)
   .refine zl 17 rfl ?_;exact r2_ hq_ rfl (by subst hup;rw[he,zkf,zc3 (Int.le_of_lt h1),zcq (Int.le_of_lt h1)] <;> rfl)
   .refine zl 1 rfl (tq_ rfl (jln rfl) ?_);by_cases hr0:a%(b*2^E.toNat)≠0
    .refine tq_ rfl (gtT rfl (by have:=zaB.2 hr0;omega)) (zl 6 rfl (te_ rfl (zae rfl zce zaw zd1 rfl (by decide) (by decide) rfl (by decide) rfl) (tc_ zpS rfl (zjy (zaa (a/(b*2^E.toNat))) [1] (zab _) (Small.cons (by decide) Small.nil) (Bn.use (by omega)) (by simp) _ 1 (zac _) rfl) (zl 11 rfl ?_))));exact r2_ hq_ rfl (by subst hup;rw[he,zke (by rw[zc3 (Int.le_of_lt h1),zcq (Int.le_of_lt h1)];exact hr0),zc3 (Int.le_of_lt h1),zcq (Int.le_of_lt h1)] <;> rfl)
    .refine tq_ rfl (gtF rfl (by rw[Classical.not_not.1 hr0,zai];decide)) (zl 14 rfl ?_);exact r2_ hq_ rfl (by subst hup;rw[he,zkg (by rw[zc3 (Int.le_of_lt h1),zcq (Int.le_of_lt h1)];exact hr0),zc3 (Int.le_of_lt h1),zcq (Int.le_of_lt h1)] <;> rfl)
 .refine tq_ rfl (gtF rfl) (zl 3 rfl ?_);haveI i1:Bn (a*2^(-E).toNat) (26000+27000):=Bn.shift 27000 ia (by omega);refine zc 3 rfl (tq_ rfl (zhg rfl rfl (r:=-E) (w64 (by omega) (by omega) (by omega))) (tc_ zr2 rfl (zuh (zaa a) (-E) (by omega) (by omega) (zab _) (Bn.use (by omega)) a (zac _)) (zl 7 rfl ?_)));have hd0:b≠0:=by have h:=zlt hb0 E;rwa [zh6 (Int.not_lt.1 h1)] at h
  have hq:(bl ((a*2^(-E).toNat)/b):Int)=lg a b-E+1:=by have h:=znp ha0 hb0 (e:=E) (by omega);rwa [zjr (Int.not_lt.1 h1),zh6 (Int.not_lt.1 h1)] at h
  refine zc 3 rfl (tc_ zr4 rfl (zeO (zaa (a*2^(-E).toNat)) (zaa (b)) (zab _) (zab _) (Bn.use (by omega)) (Bn.use (by omega)) (a*2^(-E).toNat) (b) (zac _) (zac _) hd0) (zl 13 rfl (tc_ znb rfl (zkh (zaa ((a*2^(-E).toNat)/b)) (zab _) (Bn.use (by omega)) ((a*2^(-E).toNat)/b) (zac _)) (zl 1 rfl ?_))));by_cases hE:E<lg a b-p+1
  .refine tq_ rfl (gtT rfl) (zl 6 rfl (tq_ rfl (zbg rfl rfl rfl (r:=E+1) (w64 (by omega) (by omega) (by omega))) (zl 6 rfl ?_)));exact nx_ ⟨E+1,rfl,rfl,rfl,by omega,by omega⟩ rfl
  .refine tq_ rfl (gtF rfl) (zl 7 rfl ?_);have he:lg a b-p+1=E:=by omega
   refine zc 3 rfl ?_;refine zdT rfl (fun hup=>?_) (fun hup=>?_)
   .refine zl 17 rfl ?_;exact r2_ hq_ rfl (by subst hup;rw[he,zkf,zjr (Int.not_lt.1 h1),zh6 (Int.not_lt.1 h1)] <;> rfl)
   .refine zl 1 rfl (tq_ rfl (jln rfl) ?_);by_cases hr0:(a*2^(-E).toNat)%b≠0
    .refine tq_ rfl (gtT rfl (by have:=zaB.2 hr0;omega)) (zl 6 rfl (te_ rfl (zae rfl zce zaw zd1 rfl (by decide) (by decide) rfl (by decide) rfl) (tc_ zpS rfl (zjy (zaa ((a*2^(-E).toNat)/b)) [1] (zab _) (Small.cons (by decide) Small.nil) (Bn.use (by omega)) (by simp) _ 1 (zac _) rfl) (zl 11 rfl ?_))));exact r2_ hq_ rfl (by subst hup;rw[he,zke (by rw[zjr (Int.not_lt.1 h1),zh6 (Int.not_lt.1 h1)];exact hr0),zjr (Int.not_lt.1 h1),zh6 (Int.not_lt.1 h1)] <;> rfl)
    .refine tq_ rfl (gtF rfl (by rw[Classical.not_not.1 hr0,zai];decide)) (zl 14 rfl ?_);exact r2_ hq_ rfl (by subst hup;rw[he,zkg (by rw[zjr (Int.not_lt.1 h1),zh6 (Int.not_lt.1 h1)];exact hr0),zjr (Int.not_lt.1 h1),zh6 (Int.not_lt.1 h1)] <;> rfl)
theorem zwK(x:Qr)(r:Rat)(hr:x.q=r)(hfx:Fit 25000 x)(p:Int)(away:Bool):Ctr Tryz.prog 211 [qV x,V.one (Leaf.val (.int .i64 p)),V.one (Leaf.val (.bool away))] (R.tup [dV (rndD r p away),V.one (Leaf.val (.int .i64 (zpp p)))]):=by
 refine bd_ Tryz.func211 Tryz.ntmps211 rfl (fun w0 A0=>?_);haveI ir:Br r 25000:=Br.fitq hr hfx;have hnl:(zaa (Int.natAbs r.num)).length<=25000:=Bz.use (z:=r.num) (zEq _);have hdl:(zaa r.den).length<=25001:=Bn.use (n:=r.den) (zEq _);haveI ina:Bn (Int.natAbs r.num) 25000:=⟨hnl⟩;have hlg:=zga hnl hdl;refine zc 11 rfl ?_;by_cases h1:p<1
 .refine tq_ rfl (ltT rfl) (zl 14 rfl ?_);exact r2_ hq_ rfl (by unfold rndD zpp;rw[if_pos (by omega),if_pos (by omega),zc8] <;> rfl)
 .refine tq_ rfl (ltF rfl) (zl 2 rfl ?_);by_cases h2:4096<p
  .refine tq_ rfl (gtT rfl) (zl 11 rfl ?_);exact r2_ hq_ rfl (by unfold rndD zpp;rw[if_pos (by omega),if_pos (by omega),zc8] <;> rfl)
  .refine tq_ rfl (gtF rfl) (zl 7 rfl (dr_ 1 [(4,2),(5,2)] [2] (dz 1 rfl (kc_ fn237 rfl (qnum x (r) hr (hfx.mono (by omega))) (dz 1 rfl (kc_ fn238 rfl (qden x (r) hr (hfx.mono (by omega))) (dz 3 rfl (zad (za 5 rfl ?_)))))))));refine tc_ zuP rfl (ztC (zOf (r.num)) (r.num) (zja _) (Bz.use (by omega))) ?_;by_cases h3:r.num=0
   .refine tq_ rfl (eqT rfl (by rw[h3];rfl)) (zl 10 rfl ?_);exact r2_ hq_ rfl (by unfold rndD;rw[if_pos (by omega),zep h1 h2,zc8] <;> rfl)
   .refine tq_ rfl (eqF rfl (zv4 h3)) (zl 10 rfl (tc_ fn239 rfl (dsize (Int.natAbs (r.num)) r.den (by omega) r.den_nz (by omega) (by omega)) (zl 21 rfl (tq_ rfl (zaO rfl rfl rfl (r:=lg (Int.natAbs (r.num)) r.den-p) (w64 (by omega) (by omega) (by omega))) (tq_ rfl (zbg rfl rfl rfl (r:=lg (Int.natAbs (r.num)) r.den-p+1) (w64 (by omega) (by omega) (by omega))) ?_)))));refine zl 16 rfl ?_;by_cases hE:0<=lg (Int.natAbs (r.num)) r.den-p+1
    .refine tq_ rfl (geT rfl) (zl 3 rfl ?_);haveI i1:Bn (r.den*2^(lg (Int.natAbs (r.num)) r.den-p+1).toNat) (25001+27000):=Bn.shift 27000 inferInstance (by omega);refine zc 3 rfl (tc_ zpQ rfl (zec r.den (lg (Int.natAbs (r.num)) r.den-p+1) (by omega) (Bn.use (by omega))) (zl 4 rfl ?_));have hd0:r.den*2^(lg (Int.natAbs (r.num)) r.den-p+1).toNat≠0:=by have h:=zlt r.den_nz (lg (Int.natAbs (r.num)) r.den-p+1);rwa [zcq hE] at h
     refine zc 3 rfl (tc_ zpO rfl (zhJ (zaa (Int.natAbs (r.num))) (zaa (r.den*2^(lg (Int.natAbs (r.num)) r.den-p+1).toNat)) (zab _) (zab _) (Bn.use (by omega)) (Bn.use (by omega)) (Int.natAbs (r.num)) (r.den*2^(lg (Int.natAbs (r.num)) r.den-p+1).toNat) (zac _) (zac _) hd0) (zl 14 rfl ?_));refine zdT rfl (fun hup=>?_) (fun hup=>?_)
     .refine zl 15 rfl (tc_ zpM rfl (zgS (decide (r.num<0)) (zaa ((Int.natAbs (r.num))/(r.den*2^(lg (Int.natAbs (r.num)) r.den-p+1).toNat))) (lg (Int.natAbs (r.num)) r.den-p+1) (zab _) (Bn.use (by omega)) (by omega) (by omega) ((Int.natAbs (r.num))/(r.den*2^(lg (Int.natAbs (r.num)) r.den-p+1).toNat)) (zac _)) (zl 15 rfl ?_));exact r2_ hq_ rfl (by subst hup;rw[zeN h1 h2 h3,zep h1 h2];unfold rnd;rw[zkf,zc3 hE,zcq hE] <;> rfl)
     .refine zl 1 rfl (tq_ rfl (jln rfl) ?_);by_cases hr0:(Int.natAbs (r.num))%(r.den*2^(lg (Int.natAbs (r.num)) r.den-p+1).toNat)≠0
      .refine tq_ rfl (gtT rfl (by have:=zaB.2 hr0;omega)) (zl 6 rfl (tc_ znd rfl (zfC 1 (by decide)) ?_));refine tc_ zzk rfl (zzS (zaa ((Int.natAbs (r.num))/(r.den*2^(lg (Int.natAbs (r.num)) r.den-p+1).toNat))) (zab _) (Bn.use (by omega)) (zaa (1)) (zab _) (Bn.use (by omega)) ((Int.natAbs (r.num))/(r.den*2^(lg (Int.natAbs (r.num)) r.den-p+1).toNat)) (zac _) (1) (zac _)) (zl 9 rfl ?_);refine tc_ zpM rfl (zgS (decide (r.num<0)) (zaa (((Int.natAbs (r.num))/(r.den*2^(lg (Int.natAbs (r.num)) r.den-p+1).toNat))+(1))) (lg (Int.natAbs (r.num)) r.den-p+1) (zab _) (Bn.use (by omega)) (by omega) (by omega) (((Int.natAbs (r.num))/(r.den*2^(lg (Int.natAbs (r.num)) r.den-p+1).toNat))+(1)) (zac _)) (zl 15 rfl ?_);exact r2_ hq_ rfl (by subst hup;rw[zeN h1 h2 h3,zep h1 h2];unfold rnd;rw[zke (by rw[zc3 hE,zcq hE];exact hr0),zc3 hE,zcq hE] <;> rfl)
      .refine tq_ rfl (gtF rfl (by rw[Classical.not_not.1 hr0,zai];decide)) (zl 12 rfl ?_);refine tc_ zpM rfl (zgS (decide (r.num<0)) (zaa ((Int.natAbs (r.num))/(r.den*2^(lg (Int.natAbs (r.num)) r.den-p+1).toNat))) (lg (Int.natAbs (r.num)) r.den-p+1) (zab _) (Bn.use (by omega)) (by omega) (by omega) ((Int.natAbs (r.num))/(r.den*2^(lg (Int.natAbs (r.num)) r.den-p+1).toNat)) (zac _)) (zl 15 rfl ?_);exact r2_ hq_ rfl (by subst hup;rw[zeN h1 h2 h3,zep h1 h2];unfold rnd;rw[zkg (by rw[zc3 hE,zcq hE];exact hr0),zc3 hE,zcq hE] <;> rfl)
    .refine tq_ rfl (geF rfl) (zl 3 rfl ?_);haveI i1:Bn (Int.natAbs (r.num)*2^(-(lg (Int.natAbs (r.num)) r.den-p+1)).toNat) (25000+27000):=Bn.shift 27000 ina (by omega);refine zc 4 rfl (tq_ rfl (zhg rfl rfl (r:=-(lg (Int.natAbs (r.num)) r.den-p+1)) (w64 (by omega) (by omega) (by omega))) (tc_ zpQ rfl (zec (Int.natAbs (r.num)) (-(lg (Int.natAbs (r.num)) r.den-p+1)) (by omega) (Bn.use (by omega))) (zl 4 rfl ?_)));have hd0:r.den≠0:=by have h:=zlt r.den_nz (lg (Int.natAbs (r.num)) r.den-p+1);rwa [zfA hE] at h
     refine zc 3 rfl (tc_ zpO rfl (zhJ (zaa (Int.natAbs (r.num)*2^(-(lg (Int.natAbs (r.num)) r.den-p+1)).toNat)) (zaa (r.den)) (zab _) (zab _) (Bn.use (by omega)) (Bn.use (by omega)) (Int.natAbs (r.num)*2^(-(lg (Int.natAbs (r.num)) r.den-p+1)).toNat) (r.den) (zac _) (zac _) hd0) (zl 14 rfl ?_));refine zdT rfl (fun hup=>?_) (fun hup=>?_)
     .refine zl 15 rfl (tc_ zpM rfl (zgS (decide (r.num<0)) (zaa ((Int.natAbs (r.num)*2^(-(lg (Int.natAbs (r.num)) r.den-p+1)).toNat)/r.den)) (lg (Int.natAbs (r.num)) r.den-p+1) (zab _) (Bn.use (by omega)) (by omega) (by omega) ((Int.natAbs (r.num)*2^(-(lg (Int.natAbs (r.num)) r.den-p+1)).toNat)/r.den) (zac _)) (zl 15 rfl ?_));exact r2_ hq_ rfl (by subst hup;rw[zeN h1 h2 h3,zep h1 h2];unfold rnd;rw[zkf,zgF hE,zfA hE] <;> rfl)
     .refine zl 1 rfl (tq_ rfl (jln rfl) ?_);by_cases hr0:(Int.natAbs (r.num)*2^(-(lg (Int.natAbs (r.num)) r.den-p+1)).toNat)%r.den≠0
      .refine tq_ rfl (gtT rfl (by have:=zaB.2 hr0;omega)) (zl 6 rfl (tc_ znd rfl (zfC 1 (by decide)) ?_));refine tc_ zzk rfl (zzS (zaa ((Int.natAbs (r.num)*2^(-(lg (Int.natAbs (r.num)) r.den-p+1)).toNat)/r.den)) (zab _) (Bn.use (by omega)) (zaa (1)) (zab _) (Bn.use (by omega)) ((Int.natAbs (r.num)*2^(-(lg (Int.natAbs (r.num)) r.den-p+1)).toNat)/r.den) (zac _) (1) (zac _)) (zl 9 rfl ?_);refine tc_ zpM rfl (zgS (decide (r.num<0)) (zaa (((Int.natAbs (r.num)*2^(-(lg (Int.natAbs (r.num)) r.den-p+1)).toNat)/r.den)+(1))) (lg (Int.natAbs (r.num)) r.den-p+1) (zab _) (Bn.use (by omega)) (by omega) (by omega) (((Int.natAbs (r.num)*2^(-(lg (Int.natAbs (r.num)) r.den-p+1)).toNat)/r.den)+(1)) (zac _)) (zl 15 rfl ?_);exact r2_ hq_ rfl (by subst hup;rw[zeN h1 h2 h3,zep h1 h2];unfold rnd;rw[zke (by rw[zgF hE,zfA hE];exact hr0),zgF hE,zfA hE] <;> rfl)
      .refine tq_ rfl (gtF rfl (by rw[Classical.not_not.1 hr0,zai];decide)) (zl 12 rfl ?_);refine tc_ zpM rfl (zgS (decide (r.num<0)) (zaa ((Int.natAbs (r.num)*2^(-(lg (Int.natAbs (r.num)) r.den-p+1)).toNat)/r.den)) (lg (Int.natAbs (r.num)) r.den-p+1) (zab _) (Bn.use (by omega)) (by omega) (by omega) ((Int.natAbs (r.num)*2^(-(lg (Int.natAbs (r.num)) r.den-p+1)).toNat)/r.den) (zac _)) (zl 15 rfl ?_);exact r2_ hq_ rfl (by subst hup;rw[zeN h1 h2 h3,zep h1 h2];unfold rnd;rw[zkg (by rw[zgF hE,zfA hE];exact hr0),zgF hE,zfA hE] <;> rfl)
theorem ddown(x:Qr)(r:Rat)(hr:x.q=r)(hfx:Fit 25000 x)(p:Int):Ctr Tryz.prog 154 [qV x,V.one (Leaf.val (.int .i64 p))] (R.tup [dV (rndD r p (decide (sg r<0))),V.one (Leaf.val (.int .i64 (zpp p)))]):=by
 refine bd_ Tryz.func154 Tryz.ntmps154 rfl (fun w0 A0=>?_);haveI ir:Br r 25000:=Br.fitq hr hfx;refine zc 8 rfl (dr_ 0 [(8,1)] [1] (dz 3 rfl (kc_ ziB rfl (zdm x (r) hr (hfx.mono (by omega))) (dz 1 rfl (kc_ zCR rfl (zwK x (r) hr (hfx.mono (by omega)) p (decide ((sg (r))<0))) (dz 4 rfl (zad (za 1 rfl ?_))))))));exact r2_ hq_ rfl rfl
theorem dup(x:Qr)(r:Rat)(hr:x.q=r)(hfx:Fit 25000 x)(p:Int):Ctr Tryz.prog 155 [qV x,V.one (Leaf.val (.int .i64 p))] (R.tup [dV (rndD r p (decide (0<sg r))),V.one (Leaf.val (.int .i64 (zpp p)))]):=by
 refine bd_ Tryz.func155 Tryz.ntmps155 rfl (fun w0 A0=>?_);haveI ir:Br r 25000:=Br.fitq hr hfx;refine zc 8 rfl (dr_ 0 [(8,1)] [1] (dz 3 rfl (kc_ ziB rfl (zdm x (r) hr (hfx.mono (by omega))) (dz 1 rfl (kc_ zCR rfl (zwK x (r) hr (hfx.mono (by omega)) p (decide (0<(sg (r))))) (dz 4 rfl (zad (za 1 rfl ?_))))))));exact r2_ hq_ rfl rfl
theorem zzI:∃L K:Nat,(zaa L).length<=32770/\900000<=K/\2^K<=L/\Ctr Tryz.prog 215 [V.one (zaf [1]),V.one (Leaf.val (.int .i64 1000000))] (R.tup [V.one (zaf (zaa L)),V.one (Leaf.val (.int .i64 0))]):=by
 have key:∀k:Nat,900000<=k->k<=1048576->∃L K:Nat,(zaa L).length<=32770/\900000<=K/\2^K<=L/\Ctr Tryz.prog 215 [V.one (zaf [1]),V.one (Leaf.val (.int .i64 (k:Int)))] (R.tup [V.one (zaf (zaa L)),V.one (Leaf.val (.int .i64 0))]):=fun k h1 h2=>
  ⟨1*2^k,k,(Bn.shift (n:=1) (i:=1) 32769 ⟨by rw[zdo];exact zEq _⟩ (by omega)).le,h1,by rw[Nat.one_mul];exact zEq _,zlH [1] k (Small.cons (by decide) Small.nil) h2 (by simp) 1 rfl⟩
 exact key 1000000 (by decide) (by decide)
theorem zq3(x:Qr)(r:Rat)(hr:x.q=r)(hfx:Fit 25000 x)(p:Int)(up:Bool):Ctr Tryz.prog 214 [qV x,V.one (Leaf.val (.int .i64 p)),V.one (Leaf.val (.bool up))] (R.tup [dV (rndD r p (up != decide (r.num<0))),V.one (Leaf.val (.int .i64 (zpp p)))]):=by
 refine bd_ Tryz.func214 Tryz.ntmps214 rfl (fun w0 A0=>?_);haveI ir:Br r 25000:=Br.fitq hr hfx;haveI icn:Bn (zav r) 25000:=⟨(Br.use (r:=r) (zEq _)).n⟩;have hnl:=icn.le;have hdl:(zaa r.den).length<=25001:=Bn.use (n:=r.den) (zEq _);have hlg:=zga hnl hdl;refine zc 11 rfl ?_;by_cases h1:p<1
 .refine tq_ rfl (ltT rfl) (zl 14 rfl ?_);exact r2_ hq_ rfl (by unfold rndD zpp;rw[if_pos (by omega),if_pos (by omega),zc8] <;> rfl)
 .refine tq_ rfl (ltF rfl) (zl 2 rfl ?_);by_cases h2:4096<p
  .refine tq_ rfl (gtT rfl) (zl 11 rfl ?_);exact r2_ hq_ rfl (by unfold rndD zpp;rw[if_pos (by omega),if_pos (by omega),zc8] <;> rfl)
  .refine tq_ rfl (gtF rfl) (zl 9 rfl (tc_ zmz rfl (zb6 x (r) hr (hfx.mono (by omega))) (zl 8 rfl (tq_ rfl (jln rfl) ?_))));by_cases h3:zav r=0
   .refine tq_ rfl (eqT rfl (by show((zaa (zav r)).length:Int)=0;rw[h3,zai];rfl)) (zl 10 rfl ?_);exact r2_ hq_ rfl (by have h4:r.num=0:=Int.natAbs_eq_zero.1 h3;unfold rndD;rw[if_pos (by omega),zep h1 h2,zc8] <;> rfl)
   .refine tq_ rfl (eqF rfl (by show((zaa (zav r)).length:Int)≠0;have:=zaB.2 h3;omega)) (zl 8 rfl (tc_ fn242 rfl (rqden (qOf (r)) (r) (zaj _) (Br.use (by omega))) (zl 4 rfl ?_)));obtain⟨L,K,hL1,hK,hL2,hc⟩:=zzI;haveI iL:Bn L 32770:=⟨hL1⟩;have hn1:=zw1 (k:=K) icn (by omega);have hd1:=zw1 (k:=K) (Bn.den (r:=r)) (by omega);have hlt1:zav r<r.den*L:=zEv (zEv hn1 hL2) (Nat.le_mul_of_pos_left L r.den_pos);have hlt2:r.den<zav r*L:=zEv (zEv hd1 hL2) (Nat.le_mul_of_pos_left L (Nat.pos_of_ne_zero h3));clear hL2 hn1 hd1;refine zc 1 rfl (te_ rfl (zae rfl zce zaw zd1 rfl (by decide) (by decide) rfl (by decide) rfl) (tc_ zr2 rfl (hc) (zl 9 rfl (dr_ 0 [] [] (dz 4 rfl (kc_ zkF rfl (zfX (zaa (r.den)) (zaa (L)) (zab _) (zab _) (Bn.use (by omega)) (Bn.use (by omega)) (r.den) (L) (zac _) (zac _)) ?_))))));refine kc_ znc rfl (zlF (zaa (zav r)) (zaa (r.den*L)) (zab _) (zab _) (zav r) (r.den*L) (zac _) (zac _)) (kq_ rfl (geF rfl (by rw[zda hlt1];decide)) (dz 4 rfl (kc_ zkF rfl (zfX (zaa (zav r)) (zaa (L)) (zab _) (zab _) (Br.use (r:=r) (by omega)).n (Bn.use (by omega)) (zav r) (L) (zac _) (zac _)) ?_)));refine dz 1 rfl (kc_ znc rfl (zlF (zaa (zav r*L)) (zaa (r.den)) (zab _) (zab _) (zav r*L) (r.den) (zac _) (zac _)) (kq_ rfl (ltF rfl (by rw[zkQ hlt2];decide)) (dz 1 rfl (zad (za 13 rfl (tq_ rfl (zbL rfl rfl rfl un4 (d:=_) (rfl)) ?_))))));refine tc_ fn243 rfl (zAW (zav r) r.den h3 r.den_nz (by omega) (by omega) p (by omega) (by omega) (up != (zaR r))) (zl 8 rfl ?_);haveI iq:Bn (rndQ (zav r) r.den (lg (zav r) r.den-p+1) (up != (zaR r))) (25000+27000+1):=Bn.rndQ 27000 icn (by omega);refine zc 5 rfl (tc_ fn244 rfl (zDD (zaR r) (zaa (rndQ (zav r) r.den (lg (zav r) r.den-p+1) (up != (zaR r)))) (lg (zav r) r.den-p+1) (zab _) (Bn.use (by omega)) (by omega) (by omega) (rndQ (zav r) r.den (lg (zav r) r.den-p+1) (up != (zaR r))) (zac _)) (zl 15 rfl ?_));exact r2_ hq_ rfl (by rw[zeN h1 h2 (fun e=>h3 (by unfold zav;rw[e] <;> rfl)),zep h1 h2] <;> rfl)
theorem zA9(x:Qr)(r:Rat)(hr:x.q=r)(hfx:Fit 25000 x)(p:Int):Ctr Tryz.prog 161 [qV x,V.one (Leaf.val (.int .i64 p))] (R.tup [dV (rndD r p (decide (sg r<0))),V.one (Leaf.val (.int .i64 (zpp p)))]):=by
 refine bd_ Tryz.func161 Tryz.ntmps161 rfl (fun w0 A0=>?_);haveI ir:Br r 25000:=Br.fitq hr hfx;refine zc 11 rfl (tc_ zCP rfl (zq3 x (r) hr (hfx.mono (by omega)) p false) (zl 6 rfl ?_));exact r2_ hq_ rfl (by rw[<-zA6] <;> rfl)
theorem rdup(x:Qr)(r:Rat)(hr:x.q=r)(hfx:Fit 25000 x)(p:Int):Ctr Tryz.prog 159 [qV x,V.one (Leaf.val (.int .i64 p))] (R.tup [dV (rndD r p (decide (0<sg r))),V.one (Leaf.val (.int .i64 (zpp p)))]):=by
 refine bd_ Tryz.func159 Tryz.ntmps159 rfl (fun w0 A0=>?_);haveI ir:Br r 25000:=Br.fitq hr hfx;refine zc 11 rfl (tc_ zCP rfl (zq3 x (r) hr (hfx.mono (by omega)) p true) (zl 6 rfl ?_));exact r2_ hq_ rfl (by rw[<-zA5] <;> rfl)
theorem zqQ(f:Af)(c:Rat){C K n:Nat}(hf:FL C n f)[Br c K](h2:C<=10000000000)(h3:K<=10000000000)(hn:n<=1000):Ctr Tryz.prog 85 [afV f,V.agg (qL (c))] (R.one (afV (fSc f c))):=by
 refine bd_ Tryz.func85 Tryz.ntmps85 rfl (fun w0 A0=>?_);refine zc 10 rfl (eq_ (D.agg (afL fZ)) rfl (congrArg D.agg fZ_ls.symm) (zl 2 rfl (tc_ zzm rfl (zm1 fZ f c (FL.z (n:=n)) hf (by omega) (by omega) (by omega) (by omega)) (zl 3 rfl ?_))));exact r1_ hq_ rfl (by have e:f.c*c=fZ.c+f.c*c:=(Rat.zero_add _).symm;show R.one (afV ⟨mrg c [] f.ts,fZ.c+f.c*c⟩)=R.one (afV ⟨scT f.ts c,f.c*c⟩);rw[<-zxY hf.can,<-e])
theorem zu8(l:List Dc)(hl:l.length<=100000):Ctr Tryz.prog 82 [V.one (El.row dcE l)] (R.one (V.one (El.row dcE l))):=by
 refine bd_ Tryz.func82 Tryz.ntmps82 rfl (fun w0 A0=>?_);refine zc 9 rfl ?_;refine zhS rfl rfl rfl rfl rfl ztI (fun b1 hb1=>?_);refine zl 2 rfl ?_;refine zao rfl (fun hc4=>?_) (fun hc4=>?_)
 .refine zc 5 rfl ?_;exact r1_ hq_ rfl (by obtain⟨h1,h2⟩:=hb1 hc4;have:=zEy h1;subst this;rfl)
 .refine zc 4 rfl (te_ rfl (zfk rfl ztI zAl _) (zl 1 rfl ?_));obtain⟨ti2,hi2,hz2,hs2,hb2⟩:=in76;refine te_ rfl (zeA dcE l rfl rfl rfl (by decide) ztI ztI hi2 hz2 hs2 rfl (by simp only[maxLen];omega) (by rw[hb2];omega) (H2:=_)) (zl 3 rfl ?_);exact r1_ hq_ rfl rfl
theorem zu7(l:List Lm)(hl:l.length<=100000):CtrG Tryz.prog 83 105 6 (El.all lmE l) [V.one (El.row lmE l)]:=by
 refine CtrG.of_body Tryz.func83 rfl Tryz.ntmps83 (zEt rfl) (fun w0 A0 hX=>?_);refine qc_ (zc 9 rfl ?_);refine zhS rfl rfl rfl rfl rfl znM (fun b1 hb1=>?_);refine zl 2 rfl ?_;refine zao rfl (fun hc4=>?_) (fun hc4=>?_)
 .refine zc 2 rfl (tq_ rfl (zb3 rfl (rfl)) (zl 2 rfl ?_));exact zvy (fun _ _ h=>h) rfl rfl (by obtain⟨h1,h2⟩:=hb1 hc4;have:=zEy h1;subst this;rfl)
 .refine zc 4 rfl (zbQ rfl rfl rfl rfl znM zgC rfl (ziZ 5 0 rfl rfl (zl 1 rfl (te_ rfl (jal (e:=lmE) (l:=[]) rfl rfl) (zl 3 rfl ?_)))));exact zz0 (fun _ _ h=>h) hX rfl rfl rfl (by rw[List.nil_append])
theorem zrb(x:Rat)(bits:Int)(up:Bool){H:Nat}(hx:Hb x H)(hH:H<800000)(h0:0<=bits)(h4:bits<=4096):Ctr Tryz.prog 91 [V.agg (qL (x)),V.one (Leaf.val (.int .i64 (bits))),V.one (Leaf.val (.bool up))] (R.one (V.agg (qL (zcV x up bits)))):=by
 refine bd_ Tryz.func91 Tryz.ntmps91 rfl (fun w0 A0=>?_);haveI hbr:Br x 25000:=hx.limb (by omega);refine zc 10 rfl ?_;by_cases hb0:bits=0
 .refine tq_ rfl (eqT rfl) (zl 6 rfl (tc_ zmz rfl (zb6 (qOf (x)) (x) (zaj _) (Br.use (by omega))) (zl 3 rfl ?_)));exact r1_ hq_ rfl (by unfold zcV;rw[if_pos hb0] <;> rfl)
 .refine tq_ rfl (eqF rfl) (zl 11 rfl ?_);refine zao rfl (fun hup=>?_) (fun hup=>?_)
  .refine zc 4 rfl (tc_ fn159 rfl (rdup (qOf x) x (zaj _) (Br.use (by omega)) bits) (zl 11 rfl (tc_ zC0 rfl (zA8 (rndD x bits (decide (0<sg x))) (Bd.use (by omega))) (zl 3 rfl ?_))));exact r1_ hq_ rfl (by unfold zcV;rw[if_neg hb0,if_pos hup] <;> rfl)
  .refine zc 6 rfl (tc_ fn161 rfl (zA9 (qOf x) x (zaj _) (Br.use (by omega)) bits) (zl 11 rfl (tc_ zC0 rfl (zA8 (rndD x bits (decide (sg x<0))) (Bd.use (by omega))) (zl 3 rfl ?_))));exact r1_ hq_ rfl (by unfold zcV;rw[if_neg hb0,if_neg (by rw[hup];decide)] <;> rfl)
theorem At_heq{Q:Exit->Act->World->Prop}{w0:Frm}{A0:Foot}{N:Nat}{Γ:Gam}{H H2:Hp}{ex:Exit}(hH:H=H2)(h:At Q w0 A0 N Γ H2 ex):At Q w0 A0 N Γ H ex:=hH ▸ h
theorem zrc(x:Rat)(up:Bool)(bits:Int){H:Nat}(hx:Hb x H)(hH:H<800000)(h0:0<=bits)(h4:bits<=4096):Ctr Tryz.prog 89 [V.agg (qL (x)),V.one (Leaf.val (.bool up)),V.one (Leaf.val (.int .i64 (bits)))] (R.one (V.agg (qL (zcV x up bits)))):=by
 refine bd_ Tryz.func89 Tryz.ntmps89 rfl (fun w0 A0=>?_);haveI hbr:Br x 25000:=hx.limb (by omega);refine zc 10 rfl ?_;by_cases hb0:bits=0
 .refine tq_ rfl (eqT rfl) (zl 9 rfl ?_);exact r1_ hq_ rfl (by unfold zcV;rw[if_pos hb0] <;> rfl)
 .refine tq_ rfl (eqF rfl) (zl 16 rfl ?_);refine zao rfl (fun hup=>?_) (fun hup=>?_)
  .refine zc 9 rfl (te_ rfl (zhU rfl rfl fn155 rfl (dup (qOf x) x (zaj _) (Br.use (by omega)) bits)) (zl 3 rfl (eq_ (D.val (.int .i64 0)) rfl (by unfold zpp;rw[if_neg (by omega)]) (zl 18 rfl (tc_ zC2 rfl (drat (rndD x bits (decide (0<sg x))) (Bd.use (by omega))) (zl 3 rfl ?_))))));exact r1_ hq_ rfl (by unfold zcV;rw[if_neg hb0,if_pos hup] <;> rfl)
  .refine zc 7 rfl (te_ rfl (zhU rfl rfl fn154 rfl (ddown (qOf x) x (zaj _) (Br.use (by omega)) bits)) (zl 3 rfl (eq_ (D.val (.int .i64 0)) rfl (by unfold zpp;rw[if_neg (by omega)]) (zl 18 rfl (tc_ zC2 rfl (drat (rndD x bits (decide (sg x<0))) (Bd.use (by omega))) (zl 3 rfl ?_))))));exact r1_ hq_ rfl (by unfold zcV;rw[if_neg hb0,if_neg (by rw[hup];decide)] <;> rfl)
set_option maxHeartbeats 2000000 in
theorem drun (d:Dom) (hdm:zhr d) (tD fL:Nat) (cs:List Value) (hone:cs.all Value.oneCell'=true) (hm:zf6 Tryz.prog tD "Lower" = some fL) (hfL:zar Tryz.prog fL) (hL:∀(s:Sc) (f:Af),SOk s->FOk 3 (s.q.g.inp+s.q.g.us.length) f->Ctr Tryz.prog fL [V.agg (zqr cs),scV s,afV f] (R.tup [qV (qOf (d s f).1),V.one (El.row muE (d s f).2.1),V.one (Leaf.val (.bool (d s f).2.2))])) (s:Sc) (hs:SOk s) (h80:s.lems.length<=80) (bits:Int) (h0:0<=bits) (h4:bits<=4096):Ctr Tryz.prog 37 [V.one (Leaf.val (ifV tD cs)),scV s,V.one (Leaf.val (.int .i64 (bits)))] (R.tup [scV (zt4 d s bits),V.one (Leaf.val (.int .i64 0))]):=by
 refine bd_ Tryz.func37 Tryz.ntmps37 rfl (fun w0 A0=>?_);have hq:=hs.q;have hd:=hs.d;have hpl:=hs.pl;have hB:=hs.B;have hll:=hs.ll;have hg:=hq.g;have hr:=hq.r;have hlo:=hr.lo;have hhi:=hr.hi;have g1:=hg.i1;have g2:=hg.i3;have g3:=hg.u4;have g4:=hg.o1;have g5:=hg.o3;refine zc 13 rfl (tq_ rfl (zgw rfl rfl rfl (by kernel_rfl)) (zl 3 rfl (tc_ zAu rfl (zf0 s.q hq) (zl 4 rfl (tq_ rfl (ltF rfl) (zl 3 rfl (tq_ rfl (gtF rfl) (zl 7 rfl (nz_ [so 3 (D.ptr 0 0),so 4 (D.ptr 1 0),so 5 (D.ptr 2 0),so 6 (D.ptr 3 0)] [hb_ 87 [Leaf.val (ifV tD cs)],hb_ 43 (scL s),hb_ 3 [Leaf.val (.int .i64 bits)],hb_ 43 scZ] rfl rfl ?_)))))))));refine dr_ 1 [(5,4),(7,1),(9,1)] [4,1] (dz 1 rfl (kp_ [4] rfl (jld rfl) (kc_ fn82 rfl (zu8 s.path (by omega)) (dz 1 rfl (kp_ [4] rfl (jld rfl) (ki_ 4 rfl (zvG (i:=4) rfl fn83 rfl (zu7 s.lems (by omega)) (by decide) rfl) (dz 4 rfl (zad (za 3 rfl ?_)))))))));refine nz_ [so 3 _,so 4 _,so 5 _,so 6 _] [_,hb_ 43 (quL s.q++[El.row dcE s.path,Leaf.own 4 0]),_,_,hgr 105 6 lmE s.lems 0] rfl rfl ?_;refine zmm 0 rfl (fun q1=>?_);refine zmm 1 rfl (fun q2=>?_);refine zmm 2 rfl (fun q3=>?_);refine zc 5 rfl (tq_ rfl (jln rfl) (zl 4 rfl ?_));refine zbq (fun m Γ H=>∃(i:Nat) (n:Nat) (out:List Lm),s.q.g.us.length-i=m/\Γ=[(3,some (D.ptr 0 0)),(4,some (D.ptr 1 0)),(5,some (D.ptr 2 0)),(6,some (D.ptr 3 0)),(39,some (D.v (V.one (El.row afE s.q.g.us)))),(40,some (D.val (.int .i64 ((s.q.g.us.length:Nat):Int)))),(41,some (D.val (.int .i64 (i:Int))))]/\H=[hbq 87 [Leaf.val (ifV tD cs)] q1,hbq 43 (quL s.q++[El.row dcE s.path,Leaf.own 4 n]) q2,hbq 3 [Leaf.val (.int .i64 bits)] q3,hb_ 43 scZ,hgr 105 6 lmE out n]/\i<=s.q.g.us.length/\out=Rc.runN d s bits i) ⟨0,0,s.lems,rfl,rfl,rfl,zEs _,rfl⟩ rfl ?_;rintro m Γ H ⟨i,n,out,rfl,rfl,rfl,hi0,hout⟩;refine zc 2 rfl ?_;by_cases hi:i<s.q.g.us.length
 .refine tq_ rfl (ltT rfl) (zl 9 rfl ?_);obtain⟨p,hp⟩:∃p,s.q.g.us[i]?=some p:=⟨_,zEm hi⟩;have hso:=zkd hdm hs h80 (bits:=bits) (n:=i) (by omega);have hln:=(zh7 hdm hs h80 bits i (by omega)).2;rw[<-hout] at hso hln;have hpf:=hq.g.us i p hp;have hpf2:FOk 3 (s.q.g.inp+s.q.g.us.length) p:=hpf.mono (zEq _) (by omega);have hnf:=hpf.neg;have hnf2:=hpf2.neg;have hpl_:=hpf2.fl;haveI:=hpl_.fm (by omega);haveI:=hpl_.cb;have hK:=ztd (j:=i) (by omega);have hrA:=zmN hdm hs (bits:=bits) hso hp;refine nz_ [so 3 (D.ptr 0 0),so 4 (D.ptr 1 0),so 5 (D.ptr 2 0),so 6 (D.ptr 3 0),so 39 (D.v (V.one (El.row afE s.q.g.us))),so 40 (D.val (.int .i64 ((s.q.g.us.length:Nat):Int))),so 41 (D.val (.int .i64 (i:Int)))] [hbq 87 [Leaf.val (ifV tD cs)] q1,hbq 43 (quL s.q++[El.row dcE s.path,Leaf.own 4 n]) q2,hbq 3 [Leaf.val (.int .i64 bits)] q3,hb_ 43 scZ,hgr 105 6 lmE out n] rfl rfl ?_;refine zc 2 rfl (tq_ rfl (jix i hp rfl) (tq_ rfl (jlr rfl) (zl 7 rfl ?_)));refine zmm 5 rfl (fun q6=>?_);refine zmm 6 rfl (fun q7=>?_);refine zc 1 rfl ?_;refine te_ rfl (znA (vs:=[.pointer (some ⟨q7,0,none⟩),.pointer (some ⟨q1,0,none⟩),.pointer (some ⟨q2,0,none⟩),.pointer (some ⟨q6,0,none⟩),.pointer (some ⟨q3,0,none⟩)]) rfl ⟨⟨_,rfl,.inr ⟨_,_,_,rfl,rfl,rfl,rfl,rfl⟩⟩,⟨_,rfl,.inr ⟨_,_,_,rfl,rfl,rfl,rfl,rfl⟩⟩,⟨_,rfl,.inr ⟨_,_,_,rfl,rfl,rfl,rfl,rfl⟩⟩,⟨_,rfl,.inr ⟨_,_,_,rfl,rfl,rfl,rfl,rfl⟩⟩,⟨_,rfl,.inr ⟨_,_,_,rfl,rfl,rfl,rfl,rfl⟩⟩,trivial⟩) ?_;refine zl 3 rfl ?_;refine mt_ [so 3 (D.ptr 0 0),so 4 (D.ptr 1 0),so 5 (D.ptr 2 0),so 6 (D.ptr 3 0),so 10 (D.val (.func (.func 84) #[] #[.pointer (some ⟨q7,0,none⟩),.pointer (some ⟨q1,0,none⟩),.pointer (some ⟨q2,0,none⟩),.pointer (some ⟨q6,0,none⟩),.pointer (some ⟨q3,0,none⟩)])),so 39 (D.v (V.one (El.row afE s.q.g.us))),so 40 (D.val (.int .i64 ((s.q.g.us.length:Nat):Int))),so 41 (D.val (.int .i64 (i:Int)))] [hbq 87 [Leaf.val (ifV tD cs)] q1,hbq 43 (quL s.q++[El.row dcE s.path,Leaf.own 4 (n+((zbf d s bits out i p).length-out.length))]) q2,hbq 3 [Leaf.val (.int .i64 bits)] q3,hb_ 43 scZ,hgr 105 6 lmE (zbf d s bits out i p) (n+((zbf d s bits out i p).length-out.length)),hbq 3 [Leaf.val (.int .i64 (i:Int))] q6,hbq 38 (afL p) q7] ?_ ?_
  .refine nz_ [so 3 _,so 4 _,so 5 _,so 6 _,so 10 (D.val (.func (.func 84) #[] #[.pointer (some ⟨q7,0,none⟩),.pointer (some ⟨q1,0,none⟩),.pointer (some ⟨q2,0,none⟩),.pointer (some ⟨q6,0,none⟩),.pointer (some ⟨q3,0,none⟩)])),so 39 _,so 40 _,so 41 _] [_,_,_,_,_,hbq 3 [Leaf.val (.int .i64 (i:Int))] q6,hbq 38 (afL p) q7] rfl rfl (zc 2 rfl ?_);refine zjT (dc:=[D.ptr 6 0,D.ptr 0 0,D.ptr 1 0,D.ptr 5 0,D.ptr 2 0]) rfl rfl rfl ⟨.inr ⟨_,_,_,rfl,rfl,rfl,rfl,rfl⟩,.inr ⟨_,_,_,rfl,rfl,rfl,rfl,rfl⟩,.inr ⟨_,_,_,rfl,rfl,rfl,rfl,rfl⟩,.inr ⟨_,_,_,rfl,rfl,rfl,rfl,rfl⟩,.inr ⟨_,_,_,rfl,rfl,rfl,rfl,rfl⟩,trivial⟩ Tryz.func84 rfl rfl Tryz.ntmps84 (zEt rfl) rfl (fun a8 d8 s8=>?_);refine qc_ (zc 19 rfl (tq_ rfl (jvl 11 rfl rfl) (zl 1 rfl (te_ rfl (zc2 rfl rfl hm hfL rfl (hL (withL s out) p hso hpf2) hone) (zl 17 rfl ?_)))));refine zao rfl (fun hb1n=>?_) (fun hb1n=>?_)
   .refine zo4 [(3,some (D.ptr 0 0)),(4,some (D.ptr 1 0)),(5,some (D.ptr 2 0)),(6,some (D.ptr 3 0)),(10,some (D.val (.func (.func 84) #[] #[.pointer (some ⟨q7,0,none⟩),.pointer (some ⟨q1,0,none⟩),.pointer (some ⟨q2,0,none⟩),.pointer (some ⟨q6,0,none⟩),.pointer (some ⟨q3,0,none⟩)]))),(39,some (D.v (V.one (El.row afE s.q.g.us)))),(40,some (D.val (.int .i64 ((s.q.g.us.length:Nat):Int)))),(41,some (D.val (.int .i64 (i:Int))))] (fun _ _ h=>h) d8 s8 rfl rfl ⟨rfl,rfl,rfl,rfl,rfl,rfl,rfl,rfl,trivial⟩ ?_;refine zl 1 rfl ?_;have hA:(zbf d s bits out i p)=out:=by unfold zbf;rw[zhw (by have h:(d (withL s out) p).2.2=false:=(by simpa using hb1n);exact h),zEK]
    refine zal 7 (zal 8 (zaK 7 rfl ?_));exact At_heq (by rw[hA,Nat.sub_self,Nat.add_zero];first|done|rfl) (zeB ⟨rfl,rfl,rfl,rfl,rfl,rfl,rfl,rfl,trivial⟩)
   .refine zc 3 rfl ?_;have hb1:(d (withL s out) p).2.2=true:=by simpa using hb1n
    haveI h1hb1:Hb (d (withL s out) p).1 (KB i-4200):=hdm (withL s out) hso i p (by exact hi) (by exact hpf) (by exact hb1);have h2hb1:=h1hb1;haveI h3hb1:Br (d (withL s out) p).1 135002:=h1hb1.limb (by omega);haveI:Br (zcV (d (withL s out) p).1 false bits) 139101:=((zgJ (up:=false) (bits:=bits) h2hb1 (by omega)).mono (show _<=139100 by omega)).br;have hso_B_1:∀m∈out,Fq m.v 135001:=hso.B;have hso_L_1:(out).length<=100:=hso.ll;refine zc 1 rfl (tq_ rfl (jvl 11 rfl rfl) (zl 1 rfl (tc_ zCD rfl (zmi (withL s out) hso_B_1 (by omega) (by show(out).length<=_;omega) (i:Int)) (zl 8 rfl ?_))));refine nf_ [7] [so 0 (D.bool false),so 3 (D.ptr 1 0),so 4 (D.ptr 5 0),so 5 _,so 8 (D.ptr 8 0),so 9 (D.v (V.one (El.row muE ((d (withL s out) p).2.1)))),so 11 (D.val (.int .i64 (((zak out (i:Int)).1:Nat):Int))),so 12 (D.val (.int .i64 (((zak out (i:Int)).2:Nat):Int))),so 2003 (D.ptr 0 0),so 2004 (D.ptr 1 0),so 2005 (D.ptr 2 0),so 2006 (D.ptr 3 0),so 2010 (D.val (.func (.func 84) #[] #[.pointer (some ⟨q7,0,none⟩),.pointer (some ⟨q1,0,none⟩),.pointer (some ⟨q2,0,none⟩),.pointer (some ⟨q6,0,none⟩),.pointer (some ⟨q3,0,none⟩)])),so 2039 (D.v (V.one (El.row afE s.q.g.us))),so 2040 (D.val (.int .i64 ((s.q.g.us.length:Nat):Int))),so 2041 (D.val (.int .i64 (i:Int)))] [_,_,_,_,_,_,_,none,hb_ 36 (qL ((d (withL s out) p).1))] rfl rfl rfl ?_;refine zc 20 rfl (tc_ fn89 rfl (zrc ((d (withL s out) p).1) false bits h2hb1 (by omega) h0 h4) (zl 3 rfl ?_));refine mt_ [so 0 (D.bool false),so 3 (D.ptr 1 0),so 4 (D.ptr 5 0),so 8 (D.ptr 8 0),so 9 (D.v (V.one (El.row muE ((d (withL s out) p).2.1)))),so 59 (D.bool (zck out i false (zcV (d (withL s out) p).1 false bits))),so 2003 (D.ptr 0 0),so 2004 (D.ptr 1 0),so 2005 (D.ptr 2 0),so 2006 (D.ptr 3 0),so 2010 (D.val (.func (.func 84) #[] #[.pointer (some ⟨q7,0,none⟩),.pointer (some ⟨q1,0,none⟩),.pointer (some ⟨q2,0,none⟩),.pointer (some ⟨q6,0,none⟩),.pointer (some ⟨q3,0,none⟩)])),so 2039 (D.v (V.one (El.row afE s.q.g.us))),so 2040 (D.val (.int .i64 ((s.q.g.us.length:Nat):Int))),so 2041 (D.val (.int .i64 (i:Int)))] [hbq 87 [Leaf.val (ifV tD cs)] q1,hbq 43 (quL s.q++[El.row dcE s.path,Leaf.own 4 n]) q2,hbq 3 [Leaf.val (.int .i64 bits)] q3,hb_ 43 scZ,hgr 105 6 lmE out n,hbq 3 [Leaf.val (.int .i64 (i:Int))] q6,hbq 38 (afL p) q7,none,hb_ 36 (qL (zcV (d (withL s out) p).1 false bits))] ?_ ?_
    .refine nz_ [so 0 _,so 3 _,so 4 _,so 8 _,so 9 _,so 13 (D.val (.int .i64 (((zak out (i:Int)).1:Nat):Int))),so 14 (D.val (.int .i64 1)),so 2003 _,so 2004 _,so 2005 _,so 2006 _,so 2010 _,so 2039 _,so 2040 _,so 2041 _] [_,_,_,_,_,_,_,none,hb_ 36 (qL (zcV (d (withL s out) p).1 false bits))] rfl rfl (dr_ 0 [] [] (dz 1 rfl ?_));by_cases hk1:(zak out (i:Int)).1=0
     .refine kq_ rfl (eqT rfl) (dz 13 rfl (zgQ (zck out i false (zcV (d (withL s out) p).1 false bits)) rfl (by exact(zfP (.inl hk1)).symm) (zad ?_)));exact mx_ rfl
     .refine kq_ rfl (eqF rfl) (dz 3 rfl ?_);obtain⟨y,hy,_,_,hly,hy0,hyl⟩:=zbv hk1;haveI hyB:=hso_B_1 y (zEn hy);refine kq_ rfl (zex (r:=4) (n:=n) (x:=V.one (Leaf.own 4 n)) (x':=V.one (El.row lmE out)) (zcA rfl rfl rfl (by decide) ty23 rfl) (RowAt.ofE lmE out rfl (by decide)) (by decide) (.inr ⟨rfl,rfl⟩)) (dz 1 rfl (kq_ rfl (jsb ((zak out (i:Int)).1-1) rfl) (kq_ rfl (jix ((zak out (i:Int)).1-1) hy rfl) (kq_ rfl (jft rfl) (kq_ rfl (jlr rfl) ?_)))));refine kc_ zuE rfl (zui (qOf ((zcV (d (withL s out) p).1 false bits))) ((zcV (d (withL s out) p).1 false bits)) (zaj _) (Br.use (by omega)) y.v (y.v.q) rfl (Fq.use (x:=y.v) (by omega))) (dz 1 rfl ?_);by_cases hc1:lv out (zak out (i:Int)).1<zcV (d (withL s out) p).1 false bits
      .refine kq_ rfl (eqT rfl (by rw[zkN,<-hly];exact hc1)) (dz 1 rfl (zgQ (zck out i false (zcV (d (withL s out) p).1 false bits)) rfl (by exact(zfP (.inr hc1)).symm) (zad ?_)));exact mx_ rfl
      .refine kq_ rfl (eqF rfl (fun e=>hc1 (by rw[hly];exact zkN.1 e))) (dz 1 rfl (zgQ (zck out i false (zcV (d (withL s out) p).1 false bits)) rfl (by exact(zlp hk1 hc1).symm) (zad ?_)));exact mx_ rfl
    .refine zao rfl (fun hs1=>?_) (fun hs1=>?_)
     .refine zc 8 rfl (te_ rfl (zae rfl znM zgC zlj rfl (by decide) (by decide) rfl (by decide) rfl) (te_ rfl (jap (e:=lmE) (⟨(i:Int),false,(qOf ((zcV (d (withL s out) p).1 false bits))),(d (withL s out) p).2.1⟩) rfl rfl) (zl 3 rfl ?_)));refine zcT [(3,some (D.ptr 0 0)),(4,some (D.ptr 1 0)),(5,some (D.ptr 2 0)),(6,some (D.ptr 3 0)),(10,some (D.val (.func (.func 84) #[] #[.pointer (some ⟨q7,0,none⟩),.pointer (some ⟨q1,0,none⟩),.pointer (some ⟨q2,0,none⟩),.pointer (some ⟨q6,0,none⟩),.pointer (some ⟨q3,0,none⟩)]))),(39,some (D.v (V.one (El.row afE s.q.g.us)))),(40,some (D.val (.int .i64 ((s.q.g.us.length:Nat):Int)))),(41,some (D.val (.int .i64 (i:Int))))] d8 s8 rfl rfl ⟨rfl,rfl,rfl,rfl,rfl,rfl,rfl,rfl,trivial⟩ ?_;refine zl 1 rfl ?_;have hA:(zbf d s bits out i p)=out++[(⟨(i:Int),false,qOf (zcV (d (withL s out) p).1 false bits),(d (withL s out) p).2.1⟩:Lm)]:=by unfold zbf;rw[zj8 (by exact hb1) (by exact hs1)];rfl
      refine zal 8 (zaK 7 rfl ?_);exact At_heq (by rw[hA,zEC,Nat.add_sub_cancel_left];first|done|rfl) (zeB ⟨rfl,rfl,rfl,rfl,rfl,rfl,rfl,rfl,trivial⟩)
     .refine zc 1 rfl ?_;refine zcT [(3,some (D.ptr 0 0)),(4,some (D.ptr 1 0)),(5,some (D.ptr 2 0)),(6,some (D.ptr 3 0)),(10,some (D.val (.func (.func 84) #[] #[.pointer (some ⟨q7,0,none⟩),.pointer (some ⟨q1,0,none⟩),.pointer (some ⟨q2,0,none⟩),.pointer (some ⟨q6,0,none⟩),.pointer (some ⟨q3,0,none⟩)]))),(39,some (D.v (V.one (El.row afE s.q.g.us)))),(40,some (D.val (.int .i64 ((s.q.g.us.length:Nat):Int)))),(41,some (D.val (.int .i64 (i:Int))))] d8 s8 rfl rfl ⟨rfl,rfl,rfl,rfl,rfl,rfl,rfl,rfl,trivial⟩ ?_;refine zl 1 rfl ?_;have hA:(zbf d s bits out i p)=out:=by unfold zbf;rw[zhv (by exact hs1),zEK]
      refine zal 8 (zaK 7 rfl ?_);exact At_heq (by rw[hA,Nat.sub_self,Nat.add_zero];first|done|rfl) (zeB ⟨rfl,rfl,rfl,rfl,rfl,rfl,rfl,rfl,trivial⟩)
  .have hso1:SOk (withL s (zbf d s bits out i p)):=LOk.withL hs hrA.1 (by have:=hrA.2;have hl2:out.length<=s.lems.length+2*i:=hln;omega);refine zc 2 rfl ?_;refine zjT (dc:=[D.ptr 6 0,D.ptr 0 0,D.ptr 1 0,D.ptr 5 0,D.ptr 2 0]) rfl rfl rfl ⟨.inr ⟨_,_,_,rfl,rfl,rfl,rfl,rfl⟩,.inr ⟨_,_,_,rfl,rfl,rfl,rfl,rfl⟩,.inr ⟨_,_,_,rfl,rfl,rfl,rfl,rfl⟩,.inr ⟨_,_,_,rfl,rfl,rfl,rfl,rfl⟩,.inr ⟨_,_,_,rfl,rfl,rfl,rfl,rfl⟩,trivial⟩ Tryz.func84 rfl rfl Tryz.ntmps84 (zEt rfl) rfl (fun a12 d12 s12=>?_);refine qc_ (zc 14 rfl (dr_ 0 [(3,7)] [7] (dz 1 rfl (kc_ zCE rfl (zf1 (-1) (by decide) (by decide)) (kc_ fn85 rfl (zqQ p ((-1:Int):Rat) hpl_ (by omega) (by omega) (by omega)) (dz 1 rfl (zad (za 4 rfl (tq_ rfl (jvl 11 rfl rfl) ?_)))))))));refine zl 1 rfl (te_ rfl (zc2 rfl rfl hm hfL rfl (hL (withL s (zbf d s bits out i p)) (zbZ p) hso1 hnf2) hone) (zl 17 rfl ?_));refine zao rfl (fun hb2n=>?_) (fun hb2n=>?_)
   .refine zo4 [(3,some (D.ptr 0 0)),(4,some (D.ptr 1 0)),(5,some (D.ptr 2 0)),(6,some (D.ptr 3 0)),(39,some (D.v (V.one (El.row afE s.q.g.us)))),(40,some (D.val (.int .i64 ((s.q.g.us.length:Nat):Int)))),(41,some (D.val (.int .i64 (i:Int))))] (fun _ _ h=>h) d12 s12 rfl rfl ⟨rfl,rfl,rfl,rfl,rfl,rfl,rfl,trivial⟩ (zl 4 rfl (tq_ rfl (jad (i+1) rfl) ?_));refine zl 2 rfl (zal 5 (zal 6 (zal 7 (zal 8 (zaK 5 rfl ?_)))));exact nx_ ⟨i+1,_,_,rfl,rfl,rfl,hi,by rw[zen hp,<-hout,zhw (by have h:(d (withL s (zbf d s bits out i p)) (zbZ p)).2.2=false:=(by simpa using hb2n);exact h)];simp only[zEK]⟩ rfl
   .refine zc 3 rfl ?_;have hb2:(d (withL s (zbf d s bits out i p)) (zbZ p)).2.2=true:=by simpa using hb2n
    haveI h1hb2:Hb (d (withL s (zbf d s bits out i p)) (zbZ p)).1 (KB i-4200):=hdm (withL s (zbf d s bits out i p)) hso1 i (zbZ p) (by exact hi) (by exact hnf) (by exact hb2);have h2hb2:Hb (-(d (withL s (zbf d s bits out i p)) (zbZ p)).1) (KB i-4200):=Hb.neg;haveI h3hb2:Br (d (withL s (zbf d s bits out i p)) (zbZ p)).1 135002:=h1hb2.limb (by omega);haveI:Br (zcV (-(d (withL s (zbf d s bits out i p)) (zbZ p)).1) true bits) 139101:=((zgJ (up:=true) (bits:=bits) h2hb2 (by omega)).mono (show _<=139100 by omega)).br;have hso_B_2:∀m∈(zbf d s bits out i p),Fq m.v 135001:=hso1.B;have hso_L_2:((zbf d s bits out i p)).length<=100:=hso1.ll;refine zc 1 rfl (tq_ rfl (jvl 11 rfl rfl) (zl 1 rfl (tc_ zCD rfl (zmi (withL s (zbf d s bits out i p)) hso_B_2 (by omega) (by show((zbf d s bits out i p)).length<=_;omega) (i:Int)) (zl 8 rfl ?_))));refine nf_ [7] [so 0 (D.bool true),so 3 (D.ptr 1 0),so 4 (D.ptr 5 0),so 5 _,so 8 (D.ptr 8 0),so 9 (D.v (V.one (El.row muE ((d (withL s (zbf d s bits out i p)) (zbZ p)).2.1)))),so 11 (D.val (.int .i64 (((zak (zbf d s bits out i p) (i:Int)).1:Nat):Int))),so 12 (D.val (.int .i64 (((zak (zbf d s bits out i p) (i:Int)).2:Nat):Int))),so 2003 (D.ptr 0 0),so 2004 (D.ptr 1 0),so 2005 (D.ptr 2 0),so 2006 (D.ptr 3 0),so 2039 (D.v (V.one (El.row afE s.q.g.us))),so 2040 (D.val (.int .i64 ((s.q.g.us.length:Nat):Int))),so 2041 (D.val (.int .i64 (i:Int)))] [_,hbq 43 (quL s.q++[El.row dcE s.path,Leaf.own 4 (n+((zbf d s bits out i p).length-out.length))]) q2,_,_,hgr 105 6 lmE (zbf d s bits out i p) (n+((zbf d s bits out i p).length-out.length)),hbq 3 [Leaf.val (.int .i64 (i:Int))] q6,hbq 38 (afL p) q7,none,hb_ 36 (qL ((d (withL s (zbf d s bits out i p)) (zbZ p)).1))] rfl rfl rfl ?_;refine zc 15 rfl (tc_ zCC rfl (zBc (qOf ((d (withL s (zbf d s bits out i p)) (zbZ p)).1)) ((d (withL s (zbf d s bits out i p)) (zbZ p)).1) (zaj _) (Br.use (by omega))) (zl 7 rfl ?_));refine nz_ [so 0 _,so 3 _,so 4 _,so 5 _,so 8 _,so 9 _,so 13 (D.val (.int .i64 (((zak (zbf d s bits out i p) (i:Int)).2:Nat):Int))),so 14 (D.val (.int .i64 (-1))),so 2003 _,so 2004 _,so 2005 _,so 2006 _,so 2039 _,so 2040 _,so 2041 _] [_,_,_,_,_,_,_,none,hb_ 36 (qL (-((d (withL s (zbf d s bits out i p)) (zbZ p)).1)))] rfl rfl (zc 4 rfl ?_);refine tc_ fn89 rfl (zrc (-(d (withL s (zbf d s bits out i p)) (zbZ p)).1) true bits h2hb2 (by omega) h0 h4) (zl 3 rfl ?_);refine mt_ [so 0 (D.bool true),so 3 (D.ptr 1 0),so 4 (D.ptr 5 0),so 8 (D.ptr 8 0),so 9 (D.v (V.one (El.row muE ((d (withL s (zbf d s bits out i p)) (zbZ p)).2.1)))),so 59 (D.bool (zck (zbf d s bits out i p) i true (zcV (-(d (withL s (zbf d s bits out i p)) (zbZ p)).1) true bits))),so 2003 (D.ptr 0 0),so 2004 (D.ptr 1 0),so 2005 (D.ptr 2 0),so 2006 (D.ptr 3 0),so 2039 (D.v (V.one (El.row afE s.q.g.us))),so 2040 (D.val (.int .i64 ((s.q.g.us.length:Nat):Int))),so 2041 (D.val (.int .i64 (i:Int)))] [hbq 87 [Leaf.val (ifV tD cs)] q1,hbq 43 (quL s.q++[El.row dcE s.path,Leaf.own 4 (n+((zbf d s bits out i p).length-out.length))]) q2,hbq 3 [Leaf.val (.int .i64 bits)] q3,hb_ 43 scZ,hgr 105 6 lmE (zbf d s bits out i p) (n+((zbf d s bits out i p).length-out.length)),hbq 3 [Leaf.val (.int .i64 (i:Int))] q6,hbq 38 (afL p) q7,none,hb_ 36 (qL (zcV (-(d (withL s (zbf d s bits out i p)) (zbZ p)).1) true bits))] ?_ ?_
    .refine dr_ 0 [] [] (dz 1 rfl ?_);by_cases hk2:(zak (zbf d s bits out i p) (i:Int)).2=0
     .refine kq_ rfl (eqT rfl) (dz 13 rfl (zgQ (zck (zbf d s bits out i p) i true (zcV (-(d (withL s (zbf d s bits out i p)) (zbZ p)).1) true bits)) rfl (by exact(zfO (.inl hk2)).symm) (zad ?_)));exact mx_ rfl
     .refine kq_ rfl (eqF rfl) (dz 3 rfl ?_);obtain⟨y,hy,_,_,hly,hy0,hyl⟩:=zbJ hk2;haveI hyB:=hso_B_2 y (zEn hy);refine kq_ rfl (zex (r:=4) (n:=(n+((zbf d s bits out i p).length-out.length))) (x:=V.one (Leaf.own 4 (n+((zbf d s bits out i p).length-out.length)))) (x':=V.one (El.row lmE (zbf d s bits out i p))) (zcA rfl rfl rfl (by decide) ty23 rfl) (RowAt.ofE lmE (zbf d s bits out i p) rfl (by decide)) (by decide) (.inr ⟨rfl,rfl⟩)) (dz 1 rfl ?_);refine kq_ rfl (jsb ((zak (zbf d s bits out i p) (i:Int)).2-1) rfl) (kq_ rfl (jix ((zak (zbf d s bits out i p) (i:Int)).2-1) hy rfl) (kq_ rfl (jft rfl) (kq_ rfl (jlr rfl) ?_)));refine kc_ zuE rfl (zui (qOf ((zcV (-(d (withL s (zbf d s bits out i p)) (zbZ p)).1) true bits))) ((zcV (-(d (withL s (zbf d s bits out i p)) (zbZ p)).1) true bits)) (zaj _) (Br.use (by omega)) y.v (y.v.q) rfl (Fq.use (x:=y.v) (by omega))) (dz 1 rfl ?_);by_cases hc2:zcV (-(d (withL s (zbf d s bits out i p)) (zbZ p)).1) true bits<lv (zbf d s bits out i p) (zak (zbf d s bits out i p) (i:Int)).2
      .refine kq_ rfl (eqT rfl (by rw[zkM,<-hly];exact hc2)) (dz 1 rfl (zgQ (zck (zbf d s bits out i p) i true (zcV (-(d (withL s (zbf d s bits out i p)) (zbZ p)).1) true bits)) rfl (by exact(zfO (.inr hc2)).symm) (zad ?_)));exact mx_ rfl
      .refine kq_ rfl (eqF rfl (fun e=>hc2 (by rw[hly];exact zkM.1 e))) (dz 1 rfl (zgQ (zck (zbf d s bits out i p) i true (zcV (-(d (withL s (zbf d s bits out i p)) (zbZ p)).1) true bits)) rfl (by exact(zlo hk2 hc2).symm) (zad ?_)));exact mx_ rfl
    .refine zao rfl (fun hs2=>?_) (fun hs2=>?_)
     .refine zc 8 rfl (te_ rfl (zae rfl znM zgC zlj rfl (by decide) (by decide) rfl (by decide) rfl) (te_ rfl (jap (e:=lmE) (⟨(i:Int),true,(qOf ((zcV (-(d (withL s (zbf d s bits out i p)) (zbZ p)).1) true bits))),(d (withL s (zbf d s bits out i p)) (zbZ p)).2.1⟩) rfl rfl) (zl 3 rfl ?_)));refine zcT [(3,some (D.ptr 0 0)),(4,some (D.ptr 1 0)),(5,some (D.ptr 2 0)),(6,some (D.ptr 3 0)),(39,some (D.v (V.one (El.row afE s.q.g.us)))),(40,some (D.val (.int .i64 ((s.q.g.us.length:Nat):Int)))),(41,some (D.val (.int .i64 (i:Int))))] d12 s12 rfl rfl ⟨rfl,rfl,rfl,rfl,rfl,rfl,rfl,trivial⟩ (zl 4 rfl (tq_ rfl (jad (i+1) rfl) (zl 2 rfl ?_)));refine zal 5 (zal 6 (zal 8 (zaK 5 rfl ?_)));exact nx_ ⟨i+1,_,_,rfl,rfl,rfl,hi,by rw[zen hp,<-hout,zj8 (by exact hb2) (by exact hs2)];rfl⟩ rfl
     .refine zc 1 rfl (zcT [(3,some (D.ptr 0 0)),(4,some (D.ptr 1 0)),(5,some (D.ptr 2 0)),(6,some (D.ptr 3 0)),(39,some (D.v (V.one (El.row afE s.q.g.us)))),(40,some (D.val (.int .i64 ((s.q.g.us.length:Nat):Int)))),(41,some (D.val (.int .i64 (i:Int))))] d12 s12 rfl rfl ⟨rfl,rfl,rfl,rfl,rfl,rfl,rfl,trivial⟩ (zl 4 rfl (tq_ rfl (jad (i+1) rfl) ?_)));refine zl 2 rfl (zal 5 (zal 6 (zal 8 (zaK 5 rfl ?_))));exact nx_ ⟨i+1,_,_,rfl,rfl,rfl,hi,by rw[zen hp,<-hout,zhv (by exact hs2)];simp only[zEK]⟩ rfl
 .refine tq_ rfl (ltF rfl) (zl 10 rfl ?_);have hie:i=s.q.g.us.length:=by omega
  rw[hie] at hout;refine zc 1 rfl (tq_ rfl (jvl 11 rfl rfl) (zl 4 rfl ?_));exact r2_ hq_ rfl (by unfold zt4;rw[<-hout] <;> rfl)
end Go.Proofs.YtjeiacoegppoiaaGreatDoor
namespace Rc
open Go Go.RowKit
def ind(r:Rw):Rw->Rat:=fun x=>if x=r then 1 else 0
theorem zgc(r:Rw):ind r r=1:=if_pos rfl
theorem zrV{r x:Rw}(h:x≠r):ind r x=0:=if_neg h
theorem zfb{a b:Rw}(h:zbd a b=true):b≠a:=fun e=>by rw[e,zeU] at h;exact absurd h (by decide)
theorem ziX{r:Rw}:∀{l:List Mu},(∀x∈l,x.r≠r)->W (ind r) l=0
 |[],_=>rfl
 |m::l,h=>by
  have h1:=zrV (h m (by simp));have h2:=ziX (l:=l) (fun x hx=>h x (by simp[hx]));simp only[W,h1,h2];grind
theorem Mu.ext'{a b:Mu}(h1:a.r=b.r)(h2:a.c=b.c):a=b:=by cases a;cases b;simp at *;exact⟨h1,h2⟩
theorem zkT:∀{a b:List Mu},CanM a->CanM b->(∀r,W (ind r) a=W (ind r) b)->a=b
 |[],[],_,_,_=>rfl
 |[],y::b,_,hb,h=>by
  have h1:=h y.r;have h2:=ziX (r:=y.r) (l:=b) (fun x hx=>zfb (hb.2.1 x hx));have h3:=hb.1.2;simp only[W,zgc,h2] at h1;exfalso;grind
 |x::a,[],ha,_,h=>by
  have h1:=h x.r;have h2:=ziX (r:=x.r) (l:=a) (fun y hy=>zfb (ha.2.1 y hy));have h3:=ha.1.2;simp only[W,zgc,h2] at h1;exfalso;grind
 |x::a,y::b,ha,hb,h=>by
  have hxa:=ziX (r:=x.r) (l:=a) (fun z hz=>zfb (ha.2.1 z hz));have hyb:=ziX (r:=y.r) (l:=b) (fun z hz=>zfb (hb.2.1 z hz));have px:=ha.1.2;have py:=hb.1.2;by_cases he:x.r=y.r
  .have h1:=h x.r;rw[he] at hxa;rw[he] at h1;simp only[W,he,zgc,hxa,hyb] at h1;have hc:x.c.q=y.c.q:=by grind
   have hxy:x=y:=Mu.ext' he (by rw[ha.1.1,hb.1.1,hc]);subst hxy;rw[zkT ha.2.2 hb.2.2 (fun r=>by have:=h r;simp only[W] at this;grind)]
  .cases hl:zbd x.r y.r
   .have hyx:=zdp hl he;have h1:=h y.r;have h2:=ziX (r:=y.r) (l:=a) (fun z hz=>zfb (zcJ hyx (ha.2.1 z hz)));simp only[W,zgc,zrV he,h2,hyb] at h1;exfalso;grind
   .have h1:=h x.r;have h2:=ziX (r:=x.r) (l:=b) (fun z hz=>zfb (zcJ hl (hb.2.1 z hz)));simp only[W,zgc,zrV (fun e=>he e.symm),h2,hxa] at h1;exfalso;grind
def zcv(l:List Mu):List Mu:=l.foldl (fun a m=>zbT a m.r m.c.q) []
def zi7(l:List Mu):Prop:=∀m∈l,m.c=qOf m.c.q/\0<=m.c.q
theorem zjL(φ:Rw->Rat):∀(l a:List Mu),W φ (l.foldl (fun a m=>zbT a m.r m.c.q) a)=W φ a+W φ l
 |[],a=>by simp only[List.foldl_nil,W];grind
 |m::l,a=>by rw[List.foldl_cons,zjL φ l,zo1];simp only[W];grind
theorem zwP(φ:Rw->Rat)(l:List Mu):W φ (zcv l)=W φ l:=by unfold zcv;rw[zjL];simp only[W];grind
theorem zjM:∀{l a:List Mu},CanM a->zi7 l->CanM (l.foldl (fun a m=>zbT a m.r m.c.q) a)
 |[],a,h,_=>h
 |m::l,a,h,hl=>zjM (l:=l) (zif (hl m (by simp)).2 h) (fun x hx=>hl x (by simp[hx]))
theorem zoH{l:List Mu}(h:zi7 l):CanM (zcv l):=zjM (a:=[]) trivial h
theorem zkL(a b:List Mu):zcv (a++b)=b.foldl (fun a m=>zbT a m.r m.c.q) (zcv a):=by unfold zcv;rw[zEO]
def zn1(c:Rat)(b:List Mu):List Mu:=b.map fun m=>⟨m.r,qOf (c*m.c.q)⟩
theorem zoA(c:Rat):∀(b a:List Mu),(zn1 c b).foldl (fun a m=>zbT a m.r m.c.q) a=zaV a b c
 |[],a=>rfl
 |m::b,a=>by
  show(zn1 c b).foldl _ (zbT a m.r (qOf (c*m.c.q)).q)=zaV (zbT a m.r (m.c.q*c)) b c;rw[zaj,Rat.mul_comm c,zoA c b]
theorem zu1(a b:List Mu)(c:Rat):zcv (a++zn1 c b)=zaV (zcv a) b c:=by rw[zkL,zoA]
def Srt(l:List Mu):Prop:=l.Pairwise fun a b=>zbd b.r a.r=false
def zfc(A:List Mu)(x:Mu)(j:Nat):List Mu:=A.take j++x::A.drop j
theorem zhE{A:List Mu}{x:Mu}{j:Nat}:(zfc A x j).length=A.length+1:=by
 unfold zfc;simp only[zEC,zED,List.length_cons,zEM];omega
theorem zux{A:List Mu}{x:Mu}:zfc A x A.length=A++[x]:=by unfold zfc;rw[zEJ,List.drop_length]
theorem zop{A:List Mu}{x:Mu}{j:Nat}(hj:j<=A.length)(R:List Mu):(zfc A x j++R)[j]?=some x:=by
 unfold zfc;rw[zEP,List.getElem?_append_right (by rw[zED];omega),zED,Nat.min_eq_left hj,Nat.sub_self];rfl
theorem zlT{A:List Mu}{x y:Mu}{j:Nat}(h0:0<j)(hj:j<=A.length)(hy:A[j-1]?=some y)(R:List Mu):(zfc A x j++R)[j-1]?=some y:=by
 unfold zfc;rw[zEP,zEu (by rw[zED];omega),List.getElem?_take,if_pos (by omega),hy]
theorem zrS{A:List Mu}{x y:Mu}{j:Nat}(h0:0<j)(hj:j<=A.length)(hy:A[j-1]?=some y)(R:List Mu):((zfc A x j++R).set j y).set (j-1) x=zfc A x (j-1)++R:=by
 obtain⟨k,rfl⟩:∃k,j=k+1:=⟨j-1,by omega⟩;simp only[Nat.add_sub_cancel] at hy ⊢;have hk:=(zEo.1 hy).1;unfold zfc;have e1:A.take (k+1)=A.take k++[y]:=zaP hy;have e2:A.drop k=y::A.drop (k+1):=zbc hy;have hl:(A.take k).length=k:=by rw[zED];omega
 rw[e1,e2];generalize A.take k=T at *;generalize A.drop (k+1)=D at *;subst hl;simp[List.set_append]
theorem zhR(φ:Rw->Rat):∀(a b:List Mu),W φ (a++b)=W φ a+W φ b
 |[],b=>by simp only[List.nil_append,W];grind
 |m::a,b=>by simp only[List.cons_append,W,zhR φ a b];grind
theorem zBN(φ:Rw->Rat){A:List Mu}{x:Mu}{j:Nat}:W φ (zfc A x j)=W φ A+x.c.q*φ x.r:=by
 have h:W φ A=W φ (A.take j++A.drop j):=by rw[List.take_append_drop]
 unfold zfc;rw[h,zhR,zhR];simp only[W];grind
theorem zoo{A:List Mu}{x m:Mu}{j:Nat}:m∈zfc A x j↔m=x\/m∈A:=by
 have h:m∈A↔m∈A.take j++A.drop j:=by rw[List.take_append_drop]
 unfold zfc;rw[h];simp only[zEH,zEQ];constructor
 .rintro(h|h|h) <;> simp[h]
 .rintro(h|h|h) <;> simp[h]
def Gt(A:List Mu)(x:Mu)(j:Nat):Prop:=∀m∈A.drop j,zbd x.r m.r=true
theorem Gt.start{A:List Mu}{x:Mu}:Gt A x A.length:=fun m hm=>by rw[List.drop_length] at hm;simp at hm
theorem Gt.step{A:List Mu}{x y:Mu}{j:Nat}(h:Gt A x j)(h0:0<j)(hy:A[j-1]?=some y)(hl:zbd x.r y.r=true):Gt A x (j-1):=by
 intro m hm;obtain⟨k,rfl⟩:∃k,j=k+1:=⟨j-1,by omega⟩;simp only[Nat.add_sub_cancel] at hy hm;rw[zbc hy] at hm;rcases zEQ.1 hm with rfl|hm
 .exact hl
 .exact h m hm
theorem zpF{a b:Rw}(h:zbd a b=true):zbd b a=false:=by
 cases h':zbd b a
 .rfl
 .have:=zcJ h h';rw[zeU] at this;exact absurd this (by decide)
theorem zir{a b c:Rw}(h1:zbd b a=false)(h2:zbd c b=false):zbd c a=false:=by
 cases h:zbd c a
 .rfl
 .by_cases e:a=b
  .subst e;rw[h] at h2;exact absurd h2 (by decide)
  .have:=zcJ h (zdp h1 (fun e'=>e e'.symm));rw[this] at h2;exact absurd h2 (by decide)
theorem Srt.ins{A:List Mu}{x:Mu}{j:Nat}(hA:Srt A)(hj:j<=A.length)(hg:Gt A x j)(hl:j=0 \/ ∃y,A[j-1]?=some y/\zbd x.r y.r=false):Srt (zfc A x j):=by
 have h:Srt (A.take j++A.drop j):=by rw[List.take_append_drop];exact hA
 unfold Srt at h;rw[List.pairwise_append] at h;obtain⟨h1,h2,h3⟩:=h;unfold Srt zfc;rw[List.pairwise_append];refine⟨h1,List.pairwise_cons.2 ⟨fun m hm=>zpF (hg m hm),h2⟩,fun a ha b hb=>?_⟩;rcases zEQ.1 hb with rfl|hb
 .rcases hl with rfl|⟨y,hy,hxy⟩
  .simp at ha
  .obtain⟨k,rfl⟩:∃k,j=k+1:=⟨j-1,by
    rcases Nat.eq_zero_or_pos j with e|e
    .subst e;simp at ha
    .omega⟩
   simp only[Nat.add_sub_cancel] at hy;rw[zaP hy] at ha h1;rcases zEH.1 ha with ha|ha
   .have:=(List.pairwise_append.1 h1).2.2 a ha y (by simp);exact zir this hxy
   .simp at ha;subst ha;exact hxy
 .exact h3 a ha b hb
structure InsOk(l u:List Mu)(i:Nat):Prop where
 len:u.length=l.length
 w:∀φ,W φ u=W φ l
 mem:∀m∈u,m∈l
 srt:Srt (u.take i)
theorem InsOk.start(l:List Mu):InsOk l l 1:=⟨rfl,fun _=>rfl,fun _ h=>h,by
 cases l with
 |nil=>exact List.Pairwise.nil
 |cons m l=>exact List.pairwise_singleton _ _⟩
theorem zlS{u:List Mu}{i:Nat}{x:Mu}(hx:u[i]?=some x):u=zfc (u.take i) x i++u.drop (i+1):=by
 have hi:=(zEo.1 hx).1;have hl:(u.take i).length=i:=by rw[zED];omega
 conv=>lhs;rw[<-List.take_append_drop i u,zbc hx]
 have:zfc (u.take i) x i=u.take i++[x]:=by
  have:=zux (A:=u.take i) (x:=x);rwa [hl] at this
 rw[this,zEP];rfl
theorem InsOk.next{l u:List Mu}{i j:Nat}{x:Mu}(h:InsOk l u i)(hx:u[i]?=some x)(hj:j<=i)(hg:Gt (u.take i) x j)(hl:j=0 \/ ∃y,(u.take i)[j-1]?=some y/\zbd x.r y.r=false) :
  InsOk l (zfc (u.take i) x j++u.drop (i+1)) (i+1):=by
 have hi:=(zEo.1 hx).1;have htl:(u.take i).length=i:=by rw[zED];omega
 have hu:=zlS hx;refine⟨?_,fun φ=>?_,fun m hm=>?_,?_⟩
 .rw[zEC,zhE,htl,zEM,<-h.len];omega
 .have:=h.w φ;rw[hu] at this;rw[zhR,zBN] at this ⊢;exact this
 .refine h.mem m ?_;rw[hu];rcases zEH.1 hm with hm|hm
  .exact List.mem_append_left _ (zoo.2 (zoo.1 hm))
  .exact List.mem_append_right _ hm
 .rw[List.take_append_of_le_length (by rw[zhE,htl];exact zEq _),zEV (by rw[zhE,htl];exact zEq _)];exact h.srt.ins (by omega) hg hl
structure GrpOk(u out:List Mu)(i:Nat):Prop where
 can:CanM out
 w:∀r,W (ind r) out=W (ind r) (u.take i)
 lt:∀x∈out,∀(j:Nat) (m:Mu),i<=j->u[j]?=some m->zbd x.r m.r=true
 len:out.length<=i
theorem GrpOk.start(u:List Mu):GrpOk u [] 0:=⟨trivial,fun r=>by simp,fun x hx=>by simp at hx,zEq _⟩
theorem zqI{u:List Mu}(h:Srt u){i j:Nat}{x y:Mu}(hij:i<j)(hx:u[i]?=some x)(hy:u[j]?=some y):zbd y.r x.r=false:=by
 obtain⟨h1,rfl⟩:=zEo.1 hx;obtain⟨h2,rfl⟩:=zEo.1 hy;exact List.pairwise_iff_getElem.1 h i j h1 h2 hij
structure InOk(u:List Mu)(r:Rw)(i0 i:Nat)(sum:Rat):Prop where
 le:i0<=i
 all:∀(j:Nat) (m:Mu),i0<=j->j<i->u[j]?=some m->m.r=r
 w:∀r',W (ind r') (u.take i)=W (ind r') (u.take i0)+(if r=r' then sum else 0)
 pos:0<=sum
theorem InOk.start(u:List Mu)(r:Rw)(i:Nat):InOk u r i i 0:=⟨zEq _,fun j m h1 h2=>by omega,fun r'=>by split <;> grind,by grind⟩
theorem InOk.step{u:List Mu}{r:Rw}{i0 i:Nat}{sum:Rat}{x:Mu}(h:InOk u r i0 i sum)(hx:u[i]?=some x)(hr:x.r=r)(hp:0<=x.c.q):InOk u r i0 (i+1) (sum+x.c.q):=by
 refine⟨by have:=h.le;omega,fun j m h1 h2 hm=>?_,fun r'=>?_,by have:=h.pos;grind⟩
 .by_cases e:j=i
  .subst e;rw[hx] at hm;cases hm;exact hr
  .exact h.all j m h1 (by omega) hm
 .rw[zaP hx,zzY,h.w r',hr];unfold ind;split <;> grind
theorem GrpOk.next{u out:List Mu}{i0 i:Nat}{sum:Rat}{r:Rw}{m0:Mu}(hu:Srt u)(h:GrpOk u out i0)(hi:InOk u r i0 i sum)(h0:u[i0]?=some m0)(hr0:m0.r=r)(hlt:i0<i)(hstop:∀m,u[i]?=some m->m.r≠r) :
  GrpOk u (if 0<sum then out++[⟨r,qOf sum⟩] else out) i:=by
 have key:∀(j:Nat) (m:Mu),i<=j->u[j]?=some m->zbd r m.r=true:=by
  intro j m hj hm;have hji:=(zEo.1 hm).1;obtain⟨y,hy⟩:∃y,u[i]?=some y:=⟨_,zEm (by omega)⟩;have h1:=zqI hu (i:=i0) (j:=i) (by omega) h0 hy;rw[hr0] at h1;have h2:=zdp h1 (hstop y hy);by_cases e:j=i
  .subst e;rw[hy] at hm;cases hm;exact h2
  .have h3:=zqI hu (i:=i) (j:=j) (by omega) hy hm;by_cases e2:m.r=y.r
   .rw[e2];exact h2
   .exact zcJ h2 (zdp h3 e2)
 have hlow:∀x∈out,zbd x.r r=true:=fun x hx=>hr0 ▸ h.lt x hx i0 m0 (zEq _) h0;have hpos:=hi.pos;split
 .rename_i hp;refine⟨?_,fun r'=>?_,fun x hx j m hj hm=>?_,?_⟩
  .have:∀{a:List Mu},CanM a->(∀x∈a,zbd x.r r=true)->CanM (a++[⟨r,qOf sum⟩]):=by
    intro a
    induction a with
    |nil=>intro _ _;exact⟨⟨by rw[zaj],by rw[zaj];exact hp⟩,fun x hx=>by simp at hx,trivial⟩
    |cons y a ih=>
     intro hc hx;refine⟨hc.1,fun z hz=>?_,ih hc.2.2 (fun z hz=>hx z (by simp[hz]))⟩;rcases zEH.1 hz with hz|hz
     .exact hc.2.1 z hz
     .simp at hz;subst hz;exact hx y (by simp)
   exact this h.can hlow
  .rw[zzY,h.w r',hi.w r'];unfold ind;simp only[zaj];split <;> grind
  .rcases zEH.1 hx with hx|hx
   .exact h.lt x hx j m (by omega) hm
   .simp at hx;subst hx;exact key j m hj hm
  .have:=h.len;simp;omega
 .rename_i hp;have hz:sum=0:=by grind
  refine⟨h.can,fun r'=>?_,fun x hx j m hj hm=>h.lt x hx j m (by omega) hm,by have:=h.len;omega⟩;rw[h.w r',hi.w r',hz];split <;> grind
theorem zyf{l u out:List Mu}{n:Nat}(hc:zi7 l)(h1:InsOk l u n)(h2:GrpOk u out u.length):out=zcv l:=
 zkT h2.can (zoH hc) (fun r=>by rw[h2.w r,zEJ,h1.w,zwP])
def zl7(a b:Int):Int:=if a<b then -1 else if b<a then 1 else 0
def zEl(a b:Rw):Int:=if zl7 a.kind b.kind≠0 then zl7 a.kind b.kind else if zl7 a.idx b.idx≠0 then zl7 a.idx b.idx else if zl7 a.lo b.lo≠0 then zl7 a.lo b.lo else if zl7 a.hi b.hi≠0 then zl7 a.hi b.hi else 0
def zAr:List Int->Int
 |[]=>0
 |x::l=>if x≠0 then x else zAr l
theorem zBa:D.agg [Leaf.val (.bool false),nilL,nilL]=D.agg (qL 0):=by
 unfold qL;rw[zet Rat.le_refl,zbm,zbn,zai];rfl
def i64E:El Int:=⟨fun z=>[Leaf.val (.int .i64 z)],1,fun _=>rfl,fun _=>rfl⟩
theorem zsr{a b:Rw}:zEl a b<0↔zbd a b=true:=by
 rw[zgb];unfold zEl zl7
 repeat' split
 all_goals omega
section
variable {P:Program}{ops:Array Oper}{X:List Nat}{o:Oper}{Γ:Gam}{H:Hp}
theorem zvD{x:Operand}{t i off n:Nat}{e:HE}(ho:o.op = .load t x)(hx:opD Γ x=some (D.ptr i off))(hi:H[i]?=some (some e))(hXi:i ∉ X)(ht:TyIs P t true n)
  (hrow:e.row=none) (hn:off+n<=e.ls.length) {ls:List Leaf} (hls:(e.ls.drop off).take n=ls):Jq P ops X o Γ H (D.agg ls):=by
 intro w0 A0 N Γ2 H2 E a w hs hX hG;obtain⟨h1,h2⟩:=za8 hs hG (x:=x) (by rw[ho];simp[Op.operands]) hx;have h2:a.eval x = .pointer (some ⟨E.b i,off,none⟩):=h2;obtain⟨g1,g2⟩:=hG.boxes i e (hX i e hXi hi);refine⟨trivial,?_⟩;obtain⟨cs,rest,hc,hd,_⟩:=HE.block g1 (HE.box g1 hrow).1;have hlen:=hd.length;refine⟨.agg ((cs.drop off).take n).toArray,?_,_,rfl,hls ▸ (hd.drop off).take n⟩;have hl:=zgP (P:=P) hc n (by simp;omega) (o:=off);have hcs:(((cs++rest).drop off).take n)=((cs.drop off).take n):=by
  rw[List.drop_append_of_le_length (by omega),List.take_append_of_le_length (by simp;omega)]
 rw[hcs] at hl;simp[execOp,ho,h2,Instr.loadAt,Instr.sureAddr,loadVar,ht.isAgg,ht.sizeOf,hl]
def zkJ(P:Program)(s f:Nat):Bool:=match P.underlying s with
 |some (.struct fields)=>match fields[f]? with
  |some fl=>fl.offset == 0&&(fl.byteOffset == 0&&(match P.info? fl.type with|some i=>i.size == 0|none=>false))
  |none=>false
 |_=>false
theorem zkI{P:Program}{s f:Nat}(h:zkJ P s f=true):∃fields fl,P.underlying s=some (.struct fields)/\fields[f]?=some fl/\fl.offset=0/\fl.byteOffset=0/\∃i,P.info? fl.type=some i/\i.size=0:=by
 unfold zkJ at h;split at h
 .rename_i fields hu;split at h
  .rename_i fl hfl;simp only[zEA,beq_iff_eq] at h;obtain⟨h1,h2,h3⟩:=h;split at h3
   .rename_i i hi;exact⟨fields,fl,hu,hfl,h1,h2,i,hi,by simpa using h3⟩
   .cases h3
  .cases h
 .cases h
theorem zk5{x:Operand}{s f i:Nat}{e:HE}(ho:o.op = .fieldAddr s x f)(hx:opD Γ x=some (D.ptr i 0))(hi:H[i]?=some (some e))(hXi:i ∉ X)(hrow:e.row=none)(h0:P.cellsOf e.t=0)(hf:zkJ P s f=true):Jq P ops X o Γ H (D.ptr i 0):=by
 intro w0 A0 N Γ2 H2 E a w hs hX hG;obtain⟨h1,h2⟩:=za8 hs hG (x:=x) (by rw[ho];simp[Op.operands]) hx;have h2:a.eval x = .pointer (some ⟨E.b i,0,none⟩):=h2;obtain⟨g1,g2⟩:=hG.boxes i e (hX i e hXi hi);obtain⟨fields,fl,hu,hfl,ho1,ho2,inf,hinf,hsz⟩:=zkI hf;obtain⟨cs,rest,hc,_,_⟩:=HE.block g1 (HE.box g1 hrow).1;have hsh:w.shape? (E.b i)=some (e.t,(cs++rest).toArray.size):=by unfold World.shape?;rw[hc]
 refine⟨h1,.pointer (some ⟨E.b i,0,none⟩),?_,rfl⟩;simp[execOp,ho,h2,Instr.fieldAt,Instr.sureAddr,run_underlying hu,hfl,fieldPlace,Go.sizeOf,typeInfo,hinf,hsz,partAt,byteOf,noView,viewAt,Go.shape,hsh,h0,ho1,ho2,Sem.run]
theorem zte{t u:Nat}{x y:Operand}{a b:ByteArray}{d:Bool}(ho:o.op = .binOp .neq t x y u)(hx:opD Γ x=some (D.val (.string a)))(hy:opD Γ y=some (D.val (.string b)))(hd:(a.toList != b.toList)=d):Jq P ops X o Γ H (D.bool d):=by
 intro w0 A0 N Γ2 H2 E a' w hs hX hG;have e1:=za0 hs hG (x:=x) (by rw[ho];simp[Op.operands]) hx;have e2:=za0 hs hG (x:=y) (by rw[ho];simp[Op.operands]) hy;refine⟨trivial,.bool d,?_,rfl,rfl⟩;subst hd;simp[execOp,ho,e1,e2,eqGuard,binOp,Op.stringOp,bne]
end
@[reducible] def hrw{α:Type}(t sz:Nat)(e:El α)(l:List α):Option HE:=some ⟨t,e.all l,some sz,none⟩
section
variable {α:Type}{P:Program}{ops:Array Oper}{X:List Nat}{o:Oper}{Γ:Gam}{H:Hp}{i t sz:Nat}
theorem El.len_sz{e:El α}{l:List α}{n sz:Nat}(hn:l.length=n)(hs:e.sz=sz):(e.all l).length=n*sz:=by rw[El.all_length,hn,hs]
theorem zgv{x y:Operand}{t' u n:Nat}{k:IntKind}{z:Int}{b:Bool}(e:El α)(l:List α)(j:Nat)(ho:o.op = .indexAddr t' x y)(hx:opD Γ x=some (D.own i n))(hy:opD Γ y=some (D.val (.int k z)))(hi:H[i]?=some (hrw t sz e l))(hXi:i ∉ X)
  (ht:P.underlying t'=some (.slice u)) (hu:TyIs P u b sz) (hj:j<n) (hn:l.length=n) (hs:e.sz=sz:=by rfl) (hsz:0<sz:=by decide) (hz:z=(j:Int):=by first|rfl|omega):Jq P ops X o Γ H (D.ptr i (j*sz)):=by
 subst hz;exact zaq ho hx hy hi hXi (El.len_sz hn hs) hsz ht hu (by omega) (by omega) rfl
theorem El.get_part{e:El α}{l:List α}{j:Nat}{v:α}(hv:l[j]?=some v)(fo n:Nat)(hf:fo+n<=e.sz):((e.all l).drop (j*e.sz+fo)).take n=((e.f v).drop fo).take n:=by
 obtain⟨h1,rfl⟩:=zEo.1 hv;have h:=El.all_get e h1;rw[<-h,List.drop_take,List.drop_drop,List.take_take,Nat.min_eq_left (by omega)]
theorem El.fit{e:El α}{l:List α}{j:Nat}{v:α}(hv:l[j]?=some v):j*e.sz+e.sz<=(e.all l).length:=by
 have h1:=(zEo.1 hv).1;rw[El.all_length];have:=zEx e.sz h1;rw[Nat.succ_mul] at this;exact this
theorem zi5{x:Operand}{t' n fo:Nat}{v:α}{ls:List Leaf}(e:El α)(l:List α)(j:Nat)(ho:o.op = .load t' x)(hx:opD Γ x=some (D.ptr i (j*sz+fo)))(hi:H[i]?=some (hrw t sz e l))(hXi:i ∉ X)(ht:TyIs P t' true n)
  (hv:l[j]?=some v) (hls:((e.f v).drop fo).take n=ls) (hs:e.sz=sz:=by rfl) (hf:fo+n<=sz:=by decide) (hn:0<n:=by decide):Jq P ops X o Γ H (D.agg ls):=by
 subst hs;refine zaJ ho hx hi hXi ht hn ?_ ?_
 .have:=El.fit (e:=e) hv;show j*e.sz+fo+n<=(e.all l).length;omega
 .rw[<-hls];exact El.get_part hv fo n hf
theorem zph{e:El α}{l:List α}{j:Nat}(v:α)(hj:j<l.length):splice (e.all l) (j*e.sz) (e.f v)=e.all (l.set j v):=by
 unfold splice;rw[El.all_take,e.len,<-Nat.succ_mul,El.all_drop,List.set_eq_take_append_cons_drop,if_pos hj,El.all_append];simp only[El.all,zEP]
theorem zD7{x y:Operand}{t' n:Nat}(e:El α)(l:List α)(j:Nat)(v:α){b:Bool}(ho:o.op = .store t' x y)(hx:opD Γ x=some (D.ptr i (j*sz)))(hy:opD Γ y=some (D.agg (e.f v)))(hi:H[i]?=some (hrw t sz e l))(ht:TyIs P t' b sz)
  (hj:j<l.length) (hs:e.sz=sz:=by rfl) (hsz:0<sz:=by decide):Je P ops o Γ H none (H.set i (hrw t sz e (l.set j v))):=by
 subst hs;refine zaX (v:=V.agg (e.f v)) ho hx hy hi ht (e.len v) hsz ?_ (zph v hj);have:=El.fit (e:=e) (zEm hj);show j*e.sz+e.sz<=(e.all l).length;exact this
theorem zxb{x y:Operand}{t' n:Nat}(e:El α)(l:List α)(j:Nat)(v:α){b:Bool}(ho:o.op = .store t' x y)(hx:opD Γ x=some (D.ptr i (j*sz)))(hy:opD Γ y=some (D.agg (e.f v)))(hi:H[i]?=some (hrw t sz e l))(ht:TyIs P t' b sz)
  (hj:j<l.length) (hs:e.sz=sz:=by rfl) (hsz:0<sz:=by decide):∀H2:Hp,H2[i]?=H[i]?->Je P ops o Γ H2 none (H2.set i (hrw t sz e (l.set j v))):=fun _ hH=>zD7 (n:=n) e l j v ho hx hy (hH.trans hi) ht hj hs hsz
end
section
variable {P:Program}{ops:Array Oper}{X:List Nat}{o:Oper}{Γ:Gam}{H:Hp}
theorem zbl{x:Operand}{ls:List Leaf}(ho:o.op = .nilCheck x)(hx:opD Γ x=some (D.rep (zaU ls))):Jq P ops X o Γ H (D.rep (zaU ls)):=by
 intro w0 A0 N Γ2 H2 E a w hs hX hG;obtain⟨h0,h1⟩:=za8 hs hG (x:=x) (by rw[ho];simp[Op.operands]) hx;obtain⟨ad,h2,h3⟩:=h1;exact⟨h0,.pointer (some ad),by simp[execOp,ho,h2],ad,rfl,h3⟩
theorem zmv{t elem len sz:Nat}{parts:Array (Nat×Operand)}{zs ls:List Leaf}{lp:List (Nat×List Leaf)}{b:Bool}(ho:o.op = .buildSlice t len parts)(ht:P.underlying t=some (.slice elem))(hsz:TyIs P elem b sz)
  (hz:TyZero P elem zs) (hzl:zs.length=sz) (hsz0:0<sz) (hlen:0<len) (hp:zfs Γ parts.toList=some lp) (hbig:len*sz<=16777216)
  (hf:zkH (fun i=>some (i*sz,sz)) (zg1 (len*sz) zs) lp=some ls) (hcl:clL ls=true:=by rfl):Je P ops o Γ H (some (D.rep (zd3 len ls))) H:=by
 intro w0 A0 N Γ2 a w Q K hs hN hSt hK;obtain⟨E,hG⟩:=hSt;obtain⟨z,hzr,hzd⟩:=hz.run w E.A;obtain⟨h1,h2⟩:=zer parts.toList lp (zgi (.inr ⟨len,ho⟩) hs hG) hp;obtain⟨cs,hc1,hc2⟩:=zhH (A:=E.A) (w:=w) (places:=fun i=>some (i*sz,sz)) (parts.toList.map fun p=>(p.1,a.eval p.2)) lp ((Array.range (len*sz)).map (z.cells[· % z.cells.size]!)) _ ls
  (ze3 hzd (by omega) (len*sz)) h1 h2 hf
 have hb:=zbK w (.cells cs elem);have hG':=hG.grow hb;have hlm:len<=16777216:=zEw (Nat.le_mul_of_pos_right len hsz0) hbig;refine zaS (v:=.slice (some ⟨w.heap.size,0,none⟩) len len) (w':=w.alloc (.cells cs elem)) ?_ (hK _ _ ⟨_,hG'.put (fun d hd=>?_) hN⟩)
 .have n1:¬16777216<len*sz:=by omega
  have n2:len*sz≠0:=Nat.ne_of_gt (Nat.mul_pos hlen hsz0);have hps:(parts.map fun(p:Nat×Operand)=>(p.1,a.eval p.2)).toList=parts.toList.map fun p=>(p.1,a.eval p.2):=by simp
  simp only[execOp,ho,Instr.buildSlice];simp only[hps];simp[run_underlying ht,hsz.sizeOf,n1,hzr,hc1,newRow,n2]
 .cases hd;refine⟨trivial,?_⟩;have:=zil (t:=elem) (len:=len) hG.foot hc2 hcl (by simp only[maxLen];omega);rw[show cs.toList.toArray=cs from by simp] at this;exact⟨this,_,rfl⟩
end
section
variable {P:Program}{Γ:Gam}{H:Hp}
theorem ztb{Q:Exit->Act->World->Prop}{w0:Frm}{A0:Foot}{N:Nat}{fn:Func}{y:R}{r r' r'' r3:ResultVar}{x x' x'' x3:V}(hQ:∀a w,zvC P fn w0 A0 y .ret a w->Q .ret a w)
  (hr:fn.results = #[r,r',r'',r3]) (h:zd5 P Γ H r x) (h':zd5 P Γ H r' x') (h'':zd5 P Γ H r'' x'') (h3:zd5 P Γ H r3 x3) (hy:R.tup [x,x',x'',x3]=y) (hcl:zhc [x,x',x'',x3]=true:=by rfl):Tc P Q w0 A0 N Γ H .ret:=by
 intro a w hSt;obtain⟨E,hG⟩:=hSt;obtain⟨v,hv,hd⟩:=zaT hG h;obtain⟨v',hv',hd'⟩:=zaT hG h';obtain⟨v'',hv'',hd''⟩:=zaT hG h'';obtain⟨v3,hv3,hd3⟩:=zaT hG h3;refine wp_ret (hQ a w ⟨hG.defers,.tuple #[v,v',v'',v3],?_,_,rfl,?_,hG.below⟩)
 .rw[za7,hr];simp[hv,hv',hv'',hv3]
 .subst hy;simp only[zhc,zEA] at hcl;exact⟨[v,v',v'',v3],rfl,hG.out hcl.1 hd,hG.out hcl.2.1 hd',hG.out hcl.2.2.1 hd'',hG.out hcl.2.2.2.1 hd3,trivial⟩
end
end Rc
