/- Parts of the proof, 9: the texts WlO, WlP, Mrg, WlQ, WlQs, Best, Lw23, Ev, Mem, WlX, Chk, WpB, WpC, WpD, WpE, as far as they are used. -/
import Derived.Test.YtakccfmgipajnaaGreatDoorWp08
set_option linter.unusedSimpArgs false
set_option linter.unusedVariables false
set_option maxRecDepth 10000
namespace Go.Proofs.YtakccfmgipajnaaGreatDoor
open Go Go.RowKit Rc
set_option maxHeartbeats 2000000 in
theorem oP(s:Sc)(hs:dx s)(h80:s.aq.length<=80):ar Tryz.prog 20 [eM s] (R.one (eM (c8 s))):=by
 refine aF Tryz.func20 Tryz.ntmps20 rfl (fun w0 A0=>?_);have hq:=hs.q;have hd:=hs.d;have hpl:=hs.pl;have hB:=hs.B;have hll:=hs.ll;have hg:=hq.g;have hr:=hq.r;have hlo:=hr.lo;have hhi:=hr.hi;have g1:=hg.i1;have g2:=hg.i3;have g3:=hg.u4;have g4:=hg.o1;have g5:=hg.o3;refine zc 7 rfl (aE 2 [(4,2),(7,2),(9,3),(10,3)] [2,3] (dz 4 rfl (cH 2 rfl (we (i:=2) rfl eC iD rfl) (dz 2 rfl (cH 2 rfl (vw (e:=aV) (l:=[]) rfl rfl) (dz 3 rfl (aB (za 3 rfl ?_))))))));refine bF [so 1 (D.ptr 0 0),so 2 (D.ptr 1 0),so 3 (D.ptr 3 0)] [au 85 (fY s),au 85 As,dO 97 6 aV ([]++s.aq) 1,au 85 (cO s.q++[El.row bG s.path,ab.own 2 1])] rfl rfl (zc 5 rfl ?_);refine bH (fun m Γ H=>∃(i:Nat) (n:Nat) (out:List Lm),s.q.g.us.length-i=m/\Γ=[(1,some (D.ptr 0 0)),(2,some (D.ptr 1 0)),(3,some (D.ptr 3 0)),(4,some (D.val (.int .i64 (i:Int))))]/\H=[au 85 (fY s),au 85 As,dO 97 6 aV out n,au 85 (cO s.q++[El.row bG s.path,ab.own 2 n])]/\i<=s.q.g.us.length/\out=jc s i) ⟨0,1,s.aq,rfl,rfl,rfl,XS _,rfl⟩ rfl ?_;rintro m Γ H ⟨i,n,out,rfl,rfl,rfl,hi0,hout⟩;refine zc 8 rfl (aa rfl (aw rfl) ?_);by_cases hi:i<s.q.g.us.length
 .refine aa rfl (aX rfl) (zl 8 rfl ?_);obtain⟨p,hp⟩:∃p,s.q.g.us[i]?=some p:=⟨_,XM hi⟩;have hso:=C7 hs h80 (n:=i) (by omega);rw[<-hout] at hso;have hol:=hso.ll;have hol:out.length<=100:=hol;have hoB:=hso.B;have hpf:=hq.g.us i p hp;have hpf2:c9 3 (s.q.g.ag+s.q.g.us.length) p:=hpf.mono (XP _) (by omega);have hnf2:=hpf2.neg;have hpl_:=hpf2.fl;haveI:=hpl_.fm (by omega);haveI:=hpl_.cb;refine bF [so 1 (D.ptr 0 0),so 2 (D.ptr 1 0),so 3 (D.ptr 3 0),so 4 (D.val (.int .i64 (i:Int)))] [au 85 (fY s),au 85 As,dO 97 6 aV out n,au 85 (cO s.q++[El.row bG s.path,ab.own 2 n])] rfl rfl (zc 6 rfl (aa rfl (aS i hp rfl) (aa rfl (bo rfl) (zl 5 rfl (bF [so 1 _,so 2 _,so 3 _,so 4 _,so 5 (D.ptr 4 0)] [_,_,_,_,au 37 (b7 p)] rfl rfl ?_)))));refine zc 1 rfl (aa rfl (BG 11 rfl rfl) (zl 1 rfl (aj yd rfl (KQ (bU s out) hoB (by omega) (by show out.length<=_;omega) hso.q hso.d (by omega) (by have:=hso.pl;omega) p hpf2 (by omega)) (zl 11 rfl ?_))));refine bF [so 1 _,so 2 _,so 3 _,so 4 _,so 5 _,so 6 (D.ptr 5 0),so 7 (D.v (V.one (El.row bm (ej (bU s out) p)))),so 8 (D.bool (fQ (bU s out) p))] [_,_,_,_,_,au 35 (qL (dp (bU s out) p))] rfl rfl (aE 1 [(9,6),(10,6)] [6] (af rfl (BG 11 rfl rfl) (dz 1 rfl (ax oG rfl (mP (-1) (by decide) (by decide)) ?_))));refine ax nj rfl (mM p ((-1:Int):Rat) (by omega) (by omega)) (ax yd rfl (KQ (bU s out) hoB (by omega) (by show out.length<=_;omega) hso.q hso.d (by omega) (by have:=hso.pl;omega) (eN p) hnf2 (by omega)) (dz 8 rfl (aB (za 3 rfl ?_))));haveI hAq:Br (dp (bU s out) (eN p)) 135002:=KT hso (by exact hi) (by exact hpf.neg);haveI hPq:Br (dp (bU s out) p) 135002:=KT hso (by exact hi) (by exact hpf);refine bQ [4] [so 1 _,so 2 _,so 3 _,so 4 _,so 6 _,so 7 _,so 8 _,so 9 (D.ptr 6 0),so 10 (D.v (V.one (El.row bm (ej (bU s out) (eN p))))),so 11 (D.bool (fQ (bU s out) (eN p)))] [_,_,_,_,none,_,au 35 (qL (dp (bU s out) (eN p)))] rfl rfl rfl (zc 4 rfl ?_);refine cV rfl (fun hA=>?_) (fun hA=>?_)
  .refine zc 7 rfl (aK rfl (b8 rfl eC iD tH rfl (by decide) (by decide) rfl (by decide) rfl) (aK rfl (uK (e:=aV) (⟨(i:Int),false,(an ((dp (bU s out) p))),(ej (bU s out) p)⟩) rfl rfl) (zl 5 rfl ?_)));refine bQ [5] [so 1 _,so 2 _,so 3 _,so 4 _,so 9 _,so 10 _,so 11 _] [_,_,dO 97 6 aV (out++[⟨(i:Int),false,(an ((dp (bU s out) p))),(ej (bU s out) p)⟩]) (n+1),au 85 (cO s.q++[El.row bG s.path,ab.own 2 (n+1)]),none,none,_] rfl rfl rfl (zc 4 rfl ?_);refine cV rfl (fun hB_=>?_) (fun hB_=>?_)
   .refine aE 0 [(8,2),(10,3)] [2,3] (dz 1 rfl (cK [2] rfl (kU rfl) (dz 2 rfl (ax B4 rfl (Ay (an ((dp (bU s out) (eN p)))) ((dp (bU s out) (eN p))) (aG _) (Br.use (by omega))) (dz 2 rfl (fh rfl (fun _=>b8 rfl eC iD tH rfl (by decide) (by decide) rfl (by decide) rfl) ?_))))));refine cH 2 rfl (ib (e:=aV) (⟨(i:Int),true,(an (-((dp (bU s out) (eN p))))),(ej (bU s out) (eN p))⟩) rfl rfl) (dz 2 rfl (aB (za 2 rfl ?_)));refine bQ [6] [so 1 _,so 2 _,so 3 _,so 4 _] [_,_,dO 97 6 aV (out++[⟨(i:Int),false,(an ((dp (bU s out) p))),(ej (bU s out) p)⟩]++[⟨(i:Int),true,(an (-((dp (bU s out) (eN p))))),(ej (bU s out) (eN p))⟩]) ((n+1)+1),au 85 (cO s.q++[El.row bG s.path,ab.own 2 ((n+1)+1)]),none,none,none] rfl rfl rfl (zc 2 rfl ?_);refine aa rfl (aL (i+1) rfl) (zl 2 rfl (cN 4 rfl ?_));exact aP ⟨i+1,_,_,rfl,rfl,rfl,hi,by rw[qm hp,<-hout,Ko hA,Km hB_]⟩ rfl
   .refine zc 5 rfl (aa rfl (aL (i+1) rfl) (zl 2 rfl (cX 6 (cN 4 rfl ?_))));exact aP ⟨i+1,_,_,rfl,rfl,rfl,hi,by rw[qm hp,<-hout,Ko hA,Kn hB_];simp only[YF,Yf]⟩ rfl
  .refine zc 7 rfl ?_;refine cV rfl (fun hB_=>?_) (fun hB_=>?_)
   .refine aE 0 [(8,2),(10,3)] [2,3] (dz 1 rfl (cK [2] rfl (kU rfl) (dz 2 rfl (ax B4 rfl (Ay (an ((dp (bU s out) (eN p)))) ((dp (bU s out) (eN p))) (aG _) (Br.use (by omega))) (dz 2 rfl (fh rfl (fun _=>b8 rfl eC iD tH rfl (by decide) (by decide) rfl (by decide) rfl) ?_))))));refine cH 2 rfl (ib (e:=aV) (⟨(i:Int),true,(an (-((dp (bU s out) (eN p))))),(ej (bU s out) (eN p))⟩) rfl rfl) (dz 2 rfl (aB (za 2 rfl ?_)));refine bQ [5,6] [so 1 _,so 2 _,so 3 _,so 4 _] [_,_,dO 97 6 aV (out++[⟨(i:Int),true,(an (-((dp (bU s out) (eN p))))),(ej (bU s out) (eN p))⟩]) (n+1),au 85 (cO s.q++[El.row bG s.path,ab.own 2 (n+1)]),none,none,none] rfl rfl rfl (zc 2 rfl (aa rfl (aL (i+1) rfl) (zl 2 rfl (cN 4 rfl ?_))));exact aP ⟨i+1,_,_,rfl,rfl,rfl,hi,by rw[qm hp,<-hout,Kp hA,Km hB_];simp only[YF,Yf]⟩ rfl
   .refine zc 5 rfl (aa rfl (aL (i+1) rfl) (zl 2 rfl (cX 5 (cX 6 (cN 4 rfl ?_)))));exact aP ⟨i+1,_,_,rfl,rfl,rfl,hi,by rw[qm hp,<-hout,Kp hA,Kn hB_];simp only[YF,Yf]⟩ rfl
 .refine aa rfl (aO rfl) (zl 9 rfl ?_);have hie:i=s.q.g.us.length:=by omega
  rw[hie] at hout;refine zc 1 rfl (aa rfl (BG 11 rfl rfl) (zl 3 rfl ?_));exact av ai rfl (by unfold c8;rw[<-hout] <;> rfl)
end Go.Proofs.YtakccfmgipajnaaGreatDoor
namespace Rc
open Go Go.RowKit
def cC(c:Rat):List Tm->List Tm->List Tm
 |[],[]=>[]
 |x::a,[]=>(if x.2=0 then[] else[x])++cC c a []
 |[],y::b=>(if y.2*c=0 then[] else[(y.1,y.2*c)])++cC c [] b
 |x::a,y::b=>if x.1<y.1 then(if x.2=0 then[] else[x])++cC c a (y::b)
   else if y.1<x.1 then(if y.2*c=0 then[] else[(y.1,y.2*c)])++cC c (x::a) b
   else(if x.2+y.2*c=0 then[] else[(x.1,x.2+y.2*c)])++cC c a b
termination_by a b=>a.length+b.length
theorem um(l:List Tm)(v:Nat)(c:Rat):nz l (v,c)=l++(if c=0 then[] else[(v,c)]):=by
 by_cases h:c=0
 .rw[og h,if_pos h,YF]
 .rw[kN h,if_neg h]
section
variable {c:Rat}{a b:List Tm}{i j:Nat}{x y:Tm}{out:List Tm}
theorem drop_nil{l:List Tm}{i:Nat}(h:¬i<l.length):l.drop i=[]:=YI (by omega)
theorem QU(hx:a[i]?=some x)(hj:¬j<b.length):out++cC c (a.drop i) (b.drop j)=nz out (x.1,x.2)++cC c (a.drop (i+1)) (b.drop j):=by
 rw[jV hx,drop_nil hj,um,Yf];show _++cC c (x::_) []=_;rw[cC]
theorem QR(hi:¬i<a.length)(hy:b[j]?=some y):out++cC c (a.drop i) (b.drop j)=nz out (y.1,y.2*c)++cC c (a.drop i) (b.drop (j+1)):=by
 rw[jV hy,drop_nil hi,um,Yf,cC]
theorem QT(hx:a[i]?=some x)(hy:b[j]?=some y)(h:x.1<y.1):out++cC c (a.drop i) (b.drop j)=nz out (x.1,x.2)++cC c (a.drop (i+1)) (b.drop j):=by
 rw[jV hx,jV hy,um,Yf,cC,if_pos h]
theorem QV(hx:a[i]?=some x)(hy:b[j]?=some y)(h:¬x.1<y.1)(h':y.1<x.1):out++cC c (a.drop i) (b.drop j)=nz out (y.1,y.2*c)++cC c (a.drop i) (b.drop (j+1)):=by
 rw[jV hx,jV hy,um,Yf,cC,if_neg h,if_pos h']
theorem QX(hx:a[i]?=some x)(hy:b[j]?=some y)(h:¬x.1<y.1)(h':¬y.1<x.1):out++cC c (a.drop i) (b.drop j)=nz out (x.1,x.2+y.2*c)++cC c (a.drop (i+1)) (b.drop (j+1)):=by
 rw[jV hx,jV hy,um,Yf,cC,if_neg h,if_neg h']
theorem QW(hi:¬i<a.length)(hj:¬j<b.length):out++cC c (a.drop i) (b.drop j)=out:=by
 rw[drop_nil hi,drop_nil hj,cC,YF]
end
theorem lP(c:Rat):∀(a b:List Tm) (t:Tm),t∈cC c a b->(∃u∈a,u.1=t.1) \/ ∃u∈b,u.1=t.1
 |[],[],t,h=>by rw[cC] at h;simp at h
 |x::a,[],t,h=>by
  rw[cC] at h;rcases Yc.1 h with h|h
  .split at h
   .simp at h
   .rw[Ym] at h;subst h;exact .inl ⟨t,by simp,rfl⟩
  .rcases lP c a [] t h with⟨u,hu,e⟩|⟨u,hu,_⟩
   .exact .inl ⟨u,by simp[hu],e⟩
   .simp at hu
 |[],y::b,t,h=>by
  rw[cC] at h;rcases Yc.1 h with h|h
  .split at h
   .simp at h
   .rw[Ym] at h;subst h;exact .inr ⟨y,by simp,rfl⟩
  .rcases lP c [] b t h with⟨u,hu,_⟩|⟨u,hu,e⟩
   .simp at hu
   .exact .inr ⟨u,by simp[hu],e⟩
 |x::a,y::b,t,h=>by
  rw[cC] at h;split at h
  .rcases Yc.1 h with h|h
   .split at h
    .simp at h
    .rw[Ym] at h;subst h;exact .inl ⟨t,by simp,rfl⟩
   .rcases lP c a (y::b) t h with⟨u,hu,e⟩|h
    .exact .inl ⟨u,by simp[hu],e⟩
    .exact .inr h
  .split at h
   .rcases Yc.1 h with h|h
    .split at h
     .simp at h
     .rw[Ym] at h;subst h;exact .inr ⟨y,by simp,rfl⟩
    .rcases lP c (x::a) b t h with h|⟨u,hu,e⟩
     .exact .inl h
     .exact .inr ⟨u,by simp[hu],e⟩
   .rcases Yc.1 h with h|h
    .split at h
     .simp at h
     .rw[Ym] at h;subst h;exact .inl ⟨x,by simp,rfl⟩
    .rcases lP c a b t h with⟨u,hu,e⟩|⟨u,hu,e⟩
     .exact .inl ⟨u,by simp[hu],e⟩
     .exact .inr ⟨u,by simp[hu],e⟩
termination_by a b=>a.length+b.length
theorem vI{v:Nat}{d:Rat}{l:List Tm}(h:b6 l)(hv:∀t∈l,v<t.1):b6 ((if d=0 then[] else[(v,d)])++l):=by
 split
 .exact h
 .rename_i hd;exact⟨hd,hv,h⟩
theorem vz{v:Nat}{d:Rat}{l:List Tm}(hv:∀t∈l,v<t.1)(x:Nat):co ((if d=0 then[] else[(v,d)])++l) x=if v=x then d else co l x:=by
 split
 .rename_i hd;by_cases e:v=x
  .subst e;rw[if_pos rfl,hd];exact lj hv
  .rw[if_neg e];rfl
 .rfl
theorem pH(c:Rat):∀(a b:List Tm),b6 a->b6 b->b6 (cC c a b)/\∀v,co (cC c a b) v=co a v+co b v*c
 |[],[],_,_=>by rw[cC];exact⟨trivial,fun v=>by show(0:Rat)=0+0*c;grind⟩
 |(w,d)::a,[],ha,hb=>by
  obtain⟨h1,h2,h3⟩:=ha;obtain⟨i1,i2⟩:=pH c a [] h3 trivial;have hv:∀t∈cC c a [],w<t.1:=fun t ht=>by
   rcases lP c a [] t ht with⟨u,hu,e⟩|⟨u,hu,_⟩
   .rw[<-e];exact h2 u hu
   .simp at hu
  rw[cC];refine⟨vI i1 hv,fun v=>?_⟩;rw[vz hv,i2];show _=(if w=v then d else co a v)+0*c;show(if w=v then d else co a v+0*c)=_;split <;> grind
 |[],(w,d)::b,ha,hb=>by
  obtain⟨h1,h2,h3⟩:=hb;obtain⟨i1,i2⟩:=pH c [] b trivial h3;have hv:∀t∈cC c [] b,w<t.1:=fun t ht=>by
   rcases lP c [] b t ht with⟨u,hu,_⟩|⟨u,hu,e⟩
   .simp at hu
   .rw[<-e];exact h2 u hu
  rw[cC];refine⟨vI i1 hv,fun v=>?_⟩;rw[vz hv,i2];show(if w=v then d*c else 0+co b v*c)=0+(if w=v then d else co b v)*c;split <;> grind
 |(w,d)::a,(z,e)::b,ha,hb=>by
  obtain⟨h1,h2,h3⟩:=ha;obtain⟨g1,g2,g3⟩:=hb;have cva:∀v,co ((w,d)::a) v=if w=v then d else co a v:=fun _=>rfl;have cvb:∀v,co ((z,e)::b) v=if z=v then e else co b v:=fun _=>rfl;rw[cC];by_cases hlt:w<z
  .rw[if_pos (show((w,d):Tm).1<((z,e):Tm).1 from hlt)];obtain⟨i1,i2⟩:=pH c a ((z,e)::b) h3 ⟨g1,g2,g3⟩;have hv:∀t∈cC c a ((z,e)::b),w<t.1:=fun t ht=>by
    rcases lP c a _ t ht with⟨u,hu,e⟩|⟨u,hu,e⟩
    .rw[<-e];exact h2 u hu
    .rw[<-e];rcases X9.1 hu with rfl|hu
     .exact hlt
     .have:=g2 u hu;omega
   refine⟨vI i1 hv,fun v=>?_⟩;rw[vz hv,i2,cva];split
   .rename_i e1;subst e1;have:co ((z,e)::b) w=0:=lj (fun t ht=>by
     rcases X9.1 ht with rfl|ht
     .exact hlt
     .have:=g2 t ht;omega)
    rw[this];grind
   .rfl
  .rw[if_neg (show ¬((w,d):Tm).1<((z,e):Tm).1 from hlt)];have hnl:¬w<z:=hlt;by_cases hgt:z<w
   .rw[if_pos (show((z,e):Tm).1<((w,d):Tm).1 from hgt)];obtain⟨i1,i2⟩:=pH c ((w,d)::a) b ⟨h1,h2,h3⟩ g3;have hv:∀t∈cC c ((w,d)::a) b,z<t.1:=fun t ht=>by
     rcases lP c _ b t ht with⟨u,hu,e⟩|⟨u,hu,e⟩
     .rw[<-e];rcases X9.1 hu with rfl|hu
      .exact hgt
      .have:=h2 u hu;omega
     .rw[<-e];exact g2 u hu
    refine⟨vI i1 hv,fun v=>?_⟩;rw[vz hv,i2,cvb];split
    .rename_i e1;subst e1;have:co ((w,d)::a) z=0:=lj (fun t ht=>by
      rcases X9.1 ht with rfl|ht
      .exact hgt
      .have:=h2 t ht;omega)
     rw[this];grind
    .rfl
   .rw[if_neg (show ¬((z,e):Tm).1<((w,d):Tm).1 from hgt)];have hng:¬z<w:=hgt;have hwz:w=z:=by omega
    subst hwz;obtain⟨i1,i2⟩:=pH c a b h3 g3;have hv:∀t∈cC c a b,w<t.1:=fun t ht=>by
     rcases lP c a b t ht with⟨u,hu,e⟩|⟨u,hu,e⟩
     .rw[<-e];exact h2 u hu
     .rw[<-e];exact g2 u hu
    refine⟨vI i1 hv,fun v=>?_⟩;rw[vz hv,i2,cva,cvb];split <;> rfl
termination_by a b=>a.length+b.length
theorem E9{ts:List Tm}{c:Rat}(h:b6 ts):b6 (dA ts c):=by rw[jL];exact q8 h
theorem QQ{a b:List Tm}{c:Rat}(ha:b6 a)(hb:b6 b):cC c a b=ep a (dA b c):=by
 obtain⟨h1,h2⟩:=pH c a b ha hb;refine CH h1 (qQ ha) (fun v=>?_);rw[h2,CG ha (E9 hb),jL,vy hb]
theorem QS{b:List Tm}{c:Rat}(hb:b6 b):cC c [] b=dA b c:=by
 obtain⟨h1,h2⟩:=pH c [] b trivial hb;refine CH h1 (E9 hb) (fun v=>?_);rw[h2,jL,vy hb];show(0:Rat)+_=_;grind
end Rc
namespace Go.Proofs.YtakccfmgipajnaaGreatDoor
open Go Go.RowKit Rc
theorem ue(l:List Tm)(hl:l.length<=1000000)(k:Rat)(v:Nat)(c:Rat){B:Nat}[Br c B](hB:B<=400000000000):o4 Tryz.prog 144 113 4 (El.all bE l) (El.all bE (nz l (v,c))) [V.agg [ab.own 0 0,ab.val (.bool (bx k)),ae (ah (aN k)),ae (ah (aQ k))],V.one (ab.val (.int .i64 ((v:Int)))),V.agg (qL (c))] (fun n=>V.agg [ab.own 0 n,ab.val (.bool (bx k)),ae (ah (aN k)),ae (ah (aQ k))]):=by
 refine o4.gO Tryz.func144 rfl Tryz.ntmps144 (XU rfl) (fun w0 A0=>?_);refine jO (zc 11 rfl (aj jw rfl (iU (an (c)) (c) (aG _) (Br.use (by omega))) ?_));by_cases hc0:c≠0
 .refine aa rfl (fG rfl (mF hc0)) (zl 3 rfl (aE 0 [(7,0),(9,1)] [0,1] (dz 1 rfl (cK [0] rfl (kU rfl) (dz 2 rfl (ax sy rfl (pB (an (c)) (c) (aG _) (Br.use (by omega))) (dz 1 rfl (fh rfl (fun _=>b8 rfl jI kA wH rfl (by decide) (by decide) rfl (by decide) rfl) (cH 0 rfl (ib (v,c) rfl rfl) ?_)))))))));refine dz 2 rfl (aB (za 7 rfl ?_));exact zy (fun _ _ h=>h) rfl (⟨_,_,rfl,rfl,.inl ⟨iE,XU rfl,rfl⟩⟩) rfl rfl (by rw[kN hc0]) (hcl:=by first|rfl|exact El.gK _ _)
 .refine aa rfl (eg rfl (by rw[Zj.1 hc0];rfl)) (zl 11 rfl ?_);exact zy (fun _ _ h=>h) rfl (⟨_,_,rfl,rfl,.inl ⟨iE,XU rfl,rfl⟩⟩) rfl rfl (by rw[og (Zj.1 hc0)]) (hcl:=by first|rfl|exact El.gK _ _)
set_option maxHeartbeats 2000000 in
theorem Hf(f g:Af)(c:Rat){B C K n:Nat}(hf:FL B n f)(hg:FL C n g)[Br c K](h1:B<=10000000000)(h2:C<=10000000000)(h3:K<=10000000000)(hn:n<=1000):ar Tryz.prog 87 [bL f,bL g,V.agg (qL (c))] (R.one (bL ⟨cC c f.ts g.ts,f.c+g.c*c⟩)):=by
 refine aF Tryz.func87 Tryz.ntmps87 rfl (fun w0 A0=>?_);haveI:=hf.fm (by omega);haveI:=hf.cb;haveI:=hg.fm (by omega);haveI:=hg.cb;have hfl:=(hf.fm (by omega)).len;have hgl:=(hg.fm (by omega)).len;refine zc 9 rfl (aE 1 [(8,4),(9,4)] [4] (dz 5 rfl (ax yj rfl (uc (an (g.c)) (g.c) (aG _) (Br.use (by omega)) (an (c)) (c) (aG _) (Br.use (by omega))) (ax Ce rfl (xc (an (f.c)) (f.c) (aG _) (Br.use (by omega)) (an ((g.c)*(c))) ((g.c)*(c)) (aG _) (Br.use (by omega))) (af rfl (nN rfl wJ rfl Gf rfl) ?_)))));refine cH 4 rfl (Lp (i:=4) rfl wJ rfl) (dz 1 rfl (aB (za 2 rfl (nK 4 113 4 (ls':=[ab.own 5 0,ab.val (.bool (bx ((f.c)+((g.c)*(c))))),ae (ah (aN ((f.c)+((g.c)*(c))))),ae (ah (aQ ((f.c)+((g.c)*(c)))))]) rfl rfl rfl ⟨.inr ⟨rfl,rfl⟩,.inl rfl,.inl rfl,.inl rfl,trivial⟩ (aE 0 [] [] (dz 6 rfl (aB (za 3 rfl ?_))))))));refine km [0,1] rfl ?_;refine bH (fun m Γ H=>∃(i j:Nat) (m_:Nat) (out:List Tm),(f.ts.length-i)+(g.ts.length-j)=m/\Γ=[(5,some (D.ptr 2 0)),(6,some (D.ptr 3 0)),(7,some (D.ptr 4 0)),(8,some (D.v (V.one (El.row bE (f.ts.drop i))))),(9,some (D.v (V.one (El.row bE (g.ts.drop j)))))]/\H=[none,none,au 35 (qL c),au 37 [El.row bE ([]),ab.val (.bool false),ae ([]),ae ([])],au 37 [ab.own 5 m_,ab.val (.bool (bx ((f.c)+((g.c)*(c))))),ae (ah (aN ((f.c)+((g.c)*(c))))),ae (ah (aQ ((f.c)+((g.c)*(c)))))],dO 113 4 bE out m_]/\i<=f.ts.length/\j<=g.ts.length/\out.length<=i+j/\out++cC c (f.ts.drop i) (g.ts.drop j)=cC c f.ts g.ts) ⟨0,0,0,[],rfl,rfl,rfl,XS _,XS _,XS _,rfl⟩ rfl ?_;rintro m Γ H ⟨i,j,m_,out,rfl,rfl,rfl,hi0,hj0,hol,hinv⟩;refine zc 4 rfl (aa rfl (aw rfl) ?_);by_cases hi:i<f.ts.length
 .refine aa rfl (dQ rfl (by rw[X1];omega)) (zl 13 rfl ?_);by_cases hj:j<g.ts.length
  .obtain⟨x,hx⟩:∃x,f.ts[i]?=some x:=⟨_,XM hi⟩;have hx0:(f.ts.drop i)[0]?=some x:=by rw[Yw];exact hx
   haveI hxb:=hf.bd x (XR hx);refine aE 0 [] [] ?_;obtain⟨y,hy⟩:∃y,g.ts[j]?=some y:=⟨_,XM hj⟩;have hy0:(g.ts.drop j)[0]?=some y:=by rw[Yw];exact hy
   haveI hyb:=hg.bd y (XR hy);refine dz 1 rfl (af rfl (aw rfl) (af rfl (aU rfl (by rw[X1];omega)) (dz 2 rfl (af rfl (aw rfl) (af rfl (dQ rfl (by rw[X1];omega)) (dz 2 rfl (af rfl (aS 0 hx0 rfl) (af rfl (dW rfl) (af rfl (bB rfl) ?_)))))))));refine dz 1 rfl (af rfl (aS 0 hy0 rfl) (af rfl (dW rfl) (af rfl (bB rfl) ?_)));by_cases hlt:x.1<y.1
   .refine af rfl (aX rfl) (dz 3 rfl (aB (za 3 rfl (aE 0 [(9,5),(10,4)] [5,4] (cK [5] rfl (jC rfl rfl rfl (by decide) iE (by decide) (XU rfl) rfl) (dz 1 rfl (af rfl (aS 0 hx0 rfl) (af rfl (dW rfl) (af rfl (bB rfl) ?_)))))))));refine dz 1 rfl (af rfl (aS 0 hx0 rfl) (af rfl (dW rfl) (af rfl (bo rfl) ?_)));refine cH 5 rfl (tc (r:=5) (ys:=[V.agg [ab.own 5 m_,ab.val (.bool (bx ((f.c)+((g.c)*(c))))),ae (ah (aN ((f.c)+((g.c)*(c))))),ae (ah (aQ ((f.c)+((g.c)*(c)))))],V.one (ab.val (.int .i64 ((x.1:Nat):Int))),V.agg (qL x.2)]) (V.agg [ab.own 5 (m_+1),ab.val (.bool (bx ((f.c)+((g.c)*(c))))),ae (ah (aN ((f.c)+((g.c)*(c))))),ae (ah (aQ ((f.c)+((g.c)*(c)))))]) rfl vh rfl rfl (ue out (by omega) ((f.c)+((g.c)*(c))) x.1 x.2 (by omega)) (kj _ _)) ?_;refine dz 1 rfl (aB (za 3 rfl (aa rfl (lu bE (f.ts.drop i) (1) rfl rfl rfl jI kA rfl (by rw[X1];omega)) (iK (D.v (V.one (bE.row (f.ts.drop (i+1))))) rfl (by rw[Zh]) (zl 4 rfl ?_)))));exact aP ⟨i+1,j,_,_,rfl,rfl,rfl,by omega,by omega,(by have h1:=ki out (x.1,x.2);omega),by rw[<-hinv,QT hx hy hlt]⟩ rfl
   .refine af rfl (aO rfl) (dz 3 rfl (aB (za 3 rfl (aE 0 [] [] (dz 1 rfl (af rfl (aw rfl) (af rfl (aU rfl (by rw[X1];omega)) (dz 2 rfl (af rfl (aS 0 hy0 rfl) ?_)))))))));refine af rfl (dW rfl) (af rfl (bB rfl) (dz 1 rfl (af rfl (aS 0 hx0 rfl) (af rfl (dW rfl) (af rfl (bB rfl) ?_)))));by_cases hgt:y.1<x.1
    .refine af rfl (aX rfl) (dz 2 rfl (aB (za 3 rfl (aE 0 [(11,5),(12,4)] [5,4] (cK [5] rfl (jC rfl rfl rfl (by decide) iE (by decide) (XU rfl) rfl) (dz 1 rfl (af rfl (aS 0 hy0 rfl) (af rfl (dW rfl) (af rfl (bB rfl) ?_)))))))));refine dz 1 rfl (af rfl (aS 0 hy0 rfl) (af rfl (dW rfl) (af rfl (bo rfl) (dz 1 rfl (ax yj rfl (uc (an (y.2)) (y.2) (aG _) (Br.use (by omega)) (an (c)) (c) (aG _) (Br.use (by omega))) ?_)))));refine cH 5 rfl (tc (r:=5) (ys:=[V.agg [ab.own 5 m_,ab.val (.bool (bx ((f.c)+((g.c)*(c))))),ae (ah (aN ((f.c)+((g.c)*(c))))),ae (ah (aQ ((f.c)+((g.c)*(c)))))],V.one (ab.val (.int .i64 ((y.1:Nat):Int))),V.agg (qL ((y.2)*(c)))]) (V.agg [ab.own 5 (m_+1),ab.val (.bool (bx ((f.c)+((g.c)*(c))))),ae (ah (aN ((f.c)+((g.c)*(c))))),ae (ah (aQ ((f.c)+((g.c)*(c)))))]) rfl vh rfl rfl (ue out (by omega) ((f.c)+((g.c)*(c))) y.1 ((y.2)*(c)) (by omega)) (kj _ _)) ?_;refine dz 1 rfl (aB (za 3 rfl (aa rfl (lu bE (g.ts.drop j) (1) rfl rfl rfl jI kA rfl (by rw[X1];omega)) (iK (D.v (V.one (bE.row (g.ts.drop (j+1))))) rfl (by rw[Zh]) (zl 4 rfl ?_)))));exact aP ⟨i,j+1,_,_,rfl,rfl,rfl,by omega,by omega,(by have h1:=ki out (y.1,y.2*c);omega),by rw[<-hinv,QV hx hy hlt hgt]⟩ rfl
    .refine af rfl (aO rfl) (dz 2 rfl (aB (za 3 rfl (aE 0 [(16,5),(17,4)] [5,4] (cK [5] rfl (jC rfl rfl rfl (by decide) iE (by decide) (XU rfl) rfl) (dz 1 rfl (af rfl (aS 0 hx0 rfl) (af rfl (dW rfl) (af rfl (bB rfl) ?_)))))))));refine dz 1 rfl (af rfl (aS 0 hx0 rfl) (af rfl (dW rfl) (af rfl (bo rfl) (dz 1 rfl (af rfl (aS 0 hy0 rfl) (af rfl (dW rfl) (af rfl (bo rfl) (dz 1 rfl (ax yj rfl (uc (an (y.2)) (y.2) (aG _) (Br.use (by omega)) (an (c)) (c) (aG _) (Br.use (by omega))) ?_)))))))));refine ax Ce rfl (xc (an (x.2)) (x.2) (aG _) (Br.use (by omega)) (an ((y.2)*(c))) ((y.2)*(c)) (aG _) (Br.use (by omega))) ?_;refine cH 5 rfl (tc (r:=5) (ys:=[V.agg [ab.own 5 m_,ab.val (.bool (bx ((f.c)+((g.c)*(c))))),ae (ah (aN ((f.c)+((g.c)*(c))))),ae (ah (aQ ((f.c)+((g.c)*(c)))))],V.one (ab.val (.int .i64 ((x.1:Nat):Int))),V.agg (qL ((x.2)+((y.2)*(c))))]) (V.agg [ab.own 5 (m_+1),ab.val (.bool (bx ((f.c)+((g.c)*(c))))),ae (ah (aN ((f.c)+((g.c)*(c))))),ae (ah (aQ ((f.c)+((g.c)*(c)))))]) rfl vh rfl rfl (ue out (by omega) ((f.c)+((g.c)*(c))) x.1 ((x.2)+((y.2)*(c))) (by omega)) (kj _ _)) ?_;refine dz 1 rfl (aB (za 1 rfl (aE 0 [] [] (dz 1 rfl (af rfl (lu bE (f.ts.drop i) (1) rfl rfl rfl jI kA rfl (by rw[X1];omega)) (eU (D.v (V.one (bE.row (f.ts.drop (i+1))))) rfl (by rw[Zh]) (dz 1 rfl (af rfl (lu bE (g.ts.drop j) (1) rfl rfl rfl jI kA rfl (by rw[X1];omega)) ?_))))))));refine eU (D.v (V.one (bE.row (g.ts.drop (j+1))))) rfl (by rw[Zh]) (dz 2 rfl (aB (za 2 rfl ?_)));exact aP ⟨i+1,j+1,_,_,rfl,rfl,rfl,by omega,by omega,(by have h1:=ki out (x.1,x.2+y.2*c);omega),by rw[<-hinv,QX hx hy hlt hgt]⟩ rfl
  .obtain⟨x,hx⟩:∃x,f.ts[i]?=some x:=⟨_,XM hi⟩;have hx0:(f.ts.drop i)[0]?=some x:=by rw[Yw];exact hx
   haveI hxb:=hf.bd x (XR hx);refine aE 0 [] [] (dz 1 rfl (af rfl (aw rfl) (af rfl (bp rfl (by rw[X1];omega)) (dz 17 rfl (aB (za 3 rfl (aE 0 [(9,5),(10,4)] [5,4] (cK [5] rfl (jC rfl rfl rfl (by decide) iE (by decide) (XU rfl) rfl) (dz 1 rfl ?_)))))))));refine af rfl (aS 0 hx0 rfl) (af rfl (dW rfl) (af rfl (bB rfl) (dz 1 rfl (af rfl (aS 0 hx0 rfl) (af rfl (dW rfl) (af rfl (bo rfl) ?_))))));refine cH 5 rfl (tc (r:=5) (ys:=[V.agg [ab.own 5 m_,ab.val (.bool (bx ((f.c)+((g.c)*(c))))),ae (ah (aN ((f.c)+((g.c)*(c))))),ae (ah (aQ ((f.c)+((g.c)*(c)))))],V.one (ab.val (.int .i64 ((x.1:Nat):Int))),V.agg (qL x.2)]) (V.agg [ab.own 5 (m_+1),ab.val (.bool (bx ((f.c)+((g.c)*(c))))),ae (ah (aN ((f.c)+((g.c)*(c))))),ae (ah (aQ ((f.c)+((g.c)*(c)))))]) rfl vh rfl rfl (ue out (by omega) ((f.c)+((g.c)*(c))) x.1 x.2 (by omega)) (kj _ _)) ?_;refine dz 1 rfl (aB (za 3 rfl (aa rfl (lu bE (f.ts.drop i) (1) rfl rfl rfl jI kA rfl (by rw[X1];omega)) (iK (D.v (V.one (bE.row (f.ts.drop (i+1))))) rfl (by rw[Zh]) (zl 4 rfl ?_)))));exact aP ⟨i+1,j,_,_,rfl,rfl,rfl,by omega,by omega,(by have h1:=ki out (x.1,x.2);omega),by rw[<-hinv,QU hx hj]⟩ rfl
 .refine aa rfl (cD rfl (by rw[X1];omega)) (zl 2 rfl (aa rfl (aw rfl) ?_));by_cases hj:j<g.ts.length
  .refine aa rfl (dQ rfl (by rw[X1];omega)) (zl 9 rfl ?_);obtain⟨y,hy⟩:∃y,g.ts[j]?=some y:=⟨_,XM hj⟩;have hy0:(g.ts.drop j)[0]?=some y:=by rw[Yw];exact hy
   haveI hyb:=hg.bd y (XR hy);refine aE 0 [] [] (dz 1 rfl (af rfl (aw rfl) (af rfl (aU rfl (by rw[X1];omega)) (dz 2 rfl (af rfl (aw rfl) (af rfl (cD rfl (by rw[X1];omega)) (dz 13 rfl (aB (za 3 rfl ?_)))))))));refine aE 0 [] [] (dz 1 rfl (af rfl (aw rfl) (af rfl (bp rfl (by rw[X1];omega)) (dz 12 rfl (aB (za 3 rfl (aE 0 [(11,5),(12,4)] [5,4] (cK [5] rfl (jC rfl rfl rfl (by decide) iE (by decide) (XU rfl) rfl) (dz 1 rfl ?_)))))))));refine af rfl (aS 0 hy0 rfl) (af rfl (dW rfl) (af rfl (bB rfl) (dz 1 rfl (af rfl (aS 0 hy0 rfl) (af rfl (dW rfl) (af rfl (bo rfl) (dz 1 rfl (ax yj rfl (uc (an (y.2)) (y.2) (aG _) (Br.use (by omega)) (an (c)) (c) (aG _) (Br.use (by omega))) ?_))))))));refine cH 5 rfl (tc (r:=5) (ys:=[V.agg [ab.own 5 m_,ab.val (.bool (bx ((f.c)+((g.c)*(c))))),ae (ah (aN ((f.c)+((g.c)*(c))))),ae (ah (aQ ((f.c)+((g.c)*(c)))))],V.one (ab.val (.int .i64 ((y.1:Nat):Int))),V.agg (qL ((y.2)*(c)))]) (V.agg [ab.own 5 (m_+1),ab.val (.bool (bx ((f.c)+((g.c)*(c))))),ae (ah (aN ((f.c)+((g.c)*(c))))),ae (ah (aQ ((f.c)+((g.c)*(c)))))]) rfl vh rfl rfl (ue out (by omega) ((f.c)+((g.c)*(c))) y.1 ((y.2)*(c)) (by omega)) (kj _ _)) ?_;refine dz 1 rfl (aB (za 3 rfl (aa rfl (lu bE (g.ts.drop j) (1) rfl rfl rfl jI kA rfl (by rw[X1];omega)) (iK (D.v (V.one (bE.row (g.ts.drop (j+1))))) rfl (by rw[Zh]) (zl 4 rfl ?_)))));exact aP ⟨i,j+1,_,_,rfl,rfl,rfl,by omega,by omega,(by have h1:=ki out (y.1,y.2*c);omega),by rw[<-hinv,QR hi hy]⟩ rfl
  .refine aa rfl (cD rfl (by rw[X1];omega)) (zl 15 rfl (nI 3 (ls':=[El.row bE out,ab.val (.bool (bx ((f.c)+((g.c)*(c))))),ae (ah (aN ((f.c)+((g.c)*(c))))),ae (ah (aQ ((f.c)+((g.c)*(c)))))]) rfl rfl (dH.gf bE out rfl (by decide)) ⟨.inr ⟨rfl,rfl⟩,.inl rfl,.inl rfl,.inl rfl,trivial⟩ ?_));exact av ai rfl (by rw[<-hinv,QW hi hj])
theorem tM(f:Af)(c:Rat){C K n:Nat}(hf:FL C n f)[Br c K](h2:C<=10000000000)(h3:K<=10000000000)(hn:n<=1000):ar Tryz.prog 52 [bL f,V.agg (qL (c))] (R.one (bL (bN f c))):=by
 refine aF Tryz.func52 Tryz.ntmps52 rfl (fun w0 A0=>?_);refine zc 10 rfl (iK (D.agg (b7 fZ)) rfl (congrArg D.agg Jf.symm) (zl 2 rfl (aj IE rfl (Hf fZ f c (FL.z (n:=n)) hf (by omega) (by omega) (by omega) (by omega)) (zl 3 rfl ?_))));exact av ai rfl (by have e:f.c*c=fZ.c+f.c*c:=(Rat.zero_add _).symm;show R.one (bL ⟨cC c [] f.ts,fZ.c+f.c*c⟩)=R.one (bL ⟨dA f.ts c,f.c*c⟩);rw[<-QS hf.can,<-e])
end Go.Proofs.YtakccfmgipajnaaGreatDoor
namespace Rc
open Go Go.RowKit
def sl(s:Sc)(up:Bool)(p:Af):List Mu:=if up=true then ej s (eN p) else ej s p
def k8(f:Af)(v:List Rat)(n:Nat):Rat:=(f.ts.take n).foldl (fun s t=>s+t.2*(v[t.1]?).getD 0) f.c
def bV(f:Af)(v:List Rat):Rat:=k8 f v f.ts.length
theorem Jk{f:Af}{v:List Rat}{n:Nat}{t:Tm}{y:Rat}(h:f.ts[n]?=some t)(hy:v[t.1]?=some y):k8 f v (n+1)=k8 f v n+t.2*y:=by
 unfold k8;rw[iF h,YK];simp only[Y6,ZJ,hy,Yt]
def VB(K:Nat)(v:List Rat):Prop:=∀y∈v,Br y K
theorem VB.mono{K L:Nat}{v:List Rat}(h:VB K v)(hl:K<=L):VB L v:=fun y hy=>(h y hy).mono hl
theorem Ct{f:Af}{v:List Rat}{b m K:Nat}(hf:c9 b m f)(hv:VB K v)(hm:m<=v.length):∀n,n<=f.ts.length->Br (k8 f v n) (b+1+n*(K+(b+3)))
 |0,_=>by have:=hf.br;exact this.mono (by omega)
 |n+1,hn=>by
  obtain⟨t,ht⟩:∃t,f.ts[n]?=some t:=⟨_,XM (by omega)⟩;have htm:=XR ht;have htv:=hf.var t htm;obtain⟨y,hy⟩:∃y,v[t.1]?=some y:=⟨_,XM (by omega)⟩;haveI:=Ct hf hv hm n (by omega);haveI:Br t.2 (b+1):=(hf.bd t htm).br;haveI:=hv y (XR hy);rw[Jk ht hy];exact(inferInstance:Br (k8 f v n+t.2*y) (b+1+n*(K+(b+3))+(b+1+K+1)+1)).mono (by rw[Ys];omega)
theorem yq{f:Af}{v:List Rat}{b m K:Nat}(hf:c9 b m f)(hv:VB K v)(hm:m<=v.length)(h7:m<=7):Br (bV f v) (b+1+7*(K+(b+3))):=
 (Ct hf hv hm f.ts.length (XP _)).mono (by have:=hf.len;have:=Ya (K+(b+3)) (show f.ts.length<=7 by omega);omega)
def iN(us:List Af)(x:List Rat):Nat->List Rat
 |0=>x
 |n+1=>match us[n]? with
  |some p=>iN us x n++[mx (bV p (iN us x n)) 0]
  |none=>iN us x n
theorem vX{us:List Af}{x:List Rat}{n:Nat}{p:Af}(h:us[n]?=some p):iN us x (n+1)=iN us x n++[mx (bV p (iN us x n)) 0]:=by
 rw[iN,h]
theorem qo{us:List Af}{x:List Rat}:∀n,n<=us.length->(iN us x n).length=x.length+n
 |0,_=>rfl
 |n+1,h=>by
  obtain⟨p,hp⟩:∃p,us[n]?=some p:=⟨_,XM (by omega)⟩;rw[vX hp,XX,qo n (by omega)];rfl
def KV:Nat->Nat
 |0=>100
 |n+1=>8*KV n+50
theorem Lc{n:Nat}(h:n<=4):KV n<=500000:=by
 have:n=0\/n=1\/n=2\/n=3\/n=4:=by omega
 rcases this with rfl|rfl|rfl|rfl|rfl <;> decide
theorem Lb:∀n,100<=KV n
 |0=>XP _
 |n+1=>by have:=Lb n;simp only[KV];omega
theorem GU{y:Rat}{K:Nat}(h:Br y K):Br (mx y 0) K:=by
 by_cases h0:0<=ei y 0
 .rw[ur h0];exact h
 .rw[xy h0];exact Br.zero.mono (XS _)
theorem Dp{g:Gr}(hg:oZ g){x:List Rat}(hx:VB 100 x)(hl:x.length=g.ag):∀n,n<=g.us.length->VB (KV n) (iN g.us x n)
 |0,_=>hx
 |n+1,h=>by
  obtain⟨p,hp⟩:∃p,g.us[n]?=some p:=⟨_,XM (by omega)⟩;have ih:=Dp hg hx hl n (by omega);have h4:=hg.u4;have h3:=hg.i3;rw[vX hp];intro y hy;rcases Yc.1 hy with hy|hy
  .exact(ih y hy).mono (by simp only[KV];omega)
  .rw[Ym] at hy;subst hy;have:=yq (hg.us n p hp) ih (by rw[qo n (by omega),hl];exact XP _) (by omega);exact(GU this).mono (by simp only[KV];have:=Lb n;omega)
def dh(g:Gr)(x:List Rat):List Rat:=iN g.us x g.us.length
def rC(g:Gr)(x:List Rat):List Rat:=g.us.map fun p=>bV p (dh g x)
def sO(r:Rg)(x:List Rat):Bool:=r.rows.all fun f=>decide (0<=sg (bV f x))
def uM(q:Qu)(d:Dc)(x:List Rat):Bool:=
 if d.kind=3 then decide (0<=ei ((x[d.idx]?).getD 0) d.pt) else if d.kind=4 then decide (ei ((x[d.idx]?).getD 0) d.pt<=0)
 else if d.kind=1 then decide (0<=sg (((rC q.g x)[d.idx]?).getD 0)) else decide (sg (((rC q.g x)[d.idx]?).getD 0)<=0)
theorem zq{α:Type}{f:α->Bool}{l:List α}{i:Nat}{x:α}(hx:l[i]?=some x)(h:(l.take i).all f=true)(hp:f x=true):(l.take (i+1)).all f=true:=by
 rw[iF hx,List.all_append,h];simp[hp]
theorem VP{α:Type}{f:α->Bool}{l:List α}{i:Nat}{x:α}(hx:l[i]?=some x)(hp:f x=false):l.all f=false:=by
 cases h:l.all f
 .rfl
 .have:=Yz.1 h x (XR hx);rw[hp] at this;simp at this
structure wi(r:Rg)(x:List Rat):Prop where
 len:x.length=r.lo.length
 bd:VB 100 x
 BL:∀(i:Nat) (y a b:Rat),x[i]?=some y->r.lo[i]?=some a->r.hi[i]?=some b->a<=y/\y<=b
def m9(r:Rg)(l:List Nat)(i:Nat):Rat:=(r.lo[i]?).getD 0+((((l[i]?).getD 0%9:Nat):Int):Rat)/((8:Int):Rat)*((r.hi[i]?).getD 0-(r.lo[i]?).getD 0)
def gx(r:Rg)(l:List Nat)(n:Nat):List Rat:=(List.range n).map (m9 r l)
theorem HX(r:Rg)(l:List Nat)(n:Nat):gx r l (n+1)=gx r l n++[m9 r l n]:=by unfold gx;rw[ZT,Zv];rfl
theorem BJ(r:Rg)(l:List Nat)(n:Nat):(gx r l n).length=n:=by simp[gx]
theorem JA{k:Nat}(h:k<=8):Hb (((k:Int):Rat)/((8:Int):Rat)) 10/\0<=((k:Int):Rat)/((8:Int):Rat)/\((k:Int):Rat)/((8:Int):Rat)<=1:=by
 have:k=0\/k=1\/k=2\/k=3\/k=4\/k=5\/k=6\/k=7\/k=8:=by omega
 rcases this with rfl|rfl|rfl|rfl|rfl|rfl|rfl|rfl|rfl <;> exact⟨⟨by decide +kernel,by decide +kernel⟩,by decide +kernel,by decide +kernel⟩
theorem HW{n:Nat}{r:Rg}(hr:nL n r){l:List Nat}{i:Nat}{a b:Rat}(ha:r.lo[i]?=some a)(hb:r.hi[i]?=some b):Br (m9 r l i) 100/\a<=m9 r l i/\m9 r l i<=b:=by
 obtain⟨h1,h2,h3⟩:=hr.bd i a b ha hb;unfold m9;rw[ha,hb];simp only[Yt];obtain⟨k,hk⟩:∃k,(l[i]?).getD 0%9=k:=⟨_,rfl⟩;rw[hk];obtain⟨e1,e2,e3⟩:=JA (k:=k) (by omega);obtain⟨c,hc⟩:∃c:Rat,((k:Int):Rat)/((8:Int):Rat)=c:=⟨_,rfl⟩;rw[hc] at e1 e2 e3 ⊢;refine⟨(inferInstance:Hb (a+c*(b-a)) (3+(10+(7+3+1))+1)).br.mono (by omega),?_,?_⟩
 .have:0<=c*(b-a):=ZZ e2 (by grind);grind
 .have:0<=(1-c)*(b-a):=ZZ (by grind) (by grind);grind
theorem Sw{n:Nat}{r:Rg}(hr:nL n r)(l:List Nat):wi r (gx r l r.lo.length):=by
 refine⟨BJ _ _ _,fun y hy=>?_,fun i y a b hy ha hb=>?_⟩
 .obtain⟨i,hi,rfl⟩:=ZE.1 hy;have hi:=Y9.1 hi;exact(HW hr (XM hi) (XM (by rw[hr.hi,<-hr.lo];exact hi))).1
 .have:y=m9 r l i:=by
   unfold gx at hy;rw[YW] at hy;have hi:i<r.lo.length:=(XN.1 ha).1;rw[List.getElem?_range hi] at hy;simpa using hy.symm
  subst this;exact(HW hr ha hb).2
theorem GS{a b:Rat}:a<=mx a b/\b<=mx a b/\(mx a b=a\/mx a b=b):=by
 by_cases h:0<=ei a b
 .rw[ur h];exact⟨za2,vC.1 h,.inl rfl⟩
 .rw[xy h];have h2:ei a b<0:=by omega
  exact⟨zad (vA.1 h2),za2,.inr rfl⟩
theorem zt{us:List Af}{x:List Rat}:∀n,n<=us.length->∀i,i<x.length+n->(iN us x us.length)[i]?=(iN us x n)[i]?:=by
 intro n hn i hi;have key:∀k,n+k<=us.length->(iN us x (n+k))[i]?=(iN us x n)[i]?:=by
  intro k
  induction k with
  |zero=>intro _;rfl
  |succ k ih=>
   intro hk;obtain⟨p,hp⟩:∃p,us[n+k]?=some p:=⟨_,XM (by omega)⟩;rw[show n+(k+1)=(n+k)+1 by omega,vX hp,XV (by rw[qo _ (by omega)];omega),ih (by omega)]
 have:=key (us.length-n) (by omega)
 rwa [show n+(us.length-n)=us.length by omega] at this
theorem Jl{f:Af}{v v':List Rat}{m:Nat}(hf:∀t∈f.ts,t.1<m)(h:∀i,i<m->v[i]?=v'[i]?):∀n,n<=f.ts.length->k8 f v n=k8 f v' n
 |0,_=>rfl
 |n+1,hn=>by
  obtain⟨t,ht⟩:∃t,f.ts[n]?=some t:=⟨_,XM (by omega)⟩;have ih:=Jl hf h n (by omega);unfold k8 at ih ⊢;rw[iF ht,YK,YK,ih];simp only[Y6,ZJ];rw[h t.1 (hf t (XR ht))]
theorem Jm{f:Af}{v v':List Rat}{m:Nat}(hf:∀t∈f.ts,t.1<m)(h:∀i,i<m->v[i]?=v'[i]?):bV f v=bV f v':=Jl hf h _ (XP _)
def qz(g:Gr)(x:List Rat)(l:List Lm):Prop:=∀m∈l,∀p,g.us[m.unit.toNat]?=some p->(m.up=true->bV p (dh g x)<=m.v.q)/\(m.up=false->m.v.q<=bV p (dh g x))
theorem vk{f:Af}{v:List Rat}:∀(ts:List Tm) (c:Rat),ts.foldl (fun s t=>s+t.2*(v[t.1]?).getD 0) c=c+ts.foldl (fun s t=>s+t.2*(v[t.1]?).getD 0) 0
 |[],c=>by simp only[ZJ];grind
 |t::ts,c=>by
  rw[Y6,Y6,vk (f:=f) ts (c+_),vk (f:=f) ts (0+_)];grind
end Rc
namespace Go.Proofs.YtakccfmgipajnaaGreatDoor
open Go Go.RowKit Rc
theorem Cq(f:Af){b m:Nat}(hf:c9 b m f)(v:List Rat){K:Nat}(hv:VB K v)(hK:K<=1000000)(hm:m<=v.length)(h7:m<=7)(hb3:b<=1000000:=by omega):ar Tryz.prog 11 [bL f,V.one (El.row bw v)] (R.aW [qV (an (bV f v)),V.one (ab.val (.int .i64 0))]):=by
 refine aF Tryz.func11 Tryz.ntmps11 rfl (fun w0 A0=>?_);have hfl:=hf.len;refine zc 22 rfl ?_;refine bH (fun m Γ H=>∃(i:Nat) (c:Rat),f.ts.length-i=m/\Γ=[(1,some (D.v (V.one (El.row bw v)))),(2,some (D.ptr 0 0)),(4,some (D.ptr 1 0)),(6,some (D.ptr 2 0)),(7,some (D.val (.int .i64 (i:Int))))]/\H=[au 37 (b7 f),au 35 [ab.val (.bool false),ae ([]),ae ([])],au 35 (qL c)]/\i<=f.ts.length/\c=k8 f v i) ⟨0,f.c,rfl,rfl,rfl,XS _,rfl⟩ rfl ?_;rintro m Γ H ⟨i,c,rfl,rfl,rfl,hi0,hc⟩;refine zc 6 rfl (aa rfl (aw rfl) ?_);by_cases hi:i<f.ts.length
 .refine aa rfl (aX rfl) (zl 8 rfl ?_);obtain⟨x,hx⟩:∃x,f.ts[i]?=some x:=⟨_,XM hi⟩;have hxm:=XR hx;have hxv:=hf.var x hxm;obtain⟨y,hy⟩:∃y,v[x.1]?=some y:=⟨_,XM (by omega)⟩;haveI hyb:=hv y (XR hy);haveI hxb:Br x.2 (b+1):=(hf.bd x hxm).br;have hfl:=hf.len;haveI hcb:Br c 20000000:=by rw[hc];exact(Ct hf hv hm i (by omega)).mono (by have:=Ya (K+(b+3)) (show i<=7 by omega);omega)
  refine zc 4 rfl (aa rfl (aS i hx rfl) (aa rfl (bo rfl) (zl 9 rfl (aa rfl (aO rfl) (zl 4 rfl (aa rfl (aw rfl) (aa rfl (dY rfl) (zl 6 rfl (aE 0 [(10,2)] [2] ?_)))))))));refine cK [] rfl (jC rfl rfl rfl (by decide) jm (by decide) (XU rfl) rfl) (dz 5 rfl (af rfl (aS x.1 hy rfl) (af rfl (bo rfl) (ax pX rfl (po (an (x.2)) (x.2) (aG _) (Br.use (by omega)) (an (y)) (y) (aG _) (Br.use (by omega))) ?_))));refine ax kY rfl (kC (an (c)) (c) (aG _) (Br.use (by omega)) (an ((x.2)*(y))) ((x.2)*(y)) (aG _) (Br.use (by omega))) (dz 1 rfl (aB (za 4 rfl (aa rfl (aL (i+1) rfl) (zl 2 rfl (cX 3 (cN 3 rfl ?_)))))));exact aP ⟨i+1,_,rfl,rfl,rfl,hi,by rw[hc,Jk hx hy]⟩ rfl
 .refine aa rfl (aO rfl) (zl 9 rfl ?_);have hie:i=f.ts.length:=by omega
  rw[hie] at hc;refine zc 6 rfl ?_;exact aI ai rfl (by rw[hc] <;> rfl)
theorem Mh(g:Gr)(hg:oZ g)(x:List Rat)(hx:VB 100 x)(hl:x.length=g.ag):ar Tryz.prog 10 [sn g,V.one (El.row bw x)] (R.aW [V.one (El.row bw (dh g x)),V.one (ab.val (.int .i64 0))]):=by
 refine aF Tryz.func10 Tryz.ntmps10 rfl (fun w0 A0=>?_);have h1:=hg.i1;have h2:=hg.i3;have h3:=hg.u4;have h4:=hg.o1;have h5:=hg.o3;refine zc 11 rfl (aj B5 rfl (BN g hg) (zl 3 rfl (aa rfl (aw rfl) (zl 2 rfl (aa rfl (eg rfl) (zl 7 rfl (bF [so 1 (D.v (V.one (El.row bw x))),so 2 (D.ptr 0 0)] [au 27 [ab.val (.int .i64 ((g.ag:Nat):Int)),El.row bC g.us,El.row bC g.os]] rfl rfl (zc 1 rfl (aa rfl (v8 rfl (rfl)) ?_)))))))));refine zl 4 rfl (DA 6 35 3 rfl rfl (zc 5 rfl ?_));refine bH (fun m Γ H=>∃(i:Nat) (n:Nat) (out:List Rat),x.length-i=m/\Γ=[(1,some (D.v (V.one (El.row bw x)))),(2,some (D.ptr 0 0)),(6,some (D.v (V.one (ab.own 1 n)))),(7,some (D.val (.int .i64 (i:Int))))]/\H=[au 27 [ab.val (.int .i64 ((g.ag:Nat):Int)),El.row bC g.us,El.row bC g.os],dO 35 3 bw out n]/\i<=x.length/\out=x.take i) ⟨0,0,[],rfl,rfl,rfl,XS _,rfl⟩ rfl ?_;rintro m Γ H ⟨i,n,out,rfl,rfl,rfl,hi0,hout⟩;refine zc 5 rfl (aa rfl (aw rfl) ?_);by_cases hi:i<x.length
 .refine aa rfl (aX rfl) (zl 7 rfl ?_);obtain⟨y,hy⟩:∃y,x[i]?=some y:=⟨_,XM hi⟩;haveI hyb:=hx y (XR hy);have hol:out.length<=7:=by rw[hout,X2];omega
  refine zc 4 rfl (aa rfl (aS i hy rfl) (aa rfl (bo rfl) (aj ko rfl (kd (an (y)) (y) (aG _) (Br.use (by omega))) (aK rfl (b8 rfl qN jm qO rfl (by decide) (by decide) rfl (by decide) rfl) (aK rfl (uK y rfl rfl) (zl 4 rfl ?_))))));refine bF [so 1 (D.v (V.one (El.row bw x))),so 2 (D.ptr 0 0),so 6 (D.v (V.one (ab.own 1 (n+1)))),so 7 (D.val (.int .i64 (i:Int)))] [au 27 [ab.val (.int .i64 ((g.ag:Nat):Int)),El.row bC g.us,El.row bC g.os],dO 35 3 bw (out++[y]) (n+1)] rfl rfl (zc 2 rfl (aa rfl (aL (i+1) rfl) (zl 2 rfl ?_)));exact aP ⟨i+1,_,_,rfl,rfl,rfl,hi,by rw[hout,iF hy]⟩ rfl
 .refine aa rfl (aO rfl) (zl 10 rfl ?_);have hie:i=x.length:=by omega
  rw[hie,Yo] at hout;refine zc 5 rfl ?_;refine bH (fun m Γ H=>∃(j:Nat) (n2:Nat) (out2:List Rat),g.us.length-j=m/\Γ=[(2,some (D.ptr 0 0)),(6,some (D.v (V.one (ab.own 1 n2)))),(8,some (D.val (.int .i64 (j:Int))))]/\H=[au 27 [ab.val (.int .i64 ((g.ag:Nat):Int)),El.row bC g.us,El.row bC g.os],dO 35 3 bw out2 n2]/\j<=g.us.length/\out2=iN g.us x j) ⟨0,n,out,rfl,rfl,rfl,XS _,hout⟩ rfl ?_;rintro m Γ H ⟨j,n2,out2,rfl,rfl,rfl,hj0,hout2⟩;refine zc 6 rfl (aa rfl (aw rfl) ?_);by_cases hj:j<g.us.length
  .refine aa rfl (aX rfl) (zl 8 rfl ?_);obtain⟨p,hp⟩:∃p,g.us[j]?=some p:=⟨_,XM hj⟩;have hol:out2.length=g.ag+j:=by rw[hout2,qo j (by omega),hl]
   have hvb:VB (KV j) out2:=by rw[hout2];exact Dp hg hx hl j (by omega)
   have hkv:=Lc (n:=j) (by omega);have hpo:=hg.us j p hp;haveI hev:=yq hpo hvb (by omega) (by omega);haveI hmb:=GU hev;refine bF [so 2 (D.ptr 0 0),so 6 (D.v (V.one (ab.own 1 n2))),so 8 (D.val (.int .i64 (j:Int)))] [au 27 [ab.val (.int .i64 ((g.ag:Nat):Int)),El.row bC g.us,El.row bC g.os],dO 35 3 bw out2 n2] rfl rfl (zc 4 rfl (aa rfl (aS j hp rfl) (aa rfl (bo rfl) ?_)));refine aa rfl (qw (r:=1) (n:=n2) (x:=V.one (ab.own 1 n2)) (x':=V.one (El.row bw out2)) (v5 rfl rfl) (dH.gf bw out2 rfl (by decide)) (by decide) (.inr ⟨rfl,rfl⟩)) (aj Cg rfl (Cq p hpo out2 hvb (by omega) (by omega) (by omega)) (zl 8 rfl (bF [so 2 _,so 6 _,so 8 _,so 9 (D.ptr 2 0)] [_,_,au 35 (qL (bV p out2))] rfl rfl (zc 4 rfl ?_))));refine aj Tz rfl (Ol (an ((bV p out2))) ((bV p out2)) (aG _) (Br.use (by omega)) n8 (0) Pa Pb) (aK rfl (b8 rfl qN jm qO rfl (by decide) (by decide) rfl (by decide) rfl) (aK rfl (uK (mx ((bV p out2)) (0)) rfl rfl) (zl 6 rfl (aa rfl (aL (j+1) rfl) (zl 2 rfl (cX 2 (cN 2 rfl ?_)))))));exact aP ⟨j+1,_,_,rfl,rfl,rfl,hj,by rw[hout2,vX hp]⟩ rfl
  .refine aa rfl (aO rfl) (zl 9 rfl ?_);have hje:j=g.us.length:=by omega
   rw[hje] at hout2;refine bQ [0] [so 6 (D.v (V.one (ab.own 1 n2)))] [none,dO 35 3 bw out2 n2] rfl rfl rfl (zc 6 rfl (vY 4 (x':=V.one (El.row bw out2)) rfl (dH.gf bw out2 rfl (by decide)) (.inr ⟨rfl,rfl⟩) ?_));exact aI ai rfl (by rw[hout2] <;> rfl)
theorem PA(r:Rg){n:Nat}(hr:nL n r)(hn1:1<=n)(hn3:n<=3):ar Tryz.prog 35 [rl r] (R.one (V.one (ab.val (.bool true)))):=by
 refine aF Tryz.func35 Tryz.ntmps35 rfl (fun w0 A0=>?_);have h1:=hr.lo;have h2:=hr.hi;have h3:=hr.r2;refine zc 11 rfl (aa rfl (aw rfl) (aj IG rfl (FO r r.lo.length (by rw[hr.lo];exact hr) (by omega) (by omega)) (zl 3 rfl ?_)));exact av ai rfl rfl
theorem UR(r:Rg){n:Nat}(hr:nL n r)(hn1:1<=n)(hn3:n<=3)(x:List Rat)(hx:wi r x):ar Tryz.prog 9 [rl r,V.one (El.row bw x)] (R.one (V.one (ab.val (.bool (sO r x))))):=by
 refine aF Tryz.func9 Tryz.ntmps9 rfl (fun w0 A0=>?_);have h1:=hr.lo;have h2:=hr.hi;have h3:=hr.r2;have hxl:=hx.len;refine zc 10 rfl (aj TA rfl (PA r hr hn1 hn3) (zl 3 rfl (aa rfl (aw rfl) (zl 2 rfl (aa rfl (aw rfl) (aa rfl (eg rfl) (zl 8 rfl (bF [so 1 (D.v (V.one (El.row bw x))),so 2 (D.ptr 0 0)] [au 30 [El.row bw r.lo,El.row bw r.hi,El.row bC r.rows]] rfl rfl (zc 5 rfl ?_)))))))));refine bH (fun m Γ H=>∃(i:Nat),x.length-i=m/\Γ=[(1,some (D.v (V.one (El.row bw x)))),(2,some (D.ptr 0 0)),(5,some (D.val (.int .i64 (i:Int))))]/\H=[au 30 [El.row bw r.lo,El.row bw r.hi,El.row bC r.rows]]/\i<=x.length) ⟨0,rfl,rfl,rfl,XS _⟩ rfl ?_;rintro m Γ H ⟨i,rfl,rfl,rfl,hi0⟩;refine zc 5 rfl (aa rfl (aw rfl) ?_);by_cases hi:i<x.length
 .refine aa rfl (aX rfl) (zl 8 rfl ?_);obtain⟨y,hy⟩:∃y,x[i]?=some y:=⟨_,XM hi⟩;obtain⟨a,ha⟩:∃a,r.lo[i]?=some a:=⟨_,XM (by omega)⟩;obtain⟨b,hb⟩:∃b,r.hi[i]?=some b:=⟨_,XM (by omega)⟩;obtain⟨hay,hyb⟩:=hx.BL i y a b hy ha hb;haveI hb0:=hx.bd y (XR hy);haveI hb1:=(hr.bd i a b ha hb).1.br;haveI hb2:=(hr.bd i a b ha hb).2.1.br;refine aE 0 [] [] (dz 2 rfl (af rfl (aS i hy rfl) (af rfl (bo rfl) (dz 3 rfl (af rfl (aS i ha rfl) (af rfl (bo rfl) (ax pW rfl (pv (an (y)) (y) (aG _) (Br.use (by omega)) (an (a)) (a) (aG _) (Br.use (by omega))) (af rfl (aO rfl (by have:=vC.2 hay;omega)) (dz 3 rfl ?_)))))))));refine af rfl (aS i hy rfl) (af rfl (bo rfl) (dz 3 rfl (af rfl (aS i hb rfl) (af rfl (bo rfl) (ax pW rfl (pv (an (y)) (y) (aG _) (Br.use (by omega)) (an (b)) (b) (aG _) (Br.use (by omega))) (af rfl (cD rfl (by have:=vB.2 hyb;omega)) (dz 1 rfl (aB (za 5 rfl ?_)))))))));refine bF [so 1 (D.v (V.one (El.row bw x))),so 2 (D.ptr 0 0),so 5 (D.val (.int .i64 (i:Int)))] [au 30 [El.row bw r.lo,El.row bw r.hi,El.row bC r.rows]] rfl rfl (zc 2 rfl (aa rfl (aL (i+1) rfl) (zl 2 rfl ?_)));exact aP ⟨i+1,rfl,rfl,rfl,hi⟩ rfl
 .refine aa rfl (aO rfl) (zl 15 rfl ?_);refine bH (fun m Γ H=>∃(k:Nat),r.rows.length-k=m/\Γ=[(1,some (D.v (V.one (El.row bw x)))),(2,some (D.ptr 0 0)),(6,some (D.val (.int .i64 (k:Int))))]/\H=[au 30 [El.row bw r.lo,El.row bw r.hi,El.row bC r.rows]]/\k<=r.rows.length/\(r.rows.take k).all (fun f=>decide (0<=sg (bV f x)))=true) ⟨0,rfl,rfl,rfl,XS _,rfl⟩ rfl ?_;rintro m Γ H ⟨k,rfl,rfl,rfl,hk0,hall⟩;refine zc 6 rfl (aa rfl (aw rfl) ?_);by_cases hk:k<r.rows.length
  .refine aa rfl (aX rfl) (zl 8 rfl ?_);obtain⟨f,hf⟩:∃f,r.rows[k]?=some f:=⟨_,XM hk⟩;have hfo:=hr.rows f (XR hf);haveI hev:=yq hfo hx.bd (by omega) (by omega);refine bF [so 1 (D.v (V.one (El.row bw x))),so 2 (D.ptr 0 0),so 6 (D.val (.int .i64 (k:Int)))] [au 30 [El.row bw r.lo,El.row bw r.hi,El.row bC r.rows]] rfl rfl (zc 4 rfl (aa rfl (aS k hf rfl) (aa rfl (bo rfl) (zl 1 rfl (aj Cg rfl (Cq f hfo x hx.bd (by omega) (by omega) (by omega)) (zl 9 rfl ?_))))));refine bF [so 1 _,so 2 _,so 6 _,so 7 (D.ptr 1 0)] [_,au 35 (qL (bV f x))] rfl rfl (zc 2 rfl (aj gy rfl (gm (an ((bV f x))) ((bV f x)) (aG _) (Br.use (by omega))) ?_));by_cases hneg:sg (bV f x)<0
   .refine aa rfl (aX rfl) (zl 8 rfl ?_);exact av ai rfl (by unfold sO;rw[VP hf (decide_eq_false (by omega))])
   .refine aa rfl (aO rfl) (zl 8 rfl (aa rfl (aL (k+1) rfl) (zl 2 rfl (cX 1 (cN 1 rfl ?_)))));exact aP ⟨k+1,rfl,rfl,rfl,hk,zq hf hall (decide_eq_true (by omega))⟩ rfl
  .refine aa rfl (aO rfl) (zl 9 rfl ?_);have hke:k=r.rows.length:=by omega
   rw[hke,Yo] at hall;refine zc 4 rfl ?_;exact av ai rfl (by unfold sO;rw[hall])
theorem Sv(r:Rg){n:Nat}(hr:nL n r)(hn1:1<=n)(hn3:n<=3)(l:List Nat)(hb:∀x∈l,x<256)(hll:l.length<=1000):ar Tryz.prog 8 [rl r,V.one (El.row dP l)] (R.one (V.one (El.row bw (gx r l r.lo.length)))):=by
 refine aF Tryz.func8 Tryz.ntmps8 rfl (fun w0 A0=>?_);have h1:=hr.lo;have h2:=hr.hi;have h3:=hr.r2;refine zc 8 rfl (aa rfl (v8 rfl (rfl)) (zl 4 rfl (DA 5 35 3 rfl rfl (zc 5 rfl ?_))));refine bH (fun m Γ H=>∃(i:Nat) (n2:Nat) (out:List Rat),r.lo.length-i=m/\Γ=[(1,some (D.v (V.one (El.row dP l)))),(2,some (D.ptr 0 0)),(5,some (D.v (V.one (ab.own 1 n2)))),(6,some (D.val (.int .i64 (i:Int))))]/\H=[au 30 [El.row bw r.lo,El.row bw r.hi,El.row bC r.rows],dO 35 3 bw out n2]/\i<=r.lo.length/\out=gx r l i) ⟨0,0,[],rfl,rfl,rfl,XS _,rfl⟩ rfl ?_;rintro m Γ H ⟨i,n2,out,rfl,rfl,rfl,hi0,hout⟩;refine zc 6 rfl (aa rfl (aw rfl) ?_);by_cases hi:i<r.lo.length
 .refine aa rfl (aX rfl) (zl 8 rfl ?_);obtain⟨a,ha⟩:∃a,r.lo[i]?=some a:=⟨_,XM hi⟩;obtain⟨b,hb2⟩:∃b,r.hi[i]?=some b:=⟨_,XM (by omega)⟩;haveI hb1:=(hr.bd i a b ha hb2).1.br;haveI hb3:=(hr.bd i a b ha hb2).2.1.br;have hol:out.length<=7:=by rw[hout,BJ];omega
  have hk9:((l[i]?).getD 0%9)<=8:=by omega
  haveI h8:=(JA hk9).1.br;refine bF [so 1 (D.v (V.one (El.row dP l))),so 2 (D.ptr 0 0),so 5 (D.v (V.one (ab.own 1 n2))),so 6 (D.val (.int .i64 (i:Int)))] [au 30 [El.row bw r.lo,El.row bw r.hi,El.row bC r.rows],dO 35 3 bw out n2] rfl rfl (zc 9 rfl (aa rfl (aw rfl) ?_));by_cases hil:i<l.length
  .refine aa rfl (aX rfl) (zl 3 rfl ?_);obtain⟨z,hz⟩:∃z,l[i]?=some z:=⟨_,XM hil⟩;have hzb:=hb z (XR hz);refine zc 3 rfl (aa rfl (aS i hz rfl) (aa rfl (bB rfl) (aa rfl (fR rfl rfl rfl (by decide) (r:=((z%9:Nat):Int)) (fB _ _)) (aa rfl (oy (z%9) rfl) (zl 4 rfl (bF [so 1 _,so 2 _,so 5 _,so 6 _,so 7 (D.val (.int .i64 ((z%9:Nat):Int)))] [_,_] rfl rfl (zc 2 rfl ?_)))))));refine iK (D.val (.int .i64 ((((l[i]?).getD 0%9):Nat):Int))) rfl (by first|(simp only[hz,Yt];done)|(rw[Yi (by omega)];rfl)) ?_;refine aj ye rfl (w4 ((((l[i]?).getD 0%9):Nat):Int) 8 (by omega) (by omega) (by decide) (by decide) (by decide)) (zl 8 rfl (bF [so 1 _,so 2 _,so 5 _,so 6 _,so 8 (D.ptr 2 0)] [_,_,au 35 (qL (((((((l[i]?).getD 0%9):Nat):Int):Int):Rat)/((8:Int):Rat)))] rfl rfl (aE 0 [(21,1)] [1] (dz 4 rfl (af rfl (aS i ha rfl) (af rfl (bo rfl) (dz 4 rfl ?_)))))));refine af rfl (aS i hb2 rfl) (af rfl (bo rfl) (dz 3 rfl (af rfl (aS i ha rfl) (af rfl (bo rfl) (ax pY rfl (pn (an (b)) (b) (aG _) (Br.use (by omega)) (an (a)) (a) (aG _) (Br.use (by omega))) ?_)))));refine ax pX rfl (po (an (((((((l[i]?).getD 0%9):Nat):Int):Int):Rat)/((8:Int):Rat))) (((((((l[i]?).getD 0%9):Nat):Int):Int):Rat)/((8:Int):Rat)) (aG _) (Br.use (by omega)) (an ((b)-(a))) ((b)-(a)) (aG _) (Br.use (by omega))) ?_;refine ax kY rfl (kC (an (a)) (a) (aG _) (Br.use (by omega)) (an ((((((((l[i]?).getD 0%9):Nat):Int):Int):Rat)/((8:Int):Rat))*((b)-(a)))) ((((((((l[i]?).getD 0%9):Nat):Int):Int):Rat)/((8:Int):Rat))*((b)-(a))) (aG _) (Br.use (by omega))) ?_;refine fh rfl (fun _=>b8 rfl qN jm qO rfl (by decide) (by decide) rfl (by decide) rfl) (cH 1 rfl (ib ((a)+((((((((l[i]?).getD 0%9):Nat):Int):Int):Rat)/((8:Int):Rat))*((b)-(a)))) rfl rfl) (dz 1 rfl (aB (za 2 rfl ?_))));refine bQ [2] [so 1 _,so 2 _,so 5 (D.v (V.one (ab.own 1 (n2+1)))),so 6 _] [_,dO 35 3 bw (out++[(a)+((((((((l[i]?).getD 0%9):Nat):Int):Int):Rat)/((8:Int):Rat))*((b)-(a)))]) (n2+1),none] rfl rfl rfl (zc 2 rfl (aa rfl (aL (i+1) rfl) (zl 2 rfl (cN 2 rfl ?_))));exact aP ⟨i+1,_,_,rfl,rfl,rfl,hi,by rw[hout,HX];unfold m9;rw[ha,hb2];rfl⟩ rfl
  .refine aa rfl (aO rfl) (zl 8 rfl ?_);refine iK (D.val (.int .i64 ((((l[i]?).getD 0%9):Nat):Int))) rfl (by first|(simp only[hz,Yt];done)|(rw[Yi (by omega)];rfl)) ?_;refine aj ye rfl (w4 ((((l[i]?).getD 0%9):Nat):Int) 8 (by omega) (by omega) (by decide) (by decide) (by decide)) (zl 8 rfl (bF [so 1 _,so 2 _,so 5 _,so 6 _,so 8 (D.ptr 2 0)] [_,_,au 35 (qL (((((((l[i]?).getD 0%9):Nat):Int):Int):Rat)/((8:Int):Rat)))] rfl rfl (aE 0 [(21,1)] [1] (dz 4 rfl (af rfl (aS i ha rfl) (af rfl (bo rfl) (dz 4 rfl ?_)))))));refine af rfl (aS i hb2 rfl) (af rfl (bo rfl) (dz 3 rfl (af rfl (aS i ha rfl) (af rfl (bo rfl) (ax pY rfl (pn (an (b)) (b) (aG _) (Br.use (by omega)) (an (a)) (a) (aG _) (Br.use (by omega))) ?_)))));refine ax pX rfl (po (an (((((((l[i]?).getD 0%9):Nat):Int):Int):Rat)/((8:Int):Rat))) (((((((l[i]?).getD 0%9):Nat):Int):Int):Rat)/((8:Int):Rat)) (aG _) (Br.use (by omega)) (an ((b)-(a))) ((b)-(a)) (aG _) (Br.use (by omega))) ?_;refine ax kY rfl (kC (an (a)) (a) (aG _) (Br.use (by omega)) (an ((((((((l[i]?).getD 0%9):Nat):Int):Int):Rat)/((8:Int):Rat))*((b)-(a)))) ((((((((l[i]?).getD 0%9):Nat):Int):Int):Rat)/((8:Int):Rat))*((b)-(a))) (aG _) (Br.use (by omega))) ?_;refine fh rfl (fun _=>b8 rfl qN jm qO rfl (by decide) (by decide) rfl (by decide) rfl) (cH 1 rfl (ib ((a)+((((((((l[i]?).getD 0%9):Nat):Int):Int):Rat)/((8:Int):Rat))*((b)-(a)))) rfl rfl) (dz 1 rfl (aB (za 2 rfl ?_))));refine bQ [2] [so 1 _,so 2 _,so 5 (D.v (V.one (ab.own 1 (n2+1)))),so 6 _] [_,dO 35 3 bw (out++[(a)+((((((((l[i]?).getD 0%9):Nat):Int):Int):Rat)/((8:Int):Rat))*((b)-(a)))]) (n2+1),none] rfl rfl rfl (zc 2 rfl (aa rfl (aL (i+1) rfl) (zl 2 rfl (cN 2 rfl ?_))));exact aP ⟨i+1,_,_,rfl,rfl,rfl,hi,by rw[hout,HX];unfold m9;rw[ha,hb2];rfl⟩ rfl
 .refine aa rfl (aO rfl) (zl 9 rfl ?_);have hie:i=r.lo.length:=by omega
  rw[hie] at hout;refine zc 5 rfl (vY 4 (x':=V.one (El.row bw out)) rfl (dH.gf bw out rfl (by decide)) (.inr ⟨rfl,rfl⟩) ?_);exact av ai rfl (by rw[hout])
end Go.Proofs.YtakccfmgipajnaaGreatDoor
namespace Rc
open Go Go.RowKit
structure iz(s:Sc):Prop where
 q:dt s.q
 d:∀d∈s.path,j7 200 s.q d
 p:∀d∈s.path,d.kind=1\/d.kind=2
 pl:s.path.length<=100
 can:∀m∈s.aq,m.v=an m.v.q
 B:∀m∈s.aq,Fq m.v 200000
 ll:s.aq.length<=100
def fu(l:List Lm)(n u:Int)(up:Bool):Rat×Bool:=
 if n<1 then(0,false) else match l[(n-1).toNat]? with
 |none=>(0,false)
 |some m=>(m.v.q,(m.unit == u)&&(m.up == up))
section
variable {l:List Lm}{n u:Int}{up:Bool}
theorem CX(h:n<1):fu l n u up=(0,false):=if_pos h
theorem Vo(h:(l.length:Int)<n):fu l n u up=(0,false):=by
 unfold fu;split
 .rfl
 .rw[Yi (by omega)]
theorem sU{m:Lm}(h:¬n<1)(hm:l[(n-1).toNat]?=some m):fu l n u up=(m.v.q,(m.unit == u)&&(m.up == up)):=by
 unfold fu;rw[if_neg h,hm]
theorem ze{B:Nat}(hB:∀m∈l,Fq m.v B):Br (fu l n u up).1 B:=by
 unfold fu;split
 .exact Br.zero.mono (XS _)
 .split
  .exact Br.zero.mono (XS _)
  .rename_i m hm;haveI:=hB m (XR hm);exact Fq.br
end
section
variable (s:Sc)(r:Rw)
@[reducible] def dM:Rat:=(fu s.aq r.lo r.idx false).1
@[reducible] def kR:Bool:=(fu s.aq r.lo r.idx false).2
@[reducible] def dG:Rat:=(fu s.aq r.hi r.idx true).1
@[reducible] def kl:Bool:=(fu s.aq r.hi r.idx true).2
def gp:Bool:=(r.hi == 0)&&(((r.lo == 0)&&kq s.path 1 r.idx)||(kR s r&&decide (0<=sg (dM s r))))
def gF:Bool:=(r.lo == 0)&&(((r.hi == 0)&&kq s.path 2 r.idx)||(kl s r&&decide (sg (dG s r)<=0)))
def oa:Bool:=(r.lo == 0)&&(r.hi == 0)
def eY(p:Af):Af×Bool:=
 if r.kind=5 then(fV (s.q.g.ag+r.idx.toNat),oa r)
 else if r.kind=6 then(bA (fV (s.q.g.ag+r.idx.toNat)) p,oa r)
 else if r.kind=7 then(p,gp s r)
 else if r.kind=8 then(bA p (fV (s.q.g.ag+r.idx.toNat)),gp s r)
 else if r.kind=9 then(bN p ((-1:Int):Rat),gF s r)
 else if r.kind=10 then(bN (fV (s.q.g.ag+r.idx.toNat)) ((-1:Int):Rat),gF s r)
 else if r.kind=11 then(bA p (fN (dM s r)),kR s r&&(r.hi == 0))
 else if r.kind=12 then(bA (fN (dG s r)) p,kl s r&&(r.lo == 0))
 else if r.kind=13 then
  if kR s r=true/\kl s r=true/\dM s r<0/\0<dG s r then(bA (bN (bA p (fN (dM s r))) (dG s r)) (bN (fV (s.q.g.ag+r.idx.toNat)) (dG s r-dM s r)),true) else(fZ,false)
 else(fZ,false)
def o7:Af×Bool:=if r.idx<0 then(fZ,false) else match s.q.g.us[r.idx.toNat]? with
 |none=>(fZ,false)
 |some p=>eY s r p
def cv:Af×Bool:=if 5<=r.kind then o7 s r else bK s r
end
theorem iC{s:Sc}{r:Rw}{p:Af}(h1:¬r.idx<0)(hp:s.q.g.us[r.idx.toNat]?=some p):o7 s r=eY s r p:=by
 unfold o7;rw[if_neg h1,hp]
theorem Mr{s:Sc}{r:Rw}{p:Af}{B n:Nat}(hB:∀m∈s.aq,Fq m.v B)(hp:FL 4 n p)(hv:s.q.g.ag+r.idx.toNat<n):FL (4*B+40) n (eY s r p).1:=by
 haveI hl:Br (dM s r) B:=ze hB;haveI ht:Br (dG s r) B:=ze hB;have h1:=FL.v hv;have m:∀{C:Nat} {f:Af},FL C n f->C<=4*B+40->FL (4*B+40) n f:=fun h hc=>h.mono hc (XP _);unfold eY;split;· exact m h1 (by omega)
 split;· exact m (h1.sub hp) (by omega)
 split;· exact m hp (by omega)
 split;· exact m (hp.sub h1) (by omega)
 split;· exact m (FL.sc (c:=((-1:Int):Rat)) hp) (by omega)
 split;· exact m (FL.sc (c:=((-1:Int):Rat)) h1) (by omega)
 split;· exact m (hp.sub (FL.n hl)) (by omega)
 split;· exact m ((FL.n ht).sub hp) (by omega)
 split
 .split
  .exact m ((FL.sc (c:=dG s r) (hp.sub (FL.n hl))).sub (FL.sc (c:=dG s r-dM s r) h1)) (by omega)
  .exact m FL.z (by omega)
 exact m FL.z (by omega)
theorem Iy{s:Sc}{r:Rw}(h:iz s):FL 800240 (s.q.g.ag+s.q.g.us.length) (cv s r).1:=by
 unfold cv;split
 .unfold o7;split
  .exact FL.z.mono (by omega) (XP _)
  .split
   .exact FL.z.mono (by omega) (XP _)
   .rename_i p hp;have hj:=(XN.1 hp).1;exact(Mr h.B ((h.q.g.us _ p hp).fl.mono (by omega) (by omega)) (by omega)).mono (by omega) (XP _)
 .exact(BW h.q h.d h.B).mono (by omega) (XP _)
structure gS(B C:Nat)(q:Qu)(m:Lm):Prop where
 u0:0<=m.unit
 u:m.unit.toNat<q.g.us.length
 can:m.v=an m.v.q
 B:Fq m.v B
 mb:MB C m.pf
 pc:∀x∈m.pf,x.c=an x.c.q
 pl:m.pf.length<=14
def gq(s:Sc)(l:List Mu)(i:Nat)(x:Mu):Bool:=
 decide (0<x.c.q)&&((decide (i=0)||(match l[i-1]? with|some y=>dd y.r x.r|none=>false))&&(cv s x.r).2)
def fE(s:Sc)(f:Af)(l:List Mu):Nat->Option Af
 |0=>some f
 |n+1=>match fE s f l n,l[n]? with
  |some g,some x=>if gq s l n x=true then some (bA g (bN (cv s x.r).1 x.c.q)) else none
  |_,_=>none
def jM(s:Sc)(f:Af)(l:List Mu):Rat×Bool:=match fE s f l l.length with
 |some g=>(g.c,decide (g.ts.length=0))
 |none=>(0,false)
def kI(s:Sc)(f:Af)(l:List Mu):Bool:=(jM s f l).2&&decide (0<=sg (jM s f l).1)
def rT(p:Af)(m:Lm):Af:=if m.up=true then bN (bA p (fN m.v.q)) ((-1:Int):Rat) else bA p (fN m.v.q)
def ou(s:Sc)(m:Lm):Bool:=match s.q.g.us[m.unit.toNat]? with
 |some p=>kI s (rT p m) m.pf
 |none=>false
section
variable {s:Sc}{f g:Af}{l:List Mu}{n:Nat}{x:Mu}
theorem Ft(h:fE s f l n=some g)(hx:l[n]?=some x)(ho:gq s l n x=true):fE s f l (n+1)=some (bA g (bN (cv s x.r).1 x.c.q)):=by
 show(match fE s f l n,l[n]? with
  |some g,some x=>if gq s l n x=true then some (bA g (bN (cv s x.r).1 x.c.q)) else none
  |_,_=>none)=_
 rw[h,hx];exact if_pos ho
theorem Of(hx:l[n]?=some x)(ho:gq s l n x=false):fE s f l (n+1)=none:=by
 show(match fE s f l n,l[n]? with
  |some g,some x=>if gq s l n x=true then some (bA g (bN (cv s x.r).1 x.c.q)) else none
  |_,_=>none)=_
 rw[hx]
 cases fE s f l n with
 |none=>rfl
 |some g=>exact if_neg (by rw[ho];decide)
theorem Fu(h:fE s f l n=none):∀k,fE s f l (n+k)=none
 |0=>h
 |k+1=>by
  show(match fE s f l (n+k),l[n+k]? with
   |some g,some x=>if gq s l (n+k) x=true then some (bA g (bN (cv s x.r).1 x.c.q)) else none
   |_,_=>none)=_
  rw[Fu h k]
theorem wZ(hx:l[n]?=some x)(ho:gq s l n x=false):jM s f l=(0,false):=by
 have h1:=(XN.1 hx).1;have h2:=Fu (Of (s:=s) (f:=f) hx ho) (l.length-(n+1));rw[show n+1+(l.length-(n+1))=l.length by omega] at h2;unfold jM;rw[h2]
theorem FA(h:fE s f l l.length=some g):jM s f l=(g.c,decide (g.ts.length=0)):=by unfold jM;rw[h]
theorem PV(h:¬0<x.c.q):gq s l n x=false:=by unfold gq;rw[decide_eq_false h];rfl
theorem P4{y:Mu}(hn:0<n)(hy:l[n-1]?=some y)(h:dd y.r x.r=false):gq s l n x=false:=by
 unfold gq;rw[hy,decide_eq_false (show ¬n=0 by omega)];simp only[h,ZA,Bool.false_and,Bool.and_false]
theorem Gw(h:(cv s x.r).2=false):gq s l n x=false:=by unfold gq;rw[h,Bool.and_false,Bool.and_false]
theorem PM(h0:0<x.c.q)(hf:(cv s x.r).2=true)(hn:¬0<n):gq s l n x=true:=by
 unfold gq;rw[decide_eq_true h0,hf,decide_eq_true (show n=0 by omega)];rfl
theorem PN{y:Mu}(h0:0<x.c.q)(hf:(cv s x.r).2=true)(hy:l[n-1]?=some y)(h:dd y.r x.r=true):gq s l n x=true:=by
 unfold gq;rw[decide_eq_true h0,hf,hy];simp only[h,Bool.or_true,Bool.and_true]
theorem Fz{K C:Nat}(h:iz s)(hf:FL K (s.q.g.ag+s.q.g.us.length) f)(hm:MB C l):∀{n:Nat} {g:Af},fE s f l n=some g->FL (K+n*(C+800250)) (s.q.g.ag+s.q.g.us.length) g
 |0,g,e=>by cases e;exact hf.mono (by omega) (XP _)
 |n+1,g,e=>by
  have e:(match fE s f l n,l[n]? with
   |some g,some x=>if gq s l n x=true then some (bA g (bN (cv s x.r).1 x.c.q)) else none
   |_,_=>none)=some g:=e
  cases h1:fE s f l n with
  |none=>rw[h1] at e;simp at e
  |some g0=>
   cases h2:l[n]? with
   |none=>rw[h1,h2] at e;simp at e
   |some x=>
    rw[h1,h2] at e;simp only at e;split at e
    .simp only[XL] at e;subst e;have ih:=Fz h hf hm h1;haveI:=hm x (XR h2);refine(ih.sub (FL.sc (c:=x.c.q) (Iy (r:=x.r) h))).mono ?_ (XP _);rw[Ys];omega
    .simp at e
theorem Fy{K C:Nat}(h:iz s)(hf:FL K (s.q.g.ag+s.q.g.us.length) f)(hm:MB C l)(hn:n<=14)(e:fE s f l n=some g):FL (K+14*(C+800250)) (s.q.g.ag+s.q.g.us.length) g:=
 (Fz h hf hm e).mono (Nat.add_le_add_left (Ya _ hn) _) (XP _)
theorem Og{K C:Nat}(h:iz s)(hf:FL K (s.q.g.ag+s.q.g.us.length) f)(hm:MB C l)(hn:l.length<=14):Br (jM s f l).1 (K+14*(C+800250)):=by
 unfold jM
 cases e:fE s f l l.length with
 |none=>exact Br.zero.mono (XS _)
 |some g=>exact(Fy h hf hm hn e).cb
end
end Rc
namespace Go.Proofs.YtakccfmgipajnaaGreatDoor
open Go Go.RowKit Rc
theorem kB(f g:Af){B C n:Nat}(hf:FL B n f)(hg:FL C n g)(h1:B<=10000000000)(h2:C<=10000000000)(hn:n<=1000):ar Tryz.prog 64 [bL f,bL g] (R.one (bL (bA f g))):=by
 refine aF Tryz.func64 Tryz.ntmps64 rfl (fun w0 A0=>?_);haveI:Br ((-1:Int):Rat) 2:=Br.m8 (by decide) (by decide);refine zc 8 rfl (aE 0 [(4,2)] [2] (dz 2 rfl (ax BX rfl (xb (-1) (by decide) (by decide)) (ax IE rfl (Hf f g ((-1:Int):Rat) hf hg (by omega) (by omega) (by omega) (by omega)) (dz 1 rfl (aB (za 1 rfl ?_)))))));exact av ai rfl (by show R.one (bL ⟨cC _ f.ts g.ts,f.c+g.c*_⟩)=R.one (bL ⟨ep f.ts (dA g.ts _),f.c+g.c*_⟩);rw[QQ hf.can hg.can])
theorem zQ(v:Nat)(hv:v<=1000000):ar Tryz.prog 160 [V.one (ab.val (.int .i64 ((v:Int))))] (R.one (bL (fV v))):=by
 refine aF Tryz.func160 Tryz.ntmps160 rfl (fun w0 A0=>?_);refine zc 8 rfl (aj BX rfl (xb 1 (by decide) (by decide)) (zl 1 rfl (aK rfl (b8 rfl jI kA wH rfl (by decide) (by decide) rfl (by decide) rfl) (zl 4 rfl ?_))));exact av ai rfl (by unfold fV;rw[Di] <;> rfl)
theorem rG(c:Rat){B:Nat}[Br c B](hB:B<=10000000000):ar Tryz.prog 50 [V.agg (qL (c))] (R.one (bL (fN c))):=by
 refine aF Tryz.func50 Tryz.ntmps50 rfl (fun w0 A0=>?_);refine zc 9 rfl (aj sy rfl (pB (an (c)) (c) (aG _) (Br.use (by omega))) (zl 4 rfl ?_));exact av ai rfl rfl
theorem Bp(f:Af){C n:Nat}(hf:FL C n f)(h2:C<=10000000000)(hn:n<=1000):ar Tryz.prog 65 [bL f] (R.one (bL (bN f ((-1:Int):Rat)))):=by
 refine aF Tryz.func65 Tryz.ntmps65 rfl (fun w0 A0=>?_);haveI:Br ((-1:Int):Rat) 2:=Br.m8 (by decide) (by decide);refine zc 7 rfl (aE 0 [(3,1)] [1] (dz 1 rfl (ax BX rfl (xb (-1) (by decide) (by decide)) (ax u9 rfl (tM f ((-1:Int):Rat) hf (by omega) (by omega) (by omega)) (dz 1 rfl (aB (za 1 rfl ?_)))))));exact av ai rfl rfl
theorem T7(q:Qu)(i:Nat)(hi:i<q.g.us.length)(h4:q.g.us.length<=1000):ar Tryz.prog 30 [n7 q,yD ⟨1,i,0⟩] (R.one (V.one (ab.val (.bool true)))):=by
 refine aF Tryz.func30 Tryz.ntmps30 rfl (fun w0 A0=>?_);refine zc 24 rfl (za 6 rfl (aa rfl (dR rfl) (zl 6 rfl (aa rfl (aw rfl) (aa rfl (aX rfl (by show(i:Int)<((q.g.us.length:Nat):Int);omega)) (zl 6 rfl (bT true rfl (rfl) (zl 5 rfl (aa rfl (aw rfl) ?_)))))))));refine aa rfl (bp rfl (by rw[qg,cJ];rfl)) (zl 5 rfl (aa rfl (aw rfl) (aa rfl (bp rfl (by rw[qi,cJ];rfl)) (zl 4 rfl ?_))));exact av ai rfl rfl
theorem PG(i:Nat):ar Tryz.prog 31 [yD ⟨1,i,0⟩] (R.one (yD ⟨2,i,0⟩)):=by
 refine aF Tryz.func31 Tryz.ntmps31 rfl (fun w0 A0=>?_);refine zc 24 rfl (zl 9 rfl ?_);exact av ai rfl rfl
theorem JK(s:Sc)(h:iz s)(k:Nat)(j:Int):ar Tryz.prog 162 [eM s,V.one (ab.val (.int .i64 ((k:Int)))),V.one (ab.val (.int .i64 (j)))] (R.one (V.one (ab.val (.bool (kq s.path k j))))):=by
 refine aF Tryz.func162 Tryz.ntmps162 rfl (fun w0 A0=>?_);have hpl:=h.pl;refine zc 11 rfl (aa rfl (aw rfl) (zl 4 rfl (km [0] rfl ?_)));refine bH (fun m Γ H=>∃(i:Nat),s.path.length-i=m/\Γ=[(1,some (D.val (.int .i64 (k:Int)))),(2,some (D.val (.int .i64 j))),(10,some (D.v (V.one (El.row bG s.path)))),(11,some (D.val (.int .i64 ((s.path.length:Nat):Int)))),(12,some (D.val (.int .i64 (i:Int))))]/\H=[none]/\i<=s.path.length/\qe s.path k j i=false) ⟨0,rfl,rfl,rfl,XS _,rfl⟩ rfl ?_;rintro m Γ H ⟨i,rfl,rfl,rfl,hi0,hno⟩;refine zc 2 rfl ?_;by_cases hi:i<s.path.length
 .refine aa rfl (aX rfl) (zl 9 rfl ?_);obtain⟨x,hx⟩:∃x,s.path[i]?=some x:=⟨_,XM hi⟩;refine zc 1 rfl (aa rfl (aS i hx rfl) (aa rfl (bo rfl) (zl 11 rfl ?_)));refine db rfl (fun hk1=>?_) (fun hk1=>?_)
  .refine zl 12 rfl (aa rfl (aL (i+1) rfl) (zl 2 rfl (cX 1 (cN 1 rfl ?_))));exact aP ⟨i+1,rfl,rfl,rfl,hi,by rw[yC hx,hno,hk1];rfl⟩ rfl
  .refine zl 7 rfl ?_;refine cV rfl (fun hk2=>?_) (fun hk2=>?_)
   .refine zc 5 rfl ?_;exact av ai rfl (by rw[JL hx hk1 hk2])
   .refine zc 4 rfl (aa rfl (aL (i+1) rfl) (zl 2 rfl (cX 1 (cN 1 rfl ?_))));exact aP ⟨i+1,rfl,rfl,rfl,hi,by rw[yC hx,hno,hk1,hk2];rfl⟩ rfl
 .refine aa rfl (aO rfl) (zl 14 rfl ?_);exact av ai rfl (by rw[<-JM,<-show i=s.path.length by omega,hno])
set_option maxHeartbeats 2000000 in
theorem Ke(s:Sc)(h:iz s)(n u:Int)(up:Bool):ar Tryz.prog 161 [eM s,V.one (ab.val (.int .i64 (n))),V.one (ab.val (.int .i64 (u))),V.one (ab.val (.bool up))] (R.aW [qV (an (fu s.aq n u up).1),V.one (ab.val (.bool (fu s.aq n u up).2))]):=by
 refine aF Tryz.func161 Tryz.ntmps161 rfl (fun w0 A0=>?_);have hll:=h.ll;refine zc 11 rfl ?_;by_cases h1:n<1
 .refine aa rfl (aX rfl) (zl 17 rfl ?_);exact aI ai rfl (by rw[CX h1];show _=R.aW [qV (an 0),V.one (ab.val (.bool false))];rw[<-kf] <;> rfl)
 .refine aa rfl (aO rfl) (zl 4 rfl (aa rfl (aw rfl) ?_));by_cases h2:(s.aq.length:Int)<n
  .refine aa rfl (dQ rfl) (zl 11 rfl ?_);exact aI ai rfl (by rw[Vo h2];show _=R.aW [qV (an 0),V.one (ab.val (.bool false))];rw[<-kf] <;> rfl)
  .refine aa rfl (cD rfl) (zl 7 rfl ?_);obtain⟨x,hx⟩:∃x,s.aq[(n-1).toNat]?=some x:=⟨_,XM (by omega)⟩;have hxc:=h.can x (XR hx);refine zc 4 rfl (aa rfl (du rfl rfl rfl (r:=(n-1)) (bS (by omega) (by omega) (by omega))) (aa rfl (aS ((n-1).toNat) hx rfl (by omega)) (aa rfl (bo rfl) (zl 5 rfl (aE 0 [(12,1)] [1] (dz 2 rfl (eU (D.agg (qL x.v.q)) rfl (oN hxc) (dz 5 rfl ?_))))))));refine jQ rfl (fun hu=>?_) (fun hu=>?_)
   .refine dz 7 rfl (aB (za 1 rfl ?_));exact aI ai rfl (by rw[sU h1 hx,hu] <;> rfl)
   .refine dz 3 rfl (af rfl (v7 rfl rfl rfl jH (d:=_) (rfl)) (dz 3 rfl (aB (za 1 rfl ?_))));exact aI ai rfl (by rw[sU h1 hx,hu] <;> rfl)
set_option maxHeartbeats 2000000 in
theorem SA(s:Sc)(h:iz s)(r:Rw)(h5:¬5<=r.kind):ar Tryz.prog 159 [eM s,mL r] (R.aW [bL (bK s r).1,V.one (ab.val (.bool (bK s r).2))]):=by
 refine aF Tryz.func159 Tryz.ntmps159 rfl (fun w0 A0=>?_);have hq:=h.q;have hg:=hq.g;have hr:=hq.r;have hlo:=hr.lo;have hhi:=hr.hi;have hpl:=h.pl;have g_1:=hg.i1;have g_2:=hg.i3;have g_3:=hg.u4;have g_4:=hg.o1;have g_5:=hg.o3;refine zc 19 rfl ?_;by_cases hc_:r.idx<0
 .refine aa rfl (aX rfl) (zl 14 rfl ?_);have h0:r.lo≠0\/r.hi≠0\/r.idx<0:=.inr (.inr hc_);refine zc 6 rfl ?_;exact aI ai rfl (by unfold bK;rw[if_neg h5,if_pos h0];exact cM _ _ rfl)
 .refine aa rfl (aO rfl) (zl 3 rfl ?_);by_cases ha:r.lo≠0
  .refine aa rfl (fG rfl) (zl 10 rfl ?_);have h0:r.lo≠0\/r.hi≠0\/r.idx<0:=.inl ha;refine zc 6 rfl ?_;exact aI ai rfl (by unfold bK;rw[if_neg h5,if_pos h0];exact cM _ _ rfl)
  .refine aa rfl (eg rfl) (zl 4 rfl ?_);by_cases au:r.hi≠0
   .refine aa rfl (fG rfl) (zl 5 rfl ?_);have h0:r.lo≠0\/r.hi≠0\/r.idx<0:=.inr (.inl au);refine zc 6 rfl ?_;exact aI ai rfl (by unfold bK;rw[if_neg h5,if_pos h0];exact cM _ _ rfl)
   .refine aa rfl (eg rfl) (zl 7 rfl ?_);have h0:¬(r.lo≠0\/r.hi≠0\/r.idx<0):=by omega
    refine zc 14 rfl ?_;by_cases hk1:r.kind=1
    .refine aa rfl (bp rfl) (zl 4 rfl (aa rfl (aw rfl) ?_));by_cases hin:r.idx.toNat<s.q.r.lo.length
     .refine aa rfl (aX rfl) (zl 6 rfl ?_);obtain⟨c,hc⟩:∃c,s.q.r.lo[r.idx.toNat]?=some c:=⟨_,XM (by omega)⟩;obtain⟨c2,hc2⟩:∃c,s.q.r.hi[r.idx.toNat]?=some c:=⟨_,XM (by omega)⟩;have hcb:=hr.bd _ _ _ hc hc2;have hv:FL 2 (s.q.g.ag+s.q.g.us.length) (fV r.idx.toNat):=FL.v (by omega);have hn:FL 8 (s.q.g.ag+s.q.g.us.length) (fN c):=FL.n (hcb.1.br.mono (by omega));haveI hcr:Br c 8:=hn.cb;haveI:=hv.fm (by omega);haveI:=hv.cb;haveI:=hn.fm (by omega);haveI:=hn.cb;refine aE 0 [(9,2)] [2] (dz 1 rfl (eU (D.val (.int .i64 ((r.idx.toNat:Nat):Int))) rfl (by rw[zac (by omega)]) (ax Cc rfl (zQ r.idx.toNat (by omega)) (dz 3 rfl (af rfl (aS r.idx.toNat hc rfl (by omega)) (af rfl (bo rfl) (ax sB rfl (rG c (by omega)) ?_)))))));refine ax kX rfl (kB (fV r.idx.toNat) (fN c) (by assumption) (by assumption) (by omega) (by omega) (by omega)) (dz 2 rfl (aB (za 1 rfl ?_)));exact aI ai rfl (by unfold bK;rw[if_neg h5,if_neg h0,if_pos hk1,hc] <;> rfl)
     .refine aa rfl (aO rfl) (zl 9 rfl (aa rfl (aU rfl) (zl 15 rfl (aa rfl (aU rfl) (zl 15 rfl (aa rfl (aU rfl) (zl 21 rfl ?_)))))));exact aI ai rfl (by unfold bK;rw[if_neg h5,if_neg h0,if_pos hk1,Yi (by omega)];exact cM _ _ rfl)
    .refine aa rfl (aU rfl) (zl 15 rfl ?_);by_cases hk2:r.kind=2
     .refine aa rfl (bp rfl) (zl 4 rfl (aa rfl (aw rfl) ?_));by_cases hin:r.idx.toNat<s.q.r.hi.length
      .refine aa rfl (aX rfl) (zl 6 rfl ?_);obtain⟨c,hc⟩:∃c,s.q.r.hi[r.idx.toNat]?=some c:=⟨_,XM (by omega)⟩;obtain⟨c2,hc2⟩:∃c,s.q.r.lo[r.idx.toNat]?=some c:=⟨_,XM (by omega)⟩;have hcb:=hr.bd _ _ _ hc2 hc;have hv:FL 2 (s.q.g.ag+s.q.g.us.length) (fV r.idx.toNat):=FL.v (by omega);have hn:FL 8 (s.q.g.ag+s.q.g.us.length) (fN c):=FL.n (hcb.2.1.br.mono (by omega));haveI hcr:Br c 8:=hn.cb;haveI:=hv.fm (by omega);haveI:=hv.cb;haveI:=hn.fm (by omega);haveI:=hn.cb;refine zc 4 rfl (aa rfl (aS r.idx.toNat hc rfl (by omega)) (aa rfl (bo rfl) (aj sB rfl (rG c (by omega)) (zl 1 rfl (iK (D.val (.int .i64 ((r.idx.toNat:Nat):Int))) rfl (by rw[zac (by omega)]) (aj Cc rfl (zQ r.idx.toNat (by omega)) (aj kX rfl (kB (fN c) (fV r.idx.toNat) (by assumption) (by assumption) (by omega) (by omega) (by omega)) ?_)))))));refine zl 4 rfl ?_;exact aI ai rfl (by unfold bK;rw[if_neg h5,if_neg h0,if_neg hk1,if_pos hk2,hc] <;> rfl)
      .refine aa rfl (aO rfl) (zl 9 rfl (aa rfl (aU rfl) (zl 15 rfl (aa rfl (aU rfl) (zl 21 rfl ?_)))));exact aI ai rfl (by unfold bK;rw[if_neg h5,if_neg h0,if_neg hk1,if_pos hk2,Yi (by omega)];exact cM _ _ rfl)
     .refine aa rfl (aU rfl) (zl 15 rfl ?_);by_cases hk3:r.kind=3
      .refine aa rfl (bp rfl) (zl 4 rfl (aa rfl (aw rfl) ?_));by_cases hin:r.idx.toNat<s.q.r.rows.length
       .refine aa rfl (aX rfl) (zl 6 rfl ?_);obtain⟨f,hf⟩:∃f,s.q.r.rows[r.idx.toNat]?=some f:=⟨_,XM (by omega)⟩;refine zc 4 rfl (aa rfl (aS r.idx.toNat hf rfl (by omega)) (aa rfl (bo rfl) (zl 4 rfl ?_)));exact aI ai rfl (by unfold bK;rw[if_neg h5,if_neg h0,if_neg hk1,if_neg hk2,if_pos hk3,hf] <;> rfl)
       .refine aa rfl (aO rfl) (zl 9 rfl (aa rfl (aU rfl) (zl 21 rfl ?_)));exact aI ai rfl (by unfold bK;rw[if_neg h5,if_neg h0,if_neg hk1,if_neg hk2,if_pos hk3,Yi (by omega)];exact cM _ _ rfl)
      .refine aa rfl (aU rfl) (zl 15 rfl ?_);by_cases hk4:r.kind=4
       .refine aa rfl (bp rfl) (zl 4 rfl (aa rfl (aw rfl) ?_));by_cases hin:r.idx.toNat<s.path.length
        .refine aa rfl (aX rfl) (zl 6 rfl ?_);obtain⟨d,hdd⟩:∃d,s.path[r.idx.toNat]?=some d:=⟨_,XM (by omega)⟩;have hdk:=h.p d (XR hdd);refine zc 4 rfl (aa rfl (aS r.idx.toNat hdd rfl (by omega)) (aa rfl (bo rfl) (zl 13 rfl (aa rfl (aU rfl) (zl 6 rfl (aa rfl (aU rfl) (zl 15 rfl ?_)))))));exact aI ai rfl (by unfold bK;rw[if_neg h5,if_neg h0,if_neg hk1,if_neg hk2,if_neg hk3,if_pos hk4,hdd];show _=R.aW [bL (if 3<=d.kind then(js d,true) else(fZ,false)).1,V.one (ab.val (.bool (if 3<=d.kind then(js d,true) else(fZ,false)).2))];rw[if_neg (by omega)];exact cM _ _ rfl)
        .refine aa rfl (aO rfl) (zl 15 rfl ?_);exact aI ai rfl (by unfold bK;rw[if_neg h5,if_neg h0,if_neg hk1,if_neg hk2,if_neg hk3,if_pos hk4,Yi (by omega)];exact cM _ _ rfl)
       .refine aa rfl (aU rfl) (zl 21 rfl ?_);exact aI ai rfl (by unfold bK;rw[if_neg h5,if_neg h0,if_neg hk1,if_neg hk2,if_neg hk3,if_neg hk4];exact cM _ _ rfl)
set_option maxHeartbeats 2000000 in
theorem Ix(s:Sc)(h:iz s)(r:Rw):ar Tryz.prog 106 [eM s,mL r] (R.aW [bL (cv s r).1,V.one (ab.val (.bool (cv s r).2))]):=by
 refine aF Tryz.func106 Tryz.ntmps106 rfl (fun w0 A0=>?_);have hq:=h.q;have hg:=hq.g;have hr:=hq.r;have hlo:=hr.lo;have hhi:=hr.hi;have hpl:=h.pl;have g_1:=hg.i1;have g_2:=hg.i3;have g_3:=hg.u4;have g_4:=hg.o1;have g_5:=hg.o3;refine zc 13 rfl ?_;by_cases h50:r.kind<5
 .refine aa rfl (aX rfl) (zl 4 rfl ?_);have h5:¬5<=r.kind:=by omega
  refine bF [so 2 (D.ptr 0 0),so 3 (D.ptr 1 0),so 4 (D.ptr 2 0)] [au 94 (fY s),au 105 [ab.val (.int .i64 r.kind),ab.val (.int .i64 r.idx),ab.val (.int .i64 r.lo),ab.val (.int .i64 r.hi)],au 37 [El.row bE ([]),ab.val (.bool false),ae ([]),ae ([])]] rfl rfl (zc 3 rfl (aj TU rfl (SA s (by assumption) r (by assumption)) (zl 6 rfl ?_)));exact aI ai rfl (by unfold cv;rw[if_neg h5] <;> rfl)
 .refine aa rfl (aO rfl) (zl 6 rfl ?_);have h5:5<=r.kind:=by omega
  refine bF [so 2 (D.ptr 0 0),so 3 (D.ptr 1 0),so 4 (D.ptr 2 0)] [au 94 (fY s),au 105 [ab.val (.int .i64 r.kind),ab.val (.int .i64 r.idx),ab.val (.int .i64 r.lo),ab.val (.int .i64 r.hi)],au 37 [El.row bE ([]),ab.val (.bool false),ae ([]),ae ([])]] rfl rfl (zc 10 rfl ?_);by_cases h1:r.idx<0
  .refine aa rfl (aX rfl) (zl 13 rfl (bQ [0,1] [so 4 _] [none,none,_] rfl rfl rfl (zc 6 rfl ?_)));exact aI ai rfl (by unfold cv o7;rw[if_pos h5,if_pos h1];exact cM _ _ rfl)
  .refine aa rfl (aO rfl) (zl 6 rfl (aa rfl (aw rfl) ?_));by_cases h2:(s.q.g.us.length:Int)<=r.idx
   .refine aa rfl (dR rfl) (zl 5 rfl (bQ [0,1] [so 4 _] [none,none,_] rfl rfl rfl (zc 6 rfl ?_)));exact aI ai rfl (by unfold cv o7;rw[if_pos h5,if_neg h1,Yi (by omega)];exact cM _ _ rfl)
   .refine aa rfl (dY rfl) (zl 7 rfl ?_);obtain⟨p,hp0⟩:∃p,s.q.g.us[r.idx.toNat]?=some p:=⟨_,XM (by omega)⟩;have hp:FL 4 (s.q.g.ag+s.q.g.us.length) p:=(hq.g.us _ p hp0).fl.mono (by omega) (by omega);have hv:FL 2 (s.q.g.ag+s.q.g.us.length) (fV (s.q.g.ag+r.idx.toNat)):=FL.v (by omega);haveI hlq:Br (dM s r) 200000:=ze h.B;haveI htq:Br (dG s r) 200000:=ze h.B;have hnl:FL 200000 (s.q.g.ag+s.q.g.us.length) (fN (dM s r)):=FL.n hlq;have hnt:FL 200000 (s.q.g.ag+s.q.g.us.length) (fN (dG s r)):=FL.n htq;have g3:=hp.sub hnl;have g5:=FL.sc (c:=dG s r) g3;have g6:=FL.sc (c:=dG s r-dM s r) hv;refine aE 2 [(14,3),(15,4),(16,3),(17,4)] [3,4] (dz 5 rfl (af rfl (aL (s.q.g.ag+r.idx.toNat) rfl) (ax Cc rfl (zQ (s.q.g.ag+r.idx.toNat) (by omega)) (dz 5 rfl (af rfl (aS r.idx.toNat hp0 rfl (by omega)) (af rfl (bo rfl) (dz 4 rfl (aB (za 2 rfl ?_)))))))));refine bF [so 2 _,so 3 _,so 4 _,so 6 (D.val (.int .i64 r.idx)),so 7 (D.ptr 3 0),so 8 (D.ptr 4 0)] [_,_,_,au 37 (b7 (fV (s.q.g.ag+r.idx.toNat))),au 37 (b7 p)] rfl rfl (zc 5 rfl (aj I1 rfl (Ke s h r.lo r.idx false) (zl 9 rfl ?_)));refine bF [so 2 _,so 3 _,so 4 _,so 6 _,so 7 _,so 8 _,so 9 (D.ptr 5 0),so 10 (D.bool (kR s r))] [_,_,_,_,_,au 35 (qL (dM s r))] rfl rfl (zc 5 rfl (aj I1 rfl (Ke s h r.hi r.idx true) (zl 8 rfl ?_)));refine uu [so 2 (D.ptr 0 0),so 3 (D.ptr 1 0),so 4 (D.ptr 2 0),so 6 (D.val (.int .i64 r.idx)),so 7 (D.ptr 3 0),so 8 (D.ptr 4 0),so 9 (D.ptr 5 0),so 10 (D.bool (kR s r)),so 11 (D.ptr 6 0),so 12 (D.bool (kl s r)),so 13 (D.bool (gp s r))] [au 94 (fY s),au 105 [ab.val (.int .i64 r.kind),ab.val (.int .i64 r.idx),ab.val (.int .i64 r.lo),ab.val (.int .i64 r.hi)],au 37 [El.row bE ([]),ab.val (.bool false),ae ([]),ae ([])],au 37 (b7 (fV (s.q.g.ag+r.idx.toNat))),au 37 (b7 p),au 35 (qL (dM s r)),au 35 (qL (dG s r))] ?_ ?_
    .refine bF [so 2 _,so 3 _,so 4 _,so 6 _,so 7 _,so 8 _,so 9 _,so 10 _,so 11 (D.ptr 6 0),so 12 (D.bool (kl s r))] [_,_,_,_,_,_,au 35 (qL (dG s r))] rfl rfl (zc 5 rfl ?_);refine db rfl (fun hb71=>?_) (fun hb71=>?_)
     .refine zl 17 rfl (bT (gp s r) rfl (by simp[gp, *]) (zl 2 rfl ?_));exact eD rfl
     .refine zl 4 rfl ?_;refine db rfl (fun hb75=>?_) (fun hb75=>?_)
      .refine zl 7 rfl ?_;refine db rfl (fun hb82=>?_) (fun hb82=>?_)
       .refine zl 6 rfl (bT (gp s r) rfl (by simp[gp, *]) (zl 2 rfl ?_));exact eD rfl
       .refine zl 1 rfl (aj jw rfl (iU (an ((dM s r))) ((dM s r)) (aG _) (Br.use (by omega))) (zl 4 rfl (bT (gp s r) rfl (by simp[gp, *]) (zl 2 rfl ?_))));exact eD rfl
      .refine zl 2 rfl (aj I0 rfl (JK s h 1 r.idx) (zl 2 rfl ?_));refine db rfl (fun hb80=>?_) (fun hb80=>?_)
       .refine zl 2 rfl ?_;refine db rfl (fun hb82=>?_) (fun hb82=>?_)
        .refine zl 6 rfl (bT (gp s r) rfl (by simp[gp, *]) (zl 2 rfl ?_));exact eD rfl
        .refine zl 1 rfl (aj jw rfl (iU (an ((dM s r))) ((dM s r)) (aG _) (Br.use (by omega))) (zl 4 rfl (bT (gp s r) rfl (by simp[gp, *]) (zl 2 rfl ?_))));exact eD rfl
       .refine zl 8 rfl (bT (gp s r) rfl (by simp[gp, *]) (zl 2 rfl ?_));exact eD rfl
    .refine uu [so 3 (D.ptr 1 0),so 4 (D.ptr 2 0),so 7 (D.ptr 3 0),so 8 (D.ptr 4 0),so 9 (D.ptr 5 0),so 10 (D.bool (kR s r)),so 11 (D.ptr 6 0),so 12 (D.bool (kl s r)),so 13 (D.bool (gp s r)),so 14 (D.bool (gF s r))] [au 94 (fY s),au 105 [ab.val (.int .i64 r.kind),ab.val (.int .i64 r.idx),ab.val (.int .i64 r.lo),ab.val (.int .i64 r.hi)],au 37 [El.row bE ([]),ab.val (.bool false),ae ([]),ae ([])],au 37 (b7 (fV (s.q.g.ag+r.idx.toNat))),au 37 (b7 p),au 35 (qL (dM s r)),au 35 (qL (dG s r))] ?_ ?_
     .refine zc 5 rfl ?_;refine db rfl (fun hb92=>?_) (fun hb92=>?_)
      .refine zl 17 rfl (bT (gF s r) rfl (by simp[gF, *]) (zl 2 rfl ?_));exact eD rfl
      .refine zl 4 rfl ?_;refine db rfl (fun hb96=>?_) (fun hb96=>?_)
       .refine zl 7 rfl ?_;refine db rfl (fun hb103=>?_) (fun hb103=>?_)
        .refine zl 6 rfl (bT (gF s r) rfl (by simp[gF, *]) (zl 2 rfl ?_));exact eD rfl
        .refine zl 1 rfl (aj jw rfl (iU (an ((dG s r))) ((dG s r)) (aG _) (Br.use (by omega))) (zl 4 rfl (bT (gF s r) rfl (by simp[gF, *]) (zl 2 rfl ?_))));exact eD rfl
       .refine zl 2 rfl (aj I0 rfl (JK s h 2 r.idx) (zl 2 rfl ?_));refine db rfl (fun hb101=>?_) (fun hb101=>?_)
        .refine zl 2 rfl ?_;refine db rfl (fun hb103=>?_) (fun hb103=>?_)
         .refine zl 6 rfl (bT (gF s r) rfl (by simp[gF, *]) (zl 2 rfl ?_));exact eD rfl
         .refine zl 1 rfl (aj jw rfl (iU (an ((dG s r))) ((dG s r)) (aG _) (Br.use (by omega))) (zl 4 rfl (bT (gF s r) rfl (by simp[gF, *]) (zl 2 rfl ?_))));exact eD rfl
        .refine zl 8 rfl (bT (gF s r) rfl (by simp[gF, *]) (zl 2 rfl ?_));exact eD rfl
     .refine uu [so 3 (D.ptr 1 0),so 4 (D.ptr 2 0),so 7 (D.ptr 3 0),so 8 (D.ptr 4 0),so 9 (D.ptr 5 0),so 10 (D.bool (kR s r)),so 11 (D.ptr 6 0),so 12 (D.bool (kl s r)),so 13 (D.bool (gp s r)),so 14 (D.bool (gF s r)),so 15 (D.bool (oa r))] [au 94 (fY s),au 105 [ab.val (.int .i64 r.kind),ab.val (.int .i64 r.idx),ab.val (.int .i64 r.lo),ab.val (.int .i64 r.hi)],au 37 [El.row bE ([]),ab.val (.bool false),ae ([]),ae ([])],au 37 (b7 (fV (s.q.g.ag+r.idx.toNat))),au 37 (b7 p),au 35 (qL (dM s r)),au 35 (qL (dG s r))] ?_ ?_
      .refine zc 5 rfl ?_;refine db rfl (fun hb113=>?_) (fun hb113=>?_)
       .refine zl 4 rfl (bT (oa r) rfl (by simp[oa, *]) (zl 2 rfl ?_));exact eD rfl
       .refine zl 4 rfl (bT (oa r) rfl (by simp[oa, *]) (zl 2 rfl ?_));exact eD rfl
      .refine zc 10 rfl ?_;by_cases hk5:r.kind=5
       .refine aa rfl (bp rfl) (zl 12 rfl ?_);exact aI ai rfl (by unfold cv;rw[if_pos h5,iC h1 hp0];unfold eY;rw[if_pos hk5] <;> rfl)
       .refine aa rfl (aU rfl) (zl 5 rfl (bQ [0] [so 3 _,so 4 _,so 7 _,so 8 _,so 9 _,so 10 _,so 11 (D.ptr 6 0),so 12 (D.bool (kl s r)),so 13 (D.bool (gp s r)),so 14 (D.bool (gF s r)),so 15 (D.bool (oa r)),so 119 (D.val (.int .i64 r.kind))] [none,_,_,_,_,_,au 35 (qL (dG s r))] rfl rfl rfl (zc 1 rfl ?_)));by_cases hk6:r.kind=6
        .refine aa rfl (bp rfl) (zl 8 rfl (aj kX rfl (kB (fV (s.q.g.ag+r.idx.toNat)) p (by assumption) (by assumption) (by omega) (by omega) (by omega)) (zl 5 rfl ?_)));exact aI ai rfl (by unfold cv;rw[if_pos h5,iC h1 hp0];unfold eY;rw[if_neg hk5,if_pos hk6] <;> rfl)
        .refine aa rfl (aU rfl) (zl 5 rfl (bF [so 3 _,so 4 _,so 7 _,so 8 _,so 9 _,so 10 _,so 11 _,so 12 _,so 13 _,so 14 _,so 119 _] [none,_,_,_,_,_,_] rfl rfl (zc 1 rfl ?_)));by_cases hk7:r.kind=7
         .refine aa rfl (bp rfl) (zl 12 rfl ?_);exact aI ai rfl (by unfold cv;rw[if_pos h5,iC h1 hp0];unfold eY;rw[if_neg hk5,if_neg hk6,if_pos hk7] <;> rfl)
         .refine aa rfl (aU rfl) (zl 5 rfl (bF [so 3 _,so 4 _,so 7 _,so 8 _,so 9 _,so 10 _,so 11 _,so 12 _,so 13 _,so 14 _,so 119 _] [none,_,_,_,_,_,_] rfl rfl (zc 1 rfl ?_)));by_cases hk8:r.kind=8
          .refine aa rfl (bp rfl) (zl 8 rfl (aj kX rfl (kB p (fV (s.q.g.ag+r.idx.toNat)) (by assumption) (by assumption) (by omega) (by omega) (by omega)) (zl 5 rfl ?_)));exact aI ai rfl (by unfold cv;rw[if_pos h5,iC h1 hp0];unfold eY;rw[if_neg hk5,if_neg hk6,if_neg hk7,if_pos hk8] <;> rfl)
          .refine aa rfl (aU rfl) (zl 5 rfl (bF [so 3 _,so 4 _,so 7 _,so 8 _,so 9 _,so 10 _,so 11 _,so 12 _,so 14 _,so 119 _] [none,_,_,_,_,_,_] rfl rfl (zc 1 rfl ?_)));by_cases hk9:r.kind=9
           .refine aa rfl (bp rfl) (zl 7 rfl (aj B3 rfl (Bp p (by assumption) (by omega) (by omega)) (zl 5 rfl ?_)));exact aI ai rfl (by unfold cv;rw[if_pos h5,iC h1 hp0];unfold eY;rw[if_neg hk5,if_neg hk6,if_neg hk7,if_neg hk8,if_pos hk9] <;> rfl)
           .refine aa rfl (aU rfl) (zl 5 rfl (bF [so 3 _,so 4 _,so 7 _,so 8 _,so 9 _,so 10 _,so 11 _,so 12 _,so 14 _,so 119 _] [none,_,_,_,_,_,_] rfl rfl (zc 1 rfl ?_)));by_cases hk10:r.kind=10
            .refine aa rfl (bp rfl) (zl 7 rfl (aj B3 rfl (Bp (fV (s.q.g.ag+r.idx.toNat)) (by assumption) (by omega) (by omega)) (zl 5 rfl ?_)));exact aI ai rfl (by unfold cv;rw[if_pos h5,iC h1 hp0];unfold eY;rw[if_neg hk5,if_neg hk6,if_neg hk7,if_neg hk8,if_neg hk9,if_pos hk10] <;> rfl)
            .refine aa rfl (aU rfl) (zl 5 rfl (bF [so 3 _,so 4 _,so 7 _,so 8 _,so 9 _,so 10 _,so 11 _,so 12 _,so 119 _] [none,_,_,_,_,_,_] rfl rfl (zc 1 rfl ?_)));by_cases hk11:r.kind=11
             .refine aa rfl (bp rfl) (zl 5 rfl (aE 0 [(10,2)] [2] (dz 2 rfl (ax sB rfl (rG (dM s r) (by omega)) (ax kX rfl (kB p (fN (dM s r)) (by assumption) (by assumption) (by omega) (by omega) (by omega)) (dz 2 rfl ?_))))));refine jQ rfl (fun hb157=>?_) (fun hb157=>?_)
              .refine dz 4 rfl (gv (kR s r&&(r.hi == 0)) rfl (by simp[*]) (dz 2 rfl (aB (za 1 rfl ?_))));exact aI ai rfl (by unfold cv;rw[if_pos h5,iC h1 hp0];unfold eY;rw[if_neg hk5,if_neg hk6,if_neg hk7,if_neg hk8,if_neg hk9,if_neg hk10,if_pos hk11] <;> rfl)
              .refine dz 4 rfl (gv (kR s r&&(r.hi == 0)) rfl (by simp[*]) (dz 2 rfl (aB (za 1 rfl ?_))));exact aI ai rfl (by unfold cv;rw[if_pos h5,iC h1 hp0];unfold eY;rw[if_neg hk5,if_neg hk6,if_neg hk7,if_neg hk8,if_neg hk9,if_neg hk10,if_pos hk11] <;> rfl)
             .refine aa rfl (aU rfl) (zl 5 rfl (bF [so 3 _,so 4 _,so 7 _,so 8 _,so 9 _,so 10 _,so 11 _,so 12 _,so 119 _] [none,_,_,_,_,_,_] rfl rfl (zc 1 rfl ?_)));by_cases hk12:r.kind=12
              .refine aa rfl (bp rfl) (zl 5 rfl (aE 0 [(10,2)] [2] (dz 1 rfl (ax sB rfl (rG (dG s r) (by omega)) (dz 1 rfl (ax kX rfl (kB (fN (dG s r)) p (by assumption) (by assumption) (by omega) (by omega) (by omega)) (dz 2 rfl ?_)))))));refine jQ rfl (fun hb169=>?_) (fun hb169=>?_)
               .refine dz 4 rfl (gv (kl s r&&(r.lo == 0)) rfl (by simp[*]) (dz 2 rfl (aB (za 1 rfl ?_))));exact aI ai rfl (by unfold cv;rw[if_pos h5,iC h1 hp0];unfold eY;rw[if_neg hk5,if_neg hk6,if_neg hk7,if_neg hk8,if_neg hk9,if_neg hk10,if_neg hk11,if_pos hk12] <;> rfl)
               .refine dz 4 rfl (gv (kl s r&&(r.lo == 0)) rfl (by simp[*]) (dz 2 rfl (aB (za 1 rfl ?_))));exact aI ai rfl (by unfold cv;rw[if_pos h5,iC h1 hp0];unfold eY;rw[if_neg hk5,if_neg hk6,if_neg hk7,if_neg hk8,if_neg hk9,if_neg hk10,if_neg hk11,if_pos hk12] <;> rfl)
              .refine aa rfl (aU rfl) (zl 5 rfl (bQ [1] [so 4 _,so 7 _,so 8 _,so 9 _,so 10 _,so 11 _,so 12 _,so 119 _] [none,none,_,_,_,_,_] rfl rfl rfl (zc 1 rfl ?_)));by_cases hk13:r.kind=13
               .refine aa rfl (bp rfl) (zl 10 rfl ?_);refine db rfl (fun hbl=>?_) (fun hbl=>?_)
                .refine zl 4 rfl ?_;refine db rfl (fun hbu=>?_) (fun hbu=>?_)
                 .refine zl 1 rfl (aj jw rfl (iU (an ((dM s r))) ((dM s r)) (aG _) (Br.use (by omega))) ?_);by_cases hl_:0<=dM s r
                  .refine aa rfl (dR rfl (lI.2 hl_)) (zl 10 rfl (bQ [3,4,5,6] [so 4 _] [none,none,_,none,none,none,none] rfl rfl rfl (zc 6 rfl ?_)));exact aI ai rfl (by unfold cv;rw[if_pos h5,iC h1 hp0];unfold eY;rw[if_neg hk5,if_neg hk6,if_neg hk7,if_neg hk8,if_neg hk9,if_neg hk10,if_neg hk11,if_neg hk12,if_pos hk13,if_neg (fun e=>absurd e.2.2.1 (zaN.2 hl_))];exact cM _ _ rfl)
                  .refine aa rfl (dY rfl (fun e=>hl_ (lI.1 e))) (zl 3 rfl (aj jw rfl (iU (an ((dG s r))) ((dG s r)) (aG _) (Br.use (by omega))) ?_));by_cases hu_:dG s r<=0
                   .refine aa rfl (uF rfl (mG.2 hu_)) (zl 5 rfl (bQ [3,4,5,6] [so 4 _] [none,none,_,none,none,none,none] rfl rfl rfl (zc 6 rfl ?_)));exact aI ai rfl (by unfold cv;rw[if_pos h5,iC h1 hp0];unfold eY;rw[if_neg hk5,if_neg hk6,if_neg hk7,if_neg hk8,if_neg hk9,if_neg hk10,if_neg hk11,if_neg hk12,if_pos hk13,if_neg (fun e=>absurd e.2.2.2 (zaN.2 hu_))];exact cM _ _ rfl)
                   .refine aa rfl (rU rfl (fun e=>hu_ (mG.1 e))) (zl 7 rfl (aE 0 [(12,2)] [2] (dz 2 rfl (ax sB rfl (rG (dM s r) (by omega)) (ax kX rfl (kB p (fN (dM s r)) (by assumption) (by assumption) (by omega) (by omega) (by omega)) (dz 1 rfl (ax u9 rfl (tM (bA p (fN (dM s r))) (dG s r) (by assumption) (by omega) (by omega) (by omega)) (dz 3 rfl ?_))))))));refine ax TT rfl (F0 (an ((dG s r))) ((dG s r)) (aG _) (Br.use (by omega)) (an ((dM s r))) ((dM s r)) (aG _) (Br.use (by omega))) (ax u9 rfl (tM (fV (s.q.g.ag+r.idx.toNat)) (((dG s r))-((dM s r))) (by assumption) (by omega) (by omega) (by omega)) ?_);refine ax kX rfl (kB (bN (bA p (fN (dM s r))) (dG s r)) (bN (fV (s.q.g.ag+r.idx.toNat)) (((dG s r))-((dM s r)))) (by assumption) (by assumption) (by omega) (by omega) (by omega)) (dz 2 rfl (aB (za 1 rfl ?_)));exact aI ai rfl (by unfold cv;rw[if_pos h5,iC h1 hp0];unfold eY;rw[if_neg hk5,if_neg hk6,if_neg hk7,if_neg hk8,if_neg hk9,if_neg hk10,if_neg hk11,if_neg hk12,if_pos hk13,if_pos ⟨by simpa using hbl,by simpa using hbu,zaw.1 hl_,zaw.1 hu_⟩] <;> rfl)
                 .refine zl 13 rfl (bQ [3,4,5,6] [so 4 _] [none,none,_,none,none,none,none] rfl rfl rfl (zc 6 rfl ?_));exact aI ai rfl (by unfold cv;rw[if_pos h5,iC h1 hp0];unfold eY;rw[if_neg hk5,if_neg hk6,if_neg hk7,if_neg hk8,if_neg hk9,if_neg hk10,if_neg hk11,if_neg hk12,if_pos hk13,if_neg (fun e=>by rw[e.2.1] at hbu;exact absurd hbu (by decide))];exact cM _ _ rfl)
                .refine zl 17 rfl (bQ [3,4,5,6] [so 4 _] [none,none,_,none,none,none,none] rfl rfl rfl (zc 6 rfl ?_));exact aI ai rfl (by unfold cv;rw[if_pos h5,iC h1 hp0];unfold eY;rw[if_neg hk5,if_neg hk6,if_neg hk7,if_neg hk8,if_neg hk9,if_neg hk10,if_neg hk11,if_neg hk12,if_pos hk13,if_neg (fun e=>by rw[e.1] at hbl;exact absurd hbl (by decide))];exact cM _ _ rfl)
               .refine aa rfl (aU rfl) (zl 14 rfl ?_);exact aI ai rfl (by unfold cv;rw[if_pos h5,iC h1 hp0];unfold eY;rw[if_neg hk5,if_neg hk6,if_neg hk7,if_neg hk8,if_neg hk9,if_neg hk10,if_neg hk11,if_neg hk12,if_neg hk13];exact cM _ _ rfl)
theorem Ss(n:Nat):((n:Int) == 0)=decide (n=0):=by
 rw[Zw];simp
set_option maxHeartbeats 2000000 in
theorem RV(a b:Rw):ar Tryz.prog 105 [mL a,mL b] (R.one (V.one (ab.val (.bool (dd a b))))):=by
 refine aF Tryz.func105 Tryz.ntmps105 rfl (fun w0 A0=>?_);refine zc 8 rfl (aE 2 [(18,2),(19,3),(20,2),(21,3)] [2,3] (dz 8 rfl (af rfl (DO rfl z0 rfl gj fW rfl) (dz 8 rfl (af rfl (DO rfl z0 rfl gj fW rfl) (dz 4 rfl (aB (za 8 rfl (K0 5 ?_)))))))));refine nY ?_;refine zc 18 rfl (aE 0 [] [] (dz 1 rfl (af rfl (iP (j:=0) rfl rfl rfl gj fW (by decide) rfl) (dz 2 rfl (af rfl (iP (j:=0) rfl rfl rfl gj fW (by decide) rfl) (dz 1 rfl ?_))))));by_cases h1:a.kind≠b.kind
 .refine af rfl (fG rfl) (aB (za 3 rfl (aE 0 [] [] (dz 1 rfl (af rfl (iP (j:=0) rfl rfl rfl gj fW (by decide) rfl) (dz 2 rfl (af rfl (iP (j:=0) rfl rfl rfl gj fW (by decide) rfl) (dz 3 rfl (aB ?_)))))))));refine za 1 rfl ?_;exact av ai rfl (by unfold dd;rw[if_pos h1])
 .refine af rfl (eg rfl) (aB (za 6 rfl (aa rfl (dS rfl rfl rfl (r:=1) (bS (by decide) (by decide) (by decide))) (zl 2 rfl (th (nY ?_))))));refine zc 18 rfl (aE 0 [] [] (dz 1 rfl (af rfl (iP (j:=1) rfl rfl rfl gj fW (by decide) rfl) (dz 2 rfl (af rfl (iP (j:=1) rfl rfl rfl gj fW (by decide) rfl) (dz 1 rfl ?_))))));by_cases h2:a.idx≠b.idx
  .refine af rfl (fG rfl) (aB (za 3 rfl (aE 0 [] [] (dz 1 rfl (af rfl (iP (j:=1) rfl rfl rfl gj fW (by decide) rfl) (dz 2 rfl (af rfl (iP (j:=1) rfl rfl rfl gj fW (by decide) rfl) (dz 3 rfl (aB ?_)))))))));refine za 1 rfl ?_;exact av ai rfl (by unfold dd;rw[if_neg h1,if_pos h2])
  .refine af rfl (eg rfl) (aB (za 6 rfl (aa rfl (dS rfl rfl rfl (r:=2) (bS (by decide) (by decide) (by decide))) (zl 2 rfl (th (nY ?_))))));refine zc 18 rfl (aE 0 [] [] (dz 1 rfl (af rfl (iP (j:=2) rfl rfl rfl gj fW (by decide) rfl) (dz 2 rfl (af rfl (iP (j:=2) rfl rfl rfl gj fW (by decide) rfl) (dz 1 rfl ?_))))));by_cases h3:a.lo≠b.lo
   .refine af rfl (fG rfl) (aB (za 3 rfl (aE 0 [] [] (dz 1 rfl (af rfl (iP (j:=2) rfl rfl rfl gj fW (by decide) rfl) (dz 2 rfl (af rfl (iP (j:=2) rfl rfl rfl gj fW (by decide) rfl) (dz 3 rfl (aB ?_)))))))));refine za 1 rfl ?_;exact av ai rfl (by unfold dd;rw[if_neg h1,if_neg h2,if_pos h3])
   .refine af rfl (eg rfl) (aB (za 6 rfl (aa rfl (dS rfl rfl rfl (r:=3) (bS (by decide) (by decide) (by decide))) (zl 2 rfl (th (nY ?_))))));refine zc 18 rfl (aE 0 [] [] (dz 1 rfl (af rfl (iP (j:=3) rfl rfl rfl gj fW (by decide) rfl) (dz 2 rfl (af rfl (iP (j:=3) rfl rfl rfl gj fW (by decide) rfl) (dz 1 rfl ?_))))));by_cases h4:a.hi≠b.hi
    .refine af rfl (fG rfl) (aB (za 3 rfl (aE 0 [] [] (dz 1 rfl (af rfl (iP (j:=3) rfl rfl rfl gj fW (by decide) rfl) (dz 2 rfl (af rfl (iP (j:=3) rfl rfl rfl gj fW (by decide) rfl) (dz 3 rfl (aB ?_)))))))));refine za 1 rfl ?_;exact av ai rfl (by unfold dd;rw[if_neg h1,if_neg h2,if_neg h3])
    .refine af rfl (eg rfl) (aB (za 6 rfl (aa rfl (dS rfl rfl rfl (r:=4) (bS (by decide) (by decide) (by decide))) (zl 2 rfl (th (nY ?_))))));refine zc 17 rfl ?_;exact av ai rfl (by unfold dd;rw[if_neg h1,if_neg h2,if_neg h3,decide_eq_false (show ¬a.hi<b.hi by omega)])
set_option maxHeartbeats 2000000 in
theorem OA(s:Sc)(h:iz s)(f:Af){K:Nat}(hf:FL K (s.q.g.ag+s.q.g.us.length) f)(hK:K<=1000000000)(l:List Mu){C:Nat}(hm:MB C l)(hC:C<=60000000)(hcm:∀m∈l,m.c=an m.c.q)(hll:l.length<=14):ar Tryz.prog 66 [eM s,bL f,V.one (El.row bm l)] (R.aW [qV (an (jM s f l).1),V.one (ab.val (.bool (jM s f l).2))]):=by
 refine aF Tryz.func66 Tryz.ntmps66 rfl (fun w0 A0=>?_);have hq:=h.q;have hg:=hq.g;have g_1:=hg.i1;have g_2:=hg.i3;have g_3:=hg.u4;have g_4:=hg.o1;have g_5:=hg.o3;refine zc 12 rfl (aa rfl (aw rfl) (zl 4 rfl ?_));refine bH (fun m Γ H=>∃(i:Nat) (g:Af),l.length-i=m/\Γ=[(2,some (D.v (V.one (El.row bm l)))),(3,some (D.ptr 0 0)),(4,some (D.ptr 1 0)),(6,some (D.ptr 2 0)),(12,some (D.v (V.one (El.row bm l)))),(13,some (D.val (.int .i64 ((l.length:Nat):Int)))),(14,some (D.val (.int .i64 (i:Int))))]/\H=[au 94 (fY s),au 37 (b7 g),au 35 [ab.val (.bool false),ae ([]),ae ([])]]/\i<=l.length/\fE s f l i=some g) ⟨0,f,rfl,rfl,rfl,XS _,rfl⟩ rfl ?_;rintro m Γ H ⟨i,g,rfl,rfl,rfl,hi0,hr⟩;refine zc 2 rfl ?_;by_cases hi:i<l.length
 .refine aa rfl (aX rfl) (zl 9 rfl ?_);obtain⟨x,hx⟩:∃x,l[i]?=some x:=⟨_,XM hi⟩;haveI hxB:=hm x (XR hx);have hcx:=hcm x (XR hx);have hgl:=Fy h hf hm (by omega) hr;have hfl:=Iy (r:=x.r) h;have hsc:=FL.sc (c:=x.c.q) hfl;refine bF [so 2 (D.v (V.one (El.row bm l))),so 3 (D.ptr 0 0),so 4 (D.ptr 1 0),so 6 (D.ptr 2 0),so 12 (D.v (V.one (El.row bm l))),so 13 (D.val (.int .i64 ((l.length:Nat):Int))),so 14 (D.val (.int .i64 (i:Int)))] [au 94 (fY s),au 37 (b7 g),au 35 [ab.val (.bool false),ae ([]),ae ([])]] rfl rfl (zc 2 rfl (aa rfl (aS i hx rfl) (aa rfl (bo rfl) ?_)));refine zl 7 rfl (aE 0 [] [] (dz 2 rfl (ax pV rfl (n6 x.c (x.c.q) rfl (Fq.use (x:=x.c) (by omega))) (gv true rfl (xT.2 hcx) (dz 1 rfl (gv false rfl (rfl) (dz 3 rfl (ax jw rfl (iU x.c (x.c.q) rfl (Fq.use (x:=x.c) (by omega))) ?_))))))));by_cases hle:x.c.q<=0
  .refine af rfl (uF rfl (mG.2 hle)) (dz 17 rfl (aB (za 3 rfl (bQ [0,1,3] [so 6 _] [none,none,_,none] rfl rfl rfl (zc 6 rfl ?_)))));exact aI ai rfl (by rw[wZ hx (PV (zaN.2 hle))];show _=R.aW [qV (an 0),V.one (ab.val (.bool false))];rw[<-kf] <;> rfl)
  .refine af rfl (rU rfl (fun e=>hle (mG.1 e))) (dz 3 rfl ?_);by_cases hi1:0<i
   .refine af rfl (dQ rfl) (dz 1 rfl ?_);obtain⟨y,hy⟩:∃y,l[i-1]?=some y:=⟨_,XM (by omega)⟩;refine dz 2 rfl (af rfl (b9 (i-1) rfl) (af rfl (aS (i-1) hy rfl) (af rfl (jv rfl) (af rfl (bo rfl) (dz 2 rfl (ax T3 rfl (RV y.r x.r) (dz 3 rfl (aB (za 1 rfl ?_)))))))));refine cV rfl (fun hls=>?_) (fun hls=>?_)
    .refine zc 1 rfl (bQ [0,1,3] [so 6 _] [none,none,_,none] rfl rfl rfl (zc 6 rfl ?_));exact aI ai rfl (by rw[wZ hx (P4 hi1 hy (by simpa using hls))];show _=R.aW [qV (an 0),V.one (ab.val (.bool false))];rw[<-kf] <;> rfl)
    .refine zc 7 rfl (aj I6 rfl (Ix s (by assumption) x.r) (zl 10 rfl ?_));refine bF [so 2 _,so 3 _,so 4 _,so 6 _,so 9 (D.ptr 3 0),so 10 (D.ptr 4 0),so 11 (D.bool ((cv s x.r).2)),so 12 _,so 13 _,so 14 _] [_,_,_,au 107 [ab.val (.int .i64 x.r.kind),ab.val (.int .i64 x.r.idx),ab.val (.int .i64 x.r.lo),ab.val (.int .i64 x.r.hi),ab.val (.bool x.c.neg),ae x.c.n,ae x.c.d],au 37 (b7 ((cv s x.r).1))] rfl rfl (zc 5 rfl ?_);refine cV rfl (fun hfo=>?_) (fun hfo=>?_)
     .refine zc 7 rfl ?_;exact aI ai rfl (by rw[wZ hx (Gw (by simpa using hfo))];show _=R.aW [qV (an 0),V.one (ab.val (.bool false))];rw[<-kf] <;> rfl)
     .refine zc 2 rfl (aE 0 [(6,1)] [1] (cK [] rfl (jC rfl rfl rfl (by decide) iE (by decide) (XU rfl) rfl) (dz 3 rfl (eU (D.agg (qL x.c.q)) rfl (oN hcx) (ax u9 rfl (tM (cv s x.r).1 x.c.q (by assumption) (by omega) (by omega) (by omega)) ?_)))));refine ax kX rfl (kB g (bN (cv s x.r).1 x.c.q) (by assumption) (by assumption) (by omega) (by omega) (by omega)) (dz 1 rfl (aB (za 2 rfl (bQ [3,4] [so 2 _,so 3 _,so 4 _,so 6 _,so 12 _,so 13 _,so 14 _] [_,au 37 (b7 (bA g (bN (cv s x.r).1 x.c.q))),_,none,none] rfl rfl rfl (zc 1 rfl (aa rfl (aL (i+1) rfl) (zl 2 rfl (cN 3 rfl ?_))))))));exact aP ⟨i+1,_,rfl,rfl,rfl,hi,Ft hr hx (PN (zaw.1 hle) (by simpa using hfo) hy (by simpa using hls))⟩ rfl
   .refine af rfl (cD rfl) (dz 13 rfl (aB (za 5 rfl (bF [so 2 _,so 3 _,so 4 _,so 6 _,so 9 (D.ptr 3 0),so 12 _,so 13 _,so 14 _] [_,_,_,au 107 [ab.val (.int .i64 x.r.kind),ab.val (.int .i64 x.r.idx),ab.val (.int .i64 x.r.lo),ab.val (.int .i64 x.r.hi),ab.val (.bool x.c.neg),ae x.c.n,ae x.c.d]] rfl rfl (zc 4 rfl ?_)))));refine aj I6 rfl (Ix s (by assumption) x.r) (zl 10 rfl (bF [so 2 _,so 3 _,so 4 _,so 6 _,so 9 _,so 10 (D.ptr 4 0),so 11 (D.bool ((cv s x.r).2)),so 12 _,so 13 _,so 14 _] [_,_,_,_,au 37 (b7 ((cv s x.r).1))] rfl rfl (zc 5 rfl ?_)));refine cV rfl (fun hfo=>?_) (fun hfo=>?_)
    .refine zc 7 rfl ?_;exact aI ai rfl (by rw[wZ hx (Gw (by simpa using hfo))];show _=R.aW [qV (an 0),V.one (ab.val (.bool false))];rw[<-kf] <;> rfl)
    .refine zc 2 rfl (aE 0 [(6,1)] [1] (cK [] rfl (jC rfl rfl rfl (by decide) iE (by decide) (XU rfl) rfl) (dz 3 rfl (eU (D.agg (qL x.c.q)) rfl (oN hcx) (ax u9 rfl (tM (cv s x.r).1 x.c.q (by assumption) (by omega) (by omega) (by omega)) ?_)))));refine ax kX rfl (kB g (bN (cv s x.r).1 x.c.q) (by assumption) (by assumption) (by omega) (by omega) (by omega)) (dz 1 rfl (aB (za 2 rfl (bQ [3,4] [so 2 _,so 3 _,so 4 _,so 6 _,so 12 _,so 13 _,so 14 _] [_,au 37 (b7 (bA g (bN (cv s x.r).1 x.c.q))),_,none,none] rfl rfl rfl (zc 1 rfl (aa rfl (aL (i+1) rfl) (zl 2 rfl (cN 3 rfl ?_))))))));exact aP ⟨i+1,_,rfl,rfl,rfl,hi,Ft hr hx (PM (zaw.1 hle) (by simpa using hfo) hi1)⟩ rfl
 .refine aa rfl (aO rfl) (zl 10 rfl ?_);have hie:i=l.length:=by omega
  rw[hie] at hr;refine aE 0 [(6,2)] [2] (dz 4 rfl (af rfl (aw rfl) (dz 1 rfl (gv (decide (g.ts.length=0)) rfl (Ss _) (dz 2 rfl (aB (za 1 rfl ?_)))))));exact aI ai rfl (by rw[FA hr] <;> rfl)
theorem A3(s:Sc)(h:iz s)(f:Af){K:Nat}(hf:FL K (s.q.g.ag+s.q.g.us.length) f)(hK:K<=1000000000)(l:List Mu){C:Nat}(hm:MB C l)(hC:C<=60000000)(hcm:∀m∈l,m.c=an m.c.q)(hll:l.length<=14):ar Tryz.prog 29 [eM s,bL f,V.one (El.row bm l)] (R.one (V.one (ab.val (.bool (kI s f l))))):=by
 refine aF Tryz.func29 Tryz.ntmps29 rfl (fun w0 A0=>?_);haveI:=Og h hf hm hll;refine zc 12 rfl (aj Tt rfl (OA s h f hf hK l hm hC hcm hll) (zl 12 rfl ?_));refine db rfl (fun hb=>?_) (fun hb=>?_)
 .refine zl 7 rfl ?_;exact av ai rfl (by unfold kI;rw[hb] <;> rfl)
 .refine zl 1 rfl (aj jw rfl (iU (an ((jM s f l).1)) ((jM s f l).1) (aG _) (Br.use (by omega))) (zl 5 rfl ?_));exact av ai rfl (by unfold kI;rw[hb,zao])
set_option maxHeartbeats 2000000 in
theorem HA(s:Sc)(h:iz s)(m:Lm)(hm:gS 200000 60000000 s.q m):ar Tryz.prog 27 [eM s,RQ m] (R.one (V.one (ab.val (.bool (ou s m))))):=by
 refine aF Tryz.func27 Tryz.ntmps27 rfl (fun w0 A0=>?_);have hq:=h.q;have hg:=hq.g;have g_1:=hg.i1;have g_2:=hg.i3;have g_3:=hg.u4;have g_4:=hg.o1;have g_5:=hg.o3;have hu0:=hm.u0;have hu1:=hm.u;haveI:=hm.B;obtain⟨p,hp⟩:∃p,s.q.g.us[m.unit.toNat]?=some p:=⟨_,XM hu1⟩;have hpo:FL 4 (s.q.g.ag+s.q.g.us.length) p:=(hq.g.us _ p hp).fl.mono (by omega) (by omega);have hfn:FL 200000 (s.q.g.ag+s.q.g.us.length) (fN m.v.q):=FL.n Fq.br;have hfs:=hpo.sub hfn;have hfc:=FL.sc (c:=((-1:Int):Rat)) hfs;refine zc 12 rfl (aa rfl (aO rfl) (zl 7 rfl (aa rfl (aw rfl) (aa rfl (dY rfl) (zl 4 rfl (aj pV rfl (n6 m.v (m.v.q) rfl (Fq.use (x:=m.v) (by omega))) (bT true rfl (xT.2 hm.can) (zl 1 rfl (bT false rfl (rfl) ?_)))))))));refine zl 7 rfl (bF [so 2 (D.ptr 0 0),so 3 (D.ptr 1 0)] [au 94 (fY s),au 97 [ab.val (.int .i64 m.unit),ab.val (.bool m.up),ab.val (.bool m.v.neg),ae m.v.n,ae m.v.d,El.row bm m.pf]] rfl rfl (aE 1 [(12,2),(13,2)] [2] (dz 6 rfl (af rfl (aS m.unit.toNat hp rfl (by omega)) (af rfl (bo rfl) (dz 2 rfl (eU (D.agg (qL m.v.q)) rfl (oN hm.can) ?_)))))));refine ax sB rfl (rG m.v.q (by omega)) (ax kX rfl (kB p (fN m.v.q) (by assumption) (by assumption) (by omega) (by omega) (by omega)) (dz 2 rfl (aB (za 3 rfl (bF [so 2 _,so 3 _,so 5 (D.ptr 2 0)] [_,_,au 37 (b7 (bA p (fN m.v.q)))] rfl rfl (zc 5 rfl ?_))))));refine cV rfl (fun hup=>?_) (fun hup=>?_)
 .refine zc 2 rfl (aj B3 rfl (Bp (bA p (fN m.v.q)) (by assumption) (by omega) (by omega)) (zl 9 rfl (aj B6 rfl (A3 s h (bN (bA p (fN m.v.q)) ((-1:Int):Rat)) hfc (by omega) m.pf hm.mb (by omega) hm.pc hm.pl) (zl 3 rfl ?_))));exact av ai rfl (by unfold ou;rw[hp];show _=R.one (V.one (ab.val (.bool (kI s (rT p m) m.pf))));unfold rT;rw[if_pos hup])
 .refine zc 3 rfl (bF [so 2 _,so 3 _,so 5 _] [_,_,_] rfl rfl (zc 5 rfl (aj B6 rfl (A3 s h (bA p (fN m.v.q)) hfs (by omega) m.pf hm.mb (by omega) hm.pc hm.pl) (zl 3 rfl ?_))));exact av ai rfl (by unfold ou;rw[hp];show _=R.one (V.one (ab.val (.bool (kI s (rT p m) m.pf))));unfold rT;rw[if_neg (by rw[hup];decide)])
end Go.Proofs.YtakccfmgipajnaaGreatDoor
