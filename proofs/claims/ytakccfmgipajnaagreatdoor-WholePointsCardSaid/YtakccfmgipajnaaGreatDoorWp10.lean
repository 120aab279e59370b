/- Parts of the proof, 10: the texts Trn, WpF, Gr, Vis, Dr, WpV, WpW, as far as they are used. -/
import Derived.Test.YtakccfmgipajnaaGreatDoorWp09
set_option linter.unusedSimpArgs false
set_option linter.unusedVariables false
set_option maxRecDepth 10000
namespace Rc
abbrev zat:=@Nat.le_add_right
abbrev zau:=@Array.toList_map
end Rc
namespace Rc
open Go Go.RowKit
structure Nn where
 a0:ab
 a1:ab
 a2:ab
 a3:ab
 a4:ab
 a5:ab
 a6:ab
 a7:ab
 a8:ab
 cl:bW [a0,a1,a2,a3,a4,a5,a6,a7,a8]=true
def bZ:El Nn:=⟨fun x=>[x.a0,x.a1,x.a2,x.a3,x.a4,x.a5,x.a6,x.a7,x.a8],9,fun _=>rfl,fun x=>x.cl⟩
@[reducible] def dE(x:Nn):V:=V.agg [x.a0,x.a1,x.a2,x.a3,x.a4,x.a5,x.a6,x.a7,x.a8]
theorem iL{x:V}{xs:List V}(h:x.cl=true)(hs:fq xs=true):fq (x::xs)=true:=by unfold fq;rw[h,hs];rfl
@[reducible] def uC(l:List Lm)(p:List Mu):Nn:=⟨aV.row l,ab.val (.int .i64 0),ab.val (.int .i64 0),ab.val (.bool false),aT,aT,bZ.row [],ab.val (.bool false),bm.row p,rfl⟩
@[reducible] def nf(l:List Lm)(i:Nat)(a b:Nn):Nn:=⟨aV.row l,ab.val (.int .i64 1),ab.val (.int .i64 (i:Int)),ab.val (.bool false),aT,aT,bZ.row [a,b],ab.val (.bool false),bm.row [],rfl⟩
inductive Tr where
 |leaf (l:List Lm) (p:List Mu)
 |node (l:List Lm) (i:Nat) (a b:Tr)
def Tr.nn:Tr->Nn
 |.leaf l p=>uC l p
 |.node l i a b=>nf l i a.nn b.nn
def Tr.ht:Tr->Nat
 |.leaf _ _=>0
 |.node _ _ a b=>1+max a.ht b.ht
def Tr.size:Tr->Nat
 |.leaf _ _=>1
 |.node _ _ a b=>1+a.size+b.size
theorem Tr.size_pos:∀t:Tr,1<=t.size
 |.leaf _ _=>XP _
 |.node _ _ a b=>by show 1<=1+a.size+b.size;omega
def Ik(s:Sc)(root:Bool):List Lm:=(c8 s).aq.drop (if root=true then 0 else s.aq.length)
def xZ(s:Sc)(root:Bool):List Lm:=if root=true then s.aq else[]
@[reducible] def gC(s:Sc)(k i:Nat):Sc:=⟨s.q,s.path++[⟨k,i,0⟩],s.aq⟩
def eG(s:Sc):Nat->Bool->Tr×Rat
 |0,root=>(.leaf (Ik s root) (ej (c8 s) s.q.goal),dp (c8 s) s.q.goal)
 |k+1,root=>(.node (xZ s root) k (eG (gC s 1 k) k false).1 (eG (gC s 2 k) k false).1,mn (eG (gC s 1 k) k false).2 (eG (gC s 2 k) k false).2)
def ic(B C:Nat)(q:Qu):Tr->Prop
 |.leaf l p=>(∀m∈l,gS B C q m)/\l.length<=20/\MB C p/\(∀x∈p,x.c=an x.c.q)/\p.length<=14
 |.node l i a b=>(∀m∈l,gS B C q m)/\l.length<=20/\i<q.g.us.length/\ic B C q a/\ic B C q b
structure oY(q:Qu):Prop where
 ts:c9 3 (q.g.ag+q.g.us.length) ⟨q.goal.ts,0⟩
 c:Hb q.goal.c 450000
theorem V9{s:Sc}(h:dx s)(hg:oY s.q):Hb (dp s s.q.goal) 900000:=by
 by_cases hb:fQ s s.q.goal=true
 .have hv:∀t∈s.q.goal.ts,t.1<s.q.g.ag+s.q.g.us.length:=hg.ts.var;rw[KS (f:=s.q.goal) h.q hv hb];haveI:=hg.c;haveI:=CZ h (XP _) s.q.goal.ts 0 hg.ts.can hg.ts.bd (fun t ht=>⟨XS _,hg.ts.var t ht⟩);have h4:Hb (s.q.goal.c+l9 s s.q.goal.ts) (450000+(wS s.q.g.ag (s.q.g.ag+s.q.g.us.length)-wS s.q.g.ag 0)+1):=Hb.add;refine h4.mono ?_;have h1:=wz s.q.g.ag s.q.g.us.length;have h2:=h.q.g.i3;have h3:=h.q.g.u4;have h5:3^s.q.g.us.length<=3^4:=X3 (by decide) h3;omega
 .unfold dp;rw[if_neg hb];exact Hb.zero.mono (by omega)
theorem Q8{r s:Rat}{n:Nat}(h1:Hb r n)(h2:Hb s n):Hb (mn r s) n:=by
 unfold mn;split
 .exact h1
 .exact h2
theorem qR{s:Sc}(h:dx s){k i:Nat}(hk:k=1\/k=2)(hi:i<s.q.g.us.length)(hp:s.path.length+1<=100):dx (gC s k i):=
 ⟨h.q,fun d hd=>by
  rcases Yc.1 hd with hd|hd
  .exact h.d d hd
  .rw[Ym] at hd;subst hd;exact⟨.inl ⟨hk,hi,rfl⟩,Hb.zero.mono (XS _)⟩,by show(s.path++_).length<=100;rw[XX];exact hp,h.l,h.ll⟩
theorem xY{n:Nat}{s:Sc}(h:dx s)(hQ:∀s':Sc,dx s'->s'.q=s.q->Hb (dp s' s.q.goal) n)(h80:s.aq.length<=80):∀(k:Nat) (root:Bool),k<=s.q.g.us.length->s.path.length+k<=100->Hb (eG s k root).2 n
 |0,root,_,_=>hQ (c8 s) (qj h h80).1 rfl
 |k+1,root,hk,hp=>Q8 (xY (s:=gC s 1 k) (qR h (.inl rfl) (by omega) (by omega)) hQ h80 k false (by show k<=s.q.g.us.length;omega) (by show(s.path++_).length+k<=100;rw[XX];simp;omega))
   (xY (s:=gC s 2 k) (qR h (.inr rfl) (by omega) (by omega)) hQ h80 k false (by show k<=s.q.g.us.length;omega) (by show(s.path++_).length+k<=100;rw[XX];simp;omega))
theorem Ie{s:Sc}(h:dx s)(hg:oY s.q)(h80:s.aq.length<=80)(k:Nat)(root:Bool)(hk:k<=s.q.g.us.length)(hp:s.path.length+k<=100):Hb (eG s k root).2 900000:=
 xY h (fun s' h' e=>by rw[<-e];exact V9 h' (e ▸ hg)) h80 k root hk hp
theorem Ht{s:Sc}(h:dx s){f:Af}{j:Nat}{up:Bool}{v:Rat}(hj:j<s.q.g.us.length)(hf:c9 3 (s.q.g.ag+j) f)(hv:Hb v (KB j-4200)):gS 135001 10000000 s.q ⟨(j:Int),up,an v,ej s f⟩:=by
 have hK:=DB (j:=j) (by have:=h.q.g.u4;omega);have hd:=zw h.q h.B (hf.mono (XP _) (show s.q.g.ag+j<=s.q.g.ag+s.q.g.us.length by omega)) (by omega) f.ts.length;rw[Yo] at hd;haveI:Br v 135001:=(hv.mono (show KB j-4200<=135000 by omega)).br;exact⟨by simp,by simpa using hj,by rw[aG],Fq.of,hd.bd.mono (by omega),fun x hx=>(hd.can.pos x hx).2,hd.len⟩
theorem VD{s:Sc}{l:List Lm}{j:Nat}{p:Af}(hs:dx (bU s l))(hp:s.q.g.us[j]?=some p):∀m∈nG s l j p,gS 135001 10000000 s.q m:=by
 have hj:=(XN.1 hp).1;unfold nG;split
 .rename_i hb;intro m hm;rw[Ym] at hm;subst hm;exact Ht hs (by exact hj) (hs.q.g.us j p hp) (tG hs (by exact hj) (hs.q.g.us j p hp) hb)
 .intro m hm;simp at hm
theorem VA{s:Sc}{l:List Lm}{j:Nat}{p:Af}(hs:dx (bU s l))(hp:s.q.g.us[j]?=some p):∀m∈nE s l j p,gS 135001 10000000 s.q m:=by
 have hj:=(XN.1 hp).1;unfold nE;split
 .rename_i hb;intro m hm;rw[Ym] at hm;subst hm;have h:=tG hs (by exact hj) (hs.q.g.us j p hp).neg hb;exact Ht hs (by exact hj) (hs.q.g.us j p hp).neg (by haveI:=h;exact Hb.neg)
 .intro m hm;simp at hm
theorem C9{s:Sc}(h:dx s)(h80:s.aq.length<=80)(hl:∀m∈s.aq,gS 135001 10000000 s.q m):∀n,n<=s.q.g.us.length->∀m∈jc s n,gS 135001 10000000 s.q m
 |0,_=>hl
 |n+1,hn=>by
  obtain⟨p,hp⟩:∃p,s.q.g.us[n]?=some p:=⟨_,XM (by omega)⟩;have h1:=C7 h h80 (n:=n) (by omega);rw[qm hp];intro m hm;rcases Yc.1 hm with hm|hm
  .rcases Yc.1 hm with hm|hm
   .exact C9 h h80 hl n (by omega) m hm
   .exact VD h1 hp m hm
  .exact VA h1 hp m hm
theorem Wa{s:Sc}(h:dx s)(hg:oY s.q):MB 10000000 (ej s s.q.goal)/\(∀x∈ej s s.q.goal,x.c=an x.c.q)/\(ej s s.q.goal).length<=14:=by
 have hd:mh s (7*(8*135001+50)) 14 (gR s.q.g.ag s.aq (s.q.goal.ts.take s.q.goal.ts.length)).1:=zw h.q h.B hg.ts (by omega) s.q.goal.ts.length;rw[Yo] at hd;exact⟨hd.bd.mono (by omega),fun x hx=>(hd.can.pos x hx).2,hd.len⟩
theorem pR{s:Sc}(h:dx s)(hg:oY s.q)(h8:s.aq.length<=12)(hl:∀m∈s.aq,gS 135001 10000000 s.q m):∀(k:Nat) (root:Bool),k<=s.q.g.us.length->s.path.length+k<=100->ic 135001 10000000 s.q (eG s k root).1
 |0,root,_,_=>by
  obtain⟨b1,b2⟩:=qj h (by omega);have b3:=C9 h (by omega) hl _ (XP _);obtain⟨g1,g2,g3⟩:=Wa (s:=c8 s) b1 hg;refine⟨fun m hm=>b3 m (Zy hm),?_,g1,g2,g3⟩;show((c8 s).aq.drop _).length<=20;rw[X1];omega
 |k+1,root,hk,hp=>by
  refine⟨?_,?_,by omega,pR (s:=gC s 1 k) (qR h (.inl rfl) (by omega) (by omega)) hg h8 hl k false (by show k<=s.q.g.us.length;omega) (by show(s.path++_).length+k<=100;rw[XX];simp;omega),
   pR (s:=gC s 2 k) (qR h (.inr rfl) (by omega) (by omega)) hg h8 hl k false (by show k<=s.q.g.us.length;omega) (by show(s.path++_).length+k<=100;rw[XX];simp;omega)⟩
  .unfold xZ;split
   .exact hl
   .intro m hm;simp at hm
  .unfold xZ;split
   .omega
   .simp
theorem BP(s:Sc):∀(k:Nat) (root:Bool),(eG s k root).1.ht=k
 |0,_=>rfl
 |k+1,_=>by
  show 1+max (eG (gC s 1 k) k false).1.ht (eG (gC s 2 k) k false).1.ht=k+1;rw[BP (gC s 1 k) k false,BP (gC s 2 k) k false];omega
theorem Kl(s:Sc):∀n,n<=s.q.g.us.length->s.aq.length<=(jc s n).length
 |0,_=>XP _
 |n+1,hn=>by
  obtain⟨p,hp⟩:∃p,s.q.g.us[n]?=some p:=⟨_,XM (by omega)⟩;have ih:=Kl s n (by omega);rw[qm hp,XX,XX];omega
theorem Vx(s:Sc):s.aq.length<=(c8 s).aq.length:=Kl s _ (XP _)
theorem GJ(A B:Nn):bW [A.a0,A.a1,A.a2,A.a3,A.a4,A.a5,A.a6,A.a7,A.a8,B.a0,B.a1,B.a2,B.a3,B.a4,B.a5,B.a6,B.a7,B.a8]=true:=by
 have h:=JZ [A.a0,A.a1,A.a2,A.a3,A.a4,A.a5,A.a6,A.a7,A.a8] [B.a0,B.a1,B.a2,B.a3,B.a4,B.a5,B.a6,B.a7,B.a8];rw[A.cl,B.cl] at h;exact h
def cS(l:List Nat):Qu:=(tZ l 0).1
def dk(l:List Nat):Nat:=if 0<l.length then min ((l[l.length-1]?).getD 0%3) (cS l).g.us.length else 0
def dv(q:Qu):Sc:=⟨q,[],[]⟩
def gI(l:List Nat):Rat:=(eG (c8 (dv (cS l))) (dk l) true).2
def bb(l:List Nat):Qu:=if gI l<0 then⟨(cS l).g,(cS l).r,⟨(cS l).goal.ts,(cS l).goal.c-gI l⟩⟩ else cS l
def ek(l:List Nat):Tr:=(eG (c8 (dv (bb l))) (dk l) true).1
theorem xx(l:List Nat):dk l<=2/\dk l<=(cS l).g.us.length:=by
 unfold dk;split
 .have:(l[l.length-1]?).getD 0%3<3:=YE _ (by decide);omega
 .omega
theorem yx{q:Qu}(h:dt q):dx (dv q):=⟨h,fun d hd=>by simp[dv] at hd,by simp[dv],fun m hm=>by simp[dv] at hm,by simp[dv]⟩
theorem HV(l:List Nat):oY (cS l):=by
 have h:=sx l (ke l (dC l 0).2 (dC l 0).1.ag).2 ((dC l 0).1.ag+(dC l 0).1.us.length);exact⟨⟨h.can,h.bd,Hb.zero.mono (XS _),h.var⟩,h.cb.mono (by omega)⟩
theorem BI(l:List Nat):dt (cS l):=O1 l 0
theorem HG(l:List Nat):Hb (gI l) 405100:=by
 have h0:=yx (BI l);obtain⟨b1,b2⟩:=qj h0 (XS _);have b3:(c8 (dv (cS l))).aq.length<=0+8:=b2;refine xY b1 (fun s' h' e=>?_) (by omega) _ _ (xx l).2 (by have:=(xx l).1;show 0+dk l<=100;omega);have e:s'.q=cS l:=e;show Hb (dp s' (cS l).goal) 405100;by_cases hb:fQ s' (cS l).goal=true
 .have hf:c9 3 (s'.q.g.ag+s'.q.g.us.length) (cS l).goal:=by rw[e];exact sx _ _ _
  refine(KR h' (XP _) hf hb).mono ?_;have h1:=wz s'.q.g.ag s'.q.g.us.length;have h2:=h'.q.g.i3;have h3:=h'.q.g.u4;have h5:3^s'.q.g.us.length<=3^4:=X3 (by decide) h3;omega
 .unfold dp;rw[if_neg hb];exact Hb.zero.mono (by omega)
theorem AV(l:List Nat):dt (bb l)/\oY (bb l):=by
 have h:=BI l;have hg:=HV l;unfold bb;split
 .haveI:=HG l;haveI h3:Hb (cS l).goal.c 3:=(sx l (ke l (dC l 0).2 (dC l 0).1.ag).2 ((dC l 0).1.ag+(dC l 0).1.us.length)).cb;have hc:Hb ((cS l).goal.c-gI l) (3+405100+1):=Hb.sub;exact⟨⟨h.g,h.r,⟨hg.ts.can,fun t ht=>(hg.ts.bd t ht).mono (by omega),hc.mono (by omega),hg.ts.var⟩⟩,⟨hg.ts,hc.mono (by omega)⟩⟩
 .exact⟨h,hg⟩
theorem FZ(l:List Nat):(bb l).g=(cS l).g:=by unfold bb;split <;> rfl
theorem MP(l:List Nat):ic 135001 10000000 (bb l) (ek l)/\(ek l).ht<=2:=by
 obtain⟨hq,hg⟩:=AV l;have h0:=yx hq;obtain⟨b1,b2⟩:=qj h0 (XS _);have b3:(c8 (dv (bb l))).aq.length<=0+8:=b2;have hn:=xx l;refine⟨pR (s:=c8 (dv (bb l))) b1 hg (by omega) (C9 h0 (XS _) (fun m hm=>by simp[dv] at hm) _ (XP _)) _ _ (by show dk l<=(bb l).g.us.length;rw[FZ];exact hn.2) (by show 0+dk l<=100;omega),?_⟩;unfold ek;rw[BP];exact hn.1
def dD(n:Nat):Rat:=((((n%7:Nat):Int)-3:Int):Rat)/((2:Int):Rat)
def q6(p:List Mu)(i:Nat)(c:Rat):List Mu:=match p[i]? with|some x=>p.set i ⟨x.r,an (x.c.q+c)⟩|none=>p
def qZ(l:List Lm)(i:Nat)(c:Rat):List Lm:=match l[i]? with|some x=>l.set i ⟨x.unit,x.up,an (x.v.q+c),x.pf⟩|none=>l
def dj:Tr->Nat->Tr
 |.leaf l p,n=>if 0<p.length/\n%4<2 then .leaf l (q6 p (n/4%p.length) (dD n)) else if 0<l.length then .leaf (qZ l (n/4%l.length) (dD n)) p else .leaf l p
 |.node l i a b,n=>if n%2=0 then .node l i (dj a (n/2)) b else .node l i a (dj b (n/2))
theorem Nv(n:Nat):Hb (dD n) 4:=by
 have:n%7=0\/n%7=1\/n%7=2\/n%7=3\/n%7=4\/n%7=5\/n%7=6:=by omega
 unfold dD;rcases this with h|h|h|h|h|h|h <;> rw[h] <;> exact⟨by decide +kernel,by decide +kernel⟩
instance XC(n:Nat):Br (dD n) 5:=(Nv n).br
theorem gS.mono{B C B' C':Nat}{q:Qu}{m:Lm}(h:gS B C q m)(h1:B<=B')(h2:C<=C'):gS B' C' q m:=⟨h.u0,h.u,h.can,h.B.mono h1,h.mb.mono h2,h.pc,h.pl⟩
theorem NW{C:Nat}{p:List Mu}{i n:Nat}(h:MB C p)(hc:∀x∈p,x.c=an x.c.q):MB (C+6) (q6 p i (dD n))/\(∀x∈q6 p i (dD n),x.c=an x.c.q)/\(q6 p i (dD n)).length=p.length:=by
 unfold q6;split
 .rename_i x hx;haveI:=h x (XR hx);refine⟨fun y hy=>?_,fun y hy=>?_,by rw[List.length_set]⟩
  .rcases ZL hy with hy|rfl
   .exact(h y hy).mono (by omega)
   .exact Fq.of
  .rcases ZL hy with hy|rfl
   .exact hc y hy
   .rw[aG]
 .exact⟨h.mono (by omega),hc,rfl⟩
theorem NU{B C:Nat}{q:Qu}{l:List Lm}{i n:Nat}(h:∀m∈l,gS B C q m):(∀m∈qZ l i (dD n),gS (B+6) C q m)/\(qZ l i (dD n)).length=l.length:=by
 unfold qZ;split
 .rename_i x hx;have hxo:=h x (XR hx);haveI:=hxo.B;refine⟨fun y hy=>?_,by rw[List.length_set]⟩;rcases ZL hy with hy|rfl
  .exact(h y hy).mono (by omega) (XP _)
  .exact⟨hxo.u0,hxo.u,by rw[aG],Fq.of,hxo.mb,hxo.pc,hxo.pl⟩
 .exact⟨fun m hm=>(h m hm).mono (by omega) (XP _),rfl⟩
theorem ic.mono{B C B' C':Nat}{q:Qu}(h1:B<=B')(h2:C<=C'):∀{t:Tr},ic B C q t->ic B' C' q t
 |.leaf l p,h=>⟨fun m hm=>(h.1 m hm).mono h1 h2,h.2.1,h.2.2.1.mono h2,h.2.2.2⟩
 |.node l i a b,h=>⟨fun m hm=>(h.1 m hm).mono h1 h2,h.2.1,h.2.2.1,ic.mono h1 h2 h.2.2.2.1,ic.mono h1 h2 h.2.2.2.2⟩
theorem Ah{B C:Nat}{q:Qu}:∀(t:Tr) (n:Nat),ic B C q t->ic (B+6) (C+6) q (dj t n)
 |.leaf l p,n,h=>by
  obtain⟨h1,h2,h3,h4,h5⟩:=h;obtain⟨c1,c2,c3⟩:=NW (i:=n/4%p.length) (n:=n) h3 h4;obtain⟨v1,v2⟩:=NU (i:=n/4%l.length) (n:=n) h1;unfold dj;split
  .exact⟨fun m hm=>(h1 m hm).mono (by omega) (by omega),h2,c1,c2,by omega⟩
  .split
   .exact⟨fun m hm=>(v1 m hm).mono (by omega) (by omega),by omega,h3.mono (by omega),h4,h5⟩
   .exact⟨fun m hm=>(h1 m hm).mono (by omega) (by omega),h2,h3.mono (by omega),h4,h5⟩
 |.node l i a b,n,h=>by
  obtain⟨h1,h2,h3,h4,h5⟩:=h;unfold dj;split
  .exact⟨fun m hm=>(h1 m hm).mono (by omega) (by omega),h2,h3,Ah a _ h4,h5.mono (by omega) (by omega)⟩
  .exact⟨fun m hm=>(h1 m hm).mono (by omega) (by omega),h2,h3,h4.mono (by omega) (by omega),Ah b _ h5⟩
theorem Ai:∀(t:Tr) (n:Nat),(dj t n).ht=t.ht
 |.leaf l p,n=>by
  unfold dj;split
  .rfl
  .split <;> rfl
 |.node l i a b,n=>by
  unfold dj;split
  .show 1+max (dj a (n/2)).ht b.ht=1+max a.ht b.ht;rw[Ai]
  .show 1+max a.ht (dj b (n/2)).ht=1+max a.ht b.ht;rw[Ai]
def cj(q:Qu)(p:List Dc):List Lm->List Lm->Bool×List Lm
 |[],l=>(true,l)
 |m::ms,l=>if ou ⟨q,p,l⟩ m=true then cj q p ms (l++[m]) else(false,l)
theorem KI{q:Qu}{p:List Dc}{ms l:List Lm}:cj q p (ms.take 0) l=(true,l++ms.take 0):=by simp[cj]
def bz(q:Qu):Tr->List Dc->List Lm->Bool×List Dc×List Lm
 |.leaf ms pf,p,l=>if (cj q p ms l).1=true then(if kI ⟨q,p,(cj q p ms l).2⟩ q.goal pf=true then(true,p,l) else(false,p,(cj q p ms l).2)) else(false,p,(cj q p ms l).2)
 |.node ms i a b,p,l=>if (cj q p ms l).1=true then
   (if (bz q a (p++[⟨1,i,0⟩]) (cj q p ms l).2).1=true then
    (if (bz q b (p++[⟨2,i,0⟩]) (cj q p ms l).2).1=true then(true,p,l) else(false,(bz q b (p++[⟨2,i,0⟩]) (cj q p ms l).2).2))
   else(false,(bz q a (p++[⟨1,i,0⟩]) (cj q p ms l).2).2)) else(false,p,(cj q p ms l).2)
theorem Eg{q:Qu}:∀{t:Tr} {p:List Dc} {l:List Lm},(bz q t p l).1=true->bz q t p l=(true,p,l)
 |.leaf ms pf,p,l,h=>by
  unfold bz at h ⊢;split at h
  .rename_i h1;rw[if_pos h1];split at h
   .rename_i h2;rw[if_pos h2]
   .simp at h
  .simp at h
 |.node ms i a b,p,l,h=>by
  unfold bz at h ⊢;split at h
  .rename_i h1;rw[if_pos h1];split at h
   .rename_i h2;rw[if_pos h2];split at h
    .rename_i h3;rw[if_pos h3]
    .simp at h
   .simp at h
  .simp at h
structure jB(q:Qu)(p:List Dc)(n:Nat):Prop where
 d:∀d∈p,j7 200 q d
 k:∀d∈p,d.kind=1\/d.kind=2
 pl:p.length+n<=90
structure j5(l:List Lm)(n:Nat):Prop where
 can:∀m∈l,m.v=an m.v.q
 B:∀m∈l,Fq m.v 200000
 ll:l.length+n<=100
theorem j5.add{q:Qu}{l ms:List Lm}{n k C:Nat}(h:j5 l n)(hm:∀m∈ms,gS 200000 C q m)(hn:ms.length+k<=n):j5 (l++ms) k:=
 ⟨fun m hx=>(Yc.1 hx).elim (h.can m) (fun hx=>(hm m hx).can),fun m hx=>(Yc.1 hx).elim (h.B m) (fun hx=>(hm m hx).B),by have:=h.ll;rw[XX];omega⟩
theorem jB.add{q:Qu}{p:List Dc}{n k i:Nat}(h:jB q p (n+1))(hk:k=1\/k=2)(hi:i<q.g.us.length):jB q (p++[⟨k,i,0⟩]) n:=
 ⟨fun d hd=>by
  rcases Yc.1 hd with hd|hd
  .exact h.d d hd
  .rw[Ym] at hd;subst hd;exact⟨.inl ⟨hk,hi,rfl⟩,Hb.zero.mono (XS _)⟩,fun d hd=>by
  rcases Yc.1 hd with hd|hd
  .exact h.k d hd
  .rw[Ym] at hd;subst hd;exact hk,by have:=h.pl;rw[XX];simp;omega⟩
theorem US{q:Qu}{p:List Dc}{l:List Lm}{n k:Nat}(hq:dt q)(hp:jB q p n)(hl:j5 l k):iz ⟨q,p,l⟩:=⟨hq,hp.d,hp.k,by have:=hp.pl;show p.length<=100;omega,hl.can,hl.B,by have:=hl.ll;show l.length<=100;omega⟩
theorem yG{q:Qu}{p:List Dc}{l ms:List Lm}{n k C:Nat}(hq:dt q)(hp:jB q p n)(hl:j5 l k)(hm:∀m∈ms,gS 200000 C q m)(hn:ms.length<=k)(j:Nat):iz ⟨q,p,l++ms.take j⟩:=
 US hq hp (hl.add (fun m hx=>hm m (YB hx)) (k:=0) (by rw[X2];omega))
theorem jB.mono{q:Qu}{p:List Dc}{n k:Nat}(h:jB q p n)(hk:k<=n):jB q p k:=⟨h.d,h.k,by have:=h.pl;omega⟩
theorem j5.mono{l:List Lm}{n k:Nat}(h:j5 l n)(hk:k<=n):j5 l k:=⟨h.can,h.B,by have:=h.ll;omega⟩
theorem EJ{α:Type}(p:List α)(x:α):(p++[x]).take ((p++[x]).length-1)=p:=by
 rw[XX];simp
def nH(q:Qu)(p:List Dc)(ms l:List Lm)(n:Nat):Prop:=(cj q p (ms.take n) l)=(true,l++ms.take n)
theorem Dn{q:Qu}{p:List Dc}:∀{ms ns l r:List Lm},cj q p ms l=(true,r)->cj q p (ms++ns) l=cj q p ns r
 |[],ns,l,r,h=>by unfold cj at h;cases h;rfl
 |m::ms,ns,l,r,h=>by
  unfold cj at h;split at h
  .rename_i h1;show cj q p (m::(ms++ns)) l=_;rw[cj,if_pos h1];exact Dn h
  .simp at h
theorem KE{q:Qu}{p:List Dc}{ms l:List Lm}{n:Nat}{m:Lm}(h:nH q p ms l n)(hm:ms[n]?=some m)(hl:ou ⟨q,p,l++ms.take n⟩ m=true):nH q p ms l (n+1):=by
 unfold nH at h ⊢;rw[iF hm,Dn h,cj,if_pos hl,Yf];rfl
theorem KG{q:Qu}{p:List Dc}{ms l:List Lm}{n:Nat}{m:Lm}(h:nH q p ms l n)(hm:ms[n]?=some m)(hl:ou ⟨q,p,l++ms.take n⟩ m=false):cj q p ms l=(false,l++ms.take n):=by
 unfold nH at h;have e:ms=ms.take n++m::ms.drop (n+1):=by
  obtain⟨h1,h2⟩:=XN.1 hm;rw[<-h2,<-Yh h1,YN]
 rw[e,Dn h,cj,if_neg (by rw[hl];decide),<-e]
theorem KH{q:Qu}{p:List Dc}{ms l:List Lm}(h:nH q p ms l ms.length):cj q p ms l=(true,l++ms):=by
 unfold nH at h;rwa [Yo] at h
section
variable {q:Qu}{ms l:List Lm}{pf:List Mu}{p:List Dc}{i:Nat}{a b:Tr}{x:List Lm}
theorem qH:bz q (.node ms i a b) p l=if (cj q p ms l).1=true then
   (if (bz q a (p++[⟨1,i,0⟩]) (cj q p ms l).2).1=true then
    (if (bz q b (p++[⟨2,i,0⟩]) (cj q p ms l).2).1=true then(true,p,l) else(false,(bz q b (p++[⟨2,i,0⟩]) (cj q p ms l).2).2))
   else(false,(bz q a (p++[⟨1,i,0⟩]) (cj q p ms l).2).2)) else(false,p,(cj q p ms l).2):=by rw[bz]
theorem Gi{α:Type}{z:Bool×α}(h:z.1=false):(false,z.2)=z:=by cases z;cases h;rfl
theorem Mb(h:cj q p ms l=(false,x)):bz q (.leaf ms pf) p l=(false,p,x):=by rw[bz,h,if_neg (by simp)]
theorem Ma(h:cj q p ms l=(true,x))(hp:kI ⟨q,p,x⟩ q.goal pf=false):bz q (.leaf ms pf) p l=(false,p,x):=by unfold bz;rw[h,if_pos rfl,if_neg (by rw[hp];decide)]
theorem L9(h:cj q p ms l=(true,x))(hp:kI ⟨q,p,x⟩ q.goal pf=true):bz q (.leaf ms pf) p l=(true,p,l):=by unfold bz;rw[h,if_pos rfl,if_pos hp]
theorem L6(h:cj q p ms l=(false,x)):bz q (.node ms i a b) p l=(false,p,x):=by rw[qH,h,if_neg (by simp)]
theorem L8(h:cj q p ms l=(true,x))(h1:(bz q a (p++[⟨1,i,0⟩]) x).1=false):bz q (.node ms i a b) p l=bz q a (p++[⟨1,i,0⟩]) x:=by
 rw[qH,h,if_pos rfl,if_neg (by rw[h1];decide)];exact Gi h1
theorem L7(h:cj q p ms l=(true,x))(h1:(bz q a (p++[⟨1,i,0⟩]) x).1=true)(h2:(bz q b (p++[⟨2,i,0⟩]) x).1=false):bz q (.node ms i a b) p l=bz q b (p++[⟨2,i,0⟩]) x:=by
 rw[qH,h,if_pos rfl,if_pos h1,if_neg (by rw[h2];decide)];exact Gi h2
theorem L5(h:cj q p ms l=(true,x))(h1:(bz q a (p++[⟨1,i,0⟩]) x).1=true)(h2:(bz q b (p++[⟨2,i,0⟩]) x).1=true):bz q (.node ms i a b) p l=(true,p,l):=by
 rw[qH,h,if_pos rfl,if_pos h1,if_pos h2]
end
theorem zO(q:Qu):∀(t:Tr) (p:List Dc) (l:List Lm),(bz q t p l).2.1.length<=p.length+t.ht
 |.leaf ms pf,p,l=>by
  unfold bz;split
  .split <;> exact zat _ _
  .exact zat _ _
 |.node ms i a b,p,l=>by
  have ha:=zO q a (p++[⟨1,i,0⟩]) (cj q p ms l).2;have hb:=zO q b (p++[⟨2,i,0⟩]) (cj q p ms l).2;rw[XX] at ha hb;have e:(Tr.node ms i a b).ht=1+max a.ht b.ht:=rfl;rw[qH,e];split
  .split
   .split
    .exact zat _ _
    .simp only[X6,Yg] at hb;show(bz q b _ _).2.1.length<=_;omega
   .simp only[X6,Yg] at ha;show(bz q a _ _).2.1.length<=_;omega
  .exact zat _ _
end Rc
namespace Go.Proofs.YtakccfmgipajnaaGreatDoor
open Go Go.RowKit Rc
set_option maxHeartbeats 2000000 in
theorem NL(l:List Lm)(p:List Mu)(d m:Nat)(hm:1<=m)(hm2:m<=65536):ar Tryz.prog 23 [dE (uC l p),V.one (ab.val (.int .i64 ((d:Int)))),V.one (ab.val (.int .i64 ((m:Int))))] (R.aW [V.one (ab.val (.int .i64 (((1:Nat):Int)))),V.one (ab.val (.bool true))]):=by
 refine aF Tryz.func23 Tryz.ntmps23 rfl (fun w0 A0=>?_);refine zc 11 rfl (aa rfl (aO rfl) (zl 10 rfl (aa rfl (aw rfl) (aa rfl (bp rfl rfl) (zl 12 rfl (aE 0 [] [] (dz 18 rfl (af rfl (aw rfl) (af rfl (bp rfl rfl) ?_)))))))));refine dz 5 rfl (af rfl (aw rfl) (af rfl (bp rfl rfl) (dz 3 rfl (aB (za 1 rfl ?_)))));exact aI ai rfl rfl
set_option maxHeartbeats 2000000 in
theorem NK(l:List Lm)(i:Nat)(A B:Nn)(sa sb:Nat)(d m:Nat)(hd:1<=d)(hd2:d<=2048)(hm:1+sa+sb<=m)(hm2:m<=65536)(h1:1<=sa)(ha:ar Tryz.prog 23 [dE A,V.one (ab.val (.int .i64 ((((d-1):Nat):Int)))),V.one (ab.val (.int .i64 ((((m-1):Nat):Int))))] (R.aW [V.one (ab.val (.int .i64 ((sa:Int)))),V.one (ab.val (.bool true))]))(hb:ar Tryz.prog 23 [dE B,V.one (ab.val (.int .i64 ((((d-1):Nat):Int)))),V.one (ab.val (.int .i64 ((((m-1-sa):Nat):Int))))] (R.aW [V.one (ab.val (.int .i64 ((sb:Int)))),V.one (ab.val (.bool true))])):ar Tryz.prog 23 [dE (nf l i A B),V.one (ab.val (.int .i64 ((d:Int)))),V.one (ab.val (.int .i64 ((m:Int))))] (R.aW [V.one (ab.val (.int .i64 ((((1+sa+sb):Nat):Int)))),V.one (ab.val (.bool true))]):=by
 refine aF Tryz.func23 Tryz.ntmps23 rfl (fun w0 A0=>?_);refine zc 11 rfl (aa rfl (aO rfl) (zl 10 rfl (aa rfl (aw rfl) (aa rfl (aU rfl (by show((2:Nat):Int)≠0;decide)) (zl 10 rfl (aa rfl (aw rfl) (aa rfl (eg rfl rfl) (zl 19 rfl (aa rfl (aw rfl) ?_)))))))));refine aa rfl (cD rfl (by decide)) (zl 3 rfl (aa rfl (aU rfl) (zl 10 rfl (aa rfl (aS (e:=bZ) (l:=[A,B]) 0 rfl rfl) (aa rfl (bo rfl) (zl 1 rfl (aa rfl (b9 (d-1) rfl) (zl 1 rfl (aa rfl (b9 (m-1) rfl) ?_)))))))));refine aj B8 rfl (ha) (hcl:=iL A.cl (rfl)) (zl 21 rfl (aa rfl (aS (e:=bZ) (l:=[A,B]) 1 rfl rfl) (aa rfl (bo rfl) (zl 1 rfl (aa rfl (b9 (d-1) rfl) (zl 1 rfl (aa rfl (b9 (m-1) rfl) (zl 1 rfl (aa rfl (b9 (m-1-sa) rfl) ?_)))))))));refine aj B8 rfl (hb) (hcl:=iL B.cl (rfl)) (zl 10 rfl (aa rfl (aL (1+sa) rfl) (zl 1 rfl (aa rfl (aL (1+sa+sb) rfl) (zl 5 rfl ?_)))));exact aI ai rfl rfl
theorem An:∀(t:Tr) (d m:Nat),t.ht<=d->t.size<=m->d<=2048->m<=65536->ar Tryz.prog 23 [dE t.nn,V.one (ab.val (.int .i64 ((d:Int)))),V.one (ab.val (.int .i64 ((m:Int))))] (R.aW [V.one (ab.val (.int .i64 (((t.size:Nat):Int)))),V.one (ab.val (.bool true))])
 |.leaf l p,d,m,h1,h2,h3,h4=>NL l p d m h2 h4
 |.node l i a b,d,m,h1,h2,h3,h4=>by
  have h1:1+max a.ht b.ht<=d:=h1;have h2:1+a.size+b.size<=m:=h2;exact NK l i a.nn b.nn a.size b.size d m (by omega) h3 h2 h4 a.size_pos (An a _ _ (by omega) (by omega) (by omega) (by omega)) (An b _ _ (by omega) (by omega) (by omega) (by omega))
end Go.Proofs.YtakccfmgipajnaaGreatDoor
namespace Rc
open Go Go.RowKit
@[reducible] def bR{α:Type}(t sz:Nat)(e:El α)(l:List α)(n:Nat):Option HE:=some ⟨t,e.all l,some sz,some (.inr (0,some n))⟩
section
variable {P:Program}{ops:Array Oper}{X:List Nat}{Q:Exit->Act->World->Prop}{w0:aJ}{A0:ak}{N:Nat}{o:Oper}{Γ:aA}{H:Hp}{α:Type}
theorem zD{x y:Operand}{t t2 u u2 r n sz:Nat}{inf:TypeInfo}{z:Value}(e:El α)(l:List α)(v:α)
  (ho:o.op = .call { callee:=.builtin .append,args:=#[x,y],argTypes:=#[t,t2] })
  (hx:ao Γ x=some (D.v (V.one (ab.own r n)))) (hy:ao Γ y=some (D.rep (bX 1 (e.f v)))) (hi:H[r]?=some (bR u sz e l n)) (hsz:0<sz)
  (ht:P.underlying t=some (.slice u)) (ht2:P.underlying t2=some (.slice u2)) (hinf:P.info? u=some inf) (hz:inf.zero=some z) (hisz:inf.size=sz) (hzs:z.cells.size=sz)
  (hlen:l.length+1<=maxLen) (hbytes:(l.length+1)*inf.bytes<=140737488355328) (hes:e.sz=sz:=by rfl) :
  Je P ops o Γ H (some (D.v (V.one (ab.own r (n+1))))) (H.set r (bR u sz e (l++[v]) (n+1))):=by
 subst hes;exact DT 0 ho hx hy hi (e.eI l) (by rw[e.len,Y2]) hsz ht ht2 hinf hz hisz hzs hlen hbytes (XS _) (XP _) (e.Kx l v)
theorem xj{Γ2:aA}{E:Env}{a:Act}{w:World}(hG:Good w0 A0 N Γ2 H E a w){r n k:Nat}{e:HE}{v:Value}(hi:H[r]?=some (some e))(hp:e.cP=some (.inr (k,some n)))(hd:(ab.own r n).den E.A v w):v=e.name E r:=by
 obtain⟨kn1,_⟩:=hG.kn r e n hi ⟨k,hp⟩;have h1:E.A.g r n=some v/\_:=hd;rw[kn1] at h1;exact(Z9 h1.1).symm
theorem zA{x:Operand}{t u t1 r n sz:Nat}(e:El α)(l:List α)(ho:o.op = .call { callee:=.builtin .len,args:=#[x],argTypes:=#[t] })(hx:ao Γ x=some (D.v (V.one (ab.own r n))))(hi:H[r]?=some (bR t1 sz e l n))(hXi:r ∉ X)
  (ht:P.underlying t=some (.slice u)) (hsz:0<sz:=by exact XU rfl) (hes:e.sz=sz:=by rfl):Jq P ops X o Γ H (D.int l.length):=by
 intro w0 A0 N Γ2 H2 E a w hs hX hG;subst hes;have hi2:=hX r _ hXi hi;obtain⟨_,h2d⟩:=bY hs hG (x:=x) (by rw[ho];simp[Op.operands,Call.operands]) hx;have h2:=xj hG hi2 rfl h2d;unfold HE.name at h2;simp only[El.eI,Y4 _ hsz] at h2;obtain⟨g1,_⟩:=hG.boxes r _ hi2;refine⟨trivial,goInt l.length,?_,rfl,rfl⟩;cases hn:E.nil r
 .simp only[hn] at h2;simp[execOp,ho,resolve,invoke,builtin,Builtin.len_,h2,run_underlying ht]
 .unfold HE.ok at g1;simp only[hn,if_true] at g1 h2;have:l.length=0:=by
   have h:=g1.1;have h3:=El.eI e l;rw[h] at h3;rcases Zl.1 h3.symm with h|h
   .exact h
   .omega
  rw[this];simp[execOp,ho,resolve,invoke,builtin,Builtin.len_,h2,run_underlying ht]
theorem zC{x y:Operand}{t u t1 r n sz:Nat}{k:IntKind}{b:Bool}(e:El α)(l:List α)(m:Nat)(ho:o.op = .slice t x none (some y) none)(hx:ao Γ x=some (D.v (V.one (ab.own r n))))(hy:ao Γ y=some (D.val (.int k (m:Int))))(hi:H[r]?=some (bR t1 sz e l n))
  (ht:P.underlying t=some (.slice u)) (hu:bJ P u b sz) (hm:m<=l.length) (hsz:0<sz:=by exact XU rfl) (hes:e.sz=sz:=by rfl):Je P ops o Γ H (some (D.v (V.one (ab.own r (n+1))))) (H.set r (bR t1 sz e (l.take m) (n+1))):=by
 intro w0 A0 N Γ2 a w Q K hs hN hSt hK;obtain⟨E,hG⟩:=hSt;subst hes;obtain⟨_,h2d⟩:=bY hs hG (x:=x) (by rw[ho];simp[Op.operands]) hx;have h2:=xj hG hi rfl h2d;have e2:=cT hs hG (x:=y) (by rw[ho];simp[Op.operands]) hy;unfold HE.name at h2;simp only[El.eI,Y4 _ hsz] at h2;obtain⟨g1,g2⟩:=hG.boxes r _ hi;have g3:=g1;unfold HE.ok at g1;have hlen:(e.all (l.take m)).length/e.sz=m:=by rw[El.eI,Y4 _ hsz,X2,YA hm]
 cases hn:E.nil r
 .simp only[hn,X8,if_false] at h2 g1;obtain⟨hc1,cs,rest,hc2,hc3,hc4⟩:=g1;have hcl:=hc4.length;have hcap:l.length<=E.cap r:=by
   have:l.length*e.sz<=E.cap r*e.sz:=by rw[<-hc3,<-El.eI,<-hcl];simp
   exact YV this hsz
  obtain⟨E',hg,hgv⟩:=hG.tX 0 (w':=w) (ls':=e.all (l.take m)) (b':=E.b r) (cap':=E.cap r) (nl':=false) (v':=.slice (some ⟨E.b r,0,none⟩) m (E.cap r)) hi rfl rfl hG.below (XP _) (fun _ _ _=>rfl) (fun _ _ _ _ _=>rfl)
   (by
    simp only[X8,if_false];refine⟨hc1,cs.take (m*e.sz),cs.drop (m*e.sz)++rest,?_,?_,?_⟩
    .rw[<-Yf,YN];exact hc2
    .rw[<-Yf,YN];exact hc3
    .rw[<-El.zq];exact hc4.take _)
   (fun _=>(g2 hn).1) (fun _ j hj=>(g2 hn).2 j (XS _)) (fun _ j e' hj he' hn' e3=>hG.apart j r e' _ he' hi hn' hn hj e3) (by simp only[X8,if_false];rw[hlen])
  refine gh (v:=.slice (some ⟨E.b r,0,none⟩) m (E.cap r)) (w':=w) ?_ (hK _ _ ⟨E',hg.put (fun d hd=>by cases hd;exact⟨trivial,hgv,rfl⟩) hN⟩);have b1:m<=E.cap r:=by omega
  by_cases hc0:E.cap r=0
  .have hm0:m=0:=by omega
   simp[execOp,ho,h2,e2,Instr.sliceAt,Instr.slice,run_underlying ht,Instr.sliceBounds,Instr.sliceBound,asIntOf,hu.sizeOf,hc0,hm0]
  .simp[execOp,ho,h2,e2,Instr.sliceAt,Instr.slice,run_underlying ht,Instr.sliceBounds,Instr.sliceBound,asIntOf,hu.sizeOf,hc0,b1,jW]
 .simp only[hn,if_true] at h2 g1;have hl0:l.length=0:=by
   have h3:=El.eI e l;rw[g1.1] at h3;rcases Zl.1 h3.symm with h|h
   .exact h
   .omega
  have hm0:m=0:=by omega
  subst hm0;obtain⟨E',hg,hgv⟩:=hG.tX 0 (w':=w) (ls':=e.all (l.take 0)) (b':=E.b r) (cap':=0) (nl':=true) (v':=.slice none 0 0) hi rfl rfl hG.below (XP _) (fun _ _ _=>rfl) (fun _ _ _ _ _=>rfl)
   (by simp[El.all]) (fun h=>by simp at h) (fun h=>by simp at h) (fun h=>by simp at h) rfl
  refine gh (v:=.slice none 0 0) (w':=w) ?_ (hK _ _ ⟨E',hg.put (fun d hd=>by cases hd;exact⟨trivial,hgv,rfl⟩) hN⟩);simp[execOp,ho,h2,e2,Instr.sliceAt,Instr.slice,run_underlying ht,Instr.sliceBounds,Instr.sliceBound,asIntOf,hu.sizeOf]
theorem zx{d:Option D}{H1:Hp}{rest:List Oper}(hg:o.guard=none)(hN:eA N o.dst=true)(h:Je P ops o Γ H d H1)(hr:Tl P ops Q w0 A0 N (ct Γ o.dst d) H1 rest):Tl P ops Q w0 A0 N Γ H (o::rest):=by
 intro a w hSt;unfold wpList;rw[if_pos (by simp[Region.wanted,hg])];left;exact h w0 A0 N Γ a w Q _ (fun _ _=>rfl) hN hSt (fun a' w' hs=>hr a' w' hs)
def pM(H:Hp)(E:Env):Cells:=fun k j=>E.A k j \/ ∃(r:Nat) (e:HE),H[r]?=some (some e)/\E.nil r=false/\k=E.b r
theorem R0{Γ2:aA}{E:Env}{a:Act}{w:World}(hG:Good w0 A0 N Γ2 H E a w)(k j:Nat)(h:pM H E k j):k<w.heap.size:=by
 rcases h with h|⟨r,e,h1,h2,rfl⟩
 .exact hG.bc k j h
 .exact HE.eu (hG.boxes r e h1).1 h2
theorem RZ{Γ2:aA}{E:Env}{a:Act}{w:World}(hG:Good w0 A0 N Γ2 H E a w){t r n sz:Nat}(e:El α)(l:List α){v:Value}(hi:H[r]?=some (bR t sz e l n))(hsz:0<sz)(hes:e.sz=sz)(hd:(ab.own r n).den E.A v w):(e.row l).den (ak.of (pM H E)) v w:=by
 subst hes;have h2:=xj hG hi rfl hd;unfold HE.name at h2;simp only[El.eI,Y4 _ hsz] at h2;obtain⟨g1,_⟩:=hG.boxes r _ hi;unfold HE.ok at g1;show(bX l.length (e.all l)).P (pM H E) v w;cases hn:E.nil r
 .simp only[hn,X8,if_false] at h2 g1;obtain⟨hm,cs,rest,hc,hlen,hcd⟩:=g1;have hlc:=hcd.length;refine⟨some ⟨E.b r,0,none⟩,E.cap r,h2,?_,hm,fun h=>by simp at h,fun ad had=>?_⟩
  .have:l.length*e.sz<=E.cap r*e.sz:=by rw[<-hlen,<-El.eI,<-hlc];simp
   exact YV this hsz
  .cases had;refine⟨fun _=>rfl,fun j lf hj=>?_⟩;obtain⟨u,hu,hud⟩:=(hcd.pure (e.gK l)).get hj;have hju:=(XN.1 hu).1;simp only[Yk];exact⟨.inr ⟨r,_,hi,hn,rfl⟩,u,kQ (o:=j) hc (v:=u) (by rw[XV hju];exact hu),ab.cU (ak.le.of fun _ _ h=>.inl h) hud⟩
 .simp only[hn,if_true] at h2 g1;have hl0:l=[]:=by
   have h3:=El.eI e l;rw[g1.1] at h3;rcases Zl.1 h3.symm with h|h
   .exact X5 h
   .omega
  subst hl0;rw[h2];exact oi (ak.of (pM H E)) w
inductive oT(H:Hp):List ab->List ab->Prop
 |nil:oT H [] []
 |own {α:Type} {t r n sz:Nat} {e:El α} {l:List α} {ls ls':List ab} (hi:H[r]?=some (bR t sz e l n)) (hsz:Nat.blt 0 sz=true) (hes:e.sz=sz) (h:oT H ls ls'):oT H (ab.own r n::ls) (e.row l::ls')
 |cl {l:ab} {ls ls':List ab} (hc:l.cl=true) (h:oT H ls ls'):oT H (l::ls) (l::ls')
inductive oS(H:Hp):List V->List V->Prop
 |nil:oS H [] []
 |agg {ls ls':List ab} {xs xs':List V} (h:oT H ls ls') (hs:oS H xs xs'):oS H (V.agg ls::xs) (V.agg ls'::xs')
 |cl {x:V} {xs xs':List V} (hc:x.cl=true) (hs:oS H xs xs'):oS H (x::xs) (x::xs')
theorem oT.den{Γ2:aA}{E:Env}{a:Act}{w:World}(hG:Good w0 A0 N Γ2 H E a w){ls ls':List ab}(h:oT H ls ls'):∀{cs:List Value},a9 E.A ls cs w->a9 (ak.of (pM H E)) ls' cs w:=by
 induction h with
 |nil=>
  intro cs hd
  cases cs with
  |nil=>trivial
  |cons c cs=>exact hd.elim
 |own hi hsz hes h ih=>
  intro cs hd
  cases cs with
  |nil=>exact hd.elim
  |cons c cs=>exact⟨RZ hG _ _ hi (by simpa using hsz) hes hd.1,ih hd.2⟩
 |cl hc h ih=>
  intro cs hd
  cases cs with
  |nil=>exact hd.elim
  |cons c cs=>exact⟨ab.cU (ak.le.of fun _ _ h=>.inl h) (ab.ja hc hd.1),ih hd.2⟩
theorem oS.den{Γ2:aA}{E:Env}{a:Act}{w:World}(hG:Good w0 A0 N Γ2 H E a w){xs xs':List V}(h:oS H xs xs'):∀{vs:List Value},c6 E.A xs vs w->c6 (ak.of (pM H E)) xs' vs w:=by
 induction h with
 |nil=>
  intro vs hd
  cases vs with
  |nil=>trivial
  |cons c cs=>exact hd.elim
 |agg h hs ih=>
  intro vs hd
  cases vs with
  |nil=>exact hd.elim
  |cons c cs=>obtain⟨⟨us,rfl,h1⟩,h2⟩:=hd;exact⟨⟨us,rfl,h.den hG h1⟩,ih h2⟩
 |cl hc hs ih=>
  intro vs hd
  cases vs with
  |nil=>exact hd.elim
  |cons c cs=>exact⟨V.cU (ak.le.of fun _ _ h=>.inl h) (V.ja hc hd.1),ih hd.2⟩
theorem DQ{f:Nat}{args:Array Operand}{tys:Array TypeId}{ys xs:List V}{c:Value}(ho:o.op = .call { callee:=.value (.func f),args:=args,argTypes:=tys })(hf:aD P f)(hx:gA Γ args.toList=some ys)
  (hspec:ar P f xs (R.one (V.one (ab.val c)))) (hln:oS H ys xs):Je P ops o Γ H (some (D.val c)) H:=by
 intro w0 A0 N Γ2 a w Q K hs hN hSt hK;obtain⟨E,hG⟩:=hSt;obtain⟨fn,hfn,hb,hnn⟩:=hf;have hyd:=mc (Γ:=Γ) (E:=E) (a:=a) (w:=w) args.toList ys (fun x hx d hd=>(bY hs hG (x:=x) (by rw[ho];simp[Op.operands,Call.operands];exact .inr (by simpa using hx)) hd).2) hx;have hrun:(execOp a.eval o).run P w = .ok (.enter f (args.map a.eval)) w:=by
  have hn':¬fn.name = "runtime.NumGoroutine":=by simpa using hnn
  have hb':¬fn.body=none:=by intro e;rw[e] at hb;simp at hb
  simp[execOp,ho,resolve,Deferred.ofValue,invoke,callFunc,hfn,hn',hb',Act.eval]
 unfold Oper.wp;rw[hrun,Ze];have hc:=hspec w (args.toList.map a.eval) (pM H E) hG.below.now (R0 hG) (hln.den hG hyd);rw[show(args.toList.map a.eval).toArray=args.map a.eval from by
  apply YC.1;simp] at hc
 refine Zg hc ?_;rintro e w' ⟨v,rfl,hy,hbel⟩;have hy:v=c/\c.oneCell'=true:=hy;exact hK _ _ ⟨_,(hG.grow hbel).put (fun d hd=>by cases hd;exact⟨trivial,hy⟩) hN⟩
theorem Good.S6{E:Env}{a:Act}{w:World}(h:Good w0 A0 N Γ H E a w){r n t sz:Nat}{ls:List ab}(hi:H[r]?=some (some ⟨t,ls,some sz,some (.inr (0,some n))⟩)) :
  ∃E',Good w0 A0 N Γ (H.set r (some ⟨t,ls,some sz,some (.inr (ls.length,some n))⟩)) E' a w:=by
 have hil:=(XN.1 hi).1
 let A':ak:=⟨fun k j=>E.A k j\/(E.nil r=false/\k=E.b r/\j<ls.length),E.A.g⟩
 have hle:ak.le E.A A':=⟨fun _ _ h=>.inl h,fun _ _ _ h=>h⟩;have back:∀(j:Nat) (e1:HE),(H.set r (some ⟨t,ls,some sz,some (.inr (ls.length,some n))⟩))[j]?=some (some e1)->(j=r/\e1=⟨t,ls,some sz,some (.inr (ls.length,some n))⟩)\/(j≠r/\H[j]?=some (some e1)):=by
  intro j e1 hj;by_cases hij:r=j
  .subst hij;rw[X7 hil] at hj;simp only[XL] at hj;exact .inl ⟨rfl,hj.symm⟩
  .rw[X0 hij] at hj;exact .inr ⟨fun e=>hij e.symm,hj⟩
 have get:∀(j:Nat) (e1:HE),(H.set r (some ⟨t,ls,some sz,some (.inr (ls.length,some n))⟩))[j]?=some (some e1)->∃e2,H[j]?=some (some e2):=by
  intro j e1 hj;rcases back j e1 hj with⟨rfl,_⟩|⟨_,h2⟩
  .exact⟨_,hi⟩
  .exact⟨e1,h2⟩
 refine⟨{ E with A:=A' },h.below,?_,?_,h.defers,h.size,fun s d hs=>?_,fun j e1 hj=>?_,fun j1 j2 e1 e2 h1 h2=>?_,fun j e1 m hj hm=>?_,fun j m v hv=>?_,h.bg.bI hle.1 (fun _ _ _=>rfl)⟩
 .intro k j hk;rcases hk with hk|⟨hn,rfl,_⟩
  .exact h.bc k j hk
  .exact HE.eu (h.boxes r _ hi).1 hn
 .intro k j hk;rcases hk with hk|⟨hn,rfl,_⟩
  .exact h.cE k j hk
  .exact .inr ((h.boxes r _ hi).2 hn).1
 .obtain⟨ho,v,hv,hd⟩:=h.cr s d hs;exact⟨ho.oj (fun e0 h0 h1=>by rw[hi] at h0;cases h0;simp[HE.cY] at h1),v,hv,D.sM hle hd⟩
 .rcases back j e1 hj with⟨rfl,rfl⟩|⟨hjr,hj'⟩
  .obtain⟨g1,g2⟩:=h.boxes _ _ hi;refine⟨HE.jt (e:=⟨t,ls,some sz,some (.inr (ls.length,some n))⟩) hle g1,fun hn=>⟨(g2 hn).1,fun i hi' hA=>?_⟩⟩;have hi':ls.length<=i:=hi';rcases hA with hA|⟨_,_,hlt⟩
   .exact(g2 hn).2 i (XS _) hA
   .omega
  .obtain⟨g1,g2⟩:=h.boxes j e1 hj';refine⟨HE.jt hle g1,fun hn=>⟨(g2 hn).1,fun i hi' hA=>?_⟩⟩;rcases hA with hA|⟨hn2,hb,_⟩
   .exact(g2 hn).2 i hi' hA
   .exact h.apart j r e1 _ hj' hi hn hn2 hjr hb
 .obtain⟨e3,k1⟩:=get j1 e1 h1;obtain⟨e4,k2⟩:=get j2 e2 h2;exact h.apart j1 j2 e3 e4 k1 k2
 .rcases back j e1 hj with⟨rfl,rfl⟩|⟨hjr,hj'⟩
  .obtain⟨k',hm⟩:=hm;simp only[XL,ZG,XO] at hm;obtain⟨_,rfl⟩:=hm;obtain⟨q1,q2,_⟩:=h.kn _ _ n hi ⟨0,rfl⟩;exact⟨q1,q2,fun hn i hi'=>.inr ⟨hn,rfl,hi'⟩⟩
  .obtain⟨q1,q2,q3⟩:=h.kn j e1 m hj' hm;exact⟨q1,q2,fun hn i hi'=>.inl (q3 hn i hi')⟩
 .obtain⟨e1,k,m',h5,h6⟩:=h.gd j m v hv;by_cases hjr:r=j
  .subst hjr;exact⟨_,_,_,X7 hil,rfl⟩
  .exact⟨e1,k,m',by rw[X0 hjr];exact h5,h6⟩
theorem Ww{c:Code}(r:Nat){n t sz:Nat}{ls:List ab}(hi:H[r]?=some (some ⟨t,ls,some sz,some (.inr (0,some n))⟩))(h:Tc P Q w0 A0 N Γ (H.set r (some ⟨t,ls,some sz,some (.inr (ls.length,some n))⟩)) c):Tc P Q w0 A0 N Γ H c:=by
 intro a w hSt;obtain⟨E,hG⟩:=hSt;obtain⟨E',hG'⟩:=hG.S6 hi;exact h a w ⟨E',hG'⟩
end
structure VS where
 t0:Nat
 t2:Nat
 t3:Nat
 u4:Nat
 s4:Nat
 u5:Nat
 s5:Nat
 bq:Nat
 bs:Nat
 bv:Nat
 ql:List ab
 Vb:Value
@[reducible] def VS.e0(S:VS):HE:=⟨S.t0,S.ql,none,some (.inl S.bq)⟩
@[reducible] def VS.e2(S:VS)(n4 n5:Nat):HE:=⟨S.t2,S.ql++[ab.own 4 n4,ab.own 5 n5],none,some (.inl S.bs)⟩
@[reducible] def VS.e3(S:VS):HE:=⟨S.t3,[ab.val S.Vb],none,some (.inl S.bv)⟩
@[reducible] def VS.e4(S:VS)(l:List ab)(n:Nat):HE:=⟨S.u4,l,some S.s4,some (.inr (0,some n))⟩
@[reducible] def VS.e5(S:VS)(l:List ab)(n:Nat):HE:=⟨S.u5,l,some S.s5,some (.inr (0,some n))⟩
@[reducible] def VS.H(S:VS)(l4 l5:List ab)(n4 n5:Nat):Hp:=[some S.e0,none,some (S.e2 n4 n5),some S.e3,some (S.e4 l4 n4),some (S.e5 l5 n5)]
def I5(i:Nat):Prop:=i=0\/i=2\/i=3\/i=4\/i=5
def VS.X(E:Env)(k:Nat):Prop:=∃i,I5 i/\E.nil i=false/\k=E.b i
@[reducible] def VS.F(E:Env)(w:World):aJ:=⟨w,VS.X E,fun _=>none⟩
@[reducible] def VS.ps(S:VS):List Value:=[.pointer (some ⟨S.bs,0,none⟩),.pointer (some ⟨S.bq,0,none⟩),.pointer (some ⟨S.bv,0,none⟩)]
def mi(P:Program)(f:Nat)(S:VS)(l4 l5:List ab)(x y:V)(l4' l5':List ab):Prop:=
 ∀(n4 n5:Nat) (E:Env) (v:Value) (w:World),Good (VS.F E w) (ak.of E.A.c) 0 [] (S.H l4 l5 n4 n5) E ⟨#[],[]⟩ w->x.den (ak.of E.A.c) v w →
  Calls P f (v::S.ps).toArray w fun e w'=>∃(u:Value) (E':Env) (m4 m5:Nat),e = .returned u/\y.den (ak.of E'.A.c) u w'/\Good (VS.F E w) (ak.of E.A.c) 0 [] (S.H l4' l5' m4 m5) E' ⟨#[],[]⟩ w'
def K6(P:Program)(fn:Func)(w0:aJ)(A0:ak)(S:VS)(y:V)(l4' l5':List ab):Exit->Act->World->Prop:=
 bodyPost P fn fun e w'=>∃(u:Value) (E':Env) (m4 m5:Nat),e = .returned u/\y.den (ak.of E'.A.c) u w'/\Good w0 A0 0 [] (S.H l4' l5' m4 m5) E' ⟨#[],[]⟩ w'
theorem pinned{w0:aJ}{A0:ak}{N:Nat}{Γ:aA}{H:Hp}{E:Env}{a:Act}{w:World}(hG:Good w0 A0 N Γ H E a w){i t q:Nat}{ls:List ab}(hi:H[i]?=some (some ⟨t,ls,none,some (.inl q)⟩)):E.nil i=false/\E.b i=q/\(w0.w.heap.size<=E.b i\/w0.X (E.b i))/\∀j,¬E.A (E.b i) j:=by
 obtain⟨g1,g2⟩:=hG.boxes i _ hi;have hn:=(HE.box g1 rfl).1;obtain⟨⟨h1,h2⟩,h3⟩:=g2 hn;exact⟨hn,h1,by rw[h1];exact h2,fun j=>h3 j (XS _)⟩
section
variable {P:Program}{ops:Array Oper}{o:Oper}{Γ:aA}{H:Hp}
theorem mi.gO{f N:Nat}{S:VS}{fn:Func}{c:Code}{l4 l5 l4' l5':List ab}{x y:V}(hf:P.funcs[f]?=some fn)(hb:fn.body=some c)(hN:fn.ntmps=N)(hl:4<=min N 2000)
  (h:∀(w0:aJ) A0 n4 n5,Tc P (K6 P fn w0 A0 S y l4' l5') w0 A0 N [(0,some (D.v x)),(1,some (D.ptr 2 0)),(2,some (D.ptr 0 0)),(3,some (D.ptr 3 0))] (S.H l4 l5 n4 n5) c):mi P f S l4 l5 x y l4' l5':=by
 intro n4 n5 E v w hG hd;refine calls_of_wp hf hb ?_;obtain⟨_,p0,_⟩:=pinned hG (i:=0) rfl;obtain⟨_,p2,_⟩:=pinned hG (i:=2) rfl;obtain⟨_,p3,_⟩:=pinned hG (i:=3) rfl;refine h _ _ n4 n5 _ _ ⟨E,hG.below,hG.bc,hG.cE,rfl,?_,?_,hG.boxes,hG.apart,hG.kn,hG.gd,hG.bg⟩
 .simp;omega
 .intro s d hs
  match s,hs with
  |0,hs=>
   have hs:some (D.v x)=some d:=hs;cases hs;refine⟨trivial,v,?_,V.cU (ak.le.pure fun _ _ h=>h) hd⟩;rw[jq rfl,Yj (by simp)];simp
  |1,hs=>
   have hs:some (D.ptr 2 0)=some d:=hs;cases hs;refine⟨⟨_,rfl,rfl⟩,.pointer (some ⟨S.bs,0,none⟩),?_,by show _=Value.pointer (some ⟨E.b 2,0,none⟩);rw[p2]⟩;rw[jq rfl,Yj (by simp)];simp
  |2,hs=>
   have hs:some (D.ptr 0 0)=some d:=hs;cases hs;refine⟨⟨_,rfl,rfl⟩,.pointer (some ⟨S.bq,0,none⟩),?_,by show _=Value.pointer (some ⟨E.b 0,0,none⟩);rw[p0]⟩;rw[jq rfl,Yj (by simp)];simp
  |3,hs=>
   have hs:some (D.ptr 3 0)=some d:=hs;cases hs;refine⟨⟨_,rfl,rfl⟩,.pointer (some ⟨S.bv,0,none⟩),?_,by show _=Value.pointer (some ⟨E.b 3,0,none⟩);rw[p3]⟩;rw[jq rfl,Yj (by simp)];simp
  |s+4,hs=>have hs:(none:Option D)=some d:=hs;cases hs
theorem JH{A A2:ak}{w:World}{ql:List ab}{m4 m5 k4 k5:Nat}{cs:List Value}(hq:bW ql=true)(hc:∀k j,A k j->A2 k j)(h4:∀u,A.g 4 m4=some u->A2.g 4 k4=some u)(h5:∀u,A.g 5 m5=some u->A2.g 5 k5=some u)
  (h:a9 A (ql++[ab.own 4 m4,ab.own 5 m5]) cs w):a9 A2 (ql++[ab.own 4 k4,ab.own 5 k5]) cs w:=by
 induction ql generalizing cs with
 |nil=>
  match cs,h with
  |[c,d],h=>
   obtain⟨⟨h1,h2⟩,⟨h3,h4'⟩,_⟩:=h;exact⟨⟨h4 _ h1,h2⟩,⟨h5 _ h3,h4'⟩,trivial⟩
  |[],h=>exact h.elim
  |[c],h=>exact h.2.elim
  |c::d::e::cs,h=>exact h.2.2.elim
 |cons l ql ih=>
  unfold bW at hq;rw[XQ] at hq
  cases cs with
  |nil=>exact h.elim
  |cons c cs=>exact⟨ab.cU (ak.le.pure hc) (ab.ja hq.1 h.1),ih hq.2 h.2⟩
theorem lM{E E2:Env}{i:Nat}{e:HE}{w:World}(hb:E2.b i=E.b i)(hcap:E2.cap i=E.cap i)(hn:E2.nil i=E.nil i)(hA:∀k j,E.A k j->E2.A k j)(hcl:bW e.ls=true)(h:e.ok E i w):e.ok E2 i w:=by
 unfold HE.ok at h ⊢;rw[hb,hcap,hn]
 cases hr:e.row with
 |none=>
  rw[hr] at h;obtain⟨h1,cs,h2,h3⟩:=h;exact⟨h1,cs,h2,(h3.pure hcl).mono (ak.le.pure hA)⟩
 |some sz=>
  rw[hr] at h;cases hn':E.nil i
  .simp only[hn',X8,if_false] at h ⊢;obtain⟨h1,cs,rest,h2,h3,h4⟩:=h;exact⟨h1,cs,rest,h2,h3,(h4.pure hcl).mono (ak.le.pure hA)⟩
  .simp only[hn',if_true] at h ⊢;exact h
theorem Gx{S:VS}{E E2:Env}{m4 m5 k4 k5:Nat}{w:World}(hb:E2.b 2=E.b 2)(hn:E2.nil 2=E.nil 2)(hq:bW S.ql=true)(hA:∀k j,E.A k j->E2.A k j)(h4:∀u,E.A.g 4 m4=some u->E2.A.g 4 k4=some u)(h5:∀u,E.A.g 5 m5=some u->E2.A.g 5 k5=some u)
  (h:(S.e2 m4 m5).ok E 2 w):(S.e2 k4 k5).ok E2 2 w:=by
 obtain⟨h1,cs,h2,h3⟩:=h;exact⟨hn.trans h1,cs,by rw[hb];exact h2,JH hq hA h4 h5 h3⟩
theorem qq{Q:Exit->Act->World->Prop}{w0:aJ}{A0:ak}{N m4 m5:Nat}{S:VS}{fn:Func}{r:ResultVar}{x y:V}{l4 l5 l4' l5':List ab}(hQ:∀a w,K6 P fn w0 A0 S y l4' l5' .ret a w->Q .ret a w)
  (hr:fn.results = #[r]) (h:jN P Γ H r x) (hy:x=y) (H0:H[0]?=some (some S.e0)) (H2:H[2]?=some (some (S.e2 m4 m5))) (H3:H[3]?=some (some S.e3)) (H4:H[4]?=some (some (S.e4 l4 m4))) (H5:H[5]?=some (some (S.e5 l5 m5)))
  (e4:l4=l4') (e5:l5=l5') (hcx:x.cl=true:=by rfl) (hq:bW S.ql=true:=by rfl) (h4:bW l4=true:=by exact El.gK _ _) (h5:bW l5=true:=by exact El.gK _ _):Tc P Q w0 A0 N Γ H .ret:=by
 intro a w hSt;obtain⟨E,hG⟩:=hSt;obtain⟨v,hv,hd⟩:=kE hG h;subst e4 e5 hy
 let A':ak:=⟨E.A.c,fun i m=>if i=4\/i=5 then E.A.g i m else none⟩
 have g4:∀m,A'.g 4 m=E.A.g 4 m:=fun m=>by show(if (4:Nat)=4\/(4:Nat)=5 then E.A.g 4 m else none)=_;exact if_pos (Or.inl rfl)
 have g5:∀m,A'.g 5 m=E.A.g 5 m:=fun m=>by show(if (5:Nat)=4\/(5:Nat)=5 then E.A.g 5 m else none)=_;exact if_pos (Or.inr rfl)
 have back:∀(i:Nat) (e:HE),(S.H l4 l5 m4 m5)[i]?=some (some e)->H[i]?=some (some e)/\e.ok { E with A:=A' } i w:=by
  intro i e he
  match i,he with
  |0,he=>cases he;exact⟨H0,lM (E:=E) (E2:={ E with A:=A' }) rfl rfl rfl (fun _ _ h=>h) hq (hG.boxes 0 _ H0).1⟩
  |1,he=>cases he
  |2,he=>cases he;exact⟨H2,Gx (E:=E) (E2:={ E with A:=A' }) rfl rfl hq (fun _ _ h=>h) (fun u hu=>(g4 _).trans hu) (fun u hu=>(g5 _).trans hu) (hG.boxes 2 _ H2).1⟩
  |3,he=>cases he;exact⟨H3,lM (E:=E) (E2:={ E with A:=A' }) rfl rfl rfl (fun _ _ h=>h) rfl (hG.boxes 3 _ H3).1⟩
  |4,he=>cases he;exact⟨H4,lM (E:=E) (E2:={ E with A:=A' }) rfl rfl rfl (fun _ _ h=>h) h4 (hG.boxes 4 _ H4).1⟩
  |5,he=>cases he;exact⟨H5,lM (E:=E) (E2:={ E with A:=A' }) rfl rfl rfl (fun _ _ h=>h) h5 (hG.boxes 5 _ H5).1⟩
  |i+6,he=>simp at he
 refine wp_ret (hQ a w ⟨hG.defers,v,?_,v,{ E with A:=A' },m4,m5,rfl,V.ja (A:=E.A) hcx hd,⟨hG.below,hG.bc,hG.cE,rfl,rfl,fun s d hs=>by simp[look] at hs,fun i e he=>⟨(back i e he).2,(hG.boxes i e (back i e he).1).2⟩,fun i j e e' hi hj=>hG.apart i j e e' (back i e hi).1 (back j e' hj).1,fun i e m he hm=>?_,fun i m u hu=>?_,hG.bg⟩⟩)
 .rw[kD,hr];simp[hv]
 .obtain⟨q1,q2,q3⟩:=hG.kn i e m (back i e he).1 hm;have hi:i=4\/i=5:=by
   obtain⟨k,hm⟩:=hm
   match i,he with
   |0,he=>cases he;cases hm
   |1,he=>cases he
   |2,he=>cases he;cases hm
   |3,he=>cases he;cases hm
   |4,he=>exact Or.inl rfl
   |5,he=>exact Or.inr rfl
   |i+6,he=>simp at he
  have hg:∀m,A'.g i m=E.A.g i m:=fun m=>by show(if i=4\/i=5 then E.A.g i m else none)=_;exact if_pos hi
  exact⟨(hg m).trans q1,fun m' hm'=>(hg m').trans (q2 m' hm'),q3⟩
 .have hu:(if i=4\/i=5 then E.A.g i m else none)=some u:=hu;by_cases hi:i=4\/i=5
  .rcases hi with rfl|rfl
   .exact⟨_,_,_,rfl,rfl⟩
   .exact⟨_,_,_,rfl,rfl⟩
  .rw[if_neg hi] at hu;cases hu
theorem DR{f n4 n5:Nat}{S:VS}{l4 l5 l4' l5':List ab}{x y:V}{cl:Operand}{args:Array Operand}{tys:Array TypeId}(ho:o.op = .call { callee:=.value cl,args:=args,argTypes:=tys })(hf:aD P f)
  (hcl:ao Γ cl=some (D.val (.func (.func f) #[] S.ps.toArray))) (hxs:gA Γ args.toList=some [x]) (hspec:mi P f S l4 l5 x y l4' l5')
  (H0:H[0]?=some (some S.e0)) (H2:H[2]?=some (some (S.e2 n4 n5))) (H3:H[3]?=some (some S.e3)) (H4:H[4]?=some (some (S.e4 l4 n4))) (H5:H[5]?=some (some (S.e5 l5 n5)))
  (hcx:x.cl=true:=by rfl) (hcy:y.cl=true:=by rfl) (hq:bW S.ql=true:=by rfl) (h4:bW l4=true:=by exact El.gK _ _) (h5:bW l5=true:=by exact El.gK _ _) (h4':bW l4'=true:=by exact El.gK _ _) (h5':bW l5'=true:=by exact El.gK _ _) :
  Je P ops o Γ H (some (D.v y)) (((H.set 2 (some (S.e2 (n4+1) (n5+1)))).set 4 (some (S.e4 l4' (n4+1)))).set 5 (some (S.e5 l5' (n5+1)))):=by
 intro w0 A0 N Γ2 a w Q K hs hN hSt hK;obtain⟨E,hG⟩:=hSt;obtain⟨fn,hfn,hb,hnn⟩:=hf;have hxv:=cT hs hG (x:=cl) (by rw[ho];simp[Op.operands,Call.operands]) hcl;have hargs:=mc (Γ:=Γ) (E:=E) (a:=a) (w:=w) args.toList [x] (fun x hx d hd=>(bY hs hG (x:=x) (by rw[ho];simp[Op.operands,Call.operands];exact .inr (by simpa using hx)) hd).2) hxs;obtain⟨v,hav,hvd⟩:∃v,args.toList.map a.eval=[v]/\x.den E.A v w:=by
  match h:args.toList.map a.eval with
  |[v]=>rw[h] at hargs;exact⟨v,rfl,hargs.1⟩
  |[]=>rw[h] at hargs;exact hargs.elim
  |u::v::vs=>rw[h] at hargs;exact hargs.2.elim
 have hrun1:∀vs:Array Value,a.eval cl = .func (.func f) #[] vs->(execOp a.eval o).run P w = .ok (.enter f (args.map a.eval++vs)) w:=by
  intro vs hxv;have hn':¬fn.name = "runtime.NumGoroutine":=by simpa using hnn
  have hb':¬fn.body=none:=by intro e;rw[e] at hb;simp at hb
  simp[execOp,ho,resolve,Deferred.ofValue,invoke,callFunc,hfn,hn',hb',hxv]
 have hrun:=hrun1 _ hxv;unfold Oper.wp;rw[hrun,Ze];have hI:∀i,I5 i->∃e,H[i]?=some (some e):=by
  rintro i (rfl|rfl|rfl|rfl|rfl)
  .exact⟨_,H0⟩
  .exact⟨_,H2⟩
  .exact⟨_,H3⟩
  .exact⟨_,H4⟩
  .exact⟨_,H5⟩
 obtain⟨q0,p0,r0,s0⟩:=pinned hG H0;obtain⟨q2,p2,r2,s2⟩:=pinned hG H2;obtain⟨q3,p3,r3,s3⟩:=pinned hG H3;obtain⟨g4,r4⟩:=hG.boxes 4 _ H4;obtain⟨g5,r5⟩:=hG.boxes 5 _ H5;have hmineX:∀k,VS.X E k->w0.w.heap.size<=k\/w0.X k:=by
  rintro k ⟨i,rfl|rfl|rfl|rfl|rfl,hn,rfl⟩
  .exact r0
  .exact r2
  .exact r3
  .exact(r4 hn).1
  .exact(r5 hn).1
 have hXlt:∀k,VS.X E k->k<w.heap.size:=by
  rintro k ⟨i,hi,hn,rfl⟩;obtain⟨e,he⟩:=hI i hi;exact HE.eu (hG.boxes i e he).1 hn
 have hXT:∀(j:Nat) (e:HE),¬I5 j->H[j]?=some (some e)->E.nil j=false->¬VS.X E (E.b j):=by
  rintro j e hj he hn ⟨i,hi,hni,hb⟩;obtain⟨e',he'⟩:=hI i hi;exact hG.apart j i e e' he he' hn hni (fun h=>hj (h ▸ hi)) hb
 have hne:∀p∈jn,¬VS.X E p.1:=by
  intro q hq' hX;rcases hmineX _ hX with h|h
  .have:=(hG.below.jU q hq').1;omega
  .exact hG.below.apart q hq' h
 let Ac:ak:=⟨E.A.c,fun i m=>if i=4\/i=5 then E.A.g i m else none⟩
 have c4:∀m,Ac.g 4 m=E.A.g 4 m:=fun m=>by show(if (4:Nat)=4\/(4:Nat)=5 then E.A.g 4 m else none)=_;exact if_pos (Or.inl rfl)
 have c5:∀m,Ac.g 5 m=E.A.g 5 m:=fun m=>by show(if (5:Nat)=4\/(5:Nat)=5 then E.A.g 5 m else none)=_;exact if_pos (Or.inr rfl)
 let Ec:Env:=⟨E.b,E.cap,E.nil,Ac⟩
 have back:∀(i:Nat) (e:HE),(S.H l4 l5 n4 n5)[i]?=some (some e)->I5 i/\H[i]?=some (some e)/\e.ok Ec i w/\e.fz=0/\(E.nil i=false->aJ.oo (VS.F E w) e.cP (E.b i)):=by
  intro i e he
  match i,he with
  |0,he=>cases he;exact⟨Or.inl rfl,H0,lM (E:=E) (E2:=Ec) rfl rfl rfl (fun _ _ h=>h) hq (hG.boxes 0 _ H0).1,rfl,fun hn=>⟨p0,.inr ⟨0,Or.inl rfl,q0,p0.symm⟩⟩⟩
  |1,he=>cases he
  |2,he=>cases he;exact⟨.inr (.inl rfl),H2,Gx (E:=E) (E2:=Ec) rfl rfl hq (fun _ _ h=>h) (fun u hu=>(c4 _).trans hu) (fun u hu=>(c5 _).trans hu) (hG.boxes 2 _ H2).1,rfl,fun hn=>⟨p2,.inr ⟨2,.inr (.inl rfl),q2,p2.symm⟩⟩⟩
  |3,he=>cases he;exact⟨.inr (.inr (.inl rfl)),H3,lM (E:=E) (E2:=Ec) rfl rfl rfl (fun _ _ h=>h) rfl (hG.boxes 3 _ H3).1,rfl,fun hn=>⟨p3,.inr ⟨3,.inr (.inr (.inl rfl)),q3,p3.symm⟩⟩⟩
  |4,he=>cases he;exact⟨.inr (.inr (.inr (.inl rfl))),H4,lM (E:=E) (E2:=Ec) rfl rfl rfl (fun _ _ h=>h) h4 g4,rfl,fun hn=>.inr ⟨4,.inr (.inr (.inr (.inl rfl))),hn,rfl⟩⟩
  |5,he=>cases he;exact⟨.inr (.inr (.inr (.inr rfl))),H5,lM (E:=E) (E2:=Ec) rfl rfl rfl (fun _ _ h=>h) h5 g5,rfl,fun hn=>.inr ⟨5,.inr (.inr (.inr (.inr rfl))),hn,rfl⟩⟩
  |i+6,he=>simp at he
 have rows:∀{l l':List ab} {a b:Nat} (i:Nat) (e:HE) (m:Nat),(S.H l l' a b)[i]?=some (some e)->(∃k,e.cP=some (.inr (k,some m)))->i=4\/i=5:=by
  intro l l' a b i e m he hm;obtain⟨k,hm⟩:=hm
  match i,he with
  |0,he=>cases he;cases hm
  |1,he=>cases he
  |2,he=>cases he;cases hm
  |3,he=>cases he;cases hm
  |4,he=>exact Or.inl rfl
  |5,he=>exact Or.inr rfl
  |i+6,he=>simp at he
 have hGc:Good (VS.F Ec w) (ak.of Ec.A.c) 0 [] (S.H l4 l5 n4 n5) Ec ⟨#[],[]⟩ w:=by
  refine⟨aJ.cW.refl (VS.F E w) hG.below.now hne,hG.bc,fun k j hk=>.inl hk,rfl,rfl,fun s d hs=>by simp[look] at hs,fun i e he=>?_,fun i j e e' hi hj=>hG.apart i j e e' (back i e hi).2.1 (back j e' hj).2.1,fun i e m he hm=>?_,fun i m u hu=>?_,fun k j hk=>⟨hk,rfl⟩⟩
  .obtain⟨_,b1,b2,b3,b4⟩:=back i e he;exact⟨b2,fun hn=>⟨b4 hn,((hG.boxes i e b1).2 hn).2⟩⟩
  .obtain⟨_,b1,_⟩:=back i e he;have hi:=rows i e m he hm;obtain⟨k1,k2,k3⟩:=hG.kn i e m b1 hm;have hg:∀m,Ac.g i m=E.A.g i m:=fun m=>by show(if i=4\/i=5 then E.A.g i m else none)=_;exact if_pos hi
   exact⟨(hg m).trans k1,fun m' hm'=>(hg m').trans (k2 m' hm'),k3⟩
  .have hu:(if i=4\/i=5 then E.A.g i m else none)=some u:=hu;by_cases hi:i=4\/i=5
   .rcases hi with rfl|rfl
    .exact⟨_,_,_,rfl,rfl⟩
    .exact⟨_,_,_,rfl,rfl⟩
   .rw[if_neg hi] at hu;cases hu
 have hcall:=hspec n4 n5 Ec v w hGc (V.ja (A:=E.A) hcx hvd);rw[show(v::S.ps).toArray=args.map a.eval++S.ps.toArray from by
  apply YC.1;simp only[Array.toList_append,zau,hav];rfl] at hcall
 refine Zg hcall ?_;rintro e' w' ⟨u,E',m4,m5,rfl,hy,hG'⟩;obtain⟨t0,d0,_,u0⟩:=pinned hG' (i:=0) rfl;obtain⟨t2,d2,_,u2⟩:=pinned hG' (i:=2) rfl;obtain⟨t3,d3,_,u3⟩:=pinned hG' (i:=3) rfl;obtain⟨k41,k42,_⟩:=hG'.kn 4 _ m4 rfl ⟨_,rfl⟩;obtain⟨k51,k52,_⟩:=hG'.kn 5 _ m5 rfl ⟨_,rfl⟩;obtain⟨k43,k44,_⟩:=hG.kn 4 _ n4 H4 ⟨_,rfl⟩;obtain⟨k53,k54,_⟩:=hG.kn 5 _ n5 H5 ⟨_,rfl⟩;have hkA:kept E.A w w':=fun k j hA=>(hG'.bg k j hA).2;have hleA:∀k j,E.A k j->E'.A k j:=fun k j hA=>(hG'.bg k j hA).1;have hsz:=hG'.below.size;have hsz:w.heap.size<=w'.heap.size:=hsz;have hblk:∀k,k<w.heap.size->¬VS.X E k->w'.heap[k]?=w.heap[k]?:=fun k h1 h2=>hG'.below.block k h1 h2;have hf0:∀k j,E'.A k j->E.A k j\/w.heap.size<=k\/VS.X E k:=fun k j h=>hG'.cE k j h
 let A2:ak:=⟨E'.A.c,fun i m=>if i=4 then(if m<=n4 then E.A.g 4 m else if m=n4+1 then some (HE.name E' 4 (S.e4 l4' m4)) else none) else if i=5 then(if m<=n5 then E.A.g 5 m else if m=n5+1 then some (HE.name E' 5 (S.e5 l5' m5)) else none) else E.A.g i m⟩
 let E2:Env:=⟨fun i=>if i=4\/i=5 then E'.b i else E.b i,fun i=>if i=4\/i=5 then E'.cap i else E.cap i,fun i=>if i=4\/i=5 then E'.nil i else E.nil i,A2⟩
 have z4:∀m,A2.g 4 m=if m<=n4 then E.A.g 4 m else if m=n4+1 then some (HE.name E' 4 (S.e4 l4' m4)) else none:=fun m=>by simp[A2]
 have z5:∀m,A2.g 5 m=if m<=n5 then E.A.g 5 m else if m=n5+1 then some (HE.name E' 5 (S.e5 l5' m5)) else none:=fun m=>by simp[A2]
 have zo:∀i m,i≠4->i≠5->A2.g i m=E.A.g i m:=fun i m h1 h2=>by simp[A2,h1,h2]
 have z4n:A2.g 4 (n4+1)=some (HE.name E' 4 (S.e4 l4' m4)):=by rw[z4,if_neg (by omega),if_pos rfl]
 have z5n:A2.g 5 (n5+1)=some (HE.name E' 5 (S.e5 l5' m5)):=by rw[z5,if_neg (by omega),if_pos rfl]
 have hle:ak.le E.A A2:=⟨hleA,fun r n u hu=>by
  by_cases h4:r=4
  .subst h4;have:n<=n4:=Za fun h=>by rw[k44 n h] at hu;cases hu
   rw[z4,if_pos this];exact hu
  .by_cases h5:r=5
   .subst h5;have:n<=n5:=Za fun h=>by rw[k54 n h] at hu;cases hu
    rw[z5,if_pos this];exact hu
   .rw[zo r n h4 h5];exact hu⟩
 have nb:∀i,I5 i->E2.b i=E'.b i/\E2.cap i=(if i=4\/i=5 then E'.cap i else E.cap i)/\E2.nil i=E'.nil i:=by
  rintro i (rfl|rfl|rfl|rfl|rfl)
  .exact⟨p0.trans d0.symm,rfl,q0.trans t0.symm⟩
  .exact⟨p2.trans d2.symm,rfl,q2.trans t2.symm⟩
  .exact⟨p3.trans d3.symm,rfl,q3.trans t3.symm⟩
  .exact⟨rfl,rfl,rfl⟩
  .exact⟨rfl,rfl,rfl⟩
 have nt:∀i,¬I5 i->E2.b i=E.b i/\E2.cap i=E.cap i/\E2.nil i=E.nil i:=by
  intro i hi;have h1:¬(i=4\/i=5):=fun h=>hi (h.elim (fun h=>.inr (.inr (.inr (.inl h)))) (fun h=>.inr (.inr (.inr (.inr h)))));exact⟨if_neg h1,if_neg h1,if_neg h1⟩
 have len2:2<H.length:=(XN.1 H2).1;have len4:4<H.length:=(XN.1 H4).1;have len5:5<H.length:=(XN.1 H5).1;have ent:∀(i:Nat) (e:HE),(((H.set 2 (some (S.e2 (n4+1) (n5+1)))).set 4 (some (S.e4 l4' (n4+1)))).set 5 (some (S.e5 l5' (n5+1))))[i]?=some (some e) →
   (I5 i/\(S.H l4' l5' (n4+1) (n5+1))[i]?=some (some e))\/(¬I5 i/\H[i]?=some (some e)):=by
  intro i e he;rw[zam] at he;by_cases h5:5=i
  .subst h5;rw[if_pos rfl,if_pos (by simpa using len5)] at he;exact .inl ⟨.inr (.inr (.inr (.inr rfl))),he⟩
  .rw[if_neg h5,zam] at he;by_cases h4:4=i
   .subst h4;rw[if_pos rfl,if_pos (by simpa using len4)] at he;exact .inl ⟨.inr (.inr (.inr (.inl rfl))),he⟩
   .rw[if_neg h4,zam] at he;by_cases h2:2=i
    .subst h2;rw[if_pos rfl,if_pos len2] at he;exact .inl ⟨.inr (.inl rfl),he⟩
    .rw[if_neg h2] at he;by_cases h0:i=0
     .subst h0;rw[H0] at he;exact .inl ⟨.inl rfl,he⟩
     .by_cases h3:i=3
      .subst h3;rw[H3] at he;exact .inl ⟨.inr (.inr (.inl rfl)),he⟩
      .exact .inr ⟨by rintro(h|h|h|h|h) <;> omega,he⟩
 have pair:∀(i:Nat) (e:HE),(S.H l4' l5' (n4+1) (n5+1))[i]?=some (some e)->∃e1,(S.H l4' l5' m4 m5)[i]?=some (some e1)/\e.ok E2 i w'/\e1.fz=e.fz/\(E'.nil i=false->w0.oo e.cP (E'.b i)):=by
  intro i e he;have hm:∀b,w.heap.size<=b\/VS.X E b->w0.w.heap.size<=b\/w0.X b:=fun b h=>by
   rcases h with h|h
   .exact .inl (XY hG.below.size h)
   .exact hmineX b h
  match i,he with
  |0,he=>
   cases he;refine⟨_,rfl,?_,rfl,fun hn=>⟨d0,?_⟩⟩
   .obtain⟨h1,cs,h2,h3⟩:=(hG'.boxes 0 _ rfl).1;exact⟨q0,cs,by rw[(nb 0 (.inl rfl)).1];exact h2,(h3.pure hq).mono (ak.le.pure fun _ _ h=>h)⟩
   .rw[<-p0];exact r0
  |1,he=>cases he
  |2,he=>
   cases he;refine⟨_,rfl,?_,rfl,fun hn=>⟨d2,?_⟩⟩
   .obtain⟨h1,cs,h2,h3⟩:=(hG'.boxes 2 _ rfl).1;exact⟨q2,cs,by rw[(nb 2 (.inr (.inl rfl))).1];exact h2,JH (A:=E'.A) (A2:=A2) (m4:=m4) (m5:=m5) hq (fun _ _ h=>h) (fun u hu=>by rw[k41] at hu;cases hu;exact z4n) (fun u hu=>by rw[k51] at hu;cases hu;exact z5n) h3⟩
   .rw[<-p2];exact r2
  |3,he=>
   cases he;refine⟨_,rfl,?_,rfl,fun hn=>⟨d3,?_⟩⟩
   .obtain⟨h1,cs,h2,h3⟩:=(hG'.boxes 3 _ rfl).1;exact⟨q3,cs,by rw[(nb 3 (.inr (.inr (.inl rfl)))).1];exact h2,(h3.pure rfl).mono (ak.le.pure fun _ _ h=>h)⟩
   .rw[<-p3];exact r3
  |4,he=>
   cases he;exact⟨_,rfl,lM (E:=E') (E2:=E2) rfl rfl rfl (fun _ _ h=>h) h4' (hG'.boxes 4 _ rfl).1,rfl,fun hn=>hm _ ((hG'.boxes 4 _ rfl).2 hn).1⟩
  |5,he=>
   cases he;exact⟨_,rfl,lM (E:=E') (E2:=E2) rfl rfl rfl (fun _ _ h=>h) h5' (hG'.boxes 5 _ rfl).1,rfl,fun hn=>hm _ ((hG'.boxes 5 _ rfl).2 hn).1⟩
  |i+6,he=>simp at he
 have newX:∀(i:Nat) (e:HE),(S.H l4' l5' m4 m5)[i]?=some (some e)->E'.nil i=false->w.heap.size<=E'.b i\/VS.X E (E'.b i):=by
  intro i e he hn
  match i,he with
  |0,he=>cases he;exact .inr ⟨0,.inl rfl,q0,d0.trans p0.symm⟩
  |1,he=>cases he
  |2,he=>cases he;exact .inr ⟨2,.inr (.inl rfl),q2,d2.trans p2.symm⟩
  |3,he=>cases he;exact .inr ⟨3,.inr (.inr (.inl rfl)),q3,d3.trans p3.symm⟩
  |4,he=>cases he;exact((hG'.boxes 4 _ rfl).2 hn).1
  |5,he=>cases he;exact((hG'.boxes 5 _ rfl).2 hn).1
  |i+6,he=>simp at he
 have apT:∀(i j:Nat) (e e':HE),(S.H l4' l5' m4 m5)[i]?=some (some e)->E'.nil i=false->¬I5 j->H[j]?=some (some e')->E.nil j=false->E'.b i≠E.b j:=by
  intro i j e e' he hn hj he' hn' hb;rcases newX i e he hn with h|h
  .have:=HE.eu (hG.boxes j e' he').1 hn';omega
  .rw[hb] at h;exact hXT j e' hj he' hn' h
 have hGn:Good w0 A0 N Γ2 (((H.set 2 (some (S.e2 (n4+1) (n5+1)))).set 4 (some (S.e4 l4' (n4+1)))).set 5 (some (S.e5 l5' (n5+1)))) E2 a w':=by
  refine⟨?_,hG'.bc,?_,hG.defers,hG.size,?_,?_,?_,?_,?_,hG.bg.bI hleA hkA⟩
  .refine⟨hG'.below.os.trans hG.below.os,hG'.below.tape.trans hG.below.tape,hG'.below.output.trans hG.below.output,XY hG.below.size hsz,fun k h1 h2=>?_,fun k cs t m h1 h2=>?_,hG.below.jU,hG.below.apart⟩
   .rw[hblk k (XZ h1 hG.below.size) (fun hX=>by
     rcases hmineX k hX with h|h
     .omega
     .exact h2 h)]
    exact hG.below.block k h1 h2
   .obtain⟨cs2,k1,k2⟩:=hG.below.kb k cs t m h1 h2;by_cases hX:VS.X E k
    .obtain⟨cs3,k3,k4⟩:=hG'.below.kb k cs2 t m hX k1;exact⟨cs3,k3,k4.trans k2⟩
    .exact⟨cs2,by rw[hblk k (X4.1 k1).1 hX];exact k1,k2⟩
  .intro k j hk;rcases hf0 k j hk with h|h|h
   .exact hG.cE k j h
   .exact .inr (.inl (XY hG.below.size h))
   .exact .inr (hmineX k h)
  .intro s d hs';obtain⟨hok,v',hv',hd'⟩:=hG.cr s d hs';have cY:∀i,d.nm=some i->i≠4/\i≠5:=by
    intro i hi;obtain⟨e,he,hve⟩:=D.uj.1 hok i hi;constructor
    .rintro rfl;rw[H4] at he;cases he;simp[HE.cY] at hve
    .rintro rfl;rw[H5] at he;cases he;simp[HE.cY] at hve
   refine⟨?_,v',hv',?_⟩
   .refine D.kK hok fun i e hi he hve=>?_;obtain⟨h4i,h5i⟩:=cY i hi;by_cases h2i:2=i
    .subst h2i;exact⟨_,by rw[X0 (by omega),X0 (by omega),X7 len2],rfl⟩
    .exact⟨e,by rw[X0 (fun h=>h5i h.symm),X0 (fun h=>h4i h.symm),X0 h2i];exact he,hve⟩
   .have hd'':=D.fK hkA hd';rcases d with x'|xs'|⟨i,off⟩|⟨i,q⟩
    .exact V.cU hle hd''
    .obtain⟨vs,rfl,hvs⟩:=hd'';exact⟨vs,rfl,hvs.mono hle⟩
    .obtain⟨h4i,h5i⟩:=cY i rfl;have h1:¬(i=4\/i=5):=fun h=>h.elim h4i h5i;simp only[D.den,E2,if_neg h1] at hd'' ⊢;exact hd''
    .obtain⟨h4i,h5i⟩:=cY i rfl;have h1:¬(i=4\/i=5):=fun h=>h.elim h4i h5i;simp only[D.den,E2,if_neg h1] at hd'' ⊢;exact hd''
  .intro i e he;rcases ent i e he with⟨hi,he1⟩|⟨hi,he1⟩
   .obtain⟨e1,h1,h2,h3,h4m⟩:=pair i e he1;obtain⟨b1,_,b3⟩:=nb i hi;refine⟨h2,fun hn=>?_⟩;rw[b3] at hn;rw[b1];exact⟨h4m hn,fun j hj hA=>((hG'.boxes i e1 h1).2 hn).2 j (by rw[h3];exact hj) hA⟩
   .obtain⟨g1,g2⟩:=hG.boxes i e he1;obtain⟨b1,b2,b3⟩:=nt i hi;refine⟨?_,fun hn=>?_⟩
    .have g3:=HE.jt hle (HE.kL hkA (fun hn=>hblk _ (HE.eu g1 hn) (hXT i e hi he1 hn)) g1);unfold HE.ok at g3 ⊢;rw[b1,b2,b3];exact g3
    .rw[b3] at hn;rw[b1];refine⟨(g2 hn).1,fun j hj hA=>?_⟩;rcases hf0 _ j hA with h|h|h
     .exact(g2 hn).2 j hj h
     .have:=HE.eu g1 hn;omega
     .exact hXT i e hi he1 hn h
  .intro i j e e' he he' hn hn' hij;rcases ent i e he with⟨hi,h1⟩|⟨hi,h1⟩ <;> rcases ent j e' he' with⟨hj,h2⟩|⟨hj,h2⟩
   .obtain⟨e1,k1,_⟩:=pair i e h1;obtain⟨e2,k2,_⟩:=pair j e' h2;rw[(nb i hi).2.2] at hn;rw[(nb j hj).2.2] at hn';rw[(nb i hi).1,(nb j hj).1];exact hG'.apart i j e1 e2 k1 k2 hn hn' hij
   .obtain⟨e1,k1,_⟩:=pair i e h1;rw[(nb i hi).2.2] at hn;rw[(nt j hj).2.2] at hn';rw[(nb i hi).1,(nt j hj).1];exact apT i j e1 e' k1 hn hj h2 hn'
   .obtain⟨e2,k2,_⟩:=pair j e' h2;rw[(nt i hi).2.2] at hn;rw[(nb j hj).2.2] at hn';rw[(nt i hi).1,(nb j hj).1];exact fun h=>apT j i e2 e k2 hn' hi h1 hn h.symm
   .rw[(nt i hi).2.2] at hn;rw[(nt j hj).2.2] at hn';rw[(nt i hi).1,(nt j hj).1];exact hG.apart i j e e' h1 h2 hn hn' hij
  .intro i e m he hm;rcases ent i e he with⟨hi,h1⟩|⟨hi,h1⟩
   .rcases rows i e m h1 hm with rfl|rfl
    .cases h1;obtain⟨k,hm⟩:=hm;simp only[XL,ZG,XO] at hm;obtain⟨_,rfl⟩:=hm;refine⟨z4n,fun m' hm'=>?_,fun hn j hj=>absurd hj (Nat.not_lt_zero j)⟩;show A2.g 4 m'=none;rw[z4,if_neg (by omega),if_neg (by omega)]
    .cases h1;obtain⟨k,hm⟩:=hm;simp only[XL,ZG,XO] at hm;obtain⟨_,rfl⟩:=hm;refine⟨z5n,fun m' hm'=>?_,fun hn j hj=>absurd hj (Nat.not_lt_zero j)⟩;show A2.g 5 m'=none;rw[z5,if_neg (by omega),if_neg (by omega)]
   .obtain⟨k1,k2,k3⟩:=hG.kn i e m h1 hm;obtain⟨b1,b2,b3⟩:=nt i hi;have i4:i≠4:=fun h=>hi (h ▸ .inr (.inr (.inr (.inl rfl))));have i5:i≠5:=fun h=>hi (h ▸ .inr (.inr (.inr (.inr rfl))));refine⟨?_,fun m' hm'=>(zo i m' i4 i5).trans (k2 m' hm'),fun hn j hj=>?_⟩
    .show A2.g i m=_;rw[zo i m i4 i5,k1];unfold HE.name;rw[b1,b2,b3]
    .rw[b3] at hn;rw[b1];exact hleA _ _ (k3 hn j hj)
  .intro i m u' hu;by_cases h4i:i=4
   .subst h4i;exact⟨_,_,_,by rw[X0 (by omega),X7 (by simpa using len4)],rfl⟩
   .by_cases h5i:i=5
    .subst h5i;exact⟨_,_,_,by rw[X7 (by simpa using len5)],rfl⟩
    .rw[show E2.A.g i m=E.A.g i m from zo i m h4i h5i] at hu;obtain⟨e1,k,n,q1,q2'⟩:=hG.gd i m u' hu;have i2:2≠i:=by
      rintro rfl;rw[H2] at q1;cases q1;cases q2'
     exact⟨e1,k,n,by rw[X0 (fun h=>h5i h.symm),X0 (fun h=>h4i h.symm),X0 i2];exact q1,q2'⟩
 exact hK _ _ ⟨E2,hGn.put (fun d hd=>by cases hd;exact⟨trivial,V.cU (ak.le.pure fun _ _ h=>h) hy⟩) hN⟩
end
def Gs(p:Nat)(ops:Array Oper):Bool:=
 (List.range ops.size).all fun k=>Nat.beq k p||(!lZ ops k&&(bif Nat.blt k p then before ops p k else before ops k p))
def nO(P:Program)(ops:Array Oper):List Oper->aA->Hp->(aA->Hp->Prop)->Prop
 |[],Γ,H,K=>K Γ H
 |o::os,Γ,H,K=>∃d H1,(cu o=false->H1=H)/\JO P ops [] o Γ H d H1/\nO P ops os (ct Γ o.dst d) H1 K
section
variable {P:Program}{ops:Array Oper}{N:Nat}
theorem nO.fns{l:List Oper}{Γ:aA}{H:Hp}{K:aA->Hp->Prop}(h:nO P ops l Γ H K) :
  ∃(gg:Nat->aA) (hh:Nat->Hp),gg 0=Γ/\hh 0=H/\K (gg l.length) (hh l.length) ∧
   ∀i o,l[i]?=some o->∃d,gg (i+1)=ct (gg i) o.dst d/\(cu o=false->hh (i+1)=hh i)/\JO P ops [] o (gg i) (hh i) d (hh (i+1)):=by
 induction l generalizing Γ H with
 |nil=>exact⟨fun _=>Γ,fun _=>H,rfl,rfl,h,fun i o h=>by simp at h⟩
 |cons o os ih=>
  obtain⟨d,H1,hq,hJ,hr⟩:=h;obtain⟨gg,hh,h1,h2,h3,h4⟩:=ih hr;refine⟨fun n=>match n with|0=>Γ|n+1=>gg n,fun n=>match n with|0=>H|n+1=>hh n,rfl,rfl,h3,?_⟩;intro i o' ho
  cases i with
  |zero=>
   simp at ho;subst ho;simp only[h1,h2];exact⟨d,rfl,hq,hJ⟩
  |succ i=>exact h4 i o' (by simpa using ho)
theorem K5{Q:Exit->Act->World->Prop}{w0:aJ}{A0:ak}{Γ:aA}{H:Hp}{id:Nat}{l:List Oper}(p:Nat)(hm:P.follows .mixedOrders=true)
  (hok:rp N l.toArray [] []=true) (hp1:Gs p l.toArray=true) (hpl:p<l.length) (hd:nO P l.toArray l Γ H fun Γ' H'=>At Q w0 A0 N Γ' H' .normal) :
  Tc P Q w0 A0 N Γ H (.region id l.toArray true):=by
 intro a w hSt;have hf:=zz.of hok;obtain⟨gg,hh,bR,hh0,hK,hstep⟩:=hd.fns;generalize hgn:gg l.length=Γ' at hK;generalize hops:l.toArray=ops at *;have hsz:ops.size=l.length:=by rw[<-hops];simp
 have hpl:p<ops.size:=by omega
 have hat:∀i:Nat,l[i]?=ops[i]?:=by intro i;rw[<-hops];simp
 have effo:∀(i:Nat) (o:Oper),l[i]?=some o->lZ ops i=cu o:=by
  intro i o ho;unfold lZ;rw[<-hat,ho];rfl
 have one:∀k,k<ops.size->k≠p->lZ ops k=false/\(k<p->before ops p k=true)/\(p<k->before ops k p=true):=by
  intro k hk hne;unfold Gs at hp1;have h:=Yz.1 hp1 k (Y9.2 hk);simp only[YO,ZU,XQ,Zi] at h;rcases h with h|⟨h1,h2⟩
  .exact absurd h hne
  .refine⟨h1,fun hlt=>?_,fun hlt=>?_⟩
   .rw[show Nat.blt k p=true from by simpa using hlt] at h2;simpa using h2
   .rw[show Nat.blt k p=false from by
     cases hb:Nat.blt k p
     .rfl
     .have:k<p:=by simpa using hb
      omega] at h2
    simpa using h2
 have quiet:∀n,n<l.length->n≠p->hh (n+1)=hh n:=by
  intro n hn hne;obtain⟨d,_,hq,_⟩:=hstep n l[n] (XM hn);exact hq (by rw[<-effo n _ (XM hn)];exact(one n (by omega) hne).1)
 have h_lo:∀n,n<=p->n<=l.length->hh n=H:=by
  intro n
  induction n with
  |zero=>intro _ _;exact hh0
  |succ n ih=>intro h1 h2;rw[quiet n (by omega) (by omega)];exact ih (by omega) (by omega)
 have h_hi:∀k n,p<n->n+k=l.length->hh n=hh l.length:=by
  intro k
  induction k with
  |zero=>intro n _ h;rw[show n=l.length from by omega]
  |succ k ih=>intro n h1 h2;rw[<-quiet n (by omega) (by omega)];exact ih (n+1) (by omega) (by omega)
 have g_up:∀(s i n:Nat),i<=n->n<=l.length->(∀j,i<=j->j<n->dw ops j≠some s)->look (gg n) s=look (gg i) s:=by
  intro s i n hin hn hno
  induction n with
  |zero=>
       have:i=0:=by omega
       subst this;rfl
  |succ n ih=>
   by_cases hi:i=n+1
   .subst hi;rfl
   .have hlt:n<l.length:=by omega
    obtain⟨d,hgs,_,_⟩:=hstep n l[n] (XM hlt);rw[hgs,<-ih (by omega) (by omega) (fun j h1 h2=>hno j h1 (by omega))];have hne:=hno n (by omega) (by omega);have hdst:dw ops n=l[n].dst:=by
     unfold dw;rw[<-hat,XM hlt];rfl
    rw[hdst] at hne
    cases hd':l[n].dst with
    |none=>rfl
    |some t=>rw[hd'] at hne;exact gH (fun e=>hne (by rw[e])) _ _
 let HC:=fun(listed:Array Bool)=>if listed.getD p true=true then hh l.length else H
 have main:∀(fuel:Nat) (listed:Array Bool) (U:List Nat) (a:Act) (w:World) (Hc:Hp) (Γc:aA),
   listed.size=ops.size->U.Nodup->U.length<=fuel->(∀i,i<ops.size->(listed.getD i true=false↔i∈U)) →
   (∀i j,i<ops.size->listed.getD i true=true->dep ops i j=true->listed.getD j true=true) →
   (p<ops.size->Hc=HC listed) →
   (∀s j,dw ops j=some s->j<ops.size->listed.getD j true=true->look Γc s=look Γ' s) →
   (∀s,(∀j,j<ops.size->listed.getD j true=true->dw ops j≠some s)->look Γc s=look Γ s) →
   St w0 A0 N Γc Hc a w->wpAny P .any ops Q fuel listed a w:=by
  intro fuel;have fin:∀(listed:Array Bool) (a:Act) (w:World) (Hc:Hp) (Γc:aA),(∀i,i<ops.size->listed.getD i true=true)->(p<ops.size->Hc=HC listed) →
    (∀s j,dw ops j=some s->j<ops.size->listed.getD j true=true->look Γc s=look Γ' s) →
    (∀s,(∀j,j<ops.size->listed.getD j true=true->dw ops j≠some s)->look Γc s=look Γ s) →
    St w0 A0 N Γc Hc a w->Q .normal a w:=by
   intro listed a w Hc Γc hall hH hs1 hs2 hst;have e1:Hc=hh l.length:=by
    rw[hH hpl];show(if listed.getD p true=true then hh l.length else H)=_;rw[if_pos (hall p hpl)]
   rw[e1] at hst;refine hK a w (hst.weaken ?_);intro s d hs;by_cases hw:∃j,j<ops.size/\dw ops j=some s
   .obtain⟨j,hj,hjs⟩:=hw;rw[hs1 s j hjs hj (hall j hj)];exact hs
   .have hno:∀j,j<ops.size->dw ops j≠some s:=fun j hj hjs=>hw ⟨j,hj,hjs⟩;rw[hs2 s (fun j hj _=>hno j hj),<-bR];rw[<-g_up s 0 l.length (XS _) (XP _) (fun j _ h2=>hno j (by omega)),hgn];exact hs
  induction fuel with
  |zero=>
   intro listed U a w Hc Γc hsize hnd hU hUi hcl hH hs1 hs2 hst;have hU0:U=[]:=ZB.1 (by omega);have hall:∀i,i<ops.size->listed.getD i true=true:=by
    intro i hi;cases hb:listed.getD i true
    .have:=(hUi i hi).1 hb;rw[hU0] at this;simp at this
    .rfl
   refine⟨?_,fin listed a w Hc Γc hall hH hs1 hs2 hst⟩;rw[zaZ];intro i hi;have:=rr.1 hi;rw[hall i this.1] at this;simp at this
  |succ fuel ih=>
   intro listed U a w Hc Γc hsize hnd hU hUi hcl hH hs1 hs2 hst;have gdd:∀j b,j<ops.size->listed.getD j b=listed.getD j true:=by
    intro j b hj;have:j<listed.size:=by omega
    simp[this]
   refine⟨fun hnil=>?_,fun i hi=>?_⟩
   .refine fin listed a w Hc Γc ?_ hH hs1 hs2 hst;intro i
    induction i using Nat.strongRecOn with
    |_ i ihi=>
     intro hi;cases hb:listed.getD i true
     .exfalso;have:i∈Region.ready .any ops listed:=rr.2 ⟨hi,hb,fun j hj=>by
       have hlt:=hf.back i j hj;rw[gdd j false (by omega)];exact ihi j hlt (by omega)⟩
      rw[hnil] at this;simp at this
     .rfl
   .obtain⟨hin,hun,hdeps⟩:=rr.1 hi;have hdeps':∀j,dep ops i j=true->listed.getD j true=true:=fun j hj=>by
     have:=hdeps j hj
     rwa [gdd j false (YR (hf.back i j hj) hin)] at this
    have hil:i<l.length:=by omega
    have hoi:ops[i]?=some ops[i]:=Yd hin;have hli:l[i]?=some ops[i]:=by rw[hat];exact hoi
    have heff:=effo i _ hli;obtain⟨d,hgs,hqq,hJ⟩:=hstep i ops[i] hli;have hS:∀i' j,(i'<ops.size/\listed.getD i' true=true)->dep ops i' j=true->(j<ops.size/\listed.getD j true=true):=
     fun i' j h1 h2=>⟨YR (hf.back i' j h2) h1.1,hcl i' j h1.1 h1.2 h2⟩
    have hlp:(i<=p->listed.getD p true=false)/\(p<i->listed.getD p true=true):=by
     refine⟨fun h=>?_,fun h=>?_⟩
     .by_cases e:i=p
      .rw[<-e];exact hun
      .cases hb:listed.getD p true
       .rfl
       .have:=(zj (S:=fun y=>y<ops.size/\listed.getD y true=true) hS ((one i hin e).2.1 (by omega)) (fun y hy=>hS p y ⟨hpl,hb⟩ hy)).2;rw[hun] at this;simp at this
     .exact(zj (S:=fun y=>y<ops.size/\listed.getD y true=true) hS ((one i hin (by omega)).2.2 h) (fun y hy=>⟨YR (hf.back i y hy) hin,hdeps' y hy⟩)).2
    have hHi:Hc=hh i:=by
     rw[hH hpl];show(if listed.getD p true=true then hh l.length else H)=_;by_cases h:p<i
     .rw[if_pos (hlp.2 h)];exact(h_hi (l.length-i) i h (by omega)).symm
     .rw[if_neg (by rw[hlp.1 (by omega)];simp)];exact(h_lo i (by omega) (by omega)).symm
    subst hHi;have hslots:∀s∈(ops[i]).looksAt ops,look Γc s=look (gg i) s:=by
     intro s hs;by_cases hw:∃j,j<ops.size/\dw ops j=some s
     .obtain⟨j,hj,hjs⟩:=hw;rcases hf.looks i ops[i] s j hoi hs hjs with⟨hlt,hdp⟩|⟨hlt,hdp⟩
      .rw[hs1 s j hjs hj (hdeps' j hdp),<-hgn];refine g_up s i l.length (by omega) (XP _) (fun k h1 h2 hk=>?_);have:=hf.distinct k j s hk hjs;omega
      .have hunj:listed.getD j true=false:=by
        cases hb:listed.getD j true
        .rfl
        .have:=hcl j i hj hb hdp;rw[hun] at this;simp at this
       rw[hs2 s (fun k hk hkl hks=>by
        have:=hf.distinct k j s hks hjs;subst this;rw[hunj] at hkl;simp at hkl),<-bR]
       refine(g_up s 0 i (XS _) (by omega) (fun k _ h2 hk=>?_)).symm;have:=hf.distinct k j s hk hjs;omega
     .have hno:∀j,j<ops.size->dw ops j≠some s:=fun j hj hjs=>hw ⟨j,hj,hjs⟩;rw[hs2 s (fun j hj _=>hno j hj),<-bR];exact(g_up s 0 i (XS _) (by omega) (fun j _ h2=>hno j (by omega))).symm
    have hdst:=hf.dst i ops[i] hoi;have after:∀(a':Act) (w':World),St w0 A0 N (ct Γc ops[i].dst d) (hh (i+1)) a' w'->wpAny P .any ops Q fuel (listed.setIfInBounds i true) a' w':=by
     intro a' w' hst';have hH':p<ops.size->hh (i+1)=HC (listed.setIfInBounds i true):=by
      intro _;show _=(if (listed.setIfInBounds i true).getD p true=true then hh l.length else H);rw[x4 listed i p true (by omega)];by_cases e:p=i
      .rw[if_pos e,if_pos rfl];exact h_hi (l.length-(i+1)) (i+1) (by omega) (by omega)
      .rw[if_neg e];by_cases h:p<i
       .rw[if_pos (hlp.2 h)];exact h_hi (l.length-(i+1)) (i+1) (by omega) (by omega)
       .rw[if_neg (by rw[hlp.1 (by omega)];simp)];exact h_lo (i+1) (by omega) (by omega)
     have hset:∀j b,(listed.setIfInBounds i true).getD j b=if j=i then true else listed.getD j b:=fun j b=>x4 listed i j b (by omega);have hUmem:i∈U:=(hUi i hin).1 hun;refine ih (listed.setIfInBounds i true) (U.erase i) a' w' (hh (i+1)) (ct Γc ops[i].dst d) (by simpa using hsize) (hnd.erase i) ?_ ?_ ?_ ?_ ?_ ?_ hst'
     .have:=List.length_erase_of_mem hUmem;omega
     .intro j hj;rw[hset,hnd.mem_erase_iff];by_cases e:j=i
      .simp[e]
      .rw[if_neg e];exact⟨fun h=>⟨e,(hUi j hj).1 h⟩,fun h=>(hUi j hj).2 h.2⟩
     .intro j k hj hjl hjk;rw[hset] at hjl ⊢;by_cases e:k=i
      .simp[e]
      .rw[if_neg e];by_cases e2:j=i
       .subst e2;exact hdeps' k hjk
       .rw[if_neg e2] at hjl;exact hcl j k hj hjl hjk
     .exact hH'
     .intro s j hjs hj hjl;rw[hset] at hjl;by_cases e:j=i
      .subst e;have hds:ops[j].dst=some s:=by unfold dw at hjs;rw[hoi] at hjs;exact hjs
       rw[hds] at hgs ⊢;rw[show look (ct Γc (some s) d) s=d from hY _ _ _,<-hgn];rw[g_up s (j+1) l.length (by omega) (XP _) (fun k h1 h2 hk=>by
        have:=hf.distinct k j s hk hjs;omega),hgs]
       exact(hY _ _ _).symm
      .rw[if_neg e] at hjl;have hne:ops[i].dst≠some s:=by
        intro hds;have:dw ops i=some s:=by unfold dw;rw[hoi];exact hds
        exact e (hf.distinct j i s hjs this)
       have:look (ct Γc ops[i].dst d) s=look Γc s:=by
        cases hd':ops[i].dst with
        |none=>rfl
        |some t=>rw[hd'] at hne;exact gH (fun e=>hne (by rw[e])) _ _
       rw[this];exact hs1 s j hjs hj hjl
     .intro s hno;have hne:ops[i].dst≠some s:=by
       intro hds;exact hno i hin (by rw[hset];simp) (by unfold dw;rw[hoi];exact hds)
      have:look (ct Γc ops[i].dst d) s=look Γc s:=by
       cases hd':ops[i].dst with
       |none=>rfl
       |some t=>rw[hd'] at hne;exact gH (fun e=>hne (by rw[e])) _ _
      rw[this];refine hs2 s (fun j hj hjl=>hno j hj ?_);rw[hset];by_cases e:j=i
      .simp[e]
      .rw[if_neg e];exact hjl
    have hrun:if Region.wanted ops[i] (yielded ops a.tmps) then ops[i].wp P a w (wpAny P .any ops Q fuel (listed.setIfInBounds i true)) Q else wpAny P .any ops Q fuel (listed.setIfInBounds i true) (a.put ops[i].dst undef) w:=by
     refine hJ w0 A0 N Γc (hh i) a w Q _ hslots ?_ hdst hst (fun a' w' hst'=>after a' w' ?_)
     .cases hef:cu ops[i]
      .simp only[X8,if_false];intro x e _ hxe;exact hxe
      .simp only[if_true]
     .cases hef:cu ops[i]
      .rw[hef] at hst';simp only[X8,if_false] at hst';rw[hqq hef];exact hst'
      .rw[hef] at hst';simpa only[if_true] using hst'
    unfold wpOp;rw[hoi];simp only[];split
    .rename_i hw;rw[if_pos hw] at hrun;exact .inl hrun
    .rename_i hw;rw[if_neg hw] at hrun;exact hrun
 have hdrew:St w0 A0 N Γ H a w.drew:=let ⟨E,g⟩:=hSt;⟨E,g.drew⟩;refine wp_region_any hm ?_;refine main ops.size (Array.replicate ops.size false) (List.range ops.size) a w.drew H Γ (by simp) List.nodup_range (by simp) ?_ ?_ ?_ ?_ ?_ hdrew
 .intro i hi;simp[hi]
 .intro i j hi h;simp[hi] at h
 .intro _;show H=(if (Array.replicate ops.size false).getD p true=true then hh l.length else H);rw[if_neg (by simp[hpl])]
 .intro s j _ hj h;simp[hj] at h
 .intro s _;rfl
theorem Ly{Γ:aA}{H:Hp}{K:aA->Hp->Prop}(h:K Γ H):nO P ops [] Γ H K:=h
theorem jE{o:Oper}{os:List Oper}{Γ:aA}{H:Hp}{K:aA->Hp->Prop}{d:Option D}(h:JO P ops [] o Γ H d H)(hr:nO P ops os (ct Γ o.dst d) H K):nO P ops (o::os) Γ H K:=⟨d,H,fun _=>rfl,h,hr⟩
theorem Lz{o:Oper}{os:List Oper}{Γ:aA}{H H1:Hp}{K:aA->Hp->Prop}{d:Option D}(h:JO P ops [] o Γ H d H1)(he:cu o=true)(hr:nO P ops os (ct Γ o.dst d) H1 K):nO P ops (o::os) Γ H K:=⟨d,H1,fun h'=>absurd h' (by rw[he];decide),h,hr⟩
end
end Rc
namespace Go.Proofs.YtakccfmgipajnaaGreatDoor
open Go Go.RowKit Rc
theorem wI:bJ Tryz.prog 95 false 1:=tk_
@[reducible] def vS(q:Qu)(bq bs bv:Nat):VS:=⟨39,94,95,42,5,97,6,bq,bs,bv,cO q,.func (.func 26) #[] #[.pointer (some ⟨bs,0,none⟩),.pointer (some ⟨bq,0,none⟩),.pointer (some ⟨bv,0,none⟩)]⟩
set_option maxHeartbeats 2000000 in
theorem L4(q:Qu)(hq:dt q)(p:List Dc){np:Nat}(hp:jB q p np)(l:List Lm){nl:Nat}(hl:j5 l nl)(ms:List Lm)(hms:∀m∈ms,gS 200000 60000000 q m)(hml:ms.length<=nl)(bq bs bv:Nat)(pf:List Mu)(hmb:MB 60000000 pf)(hpc:∀x∈pf,x.c=an x.c.q)(hpl:pf.length<=14):mi Tryz.prog 26 (vS q bq bs bv) (El.all bG p) (El.all aV l) (dE (uC ms pf)) (V.one (ab.val (.bool (bz q (.leaf ms pf) p l).1))) (El.all bG ((bz q (.leaf ms pf) p l).2.1)) (El.all aV ((bz q (.leaf ms pf) p l).2.2)):=by
 refine mi.gO Tryz.func26 rfl Tryz.ntmps26 (XU rfl) (fun w0 A0 n4 n5=>?_);refine jO ?_;have hll:=hl.ll;refine zc 10 rfl (aa rfl (zA (r:=5) (sz:=6) aV l rfl rfl rfl (by decide) eC) (zl 8 rfl (aa rfl (aw rfl) (zl 4 rfl ?_))));refine bH (fun m Γ H=>∃(j:Nat) (k5:Nat) (cur:List Lm),ms.length-j=m/\Γ=[(1,some (D.ptr 2 0)),(2,some (D.ptr 0 0)),(3,some (D.ptr 3 0)),(4,some (D.ptr 6 0)),(6,some (D.val (.int .i64 ((l.length:Nat):Int)))),(15,some (D.v (V.one (El.row aV ms)))),(16,some (D.val (.int .i64 ((ms.length:Nat):Int)))),(17,some (D.val (.int .i64 (j:Int))))]/\H=[dB 39 (cO q) bq,none,dB 94 (cO q++[ab.own 4 n4,ab.own 5 k5]) bs,dB 95 [ab.val (.func (.func 26) #[] #[.pointer (some ⟨bs,0,none⟩),.pointer (some ⟨bq,0,none⟩),.pointer (some ⟨bv,0,none⟩)])] bv,bR 42 5 bG p n4,bR 97 6 aV cur k5,au 46 [El.row aV ms,ab.val (.int .i64 0),ab.val (.int .i64 0),ab.val (.bool false),ae ([]),ae ([]),El.row bZ ([]),ab.val (.bool false),El.row bm pf]]/\j<=ms.length/\cur=l++ms.take j/\nH q p ms l j) ⟨0,n5,l,rfl,rfl,rfl,XS _,by simp,KI⟩ rfl ?_;rintro m Γ H ⟨j,k5,cur,rfl,rfl,rfl,hj0,hcur,hadd⟩;refine zc 2 rfl ?_;by_cases hj:j<ms.length
 .refine aa rfl (aX rfl) (zl 9 rfl ?_);obtain⟨m,hm⟩:∃m,ms[j]?=some m:=⟨_,XM hj⟩;have hmo:=hms m (XR hm);haveI hmB:=hmo.B;have hco:iz ⟨q,p,cur⟩:=by rw[hcur];exact yG hq hp hl hms hml j
  have hcl:cur.length<=100:=hco.ll;refine zc 1 rfl (aa rfl (aS j hm rfl) (aa rfl (bo rfl) (zl 9 rfl (aK rfl (DQ rfl IK rfl (HA ⟨q,p,cur⟩ hco m hmo) (.agg (.cl rfl (.cl rfl (.cl rfl (.cl rfl (.cl rfl (.cl rfl (.cl rfl (.cl rfl (.cl rfl (.cl rfl (.own rfl rfl rfl (.own rfl rfl rfl .nil)))))))))))) (.cl rfl .nil))) (zl 3 rfl ?_)))));refine cV rfl (fun hlm=>?_) (fun hlm=>?_)
  .refine zc 5 rfl ?_;have he:=Mb (pf:=pf) (KG hadd hm (by rw[<-hcur];simpa using hlm));exact qq (fun _ _ h=>h) rfl rfl (by rw[he]) rfl rfl rfl rfl rfl (by rw[he]) (by rw[he,hcur])
  .refine zc 6 rfl (aK rfl (b8 rfl eC iD tH rfl (by decide) (by decide) rfl (by decide) rfl) ?_);obtain⟨ti3,hi3,hz3,hs3,hb3⟩:=xV;refine aK rfl (zD aV cur m rfl rfl rfl rfl (by decide) eC eC hi3 hz3 hs3 rfl (by first|(simp only[maxLen];omega)|(simp only[maxLen,XX,X2,X1,X6,Yg];omega)) (by rw[hb3];first|omega|(simp only[XX,X2,X1,X6,Yg];omega))) ?_;refine zl 6 rfl (aa rfl (aL (j+1) rfl) (zl 2 rfl (cX 7 (cN 7 rfl ?_))));exact aP ⟨j+1,_,_,rfl,rfl,rfl,hj,by rw[hcur,iF hm,Yf],KE hadd hm (by rw[<-hcur];simpa using hlm)⟩ rfl
 .refine aa rfl (aO rfl) (zl 12 rfl ?_);have hie:j=ms.length:=by omega
  have hce:cur=l++ms:=by rw[hcur,hie,Yo]
  have hA:cj q p ms l=(true,l++ms):=KH (hie ▸ hadd);have hco:iz ⟨q,p,l++ms⟩:=by have h:=yG hq hp hl hms hml ms.length;rwa [Yo] at h
  have hcl:(l++ms).length<=100:=hco.ll;have hgl:FL 500001 (q.g.ag+q.g.us.length) q.goal:=hq.goal.fl;refine qu [(1,some (D.ptr 2 0)),(2,some (D.ptr 0 0)),(3,some (D.ptr 3 0)),(4,some (D.ptr 6 0)),(6,some (D.val (.int .i64 ((l.length:Nat):Int))))] [dB 39 (cO q) bq,none,dB 94 (cO q++[ab.own 4 n4,ab.own 5 k5]) bs,dB 95 [ab.val (.func (.func 26) #[] #[.pointer (some ⟨bs,0,none⟩),.pointer (some ⟨bq,0,none⟩),.pointer (some ⟨bv,0,none⟩)])] bv,bR 42 5 bG p n4,bR 97 6 aV (l++ms) k5,au 46 [El.row aV ms,ab.val (.int .i64 0),ab.val (.int .i64 0),ab.val (.bool false),ae ([]),ae ([]),El.row bZ ([]),ab.val (.bool false),El.row bm pf]] ⟨rfl,rfl,rfl,rfl,rfl,trivial⟩ (by rw[hce];try rfl) ?_;refine zc 3 rfl (aa rfl (aw rfl) (aa rfl (bp rfl rfl) (zl 12 rfl (aa rfl (aw rfl) (aa rfl (bp rfl rfl) (zl 11 rfl ?_))))));refine aK rfl (DQ rfl B6 rfl (A3 ⟨q,p,l++ms⟩ hco q.goal hgl (by omega) pf hmb (by omega) hpc hpl) (.agg (.cl rfl (.cl rfl (.cl rfl (.cl rfl (.cl rfl (.cl rfl (.cl rfl (.cl rfl (.cl rfl (.cl rfl (.own rfl rfl rfl (.own rfl rfl rfl .nil)))))))))))) (.cl rfl (.cl rfl .nil)))) (zl 3 rfl ?_);refine cV rfl (fun hpv=>?_) (fun hpv=>?_)
  .refine zc 5 rfl ?_;have he:=Ma hA (pf:=pf) (by simpa using hpv);exact qq (fun _ _ h=>h) rfl rfl (by rw[he]) rfl rfl rfl rfl rfl (by rw[he]) (by rw[he])
  .refine zc 8 rfl (zx rfl rfl (zC aV (l++ms) (l.length) rfl rfl rfl rfl eC iD (by rw[XX];omega)) (zl 9 rfl ?_));have he:=L9 hA (pf:=pf) (by simpa using hpv);exact qq (fun _ _ h=>h) rfl rfl (by rw[he]) rfl rfl rfl rfl rfl (by rw[he]) (by rw[he];show El.all aV (List.take l.length (l++ms))=El.all aV l;rw[zaI])
set_option maxHeartbeats 2000000 in
theorem L3(q:Qu)(hq:dt q)(p:List Dc){np:Nat}(hp:jB q p np)(l:List Lm){nl:Nat}(hl:j5 l nl)(ms:List Lm)(hms:∀m∈ms,gS 200000 60000000 q m)(hml:ms.length<=nl)(bq bs bv:Nat)(i:Nat)(hi:i<q.g.us.length)(a b:Tr)(ha:mi Tryz.prog 26 (vS q bq bs bv) (El.all bG (p++[(⟨1,i,0⟩:Dc)])) (El.all aV (l++ms)) (dE a.nn) (V.one (ab.val (.bool (bz q a (p++[(⟨1,i,0⟩:Dc)]) (l++ms)).1))) (El.all bG (bz q a (p++[(⟨1,i,0⟩:Dc)]) (l++ms)).2.1) (El.all aV (bz q a (p++[(⟨1,i,0⟩:Dc)]) (l++ms)).2.2))(hb:mi Tryz.prog 26 (vS q bq bs bv) (El.all bG (p++[(⟨2,i,0⟩:Dc)])) (El.all aV (l++ms)) (dE b.nn) (V.one (ab.val (.bool (bz q b (p++[(⟨2,i,0⟩:Dc)]) (l++ms)).1))) (El.all bG (bz q b (p++[(⟨2,i,0⟩:Dc)]) (l++ms)).2.1) (El.all aV (bz q b (p++[(⟨2,i,0⟩:Dc)]) (l++ms)).2.2)):mi Tryz.prog 26 (vS q bq bs bv) (El.all bG p) (El.all aV l) (dE (nf ms i a.nn b.nn)) (V.one (ab.val (.bool (bz q (.node ms i a b) p l).1))) (El.all bG ((bz q (.node ms i a b) p l).2.1)) (El.all aV ((bz q (.node ms i a b) p l).2.2)):=by
 refine mi.gO Tryz.func26 rfl Tryz.ntmps26 (XU rfl) (fun w0 A0 n4 n5=>?_);refine jO ?_;have hll:=hl.ll;have hpl:=hp.pl;refine zc 10 rfl (aa rfl (zA (r:=5) (sz:=6) aV l rfl rfl rfl (by decide) eC) (zl 8 rfl (aa rfl (aw rfl) (zl 4 rfl ?_))));refine bH (fun m Γ H=>∃(j:Nat) (k5:Nat) (cur:List Lm),ms.length-j=m/\Γ=[(1,some (D.ptr 2 0)),(2,some (D.ptr 0 0)),(3,some (D.ptr 3 0)),(4,some (D.ptr 6 0)),(6,some (D.val (.int .i64 ((l.length:Nat):Int)))),(15,some (D.v (V.one (El.row aV ms)))),(16,some (D.val (.int .i64 ((ms.length:Nat):Int)))),(17,some (D.val (.int .i64 (j:Int))))]/\H=[dB 39 (cO q) bq,none,dB 94 (cO q++[ab.own 4 n4,ab.own 5 k5]) bs,dB 95 [ab.val (.func (.func 26) #[] #[.pointer (some ⟨bs,0,none⟩),.pointer (some ⟨bq,0,none⟩),.pointer (some ⟨bv,0,none⟩)])] bv,bR 42 5 bG p n4,bR 97 6 aV cur k5,au 46 [El.row aV ms,ab.val (.int .i64 1),ab.val (.int .i64 (i:Int)),ab.val (.bool false),ae ([]),ae ([]),El.row bZ ([a.nn,b.nn]),ab.val (.bool false),El.row bm ([])]]/\j<=ms.length/\cur=l++ms.take j/\nH q p ms l j) ⟨0,n5,l,rfl,rfl,rfl,XS _,by simp,KI⟩ rfl ?_;rintro m Γ H ⟨j,k5,cur,rfl,rfl,rfl,hj0,hcur,hadd⟩;refine zc 2 rfl ?_;by_cases hj:j<ms.length
 .refine aa rfl (aX rfl) (zl 9 rfl ?_);obtain⟨m,hm⟩:∃m,ms[j]?=some m:=⟨_,XM hj⟩;have hmo:=hms m (XR hm);haveI hmB:=hmo.B;have hco:iz ⟨q,p,cur⟩:=by rw[hcur];exact yG hq hp hl hms hml j
  have hcl:cur.length<=100:=hco.ll;refine zc 1 rfl (aa rfl (aS j hm rfl) (aa rfl (bo rfl) (zl 9 rfl (aK rfl (DQ rfl IK rfl (HA ⟨q,p,cur⟩ hco m hmo) (.agg (.cl rfl (.cl rfl (.cl rfl (.cl rfl (.cl rfl (.cl rfl (.cl rfl (.cl rfl (.cl rfl (.cl rfl (.own rfl rfl rfl (.own rfl rfl rfl .nil)))))))))))) (.cl rfl .nil))) (zl 3 rfl ?_)))));refine cV rfl (fun hlm=>?_) (fun hlm=>?_)
  .refine zc 5 rfl ?_;have he:=L6 (i:=i) (a:=a) (b:=b) (KG hadd hm (by rw[<-hcur];simpa using hlm));exact qq (fun _ _ h=>h) rfl rfl (by rw[he]) rfl rfl rfl rfl rfl (by rw[he]) (by rw[he,hcur])
  .refine zc 6 rfl (aK rfl (b8 rfl eC iD tH rfl (by decide) (by decide) rfl (by decide) rfl) ?_);obtain⟨ti3,hi3,hz3,hs3,hb3⟩:=xV;refine aK rfl (zD aV cur m rfl rfl rfl rfl (by decide) eC eC hi3 hz3 hs3 rfl (by first|(simp only[maxLen];omega)|(simp only[maxLen,XX,X2,X1,X6,Yg];omega)) (by rw[hb3];first|omega|(simp only[XX,X2,X1,X6,Yg];omega))) ?_;refine zl 6 rfl (aa rfl (aL (j+1) rfl) (zl 2 rfl (cX 7 (cN 7 rfl ?_))));exact aP ⟨j+1,_,_,rfl,rfl,rfl,hj,by rw[hcur,iF hm,Yf],KE hadd hm (by rw[<-hcur];simpa using hlm)⟩ rfl
 .refine aa rfl (aO rfl) (zl 12 rfl ?_);have hie:j=ms.length:=by omega
  have hce:cur=l++ms:=by rw[hcur,hie,Yo]
  have hA:cj q p ms l=(true,l++ms):=KH (hie ▸ hadd);have hco:iz ⟨q,p,l++ms⟩:=by have h:=yG hq hp hl hms hml ms.length;rwa [Yo] at h
  have hcl:(l++ms).length<=100:=hco.ll;have hgl:FL 500001 (q.g.ag+q.g.us.length) q.goal:=hq.goal.fl;refine qu [(1,some (D.ptr 2 0)),(2,some (D.ptr 0 0)),(3,some (D.ptr 3 0)),(4,some (D.ptr 6 0)),(6,some (D.val (.int .i64 ((l.length:Nat):Int))))] [dB 39 (cO q) bq,none,dB 94 (cO q++[ab.own 4 n4,ab.own 5 k5]) bs,dB 95 [ab.val (.func (.func 26) #[] #[.pointer (some ⟨bs,0,none⟩),.pointer (some ⟨bq,0,none⟩),.pointer (some ⟨bv,0,none⟩)])] bv,bR 42 5 bG p n4,bR 97 6 aV (l++ms) k5,au 46 [El.row aV ms,ab.val (.int .i64 1),ab.val (.int .i64 (i:Int)),ab.val (.bool false),ae ([]),ae ([]),El.row bZ ([a.nn,b.nn]),ab.val (.bool false),El.row bm ([])]] ⟨rfl,rfl,rfl,rfl,rfl,trivial⟩ (by rw[hce];try rfl) ?_;refine zc 3 rfl (aa rfl (aw rfl) (aa rfl (aU rfl (by show((2:Nat):Int)≠0;decide)) (zl 12 rfl (aa rfl (aw rfl) (aa rfl (aU rfl (by show((2:Nat):Int)≠0;decide)) (zl 10 rfl (iK (D.agg [ab.val (.int .i64 ((1:Nat):Int)),ab.val (.int .i64 (i:Int)),ab.val (.bool (bx 0)),ae (ah (aN 0)),ae (ah (aQ 0))]) rfl (qf 1 i) ?_)))))));refine aj TC rfl (T7 q i hi (by have:=hq.g.u4;omega)) (zl 7 rfl (aE 0 [] [] (dz 2 rfl (eU (D.agg [ab.val (.int .i64 ((1:Nat):Int)),ab.val (.int .i64 (i:Int)),ab.val (.bool (bx 0)),ae (ah (aN 0)),ae (ah (aQ 0))]) rfl (qf 1 i) (dz 2 rfl ?_)))));refine eU (D.agg [ab.val (.int .i64 ((1:Nat):Int)),ab.val (.int .i64 (i:Int)),ab.val (.bool (bx 0)),ae (ah (aN 0)),ae (ah (aQ 0))]) rfl (qf 1 i) (ax TB rfl (PG i) (fh rfl (fun _=>b8 rfl fy jl o8 rfl (by decide) (by decide) rfl (by decide) rfl (hcl:=rfl)) (af rfl (aw rfl) (eU (D.val (.int .i64 2)) rfl (rfl) ?_))));refine dz 1 rfl (aB (za 2 rfl (K0 3 (nY ?_))));refine zc 14 rfl (aa rfl (aS (e:=bG) (l:=[⟨1,i,0⟩,⟨2,i,0⟩]) 0 rfl rfl) (aa rfl (bo rfl) (zl 10 rfl (aK rfl (b8 rfl fy jl o8 rfl (by decide) (by decide) rfl (by decide) rfl) ?_))));obtain⟨ti4,hi4,hz4,hs4,hb4⟩:=BM;refine aK rfl (zD bG p (⟨1,i,0⟩:Dc) rfl rfl rfl rfl (by decide) fy fy hi4 hz4 hs4 rfl (by first|(simp only[maxLen];omega)|(simp only[maxLen,XX,X2,X1,X6,Yg];omega)) (by rw[hb4];first|omega|(simp only[XX,X2,X1,X6,Yg];omega))) ?_;refine zl 6 rfl (K5 6 follows (by kernel_rfl) (by kernel_rfl) (by decide) (jE (gL rfl rfl (gT rfl rfl rfl (by decide) wI rfl)) (jE (gL rfl rfl (DM rfl rfl IC rfl)) (jE (gL rfl rfl (gT rfl rfl rfl (by decide) Ez rfl)) (jE (gL rfl rfl (v5 rfl rfl)) ?_)))));refine jE (gL rfl rfl (DJ bZ ([a.nn,b.nn]) (0) rfl rfl rfl j9 ka rfl)) (jE (gL rfl rfl (DG rfl rfl ka rfl)) (Lz (zF rfl rfl (DR (S:=(vS q bq bs bv)) rfl B7 rfl rfl (ha) rfl rfl rfl rfl rfl (hcx:=a.nn.cl))) rfl (jE (gL rfl rfl (DD rfl rfl (c:=_) rfl)) (Ly (za 1 rfl ?_)))));refine cV rfl (fun hv0=>?_) (fun hv0=>?_)
  .refine zc 5 rfl ?_;have he:(bz q (.node ms i a b) p l)=(bz q a (p++[(⟨1,i,0⟩:Dc)]) (l++ms)):=L8 hA (by simpa using hv0);have hvf:(bz q a (p++[(⟨1,i,0⟩:Dc)]) (l++ms)).1=false:=by simpa using hv0
   exact qq (fun _ _ h=>h) rfl rfl (by rw[he,hvf]) rfl rfl rfl rfl rfl (by rw[he]) (by rw[he])
  .refine zc 2 rfl ?_;have hv0t:(bz q a (p++[(⟨1,i,0⟩:Dc)]) (l++ms)).1=true:=by simpa using hv0
   have hV0:(bz q a (p++[(⟨1,i,0⟩:Dc)]) (l++ms))=(true,p++[(⟨1,i,0⟩:Dc)],l++ms):=Eg hv0t;have hpl0:(p++[(⟨1,i,0⟩:Dc)]).length=p.length+1:=by simp
   refine km [7] rfl ?_;refine qu [(1,some (D.ptr 2 0)),(3,some (D.ptr 3 0)),(4,some (D.ptr 6 0)),(6,some (D.val (.int .i64 ((l.length:Nat):Int)))),(42,some (D.v (V.one (El.row bG ([⟨1,i,0⟩,⟨2,i,0⟩]))))),(43,some (D.val (.int .i64 2))),(44,some (D.val (.int .i64 0)))] [dB 39 (cO q) bq,none,dB 94 (cO q++[ab.own 4 ((n4+1)+1),ab.own 5 (k5+1)]) bs,dB 95 [ab.val (.func (.func 26) #[] #[.pointer (some ⟨bs,0,none⟩),.pointer (some ⟨bq,0,none⟩),.pointer (some ⟨bv,0,none⟩)])] bv,bR 42 5 bG (p++[(⟨1,i,0⟩:Dc)]) ((n4+1)+1),bR 97 6 aV (l++ms) (k5+1),au 46 [El.row aV ms,ab.val (.int .i64 1),ab.val (.int .i64 (i:Int)),ab.val (.bool false),ae ([]),ae ([]),El.row bZ ([a.nn,b.nn]),ab.val (.bool false),El.row bm ([])],none] ⟨rfl,rfl,rfl,rfl,rfl,rfl,rfl,trivial⟩ (by rw[hV0];try rfl) ?_;refine zc 5 rfl (aa rfl (zA (r:=4) (sz:=5) bG (p++[(⟨1,i,0⟩:Dc)]) rfl rfl rfl (by decide) fy) (aa rfl (b9 ((p++[(⟨1,i,0⟩:Dc)]).length-1) rfl) (zx rfl rfl (zC bG (p++[(⟨1,i,0⟩:Dc)]) ((p++[(⟨1,i,0⟩:Dc)]).length-1) rfl rfl rfl rfl fy jl (Nat.sub_le _ _)) (zl 5 rfl ?_))));refine qu [(1,some (D.ptr 2 0)),(3,some (D.ptr 3 0)),(4,some (D.ptr 6 0)),(6,some (D.val (.int .i64 ((l.length:Nat):Int)))),(42,some (D.v (V.one (El.row bG ([⟨1,i,0⟩,⟨2,i,0⟩]))))),(43,some (D.val (.int .i64 2))),(44,some (D.val (.int .i64 0)))] [dB 39 (cO q) bq,none,dB 94 (cO q++[ab.own 4 (((n4+1)+1)+1),ab.own 5 (k5+1)]) bs,dB 95 [ab.val (.func (.func 26) #[] #[.pointer (some ⟨bs,0,none⟩),.pointer (some ⟨bq,0,none⟩),.pointer (some ⟨bv,0,none⟩)])] bv,bR 42 5 bG p (((n4+1)+1)+1),bR 97 6 aV (l++ms) (k5+1),au 46 [El.row aV ms,ab.val (.int .i64 1),ab.val (.int .i64 (i:Int)),ab.val (.bool false),ae ([]),ae ([]),El.row bZ ([a.nn,b.nn]),ab.val (.bool false),El.row bm ([])],none] ⟨rfl,rfl,rfl,rfl,rfl,rfl,rfl,trivial⟩ (by rw[EJ];try rfl) ?_;refine zc 1 rfl (aa rfl (dS rfl rfl rfl (r:=1) (bS (by decide) (by decide) (by decide))) (zl 2 rfl (th (nY ?_))));refine zc 14 rfl (aa rfl (aS (e:=bG) (l:=[⟨1,i,0⟩,⟨2,i,0⟩]) 1 rfl rfl) (aa rfl (bo rfl) (zl 10 rfl (aK rfl (b8 rfl fy jl o8 rfl (by decide) (by decide) rfl (by decide) rfl) ?_))));obtain⟨ti5,hi5,hz5,hs5,hb5⟩:=BM;refine aK rfl (zD bG p (⟨2,i,0⟩:Dc) rfl rfl rfl rfl (by decide) fy fy hi5 hz5 hs5 rfl (by first|(simp only[maxLen];omega)|(simp only[maxLen,XX,X2,X1,X6,Yg];omega)) (by rw[hb5];first|omega|(simp only[XX,X2,X1,X6,Yg];omega))) ?_;refine zl 6 rfl (K5 6 follows (by kernel_rfl) (by kernel_rfl) (by decide) (jE (gL rfl rfl (gT rfl rfl rfl (by decide) wI rfl)) (jE (gL rfl rfl (DM rfl rfl IC rfl)) (jE (gL rfl rfl (gT rfl rfl rfl (by decide) Ez rfl)) (jE (gL rfl rfl (v5 rfl rfl)) ?_)))));refine jE (gL rfl rfl (DJ bZ ([a.nn,b.nn]) (1) rfl rfl rfl j9 ka rfl)) (jE (gL rfl rfl (DG rfl rfl ka rfl)) (Lz (zF rfl rfl (DR (S:=(vS q bq bs bv)) rfl B7 rfl rfl (hb) rfl rfl rfl rfl rfl (hcx:=b.nn.cl))) rfl (jE (gL rfl rfl (DD rfl rfl (c:=_) rfl)) (Ly (za 1 rfl ?_)))));refine cV rfl (fun hv1=>?_) (fun hv1=>?_)
   .refine zc 5 rfl ?_;have he:(bz q (.node ms i a b) p l)=(bz q b (p++[(⟨2,i,0⟩:Dc)]) (l++ms)):=L7 hA hv0t (by simpa using hv1);have hvf:(bz q b (p++[(⟨2,i,0⟩:Dc)]) (l++ms)).1=false:=by simpa using hv1
    exact qq (fun _ _ h=>h) rfl rfl (by rw[he,hvf]) rfl rfl rfl rfl rfl (by rw[he]) (by rw[he])
   .refine zc 2 rfl ?_;have hv1t:(bz q b (p++[(⟨2,i,0⟩:Dc)]) (l++ms)).1=true:=by simpa using hv1
    have hV1:(bz q b (p++[(⟨2,i,0⟩:Dc)]) (l++ms))=(true,p++[(⟨2,i,0⟩:Dc)],l++ms):=Eg hv1t;have hpl1:(p++[(⟨2,i,0⟩:Dc)]).length=p.length+1:=by simp
    refine km [8] rfl ?_;refine qu [(1,some (D.ptr 2 0)),(3,some (D.ptr 3 0)),(4,some (D.ptr 6 0)),(6,some (D.val (.int .i64 ((l.length:Nat):Int)))),(42,some (D.v (V.one (El.row bG ([⟨1,i,0⟩,⟨2,i,0⟩]))))),(43,some (D.val (.int .i64 2))),(44,some (D.val (.int .i64 1)))] [dB 39 (cO q) bq,none,dB 94 (cO q++[ab.own 4 (((((n4+1)+1)+1)+1)+1),ab.own 5 ((k5+1)+1)]) bs,dB 95 [ab.val (.func (.func 26) #[] #[.pointer (some ⟨bs,0,none⟩),.pointer (some ⟨bq,0,none⟩),.pointer (some ⟨bv,0,none⟩)])] bv,bR 42 5 bG (p++[(⟨2,i,0⟩:Dc)]) (((((n4+1)+1)+1)+1)+1),bR 97 6 aV (l++ms) ((k5+1)+1),au 46 [El.row aV ms,ab.val (.int .i64 1),ab.val (.int .i64 (i:Int)),ab.val (.bool false),ae ([]),ae ([]),El.row bZ ([a.nn,b.nn]),ab.val (.bool false),El.row bm ([])],none,none] ⟨rfl,rfl,rfl,rfl,rfl,rfl,rfl,trivial⟩ (by rw[hV1];try rfl) ?_;refine zc 5 rfl (aa rfl (zA (r:=4) (sz:=5) bG (p++[(⟨2,i,0⟩:Dc)]) rfl rfl rfl (by decide) fy) (aa rfl (b9 ((p++[(⟨2,i,0⟩:Dc)]).length-1) rfl) (zx rfl rfl (zC bG (p++[(⟨2,i,0⟩:Dc)]) ((p++[(⟨2,i,0⟩:Dc)]).length-1) rfl rfl rfl rfl fy jl (Nat.sub_le _ _)) (zl 5 rfl ?_))));refine qu [(1,some (D.ptr 2 0)),(3,some (D.ptr 3 0)),(4,some (D.ptr 6 0)),(6,some (D.val (.int .i64 ((l.length:Nat):Int)))),(42,some (D.v (V.one (El.row bG ([⟨1,i,0⟩,⟨2,i,0⟩]))))),(43,some (D.val (.int .i64 2))),(44,some (D.val (.int .i64 1)))] [dB 39 (cO q) bq,none,dB 94 (cO q++[ab.own 4 ((((((n4+1)+1)+1)+1)+1)+1),ab.own 5 ((k5+1)+1)]) bs,dB 95 [ab.val (.func (.func 26) #[] #[.pointer (some ⟨bs,0,none⟩),.pointer (some ⟨bq,0,none⟩),.pointer (some ⟨bv,0,none⟩)])] bv,bR 42 5 bG p ((((((n4+1)+1)+1)+1)+1)+1),bR 97 6 aV (l++ms) ((k5+1)+1),au 46 [El.row aV ms,ab.val (.int .i64 1),ab.val (.int .i64 (i:Int)),ab.val (.bool false),ae ([]),ae ([]),El.row bZ ([a.nn,b.nn]),ab.val (.bool false),El.row bm ([])],none,none] ⟨rfl,rfl,rfl,rfl,rfl,rfl,rfl,trivial⟩ (by rw[EJ];try rfl) ?_;refine zc 1 rfl (aa rfl (dS rfl rfl rfl (r:=2) (bS (by decide) (by decide) (by decide))) (zl 2 rfl (th (nY ?_))));refine zc 18 rfl (zx rfl rfl (zC aV (l++ms) (l.length) rfl rfl rfl rfl eC iD (by rw[XX];omega)) (zl 9 rfl ?_));have he:=L5 hA (a:=a) (b:=b) hv0t hv1t;exact qq (fun _ _ h=>h) rfl rfl (by rw[he]) rfl rfl rfl rfl rfl (by rw[he]) (by rw[he];show El.all aV (List.take l.length (l++ms))=El.all aV l;rw[zaI])
theorem zM(q:Qu)(hq:dt q)(bq bs bv:Nat):∀(t:Tr) (p:List Dc) (l:List Lm),ic 200000 60000000 q t->jB q p t.ht->j5 l (20*(t.ht+1))->mi Tryz.prog 26 (vS q bq bs bv) (El.all bG p) (El.all aV l) (dE t.nn) (V.one (ab.val (.bool (bz q t p l).1))) (El.all bG (bz q t p l).2.1) (El.all aV (bz q t p l).2.2)
 |.leaf ms pf,p,l,h,hp,hl=>L4 q hq p hp l hl ms h.1 h.2.1 bq bs bv pf h.2.2.1 h.2.2.2.1 h.2.2.2.2
 |.node ms i a b,p,l,h,hp,hl=>by
  have hp:jB q p (1+max a.ht b.ht):=hp;have hl:j5 l (20*(1+max a.ht b.ht+1)):=hl;have hm:=h.2.1;have p1:jB q (p++[⟨1,i,0⟩]) (max a.ht b.ht):=(hp.mono (by omega)).add (.inl rfl) h.2.2.1;have p2:jB q (p++[⟨2,i,0⟩]) (max a.ht b.ht):=(hp.mono (by omega)).add (.inr rfl) h.2.2.1;have l1:j5 (l++ms) (20*(max a.ht b.ht+1)):=hl.add h.1 (by omega);exact L3 q hq p hp l hl ms h.1 (by omega) bq bs bv i h.2.2.1 a b (zM q hq bq bs bv a _ _ h.2.2.2.1 (p1.mono (by omega)) (l1.mono (by omega))) (zM q hq bq bs bv b _ _ h.2.2.2.2 (p2.mono (by omega)) (l1.mono (by omega)))
theorem MC:de Tryz.prog 95 [ab.val .nilFunc]:=de.of (.nilFunc) (by kernel_rfl) rfl (by decide)
def CO(q:Qu)(t:Tr):List Dc:=if (bz q t [] []).1=true then[] else(bz q t [] []).2.1
def l6(q:Qu)(t:Tr):Int:=if (bz q t [] []).1=true then 0 else 12
theorem SJ(g:Gr)(hg:oZ g):ar Tryz.prog 22 [sn g] (R.one (V.one (ab.val (.int .i64 (((g.ag+g.us.length:Nat):Int)))))):=by
 refine aF Tryz.func22 Tryz.ntmps22 rfl (fun w0 A0=>?_);have h1:=hg.i1;have h2:=hg.i3;have h3:=hg.u4;have h4:=hg.o1;have h5:=hg.o3;refine zc 10 rfl (aj Tx rfl (SL g (by assumption)) (zl 12 rfl (aa rfl (aw rfl) (aa rfl (aL (g.ag+g.us.length) rfl) (zl 3 rfl ?_)))));exact av ai rfl rfl
set_option maxHeartbeats 2000000 in
theorem MO(q:Qu)(hq:dt q)(t:Tr)(h:ic 200000 60000000 q t)(hh:t.ht<=2)(hs:t.size<=65536):ar Tryz.prog 6 [n7 q,dE t.nn] (R.aW [V.one (El.row bG (CO q t)),V.one (ab.val (.int .i64 (l6 q t)))]):=by
 refine aF Tryz.func6 Tryz.ntmps6 rfl (fun w0 A0=>?_);have hvl:(bz q t [] []).2.1.length<=0+t.ht:=zO q t [] [];have hg:=hq.g;have hr:=hq.r;have hlo:=hr.lo;have hhi:=hr.hi;have g_1:=hg.i1;have g_2:=hg.i3;have g_3:=hg.u4;have g_4:=hg.o1;have g_5:=hg.o3;refine zc 12 rfl (aj TM rfl (SJ q.g (by assumption)) (zl 5 rfl (bF [so 2 (D.ptr 0 0),so 3 (D.ptr 1 0),so 6 (D.val (.int .i64 ((q.g.ag+q.g.us.length:Nat):Int)))] [au 39 (cO q),au 46 [t.nn.a0,t.nn.a1,t.nn.a2,t.nn.a3,t.nn.a4,t.nn.a5,t.nn.a6,t.nn.a7,t.nn.a8]] rfl rfl (zc 2 rfl ?_))));refine aj B8 rfl (An t 2048 65536 (by omega) hs (by omega) (by omega)) (hcl:=iL t.nn.cl (rfl)) (zl 13 rfl (aa rfl (aU rfl) (zl 7 rfl (aj TL rfl (Ox q.r q.g.ag (by assumption) (by omega) (by omega)) (zl 6 rfl (aj yf rfl (xG q.goal hq.goal (by omega) (q.g.ag+q.g.us.length) (XP _) (by omega)) (zl 8 rfl ?_)))))));refine bF [so 2 _,so 3 _] [_,_] rfl rfl (zc 2 rfl (aa rfl (nN rfl EA rfl Ps rfl) (aK rfl (oX (n:=2) rfl EA rfl) (zl 5 rfl (aK rfl (oX (n:=3) rfl MC rfl) (zl 3 rfl ?_))))));refine Dz 2 rfl (fun q1=>?_);refine Dz 0 rfl (fun q2=>?_);refine Dz 3 rfl (fun q3=>?_);refine zc 1 rfl (aK rfl (W6 (vs:=[.pointer (some ⟨q1,0,none⟩),.pointer (some ⟨q2,0,none⟩),.pointer (some ⟨q3,0,none⟩)]) rfl ⟨⟨_,rfl,.inr ⟨_,_,_,rfl,rfl,rfl,rfl,rfl⟩⟩,⟨_,rfl,.inr ⟨_,_,_,rfl,rfl,rfl,rfl,rfl⟩⟩,⟨_,rfl,.inr ⟨_,_,_,rfl,rfl,rfl,rfl,rfl⟩⟩,trivial⟩) ?_);refine aK rfl (eQ rfl rfl rfl rfl wI rfl (by decide) (XU rfl) rfl) (zl 4 rfl ?_);refine nK 2 42 5 (ls':=[ab.val (.int .i64 ((q.g.ag:Nat):Int)),El.row bC q.g.us,El.row bC q.g.os,El.row bw q.r.lo,El.row bw q.r.hi,El.row bC q.r.rows,El.row bE q.goal.ts,ab.val (.bool (bx q.goal.c)),ae (ah (aN q.goal.c)),ae (ah (aQ q.goal.c)),ab.own 4 0,ab.val (.slice none 0 0)]) rfl rfl rfl ⟨.inl rfl,.inl rfl,.inl rfl,.inl rfl,.inl rfl,.inl rfl,.inl rfl,.inl rfl,.inl rfl,.inl rfl,.inr ⟨rfl,rfl⟩,.inl rfl,trivial⟩ ?_;refine nK 2 97 6 (ls':=[ab.val (.int .i64 ((q.g.ag:Nat):Int)),El.row bC q.g.us,El.row bC q.g.os,El.row bw q.r.lo,El.row bw q.r.hi,El.row bC q.r.rows,El.row bE q.goal.ts,ab.val (.bool (bx q.goal.c)),ae (ah (aN q.goal.c)),ae (ah (aQ q.goal.c)),ab.own 4 0,ab.own 5 0]) rfl rfl rfl ⟨.inl rfl,.inl rfl,.inl rfl,.inl rfl,.inl rfl,.inl rfl,.inl rfl,.inl rfl,.inl rfl,.inl rfl,.inl rfl,.inr ⟨rfl,rfl⟩,trivial⟩ ?_;refine zc 1 rfl (aa rfl (gT rfl rfl rfl (by decide) wI rfl) (zl 1 rfl (aK rfl (DR (S:=(vS q q2 q1 q3)) rfl B7 rfl rfl (zM q hq q2 q1 q3 t [] [] h ⟨fun d hd=>by simp at hd,fun d hd=>by simp at hd,by simp;omega⟩ ⟨fun m hm=>by simp at hm,fun m hm=>by simp at hm,by simp;omega⟩) rfl rfl rfl rfl rfl (hcx:=t.nn.cl)) (zl 3 rfl ?_))));refine cV rfl (fun hv=>?_) (fun hv=>?_)
 .refine zc 1 rfl (bQ [1] [so 9 (D.ptr 2 0)] [dB 39 (cO q) q2,none,dB 94 (cO q++[ab.own 4 (0+1),ab.own 5 (0+1)]) q1,dB 95 [ab.val (.func (.func 26) #[] #[.pointer (some ⟨q1,0,none⟩),.pointer (some ⟨q2,0,none⟩),.pointer (some ⟨q3,0,none⟩)])] q3,bR 42 5 bG ((bz q t [] []).2.1) (0+1),bR 97 6 aV ((bz q t [] []).2.2) (0+1)] rfl rfl rfl ?_);refine Ww 4 rfl (zc 1 rfl (aK rfl (DS rfl fy jl _) (zl 1 rfl (aa rfl (qw (r:=4) (n:=(0+1)) (x:=V.one (ab.own 4 (0+1))) (x':=V.one (El.row bG ((bz q t [] []).2.1))) (gT rfl rfl rfl (by decide) ME rfl) (dH.gf bG ((bz q t [] []).2.1) rfl (by decide)) (by decide) (.inr ⟨rfl,rfl⟩)) ?_))));obtain⟨ti4,hi4,hz4,hs4,hb4⟩:=BM;refine aK rfl (DU bG ((bz q t [] []).2.1) rfl rfl rfl (by decide) fy fy hi4 hz4 hs4 rfl (by simp only[maxLen];omega) (by rw[hb4];omega) (H2:=_)) (zl 4 rfl ?_);exact aI ai rfl (by unfold CO l6;rw[show(bz q t [] []).1=false by simpa using hv] <;> rfl)
 .refine zc 8 rfl ?_;exact aI ai rfl (by unfold CO l6;rw[show(bz q t [] []).1=true by simpa using hv] <;> rfl)
end Go.Proofs.YtakccfmgipajnaaGreatDoor
