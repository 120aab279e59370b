/- Parts of the proof, 9: the texts Law5, DyO, Run, WlO, WlP, Mrg, WlQ, WkM, WkN, WkO, WlR, WlT, WlS, Best, Awk, WlU, FwZ, FwX, Fw3, as far as they are used. -/
import Derived.Test.YticnclbnchgigaaGreatDoorDe08
import Derived.WalkKit
import Derived.ProofKit
import Derived.OpenShut
import Derived.ShutString
import Derived.ChangeOld
import Derived.Below
set_option linter.unusedSimpArgs false
set_option linter.unusedVariables false
set_option maxRecDepth 10000
namespace Rc
open Go Go.RowKit
theorem zqQ{s:Bool}{n d n' d':Nat}(hd:d≠0)(hd':d'≠0)(h:n*d'=n'*d):rq s n d=rq s n' d':=by
 unfold rq dn;rw[if_neg hd,if_neg hd',Rat.mkRat_eq_iff hd hd'];have h1:(n:Int)*(d':Int)=(n':Int)*(d:Int):=by rw[<-Int.natCast_mul,<-Int.natCast_mul,h]
 cases s
 .exact h1
 .simp only[zcI,Int.neg_mul,h1]
theorem zjo(s:Bool)(n:Nat):rq s n 0=rq s n 1:=rfl
theorem zpN(s:Bool)(m t:Nat)(e:Int):dq ⟨s,m,e+t⟩=dq ⟨s,2^t*m,e⟩:=by
 unfold dq;simp only;by_cases h1:0<=e
 .rw[if_pos (by omega),if_pos h1,show(e+(t:Int)).toNat=t+e.toNat from by omega,zxu];congr 1;grind
 .rw[if_neg h1];by_cases h2:0<=e+t
  .rw[if_pos h2,zjo];refine zqQ (by decide) (Nat.ne_of_gt (Nat.two_pow_pos _)) ?_;rw[Nat.mul_one,Nat.mul_assoc,<-zxu,zxF,show(e+(t:Int)).toNat+(-e).toNat=t from by omega]
  .rw[if_neg h2];refine zqQ (Nat.ne_of_gt (Nat.two_pow_pos _)) (Nat.ne_of_gt (Nat.two_pow_pos _)) ?_;rw[show(-e).toNat=t+(-(e+(t:Int))).toNat from by omega,zxu];grind
theorem zwf{s:Bool}{n:Nat}{e:Int}(h:nok n e=true):dq (nrm s n e)=dq ⟨s,n,e⟩:=by
 by_cases h0:n=0
 .subst h0;rw[zkz];unfold dq Dy.zero;simp only;have z:∀(b:Bool) (d:Nat),rq b 0 d=0:=by intro b d;unfold rq;cases b <;> simp[sgn]
  split <;> split <;> simp[z]
 .have h1:nrm s n e=⟨s,n/2^tz n,e+tz n⟩:=by unfold nrm;rw[if_neg h0,if_pos h]
  rw[h1,zpN,zqJ]
def zp(e:Int):Rat:=dq ⟨false,1,e⟩
theorem zpO(s:Bool)(m:Nat)(e:Int):dq ⟨s,m,e⟩=rq s m 0*zp e:=by
 unfold zp dq;simp only;have h:=ze6 s false m (1*2^e.toNat) 0 0;have h2:=ze6 s false m 1 0 (2^(-e).toNat);by_cases he:0<=e
 .rw[if_pos he,if_pos he,<-h];simp[dn];rfl
 .rw[if_neg he,if_neg he,<-h2];simp[dn]
theorem zuw(s:Bool)(n:Nat):rq s n 0=((sgn s n:Int):Rat):=by
 unfold rq;rw[show dn 0=1 from rfl,Rat.mkRat_one]
theorem zsi{n k:Nat}{e:Int}(h:(zab n).length<=k)(h1:-1048576<=e)(h2:e+32*k<=1048576):nok n e=true:=by
 by_cases h0:n=0
 .subst h0;rfl
 .have:=zh2 h;exact znl h0 (by omega) (by omega)
def nzz(m:Nat)(e:Int):Rat:=((m:Int):Rat)*zp e
theorem dq_nz(s:Bool)(m:Nat)(e:Int):dq ⟨s,m,e⟩=if s then -nzz m e else nzz m e:=by
 rw[zpO,zuw];unfold nzz;cases s
 .rfl
 .rw[zcI,Rat.intCast_neg,Rat.neg_mul];rfl
theorem zs6:dq Dy.zero=0:=by
 show dq ⟨false,0,0⟩=0;rw[dq_nz];unfold nzz;exact Rat.zero_mul _
@[reducible] def dnD(r:Rat)(p:Int):Dy:=rndD r p (decide (sg r<0))
@[reducible] def upD(r:Rat)(p:Int):Dy:=rndD r p (decide (0<sg r))
theorem zmY{r:Rat}{p:Int}{w:Bool}{H:Nat}(h:Hb r H)(hH:H<=790000):Hb (dq (rndD r p w)) (H+4100):=by
 by_cases hz:p<1\/4096<p\/r.num=0
 .have:rndD r p w=Dy.zero:=if_pos hz;rw[this,zs6];exact Hb.z
 .have h1:¬p<1:=fun e=>hz (.inl e);have h2:¬4096<p:=fun e=>hz (.inr (.inl e));have h3:¬r.num=0:=fun e=>hz (.inr (.inr e));rw[zd1 h1 h2 h3];unfold rnd;obtain⟨a,ha⟩:∃a,r.num.natAbs=a:=⟨_,rfl⟩;have ha0:a≠0:=by omega
  rw[ha];have hla:bl a<=H:=zas (ha ▸ h.num);have hlb:bl r.den<=H+1:=zas (by have:=h.den;have:=r.den_pos;rw[zxt];omega);have hlg:=zsu a r.den;have hq:=ztj (a:=a) (b:=r.den) (e:=lg a r.den-p+1) ha0 r.den_nz (by omega);obtain⟨e,he⟩:∃e,lg a r.den-p+1=e:=⟨_,rfl⟩;rw[he] at hq ⊢;have hq1:bl (scN a e/scD r.den e)=p.toNat:=by omega
  have hq2:scN a e/scD r.den e<2^p.toNat:=hq1 ▸ zgm _;have hq3:rndQ a r.den e w<=2^p.toNat:=by unfold rndQ;split <;> omega
  obtain⟨q,hqq⟩:∃q,rndQ a r.den e w=q:=⟨_,rfl⟩;rw[hqq] at hq3 ⊢;have hp2:p.toNat<=4096:=by omega
  have hl0:∀k:Nat,4096<32*k->(zab q).length<=k:=fun k hk=>by
   refine zae.2 (zxB hq3 ?_);rw[zcg];exact zxG (by decide) (by omega)
  have hl:=hl0 200 (by decide);rw[zwf (zsi hl (by omega) (by omega))];unfold dq;split
  .rename_i h0;simp only[] at h0;refine Hb.rq ?_ (Nat.one_le_two_pow);refine zxB (zxl _ hq3) ?_;rw[<-zxu];exact zxG (by decide) (by simp only[];omega)
  .rename_i h0;simp only[] at h0;refine Hb.rq (zxB hq3 (zxG (by decide) (by omega))) ?_;rw[zch (Nat.ne_of_gt (Nat.pow_pos (by decide)))];exact zxn (by decide) (by simp only[];omega)
def zde(x:Rat)(up:Bool)(bits:Int):Rat:=if bits=0 then x else if up=true then dq (upD x bits) else dq (dnD x bits)
theorem zr3{x:Rat}{up:Bool}{bits:Int}{H:Nat}(h:Hb x H)(hH:H<=790000):Hb (zde x up bits) (H+4100):=by
 unfold zde;split
 .exact h.mono (by omega)
 .split
  .exact zmY h hH
  .exact zmY h hH
theorem zfr{x:Rat}{up:Bool}{bits:Int}{H:Nat}(h:Hb x H)(hH:bits=0\/H<=790000):Hb (zde x up bits) (H+4100):=by
 rcases hH with h0|h0
 .unfold zde;rw[if_pos h0];exact h.mono (by omega)
 .exact zr3 h h0
theorem FOk.neg{b n:Nat}{f:Af}(h:FOk b n f):FOk b n (fSc f ((-1:Int):Rat)):=by
 have hneg:∀{x:Rat},Hb x b->Hb (x*((-1:Int):Rat)) b:=fun {x} hx=>by
  have:x*((-1:Int):Rat) = -x:=by rw[m1];grind
  rw[this];haveI:=hx;exact Hb.neg
 refine⟨by show CanT (scT f.ts _);rw[zdt];exact zeF h.can,fun t ht=>?_,hneg h.cb,fun t ht=>?_⟩
 .have ht:t∈scT f.ts ((-1:Int):Rat):=ht;rw[zdt] at ht;obtain⟨u,h1,h2,h3,_⟩:=zdb ht;rw[h3];exact hneg (h.bd u h1)
 .have ht:t∈scT f.ts ((-1:Int):Rat):=ht;rw[zdt] at ht;obtain⟨u,h1,h2,_⟩:=zdb ht;rw[<-h2];exact h.var u h1
def withL(s:Sc)(l:List Lm):Sc:=⟨s.q,s.path,l⟩
@[reducible] def zcS(p:Af):Af:=fSc p ((-1:Int):Rat)
theorem zmk:∀ts:List Tm,szT (scR ((-1:Int):Rat) ts)<=szT ts
 |[]=>zxe _
 |t::ts=>by
  have ih:=zmk ts;have e:t.2*((-1:Int):Rat) = -t.2:=by rw[m1];grind
  unfold scR;split
  .show _<=szR t.2+szT ts;omega
  .show szR (t.2*((-1:Int):Rat))+szT (scR ((-1:Int):Rat) ts)<=szR t.2+szT ts;rw[e,zml];omega
theorem FJ.neg{q:Qu}{j:Nat}{f:Af}(h:FJ q j f):FJ q j (zcS f):=by
 refine⟨h.fok.neg,?_⟩;have h1:=h.sz;have e:f.c*((-1:Int):Rat) = -f.c:=by rw[m1];grind
 have h2:szF (zcS f)<=szF f:=by
  show szR (f.c*((-1:Int):Rat))+szT (scT f.ts ((-1:Int):Rat))<=szR f.c+szT f.ts;rw[e,zml,zdt];have:=zmk f.ts;omega
 omega
def bdA(s:Sc)(l:List Lm)(j:Nat)(p:Af):List Lm:=if abB (withL s l) p=true then[⟨(j:Int),false,qOf (abQ (withL s l) p),abL (withL s l) p⟩] else[]
def bdB(s:Sc)(l:List Lm)(j:Nat)(p:Af):List Lm:=if abB (withL s l) (zcS p)=true then[⟨(j:Int),true,qOf (-abQ (withL s l) (zcS p)),abL (withL s l) (zcS p)⟩] else[]
def zn9(s:Sc)(l:List Lm)(j:Nat):List Lm:=
 match s.q.g.us[j]? with
 |none=>l
 |some p=>l++bdA s l j p++bdB s l j p
def bdN(s:Sc)(n:Nat):List Lm:=(List.range n).foldl (zn9 s) s.lems
theorem zp3(s:Sc)(n:Nat):bdN s (n+1)=zn9 s (bdN s n) n:=by unfold bdN;rw[List.range_succ,zxC];rfl
theorem ztl{s:Sc}{n:Nat}{p:Af}(h:s.q.g.us[n]?=some p):bdN s (n+1)=bdN s n++bdA s (bdN s n) n p++bdB s (bdN s n) n p:=by
 rw[zp3];unfold zn9;rw[h]
theorem znm{s:Sc}(h:SOk s){f:Af}{j:Nat}{up:Bool}{x:Rat}{l:List Mu}(hj:j<s.q.g.us.length)(hx:Hb x (KB s.q j)):LOk s.q ⟨(j:Int),up,qOf x,l⟩:=
 ⟨by simp,by simpa using hj,by rw[zao],by rw[zao];simpa using hx⟩
theorem LOk.withL{s:Sc}{l:List Lm}(h:SOk s)(hl:∀m∈l,LOk s.q m)(hll:l.length<=100):SOk (Rc.withL s l):=⟨h.q,h.d,h.pl,hl,hll⟩
theorem zwq{s:Sc}(h:SOk s){l:List Lm}{j:Nat}{p:Af}(hs:SOk (withL s l))(hp:s.q.g.us[j]?=some p):(∀m∈bdA s l j p,LOk s.q m)/\(bdA s l j p).length<=1:=by
 have hj:=(zxc.1 hp).1;unfold bdA;split
 .rename_i hb;refine⟨fun m hm=>?_,by simp⟩;rw[List.mem_singleton] at hm;subst hm;exact znm (f:=p) h hj ((zji hs hj (hs.q.fj hp) hb).mono (show KB s.q j-4200<=KB s.q j by omega))
 .exact⟨fun m hm=>by simp at hm,by simp⟩
theorem zwp{s:Sc}(h:SOk s){l:List Lm}{j:Nat}{p:Af}(hs:SOk (withL s l))(hp:s.q.g.us[j]?=some p):(∀m∈bdB s l j p,LOk s.q m)/\(bdB s l j p).length<=1:=by
 have hj:=(zxc.1 hp).1;unfold bdB;split
 .rename_i hb;refine⟨fun m hm=>?_,by simp⟩;rw[List.mem_singleton] at hm;subst hm;have h1:=zji hs hj (hs.q.fj hp).neg hb;haveI:=h1.mono (show KB s.q j-4200<=KB s.q j by omega);exact znm (f:=p) h hj Hb.neg
 .exact⟨fun m hm=>by simp at hm,by simp⟩
theorem zwo{s:Sc}(h:SOk s)(h80:s.lems.length<=80):∀n,n<=s.q.g.us.length->(∀m∈bdN s n,LOk s.q m)/\(bdN s n).length<=s.lems.length+2*n
 |0,_=>⟨h.l,zxe _⟩
 |n+1,hn=>by
  obtain⟨h1,h2⟩:=zwo h h80 n (by omega);have h4:=h.q.g.u4;have hs:=LOk.withL h h1 (by omega);obtain⟨p,hp⟩:∃p,s.q.g.us[n]?=some p:=⟨_,zxa (by omega)⟩;obtain⟨a1,a2⟩:=zwq h hs hp;obtain⟨b1,b2⟩:=zwp h hs hp;rw[ztl hp];refine⟨fun m hm=>?_,by simp only[zxq];omega⟩;rcases zxv.1 hm with hm|hm
  .rcases zxv.1 hm with hm|hm
   .exact h1 m hm
   .exact a1 m hm
  .exact b1 m hm
def za0(l:List Lm)(j:Nat)(up:Bool)(x:Rat):Bool:=
 if up=true then decide ((zaR l (j:Int)).2=0)||decide (x<lv l (zaR l (j:Int)).2) else decide ((zaR l (j:Int)).1=0)||decide (lv l (zaR l (j:Int)).1<x)
abbrev Dom:Type:=Sc->Af->Rat×List Mu×Bool
def zda(d:Dom)(s:Sc)(bits:Int)(up:Bool)(p:Af):Rat:=if up=true then zde (-(d s (zcS p)).1) true bits else zde (d s p).1 false bits
def zmy(d:Dom)(s:Sc)(up:Bool)(p:Af):List Mu:=if up=true then(d s (zcS p)).2.1 else(d s p).2.1
def zib(d:Dom)(s:Sc)(up:Bool)(p:Af):Bool:=if up=true then(d s (zcS p)).2.2 else(d s p).2.2
def zbH(d:Dom)(s:Sc)(bits:Int)(j:Nat)(up:Bool)(p:Af):List Lm:=
 if zib d s up p&&za0 s.lems j up (zda d s bits up p) then[⟨(j:Int),up,qOf (zda d s bits up p),zmy d s up p⟩] else[]
def zbp(d:Dom)(s:Sc)(bits:Int)(l:List Lm)(j:Nat)(p:Af):List Lm:=l++zbH d (withL s l) bits j false p
def zhm(d:Dom)(s:Sc)(bits:Int)(l:List Lm)(j:Nat):List Lm:=
 match s.q.g.us[j]? with
 |none=>l
 |some p=>zbp d s bits l j p++zbH d (withL s (zbp d s bits l j p)) bits j true p
def runN(d:Dom)(s:Sc)(bits:Int)(n:Nat):List Lm:=(List.range n).foldl (zhm d s bits) s.lems
theorem zig(d:Dom)(s:Sc)(bits:Int)(n:Nat):runN d s bits (n+1)=zhm d s bits (runN d s bits n) n:=by unfold runN;rw[List.range_succ,zxC];rfl
theorem zdc{d:Dom}{s:Sc}{bits:Int}{n:Nat}{p:Af}(h:s.q.g.us[n]?=some p) :
  runN d s bits (n+1)=zbp d s bits (runN d s bits n) n p++zbH d (withL s (zbp d s bits (runN d s bits n) n p)) bits n true p:=by
 rw[zig];unfold zhm;rw[h]
def zdI(d:Dom)(s:Sc)(bits:Int):Sc:=withL s (runN d s bits s.q.g.us.length)
def zje(d:Dom):Prop:=∀(s:Sc),SOk s->∀(j:Nat) (f:Af),j<s.q.g.us.length->FJ s.q j f->(d s f).2.2=true->Hb (d s f).1 (KB s.q j-4200)
theorem zkj{d:Dom}(hd:zje d){s:Sc}(h:SOk s){bits:Int}(hbt:bits=0\/Sml s.q){j:Nat}{up:Bool}{p:Af}(hp:s.q.g.us[j]?=some p):(∀m∈zbH d s bits j up p,LOk s.q m)/\(zbH d s bits j up p).length<=1:=by
 have hj:=(zxc.1 hp).1;have hK:5000<=KB s.q j:=KB_ge s.q j;have hK2:bits=0\/KB s.q j-4200<=790000:=hbt.imp id (fun e=>by have:=zru e hj;omega);unfold zbH;split
 .rename_i hb;rw[zxo] at hb;refine⟨fun m hm=>?_,by simp⟩;rw[List.mem_singleton] at hm;subst hm;refine znm (f:=p) h hj ?_;have hb1:=hb.1;unfold zib at hb1;unfold zda;split
  .rename_i hu;rw[if_pos hu] at hb1;haveI:=hd s h j _ hj (h.q.fj hp).neg hb1;exact(zfr (H:=KB s.q j-4200) Hb.neg hK2).mono (by omega)
  .rename_i hu;rw[if_neg hu] at hb1;exact(zfr (hd s h j _ hj (h.q.fj hp) hb1) hK2).mono (by omega)
 .exact⟨fun m hm=>by simp at hm,by simp⟩
theorem zmO{d:Dom}(hd:zje d){s:Sc}(h:SOk s){bits:Int}(hbt:bits=0\/Sml s.q){l:List Lm}{j:Nat}{p:Af}(hs:SOk (withL s l))(hp:s.q.g.us[j]?=some p) :
  (∀m∈zbp d s bits l j p,LOk s.q m)/\(zbp d s bits l j p).length<=l.length+1:=by
 obtain⟨a1,a2⟩:=zkj hd (bits:=bits) (up:=false) hs hbt hp;unfold zbp;refine⟨fun m hm=>?_,by simp only[zxq];omega⟩;rcases zxv.1 hm with hm|hm
 .exact hs.l m hm
 .exact a1 m hm
theorem zhn{d:Dom}(hd:zje d){s:Sc}(h:SOk s)(h80:s.lems.length<=80)(bits:Int)(hbt:bits=0\/Sml s.q):∀n,n<=s.q.g.us.length->(∀m∈runN d s bits n,LOk s.q m)/\(runN d s bits n).length<=s.lems.length+2*n
 |0,_=>⟨h.l,zxe _⟩
 |n+1,hn=>by
  obtain⟨h1,h2⟩:=zhn hd h h80 bits hbt n (by omega);have h4:=h.q.g.u4;have hs:=LOk.withL h h1 (by omega);obtain⟨p,hp⟩:∃p,s.q.g.us[n]?=some p:=⟨_,zxa (by omega)⟩;obtain⟨a1,a2⟩:=zmO hd h (bits:=bits) hbt hs hp;have hs2:=LOk.withL h a1 (by omega);obtain⟨b1,b2⟩:=zkj hd (bits:=bits) (up:=true) hs2 hbt hp;rw[zdc hp];refine⟨fun m hm=>?_,by simp only[zxq];omega⟩;rcases zxv.1 hm with hm|hm
  .exact a1 m hm
  .exact b1 m hm
theorem zkp{d:Dom}(hd:zje d){s:Sc}(h:SOk s)(h80:s.lems.length<=80){bits:Int}(hbt:bits=0\/Sml s.q){n:Nat}(hn:n<=s.q.g.us.length):SOk (withL s (runN d s bits n)):=by
 obtain⟨h1,h2⟩:=zhn hd h h80 bits hbt n hn;have h4:=h.q.g.u4;exact LOk.withL h h1 (by omega)
theorem zrW{d:Dom}(hd:zje d){s:Sc}(h:SOk s)(h80:s.lems.length<=80)(bits:Int)(hbt:bits=0\/Sml s.q):SOk (zdI d s bits)/\(zdI d s bits).lems.length<=s.lems.length+16:=by
 have h4:=h.q.g.u4;obtain⟨h1,h2⟩:=zhn hd h h80 bits hbt s.q.g.us.length (zxe _);exact⟨zkp hd h h80 hbt (zxe _),by show(runN d s bits s.q.g.us.length).length<=_;omega⟩
def za9:Dom:=fun s f=>(abQ s f,abL s f,abB s f)
theorem zjR:zje za9:=fun s h j f hj hf hb=>zji h hj hf hb
end Rc
namespace Go.Proofs.YticnclbnchgigaaGreatDoor
open Go Go.RowKit Rc
theorem zls(f:Af){b n:Nat}(h:FOk b n f)(hb:b<=33554432)(vars:Nat)(hv:n<=vars)(hv2:vars<=1000):Ctr Tryz.prog 24 [afV f,V.one (Leaf.val (.int .i64 ((vars:Int))))] (R.one (V.one (Leaf.val (.bool true)))):=zfL f h (by omega) vars hv hv2
theorem zsr(s:Sc)(hs:SOk s)(f:Af){bf:Nat}(hf:FOk bf (s.q.g.inp+s.q.g.us.length) f)(hb5:bf<=33554432):Ctr Tryz.prog 145 [scV s,afV f] (R.tup [qV (qOf (abQ s f)),V.one (El.row muE (abL s f)),V.one (Leaf.val (.bool (abB s f)))]):=by
 refine bd_ Tryz.func145 Tryz.ntmps145 rfl (fun w0 A0=>?_);have hq:=hs.q;have hd:=hs.d;have hpl:=hs.pl;have hB:=hs.B;have hll:=hs.ll;have hg:=hq.g;have hr:=hq.r;have hlo:=hr.lo;have hhi:=hr.hi;have g1:=hg.i1;have g2:=hg.i3;have g3:=hg.u4;have g4:=hg.o1;have g5:=hg.o3;refine zc 11 rfl (dr_ 0 [] [] (dz 2 rfl (kc_ fn7 rfl (zku s.q hq) (dz 6 rfl (kc_ fn25 rfl (zqH s.q.g hg) (kc_ zsY rfl (zls f hf (by omega) (s.q.g.inp+s.q.g.us.length) (zxe _) (by omega)) (dz 2 rfl (zad (za 8 rfl ?_)))))))));refine tc_ fn146 rfl (ztt s hB (by omega) (by omega) hq hd (by omega) (by omega) f hf (by omega)) (zl 8 rfl ?_);exact r3_ hq_ rfl rfl
end Go.Proofs.YticnclbnchgigaaGreatDoor
namespace Rc
open Go Go.RowKit
theorem zkX{p q:Rat}:zgc p q = -1↔p<q:=by unfold zgc;split <;> grind
theorem zkY{p q:Rat}:zgc p q=1↔q<p:=by unfold zgc;split <;> grind
section
variable {d:Dom}{s:Sc}{bits:Int}{j:Nat}{up:Bool}{p:Af}
theorem zhl(h1:zib d s up p=true)(h2:za0 s.lems j up (zda d s bits up p)=true):zbH d s bits j up p=[⟨(j:Int),up,qOf (zda d s bits up p),zmy d s up p⟩]:=by
 unfold zbH;rw[h1,h2];rfl
theorem zkl(h1:zib d s up p=false):zbH d s bits j up p=[]:=by unfold zbH;rw[h1];rfl
theorem zkk(h2:za0 s.lems j up (zda d s bits up p)=false):zbH d s bits j up p=[]:=by unfold zbH;rw[h2,Bool.and_false];rfl
end
theorem zh6{l:List Lm}{j:Nat}{x:Rat}(h:(zaR l (j:Int)).2=0\/x<lv l (zaR l (j:Int)).2):za0 l j true x=true:=by
 unfold za0;rw[if_pos rfl,Bool.or_eq_true];exact h.elim (fun h=>.inl (decide_eq_true h)) (fun h=>.inr (decide_eq_true h))
theorem zmu{l:List Lm}{j:Nat}{x:Rat}(h:¬(zaR l (j:Int)).2=0)(h':¬x<lv l (zaR l (j:Int)).2):za0 l j true x=false:=by
 unfold za0;rw[if_pos rfl,decide_eq_false h,decide_eq_false h'];rfl
theorem zh7{l:List Lm}{j:Nat}{x:Rat}(h:(zaR l (j:Int)).1=0\/lv l (zaR l (j:Int)).1<x):za0 l j false x=true:=by
 unfold za0;rw[if_neg (by decide),Bool.or_eq_true];exact h.elim (fun h=>.inl (decide_eq_true h)) (fun h=>.inr (decide_eq_true h))
theorem zmw{l:List Lm}{j:Nat}{x:Rat}(h:¬(zaR l (j:Int)).1=0)(h':¬lv l (zaR l (j:Int)).1<x):za0 l j false x=false:=by
 unfold za0;rw[if_neg (by decide),decide_eq_false h,decide_eq_false h'];rfl
def mrg(c:Rat):List Tm->List Tm->List Tm
 |[],[]=>[]
 |x::a,[]=>(if x.2=0 then[] else[x])++mrg c a []
 |[],y::b=>(if y.2*c=0 then[] else[(y.1,y.2*c)])++mrg c [] b
 |x::a,y::b=>if x.1<y.1 then(if x.2=0 then[] else[x])++mrg c a (y::b)
   else if y.1<x.1 then(if y.2*c=0 then[] else[(y.1,y.2*c)])++mrg c (x::a) b
   else(if x.2+y.2*c=0 then[] else[(x.1,x.2+y.2*c)])++mrg c a b
termination_by a b=>a.length+b.length
theorem ziu(l:List Tm)(v:Nat)(c:Rat):nz l (v,c)=l++(if c=0 then[] else[(v,c)]):=by
 by_cases h:c=0
 .rw[zfa h,if_pos h,zxy]
 .rw[zdw h,if_neg h]
section
variable {c:Rat}{a b:List Tm}{i j:Nat}{x y:Tm}{out:List Tm}
theorem zfw{l:List Tm}{i:Nat}(h:¬i<l.length):l.drop i=[]:=List.drop_of_length_le (by omega)
theorem mrg_l(hx:a[i]?=some x)(hj:¬j<b.length):out++mrg c (a.drop i) (b.drop j)=nz out (x.1,x.2)++mrg c (a.drop (i+1)) (b.drop j):=by
 rw[zbs hx,zfw hj,ziu,zxD];show _++mrg c (x::_) []=_;rw[mrg]
theorem mrg_r(hi:¬i<a.length)(hy:b[j]?=some y):out++mrg c (a.drop i) (b.drop j)=nz out (y.1,y.2*c)++mrg c (a.drop i) (b.drop (j+1)):=by
 rw[zbs hy,zfw hi,ziu,zxD,mrg]
theorem zuI(hx:a[i]?=some x)(hy:b[j]?=some y)(h:x.1<y.1):out++mrg c (a.drop i) (b.drop j)=nz out (x.1,x.2)++mrg c (a.drop (i+1)) (b.drop j):=by
 rw[zbs hx,zbs hy,ziu,zxD,mrg,if_pos h]
theorem zuJ(hx:a[i]?=some x)(hy:b[j]?=some y)(h:¬x.1<y.1)(h':y.1<x.1):out++mrg c (a.drop i) (b.drop j)=nz out (y.1,y.2*c)++mrg c (a.drop i) (b.drop (j+1)):=by
 rw[zbs hx,zbs hy,ziu,zxD,mrg,if_neg h,if_pos h']
theorem zuK(hx:a[i]?=some x)(hy:b[j]?=some y)(h:¬x.1<y.1)(h':¬y.1<x.1):out++mrg c (a.drop i) (b.drop j)=nz out (x.1,x.2+y.2*c)++mrg c (a.drop (i+1)) (b.drop (j+1)):=by
 rw[zbs hx,zbs hy,ziu,zxD,mrg,if_neg h,if_neg h']
theorem zso(hi:¬i<a.length)(hj:¬j<b.length):out++mrg c (a.drop i) (b.drop j)=out:=by
 rw[zfw hi,zfw hj,mrg,zxy]
end
theorem zcR(c:Rat):∀(a b:List Tm) (t:Tm),t∈mrg c a b->(∃u∈a,u.1=t.1) \/ ∃u∈b,u.1=t.1
 |[],[],t,h=>by rw[mrg] at h;simp at h
 |x::a,[],t,h=>by
  rw[mrg] at h;rcases zxv.1 h with h|h
  .split at h
   .simp at h
   .rw[List.mem_singleton] at h;subst h;exact .inl ⟨t,by simp,rfl⟩
  .rcases zcR c a [] t h with⟨u,hu,e⟩|⟨u,hu,_⟩
   .exact .inl ⟨u,by simp[hu],e⟩
   .simp at hu
 |[],y::b,t,h=>by
  rw[mrg] at h;rcases zxv.1 h with h|h
  .split at h
   .simp at h
   .rw[List.mem_singleton] at h;subst h;exact .inr ⟨y,by simp,rfl⟩
  .rcases zcR c [] b t h with⟨u,hu,_⟩|⟨u,hu,e⟩
   .simp at hu
   .exact .inr ⟨u,by simp[hu],e⟩
 |x::a,y::b,t,h=>by
  rw[mrg] at h;split at h
  .rcases zxv.1 h with h|h
   .split at h
    .simp at h
    .rw[List.mem_singleton] at h;subst h;exact .inl ⟨t,by simp,rfl⟩
   .rcases zcR c a (y::b) t h with⟨u,hu,e⟩|h
    .exact .inl ⟨u,by simp[hu],e⟩
    .exact .inr h
  .split at h
   .rcases zxv.1 h with h|h
    .split at h
     .simp at h
     .rw[List.mem_singleton] at h;subst h;exact .inr ⟨y,by simp,rfl⟩
    .rcases zcR c (x::a) b t h with h|⟨u,hu,e⟩
     .exact .inl h
     .exact .inr ⟨u,by simp[hu],e⟩
   .rcases zxv.1 h with h|h
    .split at h
     .simp at h
     .rw[List.mem_singleton] at h;subst h;exact .inl ⟨x,by simp,rfl⟩
    .rcases zcR c a b t h with⟨u,hu,e⟩|⟨u,hu,e⟩
     .exact .inl ⟨u,by simp[hu],e⟩
     .exact .inr ⟨u,by simp[hu],e⟩
termination_by a b=>a.length+b.length
theorem zgf{v:Nat}{d:Rat}{l:List Tm}(h:CanT l)(hv:∀t∈l,v<t.1):CanT ((if d=0 then[] else[(v,d)])++l):=by
 split
 .exact h
 .rename_i hd;exact⟨hd,hv,h⟩
theorem ziT{v:Nat}{d:Rat}{l:List Tm}(hv:∀t∈l,v<t.1)(x:Nat):co ((if d=0 then[] else[(v,d)])++l) x=if v=x then d else co l x:=by
 split
 .rename_i hd;by_cases e:v=x
  .subst e;rw[if_pos rfl,hd];exact zcv hv
  .rw[if_neg e];rfl
 .rfl
theorem zeQ(c:Rat):∀(a b:List Tm),CanT a->CanT b->CanT (mrg c a b)/\∀v,co (mrg c a b) v=co a v+co b v*c
 |[],[],_,_=>by rw[mrg];exact⟨trivial,fun v=>by show(0:Rat)=0+0*c;grind⟩
 |(w,d)::a,[],ha,hb=>by
  obtain⟨h1,h2,h3⟩:=ha;obtain⟨i1,i2⟩:=zeQ c a [] h3 trivial;have hv:∀t∈mrg c a [],w<t.1:=fun t ht=>by
   rcases zcR c a [] t ht with⟨u,hu,e⟩|⟨u,hu,_⟩
   .rw[<-e];exact h2 u hu
   .simp at hu
  rw[mrg];refine⟨zgf i1 hv,fun v=>?_⟩;rw[ziT hv,i2];show _=(if w=v then d else co a v)+0*c;show(if w=v then d else co a v+0*c)=_;split <;> grind
 |[],(w,d)::b,ha,hb=>by
  obtain⟨h1,h2,h3⟩:=hb;obtain⟨i1,i2⟩:=zeQ c [] b trivial h3;have hv:∀t∈mrg c [] b,w<t.1:=fun t ht=>by
   rcases zcR c [] b t ht with⟨u,hu,_⟩|⟨u,hu,e⟩
   .simp at hu
   .rw[<-e];exact h2 u hu
  rw[mrg];refine⟨zgf i1 hv,fun v=>?_⟩;rw[ziT hv,i2];show(if w=v then d*c else 0+co b v*c)=0+(if w=v then d else co b v)*c;split <;> grind
 |(w,d)::a,(z,e)::b,ha,hb=>by
  obtain⟨h1,h2,h3⟩:=ha;obtain⟨g1,g2,g3⟩:=hb;have cva:∀v,co ((w,d)::a) v=if w=v then d else co a v:=fun _=>rfl;have cvb:∀v,co ((z,e)::b) v=if z=v then e else co b v:=fun _=>rfl;rw[mrg];by_cases hlt:w<z
  .rw[if_pos (show((w,d):Tm).1<((z,e):Tm).1 from hlt)];obtain⟨i1,i2⟩:=zeQ c a ((z,e)::b) h3 ⟨g1,g2,g3⟩;have hv:∀t∈mrg c a ((z,e)::b),w<t.1:=fun t ht=>by
    rcases zcR c a _ t ht with⟨u,hu,e⟩|⟨u,hu,e⟩
    .rw[<-e];exact h2 u hu
    .rw[<-e];rcases zxE.1 hu with rfl|hu
     .exact hlt
     .have:=g2 u hu;omega
   refine⟨zgf i1 hv,fun v=>?_⟩;rw[ziT hv,i2,cva];split
   .rename_i e1;subst e1;have:co ((z,e)::b) w=0:=zcv (fun t ht=>by
     rcases zxE.1 ht with rfl|ht
     .exact hlt
     .have:=g2 t ht;omega)
    rw[this];grind
   .rfl
  .rw[if_neg (show ¬((w,d):Tm).1<((z,e):Tm).1 from hlt)];have hnl:¬w<z:=hlt;by_cases hgt:z<w
   .rw[if_pos (show((z,e):Tm).1<((w,d):Tm).1 from hgt)];obtain⟨i1,i2⟩:=zeQ c ((w,d)::a) b ⟨h1,h2,h3⟩ g3;have hv:∀t∈mrg c ((w,d)::a) b,z<t.1:=fun t ht=>by
     rcases zcR c _ b t ht with⟨u,hu,e⟩|⟨u,hu,e⟩
     .rw[<-e];rcases zxE.1 hu with rfl|hu
      .exact hgt
      .have:=h2 u hu;omega
     .rw[<-e];exact g2 u hu
    refine⟨zgf i1 hv,fun v=>?_⟩;rw[ziT hv,i2,cvb];split
    .rename_i e1;subst e1;have:co ((w,d)::a) z=0:=zcv (fun t ht=>by
      rcases zxE.1 ht with rfl|ht
      .exact hgt
      .have:=h2 t ht;omega)
     rw[this];grind
    .rfl
   .rw[if_neg (show ¬((z,e):Tm).1<((w,d):Tm).1 from hgt)];have hng:¬z<w:=hgt;have hwz:w=z:=by omega
    subst hwz;obtain⟨i1,i2⟩:=zeQ c a b h3 g3;have hv:∀t∈mrg c a b,w<t.1:=fun t ht=>by
     rcases zcR c a b t ht with⟨u,hu,e⟩|⟨u,hu,e⟩
     .rw[<-e];exact h2 u hu
     .rw[<-e];exact g2 u hu
    refine⟨zgf i1 hv,fun v=>?_⟩;rw[ziT hv,i2,cva,cvb];split <;> rfl
termination_by a b=>a.length+b.length
theorem zrT{ts:List Tm}{c:Rat}(h:CanT ts):CanT (scT ts c):=by rw[zdt];exact zeF h
theorem zsn{b:List Tm}{c:Rat}(hb:CanT b):mrg c [] b=scT b c:=by
 obtain⟨h1,h2⟩:=zeQ c [] b trivial hb;refine zri h1 (zrT hb) (fun v=>?_);rw[h2,zdt,zkT hb];show(0:Rat)+_=_;grind
end Rc
namespace Go.Proofs.YticnclbnchgigaaGreatDoor
open Go Go.RowKit Rc
theorem zej(l:List Tm)(hl:l.length<=1000000)(k:Rat)(v:Nat)(c:Rat){B:Nat}[Br c B](hB:B<=400000000000):CtrO Tryz.prog 63 53 4 (El.all tmE l) (El.all tmE (nz l (v,c))) [V.agg [Leaf.own 0 0,Leaf.val (.bool (zbx k)),zaf (zab (zaV k)),zaf (zab (zaW k))],V.one (Leaf.val (.int .i64 ((v:Int)))),V.agg (qL (c))] (fun n=>V.agg [Leaf.own 0 n,Leaf.val (.bool (zbx k)),zaf (zab (zaV k)),zaf (zab (zaW k))]):=by
 refine CtrO.of_body Tryz.func63 rfl Tryz.ntmps63 (zxh rfl) (fun w0 A0=>?_);refine qc_ (zc 11 rfl (tc_ zpI rfl (zhp (qOf (c)) (c) (zao _) (Br.use (by omega))) ?_));by_cases hc0:c≠0
 .refine tq_ rfl (neT rfl (zfi hc0)) (zl 3 rfl (dr_ 0 [(7,0),(9,1)] [0,1] (dz 1 rfl (kp_ [0] rfl (jld rfl) (dz 2 rfl (kc_ zsX rfl (zfQ (qOf (c)) (c) (zao _) (Br.use (by omega))) (dz 1 rfl (ke_ rfl (fun _=>zag rfl zj8 zl5 zug rfl (by decide) (by decide) rfl (by decide) rfl) (ki_ 0 rfl (dap (v,c) rfl rfl) ?_)))))))));refine dz 2 rfl (zad (za 7 rfl ?_));exact zhN (fun _ _ h=>h) rfl (⟨_,_,rfl,rfl,.inl ⟨zh3,zxh rfl,rfl⟩⟩) rfl rfl (by rw[zdw hc0]) (hcl:=by first|rfl|exact El.all_cl _ _)
 .refine tq_ rfl (neF rfl (by rw[Classical.not_not.1 hc0];rfl)) (zl 11 rfl ?_);exact zhN (fun _ _ h=>h) rfl (⟨_,_,rfl,rfl,.inl ⟨zh3,zxh rfl,rfl⟩⟩) rfl rfl (by rw[zfa (Classical.not_not.1 hc0)]) (hcl:=by first|rfl|exact El.all_cl _ _)
set_option maxHeartbeats 2000000 in
theorem zsq(f g:Af)(c:Rat){B C K n:Nat}(hf:FL B n f)(hg:FL C n g)[Br c K](h1:B<=10000000000)(h2:C<=10000000000)(h3:K<=10000000000)(hn:n<=1000):Ctr Tryz.prog 34 [afV f,afV g,V.agg (qL (c))] (R.one (afV ⟨mrg c f.ts g.ts,f.c+g.c*c⟩)):=by
 refine bd_ Tryz.func34 Tryz.ntmps34 rfl (fun w0 A0=>?_);haveI:=hf.fm (by omega);haveI:=hf.cb;haveI:=hg.fm (by omega);haveI:=hg.cb;have hfl:=(hf.fm (by omega)).len;have hgl:=(hg.fm (by omega)).len;refine zc 9 rfl (dr_ 1 [(8,4),(9,4)] [4] (dz 5 rfl (kc_ zw1 rfl (zwV (qOf (g.c)) (g.c) (zao _) (Br.use (by omega)) (qOf (c)) (c) (zao _) (Br.use (by omega))) (kc_ fn61 rfl (qadd (qOf (f.c)) (f.c) (zao _) (Br.use (by omega)) (qOf ((g.c)*(c))) ((g.c)*(c)) (zao _) (Br.use (by omega))) (kq_ rfl (zfC rfl zwU rfl pl35 rfl) ?_)))));refine ki_ 4 rfl (zle (i:=4) rfl zwU rfl) (dz 1 rfl (zad (za 2 rfl (zdi 4 53 4 (ls':=[Leaf.own 5 0,Leaf.val (.bool (zbx ((f.c)+((g.c)*(c))))),zaf (zab (zaV ((f.c)+((g.c)*(c))))),zaf (zab (zaW ((f.c)+((g.c)*(c)))))]) rfl rfl rfl ⟨.inr ⟨rfl,rfl⟩,.inl rfl,.inl rfl,.inl rfl,trivial⟩ (dr_ 0 [] [] (dz 6 rfl (zad (za 3 rfl ?_))))))));refine fr_ [0,1] rfl ?_;refine zbO (fun m Γ H=>∃(i j:Nat) (m_:Nat) (out:List Tm),(f.ts.length-i)+(g.ts.length-j)=m/\Γ=[(5,some (D.ptr 2 0)),(6,some (D.ptr 3 0)),(7,some (D.ptr 4 0)),(8,some (D.v (V.one (El.row tmE (f.ts.drop i))))),(9,some (D.v (V.one (El.row tmE (g.ts.drop j)))))]/\H=[none,none,hb_ 33 (qL c),hb_ 35 [El.row tmE ([]),Leaf.val (.bool false),zaf ([]),zaf ([])],hb_ 35 [Leaf.own 5 m_,Leaf.val (.bool (zbx ((f.c)+((g.c)*(c))))),zaf (zab (zaV ((f.c)+((g.c)*(c))))),zaf (zab (zaW ((f.c)+((g.c)*(c)))))],hgr 53 4 tmE out m_]/\i<=f.ts.length/\j<=g.ts.length/\out.length<=i+j/\out++mrg c (f.ts.drop i) (g.ts.drop j)=mrg c f.ts g.ts) ⟨0,0,0,[],rfl,rfl,rfl,zxg _,zxg _,zxg _,rfl⟩ rfl ?_;rintro m Γ H ⟨i,j,m_,out,rfl,rfl,rfl,hi0,hj0,hol,hinv⟩;refine zc 4 rfl (tq_ rfl (jln rfl) ?_);by_cases hi:i<f.ts.length
 .refine tq_ rfl (gtT rfl (by rw[zxA];omega)) (zl 13 rfl ?_);by_cases hj:j<g.ts.length
  .obtain⟨x,hx⟩:∃x,f.ts[i]?=some x:=⟨_,zxa hi⟩;have hx0:(f.ts.drop i)[0]?=some x:=by rw[List.getElem?_drop];exact hx
   haveI hxb:=hf.bd x (zxb hx);refine dr_ 0 [] [] ?_;obtain⟨y,hy⟩:∃y,g.ts[j]?=some y:=⟨_,zxa hj⟩;have hy0:(g.ts.drop j)[0]?=some y:=by rw[List.getElem?_drop];exact hy
   haveI hyb:=hg.bd y (zxb hy);refine dz 1 rfl (kq_ rfl (jln rfl) (kq_ rfl (eqF rfl (by rw[zxA];omega)) (dz 2 rfl (kq_ rfl (jln rfl) (kq_ rfl (gtT rfl (by rw[zxA];omega)) (dz 2 rfl (kq_ rfl (jix 0 hx0 rfl) (kq_ rfl (jfr rfl) (kq_ rfl (jli rfl) ?_)))))))));refine dz 1 rfl (kq_ rfl (jix 0 hy0 rfl) (kq_ rfl (jfr rfl) (kq_ rfl (jli rfl) ?_)));by_cases hlt:x.1<y.1
   .refine kq_ rfl (ltT rfl) (dz 3 rfl (zad (za 3 rfl (dr_ 0 [(9,5),(10,4)] [5,4] (kp_ [5] rfl (zbe rfl rfl rfl (by decide) zh3 (by decide) (zxh rfl) rfl) (dz 1 rfl (kq_ rfl (jix 0 hx0 rfl) (kq_ rfl (jfr rfl) (kq_ rfl (jli rfl) ?_)))))))));refine dz 1 rfl (kq_ rfl (jix 0 hx0 rfl) (kq_ rfl (jfr rfl) (kq_ rfl (jlr rfl) ?_)));refine ki_ 5 rfl (zdQ (r:=5) (ys:=[V.agg [Leaf.own 5 m_,Leaf.val (.bool (zbx ((f.c)+((g.c)*(c))))),zaf (zab (zaV ((f.c)+((g.c)*(c))))),zaf (zab (zaW ((f.c)+((g.c)*(c)))))],V.one (Leaf.val (.int .i64 ((x.1:Nat):Int))),V.agg (qL x.2)]) (V.agg [Leaf.own 5 (m_+1),Leaf.val (.bool (zbx ((f.c)+((g.c)*(c))))),zaf (zab (zaV ((f.c)+((g.c)*(c))))),zaf (zab (zaW ((f.c)+((g.c)*(c)))))]) rfl zvZ rfl rfl (zej out (by omega) ((f.c)+((g.c)*(c))) x.1 x.2 (by omega)) (zfm _ _)) ?_;refine dz 1 rfl (zad (za 3 rfl (tq_ rfl (zbc tmE (f.ts.drop i) (1) rfl rfl rfl zj8 zl5 rfl (by rw[zxA];omega)) (eq_ (D.v (V.one (tmE.row (f.ts.drop (i+1))))) rfl (by rw[List.drop_drop]) (zl 4 rfl ?_)))));exact nx_ ⟨i+1,j,_,_,rfl,rfl,rfl,by omega,by omega,(by have h1:=zdm out (x.1,x.2);omega),by rw[<-hinv,zuI hx hy hlt]⟩ rfl
   .refine kq_ rfl (ltF rfl) (dz 3 rfl (zad (za 3 rfl (dr_ 0 [] [] (dz 1 rfl (kq_ rfl (jln rfl) (kq_ rfl (eqF rfl (by rw[zxA];omega)) (dz 2 rfl (kq_ rfl (jix 0 hy0 rfl) ?_)))))))));refine kq_ rfl (jfr rfl) (kq_ rfl (jli rfl) (dz 1 rfl (kq_ rfl (jix 0 hx0 rfl) (kq_ rfl (jfr rfl) (kq_ rfl (jli rfl) ?_)))));by_cases hgt:y.1<x.1
    .refine kq_ rfl (ltT rfl) (dz 2 rfl (zad (za 3 rfl (dr_ 0 [(11,5),(12,4)] [5,4] (kp_ [5] rfl (zbe rfl rfl rfl (by decide) zh3 (by decide) (zxh rfl) rfl) (dz 1 rfl (kq_ rfl (jix 0 hy0 rfl) (kq_ rfl (jfr rfl) (kq_ rfl (jli rfl) ?_)))))))));refine dz 1 rfl (kq_ rfl (jix 0 hy0 rfl) (kq_ rfl (jfr rfl) (kq_ rfl (jlr rfl) (dz 1 rfl (kc_ zw1 rfl (zwV (qOf (y.2)) (y.2) (zao _) (Br.use (by omega)) (qOf (c)) (c) (zao _) (Br.use (by omega))) ?_)))));refine ki_ 5 rfl (zdQ (r:=5) (ys:=[V.agg [Leaf.own 5 m_,Leaf.val (.bool (zbx ((f.c)+((g.c)*(c))))),zaf (zab (zaV ((f.c)+((g.c)*(c))))),zaf (zab (zaW ((f.c)+((g.c)*(c)))))],V.one (Leaf.val (.int .i64 ((y.1:Nat):Int))),V.agg (qL ((y.2)*(c)))]) (V.agg [Leaf.own 5 (m_+1),Leaf.val (.bool (zbx ((f.c)+((g.c)*(c))))),zaf (zab (zaV ((f.c)+((g.c)*(c))))),zaf (zab (zaW ((f.c)+((g.c)*(c)))))]) rfl zvZ rfl rfl (zej out (by omega) ((f.c)+((g.c)*(c))) y.1 ((y.2)*(c)) (by omega)) (zfm _ _)) ?_;refine dz 1 rfl (zad (za 3 rfl (tq_ rfl (zbc tmE (g.ts.drop j) (1) rfl rfl rfl zj8 zl5 rfl (by rw[zxA];omega)) (eq_ (D.v (V.one (tmE.row (g.ts.drop (j+1))))) rfl (by rw[List.drop_drop]) (zl 4 rfl ?_)))));exact nx_ ⟨i,j+1,_,_,rfl,rfl,rfl,by omega,by omega,(by have h1:=zdm out (y.1,y.2*c);omega),by rw[<-hinv,zuJ hx hy hlt hgt]⟩ rfl
    .refine kq_ rfl (ltF rfl) (dz 2 rfl (zad (za 3 rfl (dr_ 0 [(16,5),(17,4)] [5,4] (kp_ [5] rfl (zbe rfl rfl rfl (by decide) zh3 (by decide) (zxh rfl) rfl) (dz 1 rfl (kq_ rfl (jix 0 hx0 rfl) (kq_ rfl (jfr rfl) (kq_ rfl (jli rfl) ?_)))))))));refine dz 1 rfl (kq_ rfl (jix 0 hx0 rfl) (kq_ rfl (jfr rfl) (kq_ rfl (jlr rfl) (dz 1 rfl (kq_ rfl (jix 0 hy0 rfl) (kq_ rfl (jfr rfl) (kq_ rfl (jlr rfl) (dz 1 rfl (kc_ zw1 rfl (zwV (qOf (y.2)) (y.2) (zao _) (Br.use (by omega)) (qOf (c)) (c) (zao _) (Br.use (by omega))) ?_)))))))));refine kc_ fn61 rfl (qadd (qOf (x.2)) (x.2) (zao _) (Br.use (by omega)) (qOf ((y.2)*(c))) ((y.2)*(c)) (zao _) (Br.use (by omega))) ?_;refine ki_ 5 rfl (zdQ (r:=5) (ys:=[V.agg [Leaf.own 5 m_,Leaf.val (.bool (zbx ((f.c)+((g.c)*(c))))),zaf (zab (zaV ((f.c)+((g.c)*(c))))),zaf (zab (zaW ((f.c)+((g.c)*(c)))))],V.one (Leaf.val (.int .i64 ((x.1:Nat):Int))),V.agg (qL ((x.2)+((y.2)*(c))))]) (V.agg [Leaf.own 5 (m_+1),Leaf.val (.bool (zbx ((f.c)+((g.c)*(c))))),zaf (zab (zaV ((f.c)+((g.c)*(c))))),zaf (zab (zaW ((f.c)+((g.c)*(c)))))]) rfl zvZ rfl rfl (zej out (by omega) ((f.c)+((g.c)*(c))) x.1 ((x.2)+((y.2)*(c))) (by omega)) (zfm _ _)) ?_;refine dz 1 rfl (zad (za 1 rfl (dr_ 0 [] [] (dz 1 rfl (kq_ rfl (zbc tmE (f.ts.drop i) (1) rfl rfl rfl zj8 zl5 rfl (by rw[zxA];omega)) (zsx (D.v (V.one (tmE.row (f.ts.drop (i+1))))) rfl (by rw[List.drop_drop]) (dz 1 rfl (kq_ rfl (zbc tmE (g.ts.drop j) (1) rfl rfl rfl zj8 zl5 rfl (by rw[zxA];omega)) ?_))))))));refine zsx (D.v (V.one (tmE.row (g.ts.drop (j+1))))) rfl (by rw[List.drop_drop]) (dz 2 rfl (zad (za 2 rfl ?_)));exact nx_ ⟨i+1,j+1,_,_,rfl,rfl,rfl,by omega,by omega,(by have h1:=zdm out (x.1,x.2+y.2*c);omega),by rw[<-hinv,zuK hx hy hlt hgt]⟩ rfl
  .obtain⟨x,hx⟩:∃x,f.ts[i]?=some x:=⟨_,zxa hi⟩;have hx0:(f.ts.drop i)[0]?=some x:=by rw[List.getElem?_drop];exact hx
   haveI hxb:=hf.bd x (zxb hx);refine dr_ 0 [] [] (dz 1 rfl (kq_ rfl (jln rfl) (kq_ rfl (eqT rfl (by rw[zxA];omega)) (dz 17 rfl (zad (za 3 rfl (dr_ 0 [(9,5),(10,4)] [5,4] (kp_ [5] rfl (zbe rfl rfl rfl (by decide) zh3 (by decide) (zxh rfl) rfl) (dz 1 rfl ?_)))))))));refine kq_ rfl (jix 0 hx0 rfl) (kq_ rfl (jfr rfl) (kq_ rfl (jli rfl) (dz 1 rfl (kq_ rfl (jix 0 hx0 rfl) (kq_ rfl (jfr rfl) (kq_ rfl (jlr rfl) ?_))))));refine ki_ 5 rfl (zdQ (r:=5) (ys:=[V.agg [Leaf.own 5 m_,Leaf.val (.bool (zbx ((f.c)+((g.c)*(c))))),zaf (zab (zaV ((f.c)+((g.c)*(c))))),zaf (zab (zaW ((f.c)+((g.c)*(c)))))],V.one (Leaf.val (.int .i64 ((x.1:Nat):Int))),V.agg (qL x.2)]) (V.agg [Leaf.own 5 (m_+1),Leaf.val (.bool (zbx ((f.c)+((g.c)*(c))))),zaf (zab (zaV ((f.c)+((g.c)*(c))))),zaf (zab (zaW ((f.c)+((g.c)*(c)))))]) rfl zvZ rfl rfl (zej out (by omega) ((f.c)+((g.c)*(c))) x.1 x.2 (by omega)) (zfm _ _)) ?_;refine dz 1 rfl (zad (za 3 rfl (tq_ rfl (zbc tmE (f.ts.drop i) (1) rfl rfl rfl zj8 zl5 rfl (by rw[zxA];omega)) (eq_ (D.v (V.one (tmE.row (f.ts.drop (i+1))))) rfl (by rw[List.drop_drop]) (zl 4 rfl ?_)))));exact nx_ ⟨i+1,j,_,_,rfl,rfl,rfl,by omega,by omega,(by have h1:=zdm out (x.1,x.2);omega),by rw[<-hinv,mrg_l hx hj]⟩ rfl
 .refine tq_ rfl (gtF rfl (by rw[zxA];omega)) (zl 2 rfl (tq_ rfl (jln rfl) ?_));by_cases hj:j<g.ts.length
  .refine tq_ rfl (gtT rfl (by rw[zxA];omega)) (zl 9 rfl ?_);obtain⟨y,hy⟩:∃y,g.ts[j]?=some y:=⟨_,zxa hj⟩;have hy0:(g.ts.drop j)[0]?=some y:=by rw[List.getElem?_drop];exact hy
   haveI hyb:=hg.bd y (zxb hy);refine dr_ 0 [] [] (dz 1 rfl (kq_ rfl (jln rfl) (kq_ rfl (eqF rfl (by rw[zxA];omega)) (dz 2 rfl (kq_ rfl (jln rfl) (kq_ rfl (gtF rfl (by rw[zxA];omega)) (dz 13 rfl (zad (za 3 rfl ?_)))))))));refine dr_ 0 [] [] (dz 1 rfl (kq_ rfl (jln rfl) (kq_ rfl (eqT rfl (by rw[zxA];omega)) (dz 12 rfl (zad (za 3 rfl (dr_ 0 [(11,5),(12,4)] [5,4] (kp_ [5] rfl (zbe rfl rfl rfl (by decide) zh3 (by decide) (zxh rfl) rfl) (dz 1 rfl ?_)))))))));refine kq_ rfl (jix 0 hy0 rfl) (kq_ rfl (jfr rfl) (kq_ rfl (jli rfl) (dz 1 rfl (kq_ rfl (jix 0 hy0 rfl) (kq_ rfl (jfr rfl) (kq_ rfl (jlr rfl) (dz 1 rfl (kc_ zw1 rfl (zwV (qOf (y.2)) (y.2) (zao _) (Br.use (by omega)) (qOf (c)) (c) (zao _) (Br.use (by omega))) ?_))))))));refine ki_ 5 rfl (zdQ (r:=5) (ys:=[V.agg [Leaf.own 5 m_,Leaf.val (.bool (zbx ((f.c)+((g.c)*(c))))),zaf (zab (zaV ((f.c)+((g.c)*(c))))),zaf (zab (zaW ((f.c)+((g.c)*(c)))))],V.one (Leaf.val (.int .i64 ((y.1:Nat):Int))),V.agg (qL ((y.2)*(c)))]) (V.agg [Leaf.own 5 (m_+1),Leaf.val (.bool (zbx ((f.c)+((g.c)*(c))))),zaf (zab (zaV ((f.c)+((g.c)*(c))))),zaf (zab (zaW ((f.c)+((g.c)*(c)))))]) rfl zvZ rfl rfl (zej out (by omega) ((f.c)+((g.c)*(c))) y.1 ((y.2)*(c)) (by omega)) (zfm _ _)) ?_;refine dz 1 rfl (zad (za 3 rfl (tq_ rfl (zbc tmE (g.ts.drop j) (1) rfl rfl rfl zj8 zl5 rfl (by rw[zxA];omega)) (eq_ (D.v (V.one (tmE.row (g.ts.drop (j+1))))) rfl (by rw[List.drop_drop]) (zl 4 rfl ?_)))));exact nx_ ⟨i,j+1,_,_,rfl,rfl,rfl,by omega,by omega,(by have h1:=zdm out (y.1,y.2*c);omega),by rw[<-hinv,mrg_r hi hy]⟩ rfl
  .refine tq_ rfl (gtF rfl (by rw[zxA];omega)) (zl 15 rfl (zcj 3 (ls':=[El.row tmE out,Leaf.val (.bool (zbx ((f.c)+((g.c)*(c))))),zaf (zab (zaV ((f.c)+((g.c)*(c))))),zaf (zab (zaW ((f.c)+((g.c)*(c)))))]) rfl rfl (RowAt.ofE tmE out rfl (by decide)) ⟨.inr ⟨rfl,rfl⟩,.inl rfl,.inl rfl,.inl rfl,trivial⟩ ?_));exact r1_ hq_ rfl (by rw[<-hinv,zso hi hj])
theorem zrF:(0,bruijn.map fun n:Nat=>Value.int .u8 (n:Int))∈tab:=by simp[tab,bruijn]
theorem zrG{k:Nat}(h:k<32):(bruijn.map fun n:Nat=>Value.int .u8 (n:Int))[2^k*125613361%4294967296/134217728*1]?=some (.int .u8 (k:Int)):=by
 rw[Nat.mul_one,List.getElem?_map,zlU h];rfl
theorem zto{x y z:Nat}(hx:x<4294967296)(hy:y<4294967296)(h:x &&& y=z)(hz:z<4294967296):IntKind.u32.wrap ((BitVec.ofInt IntKind.u32.bits (x:Int) &&& BitVec.ofInt IntKind.u32.bits (y:Int)).toNat)=(z:Int):=by
 rw[BitVec.toNat_and,zbt _ x (by simp only[IntKind.bits];omega),zbt _ y (by simp only[IntKind.bits];omega),h];exact zby hz
theorem zmi(x:Nat)(h0:x≠0)(hx:x<4294967296):Ctr Tryz.prog 127 [V.one (Leaf.val (.int .u32 x))] (R.one (V.one (Leaf.val (.int .i64 ((tz x:Nat):Int))))):=by
 refine bd_ Tryz.func127 Tryz.ntmps127 rfl (fun w0 A0=>?_);refine zc 9 rfl (tq_ rfl (eqF rfl) (zl 6 rfl ?_));have ht:=zmj h0 hx;have hp:2^tz x<=2^31:=zxn (by decide) (by omega);have hi:=zn1 ht;refine zc 3 rfl (tq_ rfl (zhb rfl rfl (r:=((4294967296-x:Nat):Int)) (zry (by omega))) (tq_ rfl (zlc rfl rfl rfl (r:=((2^tz x:Nat):Int)) (zto hx (by omega) (ztp h0 hx) (by omega))) (tq_ rfl (zew rfl rfl rfl (r:=((2^tz x*125613361%4294967296:Nat):Int)) (zry (by omega))) ?_)));refine tq_ rfl (zbi rfl rfl rfl (by decide) (r:=((2^tz x*125613361%4294967296/134217728:Nat):Int)) (zaQ _ 27 rfl)) (tq_ rfl (zhO (j:=2^tz x*125613361%4294967296/134217728) rfl rfl un152 ty5 hi) (tq_ rfl (zi8 rfl rfl ty5 zrF (zrG ht) rfl) (tq_ rfl (jci (tz x) rfl) (zl 3 rfl ?_))));exact r1_ hq_ rfl rfl
theorem zo3(la:List Nat)(k:Nat)(hsa:Small la)(hk:k<=1048576)(hla:la.length<=9000000000000):Ctr Tryz.prog 102 [V.one (zaf la),V.one (Leaf.val (.int .i64 (k:Int)))] (R.tup [V.one (zaf (zab (val la*2^k))),V.one (Leaf.val (.int .i64 0))]):=by
 refine bd_ Tryz.func102 Tryz.ntmps102 rfl (fun w0 A0=>?_);refine zc 10 rfl (tq_ rfl (ltF rfl) (zl 2 rfl (tq_ rfl (gtF rfl) (zl 9 rfl (tc_ zeU rfl (zaw la hsa) (zl 5 rfl ?_))))));have hl0:=zai hsa;have vl:=zac (val la);have sl:=zaa (val la);have hn0:(zab (val la)).length=0->val la=0:=fun h=>zaP.1 (zxm h);generalize zab (val la)=l at *;refine zc 2 rfl (tq_ rfl (jln rfl) ?_);by_cases hz:l.length=0
 .refine tq_ rfl (eqT rfl) (zl 9 rfl ?_);exact r2_ hq_ rfl (by rw[hn0 hz,Nat.zero_mul,zaj] <;> rfl)
 .refine tq_ rfl (eqF rfl) (zl 6 rfl (dr_ 0 [] [] (dz 1 rfl (kq_ rfl (zc6 rfl rfl rfl (by decide) (r:=((k/32:Nat):Int)) (w64 (zeE k 32) (by omega) (by omega))) ?_))));obtain⟨ti2,hi2,hz2,hs2,hb2⟩:=zcb;refine ke_ rfl (fun _=>zj0 (n:=k/32) (ls:=((List.replicate (k/32) 0).map za5)) rfl rfl rfl zbU hi2 hz2 hs2 (by decide) rfl (by decide) rfl (by rw[hb2];omega) (by simp only[maxLen];omega) (zcF _) (by first|rfl|exact zdh _) _) (dz 2 rfl (kq_ rfl (zcA rfl rfl rfl (by decide) (r:=((k%32:Nat):Int)) (zdU k 32)) ?_));refine kc_ zs1 rfl (ziC l (k%32) sl (by omega) (by omega)) ?_;obtain⟨ti3,hi3,hz3,hs3,hb3⟩:=zcb;refine ke_ rfl (fun _=>zey rfl rfl rfl (by simp) (by simp) (by decide) (by rw[zbN];omega) zbU zbU hi3 hz3 hs3 rfl (by rw[zbN];simp only[maxLen];omega) (by rw[hb3,zbN];omega) (nm:=(List.replicate (k/32) 0++ze8 (l.length+1) (val l*2^(k%32))).length) (by rw[zxq,List.length_replicate]) (ls:=((List.replicate (k/32) 0++ze8 (l.length+1) (val l*2^(k%32))).map za5)) (by rw[List.map_append]) _) ?_;refine kc_ zeU rfl (zaw (List.replicate (k/32) 0++ze8 (l.length+1) (val l*2^(k%32))) ((Small.replicate _).append (zcU _ _))) (dz 2 rfl (zad (za 1 rfl ?_)));exact r2_ hq_ rfl (by rw[zrL sl,vl])
theorem zuE(l:List Nat)(k:Nat)(hs:Small l)(hk:k<=1048576)(hl:l.length<=9000000000000)(m:Nat)(hm:val l=m):Ctr Tryz.prog 102 [V.one (zaf l),V.one (Leaf.val (.int .i64 (k:Int)))] (R.tup [V.one (zaf (zab (m*2^k))),V.one (Leaf.val (.int .i64 0))]):=by
 subst hm;exact zo3 l k hs hk hl
theorem zuD(l:List Nat)(k:Nat)(hs:Small l)(hk:k<=1048576)(hl:l.length<=10000000000000)(m:Nat)(hm:val l=m):Ctr Tryz.prog 119 [V.one (zaf l),V.one (Leaf.val (.int .i64 (k:Int)))] (R.tup [V.one (zaf (zab (m/2^k))),V.one (Leaf.val (.int .i64 0))]):=by
 subst hm;exact zkn l k hs hk hl
theorem zlg(l:List Nat)(hs:Small l)(hn:val l≠0)(hl:l.length<=10000000000000):Ctr Tryz.prog 121 [V.one (zaf l)] (R.one (V.one (Leaf.val (.int .i64 ((tz (val l):Nat):Int))))):=by
 refine bd_ Tryz.func121 Tryz.ntmps121 rfl (fun w0 A0=>?_);refine zc 12 rfl (zbO (fun m Γ H=>∃(k:Nat),l.length-k=m/\Γ=[(0,some (D.v (V.one (zaf l)))),(3,some (D.int (k:Int)))]/\H=[]/\val (l.take k)=0) ⟨0,rfl,rfl,rfl,rfl⟩ rfl ?_);rintro m Γ H ⟨k,rfl,rfl,rfl,hz⟩;have hk:=zoR hn hz;have hlk:=hs.get k hk;have hlt:=zmj (x:=l[k]);have hta:=zoS hs hk hz;refine zc 5 rfl (tq_ rfl (ji1 rfl (zaY hk)) (tq_ rfl (jli rfl) ?_));by_cases h0:l[k]'hk=0
 .refine tq_ rfl (eqT rfl) (zl 8 rfl (tq_ rfl (jad (k+1) rfl) (zl 3 rfl ?_)));exact nx_ ⟨k+1,rfl,rfl,rfl,zlh hk hz h0⟩ rfl
 .refine tq_ rfl (eqF rfl) (zl 11 rfl (tq_ rfl (zew rfl rfl rfl (r:=((32*k:Nat):Int)) (w64 (by omega) (by omega) (by omega))) (zl 2 rfl (tq_ rfl (ji1 rfl (zaY hk)) (tq_ rfl (jli rfl) (tc_ fn127 rfl (zmi (l[k]'hk) h0 hlk) ?_))))));refine tq_ rfl (zbj rfl rfl rfl (r:=((32*k+tz (l[k]'hk):Nat):Int)) (w64 (by omega) (by have:=hlt h0 hlk;omega) (by have:=hlt h0 hlk;omega))) (zl 3 rfl ?_);exact r1_ hq_ rfl (by rw[hta h0])
theorem zc2(u:Nat)(k:Int)(hk:k<=100000000000000)(hl:(zab (u*2^k.toNat)).length<=1000000000000):Ctr Tryz.prog 69 [V.one (zaf (zab u)),V.one (Leaf.val (.int .i64 k))] (R.one (V.one (zaf (zab (u*2^k.toNat))))):=by
 refine bd_ Tryz.func69 Tryz.ntmps69 rfl (fun w0 A0=>?_);refine zc 7 rfl (ztV (fun m Γ H=>∃(c:Nat) (r:Int),r.toNat=m/\Γ=[(0,some (D.v (V.one (zaf (zab (u*2^c)))))),(1,some (D.int r))]/\H=[]/\r.toNat+c=k.toNat/\r<=100000000000000) ⟨0,k,rfl,rfl,rfl,by omega,hk⟩ ⟨by rw[Nat.pow_zero,Nat.mul_one];rfl,rfl,trivial⟩ ?_);rintro m Γ H ⟨c,r,rfl,rfl,rfl,hrc,hr⟩;refine zc 4 rfl ?_;by_cases hr0:0<r
 .refine tq_ rfl (gtT rfl) (zl 7 rfl ?_);obtain⟨p,hp⟩:∃p:Nat,(p:Int)=min r 1048576:=⟨(min r 1048576).toNat,by omega⟩;have hm1:u*2^c<=u*2^k.toNat:=zxI _ (zxn (by decide) (by omega));have hm2:=zax hm1;refine zc 2 rfl (tq_ rfl (zrv rfl rfl rfl (r:=(p:Int)) (by split <;> omega)) (zl 7 rfl (tc_ fn102 rfl (zuE (zab (u*2^c)) p (zaa _) (by omega) (by omega) (u*2^c) (zac _)) (zl 9 rfl (tq_ rfl (zaI rfl rfl rfl (r:=r-p) (w64 (by omega) (by omega) (by omega))) (zl 3 rfl ?_))))));exact zj3 (m':=(r-p).toNat) (by omega) ⟨c+p,r-p,rfl,rfl,rfl,by omega,by omega⟩ ⟨by rw[zxu,<-Nat.mul_assoc];rfl,rfl,trivial⟩
 .refine tq_ rfl (gtF rfl) (zl 14 rfl ?_);exact r1_ hq_ rfl (by rw[show c=k.toNat from by omega])
theorem znS(u:Nat)(k:Int)(hk:k<=100000000000000)(hl:(zab (u)).length<=1000000000000):Ctr Tryz.prog 122 [V.one (zaf (zab u)),V.one (Leaf.val (.int .i64 k))] (R.one (V.one (zaf (zab (u/2^k.toNat))))):=by
 refine bd_ Tryz.func122 Tryz.ntmps122 rfl (fun w0 A0=>?_);refine zc 7 rfl (ztV (fun m Γ H=>∃(c:Nat) (r:Int),r.toNat=m/\Γ=[(0,some (D.v (V.one (zaf (zab (u/2^c)))))),(1,some (D.int r))]/\H=[]/\r.toNat+c=k.toNat/\r<=100000000000000) ⟨0,k,rfl,rfl,rfl,by omega,hk⟩ ⟨by rw[Nat.pow_zero,Nat.div_one];rfl,rfl,trivial⟩ ?_);rintro m Γ H ⟨c,r,rfl,rfl,rfl,hrc,hr⟩;refine zc 4 rfl ?_;by_cases hr0:0<r
 .refine tq_ rfl (gtT rfl) (zl 7 rfl ?_);obtain⟨p,hp⟩:∃p:Nat,(p:Int)=min r 1048576:=⟨(min r 1048576).toNat,by omega⟩;have hm2:=zax (Nat.div_le_self u (2^c));refine zc 2 rfl (tq_ rfl (zrv rfl rfl rfl (r:=(p:Int)) (by split <;> omega)) (zl 7 rfl (tc_ zv9 rfl (zuD (zab (u/2^c)) p (zaa _) (by omega) (by omega) (u/2^c) (zac _)) (zl 9 rfl (tq_ rfl (zaI rfl rfl rfl (r:=r-p) (w64 (by omega) (by omega) (by omega))) (zl 3 rfl ?_))))));exact zj3 (m':=(r-p).toNat) (by omega) ⟨c+p,r-p,rfl,rfl,rfl,by omega,by omega⟩ ⟨by rw[zxu,<-Nat.div_div_eq_div_mul];rfl,rfl,trivial⟩
 .refine tq_ rfl (gtF rfl) (zl 14 rfl ?_);exact r1_ hq_ rfl (by rw[show c=k.toNat from by omega])
theorem zrx(n:Nat)(h:n≠0)(hl:(zab n).length<=10000000000000):Ctr Tryz.prog 121 [V.one (zaf (zab n))] (R.one (V.one (Leaf.val (.int .i64 ((tz n:Nat):Int))))):=by
 have h1:=zlg (zab n) (zaa _) (by rw[zac];exact h) hl
 rwa [zac] at h1
theorem qnum(x:Qr)(r:Rat)(hr:x.q=r)(hfx:Fit 1000000000000 x):Ctr Tryz.prog 97 [qV x] (R.one (zV (zOf r.num))):=by
 refine bd_ Tryz.func97 Tryz.ntmps97 rfl (fun w0 A0=>?_);haveI ir:Br r 1000000000000:=Br.fitq hr hfx;refine zc 9 rfl (tc_ zsX rfl (zfQ x (r) hr (hfx.mono (by omega))) (zl 14 rfl ?_));exact r1_ hq_ rfl rfl
theorem qden(x:Qr)(r:Rat)(hr:x.q=r)(hfx:Fit 1000000000000 x):Ctr Tryz.prog 98 [qV x] (R.one (V.one (zaf (zab r.den)))):=by
 refine bd_ Tryz.func98 Tryz.ntmps98 rfl (fun w0 A0=>?_);haveI ir:Br r 1000000000000:=Br.fitq hr hfx;refine zc 9 rfl (tc_ zsX rfl (zfQ x (r) hr (hfx.mono (by omega))) (tc_ zrc rfl (ze7 (qOf (r)) (Br.use (by omega))) (tc_ zsR rfl (ziz (dl (qOf (r)).d) (zcH (qOf (r)).hd) (zfc (Br.use (r:=(r)) (zxe _)).d (by omega)) (dn (val (qOf (r)).d)) (ze4 _)) (zl 3 rfl ?_))));exact r1_ hq_ rfl (congrArg (fun n=>R.one (V.one (zaf (zab n)))) (zwh r))
theorem zeV(s:Bool)(l:List Nat)(e:Int)(hs:Small l)(hl:l.length<=100000000000)(he1:-1000000000000000<=e)(he2:e<=1000000000000000)(n:Nat)(hn:val l=n):Ctr Tryz.prog 101 [V.one (Leaf.val (.bool s)),V.one (zaf l),V.one (Leaf.val (.int .i64 e))] (R.tup [dV (nrm s n e),V.one (Leaf.val (.bool (nok n e)))]):=by
 refine bd_ Tryz.func101 Tryz.ntmps101 rfl (fun w0 A0=>?_);haveI i0:Bn n 100000000000:=by subst hn;exact Bn.val hs hl
 have hb:=zc4 (Bn.use (n:=n) (zxe _));have ht:=zh2 (Bn.use (n:=n) (zxe _));refine zc 9 rfl (tc_ zsR rfl (ziz l hs (zxk hl (by omega)) (n) hn) (zl 7 rfl (tq_ rfl (jln rfl) ?_)));by_cases hn0:n=0
 .refine tq_ rfl (eqT rfl (by rw[hn0,zaj];rfl)) (zl 10 rfl ?_);exact r2_ hq_ rfl (by rw[hn0,zkz,zps,zeW] <;> rfl)
 .refine tq_ rfl (eqF rfl (by have:=zaG.2 hn0;omega)) (zl 8 rfl (tc_ fn121 rfl (zrx n hn0 (Bn.use (by omega))) (zl 8 rfl (tq_ rfl (zbj rfl rfl rfl (r:=e+(tz n:Int)) (w64 rfl (by omega) (by omega))) (zl 6 rfl ?_)))));by_cases h1:e+(tz n:Int) < -1048576
  .refine tq_ rfl (ltT rfl) (zl 14 rfl ?_);exact r2_ hq_ rfl (by rw[znj hn0 (.inl h1),zjx hn0 (.inl h1),zeW] <;> rfl)
  .refine tq_ rfl (ltF rfl) (zl 2 rfl ?_);by_cases h2:1048576<e+(tz n:Int)
   .refine tq_ rfl (gtT rfl) (zl 11 rfl ?_);exact r2_ hq_ rfl (by rw[znj hn0 (.inr h2),zjx hn0 (.inr h2),zeW] <;> rfl)
   .refine tq_ rfl (gtF rfl) (zl 11 rfl (tc_ fn122 rfl (znS n (tz n:Int) (by omega) (Bn.use (by omega))) (zl 6 rfl ?_)));exact r2_ hq_ rfl (by rw[zuF hn0 (by omega) (by omega),znl hn0 (by omega) (by omega)] <;> rfl)
theorem drat(d:Dy)(hd:Dfit 1000000000 d):Ctr Tryz.prog 40 [dV d] (R.one (qV (qOf (dq d)))):=by
 refine bd_ Tryz.func40 Tryz.ntmps40 rfl (fun w0 A0=>?_);haveI id:Bd d 1000000000:=⟨hd⟩;have hlo:=hd.lo;have hhi:=hd.hi;refine zc 11 rfl ?_;by_cases h1:0<=d.exp
 .refine tq_ rfl (geT rfl) (zl 4 rfl ?_);haveI i1:Bn (d.mag*2^d.exp.toNat) (1000000000+32769):=Bn.shift 32769 inferInstance (by omega);refine dr_ 0 [(9,1)] [1] (dz 6 rfl (kc_ ztZ rfl (zc2 d.mag d.exp (by omega) (Bn.use (by omega))) (dz 1 rfl (kc_ zsX rfl (zfQ (Qr.mk d.neg (zab (d.mag*2^d.exp.toNat)) [] (zaa _) Small.nil) (rq d.neg (d.mag*2^d.exp.toNat) (0)) (zsb (zac _) rfl) (Fit.mk (Bn.use (by omega)) (zxg _))) (dz 1 rfl (zad (za 1 rfl ?_)))))));exact r1_ hq_ rfl (by unfold dq;rw[if_pos h1] <;> rfl)
 .refine tq_ rfl (geF rfl) (zl 6 rfl ?_);haveI i2:Bn (1*2^(-d.exp).toNat) (1+32769):=Bn.shift 32769 ⟨by rw[zdy];exact zxe _⟩ (by omega);refine dr_ 0 [(11,1)] [1] (dz 4 rfl (kc_ zsV rfl (zd4 1 (by decide)) (dz 2 rfl (kq_ rfl (zhb rfl rfl (r:=-d.exp) (w64 (by omega) (by omega) (by omega))) (kc_ ztZ rfl (zc2 1 (-d.exp) (by omega) (Bn.use (by omega))) (dz 1 rfl ?_))))));refine kc_ zsX rfl (zfQ (Qr.mk d.neg (zab (d.mag)) (zab (1*2^(-d.exp).toNat)) (zaa _) (zaa _)) (rq d.neg (d.mag) (1*2^(-d.exp).toNat)) (zsb (zac _) (zac _)) (Fit.mk (Bn.use (by omega)) (Bn.use (by omega)))) (dz 1 rfl (zad (za 1 rfl ?_)));exact r1_ hq_ rfl (by unfold dq;rw[if_neg h1,Nat.one_mul] <;> rfl)
theorem dsize(a b:Nat)(ha0:a≠0)(hb0:b≠0)(ha:(zab a).length<=26000)(hb:(zab b).length<=26000):Ctr Tryz.prog 99 [V.one (zaf (zab a)),V.one (zaf (zab b))] (R.tup [V.one (Leaf.val (.int .i64 (lg a b))),V.one (Leaf.val (.bool true))]):=by
 refine bd_ Tryz.func99 Tryz.ntmps99 rfl (fun w0 A0=>?_);haveI ia:Bn a 26000:=⟨ha⟩;haveI ib:Bn b 26000:=⟨hb⟩;have hla:=zc4 ha;have hlb:=zc4 hb;have hlg:=zhu ha hb;have hlo:=zsu a b;refine zc 9 rfl (tc_ zwW rfl (zk2 (zab (a)) (zaa _) (Bn.use (by omega)) (a) (zac _)) (zl 1 rfl (tc_ zwW rfl (zk2 (zab (b)) (zaa _) (Bn.use (by omega)) (b) (zac _)) (tq_ rfl (zaI rfl rfl rfl (r:=(bl a:Int)-bl b) (w64 (by omega) (by omega) (by omega))) (zl 7 rfl (tq_ rfl (gtF rfl) (zl 2 rfl (tq_ rfl (ltF rfl) (zl 18 rfl ?_)))))))));by_cases h1:0<=(bl a:Int)-bl b
 .refine tq_ rfl (geT rfl) (zl 3 rfl ?_);haveI i1:Bn (b*2^((bl a:Int)-bl b).toNat) (26000+27000):=Bn.shift 27000 ib (by omega);refine zc 3 rfl (tc_ ztZ rfl (zc2 b ((bl a:Int)-bl b) (by omega) (Bn.use (by omega))) (zl 8 rfl (tc_ zpH rfl (zjL (zab (a)) (zaa _) (zab (b*2^((bl a:Int)-bl b).toNat)) (zaa _) (a) (zac _) (b*2^((bl a:Int)-bl b).toNat) (zac _)) ?_)));by_cases h2:a<b*2^((bl a:Int)-bl b).toNat
  .refine tq_ rfl (ltT rfl (by rw[zcx h2];decide)) (zl 5 rfl (tq_ rfl (zaI rfl rfl rfl (r:=(bl a:Int)-bl b-1) (w64 (by omega) (by omega) (by omega))) (zl 7 rfl (tq_ rfl (geT rfl) (zl 2 rfl (tq_ rfl (ltT rfl) (zl 5 rfl ?_)))))));exact r2_ hq_ rfl (by unfold lg;rw[if_pos h1,if_pos h2] <;> rfl)
  .refine tq_ rfl (ltF rfl (by unfold zeA;rw[if_neg h2];split <;> decide)) (zl 9 rfl (tq_ rfl (geT rfl) (zl 2 rfl (tq_ rfl (ltT rfl) (zl 5 rfl ?_)))));exact r2_ hq_ rfl (by unfold lg;rw[if_pos h1,if_neg h2] <;> rfl)
 .refine tq_ rfl (geF rfl) (zl 3 rfl ?_);haveI i2:Bn (a*2^(-((bl a:Int)-bl b)).toNat) (26000+27000):=Bn.shift 27000 ia (by omega);refine zc 3 rfl (tq_ rfl (zhb rfl rfl (r:=-((bl a:Int)-bl b)) (w64 (by omega) (by omega) (by omega))) (tc_ ztZ rfl (zc2 a (-((bl a:Int)-bl b)) (by omega) (Bn.use (by omega))) (zl 8 rfl ?_)));refine tc_ zpH rfl (zjL (zab (a*2^(-((bl a:Int)-bl b)).toNat)) (zaa _) (zab (b)) (zaa _) (a*2^(-((bl a:Int)-bl b)).toNat) (zac _) (b) (zac _)) ?_;by_cases h2:a*2^(-((bl a:Int)-bl b)).toNat<b
  .refine tq_ rfl (ltT rfl (by rw[zcx h2];decide)) (zl 5 rfl (tq_ rfl (zaI rfl rfl rfl (r:=(bl a:Int)-bl b-1) (w64 (by omega) (by omega) (by omega))) (zl 7 rfl (tq_ rfl (geT rfl) (zl 2 rfl (tq_ rfl (ltT rfl) (zl 5 rfl ?_)))))));exact r2_ hq_ rfl (by unfold lg;rw[if_neg h1,if_pos h2] <;> rfl)
  .refine tq_ rfl (ltF rfl (by unfold zeA;rw[if_neg h2];split <;> decide)) (zl 9 rfl (tq_ rfl (geT rfl) (zl 2 rfl (tq_ rfl (ltT rfl) (zl 5 rfl ?_)))));exact r2_ hq_ rfl (by unfold lg;rw[if_neg h1,if_neg h2] <;> rfl)
theorem zrh(x:Qr)(r:Rat)(hr:x.q=r)(hfx:Fit 25000 x)(p:Int)(away:Bool):Ctr Tryz.prog 68 [qV x,V.one (Leaf.val (.int .i64 p)),V.one (Leaf.val (.bool away))] (R.tup [dV (rndD r p away),V.one (Leaf.val (.int .i64 (zqS p)))]):=by
 refine bd_ Tryz.func68 Tryz.ntmps68 rfl (fun w0 A0=>?_);haveI ir:Br r 25000:=Br.fitq hr hfx;have hnl:(zab (Int.natAbs r.num)).length<=25000:=Bz.use (z:=r.num) (zxe _);have hdl:(zab r.den).length<=25001:=Bn.use (n:=r.den) (zxe _);haveI ina:Bn (Int.natAbs r.num) 25000:=⟨hnl⟩;have hlg:=zhu hnl hdl;refine zc 11 rfl ?_;by_cases h1:p<1
 .refine tq_ rfl (ltT rfl) (zl 14 rfl ?_);exact r2_ hq_ rfl (by unfold rndD zqS;rw[if_pos (by omega),if_pos (by omega),zeW] <;> rfl)
 .refine tq_ rfl (ltF rfl) (zl 2 rfl ?_);by_cases h2:4096<p
  .refine tq_ rfl (gtT rfl) (zl 11 rfl ?_);exact r2_ hq_ rfl (by unfold rndD zqS;rw[if_pos (by omega),if_pos (by omega),zeW] <;> rfl)
  .refine tq_ rfl (gtF rfl) (zl 7 rfl (dr_ 1 [(4,2),(5,2)] [2] (dz 1 rfl (kc_ fn97 rfl (qnum x (r) hr (hfx.mono (by omega))) (dz 1 rfl (kc_ fn98 rfl (qden x (r) hr (hfx.mono (by omega))) (dz 3 rfl (zad (za 5 rfl ?_)))))))));refine tc_ zwZ rfl (zoQ (zOf (r.num)) (r.num) (zgz _) (Bz.use (by omega))) ?_;by_cases h3:r.num=0
   .refine tq_ rfl (eqT rfl (by rw[h3];rfl)) (zl 10 rfl ?_);exact r2_ hq_ rfl (by unfold rndD;rw[if_pos (by omega),zd0 h1 h2,zeW] <;> rfl)
   .refine tq_ rfl (eqF rfl (zqN h3)) (zl 10 rfl (tc_ fn99 rfl (dsize (Int.natAbs (r.num)) r.den (by omega) r.den_nz (by omega) (by omega)) (zl 21 rfl (tq_ rfl (zaI rfl rfl rfl (r:=lg (Int.natAbs (r.num)) r.den-p) (w64 (by omega) (by omega) (by omega))) (tq_ rfl (zbj rfl rfl rfl (r:=lg (Int.natAbs (r.num)) r.den-p+1) (w64 (by omega) (by omega) (by omega))) ?_)))));refine zl 16 rfl ?_;by_cases hE:0<=lg (Int.natAbs (r.num)) r.den-p+1
    .refine tq_ rfl (geT rfl) (zl 3 rfl ?_);haveI i1:Bn (r.den*2^(lg (Int.natAbs (r.num)) r.den-p+1).toNat) (25001+27000):=Bn.shift 27000 inferInstance (by omega);refine zc 3 rfl (tc_ ztZ rfl (zc2 r.den (lg (Int.natAbs (r.num)) r.den-p+1) (by omega) (Bn.use (by omega))) (zl 4 rfl ?_));have hd0:r.den*2^(lg (Int.natAbs (r.num)) r.den-p+1).toNat≠0:=by have h:=zmE r.den_nz (lg (Int.natAbs (r.num)) r.den-p+1);rwa [zdX hE] at h
     refine zc 3 rfl (tc_ ztX rfl (zfx (zab (Int.natAbs (r.num))) (zab (r.den*2^(lg (Int.natAbs (r.num)) r.den-p+1).toNat)) (zaa _) (zaa _) (Bn.use (by omega)) (Bn.use (by omega)) (Int.natAbs (r.num)) (r.den*2^(lg (Int.natAbs (r.num)) r.den-p+1).toNat) (zac _) (zac _) hd0) (zl 14 rfl ?_));refine zec rfl (fun hup=>?_) (fun hup=>?_)
     .refine zl 15 rfl (tc_ zlK rfl (zeV (decide (r.num<0)) (zab ((Int.natAbs (r.num))/(r.den*2^(lg (Int.natAbs (r.num)) r.den-p+1).toNat))) (lg (Int.natAbs (r.num)) r.den-p+1) (zaa _) (Bn.use (by omega)) (by omega) (by omega) ((Int.natAbs (r.num))/(r.den*2^(lg (Int.natAbs (r.num)) r.den-p+1).toNat)) (zac _)) (zl 15 rfl ?_));exact r2_ hq_ rfl (by subst hup;rw[zd1 h1 h2 h3,zd0 h1 h2];unfold rnd;rw[zmW,zeG hE,zdX hE] <;> rfl)
     .refine zl 1 rfl (tq_ rfl (jln rfl) ?_);by_cases hr0:(Int.natAbs (r.num))%(r.den*2^(lg (Int.natAbs (r.num)) r.den-p+1).toNat)≠0
      .refine tq_ rfl (gtT rfl (by have:=zaG.2 hr0;omega)) (zl 6 rfl (tc_ zsV rfl (zd4 1 (by decide)) ?_));refine tc_ zs3 rfl (ztq (zab ((Int.natAbs (r.num))/(r.den*2^(lg (Int.natAbs (r.num)) r.den-p+1).toNat))) (zaa _) (Bn.use (by omega)) (zab (1)) (zaa _) (Bn.use (by omega)) ((Int.natAbs (r.num))/(r.den*2^(lg (Int.natAbs (r.num)) r.den-p+1).toNat)) (zac _) (1) (zac _)) (zl 9 rfl ?_);refine tc_ zlK rfl (zeV (decide (r.num<0)) (zab (((Int.natAbs (r.num))/(r.den*2^(lg (Int.natAbs (r.num)) r.den-p+1).toNat))+(1))) (lg (Int.natAbs (r.num)) r.den-p+1) (zaa _) (Bn.use (by omega)) (by omega) (by omega) (((Int.natAbs (r.num))/(r.den*2^(lg (Int.natAbs (r.num)) r.den-p+1).toNat))+(1)) (zac _)) (zl 15 rfl ?_);exact r2_ hq_ rfl (by subst hup;rw[zd1 h1 h2 h3,zd0 h1 h2];unfold rnd;rw[zmV (by rw[zeG hE,zdX hE];exact hr0),zeG hE,zdX hE] <;> rfl)
      .refine tq_ rfl (gtF rfl (by rw[Classical.not_not.1 hr0,zaj];decide)) (zl 12 rfl ?_);refine tc_ zlK rfl (zeV (decide (r.num<0)) (zab ((Int.natAbs (r.num))/(r.den*2^(lg (Int.natAbs (r.num)) r.den-p+1).toNat))) (lg (Int.natAbs (r.num)) r.den-p+1) (zaa _) (Bn.use (by omega)) (by omega) (by omega) ((Int.natAbs (r.num))/(r.den*2^(lg (Int.natAbs (r.num)) r.den-p+1).toNat)) (zac _)) (zl 15 rfl ?_);exact r2_ hq_ rfl (by subst hup;rw[zd1 h1 h2 h3,zd0 h1 h2];unfold rnd;rw[zmX (by rw[zeG hE,zdX hE];exact hr0),zeG hE,zdX hE] <;> rfl)
    .refine tq_ rfl (geF rfl) (zl 3 rfl ?_);haveI i1:Bn (Int.natAbs (r.num)*2^(-(lg (Int.natAbs (r.num)) r.den-p+1)).toNat) (25000+27000):=Bn.shift 27000 ina (by omega);refine zc 4 rfl (tq_ rfl (zhb rfl rfl (r:=-(lg (Int.natAbs (r.num)) r.den-p+1)) (w64 (by omega) (by omega) (by omega))) (tc_ ztZ rfl (zc2 (Int.natAbs (r.num)) (-(lg (Int.natAbs (r.num)) r.den-p+1)) (by omega) (Bn.use (by omega))) (zl 4 rfl ?_)));have hd0:r.den≠0:=by have h:=zmE r.den_nz (lg (Int.natAbs (r.num)) r.den-p+1);rwa [zdY hE] at h
     refine zc 3 rfl (tc_ ztX rfl (zfx (zab (Int.natAbs (r.num)*2^(-(lg (Int.natAbs (r.num)) r.den-p+1)).toNat)) (zab (r.den)) (zaa _) (zaa _) (Bn.use (by omega)) (Bn.use (by omega)) (Int.natAbs (r.num)*2^(-(lg (Int.natAbs (r.num)) r.den-p+1)).toNat) (r.den) (zac _) (zac _) hd0) (zl 14 rfl ?_));refine zec rfl (fun hup=>?_) (fun hup=>?_)
     .refine zl 15 rfl (tc_ zlK rfl (zeV (decide (r.num<0)) (zab ((Int.natAbs (r.num)*2^(-(lg (Int.natAbs (r.num)) r.den-p+1)).toNat)/r.den)) (lg (Int.natAbs (r.num)) r.den-p+1) (zaa _) (Bn.use (by omega)) (by omega) (by omega) ((Int.natAbs (r.num)*2^(-(lg (Int.natAbs (r.num)) r.den-p+1)).toNat)/r.den) (zac _)) (zl 15 rfl ?_));exact r2_ hq_ rfl (by subst hup;rw[zd1 h1 h2 h3,zd0 h1 h2];unfold rnd;rw[zmW,zeH hE,zdY hE] <;> rfl)
     .refine zl 1 rfl (tq_ rfl (jln rfl) ?_);by_cases hr0:(Int.natAbs (r.num)*2^(-(lg (Int.natAbs (r.num)) r.den-p+1)).toNat)%r.den≠0
      .refine tq_ rfl (gtT rfl (by have:=zaG.2 hr0;omega)) (zl 6 rfl (tc_ zsV rfl (zd4 1 (by decide)) ?_));refine tc_ zs3 rfl (ztq (zab ((Int.natAbs (r.num)*2^(-(lg (Int.natAbs (r.num)) r.den-p+1)).toNat)/r.den)) (zaa _) (Bn.use (by omega)) (zab (1)) (zaa _) (Bn.use (by omega)) ((Int.natAbs (r.num)*2^(-(lg (Int.natAbs (r.num)) r.den-p+1)).toNat)/r.den) (zac _) (1) (zac _)) (zl 9 rfl ?_);refine tc_ zlK rfl (zeV (decide (r.num<0)) (zab (((Int.natAbs (r.num)*2^(-(lg (Int.natAbs (r.num)) r.den-p+1)).toNat)/r.den)+(1))) (lg (Int.natAbs (r.num)) r.den-p+1) (zaa _) (Bn.use (by omega)) (by omega) (by omega) (((Int.natAbs (r.num)*2^(-(lg (Int.natAbs (r.num)) r.den-p+1)).toNat)/r.den)+(1)) (zac _)) (zl 15 rfl ?_);exact r2_ hq_ rfl (by subst hup;rw[zd1 h1 h2 h3,zd0 h1 h2];unfold rnd;rw[zmV (by rw[zeH hE,zdY hE];exact hr0),zeH hE,zdY hE] <;> rfl)
      .refine tq_ rfl (gtF rfl (by rw[Classical.not_not.1 hr0,zaj];decide)) (zl 12 rfl ?_);refine tc_ zlK rfl (zeV (decide (r.num<0)) (zab ((Int.natAbs (r.num)*2^(-(lg (Int.natAbs (r.num)) r.den-p+1)).toNat)/r.den)) (lg (Int.natAbs (r.num)) r.den-p+1) (zaa _) (Bn.use (by omega)) (by omega) (by omega) ((Int.natAbs (r.num)*2^(-(lg (Int.natAbs (r.num)) r.den-p+1)).toNat)/r.den) (zac _)) (zl 15 rfl ?_);exact r2_ hq_ rfl (by subst hup;rw[zd1 h1 h2 h3,zd0 h1 h2];unfold rnd;rw[zmX (by rw[zeH hE,zdY hE];exact hr0),zeH hE,zdY hE] <;> rfl)
theorem ddown(x:Qr)(r:Rat)(hr:x.q=r)(hfx:Fit 25000 x)(p:Int):Ctr Tryz.prog 38 [qV x,V.one (Leaf.val (.int .i64 p))] (R.tup [dV (rndD r p (decide (sg r<0))),V.one (Leaf.val (.int .i64 (zqS p)))]):=by
 refine bd_ Tryz.func38 Tryz.ntmps38 rfl (fun w0 A0=>?_);haveI ir:Br r 25000:=Br.fitq hr hfx;refine zc 8 rfl (dr_ 0 [(8,1)] [1] (dz 3 rfl (kc_ zpI rfl (zhp x (r) hr (hfx.mono (by omega))) (dz 1 rfl (kc_ fn68 rfl (zrh x (r) hr (hfx.mono (by omega)) p (decide ((sg (r))<0))) (dz 4 rfl (zad (za 1 rfl ?_))))))));exact r2_ hq_ rfl rfl
theorem dup(x:Qr)(r:Rat)(hr:x.q=r)(hfx:Fit 25000 x)(p:Int):Ctr Tryz.prog 39 [qV x,V.one (Leaf.val (.int .i64 p))] (R.tup [dV (rndD r p (decide (0<sg r))),V.one (Leaf.val (.int .i64 (zqS p)))]):=by
 refine bd_ Tryz.func39 Tryz.ntmps39 rfl (fun w0 A0=>?_);haveI ir:Br r 25000:=Br.fitq hr hfx;refine zc 8 rfl (dr_ 0 [(8,1)] [1] (dz 3 rfl (kc_ zpI rfl (zhp x (r) hr (hfx.mono (by omega))) (dz 1 rfl (kc_ fn68 rfl (zrh x (r) hr (hfx.mono (by omega)) p (decide (0<(sg (r))))) (dz 4 rfl (zad (za 1 rfl ?_))))))));exact r2_ hq_ rfl rfl
theorem zrS(f:Af)(c:Rat){C K n:Nat}(hf:FL C n f)[Br c K](h2:C<=10000000000)(h3:K<=10000000000)(hn:n<=1000):Ctr Tryz.prog 16 [afV f,V.agg (qL (c))] (R.one (afV (fSc f c))):=by
 refine bd_ Tryz.func16 Tryz.ntmps16 rfl (fun w0 A0=>?_);refine zc 10 rfl (eq_ (D.agg (afL fZ)) rfl (congrArg D.agg fZ_ls.symm) (zl 2 rfl (tc_ fn34 rfl (zsq fZ f c (FL.z (n:=n)) hf (by omega) (by omega) (by omega) (by omega)) (zl 3 rfl ?_))));exact r1_ hq_ rfl (by have e:f.c*c=fZ.c+f.c*c:=(Rat.zero_add _).symm;show R.one (afV ⟨mrg c [] f.ts,fZ.c+f.c*c⟩)=R.one (afV ⟨scT f.ts c,f.c*c⟩);rw[<-zsn hf.can,<-e])
theorem zpY(l:List Dc)(hl:l.length<=100000):Ctr Tryz.prog 13 [V.one (El.row dcE l)] (R.one (V.one (El.row dcE l))):=by
 refine bd_ Tryz.func13 Tryz.ntmps13 rfl (fun w0 A0=>?_);refine zc 9 rfl ?_;refine zhL rfl rfl rfl rfl rfl zt9 (fun b1 hb1=>?_);refine zl 2 rfl ?_;refine zaz rfl (fun hc4=>?_) (fun hc4=>?_)
 .refine zc 5 rfl ?_;exact r1_ hq_ rfl (by obtain⟨h1,h2⟩:=hb1 hc4;have:=zxm h1;subst this;rfl)
 .refine zc 4 rfl (te_ rfl (ze3 rfl zt9 ty65 _) (zl 1 rfl ?_));obtain⟨ti2,hi2,hz2,hs2,hb2⟩:=in65;refine te_ rfl (zeb dcE l rfl rfl rfl (by decide) zt9 zt9 hi2 hz2 hs2 rfl (by simp only[maxLen];omega) (by rw[hb2];omega) (H2:=_)) (zl 3 rfl ?_);exact r1_ hq_ rfl rfl
theorem zpX(l:List Lm)(hl:l.length<=100000):CtrG Tryz.prog 14 57 6 (El.all lmE l) [V.one (El.row lmE l)]:=by
 refine CtrG.of_body Tryz.func14 rfl Tryz.ntmps14 (zxh rfl) (fun w0 A0 hX=>?_);refine qc_ (zc 9 rfl ?_);refine zhL rfl rfl rfl rfl rfl zt8 (fun b1 hb1=>?_);refine zl 2 rfl ?_;refine zaz rfl (fun hc4=>?_) (fun hc4=>?_)
 .refine zc 2 rfl (tq_ rfl (zex rfl (rfl)) (zl 2 rfl ?_));exact zqi (fun _ _ h=>h) rfl rfl (by obtain⟨h1,h2⟩:=hb1 hc4;have:=zxm h1;subst this;rfl)
 .refine zc 4 rfl (zbY rfl rfl rfl rfl zt8 zwT rfl (zjT 5 0 rfl rfl (zl 1 rfl (te_ rfl (jal (e:=lmE) (l:=[]) rfl rfl) (zl 3 rfl ?_)))));exact ztx (fun _ _ h=>h) hX rfl rfl rfl (by rw[List.nil_append])
theorem zoL{Q:Exit->Act->World->Prop}{w0:Frm}{A0:Foot}{N:Nat}{Γ:Gam}{H H2:Hp}{ex:Exit}(hH:H=H2)(h:At Q w0 A0 N Γ H2 ex):At Q w0 A0 N Γ H ex:=hH ▸ h
theorem zr1(x:Rat)(up:Bool)(bits:Int){H:Nat}(hx:Hb x H)(hH:H<800000)(h0:0<=bits)(h4:bits<=4096):Ctr Tryz.prog 20 [V.agg (qL (x)),V.one (Leaf.val (.bool up)),V.one (Leaf.val (.int .i64 (bits)))] (R.one (V.agg (qL (zde x up bits)))):=by
 refine bd_ Tryz.func20 Tryz.ntmps20 rfl (fun w0 A0=>?_);haveI hbr:Br x 25000:=hx.limb (by omega);refine zc 10 rfl ?_;by_cases hb0:bits=0
 .refine tq_ rfl (eqT rfl) (zl 9 rfl ?_);exact r1_ hq_ rfl (by unfold zde;rw[if_pos hb0] <;> rfl)
 .refine tq_ rfl (eqF rfl) (zl 16 rfl ?_);refine zaz rfl (fun hup=>?_) (fun hup=>?_)
  .refine zc 9 rfl (te_ rfl (zld rfl rfl fn39 rfl (dup (qOf x) x (zao _) (Br.use (by omega)) bits)) (zl 3 rfl (eq_ (D.val (.int .i64 0)) rfl (by unfold zqS;rw[if_neg (by omega)]) (zl 18 rfl (tc_ fn40 rfl (drat (rndD x bits (decide (0<sg x))) (Bd.use (by omega))) (zl 3 rfl ?_))))));exact r1_ hq_ rfl (by unfold zde;rw[if_neg hb0,if_pos hup] <;> rfl)
  .refine zc 7 rfl (te_ rfl (zld rfl rfl fn38 rfl (ddown (qOf x) x (zao _) (Br.use (by omega)) bits)) (zl 3 rfl (eq_ (D.val (.int .i64 0)) rfl (by unfold zqS;rw[if_neg (by omega)]) (zl 18 rfl (tc_ fn40 rfl (drat (rndD x bits (decide (sg x<0))) (Bd.use (by omega))) (zl 3 rfl ?_))))));exact r1_ hq_ rfl (by unfold zde;rw[if_neg hb0,if_neg (by rw[hup];decide)] <;> rfl)
theorem zr2(x:Rat)(up:Bool){B:Nat}[Br x B](hB:B<=1000000000):Ctr Tryz.prog 20 [V.agg (qL (x)),V.one (Leaf.val (.bool up)),V.one (Leaf.val (.int .i64 (0)))] (R.one (V.agg (qL (zde x up 0)))):=by
 refine bd_ Tryz.func20 Tryz.ntmps20 rfl (fun w0 A0=>?_);refine zc 10 rfl (tq_ rfl (eqT rfl) (zl 9 rfl ?_));exact r1_ hq_ rfl (by unfold zde;rw[if_pos rfl] <;> rfl)
theorem zin(x:Rat)(up:Bool)(bits:Int){H B:Nat}[Br x B](hx:Hb x H)(hh:bits=0\/H<=790000)(hB:B<=1000000000)(h0:0<=bits)(h4:bits<=4096):Ctr Tryz.prog 20 [V.agg (qL (x)),V.one (Leaf.val (.bool up)),V.one (Leaf.val (.int .i64 (bits)))] (R.one (V.agg (qL (zde x up bits)))):=by
 rcases hh with h|h
 .subst h;exact zr2 x up hB
 .exact zr1 x up bits hx (by omega) h0 h4
theorem zpM (d:Dom) (hdm:zje d) (tD fL:Nat) (cs:List Value) (hone:cs.all Value.oneCell'=true) (hm:zns Tryz.prog tD "Lower" = some fL) (hfL:zay Tryz.prog fL) (hL:∀(s:Sc) (f:Af),SOk s->FOk 33554432 (s.q.g.inp+s.q.g.us.length) f->Ctr Tryz.prog fL [V.agg (zrC cs),scV s,afV f] (R.tup [qV (qOf (d s f).1),V.one (El.row muE (d s f).2.1),V.one (Leaf.val (.bool (d s f).2.2))])) (s:Sc) (hs:SOk s) (bits:Int) (hb:bits<0\/4096<bits):Ctr Tryz.prog 6 [V.one (Leaf.val (ifV tD cs)),scV s,V.one (Leaf.val (.int .i64 (bits)))] (R.tup [V.agg [Leaf.val (.int .i64 0),nilL,nilL,nilL,nilL,nilL,nilL,Leaf.val (.bool false),nilL,nilL,nilL,nilL],V.one (Leaf.val (.int .i64 1))]):=by
 refine bd_ Tryz.func6 Tryz.ntmps6 rfl (fun w0 A0=>?_);refine zc 13 rfl (tq_ rfl (zgx rfl rfl rfl (by kernel_rfl)) (zl 3 rfl (tc_ fn12 rfl (zkv s.q hs.q) (zl 4 rfl ?_))));by_cases h0:bits<0
 .refine tq_ rfl (ltT rfl) (zl 15 rfl ?_);exact r2_ hq_ rfl rfl
 .refine tq_ rfl (ltF rfl) (zl 3 rfl (tq_ rfl (gtT rfl) (zl 11 rfl ?_)));exact r2_ hq_ rfl rfl
set_option maxHeartbeats 2000000 in
theorem drun (d:Dom) (hdm:zje d) (tD fL:Nat) (cs:List Value) (hone:cs.all Value.oneCell'=true) (hm:zns Tryz.prog tD "Lower" = some fL) (hfL:zay Tryz.prog fL) (hL:∀(s:Sc) (f:Af),SOk s->FOk 33554432 (s.q.g.inp+s.q.g.us.length) f->Ctr Tryz.prog fL [V.agg (zrC cs),scV s,afV f] (R.tup [qV (qOf (d s f).1),V.one (El.row muE (d s f).2.1),V.one (Leaf.val (.bool (d s f).2.2))])) (s:Sc) (hs:SOk s) (h80:s.lems.length<=80) (bits:Int) (h0:0<=bits) (h4:bits<=4096) (hbt:bits=0\/Sml s.q):Ctr Tryz.prog 6 [V.one (Leaf.val (ifV tD cs)),scV s,V.one (Leaf.val (.int .i64 (bits)))] (R.tup [scV (zdI d s bits),V.one (Leaf.val (.int .i64 0))]):=by
 refine bd_ Tryz.func6 Tryz.ntmps6 rfl (fun w0 A0=>?_);have hq:=hs.q;have hd:=hs.d;have hpl:=hs.pl;have hB:=hs.B;have hll:=hs.ll;have hg:=hq.g;have hr:=hq.r;have hlo:=hr.lo;have hhi:=hr.hi;have g1:=hg.i1;have g2:=hg.i3;have g3:=hg.u4;have g4:=hg.o1;have g5:=hg.o3;refine zc 13 rfl (tq_ rfl (zgx rfl rfl rfl (by kernel_rfl)) (zl 3 rfl (tc_ fn12 rfl (zkv s.q hq) (zl 4 rfl (tq_ rfl (ltF rfl) (zl 3 rfl (tq_ rfl (gtF rfl) (zl 7 rfl (nz_ [so 3 (D.ptr 0 0),so 4 (D.ptr 1 0),so 5 (D.ptr 2 0),so 6 (D.ptr 3 0)] [hb_ 62 [Leaf.val (ifV tD cs)],hb_ 43 (scL s),hb_ 3 [Leaf.val (.int .i64 bits)],hb_ 43 scZ] rfl rfl ?_)))))))));refine dr_ 1 [(5,4),(7,1),(9,1)] [4,1] (dz 1 rfl (kp_ [4] rfl (jld rfl) (kc_ fn13 rfl (zpY s.path (by omega)) (dz 1 rfl (kp_ [4] rfl (jld rfl) (ki_ 4 rfl (zqp (i:=4) rfl fn14 rfl (zpX s.lems (by omega)) (by decide) rfl) (dz 4 rfl (zad (za 3 rfl ?_)))))))));refine nz_ [so 3 _,so 4 _,so 5 _,so 6 _] [_,hb_ 43 (quL s.q++[El.row dcE s.path,Leaf.own 4 0]),_,_,hgr 57 6 lmE s.lems 0] rfl rfl ?_;refine zi6 0 rfl (fun q1=>?_);refine zi6 1 rfl (fun q2=>?_);refine zi6 2 rfl (fun q3=>?_);refine zc 5 rfl (tq_ rfl (jln rfl) (zl 4 rfl ?_));refine zbO (fun m Γ H=>∃(i:Nat) (n:Nat) (out:List Lm),s.q.g.us.length-i=m/\Γ=[(3,some (D.ptr 0 0)),(4,some (D.ptr 1 0)),(5,some (D.ptr 2 0)),(6,some (D.ptr 3 0)),(39,some (D.v (V.one (El.row afE s.q.g.us)))),(40,some (D.val (.int .i64 ((s.q.g.us.length:Nat):Int)))),(41,some (D.val (.int .i64 (i:Int))))]/\H=[hbq 62 [Leaf.val (ifV tD cs)] q1,hbq 43 (quL s.q++[El.row dcE s.path,Leaf.own 4 n]) q2,hbq 3 [Leaf.val (.int .i64 bits)] q3,hb_ 43 scZ,hgr 57 6 lmE out n]/\i<=s.q.g.us.length/\out=Rc.runN d s bits i) ⟨0,0,s.lems,rfl,rfl,rfl,zxg _,rfl⟩ rfl ?_;rintro m Γ H ⟨i,n,out,rfl,rfl,rfl,hi0,hout⟩;refine zc 2 rfl ?_;by_cases hi:i<s.q.g.us.length
 .refine tq_ rfl (ltT rfl) (zl 9 rfl ?_);obtain⟨p,hp⟩:∃p,s.q.g.us[i]?=some p:=⟨_,zxa hi⟩;have hso:=zkp hdm hs h80 (bits:=bits) hbt (n:=i) (by omega);have hln:=(zhn hdm hs h80 bits hbt i (by omega)).2;rw[<-hout] at hso hln;have hpf:=hq.fj hp;have hpf2:FOk 33554432 (s.q.g.inp+s.q.g.us.length) p:=hpf.fok.mono (zxe _) (by omega);have hnf:=hpf.neg;have hnf2:=hpf2.neg;have hpl_:=hpf2.fl;haveI:=hpl_.fm (by omega);haveI:=hpl_.cb;have hK:=zwI (j:=i) hq (by omega);have hKb:bits=0\/KB s.q i-4200<=790000:=hbt.imp id (fun e=>by have:=zru e hi;omega);have hrA:=zmO hdm hs (bits:=bits) hbt hso hp;refine nz_ [so 3 (D.ptr 0 0),so 4 (D.ptr 1 0),so 5 (D.ptr 2 0),so 6 (D.ptr 3 0),so 39 (D.v (V.one (El.row afE s.q.g.us))),so 40 (D.val (.int .i64 ((s.q.g.us.length:Nat):Int))),so 41 (D.val (.int .i64 (i:Int)))] [hbq 62 [Leaf.val (ifV tD cs)] q1,hbq 43 (quL s.q++[El.row dcE s.path,Leaf.own 4 n]) q2,hbq 3 [Leaf.val (.int .i64 bits)] q3,hb_ 43 scZ,hgr 57 6 lmE out n] rfl rfl ?_;refine zc 2 rfl (tq_ rfl (jix i hp rfl) (tq_ rfl (jlr rfl) (zl 7 rfl ?_)));refine zi6 5 rfl (fun q6=>?_);refine zi6 6 rfl (fun q7=>?_);refine zc 1 rfl ?_;refine te_ rfl (zjZ (vs:=[.pointer (some ⟨q7,0,none⟩),.pointer (some ⟨q1,0,none⟩),.pointer (some ⟨q2,0,none⟩),.pointer (some ⟨q6,0,none⟩),.pointer (some ⟨q3,0,none⟩)]) rfl ⟨⟨_,rfl,.inr ⟨_,_,_,rfl,rfl,rfl,rfl,rfl⟩⟩,⟨_,rfl,.inr ⟨_,_,_,rfl,rfl,rfl,rfl,rfl⟩⟩,⟨_,rfl,.inr ⟨_,_,_,rfl,rfl,rfl,rfl,rfl⟩⟩,⟨_,rfl,.inr ⟨_,_,_,rfl,rfl,rfl,rfl,rfl⟩⟩,⟨_,rfl,.inr ⟨_,_,_,rfl,rfl,rfl,rfl,rfl⟩⟩,trivial⟩) ?_;refine zl 3 rfl ?_;refine mt_ [so 3 (D.ptr 0 0),so 4 (D.ptr 1 0),so 5 (D.ptr 2 0),so 6 (D.ptr 3 0),so 10 (D.val (.func (.func 15) #[] #[.pointer (some ⟨q7,0,none⟩),.pointer (some ⟨q1,0,none⟩),.pointer (some ⟨q2,0,none⟩),.pointer (some ⟨q6,0,none⟩),.pointer (some ⟨q3,0,none⟩)])),so 39 (D.v (V.one (El.row afE s.q.g.us))),so 40 (D.val (.int .i64 ((s.q.g.us.length:Nat):Int))),so 41 (D.val (.int .i64 (i:Int)))] [hbq 62 [Leaf.val (ifV tD cs)] q1,hbq 43 (quL s.q++[El.row dcE s.path,Leaf.own 4 (n+((zbp d s bits out i p).length-out.length))]) q2,hbq 3 [Leaf.val (.int .i64 bits)] q3,hb_ 43 scZ,hgr 57 6 lmE (zbp d s bits out i p) (n+((zbp d s bits out i p).length-out.length)),hbq 3 [Leaf.val (.int .i64 (i:Int))] q6,hbq 35 (afL p) q7] ?_ ?_
  .refine nz_ [so 3 _,so 4 _,so 5 _,so 6 _,so 10 (D.val (.func (.func 15) #[] #[.pointer (some ⟨q7,0,none⟩),.pointer (some ⟨q1,0,none⟩),.pointer (some ⟨q2,0,none⟩),.pointer (some ⟨q6,0,none⟩),.pointer (some ⟨q3,0,none⟩)])),so 39 _,so 40 _,so 41 _] [_,_,_,_,_,hbq 3 [Leaf.val (.int .i64 (i:Int))] q6,hbq 35 (afL p) q7] rfl rfl (zc 2 rfl ?_);refine zha (dc:=[D.ptr 6 0,D.ptr 0 0,D.ptr 1 0,D.ptr 5 0,D.ptr 2 0]) rfl rfl rfl ⟨.inr ⟨_,_,_,rfl,rfl,rfl,rfl,rfl⟩,.inr ⟨_,_,_,rfl,rfl,rfl,rfl,rfl⟩,.inr ⟨_,_,_,rfl,rfl,rfl,rfl,rfl⟩,.inr ⟨_,_,_,rfl,rfl,rfl,rfl,rfl⟩,.inr ⟨_,_,_,rfl,rfl,rfl,rfl,rfl⟩,trivial⟩ Tryz.func15 rfl rfl Tryz.ntmps15 (zxh rfl) rfl (fun a8 d8 s8=>?_);refine qc_ (zc 19 rfl (tq_ rfl (jvl 11 rfl rfl) (zl 1 rfl (te_ rfl (zjb rfl rfl hm hfL rfl (hL (withL s out) p hso hpf2) hone) (zl 17 rfl ?_)))));refine zaz rfl (fun hb1n=>?_) (fun hb1n=>?_)
   .refine zk9 [(3,some (D.ptr 0 0)),(4,some (D.ptr 1 0)),(5,some (D.ptr 2 0)),(6,some (D.ptr 3 0)),(10,some (D.val (.func (.func 15) #[] #[.pointer (some ⟨q7,0,none⟩),.pointer (some ⟨q1,0,none⟩),.pointer (some ⟨q2,0,none⟩),.pointer (some ⟨q6,0,none⟩),.pointer (some ⟨q3,0,none⟩)]))),(39,some (D.v (V.one (El.row afE s.q.g.us)))),(40,some (D.val (.int .i64 ((s.q.g.us.length:Nat):Int)))),(41,some (D.val (.int .i64 (i:Int))))] (fun _ _ h=>h) d8 s8 rfl rfl ⟨rfl,rfl,rfl,rfl,rfl,rfl,rfl,rfl,trivial⟩ ?_;refine zl 1 rfl ?_;have hA:(zbp d s bits out i p)=out:=by unfold zbp;rw[zkl (by have h:(d (withL s out) p).2.2=false:=(by simpa using hb1n);exact h),zxy]
    refine zan 7 (zan 8 (zbq 7 rfl ?_));exact zoL (by rw[hA,Nat.sub_self,Nat.add_zero];first|done|rfl) (zhS ⟨rfl,rfl,rfl,rfl,rfl,rfl,rfl,rfl,trivial⟩)
   .refine zc 3 rfl ?_;have hb1:(d (withL s out) p).2.2=true:=by simpa using hb1n
    haveI h1hb1:Hb (d (withL s out) p).1 (KB s.q i-4200):=hdm (withL s out) hso i p (by exact hi) (by exact hpf) (by exact hb1);have h2hb1:=h1hb1;haveI h3hb1:Br (d (withL s out) p).1 134300000:=h1hb1.limb (by omega);haveI:Br (zde (d (withL s out) p).1 false bits) 134300000:=((zfr (up:=false) (bits:=bits) h2hb1 hKb).limb (by omega));have hso_B_1:∀m∈out,Fq m.v 134300000:=hso.B;have hso_L_1:(out).length<=100:=hso.ll;refine zc 1 rfl (tq_ rfl (jvl 11 rfl rfl) (zl 1 rfl (tc_ fn18 rfl (zrl (withL s out) hso_B_1 (by omega) (by show(out).length<=_;omega) (i:Int)) (zl 8 rfl ?_))));refine nf_ [7] [so 0 (D.bool false),so 3 (D.ptr 1 0),so 4 (D.ptr 5 0),so 5 _,so 8 (D.ptr 8 0),so 9 (D.v (V.one (El.row muE ((d (withL s out) p).2.1)))),so 11 (D.val (.int .i64 (((zaR out (i:Int)).1:Nat):Int))),so 12 (D.val (.int .i64 (((zaR out (i:Int)).2:Nat):Int))),so 2003 (D.ptr 0 0),so 2004 (D.ptr 1 0),so 2005 (D.ptr 2 0),so 2006 (D.ptr 3 0),so 2010 (D.val (.func (.func 15) #[] #[.pointer (some ⟨q7,0,none⟩),.pointer (some ⟨q1,0,none⟩),.pointer (some ⟨q2,0,none⟩),.pointer (some ⟨q6,0,none⟩),.pointer (some ⟨q3,0,none⟩)])),so 2039 (D.v (V.one (El.row afE s.q.g.us))),so 2040 (D.val (.int .i64 ((s.q.g.us.length:Nat):Int))),so 2041 (D.val (.int .i64 (i:Int)))] [_,_,_,_,_,_,_,none,hb_ 33 (qL ((d (withL s out) p).1))] rfl rfl rfl ?_;refine zc 20 rfl (tc_ fn20 rfl (zin ((d (withL s out) p).1) false bits h2hb1 hKb (by omega) h0 h4) (zl 3 rfl ?_));refine mt_ [so 0 (D.bool false),so 3 (D.ptr 1 0),so 4 (D.ptr 5 0),so 8 (D.ptr 8 0),so 9 (D.v (V.one (El.row muE ((d (withL s out) p).2.1)))),so 59 (D.bool (za0 out i false (zde (d (withL s out) p).1 false bits))),so 2003 (D.ptr 0 0),so 2004 (D.ptr 1 0),so 2005 (D.ptr 2 0),so 2006 (D.ptr 3 0),so 2010 (D.val (.func (.func 15) #[] #[.pointer (some ⟨q7,0,none⟩),.pointer (some ⟨q1,0,none⟩),.pointer (some ⟨q2,0,none⟩),.pointer (some ⟨q6,0,none⟩),.pointer (some ⟨q3,0,none⟩)])),so 2039 (D.v (V.one (El.row afE s.q.g.us))),so 2040 (D.val (.int .i64 ((s.q.g.us.length:Nat):Int))),so 2041 (D.val (.int .i64 (i:Int)))] [hbq 62 [Leaf.val (ifV tD cs)] q1,hbq 43 (quL s.q++[El.row dcE s.path,Leaf.own 4 n]) q2,hbq 3 [Leaf.val (.int .i64 bits)] q3,hb_ 43 scZ,hgr 57 6 lmE out n,hbq 3 [Leaf.val (.int .i64 (i:Int))] q6,hbq 35 (afL p) q7,none,hb_ 33 (qL (zde (d (withL s out) p).1 false bits))] ?_ ?_
    .refine nz_ [so 0 _,so 3 _,so 4 _,so 8 _,so 9 _,so 13 (D.val (.int .i64 (((zaR out (i:Int)).1:Nat):Int))),so 14 (D.val (.int .i64 1)),so 2003 _,so 2004 _,so 2005 _,so 2006 _,so 2010 _,so 2039 _,so 2040 _,so 2041 _] [_,_,_,_,_,_,_,none,hb_ 33 (qL (zde (d (withL s out) p).1 false bits))] rfl rfl (dr_ 0 [] [] (dz 1 rfl ?_));by_cases hk1:(zaR out (i:Int)).1=0
     .refine kq_ rfl (eqT rfl) (dz 13 rfl (zgy (za0 out i false (zde (d (withL s out) p).1 false bits)) rfl (by exact(zh7 (.inl hk1)).symm) (zad ?_)));exact mx_ rfl
     .refine kq_ rfl (eqF rfl) (dz 3 rfl ?_);obtain⟨y,hy,_,_,hly,hy0,hyl⟩:=zgo hk1;haveI hyB:=hso_B_1 y (zxb hy);refine kq_ rfl (zjU (r:=4) (n:=n) (x:=V.one (Leaf.own 4 n)) (x':=V.one (El.row lmE out)) (zbZ rfl rfl rfl (by decide) ty41 rfl) (RowAt.ofE lmE out rfl (by decide)) (by decide) (.inr ⟨rfl,rfl⟩)) (dz 1 rfl (kq_ rfl (jsb ((zaR out (i:Int)).1-1) rfl) (kq_ rfl (jix ((zaR out (i:Int)).1-1) hy rfl) (kq_ rfl (jft rfl) (kq_ rfl (jlr rfl) ?_)))));refine kc_ zt1 rfl (ztS (qOf ((zde (d (withL s out) p).1 false bits))) ((zde (d (withL s out) p).1 false bits)) (zao _) (Br.use (by omega)) y.v (y.v.q) rfl (Fq.use (x:=y.v) (by omega))) (dz 1 rfl ?_);by_cases hc1:lv out (zaR out (i:Int)).1<zde (d (withL s out) p).1 false bits
      .refine kq_ rfl (eqT rfl (by rw[zkY,<-hly];exact hc1)) (dz 1 rfl (zgy (za0 out i false (zde (d (withL s out) p).1 false bits)) rfl (by exact(zh7 (.inr hc1)).symm) (zad ?_)));exact mx_ rfl
      .refine kq_ rfl (eqF rfl (fun e=>hc1 (by rw[hly];exact zkY.1 e))) (dz 1 rfl (zgy (za0 out i false (zde (d (withL s out) p).1 false bits)) rfl (by exact(zmw hk1 hc1).symm) (zad ?_)));exact mx_ rfl
    .refine zaz rfl (fun hs1=>?_) (fun hs1=>?_)
     .refine zc 8 rfl (te_ rfl (zag rfl zt8 zwT tz57 rfl (by decide) (by decide) rfl (by decide) rfl) (te_ rfl (jap (e:=lmE) (⟨(i:Int),false,(qOf ((zde (d (withL s out) p).1 false bits))),(d (withL s out) p).2.1⟩) rfl rfl) (zl 3 rfl ?_)));refine zfE [(3,some (D.ptr 0 0)),(4,some (D.ptr 1 0)),(5,some (D.ptr 2 0)),(6,some (D.ptr 3 0)),(10,some (D.val (.func (.func 15) #[] #[.pointer (some ⟨q7,0,none⟩),.pointer (some ⟨q1,0,none⟩),.pointer (some ⟨q2,0,none⟩),.pointer (some ⟨q6,0,none⟩),.pointer (some ⟨q3,0,none⟩)]))),(39,some (D.v (V.one (El.row afE s.q.g.us)))),(40,some (D.val (.int .i64 ((s.q.g.us.length:Nat):Int)))),(41,some (D.val (.int .i64 (i:Int))))] d8 s8 rfl rfl ⟨rfl,rfl,rfl,rfl,rfl,rfl,rfl,rfl,trivial⟩ ?_;refine zl 1 rfl ?_;have hA:(zbp d s bits out i p)=out++[(⟨(i:Int),false,qOf (zde (d (withL s out) p).1 false bits),(d (withL s out) p).2.1⟩:Lm)]:=by unfold zbp;rw[zhl (by exact hb1) (by exact hs1)];rfl
      refine zan 8 (zbq 7 rfl ?_);exact zoL (by rw[hA,zxq,Nat.add_sub_cancel_left];first|done|rfl) (zhS ⟨rfl,rfl,rfl,rfl,rfl,rfl,rfl,rfl,trivial⟩)
     .refine zc 1 rfl ?_;refine zfE [(3,some (D.ptr 0 0)),(4,some (D.ptr 1 0)),(5,some (D.ptr 2 0)),(6,some (D.ptr 3 0)),(10,some (D.val (.func (.func 15) #[] #[.pointer (some ⟨q7,0,none⟩),.pointer (some ⟨q1,0,none⟩),.pointer (some ⟨q2,0,none⟩),.pointer (some ⟨q6,0,none⟩),.pointer (some ⟨q3,0,none⟩)]))),(39,some (D.v (V.one (El.row afE s.q.g.us)))),(40,some (D.val (.int .i64 ((s.q.g.us.length:Nat):Int)))),(41,some (D.val (.int .i64 (i:Int))))] d8 s8 rfl rfl ⟨rfl,rfl,rfl,rfl,rfl,rfl,rfl,rfl,trivial⟩ ?_;refine zl 1 rfl ?_;have hA:(zbp d s bits out i p)=out:=by unfold zbp;rw[zkk (by exact hs1),zxy]
      refine zan 8 (zbq 7 rfl ?_);exact zoL (by rw[hA,Nat.sub_self,Nat.add_zero];first|done|rfl) (zhS ⟨rfl,rfl,rfl,rfl,rfl,rfl,rfl,rfl,trivial⟩)
  .have hso1:SOk (withL s (zbp d s bits out i p)):=LOk.withL hs hrA.1 (by have:=hrA.2;have hl2:out.length<=s.lems.length+2*i:=hln;omega);refine zc 2 rfl ?_;refine zha (dc:=[D.ptr 6 0,D.ptr 0 0,D.ptr 1 0,D.ptr 5 0,D.ptr 2 0]) rfl rfl rfl ⟨.inr ⟨_,_,_,rfl,rfl,rfl,rfl,rfl⟩,.inr ⟨_,_,_,rfl,rfl,rfl,rfl,rfl⟩,.inr ⟨_,_,_,rfl,rfl,rfl,rfl,rfl⟩,.inr ⟨_,_,_,rfl,rfl,rfl,rfl,rfl⟩,.inr ⟨_,_,_,rfl,rfl,rfl,rfl,rfl⟩,trivial⟩ Tryz.func15 rfl rfl Tryz.ntmps15 (zxh rfl) rfl (fun a12 d12 s12=>?_);refine qc_ (zc 14 rfl (dr_ 0 [(3,7)] [7] (dz 1 rfl (kc_ fn17 rfl (zpk (-1) (by decide) (by decide)) (kc_ fn16 rfl (zrS p ((-1:Int):Rat) hpl_ (by omega) (by omega) (by omega)) (dz 1 rfl (zad (za 4 rfl (tq_ rfl (jvl 11 rfl rfl) ?_)))))))));refine zl 1 rfl (te_ rfl (zjb rfl rfl hm hfL rfl (hL (withL s (zbp d s bits out i p)) (zcS p) hso1 hnf2) hone) (zl 17 rfl ?_));refine zaz rfl (fun hb2n=>?_) (fun hb2n=>?_)
   .refine zk9 [(3,some (D.ptr 0 0)),(4,some (D.ptr 1 0)),(5,some (D.ptr 2 0)),(6,some (D.ptr 3 0)),(39,some (D.v (V.one (El.row afE s.q.g.us)))),(40,some (D.val (.int .i64 ((s.q.g.us.length:Nat):Int)))),(41,some (D.val (.int .i64 (i:Int))))] (fun _ _ h=>h) d12 s12 rfl rfl ⟨rfl,rfl,rfl,rfl,rfl,rfl,rfl,trivial⟩ (zl 4 rfl (tq_ rfl (jad (i+1) rfl) ?_));refine zl 2 rfl (zan 5 (zan 6 (zan 7 (zan 8 (zbq 5 rfl ?_)))));exact nx_ ⟨i+1,_,_,rfl,rfl,rfl,hi,by rw[zdc hp,<-hout,zkl (by have h:(d (withL s (zbp d s bits out i p)) (zcS p)).2.2=false:=(by simpa using hb2n);exact h)];simp only[zxy]⟩ rfl
   .refine zc 3 rfl ?_;have hb2:(d (withL s (zbp d s bits out i p)) (zcS p)).2.2=true:=by simpa using hb2n
    haveI h1hb2:Hb (d (withL s (zbp d s bits out i p)) (zcS p)).1 (KB s.q i-4200):=hdm (withL s (zbp d s bits out i p)) hso1 i (zcS p) (by exact hi) (by exact hnf) (by exact hb2);have h2hb2:Hb (-(d (withL s (zbp d s bits out i p)) (zcS p)).1) (KB s.q i-4200):=Hb.neg;haveI h3hb2:Br (d (withL s (zbp d s bits out i p)) (zcS p)).1 134300000:=h1hb2.limb (by omega);haveI:Br (zde (-(d (withL s (zbp d s bits out i p)) (zcS p)).1) true bits) 134300000:=((zfr (up:=true) (bits:=bits) h2hb2 hKb).limb (by omega));have hso_B_2:∀m∈(zbp d s bits out i p),Fq m.v 134300000:=hso1.B;have hso_L_2:((zbp d s bits out i p)).length<=100:=hso1.ll;refine zc 1 rfl (tq_ rfl (jvl 11 rfl rfl) (zl 1 rfl (tc_ fn18 rfl (zrl (withL s (zbp d s bits out i p)) hso_B_2 (by omega) (by show((zbp d s bits out i p)).length<=_;omega) (i:Int)) (zl 8 rfl ?_))));refine nf_ [7] [so 0 (D.bool true),so 3 (D.ptr 1 0),so 4 (D.ptr 5 0),so 5 _,so 8 (D.ptr 8 0),so 9 (D.v (V.one (El.row muE ((d (withL s (zbp d s bits out i p)) (zcS p)).2.1)))),so 11 (D.val (.int .i64 (((zaR (zbp d s bits out i p) (i:Int)).1:Nat):Int))),so 12 (D.val (.int .i64 (((zaR (zbp d s bits out i p) (i:Int)).2:Nat):Int))),so 2003 (D.ptr 0 0),so 2004 (D.ptr 1 0),so 2005 (D.ptr 2 0),so 2006 (D.ptr 3 0),so 2039 (D.v (V.one (El.row afE s.q.g.us))),so 2040 (D.val (.int .i64 ((s.q.g.us.length:Nat):Int))),so 2041 (D.val (.int .i64 (i:Int)))] [_,hbq 43 (quL s.q++[El.row dcE s.path,Leaf.own 4 (n+((zbp d s bits out i p).length-out.length))]) q2,_,_,hgr 57 6 lmE (zbp d s bits out i p) (n+((zbp d s bits out i p).length-out.length)),hbq 3 [Leaf.val (.int .i64 (i:Int))] q6,hbq 35 (afL p) q7,none,hb_ 33 (qL ((d (withL s (zbp d s bits out i p)) (zcS p)).1))] rfl rfl rfl ?_;refine zc 15 rfl (tc_ fn19 rfl (qneg (qOf ((d (withL s (zbp d s bits out i p)) (zcS p)).1)) ((d (withL s (zbp d s bits out i p)) (zcS p)).1) (zao _) (Br.use (by omega))) (zl 7 rfl ?_));refine nz_ [so 0 _,so 3 _,so 4 _,so 5 _,so 8 _,so 9 _,so 13 (D.val (.int .i64 (((zaR (zbp d s bits out i p) (i:Int)).2:Nat):Int))),so 14 (D.val (.int .i64 (-1))),so 2003 _,so 2004 _,so 2005 _,so 2006 _,so 2039 _,so 2040 _,so 2041 _] [_,_,_,_,_,_,_,none,hb_ 33 (qL (-((d (withL s (zbp d s bits out i p)) (zcS p)).1)))] rfl rfl (zc 4 rfl ?_);refine tc_ fn20 rfl (zin (-(d (withL s (zbp d s bits out i p)) (zcS p)).1) true bits h2hb2 hKb (by omega) h0 h4) (zl 3 rfl ?_);refine mt_ [so 0 (D.bool true),so 3 (D.ptr 1 0),so 4 (D.ptr 5 0),so 8 (D.ptr 8 0),so 9 (D.v (V.one (El.row muE ((d (withL s (zbp d s bits out i p)) (zcS p)).2.1)))),so 59 (D.bool (za0 (zbp d s bits out i p) i true (zde (-(d (withL s (zbp d s bits out i p)) (zcS p)).1) true bits))),so 2003 (D.ptr 0 0),so 2004 (D.ptr 1 0),so 2005 (D.ptr 2 0),so 2006 (D.ptr 3 0),so 2039 (D.v (V.one (El.row afE s.q.g.us))),so 2040 (D.val (.int .i64 ((s.q.g.us.length:Nat):Int))),so 2041 (D.val (.int .i64 (i:Int)))] [hbq 62 [Leaf.val (ifV tD cs)] q1,hbq 43 (quL s.q++[El.row dcE s.path,Leaf.own 4 (n+((zbp d s bits out i p).length-out.length))]) q2,hbq 3 [Leaf.val (.int .i64 bits)] q3,hb_ 43 scZ,hgr 57 6 lmE (zbp d s bits out i p) (n+((zbp d s bits out i p).length-out.length)),hbq 3 [Leaf.val (.int .i64 (i:Int))] q6,hbq 35 (afL p) q7,none,hb_ 33 (qL (zde (-(d (withL s (zbp d s bits out i p)) (zcS p)).1) true bits))] ?_ ?_
    .refine dr_ 0 [] [] (dz 1 rfl ?_);by_cases hk2:(zaR (zbp d s bits out i p) (i:Int)).2=0
     .refine kq_ rfl (eqT rfl) (dz 13 rfl (zgy (za0 (zbp d s bits out i p) i true (zde (-(d (withL s (zbp d s bits out i p)) (zcS p)).1) true bits)) rfl (by exact(zh6 (.inl hk2)).symm) (zad ?_)));exact mx_ rfl
     .refine kq_ rfl (eqF rfl) (dz 3 rfl ?_);obtain⟨y,hy,_,_,hly,hy0,hyl⟩:=ze0 hk2;haveI hyB:=hso_B_2 y (zxb hy);refine kq_ rfl (zjU (r:=4) (n:=(n+((zbp d s bits out i p).length-out.length))) (x:=V.one (Leaf.own 4 (n+((zbp d s bits out i p).length-out.length)))) (x':=V.one (El.row lmE (zbp d s bits out i p))) (zbZ rfl rfl rfl (by decide) ty41 rfl) (RowAt.ofE lmE (zbp d s bits out i p) rfl (by decide)) (by decide) (.inr ⟨rfl,rfl⟩)) (dz 1 rfl ?_);refine kq_ rfl (jsb ((zaR (zbp d s bits out i p) (i:Int)).2-1) rfl) (kq_ rfl (jix ((zaR (zbp d s bits out i p) (i:Int)).2-1) hy rfl) (kq_ rfl (jft rfl) (kq_ rfl (jlr rfl) ?_)));refine kc_ zt1 rfl (ztS (qOf ((zde (-(d (withL s (zbp d s bits out i p)) (zcS p)).1) true bits))) ((zde (-(d (withL s (zbp d s bits out i p)) (zcS p)).1) true bits)) (zao _) (Br.use (by omega)) y.v (y.v.q) rfl (Fq.use (x:=y.v) (by omega))) (dz 1 rfl ?_);by_cases hc2:zde (-(d (withL s (zbp d s bits out i p)) (zcS p)).1) true bits<lv (zbp d s bits out i p) (zaR (zbp d s bits out i p) (i:Int)).2
      .refine kq_ rfl (eqT rfl (by rw[zkX,<-hly];exact hc2)) (dz 1 rfl (zgy (za0 (zbp d s bits out i p) i true (zde (-(d (withL s (zbp d s bits out i p)) (zcS p)).1) true bits)) rfl (by exact(zh6 (.inr hc2)).symm) (zad ?_)));exact mx_ rfl
      .refine kq_ rfl (eqF rfl (fun e=>hc2 (by rw[hly];exact zkX.1 e))) (dz 1 rfl (zgy (za0 (zbp d s bits out i p) i true (zde (-(d (withL s (zbp d s bits out i p)) (zcS p)).1) true bits)) rfl (by exact(zmu hk2 hc2).symm) (zad ?_)));exact mx_ rfl
    .refine zaz rfl (fun hs2=>?_) (fun hs2=>?_)
     .refine zc 8 rfl (te_ rfl (zag rfl zt8 zwT tz57 rfl (by decide) (by decide) rfl (by decide) rfl) (te_ rfl (jap (e:=lmE) (⟨(i:Int),true,(qOf ((zde (-(d (withL s (zbp d s bits out i p)) (zcS p)).1) true bits))),(d (withL s (zbp d s bits out i p)) (zcS p)).2.1⟩) rfl rfl) (zl 3 rfl ?_)));refine zfE [(3,some (D.ptr 0 0)),(4,some (D.ptr 1 0)),(5,some (D.ptr 2 0)),(6,some (D.ptr 3 0)),(39,some (D.v (V.one (El.row afE s.q.g.us)))),(40,some (D.val (.int .i64 ((s.q.g.us.length:Nat):Int)))),(41,some (D.val (.int .i64 (i:Int))))] d12 s12 rfl rfl ⟨rfl,rfl,rfl,rfl,rfl,rfl,rfl,trivial⟩ (zl 4 rfl (tq_ rfl (jad (i+1) rfl) (zl 2 rfl ?_)));refine zan 5 (zan 6 (zan 8 (zbq 5 rfl ?_)));exact nx_ ⟨i+1,_,_,rfl,rfl,rfl,hi,by rw[zdc hp,<-hout,zhl (by exact hb2) (by exact hs2)];rfl⟩ rfl
     .refine zc 1 rfl (zfE [(3,some (D.ptr 0 0)),(4,some (D.ptr 1 0)),(5,some (D.ptr 2 0)),(6,some (D.ptr 3 0)),(39,some (D.v (V.one (El.row afE s.q.g.us)))),(40,some (D.val (.int .i64 ((s.q.g.us.length:Nat):Int)))),(41,some (D.val (.int .i64 (i:Int))))] d12 s12 rfl rfl ⟨rfl,rfl,rfl,rfl,rfl,rfl,rfl,trivial⟩ (zl 4 rfl (tq_ rfl (jad (i+1) rfl) ?_)));refine zl 2 rfl (zan 5 (zan 6 (zan 8 (zbq 5 rfl ?_))));exact nx_ ⟨i+1,_,_,rfl,rfl,rfl,hi,by rw[zdc hp,<-hout,zkk (by exact hs2)];simp only[zxy]⟩ rfl
 .refine tq_ rfl (ltF rfl) (zl 10 rfl ?_);have hie:i=s.q.g.us.length:=by omega
  rw[hie] at hout;refine zc 1 rfl (tq_ rfl (jvl 11 rfl rfl) (zl 4 rfl ?_));exact r2_ hq_ rfl (by unfold zdI;rw[<-hout] <;> rfl)
end Go.Proofs.YticnclbnchgigaaGreatDoor
namespace Rc
open Go Go.RowKit
theorem zkD{l r:List Lm}{n:Nat}(h0:0<n)(h:n<=l.length):lv (l++r) n=lv l n:=by
 unfold lv;rw[zxi (by omega)]
theorem ziZ(l r:List Lm)(u:Int):∀n,n<=l.length->zbr (l++r) u n=zbr l u n
 |0,_=>rfl
 |n+1,h=>by
  obtain⟨h1,h2,_,_⟩:=zcM l u n;rw[zaD,zaD,ziZ l r u n (by omega)];unfold zjh;rw[zxi (by omega)];have e1:(zbr l u n).1≠0->lv (l++r) (zbr l u n).1=lv l (zbr l u n).1:=fun h=>zkD (by omega) (by omega);have e2:(zbr l u n).2≠0->lv (l++r) (zbr l u n).2=lv l (zbr l u n).2:=fun h=>zkD (by omega) (by omega)
  cases l[n]? with
  |none=>rfl
  |some m=>
   simp only[];by_cases h3:(zbr l u n).1=0 <;> by_cases h4:(zbr l u n).2=0 <;> simp[h3,h4,e1,e2]
theorem zg5{l:List Lm}{u:Int}{k:Nat}(h:∀(i:Nat) (m:Lm),k<=i->l[i]?=some m->m.unit≠u):∀n,zbr l u (k+n)=zbr l u k
 |0=>rfl
 |n+1=>by
  rw[show k+(n+1)=(k+n)+1 by omega,zaD,zg5 h n]
  cases hx:l[k+n]? with
  |none=>unfold zjh;simp only[hx]
  |some m=>exact zgj hx (h _ m (by omega) hx)
theorem zp2{l r:List Lm}{u:Int}(h:∀m∈r,m.unit≠u):zaR (l++r) u=zaR l u:=by
 unfold zaR;rw[zxq,zg5 (k:=l.length) (fun i m hi hm=>?_),ziZ _ _ _ _ (zxe _)];rw[List.getElem?_append_right hi] at hm;exact h m (zxb hm)
theorem zgn(l:List Lm)(u:Int):∀n (i:Nat) (m:Lm),i<n->l[i]?=some m->m.unit=u →
  (m.up=false->(zbr l u n).1≠0/\m.v.q<=lv l (zbr l u n).1)/\(m.up=true->(zbr l u n).2≠0/\lv l (zbr l u n).2<=m.v.q)
 |0,i,m,hi,_,_=>by omega
 |n+1,i,m,hi,hm,hu=>by
  rw[zaD]
  cases hx:l[n]? with
  |none=>
   have hin:i<n:=by have:=(zxc.1 hm).1;have:=List.getElem?_eq_none_iff.1 hx;omega
   unfold zjh;simp only[hx];exact zgn l u n i m hin hm hu
  |some x=>
   have hlx:lv l (n+1)=x.v.q:=zfW (by simpa using hx);by_cases hin:i=n
   .subst hin;rw[hm] at hx;cases hx;refine⟨fun hup=>?_,fun hup=>?_⟩
    .by_cases hc:(zbr l u i).1=0\/lv l (zbr l u i).1<m.v.q
     .rw[zd8 hm hu hup hc];exact⟨by simp,by rw[hlx];exact Rat.le_refl⟩
     .rw[zgk hm hu hup hc];exact⟨fun e=>hc (.inl e),Rat.not_lt.1 (fun e=>hc (.inr e))⟩
    .by_cases hc:(zbr l u i).2=0\/m.v.q<lv l (zbr l u i).2
     .rw[zd7 hm hu hup hc];exact⟨by simp,by rw[hlx];exact Rat.le_refl⟩
     .rw[zgi hm hu hup hc];exact⟨fun e=>hc (.inl e),Rat.not_lt.1 (fun e=>hc (.inr e))⟩
   .obtain⟨h1,h2⟩:=zgn l u n i m (by omega) hm hu;by_cases hxu:x.unit=u
    .cases hxup:x.up
     .by_cases hc:(zbr l u n).1=0\/lv l (zbr l u n).1<x.v.q
      .rw[zd8 hx hxu hxup hc];refine⟨fun hup=>⟨by simp,?_⟩,h2⟩;show m.v.q<=lv l (n+1);rw[hlx];rcases hc with hc|hc
       .exact absurd hc (h1 hup).1
       .exact Rat.le_of_lt (Std.lt_of_le_of_lt (h1 hup).2 hc)
      .rw[zgk hx hxu hxup hc];exact⟨h1,h2⟩
     .by_cases hc:(zbr l u n).2=0\/x.v.q<lv l (zbr l u n).2
      .rw[zd7 hx hxu hxup hc];refine⟨h1,fun hup=>⟨by simp,?_⟩⟩;show lv l (n+1)<=m.v.q;rw[hlx];rcases hc with hc|hc
       .exact absurd hc (h2 hup).1
       .exact Rat.le_of_lt (Std.lt_of_lt_of_le hc (h2 hup).2)
      .rw[zgi hx hxu hxup hc];exact⟨h1,h2⟩
    .rw[zgj hx hxu];exact⟨h1,h2⟩
theorem zhJ{l:List Lm}{u:Int}{m:Lm}(hm:m∈l)(hu:m.unit=u):(m.up=false->(zaR l u).1≠0/\m.v.q<=lv l (zaR l u).1)/\(m.up=true->(zaR l u).2≠0/\lv l (zaR l u).2<=m.v.q):=by
 obtain⟨i,hi⟩:=List.getElem?_of_mem hm;exact zgn l u l.length i m (zxc.1 hi).1 hi hu
theorem zi0{l r:List Lm}{u:Int}:((zaR l u).1≠0->(zaR (l++r) u).1≠0/\lv l (zaR l u).1<=lv (l++r) (zaR (l++r) u).1)/\((zaR l u).2≠0->(zaR (l++r) u).2≠0/\lv (l++r) (zaR (l++r) u).2<=lv l (zaR l u).2):=by
 refine⟨fun h=>?_,fun h=>?_⟩
 .obtain⟨m,h1,h2,h3,h4,_⟩:=zgo h;rw[h4];exact(zhJ (List.mem_append_left _ (zxb h1)) h2).1 h3
 .obtain⟨m,h1,h2,h3,h4,_⟩:=ze0 h;rw[h4];exact(zhJ (List.mem_append_left _ (zxb h1)) h2).2 h3
theorem zfV{l r:List Lm}{u:Int}:((zaR l u).1≠0->lv (l++r) (zaR l u).1=lv l (zaR l u).1)/\((zaR l u).2≠0->lv (l++r) (zaR l u).2=lv l (zaR l u).2):=
 ⟨fun h=>zkD (by omega) (zn8 l u).1,fun h=>zkD (by omega) (zn8 l u).2⟩
def Agn(k:Nat)(l l':List Lm):Prop:=∀u:Nat,u<k->zaR l (u:Int)=zaR l' (u:Int)/\((zaR l (u:Int)).1≠0->lv l (zaR l (u:Int)).1=lv l' (zaR l (u:Int)).1)/\((zaR l (u:Int)).2≠0->lv l (zaR l (u:Int)).2=lv l' (zaR l (u:Int)).2)
theorem Agn.app{k:Nat}{l r:List Lm}(h:∀m∈r,(k:Int)<=m.unit):Agn k (l++r) l:=fun u hu=>by
 have e:zaR (l++r) (u:Int)=zaR l (u:Int):=zp2 (fun m hm=>by have:=h m hm;omega);refine⟨e,?_,?_⟩
 .rw[e];exact zfV.1
 .rw[e];exact zfV.2
theorem zlX{k inp v:Nat}{l l':List Lm}(h:Agn k l l')(hv:v<inp+k):za4 inp l v=za4 inp l' v:=by
 by_cases h1:v<inp
 .unfold za4;rw[if_pos h1,if_pos h1]
 .obtain⟨e1,e2,e3⟩:=h (v-inp) (by omega);unfold za4;rw[if_neg h1,if_neg h1,<-e1];by_cases hz:(zaR l ((v-inp:Nat):Int)).1=0\/(zaR l ((v-inp:Nat):Int)).2=0
  .rw[if_pos hz,if_pos hz]
  .rw[if_neg hz,if_neg hz,e2 (fun e=>hz (.inl e)),e3 (fun e=>hz (.inr e))]
theorem zqc{k inp:Nat}{l l':List Lm}(h:Agn k l l'){t:Tm}(hv:t.1<inp+k)(a:List Mu×Bool):zdO inp l a t=zdO inp l' a t:=by
 unfold zdO;rw[zlX h hv]
theorem zk7{k inp:Nat}{l l':List Lm}(h:Agn k l l'):∀(ts:List Tm) (a:List Mu×Bool),(∀t∈ts,t.1<inp+k)->ts.foldl (zdO inp l) a=ts.foldl (zdO inp l') a
 |[],_,_=>rfl
 |t::ts,a,hv=>by
  rw[List.foldl_cons,List.foldl_cons,zqc h (hv t (by simp)),zk7 h ts _ (fun x hx=>hv x (by simp[hx]))]
theorem zuc{k v:Nat}{s s':Sc}(hq:s.q=s'.q)(h:Agn k s.lems s'.lems)(hv:v<s.q.g.inp+k):ub s v=ub s' v:=by
 unfold ub;rw[<-hq];by_cases h1:v<s.q.g.inp
 .rw[if_pos h1,if_pos h1]
 .obtain⟨e1,e2,e3⟩:=h (v-s.q.g.inp) (by omega);rw[if_neg h1,if_neg h1,<-e1];by_cases hz:(zaR s.lems ((v-s.q.g.inp:Nat):Int)).2=0
  .rw[if_pos (.inl hz),if_pos (.inl hz)]
  .rw[e3 hz]
theorem zk1{k:Nat}{s s':Sc}(hq:s.q=s'.q)(h:Agn k s.lems s'.lems):∀ts:List Tm,(∀t∈ts,t.1<s.q.g.inp+k)->zlV s ts=zlV s' ts
 |[],_=>rfl
 |t::ts,hv=>by
  simp only[zlV];rw[zk1 hq h ts (fun x hx=>hv x (by simp[hx]))];have:zn2 s t=zn2 s' t:=by
   unfold zn2 lb;rw[zuc hq h (hv t (by simp)),hq]
  rw[this]
theorem zon{k:Nat}{s s':Sc}(hk:k<=s.q.g.us.length)(hqo:QOk s.q)(hq:s.q=s'.q)(h:Agn k s.lems s'.lems){f:Af}(hv:∀t∈f.ts,t.1<s.q.g.inp+k):abQ s f=abQ s' f/\abL s f=abL s' f/\abB s f=abB s' f:=by
 have e:zg8 s.q.g.inp s.lems f.ts=zg8 s'.q.g.inp s'.lems f.ts:=by
  rw[<-hq];exact zk7 h f.ts _ hv
 have e1:abL s f=abL s' f:=congrArg Prod.fst e;have e2:abB s f=abB s' f:=congrArg Prod.snd e;refine⟨?_,e1,e2⟩;cases hb:abB s f
 .unfold abQ;rw[<-e2,hb,if_neg (by decide),if_neg (by decide)]
 .rw[zi5 hqo (fun t ht=>zxj (hv t ht) (by omega)) hb,zi5 (hq ▸ hqo) (fun t ht=>by rw[<-hq];exact zxj (hv t ht) (by omega)) (e2 ▸ hb),zk1 hq h f.ts hv]
section
variable {d:Dom}{s:Sc}{bits:Int}
theorem zeh{j:Nat}{up:Bool}{p:Af}{m:Lm}(h:m∈zbH d s bits j up p):m.unit=(j:Int)/\m.up=up/\m.v=qOf (zda d s bits up p)/\m.pf=zmy d s up p:=by
 unfold zbH at h;split at h
 .rw[List.mem_singleton] at h;subst h;exact⟨rfl,rfl,rfl,rfl⟩
 .simp at h
theorem zih(d:Dom)(s:Sc)(bits:Int)(k:Nat):∀n,∃r,runN d s bits (k+n)=runN d s bits k++r/\∀m∈r,(k:Int)<=m.unit
 |0=>⟨[],by simp,fun m hm=>by simp at hm⟩
 |n+1=>by
  obtain⟨r,h1,h2⟩:=zih d s bits k n;rw[show k+(n+1)=(k+n)+1 by omega,zig];unfold zhm
  cases hp:s.q.g.us[k+n]? with
  |none=>exact⟨r,h1,h2⟩
  |some p=>
   refine⟨r++(zbH d (withL s (runN d s bits (k+n))) bits (k+n) false p++zbH d (withL s (zbp d s bits (runN d s bits (k+n)) (k+n) p)) bits (k+n) true p),?_,fun m hm=>?_⟩
   .simp only[];unfold zbp;rw[h1];simp only[zxD]
   .rcases zxv.1 hm with hm|hm
    .exact h2 m hm
    .rcases zxv.1 hm with hm|hm
     .rw[(zeh hm).1];omega
     .rw[(zeh hm).1];omega
theorem zo9(d:Dom)(s:Sc)(bits:Int){n k:Nat}(h:n<=k):∃r,runN d s bits k=runN d s bits n++r/\∀m∈r,(n:Int)<=m.unit:=by
 have:=zih d s bits n (k-n)
 rwa [show n+(k-n)=k by omega] at this
end
theorem zmv{l l':List Lm}{j:Nat}{up:Bool}{x:Rat}(h:za0 l j up x=false)(hl:∃r,l'=l++r):za0 l' j up x=false:=by
 obtain⟨r,rfl⟩:=hl;cases up
 .by_cases h1:(zaR l (j:Int)).1=0
  .rw[za0,if_neg (by decide),decide_eq_true h1] at h;simp at h
  .by_cases h2:lv l (zaR l (j:Int)).1<x
   .rw[za0,if_neg (by decide),decide_eq_true h2] at h;simp at h
   .obtain⟨q1,q2⟩:=(zi0 (r:=r)).1 h1;unfold za0;rw[if_neg (by decide),decide_eq_false q1,decide_eq_false (fun e=>h2 (Std.lt_of_le_of_lt q2 e))];rfl
 .by_cases h1:(zaR l (j:Int)).2=0
  .rw[za0,if_pos rfl,decide_eq_true h1] at h;simp at h
  .by_cases h2:x<lv l (zaR l (j:Int)).2
   .rw[za0,if_pos rfl,decide_eq_true h2] at h;simp at h
   .obtain⟨q1,q2⟩:=(zi0 (r:=r)).2 h1;unfold za0;rw[if_pos rfl,decide_eq_false q1,decide_eq_false (fun e=>h2 (Std.lt_of_lt_of_le e q2))];rfl
theorem zlo{l:List Lm}{j:Nat}{up:Bool}{x:Rat}{m:Lm}(hm:m∈l)(hu:m.unit=(j:Int))(hup:m.up=up)(hv:m.v.q=x):za0 l j up x=false:=by
 obtain⟨h1,h2⟩:=zhJ hm hu;cases up
 .obtain⟨q1,q2⟩:=h1 hup;unfold za0;rw[if_neg (by decide),decide_eq_false q1,decide_eq_false (fun e=>by rw[<-hv] at e;exact absurd (Std.lt_of_le_of_lt q2 e) (Rat.lt_irrefl))];rfl
 .obtain⟨q1,q2⟩:=h2 hup;unfold za0;rw[if_pos rfl,decide_eq_false q1,decide_eq_false (fun e=>by rw[<-hv] at e;exact absurd (Std.lt_of_lt_of_le e q2) (Rat.lt_irrefl))];rfl
theorem zgO{s s':Sc}{bits:Int}{j:Nat}{up:Bool}{p:Af}(hq:s.q=s'.q)(hqo:QOk s.q)(hp:s.q.g.us[j]?=some p)(ha:Agn j s'.lems s.lems)(hl:∃r,s'.lems=s.lems++zbH za9 s bits j up p++r):zbH za9 s' bits j up p=[]:=by
 have hj:=(zxc.1 hp).1;have hpo:=hqo.g.us j p hp;have e1:=zon (s:=s') (s':=s) (k:=j) (by rw[<-hq];omega) (hq ▸ hqo) hq.symm ha (f:=p) (fun t ht=>by rw[<-hq];exact hpo.var t ht);have e2:=zon (s:=s') (s':=s) (k:=j) (by rw[<-hq];omega) (hq ▸ hqo) hq.symm ha (f:=zcS p) (fun t ht=>by rw[<-hq];exact hpo.neg.var t ht);have eV:zda za9 s' bits up p=zda za9 s bits up p:=by unfold zda za9;rw[e1.1,e2.1]
 have eB:zib za9 s' up p=zib za9 s up p:=by unfold zib za9;rw[e1.2.2,e2.2.2]
 obtain⟨r,hl⟩:=hl;cases hb:zib za9 s up p
 .unfold zbH;rw[eB,hb];rfl
 .cases hs:za0 s.lems j up (zda za9 s bits up p)
  .have:za0 s'.lems j up (zda za9 s bits up p)=false:=zmv hs ⟨zbH za9 s bits j up p++r,by rw[hl,zxD]⟩;unfold zbH;rw[eV,this,Bool.and_false];rfl
  .have hn:zbH za9 s bits j up p=[⟨(j:Int),up,qOf (zda za9 s bits up p),zmy za9 s up p⟩]:=by unfold zbH;rw[hb,hs];rfl
   have:za0 s'.lems j up (zda za9 s bits up p)=false:=zlo (m:=⟨(j:Int),up,qOf (zda za9 s bits up p),zmy za9 s up p⟩) (by rw[hl,hn];simp) rfl rfl (zao _);unfold zbH;rw[eV,this,Bool.and_false];rfl
theorem zif{s:Sc}{bits:Int}(hqo:QOk s.q):∀n,n<=s.q.g.us.length->runN za9 (zdI za9 s bits) bits n=(zdI za9 s bits).lems
 |0,_=>rfl
 |n+1,hn=>by
  obtain⟨p,hp⟩:∃p,s.q.g.us[n]?=some p:=⟨_,zxa (by omega)⟩;have hp':(zdI za9 s bits).q.g.us[n]?=some p:=hp;obtain⟨r,hr,hru⟩:=zo9 za9 s bits hn;have hst:=zdc (d:=za9) (s:=s) (bits:=bits) hp;have hlems:(zdI za9 s bits).lems=runN za9 s bits n++zbH za9 (withL s (runN za9 s bits n)) bits n false p++zbH za9 (withL s (zbp za9 s bits (runN za9 s bits n) n p)) bits n true p++r:=by
   show runN za9 s bits s.q.g.us.length=_;rw[hr,hst];unfold zbp;rfl
  have hge:∀m∈zbH za9 (withL s (runN za9 s bits n)) bits n false p++zbH za9 (withL s (zbp za9 s bits (runN za9 s bits n) n p)) bits n true p++r,(n:Int)<=m.unit:=fun m hm=>by
   rcases zxv.1 hm with hm|hm
   .rcases zxv.1 hm with hm|hm
    .rw[(zeh hm).1];omega
    .rw[(zeh hm).1];omega
   .have:=hru m hm;omega
  have a1:Agn n (zdI za9 s bits).lems (runN za9 s bits n):=by
   rw[hlems,zxD,zxD];refine Agn.app (fun m hm=>hge m ?_)
   rwa [zxD]
  have a2:Agn n (zdI za9 s bits).lems (zbp za9 s bits (runN za9 s bits n) n p):=by
   have e:(zdI za9 s bits).lems=zbp za9 s bits (runN za9 s bits n) n p++(zbH za9 (withL s (zbp za9 s bits (runN za9 s bits n) n p)) bits n true p++r):=by
    rw[hlems];unfold zbp;rw[zxD]
   rw[e];refine Agn.app (fun m hm=>hge m ?_);rw[zxD];exact List.mem_append_right _ hm
  rw[zdc hp',zif hqo n (by omega)];have h1:zbH za9 (withL (zdI za9 s bits) (zdI za9 s bits).lems) bits n false p=[]:=
   zgO (s:=withL s (runN za9 s bits n)) rfl hqo hp a1 ⟨_,by show(zdI za9 s bits).lems=_;rw[hlems,zxD _ (zbH za9 (withL s (zbp za9 s bits (runN za9 s bits n) n p)) bits n true p) r];rfl⟩
  have hA:zbp za9 (zdI za9 s bits) bits (zdI za9 s bits).lems n p=(zdI za9 s bits).lems:=by
   unfold zbp;rw[h1,zxy]
  rw[hA];have h2:zbH za9 (withL (zdI za9 s bits) (zdI za9 s bits).lems) bits n true p=[]:=
   zgO (s:=withL s (zbp za9 s bits (runN za9 s bits n) n p)) rfl hqo hp a2 ⟨r,by show(zdI za9 s bits).lems=_;rw[hlems];rfl⟩
  rw[h2,zxy]
theorem zmJ{s:Sc}{bits:Int}(hqo:QOk s.q):zdI za9 (zdI za9 s bits) bits=zdI za9 s bits:=by
 show withL (zdI za9 s bits) (runN za9 (zdI za9 s bits) bits s.q.g.us.length)=_;rw[zif hqo _ (zxe _)];rfl
def awF:Af:=⟨[(0,((1:Int):Rat))],((-1:Int):Rat)⟩
def awQ:Qu:=⟨⟨1,[awF],[awF]⟩,⟨[0],[((3:Int):Rat)],[]⟩,fZ⟩
def awS:Sc:=⟨awQ,[],[]⟩
theorem rat0:D.agg [Leaf.val (.bool false),nilL,nilL]=D.agg (qL 0):=by
 show _=D.agg [Leaf.val (.bool (zbx 0)),zaf (zab (zaV 0)),zaf (zab (zaW 0))];rw[zcw,zcy,zaj];rfl
theorem zk3(n:Nat)(h:1<=n):FOk 3 n awF:=
 ⟨⟨by decide,fun t ht=>by simp at ht,trivial⟩,fun t ht=>by simp[awF] at ht;subst ht;exact Hb.int (by decide),Hb.int (by decide),fun t ht=>by simp[awF] at ht;subst ht;exact h⟩
theorem awQ_sml:Sml awQ:=⟨by decide,by decide +kernel⟩
theorem zoa:QOk awQ:=by
 refine⟨⟨by decide,by decide,by decide,by decide,by decide,fun j x hx=>?_,fun x hx=>?_⟩,⟨rfl,rfl,by decide,fun j x y hx hy=>?_,fun x hx=>by simp[awQ] at hx⟩,⟨trivial,fun t ht=>by simp[awQ,fZ] at ht,Hb.z,fun t ht=>by simp[awQ,fZ] at ht⟩,zxk awQ_sml.sz (by omega)⟩
 .have hx:[awF][j]?=some x:=hx;have:=zxb hx;rw[List.mem_singleton] at this;subst this;exact(zk3 (1+j) (by omega)).mono (by omega) (zxe _)
 .have hx:x∈[awF]:=hx;rw[List.mem_singleton] at hx;subst hx;exact(zk3 2 (by decide)).mono (by omega) (zxe _)
 .have hx:[(0:Rat)][j]?=some x:=hx;have hy:[((3:Int):Rat)][j]?=some y:=hy;have h1:=zxb hx;have h2:=zxb hy;rw[List.mem_singleton] at h1 h2;subst h1;subst h2;exact⟨Hb.z,(Hb.int (n:=3) (by decide)).mono (by omega),by decide⟩
theorem zrm:SOk awS:=⟨zoa,fun d hd=>by simp[awS] at hd,by decide,fun m hm=>by simp[awS] at hm,by decide⟩
theorem zwt:abB awS awF=true/\abQ awS awF=((-1:Int):Rat):=by
 have hb:abB awS awF=true:=by
  show(zdO 1 [] ([],true) (0,((1:Int):Rat))).2=true;rw[zk6 (by show(0:Rat)<((1:Int):Rat);decide)]
 refine⟨hb,?_⟩;rw[zi5 zoa (fun t ht=>(zk3 1 (by decide)).var t ht |> fun h=>by show t.1<1+1;omega) hb];decide +kernel
theorem zwu(l:List Lm):abB (withL awS l) (zcS awF)=true/\abQ (withL awS l) (zcS awF)=((-2:Int):Rat):=by
 have e:(zcS awF).ts=[(0,((-1:Int):Rat))]:=by decide +kernel
 have e2:(zcS awF).c=((1:Int):Rat):=by decide +kernel
 have hb:abB (withL awS l) (zcS awF)=true:=by
  unfold abB zg8;rw[e];show(zdO 1 l ([],true) (0,((-1:Int):Rat))).2=true;rw[zi4 (by decide) (by unfold za4;rw[if_pos (by decide)];rfl)]
 refine⟨hb,?_⟩;rw[zi5 zoa (fun t ht=>(zk3 1 (by decide)).neg.var t ht |> fun h=>by show t.1<1+1;omega) hb,e,e2];have h1:zn2 (withL awS l) (0,((-1:Int):Rat))=((3:Int):Rat):=by
  unfold zn2;rw[if_neg (show ¬(0:Rat)<((-1:Int):Rat) by decide)];unfold ub;rw[if_pos (show(0:Nat)<(withL awS l).q.g.inp from Nat.one_pos)];rfl
 simp only[zlV];rw[h1];decide +kernel
def awL:List Lm:=[⟨0,false,qOf ((-1:Int):Rat),abL awS awF⟩]
theorem zws:∃p p':List Mu,(zdI za9 awS 0).lems=[⟨0,false,qOf ((-1:Int):Rat),p⟩,⟨0,true,qOf ((2:Int):Rat),p'⟩]:=by
 refine⟨abL awS awF,abL (withL awS awL) (zcS awF),?_⟩;have h1:runN za9 awS 0 0=[]:=rfl;have hA:zbp za9 awS 0 [] 0 awF=awL:=by
  have hv:zda za9 awS 0 false awF=((-1:Int):Rat):=by
   unfold zda;rw[if_neg (by decide)];show zde (abQ awS awF) false 0=_;unfold zde;rw[if_pos rfl,zwt.2]
  show[]++zbH za9 awS 0 0 false awF=_;rw[zhl (d:=za9) (s:=awS) (bits:=0) (j:=0) (up:=false) (p:=awF) zwt.1 (by rfl),hv];rfl
 have hB:zbH za9 (withL awS awL) 0 0 true awF=[⟨0,true,qOf ((2:Int):Rat),abL (withL awS awL) (zcS awF)⟩]:=by
  have hv:zda za9 (withL awS awL) 0 true awF=((2:Int):Rat):=by
   unfold zda;rw[if_pos rfl];show zde (-(abQ (withL awS awL) (zcS awF))) true 0=_;unfold zde;rw[if_pos rfl,(zwu awL).2];decide +kernel
  rw[zhl (d:=za9) (s:=withL awS awL) (bits:=0) (j:=0) (up:=true) (p:=awF) (zwu awL).1 (by rfl),hv];rfl
 show runN za9 awS 0 (0+1)=_;rw[zdc (p:=awF) rfl,h1,hA,hB];rfl
theorem zwv:∃a b:Lm,(zdI za9 awS 0).lems[0]?=some a/\(zdI za9 awS 0).lems[1]?=some b/\a.v=qOf ((-1:Int):Rat)/\b.up=true/\b.v=qOf ((2:Int):Rat)/\(zdI za9 awS 0).lems.length=2:=by
 obtain⟨p,p',h⟩:=zws;rw[h];exact⟨_,_,rfl,rfl,rfl,rfl,rfl,rfl⟩
theorem zwr:D.agg [Leaf.val (.int .i64 1),afE.row [awF],afE.row [awF],ratE.row [0],ratE.row [((3:Int):Rat)],afE.row [],tmE.row [],Leaf.val (.bool false),nilL,nilL]=(D.v (quV awQ)):=by
 show _=D.agg [Leaf.val (.int .i64 1),afE.row [awF],afE.row [awF],ratE.row [0],ratE.row [((3:Int):Rat)],afE.row [],tmE.row [],Leaf.val (.bool (zbx 0)),zaf (zab (zaV 0)),zaf (zab (zaW 0))];rw[zcw,zcy,zaj];rfl
end Rc
namespace Go.Proofs.YticnclbnchgigaaGreatDoor
open Go Go.RowKit Rc
theorem zmx(nm:ByteArray)(s:Sc)(hs:SOk s)(f:Af)(hf:FOk 33554432 (s.q.g.inp+s.q.g.us.length) f):Ctr Tryz.prog 143 [V.agg [Leaf.val (.string nm),Leaf.val (.int .i64 0)],scV s,afV f] (R.tup [qV (qOf (abQ s f)),V.one (El.row muE (abL s f)),V.one (Leaf.val (.bool (abB s f)))]):=by
 refine bd_ Tryz.func143 Tryz.ntmps143 rfl (fun w0 A0=>?_);refine zc 12 rfl (dr_ 0 [] [] (dz 13 rfl (zad (za 8 rfl (tc_ fn145 rfl (zsr s hs f hf (by omega)) (zl 8 rfl ?_))))));exact r3_ hq_ rfl rfl
theorem zdH(s:Sc)(hs:SOk s)(h80:s.lems.length<=80)(bits:Int)(h0:0<=bits)(h4:bits<=4096)(hbt:bits=0\/Sml s.q):Ctr Tryz.prog 6 [V.one (Leaf.val (ifV 48 [.string ⟨#[]⟩,.int .i64 0])),scV s,V.one (Leaf.val (.int .i64 (bits)))] (R.tup [scV (zdI za9 s bits),V.one (Leaf.val (.int .i64 0))]):=
 drun za9 zjR 48 143 [.string ⟨#[]⟩,.int .i64 0] rfl (by kernel_rfl) zv7 (fun s f hs hf=>zmx _ s hs f hf) s hs h80 bits h0 h4 hbt
theorem zgC(s:Sc)(hs:SOk s)(bits:Int)(hb:bits<0\/4096<bits):Ctr Tryz.prog 6 [V.one (Leaf.val (ifV 48 [.string ⟨#[]⟩,.int .i64 0])),scV s,V.one (Leaf.val (.int .i64 (bits)))] (R.tup [V.agg [Leaf.val (.int .i64 0),nilL,nilL,nilL,nilL,nilL,nilL,Leaf.val (.bool false),nilL,nilL,nilL,nilL],V.one (Leaf.val (.int .i64 1))]):=
 zpM za9 zjR 48 143 [.string ⟨#[]⟩,.int .i64 0] rfl (by kernel_rfl) zv7 (fun s f hs hf=>zmx _ s hs f hf) s hs bits hb
theorem zfj(s:Sc)(hs:SOk s)(h80:s.lems.length<=60)(bits:Int)(h0:0<=bits)(h4:bits<=4096)(hbt:bits=0\/Sml s.q):Ctr Tryz.prog 6 [V.one (Leaf.val (ifV 48 [.string ⟨#[]⟩,.int .i64 0])),scV (zdI za9 s bits),V.one (Leaf.val (.int .i64 (bits)))] (R.tup [scV (zdI za9 s bits),V.one (Leaf.val (.int .i64 0))]):=by
 have h:=zrW zjR hs (by omega) bits hbt;have:=zdH (zdI za9 s bits) h.1 (by omega) bits h0 h4 hbt
 rwa [zmJ hs.q] at this
set_option maxHeartbeats 2000000 in
theorem ztn  : Ctr Tryz.prog 4 [] (R.one (V.one (Leaf.val (.bool true)))):=by
 refine bd_ Tryz.func4 Tryz.ntmps4 rfl (fun w0 A0=>?_);obtain⟨a,b,ha,hb,ha1,hb1,hb2,hlen⟩:=zwv;refine zc 7 rfl (tc_ fn8 rfl (zl6 1 (by decide) (by decide)) (zl 5 rfl (dr_ 1 [(5,1),(6,1)] [1] (dz 2 rfl (ke_ rfl (fun _=>zag rfl zj8 zl5 zug rfl (by decide) (by decide) rfl (by decide) rfl) (kc_ fn8 rfl (zl6 (-1) (by decide) (by decide)) (dz 3 rfl (zad (za 2 rfl ?_)))))))));refine dr_ 1 [(11,2),(12,2)] [2] (dz 1 rfl (ke_ rfl (fun _=>zag rfl ztP zh3 ztQ rfl (by decide) (by decide) rfl (by decide) rfl) (dz 1 rfl (ke_ rfl (fun _=>zag rfl ztP zh3 ztQ rfl (by decide) (by decide) rfl (by decide) rfl) (dz 2 rfl (zsx (D.agg (qL 0)) rfl (rat0) ?_))))));refine ke_ rfl (fun _=>zag rfl zua ztR zuh rfl (by decide) (by decide) rfl (by decide) rfl) (kc_ fn8 rfl (zl6 3 (by decide) (by decide)) (ke_ rfl (fun _=>zag rfl zua ztR zuh rfl (by decide) (by decide) rfl (by decide) rfl) (dz 2 rfl (zsx (D.v (quV awQ)) rfl (zwr) (dz 2 rfl (zad (za 4 rfl ?_)))))));refine tq_ rfl (zcO (vs:=[.string ⟨#[]⟩,.int .i64 0]) rfl rfl (by kernel_rfl)) (zl 2 rfl (tc_ fn6 rfl (zdH awS zrm (by decide) 0 (by decide) (by decide) (.inl rfl)) (zl 11 rfl (tq_ rfl (zcO (vs:=[.string ⟨#[]⟩,.int .i64 0]) rfl rfl (by kernel_rfl)) (zl 1 rfl (tc_ fn6 rfl (zfj awS zrm (by decide) 0 (by decide) (by decide) (.inl rfl)) ?_))))));refine zl 9 rfl (dr_ 0 [] [] (dz 9 rfl (kq_ rfl (jln rfl) (kq_ rfl (eqT rfl) (dz 4 rfl (kq_ rfl (jln rfl) (kq_ rfl (eqT rfl) (dz 4 rfl (kq_ rfl (jix 0 ha rfl) ?_)))))))));refine kq_ rfl (jft rfl) (kq_ rfl (jlr rfl) (kc_ fn8 rfl (zl6 (-1) (by decide) (by decide)) (kc_ fn9 rfl (zik a.v (qOf ((-1:Int):Rat))) (zgy true rfl (by rw[ha1];exact zgP _) (dz 4 rfl (kq_ rfl (jix 1 hb rfl) (kq_ rfl (jfr rfl) (kq_ rfl (jli rfl) (zgy true rfl (hb1) ?_)))))))));refine dz 4 rfl (kq_ rfl (jix 1 hb rfl) (kq_ rfl (jft rfl) (kq_ rfl (jlr rfl) (kc_ fn8 rfl (zl6 2 (by decide) (by decide)) (kc_ fn9 rfl (zik b.v (qOf ((2:Int):Rat))) (zgy true rfl (by rw[hb2];exact zgP _) (dz 2 rfl (zad (za 1 rfl ?_)))))))));exact r1_ hq_ rfl rfl
end Go.Proofs.YticnclbnchgigaaGreatDoor
namespace Rc
open Go Go.RowKit Go.ChangeShapes Go.WideShapes
def zpK(P:Program)(t:Nat):Option (List (Nat×Nat)):=
 match P.underlying t with
 |some (.struct fs)=>some (fs.toList.map fun f=>(f.offset,f.type))
 |_=>none
theorem ziJ{P:Program}{t:Nat}{l:List (Nat×Nat)}(h:zpK P t=some l):∃fs,P.underlying t=some (.struct fs)/\fs.toList.map (fun f=>(f.offset,f.type))=l:=by
 unfold zpK at h
 cases hu:P.underlying t with
 |none=>rw[hu] at h;simp at h
 |some d=>
  rw[hu] at h;cases d <;> simp only[reduceCtorEq] at h;exact⟨_,rfl,by simpa using h⟩
section
variable {H:Type}{enc:TypeId×Value->H}{P:Program}{w:World}{base:Nat}{held:Bool}
@[reducible] def zjg(w:World):Foot:=Foot.of fun k _=>k<w.heap.size
theorem zr9{t:Nat}{cs:List Value}{fuel:Nat}{x:DataW H×List MemPlace}{spare:Nat->Bool}(ht:P.underlying t=some .bool)(h:DataW.trod enc P w base spare held fuel t cs=some x):∃b,cs=[.bool b]:=by
 cases fuel with
 |zero=>simp[DataW.trod] at h
 |succ n=>
  unfold DataW.trod at h;rw[ht] at h;split at h <;> simp_all
theorem zqU{t:Nat}{k:IntKind}{cs:List Value}{fuel:Nat}{x:DataW H×List MemPlace}{spare:Nat->Bool}(ht:P.underlying t=some (.int k))(h:DataW.trod enc P w base spare held fuel t cs=some x) :
  ∃n,cs=[.int k n]/\(Lit.int k n).wf=true:=by
 obtain⟨n,rfl,_,hw⟩:=DataW.trod_int ht h;exact⟨n,rfl,hw⟩
theorem zqw{n:Int}(h:(Lit.int .u32 n).wf=true):0<=n/\n<=4294967295:=by
 simp[Lit.wf,IntKind.min,IntKind.max,IntKind.bits,IntKind.signed] at h;omega
theorem zt3{n:Int}(h:(Lit.int .u8 n).wf=true):0<=n/\n<=255:=by
 simp[Lit.wf,IntKind.min,IntKind.max,IntKind.bits,IntKind.signed] at h;omega
theorem zt4{n:Int}(h:(Lit.int .i64 n).wf=true):-9223372036854775808<=n/\n<=9223372036854775807:=by
 simp[Lit.wf,IntKind.min,IntKind.max,IntKind.bits,IntKind.signed] at h;omega
theorem zjN{a:Addr}{v:Value}(h:w.cell? a=some v):a.block<w.heap.size:=by
 unfold World.cell? at h
 cases hb:w.heap[a.block]? with
 |none=>rw[hb] at h;simp at h
 |some o=>exact(zxz.1 hb).1
theorem zuz{t u:Nat}{cs:List Value}{fuel:Nat}{x:DataW H×List MemPlace}(ht:P.underlying t=some (.slice u))(hu:P.underlying u=some (.int .u32))(hc:P.cellsOf u=1)
  (h:DataW.trod enc P w base (fun _=>true) held fuel t cs=some x):∃c l,cs=[c]/\Small l/\(zaf l).den (zjg w) c w:=by
 rcases open_ints ht hu hc h with⟨rfl,_⟩|⟨a,len,cap,zs,rfl,_,hl,hm,hz,_,hcell,hwf⟩
 .exact⟨_,[],rfl,Small.nil,zca _ _⟩
 .simp only[if_true] at hz;refine⟨_,(zs.take len).map Int.toNat,rfl,?_,?_⟩
  .intro y hy;obtain⟨n,hn,rfl⟩:=List.mem_map.1 hy;have:=zqw (hwf n (List.mem_of_mem_take hn));omega
  .have hlen:((zs.take len).map Int.toNat).length=len:=by simp;omega
   show(zal ((zs.take len).map Int.toNat).length _).P _ _ _;rw[hlen];refine⟨some a,cap,rfl,hl,hm,fun h=>by simp at h,fun ad had=>?_⟩;cases had;refine⟨fun h0=>?_,fun i lf hi=>?_⟩
   .obtain⟨b,off,rfl,_⟩:=ints_at hcell (by omega);rfl
   .rw[List.getElem?_map,List.getElem?_map,List.getElem?_take] at hi;split at hi
    .rename_i hil;have hiz:i<zs.length:=by omega
     obtain⟨b,off,rfl,hc2⟩:=ints_at hcell (by omega);have hci:=hc2 i hiz;rw[zxa hiz] at hi;simp only[Option.map_some,zxd] at hi;subst hi;have hw:=zqw (hwf zs[i] (List.getElem_mem hiz));have hlt:b<w.heap.size:=zjN hci;refine⟨hlt,_,hci,?_,rfl⟩;rw[List.getD_eq_getElem?_getD,zxa hiz];simp only[Option.getD_some];congr 1;omega
    .simp at hi
structure NumTy(P:Program)(tb tn tu tr:Nat):Prop where
 b:P.underlying tb=some .bool
 u:P.underlying tu=some (.int .u32)
 n:P.underlying tn=some (.slice tu)
 cb:P.cellsOf tb=1
 cu:P.cellsOf tu=1
 cn:P.cellsOf tn=1
 r:zpK P tr=some [(0,tb),(1,tn),(2,tn)]
 cr:P.cellsOf tr=3
variable {tb tn tu tr:Nat}
theorem zg2{A:Foot}{l1 l2:List Leaf}{cs:List Value}(k:Nat)(h1:denL A l1 (cs.take k) w)(h2:denL A l2 (cs.drop k) w):denL A (l1++l2) cs w:=by
 have:=h1.append h2
 rwa [List.take_append_drop] at this
theorem zr8{t:Nat}(ht:P.underlying t=some (.int .i64)){r:Reach}{b0:Nat}{v:Value}{d:DataW H}{p:List MemPlace}(hv:Value.okWide P w r b0 t v)(h:DataW.Trod enc P w base (fun _=>true) held t v d p) :
  ∃n:Int,-9223372036854775808<=n/\n<=9223372036854775807/\(V.one (Leaf.val (.int .i64 n))).den (zjg w) v w:=by
 obtain⟨x,rfl,_,_,hw⟩:=open_int ht hv h;have:=zt4 hw;exact⟨x,this.1,this.2,rfl,rfl⟩
end
theorem znA{P:Program}{f:Nat}{xs:List V}{w:World}{vs:List Value}(h:Ctr P f xs (R.one (V.one (Leaf.val (.bool true)))))(hg:zoP w)(hd:denVs (zjg w) xs vs w) :
  Calls P f vs.toArray w fun e w'=>e = .returned (.bool true)/\Below w.heap.size w w':=by
 refine Calls.mono (h w vs (fun k _=>k<w.heap.size) hg (fun _ _ hk=>hk) hd) ?_;rintro e w' ⟨v,rfl,hv,hb⟩;obtain⟨rfl,_⟩:v = .bool true/\_:=hv;exact⟨rfl,hb⟩
theorem zqI:∀l:List Nat,u8E.all l=l.map fun(x:Nat)=>Leaf.val (.int .u8 (x:Int))
 |[]=>rfl
 |x::l=>by show u8E.f x++u8E.all l=_;rw[zqI l];rfl
section
variable {H:Type}{enc:TypeId×Value->H}{P:Program}{w:World}{base:Nat}{held:Bool}
theorem zm6{t u:Nat}(ht:P.underlying t=some (.slice u))(hu:P.underlying u=some (.int .u8))(hc:P.cellsOf u=1){r:Reach}{b0:Nat}{v:Value}{d:DataW H}{p:List MemPlace}(hv:Value.okWide P w r b0 t v)
  (h:DataW.Trod enc P w base (fun _=>true) held t v d p):∃l:List Nat,l.length<=maxLen/\(∀x∈l,x<256)/\(V.one (u8E.row l)).den (zjg w) v w:=by
 obtain⟨a0,len0,cap0,rfl⟩:=okWide_slice ht hv;obtain⟨fuel,hf⟩:=h;rcases open_ints ht hu hc hf with⟨hcs,_⟩|⟨a,len,cap,zs,hcs,_,hl,hm,hz,_,hcell,hwf⟩
 .simp[Value.cells] at hcs;obtain⟨rfl,rfl,rfl⟩:=hcs;exact⟨[],zxg _,fun x hx=>by simp at hx,zca _ _⟩
 .simp[Value.cells] at hcs;obtain⟨rfl,rfl,rfl⟩:=hcs;simp only[if_true] at hz;have hlen:((zs.take len0).map Int.toNat).length=len0:=by simp;omega
  refine⟨(zs.take len0).map Int.toNat,by rw[hlen];omega,?_,?_⟩
  .intro y hy;obtain⟨n,hn,rfl⟩:=List.mem_map.1 hy;have:=zt3 (hwf n (List.mem_of_mem_take hn));omega
  .show(zal ((zs.take len0).map Int.toNat).length _).P _ _ _;rw[hlen,zqI];refine⟨some a,cap0,rfl,hl,hm,fun h=>by simp at h,fun ad had=>?_⟩;cases had;refine⟨fun h0=>?_,fun i lf hi=>?_⟩
   .obtain⟨b,off,rfl,_⟩:=ints_at hcell (by first|omega|(simp at h0;omega));rfl
   .rw[List.getElem?_map,List.getElem?_map,List.getElem?_take] at hi;split at hi
    .rename_i hil;have hiz:i<zs.length:=by omega
     obtain⟨b,off,rfl,hc2⟩:=ints_at hcell (by omega);have hci:=hc2 i hiz;rw[zxa hiz] at hi;simp only[Option.map_some,zxd] at hi;subst hi;have hw:=zt3 (hwf zs[i] (List.getElem_mem hiz));have hlt:b<w.heap.size:=zjN hci;refine⟨hlt,_,hci,?_,rfl⟩;rw[List.getD_eq_getElem?_getD,zxa hiz];simp only[Option.getD_some];congr 1;omega
    .simp at hi
variable {tb tn tu tr:Nat}
end
theorem zit{α:Type}{p:Nat->α->Prop}:∀n:Nat,(∀i,i<n->∃a,p i a)->∃l:List α,l.length=n/\∀i a,l[i]?=some a->p i a
 |0,_=>⟨[],rfl,fun i a h=>by simp at h⟩
 |n+1,h=>by
  obtain⟨l,hl,hp⟩:=zit n (fun i hi=>h i (by omega));obtain⟨a,ha⟩:=h n (by omega);refine⟨l++[a],by simp[hl],fun i b hb=>?_⟩;by_cases e:i<n
  .rw[zxi (by omega)] at hb;exact hp i b hb
  .rw[List.getElem?_append_right (by omega)] at hb;have h1:=(zxc.1 hb).1;have h2:i=n:=by simp at h1;omega
   subst h2;simp[hl] at hb;subst hb;exact ha
end Rc
