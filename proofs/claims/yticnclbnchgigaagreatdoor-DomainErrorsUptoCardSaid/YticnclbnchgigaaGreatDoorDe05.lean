/- Parts of the proof, 5: the texts FwI, Knuth, Qz, RefM, Qw, Aff, WkA, WkB, WkC, WkD, as far as they are used. -/
import Derived.Test.YticnclbnchgigaaGreatDoorDe04
set_option linter.unusedSimpArgs false
set_option linter.unusedVariables false
set_option maxRecDepth 10000
namespace Rc
open Go
theorem zkx{a b:Nat}(i:Nat)(ha:a%2^i=0)(hb:b<2^i):a ||| b=a+b:=by
 have h:a=(a/2^i) <<< i:=by
  rw[Nat.shiftLeft_eq];have:=Nat.div_add_mod a (2^i);rw[ha,Nat.add_zero] at this;rw[zxF];exact this.symm
 rw[h,<-Nat.shiftLeft_add_eq_or_of_lt hb]
theorem zbt(w n:Nat)(h:n<2^w):(BitVec.ofInt w (n:Int)).toNat=n:=by
 rw[show(BitVec.ofInt w (n:Int))=BitVec.ofNat w n from by
  apply BitVec.eq_of_toNat_eq;rw[BitVec.toNat_ofInt,BitVec.toNat_ofNat];have:((n:Int)%((2^w:Nat):Int))=((n%2^w:Nat):Int):=by rw[Int.natCast_emod]
  rw[this];rfl]
 rw[BitVec.toNat_ofNat,Nat.mod_eq_of_lt h]
theorem zbQ{n:Nat}(h:n<18446744073709551616):IntKind.u64.wrap (n:Int)=n:=zcC (by omega)
theorem zby{n:Nat}(h:n<4294967296):IntKind.u32.wrap (n:Int)=n:=zry (by omega)
theorem or64{a b:Nat}(i:Nat)(ha:a%2^i=0)(hb:b<2^i)(h:a+b<18446744073709551616) :
  IntKind.u64.wrap ((BitVec.ofInt IntKind.u64.bits (a:Int) ||| BitVec.ofInt IntKind.u64.bits (b:Int)).toNat)=((a+b:Nat):Int):=by
 rw[BitVec.toNat_or,zbt _ a (by simp only[IntKind.bits];omega),zbt _ b (by simp only[IntKind.bits];omega),zkx i ha hb];exact zbQ h
theorem zpp{a b:Nat}(i:Nat)(ha:a%2^i=0)(hb:b<2^i)(h:a+b<18446744073709551616) :
  IntKind.u64.wrap ((BitVec.ofInt IntKind.u64.bits (b:Int) ||| BitVec.ofInt IntKind.u64.bits (a:Int)).toNat)=((b+a:Nat):Int):=by
 rw[BitVec.toNat_or,zbt _ a (by simp only[IntKind.bits];omega),zbt _ b (by simp only[IntKind.bits];omega),Nat.or_comm,zkx i ha hb,Nat.add_comm b a];exact zbQ h
theorem or32'{a b:Nat}(i:Nat)(ha:a%2^i=0)(hb:b<2^i)(h:a+b<4294967296) :
  IntKind.u32.wrap ((BitVec.ofInt IntKind.u32.bits (b:Int) ||| BitVec.ofInt IntKind.u32.bits (a:Int)).toNat)=((b+a:Nat):Int):=by
 rw[BitVec.toNat_or,zbt _ a (by simp only[IntKind.bits];omega),zbt _ b (by simp only[IntKind.bits];omega),Nat.or_comm,zkx i ha hb,Nat.add_comm b a];exact zby h
theorem zic{c:Int}(x c':Nat)(hc:min c.toNat IntKind.u64.bits=c')(h:x*2^c'<18446744073709551616):IntKind.u64.wrap ((x:Int)*2^(min c.toNat IntKind.u64.bits))=((x*2^c':Nat):Int):=by
 rw[hc,show((x:Int)*2^c')=((x*2^c':Nat):Int) from by rw[Int.natCast_mul,Int.natCast_pow];rfl];exact zbQ h
theorem zdx{c:Nat}(h:c<=64):min ((c:Int)).toNat IntKind.u64.bits=c:=by simp only[IntKind.bits];omega
theorem wu8{x r:Int}(h:x%256=r):IntKind.u8.wrap x=r:=by
 subst h;simp[IntKind.wrap,IntKind.bits,IntKind.signed]
theorem zeE(a b:Nat):((a:Int)).tdiv (b:Int)=((a/b:Nat):Int):=by rw[Int.tdiv_eq_ediv_of_nonneg (by omega)];rfl
theorem zdU(a b:Nat):((a:Int)).tmod (b:Int)=((a%b:Nat):Int):=by rw[Int.tmod_eq_emod_of_nonneg (by omega)];rfl
theorem getElem?_bytes(s:ByteArray)(j:Nat):s[j]?=s.data.toList[j]?:=by
 by_cases h:j<s.size
 .rw[getElem?_pos s j h];have h':j<s.data.toList.length:=by simpa using h
  rw[zxa h'];rfl
 .rw[getElem?_neg s j h,List.getElem?_eq_none (by simpa using h)]
theorem zfu{s:ByteArray}(hs:s.data.toList=(List.range 256).map fun i=>UInt8.ofNat (bl i)){x:Nat}(hx:x<256):s[x]?=some (UInt8.ofNat (bl x)):=by
 rw[getElem?_bytes,hs];simp[hx]
theorem zft{x:Nat}(hx:x<256):((UInt8.ofNat (bl x)).toNat:Int)=(bl x:Int):=by
 have:=zas (n:=x) (k:=8) hx;rw[UInt8.toNat_ofNat_of_lt' (by simp[UInt8.size];omega)]
end Rc
namespace Rc
open Go Go.RowKit
set_option maxRecDepth 10000
def est(top s2 v1 v2:Nat):Nat:=
 if top<4294967296 then min ((top*4294967296+s2)/(v1*4294967296+v2)) 4294967295
 else max (min ((top*4294967296+s2)/(v1*4294967296+v2)) 4294967295) ((top-4294967296)/v1)
theorem zwe{A r s2 b:Nat}(h:r*4294967296+s2<b):(A+r)*4294967296+s2<A*4294967296+b:=by
 rw[Nat.add_mul,Nat.add_assoc];exact Nat.add_lt_add_left h _
theorem zwd{a W T p:Nat}(h:a+W<=T)(hp:p<=W):a+p<=T:=zxk (Nat.add_le_add_left hp _) h
theorem znR{top s2 v1 v2 q r:Nat}(h1:0<v1)(hq:q<4294967296)(h:q*v2<=r*4294967296+s2)(ht:q*v1+r=top):q<=est top s2 v1 v2:=by
 have hW:q<=(top*4294967296+s2)/(v1*4294967296+v2):=by
  rw[Nat.le_div_iff_mul_le (by omega)];subst ht;have:q*(v1*4294967296+v2)=q*v1*4294967296+q*v2:=by grind
  rw[this];omega
 have hm:q<=min ((top*4294967296+s2)/(v1*4294967296+v2)) 4294967295:=Nat.le_min.2 ⟨hW,by omega⟩;unfold est;split
 .exact hm
 .exact zxk hm (Nat.le_max_left _ _)
theorem ziM{top s2 v1 v2 q r:Nat}(h1:0<v1)(hr:4294967296<=r)(ht:q*v1+r=top):q<=est top s2 v1 v2:=by
 have hm:q<=(top-4294967296)/v1:=by
  rw[Nat.le_div_iff_mul_le h1];omega
 unfold est;rw[if_neg (by omega)];exact zxk hm (Nat.le_max_right _ _)
theorem zrg{top s2 v1 v2 q r:Nat}(h1:0<v1)(hr:r<4294967296)(ht:q*v1+r=top)(h:4294967296<=q\/r*4294967296+s2<q*v2):est top s2 v1 v2<q:=by
 have hm:min ((top*4294967296+s2)/(v1*4294967296+v2)) 4294967295<q:=by
  rcases h with h|h
  .exact zxB (Nat.min_le_right _ _) (zxj (Nat.lt_succ_self 4294967295) h)
  .refine zxB (Nat.min_le_left _ _) ?_;rw[Nat.div_lt_iff_lt_mul (by omega)];subst ht;have:q*(v1*4294967296+v2)=q*v1*4294967296+q*v2:=by grind
   rw[this];exact zwe h
 unfold est;split
 .exact hm
 .refine Nat.max_lt.2 ⟨hm,?_⟩;rw[Nat.div_lt_iff_lt_mul h1];omega
theorem zwc{top s2 v1 v2:Nat}(h1:0<v1)(h2:s2<4294967296):est top s2 v1 v2<=top/v1:=by
 have hm:min ((top*4294967296+s2)/(v1*4294967296+v2)) 4294967295<=top/v1:=by
  refine zxk (Nat.min_le_left _ _) ?_;rw[Nat.le_div_iff_mul_le h1];have hd:=Nat.div_mul_le_self (top*4294967296+s2) (v1*4294967296+v2);generalize (top*4294967296+s2)/(v1*4294967296+v2)=q at *;have:q*(v1*4294967296+v2)=q*v1*4294967296+q*v2:=by grind
  rw[this] at hd;omega
 unfold est;split
 .exact hm
 .exact Nat.max_le.2 ⟨hm,Nat.div_le_div_right (by omega)⟩
theorem zlL{top s2 v1 v2 lo lov e S V:Nat}(he:0<e)(hv1:2147483648<=v1)(hv1':v1<4294967296)(hv2:v2<4294967296)(hs2:s2<4294967296)(hlo:lo<e)(hlov:lov<e)
  (hS:S=lo+e*(top*4294967296+s2)) (hV:V=lov+e*(v1*4294967296+v2)) (hSV:S<V*4294967296) :
  S/V<=est top s2 v1 v2/\est top s2 v1 v2<=S/V+1:=by
 have hVpos:0<V:=by
  rw[hV];have:0<e*(v1*4294967296+v2):=Nat.mul_pos he (by omega);omega
 have hqB:S/V<4294967296:=by rw[Nat.div_lt_iff_lt_mul hVpos,zxF];exact hSV
 have htop:top<(v1+1)*4294967296:=by
  have h1:e*(top*4294967296)<e*((v1*4294967296+v2+1)*4294967296):=by
   have h2:e*(top*4294967296)<=S:=by rw[hS,Nat.mul_add];omega
   have h3:V<=e*(v1*4294967296+v2+1):=by rw[hV,Nat.mul_add e _ 1,Nat.mul_one];omega
   have h4:V*4294967296<=e*(v1*4294967296+v2+1)*4294967296:=zxl _ h3;rw[Nat.mul_assoc] at h4;omega
  have:=Nat.lt_of_mul_lt_mul_left h1;omega
 constructor
 .have hd:=Nat.div_mul_le_self S V;have hm:S/V<=min ((top*4294967296+s2)/(v1*4294967296+v2)) 4294967295:=by
   refine Nat.le_min.2 ⟨?_,by omega⟩;rw[Nat.le_div_iff_mul_le (by omega)];have h1:e*(S/V*(v1*4294967296+v2))<e*(top*4294967296+s2+1):=by
    have h2:S/V*(e*(v1*4294967296+v2))<=S/V*V:=zxI _ (by rw[hV];omega);have h3:e*(S/V*(v1*4294967296+v2))=S/V*(e*(v1*4294967296+v2)):=by grind
    rw[Nat.mul_add e _ 1,Nat.mul_one,h3];omega
   have:=Nat.lt_of_mul_lt_mul_left h1;omega
  unfold est;split
  .exact hm
  .exact zxk hm (Nat.le_max_left _ _)
 ·
  have hqW:∀q,q<=est top s2 v1 v2->q<=4294967296/\q*(v1*4294967296+v2)<=top*4294967296+s2\/q<=4294967295/\q*(v1*4294967296+v2)<=top*4294967296+s2:=by
   intro q hq;have hleft:q<=min ((top*4294967296+s2)/(v1*4294967296+v2)) 4294967295->q<=4294967295/\q*(v1*4294967296+v2)<=top*4294967296+s2:=by
    intro h;obtain⟨h1,h2⟩:=Nat.le_min.1 h;exact⟨h2,(Nat.le_div_iff_mul_le (by omega)).1 h1⟩
   unfold est at hq;split at hq
   .exact .inr (hleft hq)
   .by_cases hc:q<=min ((top*4294967296+s2)/(v1*4294967296+v2)) 4294967295
    .exact .inr (hleft hc)
    .have h2:q<=(top-4294967296)/v1:=by
      rcases Nat.le_total (min ((top*4294967296+s2)/(v1*4294967296+v2)) 4294967295) ((top-4294967296)/v1) with h|h
      .rwa [Nat.max_eq_right h] at hq
      .rw[Nat.max_eq_left h] at hq;exact absurd hq hc
     have h3:q*v1<=top-4294967296:=(Nat.le_div_iff_mul_le (by omega)).1 h2;have h4:q<=4294967296:=by
      apply Classical.byContradiction;intro hn;have:4294967297*v1<=q*v1:=zxl _ (by omega);omega
     refine .inl ⟨h4,?_⟩;have h5:q*v2<=4294967296*4294967295:=Nat.mul_le_mul h4 (by omega);have:q*(v1*4294967296+v2)=q*v1*4294967296+q*v2:=by grind
     rw[this];omega
  have hq:=hqW _ (zxe _);generalize est top s2 v1 v2=q at *;have hq':q<=4294967296/\q*(v1*4294967296+v2)<=top*4294967296+s2:=by rcases hq with h|h <;> exact⟨by omega,h.2⟩
  obtain⟨hqB',hqW'⟩:=hq';rcases Nat.eq_zero_or_pos q with h0|h0
  .rw[h0];exact zxg _
  .have:q-1<=S/V:=by
    rw[Nat.le_div_iff_mul_le hVpos];obtain⟨p,rfl⟩:∃p,q=p+1:=⟨q-1,by omega⟩;simp only[Nat.add_sub_cancel];have h3:V<=e*(v1*4294967296+v2+1):=by rw[hV,Nat.mul_add e _ 1,Nat.mul_one];omega
    have h4:p*V<=p*(e*(v1*4294967296+v2+1)):=zxI _ h3;have h5:p*(e*(v1*4294967296+v2+1))=e*(p*(v1*4294967296+v2)+p):=by grind
    have h6:p*(v1*4294967296+v2)+p<=top*4294967296+s2:=by
     rw[Nat.add_mul,Nat.one_mul] at hqW';have hW:p<=v1*4294967296+v2:=by omega
     exact zwd hqW' hW
    have h7:=zxI e h6;rw[hS];omega
   generalize S/V=z at *;omega
theorem zfv{pre s post:List Nat}{j i:Nat}(hj:j=pre.length+i)(h:i<s.length):((pre++s++post).map za5)[j]?=some (za5 s[i]):=by
 subst hj;rw[List.getElem?_map,zxi (by simp;omega),List.getElem?_append_right (by omega)];simp[h]
theorem zc9{pre s post:List Nat}{j i x:Nat}(hj:j=pre.length+i)(h:i<s.length):splice ((pre++s++post).map za5) j [za5 x]=(pre++s.set i x++post).map za5:=by
 subst hj;rw[zaA (by simp;omega),List.set_append_left _ _ (by simp;omega),List.set_append_right _ _ (by omega)];simp
theorem zpe{s0 s v:List Nat}{i c b q:Nat}(hi:i<s.length)(hi0:i<s0.length)(hv:i<v.length)(h:val (s.take i)+q*val (v.take i)=val (s0.take i)+(c+b)*4294967296^i)
  (hsi:s.drop i=s0.drop i) (x b' t:Nat) (ht:t=c+q*v[i]) (hx:x+t%4294967296+b=s[i]+4294967296*b') :
  val ((s.set i x).take (i+1))+q*val (v.take (i+1))=val (s0.take (i+1))+(t/4294967296+b')*4294967296^(i+1):=by
 rw[za2 _ _ _ hi,zau v i hv,zau s0 i hi0];have he:s0[i]=s[i]:=by
  have:=congrArg (fun l=>l[0]?) hsi;simp only[List.getElem?_drop,Nat.add_zero] at this;rw[zxa hi,zxa hi0] at this;simpa using this.symm
 rw[he,zxt];have hd:=Nat.div_add_mod t 4294967296;generalize t/4294967296=T at *;generalize t%4294967296=m at *;generalize 4294967296^i=p at *;generalize val (s.take i)=A at *;generalize val (v.take i)=Bv at *;generalize val (s0.take i)=C at *;have e1:p*x+p*m+p*b=p*s[i]+p*(4294967296*b'):=by rw[<-Nat.mul_add,<-Nat.mul_add,<-Nat.mul_add,hx]
 have e2:p*(4294967296*T)+p*m=p*c+p*(q*v[i]):=by rw[<-Nat.mul_add,hd,ht,Nat.mul_add]
 grind
theorem zkr{s0 s:List Nat}{i x:Nat}(h:s.drop i=s0.drop i):(s.set i x).drop (i+1)=s0.drop (i+1):=by
 rw[List.drop_set_of_lt (by omega)];have:=congrArg (List.drop 1) h;simpa[List.drop_drop,Nat.add_comm] using this
theorem zd6{s0 s:List Nat}{i:Nat}(h:s.drop i=s0.drop i)(hi:i<s.length)(hi0:i<s0.length):s[i]=s0[i]:=by
 have:=congrArg (fun l=>l[0]?) h;simp only[List.getElem?_drop,Nat.add_zero] at this;rw[zxa hi,zxa hi0] at this;simpa using this
theorem zh4{s l b:Nat}(hs:s<4294967296)(hl:l+b<=4294967296) :
  let x:=(s+(18446744073709551616-(l+b)))%18446744073709551616
  x%4294967296+l+b=s+4294967296*(x/9223372036854775808)/\x/9223372036854775808<=1:=by
 intro x;by_cases h:l+b<=s
 .have:x=s-(l+b):=by show _%_=_;omega
  rw[this];omega
 .have:x=s+(18446744073709551616-(l+b)):=Nat.mod_eq_of_lt (by omega);rw[this];omega
theorem zm4{s0 s v:List Nat}{n c b q x b':Nat}(hl:s.length=n+1)(hl0:s0.length=n+1)(hvl:v.length=n)(h:val (s.take n)+q*val (v.take n)=val (s0.take n)+(c+b)*4294967296^n)
  (hd:s.drop n=s0.drop n) (hx:x+c+b=s[n]+4294967296*b'):val (s.set n x)+q*val v=val s0+b'*4294967296^(n+1):=by
 have e1:=za2 s n x (by omega);rw[zak _ _ (by simp;omega)] at e1;have e2:=zau s0 n (by omega);rw[zak _ _ (by omega)] at e2;rw[zak v _ (by omega)] at h;have e3:=zd6 hd (by omega) (by omega);rw[e1,e2,zxt];rw[e3] at hx;generalize 4294967296^n=p at *;have e4:p*x+p*c+p*b=p*s0[n]+p*(4294967296*b'):=by rw[<-Nat.mul_add,<-Nat.mul_add,<-Nat.mul_add,hx]
 grind
theorem zpg{a S V q:Nat}(hq:q=S/V\/q=S/V+1)(hV:0<V)(h:a+q*V=S):q=S/V/\a=S%V:=by
 have h1:q<=S/V:=by rw[Nat.le_div_iff_mul_le hV];omega
 have h2:q=S/V:=by rcases hq with h|h <;> omega
 have h3:=Nat.div_add_mod S V;rw[zxF] at h3;rw[<-h2] at h3;exact⟨h2,by omega⟩
theorem zpf{a S V q M:Nat}(hq:q=S/V\/q=S/V+1)(hV:0<V)(ha:a<M)(h:a+q*V=S+M):q=S/V+1/\a+V=M+S%V:=by
 have h3:=Nat.div_add_mod S V;rw[zxF] at h3;have h4:=Nat.mod_lt S hV;rcases hq with h'|h'
 .rw[h'] at h;generalize S/V*V=z at *;omega
 .refine⟨h',?_⟩;rw[h',Nat.add_mul,Nat.one_mul] at h;generalize S/V*V=z at *;omega
theorem zph{s3 s2 v:List Nat}{n c V R:Nat}(hs3:Small s3)(hl:s3.length=n+1)(hl2:s2.length=n+1)(hvl:v.length=n)(h:val (s3.take n)+c*4294967296^n=val (s2.take n)+val (v.take n))(hd:s3.drop n=s2.drop n)
  (hV:val v=V) (hR:R<4294967296^(n+1)) (ht:val s2+V=4294967296^(n+1)+R):val (s3.set n ((s3[n]+c)%4294967296))=R:=by
 have e1:=za2 s3 n ((s3[n]+c)%4294967296) (by omega);rw[zak _ _ (by simp;omega)] at e1;have e2:=zau s2 n (by omega);rw[zak _ _ (by omega)] at e2;rw[zak v _ (by omega),hV] at h;have e3:=zd6 hd (by omega) (by omega);have hlt:=za6 (hs3.set n ((s3[n]+c)%4294967296) (Nat.mod_lt _ (by decide)));have hlen:(s3.set n ((s3[n]+c)%4294967296)).length=n+1:=by simp[hl]
 rw[hlen] at hlt;have hdm:=Nat.div_add_mod (s3[n]+c) 4294967296;rw[e1] at hlt ⊢;rw[e2,<-e3] at ht;generalize hm:(s3[n]+c)%4294967296=m at *;generalize hz:(s3[n]+c)/4294967296=z at *;rw[zxt] at hlt hR ht;generalize 4294967296^n=p at *;generalize val (s3.take n)=A at *;generalize val (s2.take n)=C at *;have e4:p*(4294967296*z)+p*m=p*s3[n]+p*c:=by rw[<-Nat.mul_add,<-Nat.mul_add,hdm]
 have e5:A+p*m+p*4294967296*z=p*4294967296+R:=by grind
 have hz1:z=1:=by
  rcases Nat.lt_or_ge z 1 with h1|h1
  .have:z=0:=by omega
   subst this;omega
  .rcases Nat.lt_or_ge 1 z with h2|h2
   .have:=zxI (p*4294967296) h2;omega
   .omega
 subst hz1;omega
theorem zpr{b:List Nat}(hc:Canon b)(hn:0<b.length):0<b[b.length-1]'(by omega)/\32-bl (b[b.length-1]'(by omega))<32/\(zab (val b*2^(32-bl (b[b.length-1]'(by omega))))).length=b.length ∧
  2147483648<=(zab (val b*2^(32-bl (b[b.length-1]'(by omega))))).getD (b.length-1) 0:=by
 have htop:b[b.length-1]'(by omega)≠0:=by
  have h:=hc.2 (by intro e;rw[e] at hn;simp at hn)
  rwa [List.getLast_eq_getElem] at h
 have hs:=hc.1.get (b.length-1) (by omega);have h1:=ziY htop;have h2:bl (b[b.length-1]'(by omega))<=32:=zas hs;have hb:=zfA hc hn;generalize b[b.length-1]'(by omega)=t at *;have hv0:val b≠0:=by intro e;rw[e,zn5] at hb;omega
 have g1:=zgm (val b);have g2:=zjO hv0;have hbl:bl (val b*2^(32-bl t))=32*b.length:=by
  apply zgl
  .have:32*b.length=bl (val b)+(32-bl t):=by omega
   rw[this,zxu];exact Nat.mul_lt_mul_of_pos_right g1 (Nat.pow_pos (by decide))
  .intro _;have:32*b.length-1=(bl (val b)-1)+(32-bl t):=by omega
   rw[this,zxu];exact zxl _ g2
 have hlt:=zgm (val b*2^(32-bl t));have hV0:val b*2^(32-bl t)≠0:=Nat.mul_ne_zero hv0 (Nat.ne_of_gt (Nat.pow_pos (by decide)));have hle:=zjO hV0;rw[hbl] at hlt hle;generalize val b*2^(32-bl t)=V at *;have hl1:(zab V).length<=b.length:=zae.2 (by rw[zcg];exact hlt);have hl2:¬(zab V).length<=b.length-1:=by
  rw[zae,zcg];have:=zxn (n:=2) (by decide) (show 32*(b.length-1)<=32*b.length-1 by omega);omega
 have hl:(zab V).length=b.length:=by omega
 refine⟨by omega,by omega,hl,?_⟩;have hb2:=zfA (zb8 V) (by omega);rw[zac,hbl] at hb2;rw[zbJ (by omega)];have e:(zab V)[(zab V).length-1]'(by omega)=(zab V)[b.length-1]'(by omega):=by congr 1;omega
 rw[e] at hb2;have h32:bl ((zab V)[b.length-1]'(by omega))=32:=by omega
 have:=zjO (n:=(zab V)[b.length-1]'(by omega)) (by intro e0;rw[e0] at h32;simp[zn5] at h32);rw[h32] at this;simpa using this
theorem zpR{us:List Nat}{k n:Nat}(hk:0<k)(h:k+n<=us.length):∃pre s post,us=pre++s++post/\pre.length=k-1/\s.length=n+1:=
 ⟨us.take (k-1),(us.drop (k-1)).take (n+1),(us.drop (k-1)).drop (n+1),by rw[zxD,List.take_append_drop,List.take_append_drop],by simp;omega,by simp;omega⟩
theorem zwi{pre s post:List Nat}{n V:Nat}(hs:Small (pre++s++post))(hl:s.length=n+1)(hV:V<4294967296^n)(h:val ((pre++s++post).drop (pre.length+1))<V):Small s/\Small pre/\Small post/\val post=0/\val s<V*4294967296:=by
 have h1:Small s:=fun x hx=>hs x (by simp[hx]);refine⟨h1,fun x hx=>hs x (by simp[hx]),fun x hx=>hs x (by simp[hx]),?_⟩
 match s,hl with
 |d::t,hl=>
  have hd:(pre++(d::t)++post).drop (pre.length+1)=t++post:=by
   rw[zxD,<-List.drop_drop,List.drop_left];rfl
  rw[hd,zaU] at h;have ht:t.length=n:=by simpa using hl
  rw[ht] at h;have hp:val post=0:=by
   rcases Nat.eq_zero_or_pos (val post) with h0|h0
   .exact h0
   .have:=zxI (4294967296^n) h0;omega
  refine⟨hp,?_⟩;have hd:=h1.head;rw[hp] at h;simp only[val];omega
theorem zs8{pre s post out:List Nat}{n V A k:Nat}(hk:pre.length=k)(hko:k<out.length)(hp:val post=0)(hV0:0<V)(hV:V<4294967296^n)
  (h:val (pre++s++post)+V*(4294967296^(k+1)*val (out.drop (k+1)))=A) :
  val (pre++ze8 (n+1) (val s%V)++post)+V*(4294967296^k*val ((out.set k (val s/V)).drop k))=A/\val ((pre++ze8 (n+1) (val s%V)++post).drop k)<V:=by
 have hm:=Nat.mod_lt (val s) hV0;have hpl:val (ze8 (n+1) (val s%V))=val s%V:=zed (Nat.lt_trans hm (zxj hV (zxn (by decide) (by omega))));constructor
 .rw[zxH (show k<(out.set k (val s/V)).length by simpa using hko),List.getElem_set_self,List.drop_set_of_lt (by omega)];simp only[val];rw[zaU,zaU,hp,hpl,hk];rw[zaU,zaU,hp,hk] at h;have:=Nat.div_add_mod (val s) V;generalize val s/V=q at *;generalize val s%V=r at *;rw[<-h,<-this,zxt];simp only[Nat.mul_zero,Nat.add_zero];generalize 4294967296^k=p at *;grind
 .subst hk;rw[zxD,List.drop_left,zaU,hp,hpl];simpa using hm
theorem zwj{x va vb sh o:Nat}(h:x+vb*2^sh*o=va*2^sh)(hx:x<vb*2^sh):o=va/vb/\x/2^sh=va%vb:=by
 have hp:0<2^sh:=Nat.pow_pos (by decide);have hvb:0<vb:=by
  rcases Nat.eq_zero_or_pos vb with h0|h0
  .subst h0;simp at hx
  .exact h0
 have hdv:2^sh ∣ x:=by
  have h1:2^sh ∣ va*2^sh:=Nat.dvd_mul_left _ _;rw[<-h] at h1;exact(Nat.dvd_add_left ⟨vb*o,by grind⟩).1 h1
 obtain⟨y,rfl⟩:=hdv;have hy:y+vb*o=va:=by
  have:2^sh*(y+vb*o)=2^sh*va:=by grind
  exact Nat.eq_of_mul_eq_mul_left hp this
 have hyb:y<vb:=by
  rw[zxF] at hx;exact Nat.lt_of_mul_lt_mul_right hx
 rw[Nat.mul_div_cancel_left _ hp,<-hy];refine⟨?_,?_⟩
 .rw[Nat.add_comm,Nat.mul_add_div hvb,Nat.div_eq_of_lt hyb,Nat.add_zero]
 .rw[Nat.add_comm,Nat.mul_add_mod,Nat.mod_eq_of_lt hyb]
theorem zpQ{a:List Nat}{n sh V A L:Nat}(hs:Small a)(hL:L=a.length+1)(hA:A=val a*2^sh)(hsh:sh<32)(hn:n<=a.length)(hV:4294967296^(n-1)*2^sh<=V)(hn0:0<n) :
  A<4294967296^L/\val ((ze8 L A).drop (a.length-n+1))<V:=by
 have hlt:=za6 hs;have hsh2:2^sh<4294967296:=zxj (zxG (by decide) hsh) (by decide);have hp:0<2^sh:=Nat.pow_pos (by decide);have hA1:A<4294967296^a.length*2^sh:=by subst hA;exact Nat.mul_lt_mul_of_pos_right hlt hp
 have hAL:A<4294967296^L:=by
  subst hL;rw[zxt];exact zxj hA1 (zxI _ (by omega))
 refine⟨hAL,?_⟩;rw[<-zbR _ (zcU _ _),zed hAL];refine zxj ?_ hV;rw[Nat.div_lt_iff_lt_mul (Nat.pow_pos (by decide))];refine zxj hA1 (Nat.le_of_eq ?_);have:a.length=(n-1)+(a.length-n+1):=by omega
 conv=>lhs;rw[this,zxu]
 grind
theorem zf6{s v:List Nat}(hs:Small s)(hv:Small v)(hsl:s.length=v.length+1)(hn:2<=v.length)(htop:2147483648<=v.getD (v.length-1) 0)(hlt:val s<val v*4294967296) :
  val s/val v<=est (s.getD v.length 0*4294967296+s.getD (v.length-1) 0) (s.getD (v.length-2) 0) (v.getD (v.length-1) 0) (v.getD (v.length-2) 0) ∧
  est (s.getD v.length 0*4294967296+s.getD (v.length-1) 0) (s.getD (v.length-2) 0) (v.getD (v.length-1) 0) (v.getD (v.length-2) 0)<=val s/val v+1:=by
 obtain⟨n,hn2⟩:∃n,v.length=n+2:=⟨v.length-2,by omega⟩;have e1:=zav s n;have e2:=zav s (n+1);have e3:=zav s (n+2);have g1:=zav v n;have g2:=zav v (n+1);rw[zak s (n+2+1) (by omega)] at e3;rw[zak v (n+1+1) (by omega)] at g2;rw[hn2] at htop ⊢;simp only[Nat.add_sub_cancel,show n+2-1=n+1 from rfl] at htop ⊢;have l1:=za6 (hs.take n);have l2:=za6 (hv.take n);rw[zxr,Nat.min_eq_left (by omega)] at l1 l2;refine zlL (lo:=val (s.take n)) (lov:=val (v.take n)) (e:=4294967296^n) (Nat.pow_pos (by decide)) htop (hv.getD _) (hv.getD _) (hs.getD _) l1 l2 ?_ ?_ hlt
 .rw[e3,e2,e1,zxt,zxt];grind
 .rw[g2,g1,zxt];grind
theorem zsh{b:List Nat}(hc:Canon b)(hn:0<b.length):∃sh,32-bl (b[b.length-1]'(by omega))=sh/\sh<32/\(zab (val b*2^sh)).length=b.length/\2147483648<=(zab (val b*2^sh)).getD (b.length-1) 0:=
 let ⟨_,h2,h3,h4⟩:=zpr hc hn
 ⟨_,rfl,h2,h3,h4⟩
end Rc
namespace Rc
open Go
structure Zr where
 neg:Bool
 m:List Nat
 hm:Small m
def Zr.z(x:Zr):Int:=sgn x.neg (val x.m)
@[reducible] def zV(x:Zr):V:=V.agg [Leaf.val (.bool x.neg),zaf x.m]
@[reducible] def zOf(z:Int):Zr:=⟨decide (z<0),zab z.natAbs,zaa _⟩
theorem zgz(z:Int):(zOf z).z=z:=by
 show sgn (decide (z<0)) (val (zab z.natAbs))=z;rw[zac];exact zcV z
structure Qr where
 neg:Bool
 n:List Nat
 d:List Nat
 hn:Small n
 hd:Small d
def Qr.q(x:Qr):Rat:=rq x.neg (val x.n) (val x.d)
@[reducible] def qV(x:Qr):V:=V.agg [Leaf.val (.bool x.neg),zaf x.n,zaf x.d]
@[reducible] def qOf(q:Rat):Qr:=⟨zbx q,zab (zaV q),zab (zaW q),zaa _,zaa _⟩
theorem zao(q:Rat):(qOf q).q=q:=by
 show rq (zbx q) (val (zab (zaV q))) (val (zab (zaW q)))=q;rw[zac,zac];exact zho q
@[reducible] def znc:Qr:=⟨false,[],[],Small.nil,Small.nil⟩
theorem zeM:qV znc=qV (qOf 0):=by
 show V.agg _=V.agg [Leaf.val (.bool (zbx 0)),zaf (zab (zaV 0)),zaf (zab (zaW 0))];rw[znV,zcw,zcy,zaj]
class Bn (n:Nat) (k:outParam Nat):Prop where
 le:(zab n).length<=k
theorem Bn.use{n k k':Nat}[h:Bn n k](hk:k<=k'):(zab n).length<=k':=zxk h.le hk
theorem Bn.lt{n k:Nat}(h:Bn n k):n<4294967296^k:=zae.1 h.le
theorem Bn.of{n k:Nat}(h:n<4294967296^k):Bn n k:=⟨zae.2 h⟩
theorem Bn.val{l:List Nat}{k:Nat}(hs:Small l)(h:l.length<=k):Bn (val l) k:=⟨zxk (zai hs) h⟩
theorem Bn.of_lt{n k:Nat}(h:n<18446744073709551616)(hk:2<=k):(zab n).length<=k:=zxk (zae (k:=2).2 h) hk
theorem zeP{a b i j:Nat}(ha:a<4294967296^i)(hb:b<4294967296^j):a*b<4294967296^(i+j):=by
 rw[zxu];rcases Nat.eq_zero_or_pos b with h|h
 .subst h;exact Nat.mul_pos (Nat.pow_pos (by decide)) (Nat.pow_pos (by decide))
 .exact zxj (Nat.mul_lt_mul_of_pos_right ha h) (zxI _ (Nat.le_of_lt hb))
theorem zlY{a b i j:Nat}(ha:a<4294967296^i)(hb:b<4294967296^j):a+b<4294967296^(i+j+1):=by
 have h1:4294967296^i<=4294967296^(i+j):=zxn (by decide) (by omega);have h2:4294967296^j<=4294967296^(i+j):=zxn (by decide) (by omega);rw[zxt];omega
instance Bn.mul{a b i j:Nat}[ha:Bn a i][hb:Bn b j]:Bn (a*b) (i+j):=Bn.of (zeP ha.lt hb.lt)
instance Bn.add{a b i j:Nat}[ha:Bn a i][hb:Bn b j]:Bn (a+b) (i+j+1):=Bn.of (zlY ha.lt hb.lt)
instance Bn.dn{a i:Nat}[ha:Bn a i]:Bn (dn a) (i+1):=by
 refine Bn.of ?_;have:=ha.lt;unfold Rc.dn;split
 .exact Nat.one_lt_pow (by omega) (by decide)
 .rw[zxt];omega
theorem Bn.mono{a b i:Nat}(h:a<=b)(hb:Bn b i):Bn a i:=Bn.of (zxB h hb.lt)
instance Bn.div{a b i:Nat}[ha:Bn a i]:Bn (a/b) i:=Bn.mono (Nat.div_le_self _ _) ha
instance Bn.sub{a b i:Nat}[ha:Bn a i]:Bn (a-b) i:=Bn.mono (Nat.sub_le _ _) ha
instance Bn.mod{a b i:Nat}[ha:Bn a i]:Bn (a%b) i:=Bn.mono (Nat.mod_le _ _) ha
class Bz (z:Int) (k:outParam Nat):Prop where
 le:(zab z.natAbs).length<=k
theorem Bz.use{z:Int}{k k':Nat}[h:Bz z k](hk:k<=k'):(zab z.natAbs).length<=k':=zxk h.le hk
theorem Bz.bn{z:Int}{k:Nat}(h:Bz z k):Bn z.natAbs k:=⟨h.le⟩
instance Bz.sgn{b:Bool}{n i:Nat}[h:Bn n i]:Bz (Rc.sgn b n) i:=⟨by rw[zb4];exact h.le⟩
instance Bz.nat{n i:Nat}[h:Bn n i]:Bz (n:Int) i:=⟨by simpa using h.le⟩
instance Bz.mul{a b:Int}{i j:Nat}[ha:Bz a i][hb:Bz b j]:Bz (a*b) (i+j):=
 ⟨by rw[Int.natAbs_mul];exact(@Bn.mul _ _ _ _ ha.bn hb.bn).le⟩
instance Bz.add{a b:Int}{i j:Nat}[ha:Bz a i][hb:Bz b j]:Bz (a+b) (i+j+1):=
 ⟨(Bn.mono (by omega) (@Bn.add _ _ _ _ ha.bn hb.bn)).le⟩
instance Bz.sub{a b:Int}{i j:Nat}[ha:Bz a i][hb:Bz b j]:Bz (a-b) (i+j+1):=
 ⟨(Bn.mono (by omega) (@Bn.add _ _ _ _ ha.bn hb.bn)).le⟩
instance Bz.neg{a:Int}{i:Nat}[ha:Bz a i]:Bz (-a) i:=⟨by rw[Int.natAbs_neg];exact ha.le⟩
structure Fit(k:Nat)(x:Qr):Prop where
 n:x.n.length<=k
 d:x.d.length<=k
theorem Fit.mono{k k':Nat}{x:Qr}(h:Fit k x)(hk:k<=k'):Fit k' x:=⟨zxk h.n hk,zxk h.d hk⟩
class Br (r:Rat) (k:outParam Nat):Prop where
 fit:Fit k (qOf r)
theorem Br.use{r:Rat}{k k':Nat}[h:Br r k](hk:k<=k'):Fit k' (qOf r):=h.fit.mono hk
theorem Br.num{r:Rat}{k:Nat}(h:Br r k):zaV r<4294967296^k:=zae.1 h.fit.n
theorem Br.den{r:Rat}{k:Nat}(h:Br r k):r.den<=4294967296^k:=by
 have h1:zaW r<4294967296^k:=zae.1 h.fit.d;rw[<-zf8];have h2:0<4294967296^k:=Nat.pow_pos (by decide);unfold dn;split <;> omega
theorem Br.of{r:Rat}{k:Nat}(h1:r.num.natAbs<4294967296^k)(h2:r.den<4294967296^k):Br r k:=
 ⟨zae.2 h1,zae.2 (by unfold zaW;split <;> omega)⟩
theorem Br.rq{b:Bool}{n d k:Nat}(h1:n<4294967296^k)(h2:d<4294967296^k):Br (rq b n d) k:=by
 refine⟨zae.2 ?_,zae.2 ?_⟩
 .rw[zga];exact zxB (Nat.div_le_self _ _) h1
 .have h3:(Rc.rq b n d).den<=dn d:=by rw[ziP];exact Nat.div_le_self _ _
  unfold zaW;split
  .omega
  .rename_i h4;unfold dn at h3;have:=(Rc.rq b n d).den_pos;split at h3 <;> omega
theorem Br.q{x:Qr}{k:Nat}(h:Fit k x):Br x.q k:=
 Br.rq (zxj (za6 x.hn) (zxn (by decide) h.n)) (zxj (za6 x.hd) (zxn (by decide) h.d))
theorem Br.rqn{b:Bool}{n d i j:Nat}(h1:n<4294967296^i)(h2:d<=4294967296^j)(hj:j<i):Br (Rc.rq b n d) i:=
 Br.rq h1 (zxB h2 (zxG (by decide) hj))
theorem zim(q:Rat):Rc.rq (zbx q) (zaV q) q.den=q:=by rw[<-zf8,zr0,zho]
instance Br.mul{r s:Rat}{i j:Nat}[hr:Br r i][hs:Br s j]:Br (r*s) (i+j+1):=by
 rw[<-zim r,<-zim s,<-ze6,zch (Nat.ne_of_gt r.den_pos),zch (Nat.ne_of_gt s.den_pos)];refine Br.rqn (j:=i+j) (Nat.lt_trans (zeP hr.num hs.num) (zxG (by decide) (by omega))) ?_ (by omega);rw[zxu];exact Nat.mul_le_mul hr.den hs.den
instance Br.add{r s:Rat}{i j:Nat}[hr:Br r i][hs:Br s j]:Br (r+s) (i+j+1):=by
 rw[<-zim r,<-zim s,<-zkq _ _ _ _ _ _ _ rfl,zch (Nat.ne_of_gt r.den_pos),zch (Nat.ne_of_gt s.den_pos)];refine Br.rqn (j:=i+j) ?_ ?_ (by omega)
 .have h1:zaV r*s.den<4294967296^(i+j)\/zaV r*s.den=0:=by
   rcases Nat.eq_zero_or_pos (zaV r) with h|h
   .exact .inr (by rw[h,Nat.zero_mul])
   .left;rw[zxu];exact zxj (Nat.mul_lt_mul_of_pos_right hr.num s.den_pos) (zxI _ hs.den)
  have h2:zaV s*r.den<4294967296^(i+j)\/zaV s*r.den=0:=by
   rcases Nat.eq_zero_or_pos (zaV s) with h|h
   .exact .inr (by rw[h,Nat.zero_mul])
   .left;rw[zxu,zxF (4294967296^i)];exact zxj (Nat.mul_lt_mul_of_pos_right hs.num r.den_pos) (zxI _ hr.den)
  have h0:0<4294967296^(i+j):=Nat.pow_pos (by decide);have h3:∀(a b:Bool) (m n:Nat),(sgn a m+sgn b n).natAbs<=m+n:=by
   intro a b m n;cases a <;> cases b <;> simp <;> omega
  have h4:=h3 (zbx r) (zbx s) (zaV r*s.den) (zaV s*r.den);refine zxB h4 ?_;rw[zxt];omega
 .rw[zxu];exact Nat.mul_le_mul hr.den hs.den
theorem zkU(r:Rat):zaV (-r)=zaV r:=by unfold zaV;rw[show(-r).num = -r.num from rfl,Int.natAbs_neg]
theorem zk0(r:Rat):zaW (-r)=zaW r:=rfl
instance Br.neg{r:Rat}{i:Nat}[hr:Br r i]:Br (-r) i:=⟨⟨by show(zab (zaV (-r))).length<=i;rw[zkU];exact hr.fit.n,by show(zab (zaW (-r))).length<=i;rw[zk0];exact hr.fit.d⟩⟩
instance Br.sub{r s:Rat}{i j:Nat}[hr:Br r i][hs:Br s j]:Br (r-s) (i+j+1):=by
 rw[Rat.sub_eq_add_neg];exact Br.add
theorem Br.mono{r:Rat}{i j:Nat}(h:Br r i)(hij:i<=j):Br r j:=⟨h.fit.mono hij⟩
def mn(r s:Rat):Rat:=if r<=s then r else s
def mx(r s:Rat):Rat:=if s<=r then r else s
instance Br.mn{r s:Rat}{i j:Nat}[hr:Br r i][hs:Br s j]:Br (mn r s) (i+j):=by
 unfold Rc.mn;split
 .exact hr.mono (by omega)
 .exact hs.mono (by omega)
instance Br.mx{r s:Rat}{i j:Nat}[hr:Br r i][hs:Br s j]:Br (mx r s) (i+j):=by
 unfold Rc.mx;split
 .exact hr.mono (by omega)
 .exact hs.mono (by omega)
instance Br.zero:Br 0 0:=⟨⟨by show(zab (zaV 0)).length<=0;rw[zcw,zaj];exact zxe _,by show(zab (zaW 0)).length<=0;rw[zcy,zaj];exact zxe _⟩⟩
instance Br.inv{r:Rat}{i:Nat}[hr:Br r i]:Br r⁻¹ (i+1):=by
 by_cases h:r=0
 .subst h;rw[Rat.inv_zero];exact Br.zero.mono (zxg _)
 .have hn:r.num≠0:=fun e=>h (Rat.num_eq_zero.1 e);refine Br.of ?_ ?_
  .rw[Rat.num_inv,Int.natAbs_mul];have h1:r.num.sign.natAbs<=1:=by rw[Int.natAbs_sign];split <;> omega
   have h2:=hr.den;have h3:r.num.sign.natAbs*(r.den:Int).natAbs<=1*r.den:=Nat.mul_le_mul h1 (by simp);have h0:0<4294967296^i:=Nat.pow_pos (by decide);rw[zxt];generalize r.num.sign.natAbs*(r.den:Int).natAbs=a at *;omega
  .rw[Rat.den_inv,if_neg hn];have:=hr.num;unfold zaV at this;rw[zxt];omega
instance Br.div{r s:Rat}{i j:Nat}[hr:Br r i][hs:Br s j]:Br (r/s) (i+(j+1)+1):=by
 rw[Rat.div_def];exact Br.mul
def sgz(z:Int):Int:=if z<0 then -1 else if z=0 then 0 else 1
def zkW(a b:Int):Int:=if a<b then -1 else if a=b then 0 else 1
theorem zgT(b:Bool)(n d:Nat):rq b n d<0↔sgn b n<0:=by
 have h:=zuv b false n 0 d 0;rw[zmT] at h;rw[h];simp[dn]
theorem zuo(b:Bool)(n d:Nat):sg (rq b n d)=sgz (sgn b n):=by
 unfold sg sgz;have h1:=zgT b n d;have h2:rq b n d=0↔sgn b n=0:=by rw[zgU];cases b <;> simp
 simp only[h1,h2]
theorem ztd(a b:Bool)(m n d e:Nat):zgc (rq a m d) (rq b n e)=zkW (sgn a m*dn e) (sgn b n*dn d):=by
 unfold zgc zkW;simp only[zuv,zux]
theorem zeX{p q:Rat}:zgc p q<=0↔p<=q:=by
 unfold zgc;split
 .rename_i h;exact⟨fun _=>Rat.le_of_lt h,fun _=>by decide⟩
 .split
  .rename_i h;subst h;exact⟨fun _=>Rat.le_refl,fun _=>by decide⟩
  .rename_i h1 h2;exact⟨fun h=>absurd h (by decide),fun h=>by grind⟩
theorem zhE{p q:Rat}:0<zgc p q↔q<p:=by
 unfold zgc;split
 .rename_i h;exact⟨fun h=>absurd h (by decide),fun h'=>by grind⟩
 .split
  .rename_i h;exact⟨fun h=>absurd h (by decide),fun h'=>by grind⟩
  .rename_i h1 h2;exact⟨fun _=>by grind,fun _=>by decide⟩
theorem zhD{p q:Rat}:zgc p q<0↔p<q:=by
 unfold zgc;split
 .rename_i h;exact⟨fun _=>h,fun _=>by decide⟩
 .rename_i h;exact⟨fun h'=>by split at h' <;> simp at h',fun h'=>absurd h' h⟩
theorem sg_lt{p:Rat}:sg p<0↔p<0:=by
 unfold sg;split
 .rename_i h;exact⟨fun _=>h,fun _=>by decide⟩
 .rename_i h;exact⟨fun h'=>by split at h' <;> simp at h',fun h'=>absurd h' h⟩
theorem zfH{a:List Nat}(ha:Small a)(n:Nat):val (a.take n)<4294967296^n:=by
 refine zxj (za6 (ha.take n)) (zxn (by decide) ?_);exact List.length_take_le n a
theorem zfI{a b:List Nat}{n:Nat}(h:∀i,n<=i->a.getD i 0=b.getD i 0):∀m,∃c,val (a.take (n+m))=val (a.take n)+c/\val (b.take (n+m))=val (b.take n)+c:=by
 intro m
 induction m with
 |zero=>exact⟨0,rfl,rfl⟩
 |succ m ih=>
  obtain⟨c,h1,h2⟩:=ih;refine⟨c+4294967296^(n+m)*a.getD (n+m) 0,?_,?_⟩
  .rw[<-Nat.add_assoc,zav,h1];omega
  .rw[<-Nat.add_assoc,zav,h2,h (n+m) (by omega)];omega
theorem zcn{a b:List Nat}{n:Nat}(h:∀i,n<=i->a.getD i 0=b.getD i 0):∃c,val a=val (a.take n)+c/\val b=val (b.take n)+c:=by
 obtain⟨c,h1,h2⟩:=zfI h (a.length+b.length);rw[zak a _ (by omega)] at h1;rw[zak b _ (by omega)] at h2;exact⟨c,h1,h2⟩
theorem zkZ{a b:List Nat}{n:Nat}(ha:Small a)(h:∀i,n+1<=i->a.getD i 0=b.getD i 0)(hlt:a.getD n 0<b.getD n 0):val a<val b:=by
 obtain⟨c,h1,h2⟩:=zcn h;rw[h1,h2,zav,zav];have h3:=zfH ha n;have h4:4294967296^n*(a.getD n 0+1)<=4294967296^n*b.getD n 0:=zxI _ hlt;rw[Nat.mul_add,Nat.mul_one] at h4;omega
theorem zs5{a b:List Nat}(h:∀i,0<=i->a.getD i 0=b.getD i 0):val a=val b:=by
 obtain⟨c,h1,h2⟩:=zcn h;rw[h1,h2];simp
theorem zoh{a b out:List Nat}{k c s:Nat}(hl:out.length=k)(h:val out+c*4294967296^k=val (a.take k)+val (b.take k))(hs:s=c+(a.getD k 0+b.getD k 0)) :
  val (out++[s%4294967296])+(s/4294967296)*4294967296^(k+1)=val (a.take (k+1))+val (b.take (k+1)):=by
 rw[zaU,hl,zav a k,zav b k,zxt];simp only[zbl,zhg,Nat.mul_zero,Nat.add_zero];have e:4294967296^k*s=4294967296^k*(s%4294967296)+s/4294967296*(4294967296^k*4294967296):=by
  conv=>lhs;rw[<-Nat.mod_add_div s 4294967296]
  grind
 rw[hs] at e;rw[hs];have e2:4294967296^k*(c+(a.getD k 0+b.getD k 0))=c*4294967296^k+4294967296^k*a.getD k 0+4294967296^k*b.getD k 0:=by grind
 omega
theorem zmt{a b out:List Nat}{k c d c':Nat}(hl:out.length=k)(h:val out+val (b.take k)=val (a.take k)+c*4294967296^k)(hd:d+(b.getD k 0+c)=a.getD k 0+c'*4294967296) :
  val (out++[d])+val (b.take (k+1))=val (a.take (k+1))+c'*4294967296^(k+1):=by
 rw[zaU,hl,zav a k,zav b k,zxt];simp only[zbl,zhg,Nat.mul_zero,Nat.add_zero];have e:4294967296^k*(d+(b.getD k 0+c))=4294967296^k*(a.getD k 0+c'*4294967296):=by rw[hd]
 have e1:4294967296^k*(d+(b.getD k 0+c))=4294967296^k*d+4294967296^k*b.getD k 0+c*4294967296^k:=by grind
 have e2:4294967296^k*(a.getD k 0+c'*4294967296)=4294967296^k*a.getD k 0+c'*(4294967296^k*4294967296):=by grind
 omega
theorem zrJ{a b out:List Nat}{c:Nat}(ha:Small a)(hs:Small out)(hl:out.length=a.length)(hge:val b<=val a)(h:val out+val (b.take a.length)=val (a.take a.length)+c*4294967296^a.length):val out=val a-val b:=by
 rw[zak a _ (zxe _)] at h;have h1:=za6 ha;have h2:=za6 hs;rw[hl] at h2;have h3:=zcf b a.length;have h4:val (b.take a.length)=val b:=by
  by_cases h5:a.length<=b.length
  .rw[Nat.min_eq_left h5] at h3;have h6:val (b.drop a.length)=0:=by
    rcases Nat.eq_zero_or_pos (val (b.drop a.length)) with h7|h7
    .exact h7
    .have:4294967296^a.length*1<=4294967296^a.length*val (b.drop a.length):=zxI _ h7;omega
   rw[h6,Nat.mul_zero,Nat.add_zero] at h3;exact h3.symm
  .exact zak b _ (by omega)
 rw[h4] at h;rcases Nat.eq_zero_or_pos c with h5|h5
 .subst h5;omega
 .have:1*4294967296^a.length<=c*4294967296^a.length:=zxl _ h5;omega
theorem znr{b out:List Nat}{i k c x:Nat}(hl:i+k<out.length)(base:Nat)(h:val out+c*4294967296^(i+k)=base+4294967296^i*(x*val (b.take k))) :
  val (out.set (i+k) ((c+(x*b.getD k 0+out[i+k]))%4294967296))+((c+(x*b.getD k 0+out[i+k]))/4294967296)*4294967296^(i+(k+1))=base+4294967296^i*(x*val (b.take (k+1))):=by
 have h1:=zhf out (i+k) ((c+(x*b.getD k 0+out[i+k]))%4294967296) hl;rw[zav b k,show i+(k+1)=(i+k)+1 from rfl,zxt];generalize b.getD k 0=y at *;generalize hs:c+(x*y+out[i+k])=s at *;have e1:4294967296^(i+k)*s=4294967296^(i+k)*(s%4294967296)+s/4294967296*(4294967296^(i+k)*4294967296):=by
  conv=>lhs;rw[<-Nat.mod_add_div s 4294967296]
  grind
 have e2:4294967296^(i+k)*s=c*4294967296^(i+k)+4294967296^i*(x*(4294967296^k*y))+4294967296^(i+k)*out[i+k]:=by
  rw[<-hs,zxu];grind
 have e3:4294967296^i*(x*(val (b.take k)+4294967296^k*y))=4294967296^i*(x*val (b.take k))+4294967296^i*(x*(4294967296^k*y)):=by grind
 omega
theorem zsl{a b o:List Nat}{i c:Nat}(ha:Small a)(hb:Small b)(hi:i<a.length)(h:val o+c*4294967296^(i+(b.length+1))=val (a.take i)*val b+4294967296^i*(a[i]*val (b.take (b.length+1)))) :
  val o=val (a.take (i+1))*val b:=by
 rw[zak b _ (by omega)] at h;have e:val (a.take i)*val b+4294967296^i*(a[i]*val b)=val (a.take (i+1))*val b:=by
  rw[zau a i hi];grind
 rw[e] at h;have h1:=zfH ha (i+1);have h2:=za6 hb;have h3:val (a.take (i+1))*val b<4294967296^(i+(b.length+1)):=by
  rw[show i+(b.length+1)=(i+1)+b.length from by omega,zxu];rcases Nat.eq_zero_or_pos (val b) with h|h
  .rw[h,Nat.mul_zero];exact Nat.mul_pos (Nat.pow_pos (by decide)) (Nat.pow_pos (by decide))
  .exact zxj (Nat.mul_lt_mul_of_pos_right h1 h) (zxI _ (Nat.le_of_lt h2))
 rcases Nat.eq_zero_or_pos c with h5|h5
 .subst h5;omega
 .have:1*4294967296^(i+(b.length+1))<=c*4294967296^(i+(b.length+1)):=zxl _ h5;omega
theorem zrM{a out:List Nat}{i k c x:Nat}(hi:i<a.length)(hl:out.length=k/32+i)(h:val out+c*4294967296^out.length=val (a.take i)*2^k)(hx:x=c+a[i]*2^(k%32)) :
  val (out++[x%4294967296])+(x/4294967296)*4294967296^(out.length+1)=val (a.take (i+1))*2^k:=by
 rw[zaU,zau a i hi,zxt];simp only[zbl,zhg,Nat.mul_zero,Nat.add_zero];have e:4294967296^out.length*x=4294967296^out.length*(x%4294967296)+x/4294967296*(4294967296^out.length*4294967296):=by
  conv=>lhs;rw[<-Nat.mod_add_div x 4294967296]
  grind
 have e2:4294967296^out.length*2^(k%32)=4294967296^i*2^k:=by
  rw[hl,zcg,zcg,<-zxu,<-zxu];congr 1;omega
 have e3:4294967296^out.length*x=c*4294967296^out.length+a[i]*(4294967296^out.length*2^(k%32)):=by rw[hx];grind
 rw[e2] at e3;have e4:(val (a.take i)+4294967296^i*a[i])*2^k=val (a.take i)*2^k+a[i]*(4294967296^i*2^k):=by grind
 omega
theorem zmz{d c s:Nat}(hs:s<32)(hd:d<4294967296)(hc:c<2^s):d*2^s<18446744073709551616/\c+d*2^s<18446744073709551616/\(c+d*2^s)/4294967296<2^s/\2^s<=2147483648:=by
 have h1:(2:Nat)^s<=2^31:=zxn (by omega) (by omega);have h2:d*2^s<=4294967295*2^s:=zxl _ (by omega);refine⟨by omega,by omega,?_,by omega⟩;rw[Nat.div_lt_iff_lt_mul (by omega)];omega
theorem ztk{x:Nat}(h:0<x):bl x=bl (x/2)+1:=by
 by_cases h2:2<=x
 .have:=zg4 (n:=x) (k:=1) (by simpa using h2);simpa using this
 .have:x=1:=by omega
  subst this;decide
theorem zj7(out:List Nat)(c:Nat):val (out++[c])=val out+c*4294967296^out.length:=by
 rw[zaU];simp[zxF]
theorem zb3{out:List Nat}{c:Nat}(h:Small out)(hc:c<4294967296):Small (out++[c]):=h.append (Small.cons hc Small.nil)
theorem zn7{a:List Nat}(ha:Small a){n:Nat}(h:n/32<a.length):a[n/32]/2^(n%32)%2=val a/2^n%2:=by
 rw[<-zdW (val a) n,zbR a ha,zxH h,zbl];have e:(4294967296:Nat)=2^(n%32)*(2*2^(31-n%32)):=by
  rw[<-Nat.pow_succ',<-zxu,show n%32+(31-n%32).succ=32 from by omega]
 rw[e,Nat.mul_assoc,Nat.add_mul_div_left _ _ (Nat.pow_pos (by decide)),Nat.mul_assoc,Nat.add_mul_mod_self_left]
theorem zjP{x:Nat}(h:x<4294967296):IntKind.u32.wrap ((BitVec.ofInt IntKind.u32.bits (x:Int) &&& BitVec.ofInt IntKind.u32.bits (1:Int)).toNat)=((x%2:Nat):Int):=by
 rw[BitVec.toNat_and,show(1:Int)=((1:Nat):Int) from rfl,zbt _ x (by simp only[IntKind.bits];omega),zbt _ 1 (by simp only[IntKind.bits];omega),Nat.and_one_is_mod];exact zby (by omega)
theorem zdE{A n Q b r:Nat}(h:A/2^(n+1)=Q*b+r):A/2^n=2*Q*b+(2*r+A/2^n%2):=by
 have h1:A/2^(n+1)=A/2^n/2:=by rw[zxt,Nat.div_div_eq_div_mul]
 rw[h1] at h;have h2:=Nat.div_add_mod (A/2^n) 2;rw[h] at h2;have e:2*(Q*b+r)=2*Q*b+2*r:=by grind
 omega
theorem zjl{o:List Nat}{n Q:Nat}(ho:Small o)(hn:n/32<o.length)(h:val o=2^(n+1)*Q) :
  o[n/32]%2^(n%32+1)=0/\o[n/32]+2^(n%32)<4294967296/\val (o.set (n/32) (o[n/32]+2^(n%32)))=2^n*(2*Q+1):=by
 have h1:=zbR o ho (n/32);rw[zxH hn,zbl] at h1;have e1:2^(n+1)=4294967296^(n/32)*2^(n%32+1):=by
  rw[zcg,<-zxu];congr 1;omega
 rw[h,e1,Nat.mul_assoc,Nat.mul_div_cancel_left _ (Nat.pow_pos (by decide))] at h1;have e2:(4294967296:Nat)=2^(n%32+1)*2^(31-n%32):=by rw[<-zxu,show n%32+1+(31-n%32)=32 from by omega]
 have hd:=ho.get (n/32) hn;have h2:o[n/32]%2^(n%32+1)=0:=by
  have h3:(o[n/32]+4294967296*val (o.drop (n/32+1)))%2^(n%32+1)=0:=by rw[<-h1];exact Nat.mul_mod_right _ _
  rw[e2,Nat.mul_assoc,Nat.add_mul_mod_self_left] at h3;exact h3
 refine⟨h2,?_,?_⟩
 .obtain⟨y,hy⟩:=Nat.dvd_of_mod_eq_zero h2;rw[hy] at hd ⊢;have hp:0<2^(n%32):=Nat.pow_pos (by decide);have hy2:y<2^(31-n%32):=by
   rw[e2] at hd;exact Nat.lt_of_mul_lt_mul_left hd
  have h4:2^(n%32+1)*(y+1)<=2^(n%32+1)*2^(31-n%32):=zxI _ hy2;rw[<-e2,Nat.mul_add,Nat.mul_one] at h4;have h5:(2:Nat)^(n%32+1)=2*2^(n%32):=Nat.pow_succ';omega
 .have h3:=zhf o (n/32) (o[n/32]+2^(n%32)) hn;have e3:2^n=4294967296^(n/32)*2^(n%32):=by rw[zcg,<-zxu];congr 1;omega
  rw[h] at h3;rw[Nat.mul_add,<-e3,zxt] at h3;have e4:2^n*2*Q=2^n*(2*Q):=by grind
  rw[e4] at h3;rw[Nat.mul_add,Nat.mul_one];omega
theorem or32{a b:Nat}(i:Nat)(ha:a%2^i=0)(hb:b<2^i)(h:a+b<4294967296) :
  IntKind.u32.wrap ((BitVec.ofInt IntKind.u32.bits (a:Int) ||| BitVec.ofInt IntKind.u32.bits (b:Int)).toNat)=((a+b:Nat):Int):=by
 rw[BitVec.toNat_or,zbt _ a (by simp only[IntKind.bits];omega),zbt _ b (by simp only[IntKind.bits];omega),zkx i ha hb];exact zby h
theorem zeZ{x n L:Nat}(h1:x<4294967296^L)(hn:n<bl x):n/32<L:=by
 have h2:bl x<=32*L:=zas (by rw[<-zcg];exact h1);omega
theorem zl7{b:Bool}{m:List Nat}{hm:Small m}{v:Nat}(h:val m=v):(Zr.mk b m hm).z=sgn b v:=by subst h;rfl
theorem zsb{b:Bool}{n d:List Nat}{hn:Small n}{hd:Small d}{vn vd:Nat}(h1:val n=vn)(h2:val d=vd):(Qr.mk b n d hn hd).q=rq b vn vd:=by subst h1;subst h2;rfl
theorem zqX{x:Qr}{r:Rat}(h:x.q=r):(Qr.mk (!x.neg) x.n x.d x.hn x.hd).q = -r:=by
 subst h;exact zqP x.neg (val x.n) (val x.d)
theorem Fit.neg{k:Nat}{x:Qr}(h:Fit k x):Fit k (Qr.mk (!x.neg) x.n x.d x.hn x.hd):=⟨h.n,h.d⟩
theorem zaG{n:Nat}:0<(zab n).length↔n≠0:=by
 constructor
 .intro h e;subst e;rw[zaj] at h;simp at h
 .intro h;exact Nat.pos_of_ne_zero (fun e=>h (zaP.1 (zxm e)))
theorem zqv(n:Nat):V.agg [Leaf.val (.bool false),zaf (zab n)]=zV (zOf (sgn false n)):=by
 show V.agg _=V.agg [Leaf.val (.bool (decide (sgn false n<0))),zaf (zab (sgn false n).natAbs)];rw[zb4,decide_eq_false (by rw[zds];omega)]
theorem zqu(n:Nat):V.agg [Leaf.val (.bool (decide ((0:Int)<((zab n).length:Nat)))),zaf (zab n)]=zV (zOf (sgn true n)):=by
 show V.agg _=V.agg [Leaf.val (.bool (decide (sgn true n<0))),zaf (zab (sgn true n).natAbs)];rw[zb4];have h:=zaG (n:=n);have e:decide ((0:Int)<((zab n).length:Nat))=decide (sgn true n<0):=decide_eq_decide.2 (by rw[zcI];omega);rw[e]
theorem zeY{n:Nat}:bl n=0↔n=0:=by
 constructor
 .intro h;by_cases e:n=0
  .exact e
  .have:=ziY e;omega
 .rintro rfl;rfl
theorem zo4{x:Zr}(h:bl (val x.m)=0):sgz x.z=0:=by
 unfold Zr.z;rw[zeY.1 h];cases x.neg <;> rfl
theorem zmA{x:Zr}(h:val x.m=0):sgz x.z=0:=by
 unfold Zr.z;rw[h];cases x.neg <;> rfl
theorem zrO{x:Zr}(h:val x.m≠0)(hn:x.neg=true):sgz x.z = -1:=by
 unfold Zr.z sgz;rw[hn,zcI,if_pos (by omega)]
theorem zrN{x:Zr}(h:val x.m≠0)(hn:x.neg=false):sgz x.z=1:=by
 unfold Zr.z sgz;rw[hn,zds,if_neg (by omega),if_neg (by omega)]
theorem zhX{x y:Zr}(h:x.neg=y.neg):sgn x.neg (val x.m+val y.m)=x.z+y.z:=by
 unfold Zr.z;rw[<-h];cases x.neg <;> simp <;> omega
theorem zl9{x y:Zr}(h:x.neg≠y.neg)(hlt:val x.m<=val y.m):sgn y.neg (val y.m-val x.m)=x.z+y.z:=by
 unfold Zr.z;cases hx:x.neg <;> cases hy:y.neg <;> simp[hx,hy] at h ⊢ <;> omega
theorem zma{x y:Zr}(h:x.neg≠y.neg)(hge:val y.m<=val x.m):sgn x.neg (val x.m-val y.m)=x.z+y.z:=by
 unfold Zr.z;cases hx:x.neg <;> cases hy:y.neg <;> simp[hx,hy] at h ⊢ <;> omega
theorem zbV(z:Int):(z<0/\sgz z = -1)\/(z=0/\sgz z=0)\/(0<z/\sgz z=1):=by
 unfold sgz;split
 .exact .inl ⟨by assumption,rfl⟩
 .split
  .exact .inr (.inl ⟨by assumption,rfl⟩)
  .exact .inr (.inr ⟨by omega,rfl⟩)
theorem ztb{a b:Int}(h:a<b):zkW a b = -1:=by unfold zkW;rw[if_pos h]
theorem ztc{a b:Int}(h:b<a):zkW a b=1:=by unfold zkW;rw[if_neg (by omega),if_neg (by omega)]
theorem zlN{a b:Int}(h:sgz a<sgz b):zkW a b = -1:=by
 have h1:=zbV a;have h2:=zbV b;exact ztb (by omega)
theorem zlO{a b:Int}(h:sgz b<sgz a):zkW a b=1:=by
 have h1:=zbV a;have h2:=zbV b;exact ztc (by omega)
theorem zpV{x y:Zr}(h:sgz x.z=sgz y.z)(hn:sgz x.z<0):zeA (val y.m) (val x.m)=zkW x.z y.z:=by
 have h1:=zbV x.z;have h2:=zbV y.z;have a1:x.z<0:=by omega
 have a2:y.z<0:=by omega
 clear h1 h2 h hn;unfold Zr.z at *;cases hx:x.neg <;> cases hy:y.neg <;> rw[hx] at a1 <;> rw[hy] at a2 <;> simp at a1 a2
 .omega
 .omega
 .omega
 .simp only[zcI];unfold zeA zkW
  repeat' split
  all_goals omega
theorem zpU{x y:Zr}(h:sgz x.z=sgz y.z)(hn:¬sgz x.z<0):zeA (val x.m) (val y.m)=zkW x.z y.z:=by
 have h1:=zbV x.z;have h2:=zbV y.z;have a:(x.z=0/\y.z=0)\/(0<x.z/\0<y.z):=by omega
 clear h1 h2 h hn;have e1:x.z=val x.m:=by
  unfold Zr.z at *;cases hx:x.neg <;> rw[hx] at a <;> simp at a ⊢ <;> omega
 have e2:y.z=val y.m:=by
  unfold Zr.z at *;cases hy:y.neg <;> rw[hy] at a <;> simp at a ⊢ <;> omega
 rw[e1,e2];unfold zeA zkW
 repeat' split
 all_goals omega
def dl(d:List Nat):List Nat:=if val d=0 then[1] else d
theorem ze4(d:List Nat):val (dl d)=dn (val d):=by unfold dl dn;split <;> simp_all
theorem zcH{d:List Nat}(h:Small d):Small (dl d):=by
 unfold dl;split
 .exact Small.cons (by omega) Small.nil
 .exact h
theorem zfc{d:List Nat}{k k':Nat}(h:d.length<=k)(hk:k+1<=k'):(dl d).length<=k':=by
 unfold dl;split
 .simp;omega
 .omega
theorem zs9{d:List Nat}(h:bl (val d)=0):dl d=[1]:=by unfold dl;rw[if_pos (zeY.1 h)]
theorem dl_of{d:List Nat}(h:¬bl (val d)=0):dl d=d:=by unfold dl;rw[if_neg (fun e=>h (zeY.2 e))]
theorem zdy:zab 1=[1]:=by rw[zcY (by decide)];simp[zaj]
theorem zbC{n:Nat}:zab n=[1]↔n=1:=by
 constructor
 .intro h;have:=zac n;rw[h] at this;simpa using this.symm
 .rintro rfl;exact zdy
theorem zfs(b:Bool){n d:Nat}(hn:n≠0)(hd:d≠0) :
  qV (qOf (rq b n d))=V.agg [Leaf.val (.bool b),zaf (zab (n/Nat.gcd n d)),zaf (zab (if d/Nat.gcd n d=1 then 0 else d/Nat.gcd n d))]:=by
 show V.agg [Leaf.val (.bool (zbx (rq b n d))),zaf (zab (zaV (rq b n d))),zaf (zab (zaW (rq b n d)))]=_;rw[zjK,zga,zch hd,decide_eq_true hn,Bool.and_true];unfold zaW;rw[ziP,zch hd]
theorem zcW(b:Bool){n d:Nat}(hd:d≠0) :
  qV (qOf (rq b n d))=V.agg [Leaf.val (.bool (b&&decide (n≠0))),zaf (zab (n/Nat.gcd n d)),zaf (zab (if d/Nat.gcd n d=1 then 0 else d/Nat.gcd n d))]:=by
 show V.agg [Leaf.val (.bool (zbx (rq b n d))),zaf (zab (zaV (rq b n d))),zaf (zab (zaW (rq b n d)))]=_;rw[zjK,zga,zch hd];unfold zaW;rw[ziP,zch hd]
theorem zna(b:Bool)(d:Nat):qV znc=qV (qOf (rq b 0 d)):=by rw[zmT];exact zeM
theorem zwk{n g:Nat}(hn:n≠0)(h:g ∣ n):n/g≠0:=by
 obtain⟨k,rfl⟩:=h;have hg:0<g:=Nat.pos_of_ne_zero (fun e=>hn (by rw[e,Nat.zero_mul]));rw[Nat.mul_div_cancel_left _ hg];intro e;exact hn (by rw[e,Nat.mul_zero])
theorem q_add(a b:Bool)(m n d e:Nat)(S:Int)(hS:S=sgn a m*sgn false (dn e)+sgn b n*sgn false (dn d)) :
  rq (decide (S<0)) S.natAbs (dn d*dn e)=rq a m d+rq b n e:=by
 refine zkq a b m n d e S ?_;rw[hS];cases a <;> cases b <;> simp[Int.neg_mul]
theorem zuB(a b:Bool)(m n d e:Nat)(S:Int)(hS:S=sgn a (m*dn e)+sgn b (n*dn d)) :
  rq (decide (S<0)) S.natAbs (dn d*dn e)=rq a m d+rq b n e:=zkq a b m n d e S hS
theorem zlR(a b:Bool)(m n d e:Nat):zkW (sgn a m*sgn false (dn e)) (sgn b n*sgn false (dn d))=zgc (rq a m d) (rq b n e):=(ztd a b m n d e).symm
theorem zlP{p q:Rat}(h:sg p<sg q):zgc p q = -1:=by
 unfold zgc;rw[if_pos];unfold sg at h;grind
theorem zlQ{p q:Rat}(h:sg p≠sg q)(h':¬sg p<sg q):zgc p q=1:=by
 unfold zgc;unfold sg at h h';rw[if_neg,if_neg] <;> grind
def isC(x:Qr):Bool:=(x.neg == zbx x.q)&&decide (x.n=zab (zaV x.q))&&decide (x.d=zab (zaW x.q))
theorem zf1{x:Qr}:isC x=true↔x=qOf x.q:=by
 unfold isC;rw[zxo,zxo,beq_iff_eq,decide_eq_true_eq,decide_eq_true_eq];constructor
 .rintro⟨⟨h1,h2⟩,h3⟩;obtain⟨b,n,d,hn,hd⟩:=x;simp only at h1 h2 h3;show _=Qr.mk _ _ _ _ _;congr
 .intro h;refine⟨⟨?_,?_⟩,?_⟩
  .have:=congrArg Qr.neg h;exact this
  .have:=congrArg Qr.n h;exact this
  .have:=congrArg Qr.d h;exact this
theorem zh8{a b:List Nat}(ha:Small a)(hb:Small b)(hl:a.length=b.length)(hv:val a=val b):a=b:=by
 rw[zjv ha,zjv hb,hl,hv]
theorem znW{a b:Nat}:zeA a b=0↔a=b:=by
 unfold zeA;split
 .exact⟨fun h=>absurd h (by decide),fun h=>by omega⟩
 .split
  .exact⟨fun _=>by assumption,fun _=>rfl⟩
  .exact⟨fun h=>absurd h (by decide),fun h=>absurd h (by assumption)⟩
theorem zjF{x:Qr}(hd:x.d.length=0):isC x=(decide (∀h:x.n≠[],x.n.getLast h≠0)&&(!x.neg||decide (0<x.n.length))):=by
 obtain⟨b,n,d,hn,hdd⟩:=x;simp only at hd;have hd0:=zxm hd;subst hd0;have hq:(Qr.mk b n [] hn hdd).q=rq b (val n) 0:=rfl;apply Bool.eq_iff_iff.2;unfold isC;rw[hq];simp only[];rw[zjK,zga];have hden:zaW (rq b (val n) 0)=0:=by unfold zaW;rw[ziP];simp
 rw[hden,zaj];simp only[zs7,Nat.gcd_one_right,Nat.div_one,zxo,decide_eq_true_eq,beq_iff_eq,Bool.or_eq_true,Bool.not_eq_true',ne_eq,decide_true,and_true];constructor
 .rintro⟨h1,h2⟩;have hc:=zb8 (val n);rw[<-h2] at hc;refine⟨fun h=>hc.2 h,?_⟩
  cases b with
  |false=>exact .inl rfl
  |true=>
   right;simp at h1;rw[h2];exact zaG.2 h1
 .rintro⟨h1,h2⟩;have hc:Canon n:=⟨hn,fun h=>h1 h⟩;refine⟨?_,hc.eq⟩;rcases h2 with h2|h2
  .subst h2;simp
  .have:val n≠0:=by
    rw[hc.eq] at h2;exact zaG.1 h2
   simp[this]
theorem zf2{x:Qr}:isC x=((x.neg == zbx x.q)&&((x.n.length:Int) == ((zab (zaV x.q)).length:Nat))&&((x.d.length:Int) == ((zab (zaW x.q)).length:Nat))&&(zeA (val x.n) (zaV x.q) == 0)&&(zeA (val x.d) (zaW x.q) == 0)):=by
 apply Bool.eq_iff_iff.2;unfold isC;simp only[zxo,beq_iff_eq,decide_eq_true_eq,znW];constructor
 .rintro⟨⟨h1,h2⟩,h3⟩;exact⟨⟨⟨⟨h1,by rw[<-h2]⟩,by rw[<-h3]⟩,by rw[h2,zac]⟩,by rw[h3,zac]⟩
 .rintro⟨⟨⟨⟨h1,h2⟩,h3⟩,h4⟩,h5⟩;exact⟨⟨h1,zh8 x.hn (zaa _) (by omega) (by rw[zac];exact h4)⟩,zh8 x.hd (zaa _) (by omega) (by rw[zac];exact h5)⟩
end Rc
namespace Rc
open Go Go.RowKit
abbrev Tm:Type:=Nat×Rat
def qL(r:Rat):List Leaf:=[Leaf.val (.bool (zbx r)),zaf (zab (zaV r)),zaf (zab (zaW r))]
def tmE:El Tm:=⟨fun t=>[Leaf.val (.int .i64 (t.1:Int)),Leaf.val (.bool (zbx t.2)),zaf (zab (zaV t.2)),zaf (zab (zaW t.2))],4,fun _=>rfl,fun _=>rfl⟩
structure Af where
 ts:List Tm
 c:Rat
@[reducible] def afL(f:Af):List Leaf:=[tmE.row f.ts,Leaf.val (.bool (zbx f.c)),zaf (zab (zaV f.c)),zaf (zab (zaW f.c))]
@[reducible] def afV(f:Af):V:=V.agg (afL f)
def afE:El Af:=⟨fun f=>[tmE.row f.ts,Leaf.val (.bool (zbx f.c)),zaf (zab (zaV f.c)),zaf (zab (zaW f.c))],4,fun _=>rfl,fun _=>rfl⟩
def nz(l:List Tm)(t:Tm):List Tm:=if t.2=0 then l else l++[t]
theorem zfa{l:List Tm}{v:Nat}{c:Rat}(h:c=0):nz l (v,c)=l:=if_pos h
theorem zdw{l:List Tm}{v:Nat}{c:Rat}(h:¬c=0):nz l (v,c)=l++[(v,c)]:=if_neg h
theorem zfm(l:List Tm)(t:Tm):(tmE.all l).length<=(tmE.all (nz l t)).length:=by
 unfold nz;split
 .exact zxe _
 .rw[El.all_append,zxq];omega
theorem zfi{c:Rat}(h:¬c=0):sg c≠0:=by
 unfold sg;rw[if_neg h];split <;> decide
def scT(ts:List Tm)(c:Rat):List Tm:=ts.foldl (fun out t=>nz out (t.1,t.2*c)) []
theorem zo7(ts:List Tm)(t:Tm)(c:Rat):scT (ts++[t]) c=nz (scT ts c) (t.1,t.2*c):=by
 unfold scT;rw[zxC];rfl
theorem zbK{α:Type}{l:List α}{i:Nat}{x:α}(h:l[i]?=some x):l.take (i+1)=l.take i++[x]:=by
 rw[List.take_add_one,h];rfl
theorem zo6{ts:List Tm}{i:Nat}{x:Tm}{c:Rat}(h:ts[i]?=some x):scT (ts.take (i+1)) c=nz (scT (ts.take i) c) (x.1,x.2*c):=by
 rw[zbK h,zo7]
theorem zdm(l:List Tm)(t:Tm):(nz l t).length<=l.length+1:=by
 unfold nz;split <;> simp
theorem zmD(ts:List Tm)(c:Rat):(scT ts c).length<=ts.length:=by
 have:∀(ts out:List Tm),(ts.foldl (fun out t=>nz out (t.1,t.2*c)) out).length<=out.length+ts.length:=by
  intro ts
  induction ts with
  |nil=>intro out;simp
  |cons t ts ih=>
   intro out;have h1:=ih (nz out (t.1,t.2*c));have h2:=zdm out (t.1,t.2*c);simp only[List.foldl_cons,List.length_cons];omega
 have:=this ts [];simpa[scT] using this
def zc5:List Tm->Nat->Rat->List Tm
 |[],v,c=>if c=0 then[] else[(v,c)]
 |(w,d)::ts,v,c=>if w=v then(if d+c=0 then ts else(w,d+c)::ts) else if v<w then(if c=0 then(w,d)::ts else(v,c)::(w,d)::ts) else(w,d)::zc5 ts v c
def CanT:List Tm->Prop
 |[]=>True
 |(w,d)::ts=>d≠0/\(∀t∈ts,w<t.1)/\CanT ts
def co:List Tm->Nat->Rat
 |[],_=>0
 |(w,d)::ts,v=>if w=v then d else co ts v
theorem zcv{ts:List Tm}{v:Nat}(h:∀t∈ts,v<t.1):co ts v=0:=by
 induction ts with
 |nil=>rfl
 |cons t ts ih=>
  have h1:=h t (by simp);unfold co;rw[if_neg (by omega)];exact ih fun u hu=>h u (by simp[hu])
theorem zri:∀{a b:List Tm},CanT a->CanT b->(∀v,co a v=co b v)->a=b
 |[],[],_,_,_=>rfl
 |[],(w,d)::b,_,hb,h=>by
  have:=h w;unfold co at this;rw[if_pos rfl] at this;exact absurd this.symm hb.1
 |(w,d)::a,[],ha,_,h=>by
  have:=h w;unfold co at this;rw[if_pos rfl] at this;exact absurd this ha.1
 |(w,d)::a,(x,e)::b,ha,hb,h=>by
  obtain⟨a1,a2,a3⟩:=ha;obtain⟨b1,b2,b3⟩:=hb;have hw:=h w;have hx:=h x;unfold co at hw hx;rw[if_pos rfl] at hw hx;by_cases e1:w=x
  .subst e1;rw[if_pos rfl] at hw;subst hw;rw[zri a3 b3 fun v=>?_];have:=h v;unfold co at this;by_cases e2:w=v
   .subst e2;rw[zcv a2,zcv b2]
   .rwa [if_neg e2,if_neg e2] at this
  .exfalso;rw[if_neg (fun e=>e1 e.symm)] at hw;rw[if_neg e1] at hx;by_cases e2:w<x
   .rw[zcv (fun t ht=>Nat.lt_trans e2 (b2 t ht))] at hw;exact a1 hw
   .rw[zcv (fun t ht=>Nat.lt_trans (show x<w by omega) (a2 t ht))] at hx;exact b1 hx.symm
theorem zk5{ts:List Tm}{v:Nat}{c:Rat}{t:Tm}(h:t∈zc5 ts v c):t.1=v \/ ∃u∈ts,u.1=t.1:=by
 induction ts with
 |nil=>
  unfold zc5 at h;split at h
  .simp at h
  .simp at h;subst h;exact .inl rfl
 |cons u ts ih=>
  obtain⟨w,d⟩:=u;unfold zc5 at h;split at h
  .split at h
   .exact .inr ⟨t,by simp[h],rfl⟩
   .rcases zxE.1 h with h|h
    .subst h;exact .inr ⟨(w,d),by simp,rfl⟩
    .exact .inr ⟨t,by simp[h],rfl⟩
  .split at h
   .split at h
    .exact .inr ⟨t,h,rfl⟩
    .rcases zxE.1 h with h|h
     .subst h;exact .inl rfl
     .exact .inr ⟨t,h,rfl⟩
   .rcases zxE.1 h with h|h
    .subst h;exact .inr ⟨(w,d),by simp,rfl⟩
    .rcases ih h with h|⟨u,hu,he⟩
     .exact .inl h
     .exact .inr ⟨u,by simp[hu],he⟩
theorem zhK:∀{ts:List Tm} {v:Nat} {c:Rat},CanT ts->CanT (zc5 ts v c)
 |[],v,c,_=>by
  unfold zc5;split
  .trivial
  .rename_i h;exact⟨h,fun t ht=>by simp at ht,trivial⟩
 |(w,d)::ts,v,c,h=>by
  obtain⟨h1,h2,h3⟩:=h;unfold zc5;split
  .split
   .exact h3
   .rename_i h4;exact⟨h4,h2,h3⟩
  .split
   .rename_i h4;split
    .exact⟨h1,h2,h3⟩
    .rename_i h5;refine⟨h5,fun t ht=>?_,h1,h2,h3⟩;rcases zxE.1 ht with ht|ht
     .subst ht;exact h4
     .exact Nat.lt_trans h4 (h2 t ht)
   .refine⟨h1,fun t ht=>?_,zhK h3⟩;rcases zk5 ht with ht|⟨u,hu,he⟩
    .omega
    .rw[<-he];exact h2 u hu
theorem znU:∀{ts:List Tm} {v:Nat} {c:Rat},CanT ts->∀x,co (zc5 ts v c) x=co ts x+if x=v then c else 0
 |[],v,c,_,x=>by
  unfold zc5;by_cases h:c=0
  .rw[if_pos h];subst h;simp[co];grind
  .rw[if_neg h];by_cases e:x=v
   .subst e;simp[co];grind
   .rw[if_neg e];unfold co;rw[if_neg (fun e'=>e e'.symm)];simp[co];grind
 |(w,d)::ts,v,c,h,x=>by
  obtain⟨h1,h2,h3⟩:=h;unfold zc5;by_cases e1:w=v
  .subst e1;rw[if_pos rfl];by_cases e2:d+c=0
   .rw[if_pos e2];by_cases e3:x=w
    .subst e3;rw[if_pos rfl,zcv h2];unfold co;rw[if_pos rfl,e2]
    .rw[if_neg e3];show co ts x=(if w=x then d else co ts x)+0;rw[if_neg (fun e=>e3 e.symm)];grind
   .rw[if_neg e2];by_cases e3:x=w
    .subst e3;unfold co;rw[if_pos rfl,if_pos rfl,if_pos rfl]
    .rw[if_neg e3];unfold co;rw[if_neg (fun e=>e3 e.symm),if_neg (fun e=>e3 e.symm)];grind
  .rw[if_neg e1];by_cases e2:v<w
   .rw[if_pos e2];by_cases e3:c=0
    .rw[if_pos e3];subst e3;simp;grind
    .rw[if_neg e3];by_cases e4:x=v
     .subst e4;rw[if_pos rfl,zcv (ts:=(w,d)::ts) (fun t ht=>by
       rcases zxE.1 ht with ht|ht
       .subst ht;exact e2
       .exact Nat.lt_trans e2 (h2 t ht))]
      show(if x=x then c else _)=_;rw[if_pos rfl];grind
     .rw[if_neg e4];show(if v=x then c else co ((w,d)::ts) x)=_;rw[if_neg (fun e=>e4 e.symm)];grind
   .rw[if_neg e2];show(if w=x then d else co (zc5 ts v c) x)=(if w=x then d else co ts x)+_;by_cases e3:w=x
    .subst e3;rw[if_pos rfl,if_pos rfl,if_neg e1];grind
    .rw[if_neg e3,if_neg e3];exact znU h3 x
theorem CanT.get:∀{ts:List Tm} {i:Nat} {x:Tm},CanT ts->ts[i]?=some x->x.2≠0/\(∀t∈ts.drop (i+1),x.1<t.1)/\∀t∈ts.take i,t.1<x.1
 |[],i,x,_,h=>by simp at h
 |(w,d)::ts,0,x,hc,h=>by
  simp at h;subst h;exact⟨hc.1,by simpa using hc.2.1,by simp⟩
 |(w,d)::ts,i+1,x,hc,h=>by
  obtain⟨h1,h2,h3⟩:=hc;have hx:ts[i]?=some x:=by simpa using h
  obtain⟨q1,q2,q3⟩:=h3.get hx;refine⟨q1,by simpa using q2,fun t ht=>?_⟩;rw[List.take_succ_cons] at ht;rcases zxE.1 ht with ht|ht
  .subst ht;exact h2 x (zxb hx)
  .exact q3 t ht
theorem CanT.prev{ts:List Tm}{i:Nat}{x y:Tm}(h:CanT ts)(hi:0<i)(hx:ts[i]?=some x)(hy:ts[i-1]?=some y):y.1<x.1:=by
 refine(h.get hx).2.2 y ?_;rw[List.mem_take_iff_getElem];obtain⟨h1,h2⟩:=zxc.1 hy;exact⟨i-1,by omega,h2⟩
def PlI(ts:List Tm)(v:Nat)(c:Rat)(i:Nat)(out:List Tm)(done:Bool):Prop:=
 if done=true then out++ts.drop i=zc5 ts v c/\∀t∈ts.drop i,v<t.1 else out=ts.take i/\∀t∈ts.take i,t.1<v
theorem zbs{α:Type}{l:List α}{i:Nat}{x:α}(h:l[i]?=some x):l.drop i=x::l.drop (i+1):=by
 obtain⟨h1,h2⟩:=zxc.1 h;rw[zxH h1,h2]
theorem zqa{w v:Nat}{d c:Rat}{ts:List Tm}(h:w<v):zc5 ((w,d)::ts) v c=(w,d)::zc5 ts v c:=by
 show(if w=v then _ else if v<w then _ else _)=_;rw[if_neg (show ¬w=v by omega),if_neg (show ¬v<w by omega)]
theorem zp9{w v:Nat}{d c:Rat}{ts:List Tm}(h:v<w):zc5 ((w,d)::ts) v c=if c=0 then(w,d)::ts else(v,c)::(w,d)::ts:=by
 show(if w=v then _ else if v<w then _ else _)=_;rw[if_neg (show ¬w=v by omega),if_pos h]
theorem ztr{w:Nat}{d c:Rat}{ts:List Tm}:zc5 ((w,d)::ts) w c=if d+c=0 then ts else(w,d+c)::ts:=by
 show(if w=w then _ else _)=_;rw[if_pos rfl]
theorem zgq:∀{a b:List Tm} {v:Nat} {c:Rat},(∀t∈a,t.1<v)->zc5 (a++b) v c=a++zc5 b v c
 |[],b,v,c,_=>rfl
 |(w,d)::a,b,v,c,h=>by
  have h1:w<v:=h (w,d) (by simp);show zc5 ((w,d)::(a++b)) v c=(w,d)::(a++zc5 b v c);rw[zqa h1,zgq fun t ht=>h t (by simp[ht])]
theorem PlI.start(ts:List Tm)(v:Nat)(c:Rat):PlI ts v c 0 [] false:=by
 unfold PlI;rw[if_neg (by decide)];exact⟨by simp,by simp⟩
theorem PlI.eq{ts:List Tm}{v i:Nat}{c:Rat}{out:List Tm}{done:Bool}{x:Tm}(hc:CanT ts)(h:PlI ts v c i out done)(hx:ts[i]?=some x)(e:x.1=v):PlI ts v c (i+1) (nz out (x.1,x.2+c)) true:=by
 cases hd:done with
 |true=>
  subst hd;unfold PlI at h;rw[if_pos rfl] at h;have:=h.2 x (by rw[zbs hx];simp);omega
 |false=>
  subst hd;unfold PlI at h ⊢;rw[if_neg (by decide)] at h;rw[if_pos rfl];obtain⟨h1,h2⟩:=h;subst e;refine⟨?_,(hc.get hx).2.1⟩;have h3:ts=ts.take i++x::ts.drop (i+1):=by rw[<-zbs hx,List.take_append_drop]
  rw[show zc5 ts x.1 c=ts.take i++zc5 (x::ts.drop (i+1)) x.1 c from by
   conv=>lhs;rw[h3]
   exact zgq h2]
  obtain⟨w,d⟩:=x;rw[ztr,h1];by_cases e0:d+c=0
  .rw[if_pos e0,zfa e0]
  .rw[if_neg e0,zdw e0];simp
theorem PlI.ins{ts:List Tm}{v i:Nat}{c:Rat}{out:List Tm}{x:Tm}(hc:CanT ts)(h:PlI ts v c i out false)(hx:ts[i]?=some x)(e:v<x.1):PlI ts v c (i+1) (nz (nz out (v,c)) (x.1,x.2)) true:=by
 unfold PlI at h ⊢;rw[if_neg (by decide)] at h;rw[if_pos rfl];obtain⟨h1,h2⟩:=h;obtain⟨q1,q2,q3⟩:=hc.get hx;refine⟨?_,fun t ht=>Nat.lt_trans e (q2 t ht)⟩;have h3:ts=ts.take i++x::ts.drop (i+1):=by rw[<-zbs hx,List.take_append_drop]
 rw[show zc5 ts v c=ts.take i++zc5 (x::ts.drop (i+1)) v c from by
  conv=>lhs;rw[h3]
  exact zgq h2]
 obtain⟨w,d⟩:=x;have q1:d≠0:=q1;rw[zp9 e,zdw q1,h1];by_cases e0:c=0
 .rw[if_pos e0,zfa e0];simp
 .rw[if_neg e0,zdw e0];simp
theorem PlI.less{ts:List Tm}{v i:Nat}{c:Rat}{out:List Tm}{x:Tm}(hc:CanT ts)(h:PlI ts v c i out false)(hx:ts[i]?=some x)(e:x.1<v):PlI ts v c (i+1) (nz out (x.1,x.2)) false:=by
 unfold PlI at h ⊢;rw[if_neg (by decide)] at h ⊢;obtain⟨h1,h2⟩:=h;obtain⟨q1,q2,q3⟩:=hc.get hx;rw[zbK hx,zdw q1,h1];refine⟨rfl,fun t ht=>?_⟩;rcases zxv.1 ht with ht|ht
 .exact h2 t ht
 .simp at ht;subst ht;exact e
theorem PlI.rest{ts:List Tm}{v i:Nat}{c:Rat}{out:List Tm}{x:Tm}(hc:CanT ts)(h:PlI ts v c i out true)(hx:ts[i]?=some x):PlI ts v c (i+1) (nz out (x.1,x.2)) true:=by
 unfold PlI at h ⊢;rw[if_pos rfl] at h ⊢;obtain⟨h1,h2⟩:=h;obtain⟨q1,q2,q3⟩:=hc.get hx;rw[zbs hx] at h1 h2;rw[zdw q1];exact⟨by rw[<-h1];simp,fun t ht=>h2 t (by simp[ht])⟩
theorem PlI.fin_t{ts:List Tm}{v i:Nat}{c:Rat}{out:List Tm}(h:PlI ts v c i out true)(hi:ts.length<=i):out=zc5 ts v c:=by
 unfold PlI at h;rw[if_pos rfl,List.drop_of_length_le hi] at h;simpa using h.1
theorem PlI.fin_f{ts:List Tm}{v i:Nat}{c:Rat}{out:List Tm}(h:PlI ts v c i out false)(hi:ts.length<=i):nz out (v,c)=zc5 ts v c:=by
 unfold PlI at h;rw[if_neg (by decide),zxJ hi] at h;obtain⟨h1,h2⟩:=h;subst h1;rw[show zc5 out v c=zc5 (out++[]) v c from by rw[zxy],zgq h2];show nz out (v,c)=out++(if c=0 then[] else[(v,c)]);by_cases e0:c=0
 .rw[if_pos e0,zfa e0];simp
 .rw[if_neg e0,zdw e0]
theorem zkb{ts:List Tm}{i n:Nat}{x:Tm}(h:ts[i]?=some x)(ha:∀t∈ts.take i,t.1<n)(hx:x.1<n):∀t∈ts.take (i+1),t.1<n:=by
 rw[zbK h];intro t ht;rcases zxv.1 ht with ht|ht
 .exact ha t ht
 .simp at ht;subst ht;exact hx
theorem ztm{ts:List Tm}{i n:Nat}{x:Tm}(h:ts[i]?=some x)(hx:n<=x.1):decide (∀t∈ts,t.1<n)=false:=by
 refine decide_eq_false fun ha=>?_;have:=ha x (zxb h);omega
theorem af0(ts:List Tm):afV ⟨ts,0⟩=V.agg [tmE.row ts,Leaf.val (.bool false),nilL,nilL]:=by
 show V.agg [tmE.row ts,Leaf.val (.bool (zbx 0)),zaf (zab (zaV 0)),zaf (zab (zaW 0))]=_;rw[zcw,zcy,zaj];rfl
def zgB(f g:List Tm):List Tm:=g.foldl (fun a t=>zc5 a t.1 t.2) f
theorem zmq(f g:List Tm)(t:Tm):zgB f (g++[t])=zc5 (zgB f g) t.1 t.2:=by
 unfold zgB;rw[zxC];rfl
theorem zmp{f g:List Tm}{i:Nat}{x:Tm}(h:g[i]?=some x):zgB f (g.take (i+1))=zc5 (zgB f (g.take i)) x.1 x.2:=by
 rw[zbK h,zmq]
theorem zee:∀{g f:List Tm},CanT f->CanT (zgB f g)
 |[],f,h=>h
 |t::g,f,h=>zee (g:=g) (zhK (v:=t.1) (c:=t.2) h)
theorem znT:∀{g f:List Tm},CanT f->CanT g->∀x,co (zgB f g) x=co f x+co g x
 |[],f,_,_,x=>by show co f x=co f x+0;grind
 |(w,d)::g,f,hf,hg,x=>by
  show co (zgB (zc5 f w d) g) x=_;rw[znT (zhK hf) hg.2.2 x,znU hf x];show _=co f x+(if w=x then d else co g x);by_cases e:x=w
  .subst e;rw[if_pos rfl,if_pos rfl,zcv hg.2.1];grind
  .rw[if_neg e,if_neg (fun h=>e h.symm)];grind
theorem zgg:∀{l:List Tm} {i:Nat},CanT l->CanT (l.take i)
 |[],i,_=>by simp[CanT]
 |(w,d)::l,0,_=>trivial
 |(w,d)::l,i+1,h=>⟨h.1,fun t ht=>h.2.1 t (List.mem_of_mem_take ht),zgg h.2.2⟩
theorem zq5:∀{l:List Tm} {t:Tm},CanT l->t∈l->co l t.1=t.2
 |(w,d)::l,t,h,ht=>by
  rcases zxE.1 ht with ht|ht
  .subst ht;show(if w=w then d else _)=d;rw[if_pos rfl]
  .have:=h.2.1 t ht;show(if w=t.1 then d else co l t.1)=t.2;rw[if_neg (by omega)];exact zq5 h.2.2 ht
theorem zwm{l:List Tm}{B:Nat}(h:∀t∈l,Br t.2 B)(x:Nat):Br (co l x) B:=by
 induction l with
 |nil=>exact Br.zero.mono (zxg _)
 |cons t l ih=>
  obtain⟨w,d⟩:=t;show Br (if w=x then d else co l x) B;split
  .exact h (w,d) (by simp)
  .exact ih fun u hu=>h u (by simp[hu])
theorem zjj{f g:List Tm}{B C:Nat}(hf:CanT f)(hg:CanT g)(h1:∀t∈f,Br t.2 B)(h2:∀t∈g,Br t.2 C):∀t∈zgB f g,Br t.2 (B+C+1):=by
 intro t ht;rw[<-zq5 (zee hf) ht,znT hf hg];haveI:=zwm h1 t.1;haveI:=zwm h2 t.1;exact Br.add
theorem zp8(ts:List Tm)(v:Nat)(c:Rat):(zc5 ts v c).length<=ts.length+1:=by
 induction ts with
 |nil=>unfold zc5;split <;> simp
 |cons t ts ih=>
  obtain⟨w,d⟩:=t;unfold zc5;split
  .split <;> simp;omega
  .split
   .split <;> simp
   .simp only[List.length_cons];omega
theorem zfo:∀(g f:List Tm),(zgB f g).length<=f.length+g.length
 |[],f=>by show f.length<=_;simp
 |t::g,f=>by
  have h1:=zfo g (zc5 f t.1 t.2);have h2:=zp8 f t.1 t.2;show(zgB (zc5 f t.1 t.2) g).length<=_;simp only[List.length_cons];omega
theorem zhj{n:Nat}:∀{g f:List Tm},(∀t∈f,t.1<n)->(∀t∈g,t.1<n)->∀t∈zgB f g,t.1<n
 |[],f,h1,_=>h1
 |u::g,f,h1,h2=>by
  refine zhj (g:=g) (f:=zc5 f u.1 u.2) (fun t ht=>?_) (fun t ht=>h2 t (by simp[ht]));rcases zk5 ht with h|⟨w,hw,he⟩
  .rw[h];exact h2 u (by simp)
  .rw[<-he];exact h1 w hw
def scR(c:Rat):List Tm->List Tm
 |[]=>[]
 |t::ts=>if t.2*c=0 then scR c ts else(t.1,t.2*c)::scR c ts
theorem zdt(ts:List Tm)(c:Rat):scT ts c=scR c ts:=by
 have:∀(ts out:List Tm),ts.foldl (fun out t=>nz out (t.1,t.2*c)) out=out++scR c ts:=by
  intro ts
  induction ts with
  |nil=>intro out;simp[scR]
  |cons t ts ih=>
   intro out;rw[List.foldl_cons,ih];show nz out (t.1,t.2*c)++scR c ts=out++(if t.2*c=0 then scR c ts else(t.1,t.2*c)::scR c ts);by_cases e:t.2*c=0
   .rw[zfa e,if_pos e]
   .rw[zdw e,if_neg e];simp
 have:=this ts [];simpa[scT] using this
theorem zdb{c:Rat}:∀{ts:List Tm} {t:Tm},t∈scR c ts->∃u∈ts,u.1=t.1/\t.2=u.2*c/\t.2≠0
 |u::ts,t,h=>by
  unfold scR at h;split at h
  .obtain⟨w,h1,h2⟩:=zdb h;exact⟨w,by simp[h1],h2⟩
  .rename_i h0;rcases zxE.1 h with h|h
   .subst h;exact⟨u,by simp,rfl,rfl,h0⟩
   .obtain⟨w,h1,h2⟩:=zdb h;exact⟨w,by simp[h1],h2⟩
theorem zeF{c:Rat}:∀{ts:List Tm},CanT ts->CanT (scR c ts)
 |[],_=>trivial
 |(w,d)::ts,h=>by
  unfold scR;split
  .exact zeF h.2.2
  .rename_i h0;refine⟨h0,fun t ht=>?_,zeF h.2.2⟩;obtain⟨u,h1,h2,_⟩:=zdb ht;rw[<-h2];exact h.2.1 u h1
theorem zkT{c:Rat}:∀{ts:List Tm},CanT ts->∀x,co (scR c ts) x=co ts x*c
 |[],_,x=>by show(0:Rat)=0*c;grind
 |(w,d)::ts,h,x=>by
  unfold scR;by_cases e:w=x
  .subst e;show _=(if w=w then d else _)*c;rw[if_pos rfl];split
   .rename_i h0;rw[zkT h.2.2,zcv h.2.1];have h0:d*c=0:=h0;rw[h0];grind
   .show(if w=w then _ else _)=_;rw[if_pos rfl]
  .show _=(if w=x then d else co ts x)*c;rw[if_neg e];split
   .exact zkT h.2.2 x
   .show(if w=x then _ else _)=_;rw[if_neg e];exact zkT h.2.2 x
class Fm (ts:List Tm) (B n:outParam Nat):Prop where
 can:CanT ts
 bd:∀t∈ts,Br t.2 B
 len:ts.length<=n
 var:∀t∈ts,t.1<1000000
instance Fm.nil:Fm [] 0 0:=⟨trivial,fun t h=>by simp at h,zxe _,fun t h=>by simp at h⟩
instance Fm.sum{f g:List Tm}{B n C m:Nat}[hf:Fm f B n][hg:Fm g C m]:Fm (zgB f g) (B+C+1) (n+m):=
 ⟨zee hf.can,zjj hf.can hg.can hf.bd hg.bd,by have:=zfo g f;have:=hf.len;have:=hg.len;omega,zhj hf.var hg.var⟩
instance Fm.sc{f:List Tm}{c:Rat}{B n C:Nat}[hf:Fm f B n][hc:Br c C]:Fm (scT f c) (B+C+1) n:=by
 rw[zdt];refine⟨zeF hf.can,fun t ht=>?_,?_,fun t ht=>?_⟩
 .obtain⟨u,h1,h2,h3,_⟩:=zdb ht;rw[h3];haveI:=hf.bd u h1;exact Br.mul
 .rw[<-zdt];exact zxk (zmD _ _) hf.len
 .obtain⟨u,h1,h2,_⟩:=zdb ht;rw[<-h2];exact hf.var u h1
theorem Fm.one{v:Nat}{c:Rat}{B:Nat}(hv:v<1000000)(hc:c≠0)[hb:Br c B]:Fm [(v,c)] B 1:=
 ⟨⟨hc,fun t h=>by simp at h,trivial⟩,fun t h=>by simp at h;subst h;exact hb,zxe _,fun t h=>by simp at h;subst h;exact hv⟩
theorem Fm.mono{f:List Tm}{B C n m:Nat}(h:Fm f B n)(h1:B<=C)(h2:n<=m):Fm f C m:=⟨h.can,fun t ht=>(h.bd t ht).mono h1,zxk h.len h2,h.var⟩
theorem takeA{l:List Af}{i n:Nat}{x:Af}(h:l[i]?=some x)(ha:∀f∈l.take i,∀t∈f.ts,t.1<n)(hx:∀t∈x.ts,t.1<n):∀f∈l.take (i+1),∀t∈f.ts,t.1<n:=by
 rw[zbK h];intro f hf;rcases zxv.1 hf with hf|hf
 .exact ha f hf
 .rw[List.mem_singleton.1 hf];exact hx
theorem badA{l:List Af}{i n:Nat}{x:Af}(h:l[i]?=some x)(hx:¬∀t∈x.ts,t.1<n):decide (∀f∈l,∀t∈f.ts,t.1<n)=false:=
 decide_eq_false fun ha=>hx (ha x (zxb h))
end Rc
namespace Go.Proofs.YticnclbnchgigaaGreatDoor
open Go Go.RowKit Rc
theorem zaw(l:List Nat)(hs:Small l):Ctr Tryz.prog 95 [V.one (zaf l)] (R.one (V.one (zaf (zab (val l))))):=by
 refine bd_ Tryz.func95 Tryz.ntmps95 rfl (fun w0 A0=>?_);refine zc 1 rfl ?_;refine zev (s:=0) rfl (fun hm=>?_);refine zc 7 rfl (tq_ rfl (jln rfl) (zl 5 rfl (zbO (fun m Γ H=>∃(n:Nat),n=m/\Γ=[(0,some (D.v (V.one (zaf l)))),(3,some (D.int n))]/\H=[]/\n<=l.length/\∀i (hi:i<l.length),n<=i->l[i]=0) ⟨l.length,rfl,rfl,rfl,zxe _,fun i hi h=>absurd hi (by omega)⟩ rfl ?_)));rintro m Γ H ⟨n,rfl,rfl,rfl,h⟩;refine zc 4 rfl ?_;by_cases hp:0<n
 .refine tq_ rfl (gtT rfl) (zl 3 rfl (tq_ rfl (jsb (n-1) rfl) (tq_ rfl (ji1 rfl (zaY (by omega))) (tq_ rfl (jli rfl) ?_))));by_cases hz:l[n-1]'(by omega)=0
  .refine tq_ rfl (eqT rfl) (zl 9 rfl (tq_ rfl (jsb (n-1) rfl) (zl 3 rfl ?_)));exact nx_ ⟨n-1,rfl,rfl,rfl,by omega,fun i hi h1=>(if e:i=n-1 then by subst e;exact hz else h.2 i hi (by omega))⟩ rfl
  .refine tq_ rfl (eqF rfl) (zl 13 rfl (tq_ rfl (eqF rfl) (zl 9 rfl (tq_ rfl (zcz rfl rfl rfl zbU zap (by omega)) (zl 3 rfl ?_)))));exact r1_ hq_ rfl (by rw[<-zdM hs n h.1 h.2 (fun _=>hz)])
 .refine tq_ rfl (gtF rfl) (zl 20 rfl (tq_ rfl (eqT rfl) (zl 8 rfl ?_)));exact r1_ hq_ rfl (by rw[<-zdM hs n h.1 h.2 (fun h0=>absurd h0 hp),show n=0 from by omega] <;> rfl)
theorem zlS(l:List Nat)(hl:l.length<=10000000000000):Ctr Tryz.prog 112 [V.one (zaf l)] (R.one (V.one (zaf l))):=by
 refine bd_ Tryz.func112 Tryz.ntmps112 rfl (fun w0 A0=>?_);refine zc 9 rfl ?_;refine zhL rfl rfl rfl rfl rfl zbU (fun b1 hb1=>?_);refine zl 2 rfl ?_;refine zaz rfl (fun hc4=>?_) (fun hc4=>?_)
 .refine zc 5 rfl ?_;exact r1_ hq_ rfl (by obtain⟨h1,h2⟩:=hb1 hc4;have:=zxm h1;subst this;rfl)
 .refine zc 4 rfl (zbY rfl rfl rfl rfl zbU zap rfl (zl 1 rfl ?_));obtain⟨ti2,hi2,hz2,hs2,hb2⟩:=zcb;refine zbL rfl rfl rfl rfl rfl rfl rfl rfl rfl (by simp) (by simp) (by decide) zbU zbU hi2 hz2 hs2 rfl (by simp only[maxLen];omega) (by rw[hb2];omega) (nm:=l.length) (by simp) (ls:=(l.map za5)) (by simp) (zl 3 rfl (zbS 2 (l) rfl rfl rfl rfl rfl ?_));exact r1_ hq_ rfl rfl
theorem zfU(l:List Nat)(hs:Small l)(hl:l.length<=10000000000000):Ctr Tryz.prog 91 [V.one (zaf l)] (R.one (V.one (zaf (zab (val l))))):=by
 refine bd_ Tryz.func91 Tryz.ntmps91 rfl (fun w0 A0=>?_);refine zc 8 rfl (tc_ zeU rfl (zaw l hs) (tc_ fn112 rfl (zlS _ (zxk (zai hs) hl)) (zl 3 rfl ?_)));exact r1_ hq_ rfl rfl
theorem zhF(la lb:List Nat)(hsa:Small la)(hsb:Small lb):Ctr Tryz.prog 73 [V.one (zaf la),V.one (zaf lb)] (R.one (V.one (Leaf.val (.int .i64 (zeA (val la) (val lb)))))):=by
 refine bd_ Tryz.func73 Tryz.ntmps73 rfl (fun w0 A0=>?_);refine zc 1 rfl ?_;refine zev (s:=0) rfl (fun hma=>?_);refine zev (s:=1) rfl (fun hmb=>?_);refine zc 7 rfl (tc_ zeU rfl (zaw la hsa) (zl 1 rfl (tc_ zeU rfl (zaw lb hsb) (zl 6 rfl ?_))));have hla:=zai hsa;have hlb:=zai hsb;have va:=zac (val la);have vb:=zac (val lb);have sa:=zaa (val la);have sb:=zaa (val lb);have hlt1:(zab (val la)).length<(zab (val lb)).length->val la<val lb:=zfb;have hlt2:(zab (val lb)).length<(zab (val la)).length->val lb<val la:=zfb;generalize zab (val la)=a at *;generalize zab (val lb)=b at *;refine zc 2 rfl (tq_ rfl (jln rfl) (zl 1 rfl (tq_ rfl (jln rfl) ?_)));by_cases hne:a.length≠b.length
 .refine tq_ rfl (neT rfl) (zl 7 rfl (tq_ rfl (jln rfl) (zl 1 rfl (tq_ rfl (jln rfl) ?_))));by_cases hlt:a.length<b.length
  .refine tq_ rfl (ltT rfl) (zl 8 rfl ?_);exact r1_ hq_ rfl (by rw[zcx (hlt1 hlt)])
  .refine tq_ rfl (ltF rfl) (zl 10 rfl ?_);exact r1_ hq_ rfl (by rw[zjM (hlt2 (by omega))])
 .refine tq_ rfl (neF rfl) (zl 9 rfl (tq_ rfl (jln rfl) (tq_ rfl (zaI rfl rfl rfl (r:=(a.length:Int)-1) (w64 (by omega) (by omega) (by omega))) (zl 4 rfl ?_))));refine zbO (fun m Γ H=>∃(n:Nat),n=m/\Γ=[(0,some (D.v (V.one (zaf a)))),(1,some (D.v (V.one (zaf b)))),(5,some (D.int ((n:Int)-1)))]/\H=[]/\n<=a.length/\a.drop n=b.drop n) ⟨a.length,rfl,rfl,rfl,zxe _,by rw[List.drop_of_length_le (zxe _),List.drop_of_length_le (by omega)]⟩ rfl ?_;rintro m Γ H ⟨n,rfl,rfl,rfl,h⟩;refine zc 4 rfl ?_;by_cases hp:0<n
  .refine tq_ rfl (geT rfl) (zl 8 rfl ?_);by_cases hz:a[n-1]'(by omega)=b[n-1]'(by omega)
   .refine dr_ 0 [] [] (dz 2 rfl (kq_ rfl (ji1 rfl (zaH (n-1) (by omega) (by omega))) (kq_ rfl (jli rfl) (dz 2 rfl (kq_ rfl (ji1 rfl (zaH (n-1) (by omega) (by omega))) (kq_ rfl (jli rfl) (kq_ rfl (neF rfl) (zad (za 7 rfl ?_)))))))));refine tq_ rfl (zaI rfl rfl rfl (r:=((n-1:Nat):Int)-1) (w64 (by omega) (by omega) (by omega))) (zl 2 rfl ?_);exact nx_ ⟨n-1,rfl,rfl,rfl,by omega,ziN (by omega) (by omega) (by rw[show n-1+1=n from by omega];exact h.2) hz⟩ rfl
   .refine dr_ 0 [] [] (dz 2 rfl (kq_ rfl (ji1 rfl (zaH (n-1) (by omega) (by omega))) (kq_ rfl (jli rfl) (dz 2 rfl (kq_ rfl (ji1 rfl (zaH (n-1) (by omega) (by omega))) (kq_ rfl (jli rfl) (kq_ rfl (neT rfl) (zad (za 4 rfl ?_)))))))));by_cases hy:a[n-1]'(by omega)<b[n-1]'(by omega)
    .refine dr_ 0 [] [] (dz 2 rfl (kq_ rfl (ji1 rfl (zaH (n-1) (by omega) (by omega))) (kq_ rfl (jli rfl) (dz 2 rfl (kq_ rfl (ji1 rfl (zaH (n-1) (by omega) (by omega))) (kq_ rfl (jli rfl) (kq_ rfl (ltT rfl) (zad (za 7 rfl ?_)))))))));exact r1_ hq_ rfl (by rw[zcx (by rw[<-va,<-vb];exact zrj (n:=n-1) sa (by omega) (by omega) (by rw[show n-1+1=n from by omega];exact h.2) hy)])
    .refine dr_ 0 [] [] (dz 2 rfl (kq_ rfl (ji1 rfl (zaH (n-1) (by omega) (by omega))) (kq_ rfl (jli rfl) (dz 2 rfl (kq_ rfl (ji1 rfl (zaH (n-1) (by omega) (by omega))) (kq_ rfl (jli rfl) (kq_ rfl (ltF rfl) (zad (za 9 rfl ?_)))))))));exact r1_ hq_ rfl (by rw[zjM (by rw[<-va,<-vb];exact zrj (n:=n-1) sb (by omega) (by omega) (by rw[show n-1+1=n from by omega];exact h.2.symm) (by omega))])
  .refine tq_ rfl (geF rfl) (zl 13 rfl ?_);exact r1_ hq_ rfl (by rw[znX (by rw[<-va,<-vb];have h2:=h.2;rw[show n=0 from by omega] at h2;rw[show a=b from h2])])
theorem zd4(x:Nat)(hx:x<18446744073709551616):Ctr Tryz.prog 66 [V.one (Leaf.val (.int .u64 x))] (R.one (V.one (zaf (zab x)))):=by
 refine bd_ Tryz.func66 Tryz.ntmps66 rfl (fun w0 A0=>?_);refine zc 8 rfl (tq_ rfl (jc3 (x%4294967296) rfl) (zl 1 rfl (tq_ rfl (zbi rfl rfl rfl (by decide) (r:=((x/4294967296:Nat):Int)) (zaQ x 32 rfl)) (tq_ rfl (jc3 (x/4294967296) rfl) (te_ rfl (zag rfl zbU zap zdT rfl (by decide) (by decide) rfl (by decide) rfl) ?_)))));refine tc_ zeU rfl (zaw [x%4294967296,x/4294967296] (Small.cons (by omega) (Small.cons (by omega) Small.nil))) (zl 3 rfl ?_);exact r1_ hq_ rfl (by rw[show val [x%4294967296,x/4294967296]=x from by simp;omega])
theorem zlm(l:List Nat):Ctr Tryz.prog 87 [V.one (zaf l)] (R.one (V.one (Leaf.val (.bool (decide (∀h:l≠[],l.getLast h≠0)))))):=by
 refine bd_ Tryz.func87 Tryz.ntmps87 rfl (fun w0 A0=>?_);refine zc 1 rfl ?_;refine zev (s:=0) rfl (fun hm=>?_);refine zc 7 rfl (tq_ rfl (jln rfl) ?_);by_cases hz:l.length=0
 .refine tq_ rfl (eqT rfl) (zl 12 rfl ?_);exact r1_ hq_ rfl (by rw[decide_eq_true];intro h;exact absurd (zxm hz) h)
 .refine tq_ rfl (eqF rfl) (zl 3 rfl (tq_ rfl (jln rfl) (tq_ rfl (jsb (l.length-1) rfl) (tq_ rfl (ji1 rfl (zaH (l.length-1) (by omega) rfl)) (tq_ rfl (jli rfl) ?_)))));by_cases hy:l[l.length-1]'(by omega)≠0
  .refine tq_ rfl (neT rfl) (zl 4 rfl ?_);exact r1_ hq_ rfl (by rw[decide_eq_true];intro h;rw[List.getLast_eq_getElem];exact hy)
  .refine tq_ rfl (neF rfl) (zl 4 rfl ?_);exact r1_ hq_ rfl (by rw[decide_eq_false];intro h;exact h (by intro e;rw[e] at hz;simp at hz) (by rw[List.getLast_eq_getElem];omega))
theorem zh1(x:Nat):Ctr Tryz.prog 113 [V.one (zaf (zab x))] (R.tup [V.one (Leaf.val (.int .u64 (if x<18446744073709551616 then x else 0:Nat))),V.one (Leaf.val (.bool (decide (x<18446744073709551616))))]):=by
 refine bd_ Tryz.func113 Tryz.ntmps113 rfl (fun w0 A0=>?_);refine zc 9 rfl (tc_ zeU rfl (zaw (zab x) (zaa x)) (zl 5 rfl ?_));rw[zac];have hx:=zac x;have hsl:=zaa x;have hlen:(zab x).length<=2↔x<4294967296^2:=zae;generalize zab x=l at *;refine zc 2 rfl (tq_ rfl (jln rfl) ?_);by_cases hl:2<l.length
 .refine tq_ rfl (gtT rfl) (zl 9 rfl ?_);exact r2_ hq_ rfl (by rw[if_neg (by omega),decide_eq_false (by omega)] <;> rfl)
 .refine tq_ rfl (gtF rfl) (zl 14 rfl (tq_ rfl (jln rfl) (zl 4 rfl ?_)));refine zbO (fun m Γ H=>∃(i:Nat),l.length-i=m/\Γ=[(0,some (D.v (V.one (zaf l)))),(4,some (D.val (.int .u64 ((val (l.take i):Nat):Int)))),(12,some (D.v (V.one (zaf l)))),(13,some (D.int ((l.length:Nat):Int))),(14,some (D.int (i:Int)))]/\H=[]/\i<=l.length) ⟨0,rfl,rfl,rfl,zxg _⟩ rfl ?_;rintro m Γ H ⟨i,rfl,rfl,rfl,h⟩;refine zc 2 rfl ?_;by_cases hp:i<l.length
  .refine tq_ rfl (ltT rfl) (zl 11 rfl (tq_ rfl (ji1 rfl (zaY (by omega))) (tq_ rfl (jli rfl) (zl 4 rfl ?_))));have hd:=hsl.get i hp;have hv:=zau l i hp;have hlt:=za6 (hsl.take (i+1));rw[zxr,Nat.min_eq_left (by omega),zcg] at hlt;have hlt0:=za6 (hsl.take i);rw[zxr,Nat.min_eq_left (by omega),zcg] at hlt0;have h64:(2:Nat)^(32*(i+1))<=18446744073709551616:=by
    have:i=0\/i=1:=by omega
    rcases this with e|e <;> subst e <;> decide
   rw[zcg,zxF] at hv;refine zc 3 rfl (tq_ rfl (jc6 (l[i]'(by omega)) rfl) (zl 1 rfl (tq_ rfl (zew rfl rfl rfl (r:=((32*i:Nat):Int)) (w64 (by omega) (by omega) (by omega))) (tq_ rfl (zdF rfl rfl rfl (by omega) (r:=((l[i]'(by omega)*2^(32*i):Nat):Int)) (zic _ (32*i) (zdx (by omega)) (by omega))) ?_))));refine tq_ rfl (zgv rfl rfl rfl (r:=((val (l.take (i+1)):Nat):Int)) (by rw[hv];exact zpp (32*i) (Nat.mul_mod_left _ _) hlt0 (by omega))) (zl 5 rfl (tq_ rfl (jad (i+1) rfl) (zl 2 rfl ?_)));exact nx_ ⟨i+1,rfl,rfl,rfl,by omega⟩ rfl
  .refine tq_ rfl (ltF rfl) (zl 16 rfl ?_);exact r2_ hq_ rfl (by rw[zak l i (by omega),hx,if_pos (by omega),decide_eq_true (by omega)])
theorem zp7(la lb:List Nat)(hsa:Small la)(hsb:Small lb)(hla0:la.length<=10000000000000)(hlb0:lb.length<=10000000000000):Ctr Tryz.prog 100 [V.one (zaf la),V.one (zaf lb)] (R.one (V.one (zaf (zab (val la+val lb))))):=by
 refine bd_ Tryz.func100 Tryz.ntmps100 rfl (fun w0 A0=>?_);refine zc 8 rfl (tc_ zeU rfl (zaw la hsa) (zl 1 rfl (tc_ zeU rfl (zaw lb hsb) (zl 6 rfl ?_))));have hla:=zai hsa;have hlb:=zai hsb;have va:=zac (val la);have vb:=zac (val lb);have sa:=zaa (val la);have sb:=zaa (val lb);generalize zab (val la)=a at *;generalize zab (val lb)=b at *;refine zc 2 rfl (tq_ rfl (jln rfl) (zl 1 rfl (tq_ rfl (jln rfl) ?_)));by_cases hab:a.length<b.length
 .refine tq_ rfl (ltT rfl) (zl 13 rfl (tq_ rfl (jln rfl) (tq_ rfl (jad (b.length+1) rfl) ?_)));obtain⟨ti2,hi2,hz2,hs2,hb2⟩:=zcb;refine te_ rfl (zb9 (i:=0) (n:=b.length+1) (ls:=((List.replicate (b.length+1) 0).map za5)) rfl rfl rfl zbU hi2 hz2 hs2 (by decide) rfl (by decide) rfl (by rw[hb2];omega) (by simp only[maxLen];omega) (zcF _) rfl) (zl 12 rfl (tq_ rfl (jln rfl) (zl 4 rfl ?_)));refine zbO (fun m Γ H=>∃(k:Nat) (out:List Nat) (c:Nat),b.length-k=m/\Γ=[(0,some (D.v (V.one (zaf b)))),(1,some (D.v (V.one (zaf a)))),(5,some (D.own 0 (b.length+1))),(6,some (D.val (.int .u64 (c:Int)))),(24,some (D.v (V.one (zaf b)))),(25,some (D.int ((b.length:Nat):Int))),(26,some (D.int (k:Int)))]/\H=[some ⟨106,out.map za5,some 1,none⟩]/\k<=b.length/\out.length=b.length+1/\Small out/\c<=1/\val (out.take k)+c*4294967296^k=val (b.take k)+val (a.take k)) ⟨0,List.replicate (b.length+1) 0,0,rfl,rfl,rfl,zxg _,by simp,Small.replicate _,by omega,rfl⟩ rfl ?_;rintro m Γ H ⟨k,out,c,rfl,rfl,rfl,hkle,hol,hos,hc,heq⟩;refine zc 2 rfl ?_;by_cases hk:k<b.length
  .refine tq_ rfl (ltT rfl) (zl 9 rfl ?_);have hak:=sb.get k hk;have hbk:=sa.getD k;refine zc 2 rfl (tq_ rfl (ji1 rfl (zaY (by omega))) (tq_ rfl (jli rfl) (zl 8 rfl (tq_ rfl (jc6 (b[k]'hk) rfl) (tq_ rfl (zbj rfl rfl rfl (r:=((c+b[k]'hk:Nat):Int)) (zcC (by omega))) (zl 8 rfl (tq_ rfl (jln rfl) ?_)))))));by_cases hkb:k<a.length
   .refine tq_ rfl (ltT rfl) (zl 3 rfl ?_);have hbk2:=sa.get k hkb;refine zc 4 rfl (tq_ rfl (ji1 rfl (zaY (by omega))) (tq_ rfl (jli rfl) (tq_ rfl (jc6 (a[k]'hkb) rfl) (tq_ rfl (zbj rfl rfl rfl (r:=((c+b[k]'hk+a[k]'hkb:Nat):Int)) (zcC (by omega))) (zl 8 rfl (tq_ rfl (jc3 ((c+b[k]+a[k])%4294967296) rfl) ?_))))));refine tq_ rfl (zam rfl rfl rfl rfl (by decide) (by simp[hol]) (by decide) zbU zap (by omega) (by omega) (off:=k) (by omega)) (te_ rfl (zaM (ls:=((out.set k ((c+b[k]+a[k])%4294967296)).map za5)) rfl rfl rfl rfl zap rfl (by decide) (by simp;omega) (zaA (by omega))) (zl 4 rfl ?_));refine tq_ rfl (zbi rfl rfl rfl (by decide) (r:=(((c+b[k]+a[k])/4294967296:Nat):Int)) (zaQ _ 32 rfl)) (zl 5 rfl (tq_ rfl (jad (k+1) rfl) (zl 2 rfl ?_)));exact nx_ ⟨k+1,_,(c+b[k]+a[k])/4294967296,rfl,rfl,rfl,by omega,by simp[hol],hos.set _ _ (by omega),by omega,zet hk (by omega) heq (by rw[zbJ hkb])⟩ rfl
   .refine tq_ rfl (ltF rfl) (zl 10 rfl (tq_ rfl (jc3 ((c+b[k])%4294967296) rfl) (tq_ rfl (zam rfl rfl rfl rfl (by decide) (by simp[hol]) (by decide) zbU zap (by omega) (by omega) (off:=k) (by omega)) (te_ rfl (zaM (ls:=((out.set k ((c+b[k])%4294967296)).map za5)) rfl rfl rfl rfl zap rfl (by decide) (by simp;omega) (zaA (by omega))) (zl 4 rfl ?_)))));refine tq_ rfl (zbi rfl rfl rfl (by decide) (r:=(((c+b[k])/4294967296:Nat):Int)) (zaQ _ 32 rfl)) (zl 5 rfl (tq_ rfl (jad (k+1) rfl) (zl 2 rfl ?_)));exact nx_ ⟨k+1,_,(c+b[k])/4294967296,rfl,rfl,rfl,by omega,by simp[hol],hos.set _ _ (by omega),by omega,zet hk (by omega) heq (by rw[zcL (by omega),Nat.add_zero])⟩ rfl
  .refine tq_ rfl (ltF rfl) (zl 13 rfl (tq_ rfl (jln rfl) (zl 1 rfl (tq_ rfl (jc3 c rfl) (tq_ rfl (zam rfl rfl rfl rfl (by decide) (by simp[hol]) (by decide) zbU zap (by omega) (by omega) (off:=b.length) (by omega)) (te_ rfl (zaM (ls:=((out.set b.length c).map za5)) rfl rfl rfl rfl zap rfl (by decide) (by simp;omega) (zaA (by omega))) (zl 5 rfl ?_)))))));refine zaC 60 (out.set b.length c) rfl rfl rfl rfl (by simp[hol]) (tc_ zeU rfl (zaw (out.set b.length c) (hos.set _ _ (by omega))) (zl 3 rfl ?_));have hke:k=b.length:=by omega
   subst hke;have hfin:=za2 out b.length c (by omega);rw[zak _ _ (by simp[hol])] at hfin;rw[zak b _ (zxe _),zak a _ (by omega)] at heq;exact r1_ hq_ rfl (by rw[show val (out.set b.length c)=val la+val lb from by rw[hfin,<-va,<-vb,zxF];omega])
 .refine tq_ rfl (ltF rfl) (zl 8 rfl (tq_ rfl (jln rfl) (tq_ rfl (jad (a.length+1) rfl) ?_)));obtain⟨ti6,hi6,hz6,hs6,hb6⟩:=zcb;refine te_ rfl (zb9 (i:=0) (n:=a.length+1) (ls:=((List.replicate (a.length+1) 0).map za5)) rfl rfl rfl zbU hi6 hz6 hs6 (by decide) rfl (by decide) rfl (by rw[hb6];omega) (by simp only[maxLen];omega) (zcF _) rfl) (zl 12 rfl (tq_ rfl (jln rfl) (zl 4 rfl ?_)));refine zbO (fun m Γ H=>∃(k:Nat) (out:List Nat) (c:Nat),a.length-k=m/\Γ=[(0,some (D.v (V.one (zaf a)))),(1,some (D.v (V.one (zaf b)))),(5,some (D.own 0 (a.length+1))),(6,some (D.val (.int .u64 (c:Int)))),(24,some (D.v (V.one (zaf a)))),(25,some (D.int ((a.length:Nat):Int))),(26,some (D.int (k:Int)))]/\H=[some ⟨106,out.map za5,some 1,none⟩]/\k<=a.length/\out.length=a.length+1/\Small out/\c<=1/\val (out.take k)+c*4294967296^k=val (a.take k)+val (b.take k)) ⟨0,List.replicate (a.length+1) 0,0,rfl,rfl,rfl,zxg _,by simp,Small.replicate _,by omega,rfl⟩ rfl ?_;rintro m Γ H ⟨k,out,c,rfl,rfl,rfl,hkle,hol,hos,hc,heq⟩;refine zc 2 rfl ?_;by_cases hk:k<a.length
  .refine tq_ rfl (ltT rfl) (zl 9 rfl ?_);have hak:=sa.get k hk;have hbk:=sb.getD k;refine zc 2 rfl (tq_ rfl (ji1 rfl (zaY (by omega))) (tq_ rfl (jli rfl) (zl 8 rfl (tq_ rfl (jc6 (a[k]'hk) rfl) (tq_ rfl (zbj rfl rfl rfl (r:=((c+a[k]'hk:Nat):Int)) (zcC (by omega))) (zl 8 rfl (tq_ rfl (jln rfl) ?_)))))));by_cases hkb:k<b.length
   .refine tq_ rfl (ltT rfl) (zl 3 rfl ?_);have hbk2:=sb.get k hkb;refine zc 4 rfl (tq_ rfl (ji1 rfl (zaY (by omega))) (tq_ rfl (jli rfl) (tq_ rfl (jc6 (b[k]'hkb) rfl) (tq_ rfl (zbj rfl rfl rfl (r:=((c+a[k]'hk+b[k]'hkb:Nat):Int)) (zcC (by omega))) (zl 8 rfl (tq_ rfl (jc3 ((c+a[k]+b[k])%4294967296) rfl) ?_))))));refine tq_ rfl (zam rfl rfl rfl rfl (by decide) (by simp[hol]) (by decide) zbU zap (by omega) (by omega) (off:=k) (by omega)) (te_ rfl (zaM (ls:=((out.set k ((c+a[k]+b[k])%4294967296)).map za5)) rfl rfl rfl rfl zap rfl (by decide) (by simp;omega) (zaA (by omega))) (zl 4 rfl ?_));refine tq_ rfl (zbi rfl rfl rfl (by decide) (r:=(((c+a[k]+b[k])/4294967296:Nat):Int)) (zaQ _ 32 rfl)) (zl 5 rfl (tq_ rfl (jad (k+1) rfl) (zl 2 rfl ?_)));exact nx_ ⟨k+1,_,(c+a[k]+b[k])/4294967296,rfl,rfl,rfl,by omega,by simp[hol],hos.set _ _ (by omega),by omega,zet hk (by omega) heq (by rw[zbJ hkb])⟩ rfl
   .refine tq_ rfl (ltF rfl) (zl 10 rfl (tq_ rfl (jc3 ((c+a[k])%4294967296) rfl) (tq_ rfl (zam rfl rfl rfl rfl (by decide) (by simp[hol]) (by decide) zbU zap (by omega) (by omega) (off:=k) (by omega)) (te_ rfl (zaM (ls:=((out.set k ((c+a[k])%4294967296)).map za5)) rfl rfl rfl rfl zap rfl (by decide) (by simp;omega) (zaA (by omega))) (zl 4 rfl ?_)))));refine tq_ rfl (zbi rfl rfl rfl (by decide) (r:=(((c+a[k])/4294967296:Nat):Int)) (zaQ _ 32 rfl)) (zl 5 rfl (tq_ rfl (jad (k+1) rfl) (zl 2 rfl ?_)));exact nx_ ⟨k+1,_,(c+a[k])/4294967296,rfl,rfl,rfl,by omega,by simp[hol],hos.set _ _ (by omega),by omega,zet hk (by omega) heq (by rw[zcL (by omega),Nat.add_zero])⟩ rfl
  .refine tq_ rfl (ltF rfl) (zl 13 rfl (tq_ rfl (jln rfl) (zl 1 rfl (tq_ rfl (jc3 c rfl) (tq_ rfl (zam rfl rfl rfl rfl (by decide) (by simp[hol]) (by decide) zbU zap (by omega) (by omega) (off:=a.length) (by omega)) (te_ rfl (zaM (ls:=((out.set a.length c).map za5)) rfl rfl rfl rfl zap rfl (by decide) (by simp;omega) (zaA (by omega))) (zl 5 rfl ?_)))))));refine zaC 60 (out.set a.length c) rfl rfl rfl rfl (by simp[hol]) (tc_ zeU rfl (zaw (out.set a.length c) (hos.set _ _ (by omega))) (zl 3 rfl ?_));have hke:k=a.length:=by omega
   subst hke;have hfin:=za2 out a.length c (by omega);rw[zak _ _ (by simp[hol])] at hfin;rw[zak a _ (zxe _),zak b _ (by omega)] at heq;exact r1_ hq_ rfl (by rw[show val (out.set a.length c)=val la+val lb from by rw[hfin,<-va,<-vb,zxF];omega])
theorem zo1(la lb:List Nat)(hsa:Small la)(hsb:Small lb)(hla0:la.length<=10000000000000)(hge:val lb<=val la):Ctr Tryz.prog 111 [V.one (zaf la),V.one (zaf lb)] (R.tup [V.one (zaf (zab (val la-val lb))),V.one (Leaf.val (.int .i64 0))]):=by
 refine bd_ Tryz.func111 Tryz.ntmps111 rfl (fun w0 A0=>?_);refine zc 9 rfl (tc_ zeU rfl (zaw la hsa) (zl 1 rfl (tc_ zeU rfl (zaw lb hsb) (zl 6 rfl ?_))));have hla:=zai hsa;have hlb:=zai hsb;have va:=zac (val la);have vb:=zac (val lb);have sa:=zaa (val la);have sb:=zaa (val lb);have hlen:(zab (val lb)).length<=(zab (val la)).length:=zax hge;have hcm:¬zeA (val (zab (val la))) (val (zab (val lb)))<0:=by rw[va,vb];unfold zeA;rw[if_neg (by omega)];split <;> decide
 generalize zab (val la)=a at *;generalize zab (val lb)=b at *;refine zc 3 rfl (tc_ zpH rfl (zhF _ _ sa sb) (tq_ rfl (ltF rfl hcm) (zl 8 rfl (tq_ rfl (jln rfl) ?_))));obtain⟨ti1,hi1,hz1,hs1,hb1⟩:=zcb;refine te_ rfl (zb9 (i:=0) (n:=a.length) (ls:=((List.replicate (a.length) 0).map za5)) rfl rfl rfl zbU hi1 hz1 hs1 (by decide) rfl (by decide) rfl (by rw[hb1];omega) (by simp only[maxLen];omega) (zcF _) rfl) (zl 12 rfl (tq_ rfl (jln rfl) (zl 4 rfl ?_)));refine zbO (fun m Γ H=>∃(k:Nat) (out:List Nat) (c:Nat),a.length-k=m/\Γ=[(0,some (D.v (V.one (zaf a)))),(1,some (D.v (V.one (zaf b)))),(6,some (D.own 0 a.length)),(7,some (D.val (.int .u64 (c:Int)))),(22,some (D.v (V.one (zaf a)))),(23,some (D.int ((a.length:Nat):Int))),(24,some (D.int (k:Int)))]/\H=[some ⟨106,out.map za5,some 1,none⟩]/\k<=a.length/\out.length=a.length/\Small out/\c<=1/\val (out.take k)+val (b.take k)=val (a.take k)+c*4294967296^k) ⟨0,List.replicate a.length 0,0,rfl,rfl,rfl,zxg _,by simp,Small.replicate _,by omega,rfl⟩ rfl ?_;rintro m Γ H ⟨k,out,c,rfl,rfl,rfl,hkle,hol,hos,hc,heq⟩;refine zc 2 rfl ?_;by_cases hk:k<a.length
 .refine tq_ rfl (ltT rfl) (zl 9 rfl ?_);have hak:=sa.get k hk;have hbk:=sb.getD k;refine zc 2 rfl (tq_ rfl (ji1 rfl (zaY (by omega))) (tq_ rfl (jli rfl) (zl 7 rfl (tq_ rfl (jc6 (a[k]'hk) rfl) (zl 1 rfl (tq_ rfl (zaI rfl rfl rfl (r:=(((18446744073709551616+a[k]'hk-c)%18446744073709551616:Nat):Int)) (zcC (by omega))) (zl 8 rfl (tq_ rfl (jln rfl) ?_))))))));by_cases hkb:k<b.length
  .refine tq_ rfl (ltT rfl) (zl 3 rfl ?_);have hbk2:=sb.get k hkb;refine zc 4 rfl (tq_ rfl (ji1 rfl (zaY (by omega))) (tq_ rfl (jli rfl) (tq_ rfl (jc6 (b[k]'hkb) rfl) (tq_ rfl (zaI rfl rfl rfl (r:=(((18446744073709551616+a[k]'hk-c-b[k]'hkb)%18446744073709551616:Nat):Int)) (zcC (by omega))) (zl 8 rfl (tq_ rfl (jc3 (((18446744073709551616+a[k]-c-b[k])%18446744073709551616)%4294967296) rfl) ?_))))));refine tq_ rfl (zam rfl rfl rfl rfl (by decide) (by simp[hol]) (by decide) zbU zap (by omega) (by omega) (off:=k) (by omega)) (te_ rfl (zaM (ls:=((out.set k (((18446744073709551616+a[k]-c-b[k])%18446744073709551616)%4294967296)).map za5)) rfl rfl rfl rfl zap rfl (by decide) (by simp;omega) (zaA (by omega))) (zl 4 rfl ?_));refine tq_ rfl (zbi rfl rfl rfl (by decide) (r:=((((18446744073709551616+a[k]-c-b[k])%18446744073709551616)/9223372036854775808:Nat):Int)) (zaQ _ 63 rfl)) (zl 5 rfl (tq_ rfl (jad (k+1) rfl) (zl 2 rfl ?_)));exact nx_ ⟨k+1,_,((18446744073709551616+a[k]-c-b[k])%18446744073709551616)/9223372036854775808,rfl,rfl,rfl,by omega,by simp[hol],hos.set _ _ (by omega),by omega,zkg hk (by omega) sa sb hc heq (by rw[zbJ hkb])⟩ rfl
  .refine tq_ rfl (ltF rfl) (zl 10 rfl (tq_ rfl (jc3 (((18446744073709551616+a[k]-c)%18446744073709551616)%4294967296) rfl) (tq_ rfl (zam rfl rfl rfl rfl (by decide) (by simp[hol]) (by decide) zbU zap (by omega) (by omega) (off:=k) (by omega)) ?_)));refine te_ rfl (zaM (ls:=((out.set k (((18446744073709551616+a[k]-c)%18446744073709551616)%4294967296)).map za5)) rfl rfl rfl rfl zap rfl (by decide) (by simp;omega) (zaA (by omega))) (zl 4 rfl (tq_ rfl (zbi rfl rfl rfl (by decide) (r:=((((18446744073709551616+a[k]-c)%18446744073709551616)/9223372036854775808:Nat):Int)) (zaQ _ 63 rfl)) ?_));refine zl 5 rfl (tq_ rfl (jad (k+1) rfl) (zl 2 rfl ?_));exact nx_ ⟨k+1,_,((18446744073709551616+a[k]-c)%18446744073709551616)/9223372036854775808,rfl,rfl,rfl,by omega,by simp[hol],hos.set _ _ (by omega),by omega,zkg hk (by omega) sa sb hc heq (by rw[zcL (by omega),Nat.sub_zero])⟩ rfl
 .refine tq_ rfl (ltF rfl) (zl 12 rfl (zaC 52 (out) rfl rfl rfl rfl (by omega) (tc_ zeU rfl (zaw out hos) (zl 4 rfl ?_))));have hke:k=a.length:=by omega
  subst hke;rw[zak out _ (by omega),zak a _ (zxe _),zak b _ (by omega)] at heq;have hlt:=za6 hos;rw[hol] at hlt;have hc0:c=0:=by
   rcases Nat.eq_zero_or_pos c with h|h
   .exact h
   .exfalso;have:c=1:=by omega
    subst this;omega
  exact r2_ hq_ rfl (by rw[show val out=val la-val lb from by rw[<-va,<-vb];subst hc0;omega])
theorem zpv(la lb:List Nat)(hsa:Small la)(hsb:Small lb)(hla0:la.length<=10000000000000)(hlb0:lb.length<=10000000000000):Ctr Tryz.prog 90 [V.one (zaf la),V.one (zaf lb)] (R.one (V.one (zaf (zab (val la*val lb))))):=by
 refine bd_ Tryz.func90 Tryz.ntmps90 rfl (fun w0 A0=>?_);refine zc 8 rfl (tc_ zeU rfl (zaw la hsa) (zl 1 rfl (tc_ zeU rfl (zaw lb hsb) (zl 6 rfl ?_))));have hla:=zai hsa;have hlb:=zai hsb;have va:=zac (val la);have vb:=zac (val lb);have sa:=zaa (val la);have sb:=zaa (val lb);have ea:(zab (val la)).length=0->val la=0:=fun h=>zaP.1 (zxm h);have eb:(zab (val lb)).length=0->val lb=0:=fun h=>zaP.1 (zxm h);generalize zab (val la)=a at *;generalize zab (val lb)=b at *;refine zc 2 rfl (tq_ rfl (jln rfl) ?_);by_cases ha0:a.length=0
 .refine tq_ rfl (eqT rfl) (zl 13 rfl ?_);exact r1_ hq_ rfl (by rw[ea ha0,Nat.zero_mul,zaj] <;> rfl)
 .refine tq_ rfl (eqF rfl) (zl 2 rfl (tq_ rfl (jln rfl) ?_));by_cases hb0:b.length=0
  .refine tq_ rfl (eqT rfl) (zl 9 rfl ?_);exact r1_ hq_ rfl (by rw[eb hb0,Nat.mul_zero,zaj] <;> rfl)
  .refine tq_ rfl (eqF rfl) (zl 9 rfl (tq_ rfl (jln rfl) (zl 1 rfl (tq_ rfl (jln rfl) (tq_ rfl (jad (a.length+b.length) rfl) ?_)))));obtain⟨ti3,hi3,hz3,hs3,hb3⟩:=zcb;refine te_ rfl (zb9 (i:=0) (n:=a.length+b.length) (ls:=((List.replicate (a.length+b.length) 0).map za5)) rfl rfl rfl zbU hi3 hz3 hs3 (by decide) rfl (by decide) rfl (by rw[hb3];omega) (by simp only[maxLen];omega) (zcF _) rfl) (zl 7 rfl (tq_ rfl (jln rfl) (zl 4 rfl ?_)));refine zbO (fun m Γ H=>∃(i:Nat) (out:List Nat),a.length-i=m/\Γ=[(0,some (D.v (V.one (zaf a)))),(1,some (D.v (V.one (zaf b)))),(5,some (D.own 0 (a.length+b.length))),(29,some (D.v (V.one (zaf a)))),(30,some (D.int ((a.length:Nat):Int))),(31,some (D.int (i:Int)))]/\H=[some ⟨106,out.map za5,some 1,none⟩]/\i<=a.length/\out.length=a.length+b.length/\Small out/\val out=val (a.take i)*val b/\(∀j (hj:j<out.length),i+b.length<=j->out[j]=0)) ⟨0,List.replicate (a.length+b.length) 0,rfl,rfl,rfl,zxg _,by simp,Small.replicate _,by simp[zaJ],by intro j hj _;simp⟩ rfl ?_;rintro m Γ H ⟨i,out,rfl,rfl,rfl,hile,hol,hos,heq,hzero⟩;refine zc 2 rfl ?_;by_cases hi:i<a.length
   .refine tq_ rfl (ltT rfl) (zl 9 rfl ?_);have hai:=sa.get i hi;refine zc 2 rfl (tq_ rfl (ji1 rfl (zaY (by omega))) (tq_ rfl (jli rfl) (zl 13 rfl (tq_ rfl (jln rfl) (zl 4 rfl ?_)))));refine zbO (fun m Γ H=>∃(k:Nat) (o:List Nat) (c:Nat),b.length-k=m/\Γ=[(0,some (D.v (V.one (zaf a)))),(1,some (D.v (V.one (zaf b)))),(5,some (D.own 0 (a.length+b.length))),(6,some (D.int (i:Int))),(7,some (D.val (.int .u32 ((a[i]'hi:Nat):Int)))),(8,some (D.val (.int .u64 (c:Int)))),(29,some (D.v (V.one (zaf a)))),(30,some (D.int ((a.length:Nat):Int))),(31,some (D.int (i:Int))),(36,some (D.v (V.one (zaf b)))),(37,some (D.int ((b.length:Nat):Int))),(38,some (D.int (k:Int)))]/\H=[some ⟨106,o.map za5,some 1,none⟩]/\k<=b.length/\o.length=a.length+b.length/\Small o/\c<4294967296/\val o+c*4294967296^(i+k)=val (a.take i)*val b+4294967296^i*(a[i]*val (b.take k))/\(∀j (hj:j<o.length),i+b.length<=j->o[j]=0)) ⟨0,out,0,rfl,rfl,rfl,zxg _,hol,hos,by omega,by simp[heq],hzero⟩ rfl ?_;rintro m Γ H ⟨k,o,c,rfl,rfl,rfl,hkle,hoo1,hoo,hc,hq,hz1⟩;refine zc 2 rfl ?_;by_cases hk:k<b.length
    .refine tq_ rfl (ltT rfl) (zl 9 rfl ?_);have hbk:=sb.get k hk;have hok:=hoo.get (i+k) (by omega);have hm:=ziw hc hai hbk hok;have hm2:=hm.1;refine zc 2 rfl (tq_ rfl (ji1 rfl (zaY (by omega))) (tq_ rfl (jli rfl) (zl 8 rfl (tq_ rfl (jc6 (a[i]'hi) rfl) (zl 1 rfl (tq_ rfl (jc6 (b[k]'hk) rfl) (tq_ rfl (zew rfl rfl rfl (r:=((a[i]'hi*b[k]'hk:Nat):Int)) (zcC (by rw[<-Int.natCast_mul];omega))) (zl 3 rfl (tq_ rfl (jad (i+k) rfl) ?_)))))))));refine tq_ rfl (zam rfl rfl rfl rfl (by decide) (by simp[hoo1]) (by decide) zbU zap (by omega) (by omega) (off:=i+k) (by omega)) (tq_ rfl (zbZ rfl rfl rfl (by decide) zap (zeT (by omega))) (tq_ rfl (jc6 (o[i+k]'(by omega)) rfl) (tq_ rfl (zbj rfl rfl rfl (r:=((a[i]'hi*b[k]'hk+o[i+k]'(by omega):Nat):Int)) (zcC (by omega))) ?_)));refine tq_ rfl (zbj rfl rfl rfl (r:=((c+(a[i]'hi*b[k]'hk+o[i+k]'(by omega)):Nat):Int)) (zcC (by omega))) (zl 8 rfl (tq_ rfl (jad (i+k) rfl) (zl 1 rfl (tq_ rfl (jc3 ((c+(a[i]'hi*b[k]'hk+o[i+k]'(by omega)))%4294967296) rfl) ?_))));refine tq_ rfl (zam rfl rfl rfl rfl (by decide) (by simp[hoo1]) (by decide) zbU zap (by omega) (by omega) (off:=i+k) (by omega)) (te_ rfl (zaM (ls:=((o.set (i+k) ((c+(a[i]'hi*b[k]'hk+o[i+k]'(by omega)))%4294967296)).map za5)) rfl rfl rfl rfl zap rfl (by decide) (by simp;omega) (zaA (by omega))) (zl 4 rfl ?_));refine tq_ rfl (zbi rfl rfl rfl (by decide) (r:=(((c+(a[i]'hi*b[k]'hk+o[i+k]'(by omega)))/4294967296:Nat):Int)) (zaQ _ 32 rfl)) (zl 5 rfl (tq_ rfl (jad (k+1) rfl) (zl 2 rfl ?_)));exact nx_ ⟨k+1,_,_,rfl,rfl,rfl,by omega,by simp[hoo1],hoo.set _ _ (by omega),hm.2.1,zpu hk (by omega) _ hq,by intro j hj hle;rw[List.getElem_set_ne (by omega)];exact hz1 j (by simpa using hj) hle⟩ rfl
    .refine tq_ rfl (ltF rfl) (zl 13 rfl (tq_ rfl (jln rfl) (tq_ rfl (jad (i+b.length) rfl) (zl 1 rfl (tq_ rfl (jc3 c rfl) (tq_ rfl (zam rfl rfl rfl rfl (by decide) (by simp[hoo1]) (by decide) zbU zap (by omega) (by omega) (off:=i+b.length) (by omega)) ?_))))));refine te_ rfl (zaM (ls:=((o.set (i+b.length) c).map za5)) rfl rfl rfl rfl zap rfl (by decide) (by simp;omega) (zaA (by omega))) (zl 4 rfl (tq_ rfl (jad (i+1) rfl) (zl 2 rfl ?_)));have hke:k=b.length:=by omega
     subst hke;have hzz:=hz1 (i+b.length) (by omega) (zxe _);have hvs:=zhf o (i+b.length) c (by omega);rw[hzz,Nat.mul_zero,Nat.add_zero] at hvs;rw[zak b _ (zxe _)] at hq;have hfin:val (o.set (i+b.length) c)=val (a.take (i+1))*val b:=by
      rw[hvs,zau a i hi,Nat.add_mul,zxF _ c,hq];grind
     have hz2:∀j (hj:j<(o.set (i+b.length) c).length),i+1+b.length<=j->(o.set (i+b.length) c)[j]=0:=by
      intro j hj hle;rw[List.getElem_set_ne (by omega)];exact hz1 j (by simpa using hj) (by omega)
     have hol:=hoo1;exact nx_ ⟨i+1,_,rfl,rfl,rfl,by omega,by simp[hol],hoo.set _ _ hc,hfin,hz2⟩ rfl
   .refine tq_ rfl (ltF rfl) (zl 12 rfl (zaC 77 (out) rfl rfl rfl rfl (by omega) (tc_ zeU rfl (zaw out hos) (zl 3 rfl ?_))));have hie:i=a.length:=by omega
    subst hie;exact r1_ hq_ rfl (by rw[show val out=val la*val lb from by rw[heq,zak a _ (zxe _),va,vb]])
theorem zg0(x:Nat)(hx:x<4294967296):Ctr Tryz.prog 120 [V.one (Leaf.val (.int .u32 x))] (R.one (V.one (Leaf.val (.int .i64 ((bl x:Nat):Int))))):=by
 refine bd_ Tryz.func120 Tryz.ntmps120 rfl (fun w0 A0=>?_);refine zc 9 rfl ?_;by_cases h1:65536<=x
 .refine tq_ rfl (geT rfl) (zl 6 rfl (tq_ rfl (zbi rfl rfl rfl (by decide) (r:=((x/65536:Nat):Int)) (zaQ x 16 rfl)) (zl 11 rfl ?_)));by_cases h2:256<=x/65536
  .refine tq_ rfl (geT rfl) (zl 6 rfl (tq_ rfl (zbi rfl rfl rfl (by decide) (r:=((x/65536/256:Nat):Int)) (zaQ _ 8 rfl)) (zl 5 rfl (tq_ rfl (jad 24 rfl) (zl 7 rfl (tq_ rfl (jcv (x/65536/256) rfl (wu8 (by omega))) (tq_ rfl (zcN rfl rfl un9 (zfu (by kernel_rfl) (x:=x/65536/256) (by omega))) ?_)))))));refine tq_ rfl (jcv (bl (x/65536/256)) rfl (w64 (zft (by omega)) (by omega) (by have:=zas (n:=x/65536/256) (k:=8) (by omega);omega))) ?_;refine tq_ rfl (zbj rfl rfl rfl (r:=((bl x:Nat):Int)) (w64 (by have h1:=zg4 (n:=x) (k:=16) h1;have h2:=zg4 (n:=x/2^16) (k:=8) h2;simp only[Nat.reducePow] at h1 h2;omega) (by omega) (by have:=zas (n:=x) (k:=32) hx;omega))) (zl 3 rfl ?_);exact r1_ hq_ rfl rfl
  .refine tq_ rfl (geF rfl) (zl 9 rfl (tq_ rfl (jcv (x/65536) rfl (wu8 (by omega))) (tq_ rfl (zcN rfl rfl un9 (zfu (by kernel_rfl) (x:=x/65536) (by omega))) (tq_ rfl (jcv (bl (x/65536)) rfl (w64 (zft (by omega)) (by omega) (by have:=zas (n:=x/65536) (k:=8) (by omega);omega))) ?_))));refine tq_ rfl (zbj rfl rfl rfl (r:=((bl x:Nat):Int)) (w64 (by have h1:=zg4 (n:=x) (k:=16) h1;simp only[Nat.reducePow] at h1;omega) (by omega) (by have:=zas (n:=x) (k:=32) hx;omega))) (zl 3 rfl ?_);exact r1_ hq_ rfl rfl
 .refine tq_ rfl (geF rfl) (zl 9 rfl ?_);by_cases h2:256<=x
  .refine tq_ rfl (geT rfl) (zl 6 rfl (tq_ rfl (zbi rfl rfl rfl (by decide) (r:=((x/256:Nat):Int)) (zaQ x 8 rfl)) (zl 5 rfl (tq_ rfl (jad 8 rfl) (zl 7 rfl (tq_ rfl (jcv (x/256) rfl (wu8 (by omega))) (tq_ rfl (zcN rfl rfl un9 (zfu (by kernel_rfl) (x:=x/256) (by omega))) ?_)))))));refine tq_ rfl (jcv (bl (x/256)) rfl (w64 (zft (by omega)) (by omega) (by have:=zas (n:=x/256) (k:=8) (by omega);omega))) (tq_ rfl (zbj rfl rfl rfl (r:=((bl x:Nat):Int)) (w64 (by have h2:=zg4 (n:=x) (k:=8) h2;simp only[Nat.reducePow] at h2;omega) (by omega) (by have:=zas (n:=x) (k:=32) hx;omega))) (zl 3 rfl ?_));exact r1_ hq_ rfl rfl
  .refine tq_ rfl (geF rfl) (zl 9 rfl (tq_ rfl (jcv x rfl (wu8 (by omega))) (tq_ rfl (zcN rfl rfl un9 (zfu (by kernel_rfl) (x:=x) (by omega))) (tq_ rfl (jcv (bl (x)) rfl (w64 (zft (by omega)) (by omega) (by have:=zas (n:=x) (k:=8) (by omega);omega))) ?_))));refine tq_ rfl (zbj rfl rfl rfl (r:=((bl x:Nat):Int)) (w64 (by skip;omega) (by omega) (by have:=zas (n:=x) (k:=32) hx;omega))) (zl 3 rfl ?_);exact r1_ hq_ rfl rfl
theorem znv(x:Nat)(hx:x<4294967296):Ctr Tryz.prog 115 [V.one (Leaf.val (.int .u32 x))] (R.one (V.one (Leaf.val (.int .i64 ((32-bl x:Nat):Int))))):=by
 refine bd_ Tryz.func115 Tryz.ntmps115 rfl (fun w0 A0=>?_);refine zc 8 rfl (tc_ zv8 rfl (zg0 x hx) (tq_ rfl (zaI rfl rfl rfl (r:=((32-bl x:Nat):Int)) (w64 (by have:=zas (n:=x) (k:=32) hx;omega) (by omega) (by omega))) (zl 3 rfl ?_)));exact r1_ hq_ rfl rfl
theorem zkF(a:List Nat)(k:Nat)(hsa:Small a)(hk:k<32)(hla:a.length<=10000000000000):CtrF Tryz.prog 116 106 (a.length+1) ((ze8 (a.length+1) (val a*2^k)).map za5) [V.one (zaf a),V.one (Leaf.val (.int .i64 (k:Int)))]:=by
 refine CtrF.of_body Tryz.func116 rfl Tryz.ntmps116 (zxh rfl) (fun w0 A0=>?_);refine qc_ (zc 8 rfl (tq_ rfl (jln rfl) (tq_ rfl (jad (a.length+1) rfl) ?_)));obtain⟨ti1,hi1,hz1,hs1,hb1⟩:=zcb;refine te_ rfl (zb9 (i:=0) (n:=a.length+1) (ls:=((List.replicate (a.length+1) 0).map za5)) rfl rfl rfl zbU hi1 hz1 hs1 (by decide) rfl (by decide) rfl (by rw[hb1];omega) (by simp only[maxLen];omega) (zcF _) rfl) (zl 7 rfl (tq_ rfl (jln rfl) (zl 4 rfl ?_)));refine zbO (fun m Γ H=>∃(i:Nat) (out:List Nat),a.length-i=m/\Γ=[(0,some (D.v (V.one (zaf a)))),(1,some (D.int (k:Int))),(5,some (D.own 0 (a.length+1))),(13,some (D.v (V.one (zaf a)))),(14,some (D.int ((a.length:Nat):Int))),(15,some (D.int (i:Int)))]/\H=[some ⟨106,out.map za5,some 1,none⟩]/\i<=a.length/\out.length=a.length+1/\Small out/\val (out.take (i+1))=val (a.take i)*2^k/\out.getD i 0<2^k) ⟨0,List.replicate (a.length+1) 0,rfl,rfl,rfl,zxg _,by simp,Small.replicate _,by rw[List.take_replicate,zaJ];simp,by simp[List.getD];exact Nat.pow_pos (by omega)⟩ rfl ?_;rintro m Γ H ⟨i,out,rfl,rfl,rfl,hile,hol,hos,heq,hlow⟩;refine zc 2 rfl ?_;by_cases hi:i<a.length
 .refine tq_ rfl (ltT rfl) (zl 9 rfl ?_);have hai:=hsa.get i hi;have hoi:=hos.get i (by omega);rw[zbJ (by omega)] at hlow;have hb:=zlE hk hai;have ho:=zsv (d:=a[i]) hk hlow;refine zc 2 rfl (tq_ rfl (ji1 rfl (zaY (by omega))) (tq_ rfl (jli rfl) (zl 7 rfl (tq_ rfl (jc6 (a[i]'hi) rfl) (zl 1 rfl (tq_ rfl (zdF rfl rfl rfl (by omega) (r:=((a[i]'hi*2^k:Nat):Int)) (zic _ k (zdx (by omega)) hb.1)) (zl 7 rfl ?_)))))));refine tq_ rfl (zam rfl rfl rfl rfl (by decide) (by simp[hol]) (by decide) zbU zap (by omega) (by omega) (off:=i) (by omega)) (tq_ rfl (zbZ rfl rfl rfl (by decide) zap (zeT (by omega))) (zl 1 rfl (tq_ rfl (jc3 (a[i]'hi*2^k%4294967296) rfl) ?_)));refine tq_ rfl (zgv rfl rfl rfl (r:=((out[i]'(by omega)+a[i]'hi*2^k%4294967296:Nat):Int)) (or32' k ho.1 hlow ho.2)) (tq_ rfl (zam rfl rfl rfl rfl (by decide) (by simp[hol]) (by decide) zbU zap (by omega) (by omega) (off:=i) (by omega)) ?_);refine te_ rfl (zaM (ls:=((out.set i (out[i]'(by omega)+a[i]'hi*2^k%4294967296)).map za5)) rfl rfl rfl rfl zap rfl (by decide) (by simp;omega) (zaA (by omega))) (zl 5 rfl (tq_ rfl (jad (i+1) rfl) (zl 1 rfl (tq_ rfl (zbi rfl rfl rfl (by decide) (r:=(((a[i]'hi*2^k)/4294967296:Nat):Int)) (zaQ _ 32 rfl)) ?_))));refine tq_ rfl (jc3 ((a[i]'hi*2^k)/4294967296) rfl) (tq_ rfl (zam rfl rfl rfl rfl (by decide) (by simp[hol]) (by decide) zbU zap (by omega) (by omega) (off:=i+1) (by omega)) ?_);refine te_ rfl (zaM (ls:=(((out.set i (out[i]'(by omega)+a[i]'hi*2^k%4294967296)).set (i+1) ((a[i]'hi*2^k)/4294967296)).map za5)) rfl rfl rfl rfl zap rfl (by decide) (by simp;omega) (zaA (by simp;omega))) (zl 4 rfl (tq_ rfl (jad (i+1) rfl) (zl 2 rfl ?_)));exact nx_ ⟨i+1,_,rfl,rfl,rfl,by omega,by simp[hol],(hos.set _ _ (by omega)).set _ _ (by omega),znz hi (by omega) heq _ rfl,by rw[zbJ (by simp;omega),List.getElem_set_self];exact hb.2.1⟩ rfl
 .refine tq_ rfl (ltF rfl) (zl 15 rfl ?_);have hie:i=a.length:=by omega
  subst hie;rw[zak out _ (by omega),zak a _ (zxe _)] at heq;exact zty (fun _ _ h=>h) rfl rfl rfl (by simp;omega) (by rw[<-zhq hos hol heq]) (fun l hl=>by simp only[List.mem_map] at hl;obtain⟨x,_,rfl⟩:=hl;exact⟨_,rfl⟩)
theorem ziC(a:List Nat)(k:Nat)(hsa:Small a)(hk:k<32)(hla:a.length<=10000000000000):Ctr Tryz.prog 116 [V.one (zaf a),V.one (Leaf.val (.int .i64 (k:Int)))] (R.one (V.one (zaf (ze8 (a.length+1) (val a*2^k))))):=by
 have h:=Ctr.of_fresh (zkF a k hsa hk hla) (by simp[zbN]);have e:(ze8 (a.length+1) (val a*2^k)).length=a.length+1:=zbN _ _;unfold zaf;rw[e];exact h
theorem zkn(la:List Nat)(k:Nat)(hsa:Small la)(hk:k<=1048576)(hla:la.length<=10000000000000):Ctr Tryz.prog 119 [V.one (zaf la),V.one (Leaf.val (.int .i64 (k:Int)))] (R.tup [V.one (zaf (zab (val la/2^k))),V.one (Leaf.val (.int .i64 0))]):=by
 refine bd_ Tryz.func119 Tryz.ntmps119 rfl (fun w0 A0=>?_);refine zc 10 rfl (tq_ rfl (ltF rfl) (zl 2 rfl (tq_ rfl (gtF rfl) (zl 9 rfl (tc_ zeU rfl (zaw la hsa) (zl 5 rfl ?_))))));have hl0:=zai hsa;have vl:=zac (val la);have sl:=zaa (val la);have hnil:(zab (val la)).length<=k/32->val la/2^k=0:=by
  intro h;have h1:=zae.1 h;rw[<-zdW,Nat.div_eq_of_lt h1,Nat.zero_div]
 generalize zab (val la)=l at *;refine zc 2 rfl (tq_ rfl (zc6 rfl rfl rfl (by decide) (r:=((k/32:Nat):Int)) (w64 (zeE k 32) (by omega) (by omega))) (zl 1 rfl (tq_ rfl (jln rfl) ?_)));by_cases hz:l.length<=k/32
 .refine tq_ rfl (geT rfl) (zl 9 rfl ?_);exact r2_ hq_ rfl (by rw[hnil hz,zaj] <;> rfl)
 .refine tq_ rfl (geF rfl) (zl 9 rfl (tq_ rfl (zc6 rfl rfl rfl (by decide) (r:=((k/32:Nat):Int)) (w64 (zeE k 32) (by omega) (by omega))) (tq_ rfl (zgs rfl rfl rfl zbU zap (by omega)) (zl 4 rfl ?_))));have sa:Small (l.drop (k/32)):=sl.drop _;have va:val (l.drop (k/32))/2^(k%32)=val la/2^k:=by rw[<-zbR l sl,vl,zdW]
  have hla2:(l.drop (k/32)).length<=l.length:=by rw[zxA];omega
  generalize l.drop (k/32)=a at *;refine zc 2 rfl (tq_ rfl (jln rfl) ?_);obtain⟨ti2,hi2,hz2,hs2,hb2⟩:=zcb;refine te_ rfl (zb9 (i:=0) (n:=a.length) (ls:=((List.replicate (a.length) 0).map za5)) rfl rfl rfl zbU hi2 hz2 hs2 (by decide) rfl (by decide) rfl (by rw[hb2];omega) (by simp only[maxLen];omega) (zcF _) rfl) (zl 7 rfl (tq_ rfl (jln rfl) (zl 4 rfl ?_)));refine zbO (fun m Γ H=>∃(i:Nat) (out:List Nat),a.length-i=m/\Γ=[(0,some (D.v (V.one (zaf a)))),(1,some (D.int (k:Int))),(6,some (D.own 0 a.length)),(30,some (D.v (V.one (zaf a)))),(31,some (D.int ((a.length:Nat):Int))),(32,some (D.int (i:Int)))]/\H=[some ⟨106,out.map za5,some 1,none⟩]/\i<=a.length/\out.length=a.length/\Small out/\val (out.take i)=val a/2^(k%32)%4294967296^i) ⟨0,List.replicate a.length 0,rfl,rfl,rfl,zxg _,by simp,Small.replicate _,by simp[Nat.mod_one]⟩ rfl ?_;rintro m Γ H ⟨i,out,rfl,rfl,rfl,hile,hol,hos,heq⟩;refine zc 2 rfl ?_;by_cases hi:i<a.length
  .refine tq_ rfl (ltT rfl) (zl 9 rfl ?_);have hai:=sa.get i hi;refine zc 2 rfl (tq_ rfl (ji1 rfl (zaY (by omega))) (tq_ rfl (jli rfl) (zl 7 rfl (tq_ rfl (jc6 (a[i]'hi) rfl) (zl 7 rfl (tq_ rfl (jad (i+1) rfl) (zl 1 rfl (tq_ rfl (jln rfl) ?_))))))));by_cases hi1:i+1<a.length
   .refine tq_ rfl (ltT rfl) (zl 3 rfl ?_);have hai1:=sa.get (i+1) hi1;refine zc 4 rfl (tq_ rfl (jad (i+1) rfl) (tq_ rfl (ji1 rfl (zaY (by omega))) (tq_ rfl (jli rfl) (tq_ rfl (jc6 (a[i+1]'hi1) rfl) (tq_ rfl (zdF rfl rfl rfl (by decide) (r:=((a[i+1]'hi1*2^32:Nat):Int)) (zic _ 32 rfl (by omega))) ?_)))));refine tq_ rfl (zgv rfl rfl rfl (r:=((a[i]'hi+a[i+1]'hi1*2^32:Nat):Int)) (zpp 32 (Nat.mul_mod_left _ _) (by omega) (by omega))) (zl 8 rfl (tq_ rfl (zcA rfl rfl rfl (by decide) (r:=((k%32:Nat):Int)) (zdU k 32)) ?_));refine tq_ rfl (zbi rfl rfl rfl (by omega) (r:=(((a[i]'hi+a[i+1]'hi1*2^32)/2^(k%32):Nat):Int)) (zaQ _ (k%32) (zdx (by omega)))) (tq_ rfl (jc3 ((a[i]'hi+a[i+1]'hi1*2^32)/2^(k%32)%4294967296) rfl) (tq_ rfl (zam rfl rfl rfl rfl (by decide) (by simp[hol]) (by decide) zbU zap (by omega) (by omega) (off:=i) (by omega)) ?_));refine te_ rfl (zaM (ls:=((out.set i ((a[i]'hi+a[i+1]'hi1*2^32)/2^(k%32)%4294967296)).map za5)) rfl rfl rfl rfl zap rfl (by decide) (by simp;omega) (zaA (by omega))) (zl 4 rfl (tq_ rfl (jad (i+1) rfl) (zl 2 rfl ?_)));exact nx_ ⟨i+1,_,rfl,rfl,rfl,by omega,by simp[hol],hos.set _ _ (by omega),zkm sa hi (by omega) (by omega) heq _ (by rw[zbJ hi1,zxF 4294967296])⟩ rfl
   .refine tq_ rfl (ltF rfl) (zl 10 rfl (tq_ rfl (zcA rfl rfl rfl (by decide) (r:=((k%32:Nat):Int)) (zdU k 32)) (tq_ rfl (zbi rfl rfl rfl (by omega) (r:=(((a[i]'hi)/2^(k%32):Nat):Int)) (zaQ _ (k%32) (zdx (by omega)))) (tq_ rfl (jc3 ((a[i]'hi)/2^(k%32)%4294967296) rfl) ?_))));refine tq_ rfl (zam rfl rfl rfl rfl (by decide) (by simp[hol]) (by decide) zbU zap (by omega) (by omega) (off:=i) (by omega)) (te_ rfl (zaM (ls:=((out.set i ((a[i]'hi)/2^(k%32)%4294967296)).map za5)) rfl rfl rfl rfl zap rfl (by decide) (by simp;omega) (zaA (by omega))) (zl 4 rfl (tq_ rfl (jad (i+1) rfl) (zl 2 rfl ?_))));exact nx_ ⟨i+1,_,rfl,rfl,rfl,by omega,by simp[hol],hos.set _ _ (by omega),zkm sa hi (by omega) (by omega) heq _ (by rw[zcL (by omega),Nat.mul_zero,Nat.add_zero])⟩ rfl
  .refine tq_ rfl (ltF rfl) (zl 10 rfl ?_);have hie:i=a.length:=by omega
   subst hie;rw[zak out _ (by omega),va] at heq;have hlt:val la/2^k<4294967296^a.length:=by rw[<-va];exact zxB (Nat.div_le_self _ _) (za6 sa)
   rw[Nat.mod_eq_of_lt hlt] at heq;refine zc 2 rfl (zaC 62 (out) rfl rfl rfl rfl (by omega) (tc_ zeU rfl (zaw out hos) (zl 4 rfl ?_)));exact r2_ hq_ rfl (by rw[heq])
theorem zn6(la:List Nat)(hsa:Small la)(hla:la.length<=10000000000000):Ctr Tryz.prog 96 [V.one (zaf la)] (R.one (V.one (Leaf.val (.int .i64 ((bl (val la):Nat):Int))))):=by
 refine bd_ Tryz.func96 Tryz.ntmps96 rfl (fun w0 A0=>?_);refine zc 8 rfl (tc_ zeU rfl (zaw la hsa) (zl 5 rfl ?_));have hl0:=zai hsa;have hb:=fun h=>zfA (zb8 (val la)) h;have hs:=zaa (val la);rw[zac] at hb;have hz0:(zab (val la)).length=0->val la=0:=fun h=>zaP.1 (zxm h);generalize zab (val la)=a at *;refine zc 2 rfl (tq_ rfl (jln rfl) ?_);by_cases hz:a.length=0
 .refine tq_ rfl (eqT rfl) (zl 8 rfl ?_);exact r1_ hq_ rfl (by rw[hz0 hz] <;> rfl)
 .refine tq_ rfl (eqF rfl) (zl 6 rfl ?_);have hb:=hb (by omega);have htop:=hs.get (a.length-1) (by omega);have hbt:=zas (k:=32) htop;refine zc 2 rfl (tq_ rfl (jln rfl) (tq_ rfl (jsb (a.length-1) rfl) (tq_ rfl (zew rfl rfl rfl (r:=((32*(a.length-1):Nat):Int)) (w64 (by omega) (by omega) (by omega))) (zl 2 rfl (tq_ rfl (jln rfl) (tq_ rfl (jsb (a.length-1) rfl) (tq_ rfl (ji1 rfl (zaH (a.length-1) (by omega) rfl)) (tq_ rfl (jli rfl) ?_))))))));refine tc_ zv8 rfl (zg0 (a[a.length-1]'(by omega)) htop) (tq_ rfl (jad (bl (val la)) rfl) (zl 3 rfl ?_));exact r1_ hq_ rfl rfl
theorem zlr(a:List Nat)(d:Nat)(hsa:Small a)(hd:d<4294967296)(hd0:0<d)(hla:a.length<=10000000000000):Ctr Tryz.prog 114 [V.one (zaf a),V.one (Leaf.val (.int .u32 d))] (R.tup [V.one (zaf (zab (val a/d))),V.one (zaf (zab (val a%d)))]):=by
 refine bd_ Tryz.func114 Tryz.ntmps114 rfl (fun w0 A0=>?_);refine zc 9 rfl (tq_ rfl (jln rfl) ?_);obtain⟨ti1,hi1,hz1,hs1,hb1⟩:=zcb;refine te_ rfl (zb9 (i:=0) (n:=a.length) (ls:=((List.replicate (a.length) 0).map za5)) rfl rfl rfl zbU hi1 hz1 hs1 (by decide) rfl (by decide) rfl (by rw[hb1];omega) (by simp only[maxLen];omega) (zcF _) rfl) (zl 12 rfl (tq_ rfl (jln rfl) (tq_ rfl (zaI rfl rfl rfl (r:=(a.length:Int)-1) (w64 (by omega) (by omega) (by omega))) (zl 4 rfl ?_))));refine zbO (fun m Γ H=>∃(n:Nat) (out:List Nat) (r:Nat),n=m/\Γ=[(0,some (D.v (V.one (zaf a)))),(1,some (D.val (.int .u32 (d:Int)))),(6,some (D.own 0 a.length)),(7,some (D.val (.int .u64 (r:Int)))),(8,some (D.int ((n:Int)-1)))]/\H=[some ⟨106,out.map za5,some 1,none⟩]/\n<=a.length/\out.length=a.length/\Small out/\r<d/\val (a.drop n)=val (out.drop n)*d+r) ⟨a.length,List.replicate a.length 0,0,rfl,rfl,rfl,zxe _,by simp,Small.replicate _,hd0,by rw[List.drop_of_length_le (zxe _),List.drop_of_length_le (by simp)];simp[val]⟩ rfl ?_;rintro m Γ H ⟨n,out,r,rfl,rfl,rfl,hnle,hol,hos,hr,heq⟩;refine zc 4 rfl ?_;by_cases hn:0<n
 .refine tq_ rfl (geT rfl) (zl 8 rfl ?_);have hai:=hsa.get (n-1) (by omega);have hq:(r*2^32+a[n-1]'(by omega))/d<4294967296:=by
   rw[Nat.div_lt_iff_lt_mul hd0];have:(r+1)*4294967296<=d*4294967296:=zxl _ hr;omega
  have hm:=Nat.mod_lt (r*2^32+a[n-1]'(by omega)) hd0;refine zc 2 rfl (tq_ rfl (zdF rfl rfl rfl (by decide) (r:=((r*2^32:Nat):Int)) (zic _ 32 rfl (by omega))) (zl 2 rfl (tq_ rfl (ji1 rfl (zaH (n-1) (by omega) (by omega))) (tq_ rfl (jli rfl) (tq_ rfl (jc6 (a[n-1]'(by omega)) rfl) ?_)))));refine tq_ rfl (zgv rfl rfl rfl (r:=((r*2^32+a[n-1]'(by omega):Nat):Int)) (or64 32 (Nat.mul_mod_left _ _) (by omega) (by omega))) (zl 9 rfl (tq_ rfl (jc6 d rfl) (tq_ rfl (zc6 rfl rfl rfl (by omega) (r:=(((r*2^32+a[n-1]'(by omega))/d:Nat):Int)) ((by rw[zeE];exact zbQ (Nat.lt_trans hq (by decide))))) ?_)));refine tq_ rfl (jcv ((r*2^32+a[n-1]'(by omega))/d) rfl (zry (Int.emod_eq_of_lt (Int.natCast_nonneg _) (Int.ofNat_lt.2 hq)))) (tq_ rfl (zam rfl rfl rfl rfl (by decide) (by simp[hol]) (by decide) zbU zap (by omega) (by omega) (off:=n-1) (by omega)) ?_);refine te_ rfl (zaM (ls:=((out.set (n-1) ((r*2^32+a[n-1]'(by omega))/d)).map za5)) rfl rfl rfl rfl zap rfl (by decide) (by simp;omega) (zaA (by omega))) (zl 5 rfl (tq_ rfl (jc6 d rfl) (tq_ rfl (zcA rfl rfl rfl (by omega) (r:=(((r*2^32+a[n-1]'(by omega))%d:Nat):Int)) (zdU _ _)) (zl 6 rfl ?_))));refine tq_ rfl (zaI rfl rfl rfl (r:=((n-1:Nat):Int)-1) (w64 (by omega) (by omega) (by omega))) (zl 2 rfl ?_);exact nx_ ⟨n-1,_,_,rfl,rfl,rfl,by omega,by simp[hol],hos.set _ _ hq,Nat.mod_lt _ hd0,zlq hn (by omega) (by omega) heq _ (by simp)⟩ rfl
 .refine tq_ rfl (geF rfl) (zl 9 rfl ?_);have hn0:n=0:=by omega
  subst hn0;simp only[List.drop_zero] at heq;have hq:val a/d=val out:=by rw[heq,zxF,Nat.mul_add_div hd0,Nat.div_eq_of_lt hr,Nat.add_zero]
  have hm:val a%d=r:=by rw[heq,zxF,Nat.mul_add_mod,Nat.mod_eq_of_lt hr]
  refine zc 2 rfl (zaC 39 (out) rfl rfl rfl rfl (by omega) (tc_ zeU rfl (zaw out hos) (zl 1 rfl (tc_ zsV rfl (zd4 r (by omega)) (zl 4 rfl ?_)))));exact r2_ hq_ rfl (by rw[hq,hm])
end Go.Proofs.YticnclbnchgigaaGreatDoor
