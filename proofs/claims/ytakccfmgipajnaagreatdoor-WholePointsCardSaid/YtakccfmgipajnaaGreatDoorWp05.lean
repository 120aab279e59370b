/- Parts of the proof, 5: the texts Knuth, WkD, WkE, WkF, RefM, as far as they are used. -/
import Derived.Test.YtakccfmgipajnaaGreatDoorWp04
set_option linter.unusedSimpArgs false
set_option linter.unusedVariables false
set_option maxRecDepth 10000
namespace Rc
abbrev XU:=@Nat.le_of_ble_eq_true
abbrev Yy:=@Nat.div_le_self
abbrev YG:=@Nat.pos_of_ne_zero
abbrev YJ:=@Nat.pow_lt_pow_right
abbrev YP:=@Nat.mul_ne_zero
abbrev YW:=@List.getElem?_map
abbrev Zb:=@Nat.mul_lt_mul_of_pos_right
abbrev Zx:=@Nat.gcd_comm
abbrev ZN:=@List.length_take_le
abbrev ZQ:=@Nat.mul_assoc
abbrev ZW:=@Nat.mul_div_cancel_left
abbrev ZY:=@Nat.pow_zero
abbrev Z2:=@Nat.le_mul_of_pos_left
abbrev zaa:=@Nat.mul_add_div
abbrev zab:=@Nat.mul_add_mod
abbrev zak:=@Nat.lt_of_mul_lt_mul_left
abbrev zaG:=@Nat.sub_mul
abbrev zaR:=@Nat.gcd_zero_right
abbrev zaT:=@Nat.zero_div
abbrev za0:=@Nat.gcd_rec
abbrev za4:=@Nat.le_antisymm
end Rc
namespace Rc
open Go Go.RowKit
set_option maxRecDepth 10000
def fJ(top s2 v1 v2:Nat):Nat:=
 if top<4294967296 then min ((top*4294967296+s2)/(v1*4294967296+v2)) 4294967295
 else max (min ((top*4294967296+s2)/(v1*4294967296+v2)) 4294967295) ((top-4294967296)/v1)
theorem Uo{A r s2 b:Nat}(h:r*4294967296+s2<b):(A+r)*4294967296+s2<A*4294967296+b:=by
 rw[Ys,ZO];exact Nat.add_lt_add_left h _
theorem Un{a W T p:Nat}(h:a+W<=T)(hp:p<=W):a+p<=T:=XY (Nat.add_le_add_left hp _) h
theorem Uk{top s2 v1 v2 q r:Nat}(h1:0<v1)(hq:q<4294967296)(h:q*v2<=r*4294967296+s2)(ht:q*v1+r=top):q<=fJ top s2 v1 v2:=by
 have hW:q<=(top*4294967296+s2)/(v1*4294967296+v2):=by
  rw[Y3 (by omega)];subst ht;have:q*(v1*4294967296+v2)=q*v1*4294967296+q*v2:=by grind
  rw[this];omega
 have hm:q<=min ((top*4294967296+s2)/(v1*4294967296+v2)) 4294967295:=Nat.le_min.2 ⟨hW,by omega⟩;unfold fJ;split
 .exact hm
 .exact XY hm (Nat.le_max_left _ _)
theorem Jo{top s2 v1 v2 q r:Nat}(h1:0<v1)(hr:4294967296<=r)(ht:q*v1+r=top):q<=fJ top s2 v1 v2:=by
 have hm:q<=(top-4294967296)/v1:=by
  rw[Y3 h1];omega
 unfold fJ;rw[if_neg (by omega)];exact XY hm (Nat.le_max_right _ _)
theorem Jp{top s2 v1 v2 q r:Nat}(h1:0<v1)(hr:r<4294967296)(ht:q*v1+r=top)(h:4294967296<=q\/r*4294967296+s2<q*v2):fJ top s2 v1 v2<q:=by
 have hm:min ((top*4294967296+s2)/(v1*4294967296+v2)) 4294967295<q:=by
  rcases h with h|h
  .exact Ye (Nat.min_le_right _ _) (XZ (Zf 4294967295) h)
  .refine Ye (Nat.min_le_left _ _) ?_;rw[YT (by omega)];subst ht;have:q*(v1*4294967296+v2)=q*v1*4294967296+q*v2:=by grind
   rw[this];exact Uo h
 unfold fJ;split
 .exact hm
 .refine Nat.max_lt.2 ⟨hm,?_⟩;rw[YT h1];omega
theorem Ul{top s2 v1 v2:Nat}(h1:0<v1)(h2:s2<4294967296):fJ top s2 v1 v2<=top/v1:=by
 have hm:min ((top*4294967296+s2)/(v1*4294967296+v2)) 4294967295<=top/v1:=by
  refine XY (Nat.min_le_left _ _) ?_;rw[Y3 h1];have hd:=Nat.div_mul_le_self (top*4294967296+s2) (v1*4294967296+v2);generalize (top*4294967296+s2)/(v1*4294967296+v2)=q at *;have:q*(v1*4294967296+v2)=q*v1*4294967296+q*v2:=by grind
  rw[this] at hd;omega
 unfold fJ;split
 .exact hm
 .exact Nat.max_le.2 ⟨hm,Nat.div_le_div_right (by omega)⟩
theorem Um{top s2 v1 v2 lo lov e S V:Nat}(he:0<e)(hv1:2147483648<=v1)(hv1':v1<4294967296)(hv2:v2<4294967296)(hs2:s2<4294967296)(hlo:lo<e)(hlov:lov<e)
  (hS:S=lo+e*(top*4294967296+s2)) (hV:V=lov+e*(v1*4294967296+v2)) (hSV:S<V*4294967296) :
  S/V<=fJ top s2 v1 v2/\fJ top s2 v1 v2<=S/V+1:=by
 have hVpos:0<V:=by
  rw[hV];have:0<e*(v1*4294967296+v2):=Zn he (by omega);omega
 have hqB:S/V<4294967296:=by rw[YT hVpos,Yu];exact hSV
 have htop:top<(v1+1)*4294967296:=by
  have h1:e*(top*4294967296)<e*((v1*4294967296+v2+1)*4294967296):=by
   have h2:e*(top*4294967296)<=S:=by rw[hS,YX];omega
   have h3:V<=e*(v1*4294967296+v2+1):=by rw[hV,YX e _ 1,Y1];omega
   have h4:V*4294967296<=e*(v1*4294967296+v2+1)*4294967296:=Ya _ h3;rw[ZQ] at h4;omega
  have:=zak h1;omega
 constructor
 .have hd:=Nat.div_mul_le_self S V;have hm:S/V<=min ((top*4294967296+s2)/(v1*4294967296+v2)) 4294967295:=by
   refine Nat.le_min.2 ⟨?_,by omega⟩;rw[Y3 (by omega)];have h1:e*(S/V*(v1*4294967296+v2))<e*(top*4294967296+s2+1):=by
    have h2:S/V*(e*(v1*4294967296+v2))<=S/V*V:=Yx _ (by rw[hV];omega);have h3:e*(S/V*(v1*4294967296+v2))=S/V*(e*(v1*4294967296+v2)):=by grind
    rw[YX e _ 1,Y1,h3];omega
   have:=zak h1;omega
  unfold fJ;split
  .exact hm
  .exact XY hm (Nat.le_max_left _ _)
 ·
  have hqW:∀q,q<=fJ top s2 v1 v2->q<=4294967296/\q*(v1*4294967296+v2)<=top*4294967296+s2\/q<=4294967295/\q*(v1*4294967296+v2)<=top*4294967296+s2:=by
   intro q hq;have hleft:q<=min ((top*4294967296+s2)/(v1*4294967296+v2)) 4294967295->q<=4294967295/\q*(v1*4294967296+v2)<=top*4294967296+s2:=by
    intro h;obtain⟨h1,h2⟩:=Nat.le_min.1 h;exact⟨h2,(Y3 (by omega)).1 h1⟩
   unfold fJ at hq;split at hq
   .exact .inr (hleft hq)
   .by_cases hc:q<=min ((top*4294967296+s2)/(v1*4294967296+v2)) 4294967295
    .exact .inr (hleft hc)
    .have h2:q<=(top-4294967296)/v1:=by
      rcases Nat.le_total (min ((top*4294967296+s2)/(v1*4294967296+v2)) 4294967295) ((top-4294967296)/v1) with h|h
      .rwa [Nat.max_eq_right h] at hq
      .rw[Nat.max_eq_left h] at hq;exact absurd hq hc
     have h3:q*v1<=top-4294967296:=(Y3 (by omega)).1 h2;have h4:q<=4294967296:=by
      apply Classical.byContradiction;intro hn;have:4294967297*v1<=q*v1:=Ya _ (by omega);omega
     refine .inl ⟨h4,?_⟩;have h5:q*v2<=4294967296*4294967295:=YZ h4 (by omega);have:q*(v1*4294967296+v2)=q*v1*4294967296+q*v2:=by grind
     rw[this];omega
  have hq:=hqW _ (XP _);generalize fJ top s2 v1 v2=q at *;have hq':q<=4294967296/\q*(v1*4294967296+v2)<=top*4294967296+s2:=by rcases hq with h|h <;> exact⟨by omega,h.2⟩
  obtain⟨hqB',hqW'⟩:=hq';rcases Yr q with h0|h0
  .rw[h0];exact XS _
  .have:q-1<=S/V:=by
    rw[Y3 hVpos];obtain⟨p,rfl⟩:∃p,q=p+1:=⟨q-1,by omega⟩;simp only[zaf];have h3:V<=e*(v1*4294967296+v2+1):=by rw[hV,YX e _ 1,Y1];omega
    have h4:p*V<=p*(e*(v1*4294967296+v2+1)):=Yx _ h3;have h5:p*(e*(v1*4294967296+v2+1))=e*(p*(v1*4294967296+v2)+p):=by grind
    have h6:p*(v1*4294967296+v2)+p<=top*4294967296+s2:=by
     rw[Ys,Y2] at hqW';have hW:p<=v1*4294967296+v2:=by omega
     exact Un hqW' hW
    have h7:=Yx e h6;rw[hS];omega
   generalize S/V=z at *;omega
theorem su{pre s post:List Nat}{j i:Nat}(hj:j=pre.length+i)(h:i<s.length):((pre++s++post).map aY)[j]?=some (aY s[i]):=by
 subst hj;rw[YW,XV (by simp;omega),YL (by omega)];simp[h]
theorem wQ{pre s post:List Nat}{j i x:Nat}(hj:j=pre.length+i)(h:i<s.length):splice ((pre++s++post).map aY) j [aY x]=(pre++s.set i x++post).map aY:=by
 subst hj;rw[fX (by simp;omega),List.set_append_left _ _ (by simp;omega),List.set_append_right _ _ (by omega)];simp
theorem OM{s0 s v:List Nat}{i c b q:Nat}(hi:i<s.length)(hi0:i<s0.length)(hv:i<v.length)(h:val (s.take i)+q*val (v.take i)=val (s0.take i)+(c+b)*4294967296^i)
  (hsi:s.drop i=s0.drop i) (x b' t:Nat) (ht:t=c+q*v[i]) (hx:x+t%4294967296+b=s[i]+4294967296*b') :
  val ((s.set i x).take (i+1))+q*val (v.take (i+1))=val (s0.take (i+1))+(t/4294967296+b')*4294967296^(i+1):=by
 rw[lC _ _ _ hi,iR v i hv,iR s0 i hi0];have he:s0[i]=s[i]:=by
  have:=congrArg (fun l=>l[0]?) hsi;simp only[Yw,Yl] at this;rw[XM hi,XM hi0] at this;simpa using this.symm
 rw[he,Yb];have hd:=Zd t 4294967296;generalize t/4294967296=T at *;generalize t%4294967296=m at *;generalize 4294967296^i=p at *;generalize val (s.take i)=A at *;generalize val (v.take i)=Bv at *;generalize val (s0.take i)=C at *;have e1:p*x+p*m+p*b=p*s[i]+p*(4294967296*b'):=by rw[<-YX,<-YX,<-YX,hx]
 have e2:p*(4294967296*T)+p*m=p*c+p*(q*v[i]):=by rw[<-YX,hd,ht,YX]
 grind
theorem FU{s0 s:List Nat}{i x:Nat}(h:s.drop i=s0.drop i):(s.set i x).drop (i+1)=s0.drop (i+1):=by
 rw[ZM (by omega)];have:=congrArg (List.drop 1) h;simpa[Zh,ZX] using this
theorem BR{s0 s:List Nat}{i:Nat}(h:s.drop i=s0.drop i)(hi:i<s.length)(hi0:i<s0.length):s[i]=s0[i]:=by
 have:=congrArg (fun l=>l[0]?) h;simp only[Yw,Yl] at this;rw[XM hi,XM hi0] at this;simpa using this
theorem ER{s l b:Nat}(hs:s<4294967296)(hl:l+b<=4294967296) :
  let x:=(s+(18446744073709551616-(l+b)))%18446744073709551616
  x%4294967296+l+b=s+4294967296*(x/9223372036854775808)/\x/9223372036854775808<=1:=by
 intro x;by_cases h:l+b<=s
 .have:x=s-(l+b):=by show _%_=_;omega
  rw[this];omega
 .have:x=s+(18446744073709551616-(l+b)):=Y7 (by omega);rw[this];omega
theorem OL{s0 s v:List Nat}{n c b q x b':Nat}(hl:s.length=n+1)(hl0:s0.length=n+1)(hvl:v.length=n)(h:val (s.take n)+q*val (v.take n)=val (s0.take n)+(c+b)*4294967296^n)
  (hd:s.drop n=s0.drop n) (hx:x+c+b=s[n]+4294967296*b'):val (s.set n x)+q*val v=val s0+b'*4294967296^(n+1):=by
 have e1:=lC s n x (by omega);rw[dJ _ _ (by simp;omega)] at e1;have e2:=iR s0 n (by omega);rw[dJ _ _ (by omega)] at e2;rw[dJ v _ (by omega)] at h;have e3:=BR hd (by omega) (by omega);rw[e1,e2,Yb];rw[e3] at hx;generalize 4294967296^n=p at *;have e4:p*x+p*c+p*b=p*s0[n]+p*(4294967296*b'):=by rw[<-YX,<-YX,<-YX,hx]
 grind
theorem OO{a S V q:Nat}(hq:q=S/V\/q=S/V+1)(hV:0<V)(h:a+q*V=S):q=S/V/\a=S%V:=by
 have h1:q<=S/V:=by rw[Y3 hV];omega
 have h2:q=S/V:=by rcases hq with h|h <;> omega
 have h3:=Zd S V;rw[Yu] at h3;rw[<-h2] at h3;exact⟨h2,by omega⟩
theorem ON{a S V q M:Nat}(hq:q=S/V\/q=S/V+1)(hV:0<V)(ha:a<M)(h:a+q*V=S+M):q=S/V+1/\a+V=M+S%V:=by
 have h3:=Zd S V;rw[Yu] at h3;have h4:=YE S hV;rcases hq with h'|h'
 .rw[h'] at h;generalize S/V*V=z at *;omega
 .refine⟨h',?_⟩;rw[h',Ys,Y2] at h;generalize S/V*V=z at *;omega
theorem OP{s3 s2 v:List Nat}{n c V R:Nat}(hs3:Small s3)(hl:s3.length=n+1)(hl2:s2.length=n+1)(hvl:v.length=n)(h:val (s3.take n)+c*4294967296^n=val (s2.take n)+val (v.take n))(hd:s3.drop n=s2.drop n)
  (hV:val v=V) (hR:R<4294967296^(n+1)) (ht:val s2+V=4294967296^(n+1)+R):val (s3.set n ((s3[n]+c)%4294967296))=R:=by
 have e1:=lC s3 n ((s3[n]+c)%4294967296) (by omega);rw[dJ _ _ (by simp;omega)] at e1;have e2:=iR s2 n (by omega);rw[dJ _ _ (by omega)] at e2;rw[dJ v _ (by omega),hV] at h;have e3:=BR hd (by omega) (by omega);have hlt:=dy (hs3.set n ((s3[n]+c)%4294967296) (YE _ (by decide)));have hlen:(s3.set n ((s3[n]+c)%4294967296)).length=n+1:=by simp[hl]
 rw[hlen] at hlt;have hdm:=Zd (s3[n]+c) 4294967296;rw[e1] at hlt ⊢;rw[e2,<-e3] at ht;generalize hm:(s3[n]+c)%4294967296=m at *;generalize hz:(s3[n]+c)/4294967296=z at *;rw[Yb] at hlt hR ht;generalize 4294967296^n=p at *;generalize val (s3.take n)=A at *;generalize val (s2.take n)=C at *;have e4:p*(4294967296*z)+p*m=p*s3[n]+p*c:=by rw[<-YX,<-YX,hdm]
 have e5:A+p*m+p*4294967296*z=p*4294967296+R:=by grind
 have hz1:z=1:=by
  rcases zaz z 1 with h1|h1
  .have:z=0:=by omega
   subst this;omega
  .rcases zaz 1 z with h2|h2
   .have:=Yx (p*4294967296) h2;omega
   .omega
 subst hz1;omega
theorem QC{b:List Nat}(hc:Canon b)(hn:0<b.length):0<b[b.length-1]'(by omega)/\32-bl (b[b.length-1]'(by omega))<32/\(ah (val b*2^(32-bl (b[b.length-1]'(by omega))))).length=b.length ∧
  2147483648<=(ah (val b*2^(32-bl (b[b.length-1]'(by omega))))).getD (b.length-1) 0:=by
 have htop:b[b.length-1]'(by omega)≠0:=by
  have h:=hc.2 (by intro e;rw[e] at hn;simp at hn)
  rwa [ZC] at h
 have hs:=hc.1.get (b.length-1) (by omega);have h1:=C0 htop;have h2:bl (b[b.length-1]'(by omega))<=32:=gQ hs;have hb:=zg hc hn;generalize b[b.length-1]'(by omega)=t at *;have hv0:val b≠0:=by intro e;rw[e,Kf] at hb;omega
 have g1:=sW (val b);have g2:=vQ hv0;have hbl:bl (val b*2^(32-bl t))=32*b.length:=by
  apply Kg
  .have:32*b.length=bl (val b)+(32-bl t):=by omega
   rw[this,Yv];exact Zb g1 (Yp (by decide))
  .intro _;have:32*b.length-1=(bl (val b)-1)+(32-bl t):=by omega
   rw[this,Yv];exact Ya _ g2
 have hlt:=sW (val b*2^(32-bl t));have hV0:val b*2^(32-bl t)≠0:=YP hv0 (YM (Yp (by decide)));have hle:=vQ hV0;rw[hbl] at hlt hle;generalize val b*2^(32-bl t)=V at *;have hl1:(ah V).length<=b.length:=dm.2 (by rw[gD];exact hlt);have hl2:¬(ah V).length<=b.length-1:=by
  rw[dm,gD];have:=X3 (n:=2) (by decide) (show 32*(b.length-1)<=32*b.length-1 by omega);omega
 have hl:(ah V).length=b.length:=by omega
 refine⟨by omega,by omega,hl,?_⟩;have hb2:=zg (sS V) (by omega);rw[aZ,hbl] at hb2;rw[iJ (by omega)];have e:(ah V)[(ah V).length-1]'(by omega)=(ah V)[b.length-1]'(by omega):=by congr 1;omega
 rw[e] at hb2;have h32:bl ((ah V)[b.length-1]'(by omega))=32:=by omega
 have:=vQ (n:=(ah V)[b.length-1]'(by omega)) (by intro e0;rw[e0] at h32;simp[Kf] at h32);rw[h32] at this;simpa using this
theorem UF{us:List Nat}{k n:Nat}(hk:0<k)(h:k+n<=us.length):∃pre s post,us=pre++s++post/\pre.length=k-1/\s.length=n+1:=
 ⟨us.take (k-1),(us.drop (k-1)).take (n+1),(us.drop (k-1)).drop (n+1),by rw[Yf,YN,YN],by simp;omega,by simp;omega⟩
theorem UG{pre s post:List Nat}{n V:Nat}(hs:Small (pre++s++post))(hl:s.length=n+1)(hV:V<4294967296^n)(h:val ((pre++s++post).drop (pre.length+1))<V):Small s/\Small pre/\Small post/\val post=0/\val s<V*4294967296:=by
 have h1:Small s:=fun x hx=>hs x (by simp[hx]);refine⟨h1,fun x hx=>hs x (by simp[hx]),fun x hx=>hs x (by simp[hx]),?_⟩
 match s,hl with
 |d::t,hl=>
  have hd:(pre++(d::t)++post).drop (pre.length+1)=t++post:=by
   rw[Yf,<-Zh,List.drop_left];rfl
  rw[hd,ji] at h;have ht:t.length=n:=by simpa using hl
  rw[ht] at h;have hp:val post=0:=by
   rcases Yr (val post) with h0|h0
   .exact h0
   .have:=Yx (4294967296^n) h0;omega
  refine⟨hp,?_⟩;have hd:=h1.head;rw[hp] at h;simp only[val];omega
theorem UD{pre s post out:List Nat}{n V A k:Nat}(hk:pre.length=k)(hko:k<out.length)(hp:val post=0)(hV0:0<V)(hV:V<4294967296^n)
  (h:val (pre++s++post)+V*(4294967296^(k+1)*val (out.drop (k+1)))=A) :
  val (pre++fF (n+1) (val s%V)++post)+V*(4294967296^k*val ((out.set k (val s/V)).drop k))=A/\val ((pre++fF (n+1) (val s%V)++post).drop k)<V:=by
 have hm:=YE (val s) hV0;have hpl:val (fF (n+1) (val s%V))=val s%V:=wD (YR hm (XZ hV (X3 (by decide) (by omega))));constructor
 .rw[Yh (show k<(out.set k (val s/V)).length by simpa using hko),Zs,ZM (by omega)];simp only[val];rw[ji,ji,hp,hpl,hk];rw[ji,ji,hp,hk] at h;have:=Zd (val s) V;generalize val s/V=q at *;generalize val s%V=r at *;rw[<-h,<-this,Yb];simp only[Zc,Yl];generalize 4294967296^k=p at *;grind
 .subst hk;rw[Yf,List.drop_left,ji,hp,hpl];simpa using hm
theorem UH{x va vb sh o:Nat}(h:x+vb*2^sh*o=va*2^sh)(hx:x<vb*2^sh):o=va/vb/\x/2^sh=va%vb:=by
 have hp:0<2^sh:=Yp (by decide);have hvb:0<vb:=by
  rcases Yr vb with h0|h0
  .subst h0;simp at hx
  .exact h0
 have hdv:2^sh ∣ x:=by
  have h1:2^sh ∣ va*2^sh:=Nat.dvd_mul_left _ _;rw[<-h] at h1;exact(Nat.dvd_add_left ⟨vb*o,by grind⟩).1 h1
 obtain⟨y,rfl⟩:=hdv;have hy:y+vb*o=va:=by
  have:2^sh*(y+vb*o)=2^sh*va:=by grind
  exact Nat.eq_of_mul_eq_mul_left hp this
 have hyb:y<vb:=by
  rw[Yu] at hx;exact Nat.lt_of_mul_lt_mul_right hx
 rw[ZW _ hp,<-hy];refine⟨?_,?_⟩
 .rw[ZX,zaa hvb,YQ hyb,Yl]
 .rw[ZX,zab,Y7 hyb]
theorem UE{a:List Nat}{n sh V A L:Nat}(hs:Small a)(hL:L=a.length+1)(hA:A=val a*2^sh)(hsh:sh<32)(hn:n<=a.length)(hV:4294967296^(n-1)*2^sh<=V)(hn0:0<n) :
  A<4294967296^L/\val ((fF L A).drop (a.length-n+1))<V:=by
 have hlt:=dy hs;have hsh2:2^sh<4294967296:=XZ (YJ (by decide) hsh) (by decide);have hp:0<2^sh:=Yp (by decide);have hA1:A<4294967296^a.length*2^sh:=by subst hA;exact Zb hlt hp
 have hAL:A<4294967296^L:=by
  subst hL;rw[Yb];exact XZ hA1 (Yx _ (by omega))
 refine⟨hAL,?_⟩;rw[<-qI _ (wR _ _),wD hAL];refine XZ ?_ hV;rw[YT (Yp (by decide))];refine XZ hA1 (Nat.le_of_eq ?_);have:a.length=(n-1)+(a.length-n+1):=by omega
 conv=>lhs;rw[this,Yv]
 grind
theorem Uj{s v:List Nat}(hs:Small s)(hv:Small v)(hsl:s.length=v.length+1)(hn:2<=v.length)(htop:2147483648<=v.getD (v.length-1) 0)(hlt:val s<val v*4294967296) :
  val s/val v<=fJ (s.getD v.length 0*4294967296+s.getD (v.length-1) 0) (s.getD (v.length-2) 0) (v.getD (v.length-1) 0) (v.getD (v.length-2) 0) ∧
  fJ (s.getD v.length 0*4294967296+s.getD (v.length-1) 0) (s.getD (v.length-2) 0) (v.getD (v.length-1) 0) (v.getD (v.length-2) 0)<=val s/val v+1:=by
 obtain⟨n,hn2⟩:∃n,v.length=n+2:=⟨v.length-2,by omega⟩;have e1:=iA s n;have e2:=iA s (n+1);have e3:=iA s (n+2);have g1:=iA v n;have g2:=iA v (n+1);rw[dJ s (n+2+1) (by omega)] at e3;rw[dJ v (n+1+1) (by omega)] at g2;rw[hn2] at htop ⊢;simp only[zaf,show n+2-1=n+1 from rfl] at htop ⊢;have l1:=dy (hs.take n);have l2:=dy (hv.take n);rw[X2,YA (by omega)] at l1 l2;refine Um (lo:=val (s.take n)) (lov:=val (v.take n)) (e:=4294967296^n) (Yp (by decide)) htop (hv.getD _) (hv.getD _) (hs.getD _) l1 l2 ?_ ?_ hlt
 .rw[e3,e2,e1,Yb,Yb];grind
 .rw[g2,g1,Yb];grind
theorem QB{b:List Nat}(hc:Canon b)(hn:0<b.length):∃sh,32-bl (b[b.length-1]'(by omega))=sh/\sh<32/\(ah (val b*2^sh)).length=b.length/\2147483648<=(ah (val b*2^sh)).getD (b.length-1) 0:=
 let ⟨_,h2,h3,h4⟩:=QC hc hn
 ⟨_,rfl,h2,h3,h4⟩
end Rc
namespace Go.Proofs.YtakccfmgipajnaaGreatDoor
open Go Go.RowKit Rc
theorem Hy(x:Nat)(hx:x<4294967296):ar Tryz.prog 215 [V.one (ab.val (.int .u32 x))] (R.one (V.one (ab.val (.int .i64 ((bl x:Nat):Int))))):=by
 refine aF Tryz.func215 Tryz.ntmps215 rfl (fun w0 A0=>?_);refine zc 9 rfl ?_;by_cases h1:65536<=x
 .refine aa rfl (dR rfl) (zl 6 rfl (aa rfl (eB rfl rfl rfl (by decide) (r:=((x/65536:Nat):Int)) (er x 16 rfl)) (zl 11 rfl ?_)));by_cases h2:256<=x/65536
  .refine aa rfl (dR rfl) (zl 6 rfl (aa rfl (eB rfl rfl rfl (by decide) (r:=((x/65536/256:Nat):Int)) (er _ 8 rfl)) (zl 5 rfl (aa rfl (aL 24 rfl) (zl 7 rfl (aa rfl (gw (x/65536/256) rfl (wx (by omega))) (aa rfl (zB rfl rfl wF (xN (by kernel_rfl) (x:=x/65536/256) (by omega))) ?_)))))));refine aa rfl (gw (bl (x/65536/256)) rfl (bS (xM (by omega)) (by omega) (by have:=gQ (n:=x/65536/256) (k:=8) (by omega);omega))) ?_;refine aa rfl (dS rfl rfl rfl (r:=((bl x:Nat):Int)) (bS (by have h1:=sX (n:=x) (k:=16) h1;have h2:=sX (n:=x/2^16) (k:=8) h2;simp only[Nat.reducePow] at h1 h2;omega) (by omega) (by have:=gQ (n:=x) (k:=32) hx;omega))) (zl 3 rfl ?_);exact av ai rfl rfl
  .refine aa rfl (dY rfl) (zl 9 rfl (aa rfl (gw (x/65536) rfl (wx (by omega))) (aa rfl (zB rfl rfl wF (xN (by kernel_rfl) (x:=x/65536) (by omega))) (aa rfl (gw (bl (x/65536)) rfl (bS (xM (by omega)) (by omega) (by have:=gQ (n:=x/65536) (k:=8) (by omega);omega))) ?_))));refine aa rfl (dS rfl rfl rfl (r:=((bl x:Nat):Int)) (bS (by have h1:=sX (n:=x) (k:=16) h1;simp only[Nat.reducePow] at h1;omega) (by omega) (by have:=gQ (n:=x) (k:=32) hx;omega))) (zl 3 rfl ?_);exact av ai rfl rfl
 .refine aa rfl (dY rfl) (zl 9 rfl ?_);by_cases h2:256<=x
  .refine aa rfl (dR rfl) (zl 6 rfl (aa rfl (eB rfl rfl rfl (by decide) (r:=((x/256:Nat):Int)) (er x 8 rfl)) (zl 5 rfl (aa rfl (aL 8 rfl) (zl 7 rfl (aa rfl (gw (x/256) rfl (wx (by omega))) (aa rfl (zB rfl rfl wF (xN (by kernel_rfl) (x:=x/256) (by omega))) ?_)))))));refine aa rfl (gw (bl (x/256)) rfl (bS (xM (by omega)) (by omega) (by have:=gQ (n:=x/256) (k:=8) (by omega);omega))) (aa rfl (dS rfl rfl rfl (r:=((bl x:Nat):Int)) (bS (by have h2:=sX (n:=x) (k:=8) h2;simp only[Nat.reducePow] at h2;omega) (by omega) (by have:=gQ (n:=x) (k:=32) hx;omega))) (zl 3 rfl ?_));exact av ai rfl rfl
  .refine aa rfl (dY rfl) (zl 9 rfl (aa rfl (gw x rfl (wx (by omega))) (aa rfl (zB rfl rfl wF (xN (by kernel_rfl) (x:=x) (by omega))) (aa rfl (gw (bl (x)) rfl (bS (xM (by omega)) (by omega) (by have:=gQ (n:=x) (k:=8) (by omega);omega))) ?_))));refine aa rfl (dS rfl rfl rfl (r:=((bl x:Nat):Int)) (bS (by skip;omega) (by omega) (by have:=gQ (n:=x) (k:=32) hx;omega))) (zl 3 rfl ?_);exact av ai rfl rfl
theorem RE(x:Nat)(hx:x<4294967296):ar Tryz.prog 255 [V.one (ab.val (.int .u32 x))] (R.one (V.one (ab.val (.int .i64 ((32-bl x:Nat):Int))))):=by
 refine aF Tryz.func255 Tryz.ntmps255 rfl (fun w0 A0=>?_);refine zc 8 rfl (aj IW rfl (Hy x hx) (aa rfl (du rfl rfl rfl (r:=((32-bl x:Nat):Int)) (bS (by have:=gQ (n:=x) (k:=32) hx;omega) (by omega) (by omega))) (zl 3 rfl ?_)));exact av ai rfl rfl
theorem HF(a:List Nat)(k:Nat)(hsa:Small a)(hk:k<32)(hla:a.length<=10000000000000):tf Tryz.prog 256 80 (a.length+1) ((fF (a.length+1) (val a*2^k)).map aY) [V.one (ae a),V.one (ab.val (.int .i64 (k:Int)))]:=by
 refine tf.gO Tryz.func256 rfl Tryz.ntmps256 (XU rfl) (fun w0 A0=>?_);refine jO (zc 8 rfl (aa rfl (aw rfl) (aa rfl (aL (a.length+1) rfl) ?_)));obtain⟨ti1,hi1,hz1,hs1,hb1⟩:=fi;refine aK rfl (j6 (i:=0) (n:=a.length+1) (ls:=((List.replicate (a.length+1) 0).map aY)) rfl rfl rfl bP hi1 hz1 hs1 (by decide) rfl (by decide) rfl (by rw[hb1];omega) (by simp only[maxLen];omega) (jF _) rfl) (zl 7 rfl (aa rfl (aw rfl) (zl 4 rfl ?_)));refine bH (fun m Γ H=>∃(i:Nat) (out:List Nat),a.length-i=m/\Γ=[(0,some (D.v (V.one (ae a)))),(1,some (D.int (k:Int))),(5,some (D.own 0 (a.length+1))),(13,some (D.v (V.one (ae a)))),(14,some (D.int ((a.length:Nat):Int))),(15,some (D.int (i:Int)))]/\H=[some ⟨80,out.map aY,some 1,none⟩]/\i<=a.length/\out.length=a.length+1/\Small out/\val (out.take (i+1))=val (a.take i)*2^k/\out.getD i 0<2^k) ⟨0,List.replicate (a.length+1) 0,rfl,rfl,rfl,XS _,by simp,Small.replicate _,by rw[List.take_replicate,lD];simp,by simp[List.getD];exact Yp (by omega)⟩ rfl ?_;rintro m Γ H ⟨i,out,rfl,rfl,rfl,hile,hol,hos,heq,hlow⟩;refine zc 2 rfl ?_;by_cases hi:i<a.length
 .refine aa rfl (aX rfl) (zl 9 rfl ?_);have hai:=hsa.get i hi;have hoi:=hos.get i (by omega);rw[iJ (by omega)] at hlow;have hb:=R7 hk hai;have ho:=R6 (d:=a[i]) hk hlow;refine zc 2 rfl (aa rfl (b5 rfl (fj (by omega))) (aa rfl (bB rfl) (zl 7 rfl (aa rfl (cZ (a[i]'hi) rfl) (zl 1 rfl (aa rfl (lz rfl rfl rfl (by omega) (r:=((a[i]'hi*2^k:Nat):Int)) (nV _ k (uw (by omega)) hb.1)) (zl 7 rfl ?_)))))));refine aa rfl (eK rfl rfl rfl rfl (by decide) (by simp[hol]) (by decide) bP ba (by omega) (by omega) (off:=i) (by omega)) (aa rfl (gT rfl rfl rfl (by decide) ba (sv (by omega))) (zl 1 rfl (aa rfl (dN (a[i]'hi*2^k%4294967296) rfl) ?_)));refine aa rfl (lA rfl rfl rfl (r:=((out[i]'(by omega)+a[i]'hi*2^k%4294967296:Nat):Int)) (PF k ho.1 hlow ho.2)) (aa rfl (eK rfl rfl rfl rfl (by decide) (by simp[hol]) (by decide) bP ba (by omega) (by omega) (off:=i) (by omega)) ?_);refine aK rfl (eQ (ls:=((out.set i (out[i]'(by omega)+a[i]'hi*2^k%4294967296)).map aY)) rfl rfl rfl rfl ba rfl (by decide) (by simp;omega) (fX (by omega))) (zl 5 rfl (aa rfl (aL (i+1) rfl) (zl 1 rfl (aa rfl (eB rfl rfl rfl (by decide) (r:=(((a[i]'hi*2^k)/4294967296:Nat):Int)) (er _ 32 rfl)) ?_))));refine aa rfl (dN ((a[i]'hi*2^k)/4294967296) rfl) (aa rfl (eK rfl rfl rfl rfl (by decide) (by simp[hol]) (by decide) bP ba (by omega) (by omega) (off:=i+1) (by omega)) ?_);refine aK rfl (eQ (ls:=(((out.set i (out[i]'(by omega)+a[i]'hi*2^k%4294967296)).set (i+1) ((a[i]'hi*2^k)/4294967296)).map aY)) rfl rfl rfl rfl ba rfl (by decide) (by simp;omega) (fX (by simp;omega))) (zl 4 rfl (aa rfl (aL (i+1) rfl) (zl 2 rfl ?_)));exact aP ⟨i+1,_,rfl,rfl,rfl,by omega,by simp[hol],(hos.set _ _ (by omega)).set _ _ (by omega),R4 hi (by omega) heq _ rfl,by rw[iJ (by simp;omega),Zs];exact hb.2.1⟩ rfl
 .refine aa rfl (aO rfl) (zl 15 rfl ?_);have hie:i=a.length:=by omega
  subst hie;rw[dJ out _ (by omega),dJ a _ (XP _)] at heq;exact Wq (fun _ _ h=>h) rfl rfl rfl (by simp;omega) (by rw[<-xh hos hol heq]) (fun l hl=>by simp only[ZE] at hl;obtain⟨x,_,rfl⟩:=hl;exact⟨_,rfl⟩)
theorem R5(a:List Nat)(k:Nat)(hsa:Small a)(hk:k<32)(hla:a.length<=10000000000000):ar Tryz.prog 256 [V.one (ae a),V.one (ab.val (.int .i64 (k:Int)))] (R.one (V.one (ae (fF (a.length+1) (val a*2^k))))):=by
 have h:=ar.Qw (HF a k hsa hk hla) (by simp[xi]);have e:(fF (a.length+1) (val a*2^k)).length=a.length+1:=xi _ _;unfold ae;rw[e];exact h
theorem ND(la:List Nat)(k:Nat)(hsa:Small la)(hk:k<=1048576)(hla:la.length<=10000000000000):ar Tryz.prog 259 [V.one (ae la),V.one (ab.val (.int .i64 (k:Int)))] (R.aW [V.one (ae (ah (val la/2^k))),V.one (ab.val (.int .i64 0))]):=by
 refine aF Tryz.func259 Tryz.ntmps259 rfl (fun w0 A0=>?_);refine zc 10 rfl (aa rfl (aO rfl) (zl 2 rfl (aa rfl (cD rfl) (zl 9 rfl (aj eO rfl (eL la hsa) (zl 5 rfl ?_))))));have hl0:=fH hsa;have vl:=aZ (val la);have sl:=bh (val la);have hnil:(ah (val la)).length<=k/32->val la/2^k=0:=by
  intro h;have h1:=dm.1 h;rw[<-Am,YQ h1,zaT]
 generalize ah (val la)=l at *;refine zc 2 rfl (aa rfl (iu rfl rfl rfl (by decide) (r:=((k/32:Nat):Int)) (bS (jJ k 32) (by omega) (by omega))) (zl 1 rfl (aa rfl (aw rfl) ?_)));by_cases hz:l.length<=k/32
 .refine aa rfl (dR rfl) (zl 9 rfl ?_);exact aI ai rfl (by rw[hnil hz,cJ] <;> rfl)
 .refine aa rfl (dY rfl) (zl 9 rfl (aa rfl (iu rfl rfl rfl (by decide) (r:=((k/32:Nat):Int)) (bS (jJ k 32) (by omega) (by omega))) (aa rfl (WK rfl rfl rfl bP ba (by omega)) (zl 4 rfl ?_))));have sa:Small (l.drop (k/32)):=sl.drop _;have va:val (l.drop (k/32))/2^(k%32)=val la/2^k:=by rw[<-qI l sl,vl,Am]
  have hla2:(l.drop (k/32)).length<=l.length:=by rw[X1];omega
  generalize l.drop (k/32)=a at *;refine zc 2 rfl (aa rfl (aw rfl) ?_);obtain⟨ti2,hi2,hz2,hs2,hb2⟩:=fi;refine aK rfl (j6 (i:=0) (n:=a.length) (ls:=((List.replicate (a.length) 0).map aY)) rfl rfl rfl bP hi2 hz2 hs2 (by decide) rfl (by decide) rfl (by rw[hb2];omega) (by simp only[maxLen];omega) (jF _) rfl) (zl 7 rfl (aa rfl (aw rfl) (zl 4 rfl ?_)));refine bH (fun m Γ H=>∃(i:Nat) (out:List Nat),a.length-i=m/\Γ=[(0,some (D.v (V.one (ae a)))),(1,some (D.int (k:Int))),(6,some (D.own 0 a.length)),(30,some (D.v (V.one (ae a)))),(31,some (D.int ((a.length:Nat):Int))),(32,some (D.int (i:Int)))]/\H=[some ⟨80,out.map aY,some 1,none⟩]/\i<=a.length/\out.length=a.length/\Small out/\val (out.take i)=val a/2^(k%32)%4294967296^i) ⟨0,List.replicate a.length 0,rfl,rfl,rfl,XS _,by simp,Small.replicate _,by simp[Nat.mod_one]⟩ rfl ?_;rintro m Γ H ⟨i,out,rfl,rfl,rfl,hile,hol,hos,heq⟩;refine zc 2 rfl ?_;by_cases hi:i<a.length
  .refine aa rfl (aX rfl) (zl 9 rfl ?_);have hai:=sa.get i hi;refine zc 2 rfl (aa rfl (b5 rfl (fj (by omega))) (aa rfl (bB rfl) (zl 7 rfl (aa rfl (cZ (a[i]'hi) rfl) (zl 7 rfl (aa rfl (aL (i+1) rfl) (zl 1 rfl (aa rfl (aw rfl) ?_))))))));by_cases hi1:i+1<a.length
   .refine aa rfl (aX rfl) (zl 3 rfl ?_);have hai1:=sa.get (i+1) hi1;refine zc 4 rfl (aa rfl (aL (i+1) rfl) (aa rfl (b5 rfl (fj (by omega))) (aa rfl (bB rfl) (aa rfl (cZ (a[i+1]'hi1) rfl) (aa rfl (lz rfl rfl rfl (by decide) (r:=((a[i+1]'hi1*2^32:Nat):Int)) (nV _ 32 rfl (by omega))) ?_)))));refine aa rfl (lA rfl rfl rfl (r:=((a[i]'hi+a[i+1]'hi1*2^32:Nat):Int)) (xm 32 (Zo _ _) (by omega) (by omega))) (zl 8 rfl (aa rfl (fR rfl rfl rfl (by decide) (r:=((k%32:Nat):Int)) (fB k 32)) ?_));refine aa rfl (eB rfl rfl rfl (by omega) (r:=(((a[i]'hi+a[i+1]'hi1*2^32)/2^(k%32):Nat):Int)) (er _ (k%32) (uw (by omega)))) (aa rfl (dN ((a[i]'hi+a[i+1]'hi1*2^32)/2^(k%32)%4294967296) rfl) (aa rfl (eK rfl rfl rfl rfl (by decide) (by simp[hol]) (by decide) bP ba (by omega) (by omega) (off:=i) (by omega)) ?_));refine aK rfl (eQ (ls:=((out.set i ((a[i]'hi+a[i+1]'hi1*2^32)/2^(k%32)%4294967296)).map aY)) rfl rfl rfl rfl ba rfl (by decide) (by simp;omega) (fX (by omega))) (zl 4 rfl (aa rfl (aL (i+1) rfl) (zl 2 rfl ?_)));exact aP ⟨i+1,_,rfl,rfl,rfl,by omega,by simp[hol],hos.set _ _ (by omega),E4 sa hi (by omega) (by omega) heq _ (by rw[iJ hi1,Yu 4294967296])⟩ rfl
   .refine aa rfl (aO rfl) (zl 10 rfl (aa rfl (fR rfl rfl rfl (by decide) (r:=((k%32:Nat):Int)) (fB k 32)) (aa rfl (eB rfl rfl rfl (by omega) (r:=(((a[i]'hi)/2^(k%32):Nat):Int)) (er _ (k%32) (uw (by omega)))) (aa rfl (dN ((a[i]'hi)/2^(k%32)%4294967296) rfl) ?_))));refine aa rfl (eK rfl rfl rfl rfl (by decide) (by simp[hol]) (by decide) bP ba (by omega) (by omega) (off:=i) (by omega)) (aK rfl (eQ (ls:=((out.set i ((a[i]'hi)/2^(k%32)%4294967296)).map aY)) rfl rfl rfl rfl ba rfl (by decide) (by simp;omega) (fX (by omega))) (zl 4 rfl (aa rfl (aL (i+1) rfl) (zl 2 rfl ?_))));exact aP ⟨i+1,_,rfl,rfl,rfl,by omega,by simp[hol],hos.set _ _ (by omega),E4 sa hi (by omega) (by omega) heq _ (by rw[oD (by omega),Zc,Yl])⟩ rfl
  .refine aa rfl (aO rfl) (zl 10 rfl ?_);have hie:i=a.length:=by omega
   subst hie;rw[dJ out _ (by omega),va] at heq;have hlt:val la/2^k<4294967296^a.length:=by rw[<-va];exact Ye (Yy _ _) (dy sa)
   rw[Y7 hlt] at heq;refine zc 2 rfl (je 62 (out) rfl rfl rfl rfl (by omega) (aj eO rfl (eL out hos) (zl 4 rfl ?_)));exact aI ai rfl (by rw[heq])
theorem Vu(la:List Nat)(hsa:Small la)(hla:la.length<=10000000000000):ar Tryz.prog 157 [V.one (ae la)] (R.one (V.one (ab.val (.int .i64 ((bl (val la):Nat):Int))))):=by
 refine aF Tryz.func157 Tryz.ntmps157 rfl (fun w0 A0=>?_);refine zc 8 rfl (aj eO rfl (eL la hsa) (zl 5 rfl ?_));have hl0:=fH hsa;have hb:=fun h=>zg (sS (val la)) h;have hs:=bh (val la);rw[aZ] at hb;have hz0:(ah (val la)).length=0->val la=0:=fun h=>kS.1 (X5 h);generalize ah (val la)=a at *;refine zc 2 rfl (aa rfl (aw rfl) ?_);by_cases hz:a.length=0
 .refine aa rfl (bp rfl) (zl 8 rfl ?_);exact av ai rfl (by rw[hz0 hz] <;> rfl)
 .refine aa rfl (aU rfl) (zl 6 rfl ?_);have hb:=hb (by omega);have htop:=hs.get (a.length-1) (by omega);have hbt:=gQ (k:=32) htop;refine zc 2 rfl (aa rfl (aw rfl) (aa rfl (b9 (a.length-1) rfl) (aa rfl (qx rfl rfl rfl (r:=((32*(a.length-1):Nat):Int)) (bS (by omega) (by omega) (by omega))) (zl 2 rfl (aa rfl (aw rfl) (aa rfl (b9 (a.length-1) rfl) (aa rfl (b5 rfl (eV (a.length-1) (by omega) rfl)) (aa rfl (bB rfl) ?_))))))));refine aj IW rfl (Hy (a[a.length-1]'(by omega)) htop) (aa rfl (aL (bl (val la)) rfl) (zl 3 rfl ?_));exact av ai rfl rfl
theorem NG(a:List Nat)(d:Nat)(hsa:Small a)(hd:d<4294967296)(hd0:0<d)(hla:a.length<=10000000000000):ar Tryz.prog 254 [V.one (ae a),V.one (ab.val (.int .u32 d))] (R.aW [V.one (ae (ah (val a/d))),V.one (ae (ah (val a%d)))]):=by
 refine aF Tryz.func254 Tryz.ntmps254 rfl (fun w0 A0=>?_);refine zc 9 rfl (aa rfl (aw rfl) ?_);obtain⟨ti1,hi1,hz1,hs1,hb1⟩:=fi;refine aK rfl (j6 (i:=0) (n:=a.length) (ls:=((List.replicate (a.length) 0).map aY)) rfl rfl rfl bP hi1 hz1 hs1 (by decide) rfl (by decide) rfl (by rw[hb1];omega) (by simp only[maxLen];omega) (jF _) rfl) (zl 12 rfl (aa rfl (aw rfl) (aa rfl (du rfl rfl rfl (r:=(a.length:Int)-1) (bS (by omega) (by omega) (by omega))) (zl 4 rfl ?_))));refine bH (fun m Γ H=>∃(n:Nat) (out:List Nat) (r:Nat),n=m/\Γ=[(0,some (D.v (V.one (ae a)))),(1,some (D.val (.int .u32 (d:Int)))),(6,some (D.own 0 a.length)),(7,some (D.val (.int .u64 (r:Int)))),(8,some (D.int ((n:Int)-1)))]/\H=[some ⟨80,out.map aY,some 1,none⟩]/\n<=a.length/\out.length=a.length/\Small out/\r<d/\val (a.drop n)=val (out.drop n)*d+r) ⟨a.length,List.replicate a.length 0,0,rfl,rfl,rfl,XP _,by simp,Small.replicate _,hd0,by rw[YI (XP _),YI (by simp)];simp[val]⟩ rfl ?_;rintro m Γ H ⟨n,out,r,rfl,rfl,rfl,hnle,hol,hos,hr,heq⟩;refine zc 4 rfl ?_;by_cases hn:0<n
 .refine aa rfl (dR rfl) (zl 8 rfl ?_);have hai:=hsa.get (n-1) (by omega);have hq:(r*2^32+a[n-1]'(by omega))/d<4294967296:=by
   rw[YT hd0];have:(r+1)*4294967296<=d*4294967296:=Ya _ hr;omega
  have hm:=YE (r*2^32+a[n-1]'(by omega)) hd0;refine zc 2 rfl (aa rfl (lz rfl rfl rfl (by decide) (r:=((r*2^32:Nat):Int)) (nV _ 32 rfl (by omega))) (zl 2 rfl (aa rfl (b5 rfl (eV (n-1) (by omega) (by omega))) (aa rfl (bB rfl) (aa rfl (cZ (a[n-1]'(by omega)) rfl) ?_)))));refine aa rfl (lA rfl rfl rfl (r:=((r*2^32+a[n-1]'(by omega):Nat):Int)) (Ba 32 (Zo _ _) (by omega) (by omega))) (zl 9 rfl (aa rfl (cZ d rfl) (aa rfl (iu rfl rfl rfl (by omega) (r:=(((r*2^32+a[n-1]'(by omega))/d:Nat):Int)) ((by rw[jJ];exact qE (YR hq (by decide))))) ?_)));refine aa rfl (gw ((r*2^32+a[n-1]'(by omega))/d) rfl (tt (Int.emod_eq_of_lt (Int.natCast_nonneg _) (Int.ofNat_lt.2 hq)))) (aa rfl (eK rfl rfl rfl rfl (by decide) (by simp[hol]) (by decide) bP ba (by omega) (by omega) (off:=n-1) (by omega)) ?_);refine aK rfl (eQ (ls:=((out.set (n-1) ((r*2^32+a[n-1]'(by omega))/d)).map aY)) rfl rfl rfl rfl ba rfl (by decide) (by simp;omega) (fX (by omega))) (zl 5 rfl (aa rfl (cZ d rfl) (aa rfl (fR rfl rfl rfl (by omega) (r:=(((r*2^32+a[n-1]'(by omega))%d:Nat):Int)) (fB _ _)) (zl 6 rfl ?_))));refine aa rfl (du rfl rfl rfl (r:=((n-1:Nat):Int)-1) (bS (by omega) (by omega) (by omega))) (zl 2 rfl ?_);exact aP ⟨n-1,_,_,rfl,rfl,rfl,by omega,by simp[hol],hos.set _ _ hq,YE _ hd0,NF hn (by omega) (by omega) heq _ (by simp)⟩ rfl
 .refine aa rfl (dY rfl) (zl 9 rfl ?_);have hn0:n=0:=by omega
  subst hn0;simp only[List.drop_zero] at heq;have hq:val a/d=val out:=by rw[heq,Yu,zaa hd0,YQ hr,Yl]
  have hm:val a%d=r:=by rw[heq,Yu,zab,Y7 hr]
  refine zc 2 rfl (je 39 (out) rfl rfl rfl rfl (by omega) (aj eO rfl (eL out hos) (zl 1 rfl (aj yg rfl (xq r (by omega)) (zl 4 rfl ?_)))));exact aI ai rfl (by rw[hq,hm])
theorem Ui(s v:List Nat)(hss:Small s)(hsv:Small v)(hsl:s.length=v.length+1)(hv2:2<=v.length)(hvl:v.length<=20000000000000)(hnz:0<v.getD (v.length-1) 0):ar Tryz.prog 258 [V.one (ae s),V.one (ae v)] (R.one (V.one (ab.val (.int .u64 ((fJ (s.getD v.length 0*4294967296+s.getD (v.length-1) 0) (s.getD (v.length-2) 0) (v.getD (v.length-1) 0) (v.getD (v.length-2) 0):Nat):Int))))):=by
 refine aF Tryz.func258 Tryz.ntmps258 rfl (fun w0 A0=>?_);refine zc 1 rfl ?_;rw[iJ (show v.length<s.length by omega),iJ (show v.length-1<s.length by omega),iJ (show v.length-2<s.length by omega),iJ (show v.length-1<v.length by omega),iJ (show v.length-2<v.length by omega)];rw[iJ (show v.length-1<v.length by omega)] at hnz;have a0:=hss.get v.length (by omega);have a1:=hss.get (v.length-1) (by omega);have a2:=hss.get (v.length-2) (by omega);have b1:=hsv.get (v.length-1) (by omega);have b2:=hsv.get (v.length-2) (by omega);obtain⟨v1,hv1⟩:∃x,x=v[v.length-1]:=⟨_,rfl⟩;obtain⟨v2,hv2e⟩:∃x,x=v[v.length-2]:=⟨_,rfl⟩;obtain⟨s2,hs2⟩:∃x,x=s[v.length-2]:=⟨_,rfl⟩;obtain⟨top,htop⟩:∃x,x=s[v.length]*4294967296+s[v.length-1]:=⟨_,rfl⟩;rw[<-hv1,<-hv2e,<-hs2,<-htop];rw[<-hv1] at hnz b1;rw[<-hv2e] at b2;rw[<-hs2] at a2;have h1:0<v1:=hnz;obtain⟨e,he⟩:∃e,fJ top s2 v1 v2=e:=⟨_,rfl⟩;rw[he];refine zc 7 rfl (aa rfl (aw rfl) (zl 4 rfl (aE 0 [] [] (dz 2 rfl (af rfl (b5 rfl (eV (v.length) (by omega) (by omega))) (af rfl (bB rfl) (af rfl (cZ (s[v.length]'(by omega)) rfl) (af rfl (lz rfl rfl rfl (by decide) (r:=((s[v.length]'(by omega)*2^32:Nat):Int)) (nV _ 32 rfl (by omega))) (dz 2 rfl ?_)))))))));refine af rfl (b9 (v.length-1) rfl) (af rfl (b5 rfl (eV (v.length-1) (by omega) (by omega))) (af rfl (bB rfl) (af rfl (cZ (s[v.length-1]'(by omega)) rfl) (af rfl (lA rfl rfl rfl (r:=(top:Int)) (by rw[htop];exact Ba 32 (Zo _ _) (by omega) (by omega))) (dz 1 rfl (aB (za 2 rfl (aE 0 [] [] (dz 3 rfl ?_)))))))));refine af rfl (b9 (v.length-1) rfl) (af rfl (b5 rfl (eV (v.length-1) (by omega) (by omega))) (af rfl (bB rfl) (af rfl (gw v1 rfl (by rw[hv1];exact cF (by omega))) (af rfl (iu rfl rfl rfl (by omega) (r:=((top/v1:Nat):Int)) ((by rw[jJ];exact qE (Ye (Yy _ _) (by omega))))) (dz 3 rfl ?_)))));refine af rfl (b9 (v.length-1) rfl) (af rfl (b5 rfl (eV (v.length-1) (by omega) (by omega))) (af rfl (bB rfl) (af rfl (gw v1 rfl (by rw[hv1];exact cF (by omega))) (af rfl (fR rfl rfl rfl (by omega) (r:=((top%v1:Nat):Int)) (fB _ _)) (dz 2 rfl (aB (za 3 rfl ?_)))))));refine bH (fun m Γ H=>∃(q:Nat) (r:Nat),q=m/\Γ=[(0,some (D.v (V.one (ae s)))),(1,some (D.v (V.one (ae v)))),(5,some (D.int ((v.length:Nat):Int))),(7,some (D.val (.int .u64 (q:Int)))),(8,some (D.val (.int .u64 (r:Int))))]/\H=[]/\q*v1+r=top/\r<4294967296/\e<=q/\q<18446744073709551616) ⟨top/v1,top%v1,rfl,rfl,rfl,by rw[Yu];exact Zd _ _,YR (YE _ h1) b1,by rw[<-he];exact Ul h1 a2,Ye (Yy _ _) (by omega)⟩ rfl ?_;rintro m Γ H ⟨q,r,rfl,rfl,rfl,hqt,hr,heq,hqb⟩;refine zc 2 rfl (aE 0 [] [] (dz 1 rfl ?_));by_cases hq:4294967296<=q
 .refine af rfl (dR rfl) (dz 20 rfl (aB (za 6 rfl ?_)));have hlt:e<q:=by rw[<-he];exact Jp h1 hr hqt (.inl hq)
  have hq0:0<q:=by omega
  refine zc 2 rfl (aa rfl (du rfl rfl rfl (r:=((q-1:Nat):Int)) (cF (by omega))) (zl 8 rfl (aa rfl (b9 (v.length-1) rfl) (aa rfl (b5 rfl (eV (v.length-1) (by omega) (by omega))) (aa rfl (bB rfl) (aa rfl (gw v1 rfl (by rw[hv1];exact cF (by omega))) (aa rfl (dS rfl rfl rfl (r:=((r+v1:Nat):Int)) (cF (by omega))) (zl 6 rfl ?_))))))));by_cases hr2:4294967296<=r+v1
  .refine aa rfl (dR rfl) (zl 14 rfl ?_);exact av ai rfl (by rw[show q-1=e from za4 (by rw[<-he];exact Jo h1 hr2 (by rw[<-hqt,zaG,Y2];have:=Z2 v1 hq0;omega)) (by omega)])
  .refine aa rfl (dY rfl) (zl 5 rfl ?_);exact aP ⟨q-1,r+v1,rfl,rfl,rfl,by rw[<-hqt,zaG,Y2];have:=Z2 v1 hq0;omega,by omega,by omega,by omega⟩ rfl
 .refine af rfl (dY rfl) (dz 4 rfl ?_);have hm:q*v2<=4294967295*4294967295:=YZ (by omega) (by omega);refine af rfl (b9 (v.length-2) rfl) (af rfl (b5 rfl (eV (v.length-2) (by omega) (by omega))) (af rfl (bB rfl) (af rfl (gw v2 rfl (by rw[hv2e];exact cF (by omega))) (af rfl (qx rfl rfl rfl (r:=((q*v2:Nat):Int)) (cF (by rw[<-Zu];omega))) (dz 1 rfl ?_)))));refine af rfl (lz rfl rfl rfl (by decide) (r:=((r*2^32:Nat):Int)) (nV _ 32 rfl (by omega))) (dz 2 rfl (af rfl (b9 (v.length-2) rfl) (af rfl (b5 rfl (eV (v.length-2) (by omega) (by omega))) (af rfl (bB rfl) (af rfl (gw s2 rfl (by rw[hs2];exact cF (by omega))) ?_)))));refine af rfl (lA rfl rfl rfl (r:=((r*2^32+s2:Nat):Int)) (Ba 32 (Zo _ _) (by omega) (by omega))) ?_;by_cases hc:r*2^32+s2<q*v2
  .refine af rfl (dQ rfl) (dz 1 rfl (aB (za 6 rfl ?_)));have hlt:e<q:=by rw[<-he];exact Jp h1 hr hqt (.inr hc)
   have hq0:0<q:=by omega
   refine zc 2 rfl (aa rfl (du rfl rfl rfl (r:=((q-1:Nat):Int)) (cF (by omega))) (zl 8 rfl (aa rfl (b9 (v.length-1) rfl) (aa rfl (b5 rfl (eV (v.length-1) (by omega) (by omega))) (aa rfl (bB rfl) (aa rfl (gw v1 rfl (by rw[hv1];exact cF (by omega))) (aa rfl (dS rfl rfl rfl (r:=((r+v1:Nat):Int)) (cF (by omega))) (zl 6 rfl ?_))))))));by_cases hr2:4294967296<=r+v1
   .refine aa rfl (dR rfl) (zl 14 rfl ?_);exact av ai rfl (by rw[show q-1=e from za4 (by rw[<-he];exact Jo h1 hr2 (by rw[<-hqt,zaG,Y2];have:=Z2 v1 hq0;omega)) (by omega)])
   .refine aa rfl (dY rfl) (zl 5 rfl ?_);exact aP ⟨q-1,r+v1,rfl,rfl,rfl,by rw[<-hqt,zaG,Y2];have:=Z2 v1 hq0;omega,by omega,by omega,by omega⟩ rfl
  .refine af rfl (cD rfl) (dz 1 rfl (aB (za 13 rfl ?_)));exact av ai rfl (by rw[show q=e from za4 (by rw[<-he];exact Uk h1 (by omega) (Za hc) hqt) heq])
theorem OK(pre s post v:List Nat)(q:Nat)(hs:Small s)(hv:Small v)(hsl:s.length=v.length+1)(hvl:v.length<=20000000000000)(hV:0<val v)(hlt:val s<val v*4294967296)(hq:q=val s/val v\/q=val s/val v+1):te Tryz.prog 257 80 pre.length (v.length+1) ((pre++s++post).map aY) ((pre++fF (v.length+1) (val s%val v)++post).map aY) [V.one (ae v),V.one (ab.val (.int .u64 (q:Int)))] (R.one (V.one (ab.val (.int .u32 ((val s/val v:Nat):Int))))):=by
 refine te.gO Tryz.func257 rfl Tryz.ntmps257 (XU rfl) (fun w0 A0 bk hX=>?_);refine jO (zc 1 rfl ?_);have hqt:val s/val v<4294967296:=by rw[YT hV,Yu];exact hlt
 have hqB:q<=4294967296:=by omega
 refine zc 14 rfl (aa rfl (aw rfl) (zl 4 rfl ?_));refine bH (fun m Γ H=>∃(i:Nat) (s1:List Nat) (c:Nat) (b:Nat),v.length-i=m/\Γ=[(0,some (D.part 0 pre.length (v.length+1))),(1,some (D.v (V.one (ae v)))),(2,some (D.val (.int .u64 (q:Int)))),(7,some (D.val (.int .u64 (c:Int)))),(8,some (D.val (.int .u64 (b:Int)))),(15,some (D.v (V.one (ae v)))),(16,some (D.int ((v.length:Nat):Int))),(17,some (D.int (i:Int)))]/\H=[some ⟨80,(pre++s1++post).map aY,some 1,some (.inl bk)⟩]/\i<=v.length/\s1.length=s.length/\Small s1/\c<4294967296/\b<=1/\val (s1.take i)+q*val (v.take i)=val (s.take i)+(c+b)*4294967296^i/\s1.drop i=s.drop i) ⟨0,s,0,0,rfl,rfl,rfl,XS _,rfl,hs,by omega,by omega,by simp[val],rfl⟩ rfl ?_;rintro m Γ H ⟨i,s1,c,b,rfl,rfl,rfl,hile,hl1,hs1,hc,hb,heq,hdr⟩;refine zc 2 rfl ?_;by_cases hi:i<v.length
 .refine aa rfl (aX rfl) (zl 9 rfl ?_);have hvi:=hv.get i hi;have hsi:=hs1.get i (by omega);have hm:q*v[i]<=4294967296*4294967295:=YZ hqB (by omega);obtain⟨t,ht⟩:∃t,t=c+q*v[i]:=⟨_,rfl⟩;have htb:t<18446744073709551616:=by omega
  obtain⟨x,hx⟩:∃x,x=(s1[i]'(by omega)+(18446744073709551616-(t%4294967296+b)))%18446744073709551616:=⟨_,rfl⟩;have hd:=ER (l:=t%4294967296) (b:=b) hsi (by omega);simp only[<-hx] at hd;refine zc 2 rfl (aa rfl (b5 rfl (fj (by omega))) (aa rfl (bB rfl) (zl 9 rfl (aa rfl (cZ (v[i]'hi) rfl) (aa rfl (qx rfl rfl rfl (r:=((q*v[i]'hi:Nat):Int)) (cF (by rw[<-Zu];omega))) (aa rfl (dS rfl rfl rfl (r:=(t:Int)) (by rw[ht];exact cF (by omega))) (zl 7 rfl ?_)))))));refine aa rfl (oW rfl rfl rfl rfl (by decide) (by simp;omega) bP ba (by omega) (by omega) (off:=pre.length+(i)) (by omega)) (aa rfl (gT rfl rfl rfl (by decide) ba (su rfl (by omega))) (aa rfl (cZ (s1[i]'(by omega)) rfl) (zl 1 rfl (aa rfl (dN (t%4294967296) rfl) (aa rfl (cZ (t%4294967296) rfl) ?_)))));refine aa rfl (du rfl rfl rfl (r:=(((s1[i]'(by omega)+(18446744073709551616-t%4294967296))%18446744073709551616:Nat):Int)) (cF (by omega))) (zl 1 rfl (aa rfl (du rfl rfl rfl (r:=(x:Int)) (cF (by omega))) (zl 8 rfl (aa rfl (dN (x%4294967296) rfl) ?_))));refine aa rfl (oW rfl rfl rfl rfl (by decide) (by simp;omega) bP ba (by omega) (by omega) (off:=pre.length+(i)) (by omega)) (aK rfl (eQ (ls:=((pre++s1.set (i) (x%4294967296)++post).map aY)) rfl rfl rfl rfl ba rfl (by decide) (by simp;omega) (wQ rfl (by omega))) (zl 5 rfl ?_));refine aa rfl (eB rfl rfl rfl (by decide) (r:=((x/9223372036854775808:Nat):Int)) (er _ 63 rfl)) (zl 5 rfl (aa rfl (eB rfl rfl rfl (by decide) (r:=((t/4294967296:Nat):Int)) (er _ 32 rfl)) (zl 5 rfl (aa rfl (aL (i+1) rfl) (zl 2 rfl ?_)))));exact aP ⟨i+1,_,_,_,rfl,rfl,rfl,by omega,by simp[hl1],hs1.set _ _ (by omega),by omega,hd.2,OM (by omega) (by omega) hi heq hdr _ _ t ht hd.1,FU hdr⟩ rfl
 .refine aa rfl (aO rfl) (zl 10 rfl ?_);have hie:i=v.length:=by omega
  subst hie;have hsn:=hs1.get v.length (by omega);obtain⟨x,hx⟩:∃x,x=(s1[v.length]'(by omega)+(18446744073709551616-(c+b)))%18446744073709551616:=⟨_,rfl⟩;have hd:=ER (l:=c) (b:=b) hsn (by omega);simp only[<-hx] at hd;have htot:=OL (by omega) hsl rfl heq hdr hd.1;have hs2:=hs1.set v.length (x%4294967296) (by omega);have hl2:(s1.set v.length (x%4294967296)).length=v.length+1:=by simp;omega
  refine zc 3 rfl (aa rfl (aw rfl) (aa rfl (oW rfl rfl rfl rfl (by decide) (by simp;omega) bP ba (by omega) (by omega) (off:=pre.length+(v.length)) (by omega)) (aa rfl (gT rfl rfl rfl (by decide) ba (su rfl (by omega))) (aa rfl (cZ (s1[v.length]'(by omega)) rfl) (zl 1 rfl ?_)))));refine aa rfl (du rfl rfl rfl (r:=(((s1[v.length]'(by omega)+(18446744073709551616-c))%18446744073709551616:Nat):Int)) (cF (by omega))) (zl 1 rfl (aa rfl (du rfl rfl rfl (r:=(x:Int)) (cF (by omega))) (zl 7 rfl (aa rfl (aw rfl) (zl 1 rfl (aa rfl (dN (x%4294967296) rfl) ?_))))));refine aa rfl (oW rfl rfl rfl rfl (by decide) (by simp;omega) bP ba (by omega) (by omega) (off:=pre.length+(v.length)) (by omega)) (aK rfl (eQ (ls:=((pre++s1.set (v.length) (x%4294967296)++post).map aY)) rfl rfl rfl rfl ba rfl (by decide) (by simp;omega) (wQ rfl (by omega))) (zl 6 rfl ?_));refine aa rfl (eB rfl rfl rfl (by decide) (r:=((x/9223372036854775808:Nat):Int)) (er _ 63 rfl)) ?_;by_cases hx0:x/9223372036854775808=0
  .refine aa rfl (bp rfl) (zl 4 rfl ?_);rw[hx0,Zm,Yl] at htot;obtain⟨k1,k2⟩:=OO hq hV htot;refine zc 2 rfl (aa rfl (gw (val s/val v) rfl (by rw[<-k1];exact tt (by omega))) (zl 3 rfl ?_));exact K1 (fun _ _ h=>h) rfl rfl rfl rfl (by simp;omega) (by rw[xh hs2 hl2 k2]) hX
  .refine aa rfl (aU rfl) (zl 6 rfl ?_);have hx1:x/9223372036854775808=1:=by omega
   rw[hx1,Y2] at htot;have hbd:=dy hs2;rw[hl2] at hbd;obtain⟨k1,k2⟩:=ON hq hV hbd htot;generalize s1.set v.length (x%4294967296)=s2 at *;refine zc 8 rfl (aa rfl (aw rfl) (zl 4 rfl ?_));refine bH (fun m Γ H=>∃(i:Nat) (s3:List Nat) (c:Nat),v.length-i=m/\Γ=[(0,some (D.part 0 pre.length (v.length+1))),(1,some (D.v (V.one (ae v)))),(2,some (D.val (.int .u64 (q:Int)))),(7,some (D.val (.int .u64 (c:Int)))),(70,some (D.v (V.one (ae v)))),(71,some (D.int ((v.length:Nat):Int))),(72,some (D.int (i:Int)))]/\H=[some ⟨80,(pre++s3++post).map aY,some 1,some (.inl bk)⟩]/\i<=v.length/\s3.length=v.length+1/\Small s3/\c<=1/\val (s3.take i)+c*4294967296^i=val (s2.take i)+val (v.take i)/\s3.drop i=s2.drop i) ⟨0,s2,0,rfl,rfl,rfl,XS _,hl2,hs2,by omega,by simp[val],rfl⟩ rfl ?_;rintro m Γ H ⟨i,s3,c,rfl,rfl,rfl,hile,hl3,hs3,hc3,heq3,hdr3⟩;refine zc 2 rfl ?_;by_cases hi:i<v.length
   .refine aa rfl (aX rfl) (zl 9 rfl ?_);have hvi:=hv.get i hi;have hsi:=hs3.get i (by omega);have hge:=BR hdr3 (by omega) (by omega);refine zc 2 rfl (aa rfl (b5 rfl (fj (by omega))) (aa rfl (bB rfl) (zl 9 rfl (aa rfl (oW rfl rfl rfl rfl (by decide) (by simp;omega) bP ba (by omega) (by omega) (off:=pre.length+(i)) (by omega)) (aa rfl (gT rfl rfl rfl (by decide) ba (su rfl (by omega))) (aa rfl (cZ (s3[i]'(by omega)) rfl) (zl 1 rfl (aa rfl (cZ (v[i]'hi) rfl) ?_))))))));refine aa rfl (dS rfl rfl rfl (r:=((s3[i]'(by omega)+v[i]'hi:Nat):Int)) (cF (by omega))) (aa rfl (dS rfl rfl rfl (r:=((c+(s3[i]'(by omega)+v[i]'hi):Nat):Int)) (cF (by omega))) (zl 8 rfl (aa rfl (dN ((c+(s3[i]'(by omega)+v[i]'hi))%4294967296) rfl) ?_)));refine aa rfl (oW rfl rfl rfl rfl (by decide) (by simp;omega) bP ba (by omega) (by omega) (off:=pre.length+(i)) (by omega)) (aK rfl (eQ (ls:=((pre++s3.set (i) ((c+(s3[i]'(by omega)+v[i]'hi))%4294967296)++post).map aY)) rfl rfl rfl rfl ba rfl (by decide) (by simp;omega) (wQ rfl (by omega))) (zl 4 rfl ?_));refine aa rfl (eB rfl rfl rfl (by decide) (r:=(((c+(s3[i]'(by omega)+v[i]'hi))/4294967296:Nat):Int)) (er _ 32 rfl)) (zl 5 rfl (aa rfl (aL (i+1) rfl) (zl 2 rfl ?_)));exact aP ⟨i+1,_,_,rfl,rfl,rfl,by omega,by simp[hl3],hs3.set _ _ (by omega),by omega,vV (a:=s2) (b:=v) (by omega) (by omega) heq3 (by rw[iJ hi,hge,ZO]),FU hdr3⟩ rfl
   .refine aa rfl (aO rfl) (zl 10 rfl ?_);have hie:i=v.length:=by omega
    subst hie;have hsn:=hs3.get v.length (by omega);have hR:val s%val v<4294967296^(v.length+1):=XZ (YE _ hV) (Yn (XZ (dy hv) (X3 (by decide) (by omega))));have hfin:=OP hs3 hl3 hl2 rfl heq3 hdr3 rfl hR k2;obtain⟨Q,hQ⟩:∃Q,Q=val s/val v:=⟨_,rfl⟩;rw[<-hQ] at hqt;refine zc 3 rfl (aa rfl (aw rfl) (aa rfl (oW rfl rfl rfl rfl (by decide) (by simp;omega) bP ba (by omega) (by omega) (off:=pre.length+(v.length)) (by omega)) (aa rfl (gT rfl rfl rfl (by decide) ba (su rfl (by omega))) (zl 1 rfl (aa rfl (dN c rfl) ?_)))));refine aa rfl (dS rfl rfl rfl (r:=(((s3[v.length]'(by omega)+c)%4294967296:Nat):Int)) (tt (by omega))) (aa rfl (oW rfl rfl rfl rfl (by decide) (by simp;omega) bP ba (by omega) (by omega) (off:=pre.length+(v.length)) (by omega)) ?_);refine aK rfl (eQ (ls:=((pre++s3.set (v.length) ((s3[v.length]'(by omega)+c)%4294967296)++post).map aY)) rfl rfl rfl rfl ba rfl (by decide) (by simp;omega) (wQ rfl (by omega))) (zl 5 rfl (aa rfl (du rfl rfl rfl (r:=((Q:Nat):Int)) (by rw[k1,<-hQ];exact cF (by omega))) (aa rfl (dN Q rfl) (zl 3 rfl ?_))));exact K1 (fun _ _ h=>h) rfl rfl (by rw[hQ]) rfl (by simp;omega) (by rw[xh (n:=v.length+1) (hs3.set _ _ (YE _ (by decide))) (by simp[hl3]) hfin]) hX
theorem CA(la lb:List Nat)(hsa:Small la)(hsb:Small lb)(hla0:la.length<=9000000000000)(hlb0:lb.length<=9000000000000)(hb0:0<val lb):ar Tryz.prog 204 [V.one (ae la),V.one (ae lb)] (R.aW [V.one (ae (ah (val la/val lb))),V.one (ae (ah (val la%val lb))),V.one (ab.val (.int .i64 0))]):=by
 refine aF Tryz.func204 Tryz.ntmps204 rfl (fun w0 A0=>?_);refine zc 10 rfl (aj eO rfl (eL la hsa) (zl 1 rfl (aj eO rfl (eL lb hsb) (zl 7 rfl ?_))));have hla:=fH hsa;have hlb:=fH hsb;have va:=aZ (val la);have vb:=aZ (val lb);have sa:=bh (val la);have sb:=bh (val lb);have ca:=sS (val la);have cb:=sS (val lb);have hbl:0<(ah (val lb)).length:=YG (fun h=>by have:=kS.1 (X5 h);omega);generalize ah (val la)=a at *;generalize ah (val lb)=b at *;refine zc 2 rfl (aa rfl (aw rfl) (aa rfl (aU rfl) (zl 8 rfl (aj pS rfl (CJ a b sa sb) ?_))));by_cases hab:val a<val b
 .refine aa rfl (aX rfl (by rw[nB hab];decide)) (zl 7 rfl (aj ve rfl (xE a sa (by omega)) (zl 5 rfl ?_)));exact kG ai rfl (by rw[<-va,<-vb,YQ hab,Y7 hab,cJ] <;> rfl)
 .refine aa rfl (aO rfl (by unfold eH;rw[if_neg hab];split <;> decide)) (zl 7 rfl (aa rfl (aw rfl) ?_));by_cases h1:b.length=1
  .refine aa rfl (bp rfl) (zl 8 rfl (aa rfl (b5 rfl (eV 0 (by omega) rfl)) (aa rfl (bB rfl) ?_)));have hb1:=sb.get 0 (by omega);have vb1:val b=b[0]:=by
    match b,h1 with
    |[d],_=>simp[val]
   have hb2:0<b[0]:=by rw[<-vb1,vb];exact hb0
   refine aj TJ rfl (NG a (b[0]'(by omega)) sa hb1 hb2 (by omega)) (zl 16 rfl ?_);exact kG ai rfl (by rw[<-va,<-vb,vb1])
  .refine aa rfl (aU rfl) (zl 8 rfl ?_);have hbp:b.length-1<b.length:=Nat.sub_lt hbl (by decide);have htb:=sb.get (b.length-1) hbp;obtain⟨sh,hshe,hsh,hvlen,hvtop⟩:=QB cb hbl;refine zc 3 rfl (aa rfl (aw rfl) (aa rfl (b9 (b.length-1) rfl) (aa rfl (b5 rfl (eV (b.length-1) hbp rfl)) (aa rfl (bB rfl) (aj TI rfl (RE (b[b.length-1]'hbp) htb) (zl 4 rfl ?_))))));rw[hshe];have hp:0<2^sh:=Yp (by decide);have hab2:b.length<=a.length:=by
    have:=mX (Za hab)
    rwa [xJ ca,xJ cb] at this
   have hVlt:val b*2^sh<4294967296^b.length:=by have:=dm (n:=val b*2^sh) (k:=b.length);rw[hvlen] at this;exact this.1 (XP _)
   have hVpos:0<val b*2^sh:=Zn (by omega) hp;have hVge:4294967296^(b.length-1)*2^sh<=val b*2^sh:=by
    refine Ya _ ?_;have:=dm (n:=val b) (k:=b.length-1);rw[xJ cb] at this;omega
   obtain⟨hAlt,hAtop⟩:=UE sa rfl rfl hsh hab2 hVge hbl;have hVpad:val (fF (b.length+1) (val b*2^sh))=val b*2^sh:=wD (YR hVlt (YJ (by decide) (by omega)));refine zc 3 rfl (aK rfl (W9 (i:=0) rfl IQ rfl (HF a sh sa hsh (by omega)) rfl) (zl 2 rfl (aj IQ rfl (R5 b sh sb hsh (by omega)) (aj eO rfl (eL (fF (b.length+1) (val b*2^sh)) (wR _ _)) (zl 5 rfl ?_)))));rw[hVpad];have hvs:=bh (val b*2^sh);have hvv:=aZ (val b*2^sh);generalize ah (val b*2^sh)=v at *;generalize hVe:val b*2^sh=vv at *;refine zc 2 rfl (aa rfl (aw rfl) (zl 1 rfl (aa rfl (aw rfl) (aa rfl (b9 (a.length-b.length) rfl) (aa rfl (aL (a.length-b.length+1) rfl) ?_)))));obtain⟨ti3,hi3,hz3,hs3,hb3⟩:=fi;refine aK rfl (j6 (i:=1) (n:=a.length-b.length+1) (ls:=((List.replicate (a.length-b.length+1) 0).map aY)) rfl rfl rfl bP hi3 hz3 hs3 (by decide) rfl (by decide) rfl (by rw[hb3];omega) (by simp only[maxLen];omega) (jF _) rfl) (zl 7 rfl (aa rfl (WT rfl rfl rfl (by decide) rfl (by simp) (by decide) bP) ?_));refine aa rfl (du rfl rfl rfl (r:=((a.length-b.length+1:Nat):Int)-1) (bS (by omega) (by omega) (by omega))) (zl 4 rfl ?_);refine bH (fun m Γ H=>∃(k:Nat) (us:List Nat) (out:List Nat),k=m/\Γ=[(0,some (D.v (V.one (ae a)))),(1,some (D.v (V.one (ae b)))),(9,some (D.val (.int .i64 (sh:Int)))),(10,some (D.own 0 (a.length+1))),(11,some (D.v (V.one (ae v)))),(12,some (D.own 1 (a.length-b.length+1))),(13,some (D.int ((k:Int)-1)))]/\H=[some ⟨80,(us).map aY,some 1,none⟩,some ⟨80,(out).map aY,some 1,none⟩]/\k<=out.length/\us.length=a.length+1/\Small us/\out.length=a.length-b.length+1/\Small out/\val us+vv*(4294967296^k*val (out.drop k))=val a*2^sh/\val (us.drop k)<vv) ⟨a.length-b.length+1,fF (a.length+1) (val a*2^sh),List.replicate (a.length-b.length+1) 0,rfl,rfl,rfl,by simp,xi _ _,wR _ _,by simp,Small.replicate _,by rw[YI (by simp),wD hAlt,show val []=0 from rfl,Zc,Zc,Yl],hAtop⟩ rfl ?_;rintro m Γ H ⟨k,us,out,rfl,rfl,rfl,hko,hul,hus,hol,hos,heq,htop⟩;refine zc 4 rfl ?_;by_cases hk:0<k
   .refine aa rfl (dR rfl) (zl 8 rfl ?_);obtain⟨pre,s,post,hsplit,hpl,hsl⟩:=UF (n:=v.length) hk (us:=us) (by omega);have hpk:(k:Int)-1=((pre.length:Nat):Int):=by omega
    rw[hpk];have hk1:k=pre.length+1:=by omega
    subst hk1;subst hsplit;obtain⟨ss,sp,sq,hpost,hslt⟩:=UG hus hsl (by rw[hvlen];exact hVlt) htop;obtain⟨hst1,hst2⟩:=UD (n:=v.length) rfl (by omega) hpost hVpos (by rw[hvlen];exact hVlt) heq;have hbnd:=Uj ss hvs hsl (by omega) (by rw[hvlen];exact hvtop) (by rw[hvv];exact hslt);rw[hvv] at hbnd;have dB:fJ (s.getD v.length 0*4294967296+s.getD (v.length-1) 0) (s.getD (v.length-2) 0) (v.getD (v.length-1) 0) (v.getD (v.length-2) 0)=val s/vv\/fJ (s.getD v.length 0*4294967296+s.getD (v.length-1) 0) (s.getD (v.length-2) 0) (v.getD (v.length-1) 0) (v.getD (v.length-2) 0)=val s/vv+1:=by generalize fJ (s.getD v.length 0*4294967296+s.getD (v.length-1) 0) (s.getD (v.length-2) 0) (v.getD (v.length-1) 0) (v.getD (v.length-2) 0)=e at *;generalize val s/vv=z at *;omega
    have hqv:val s/vv<4294967296:=by rw[YT hVpos,Yu];exact hslt
    refine zc 5 rfl (aa rfl (aw rfl) (aa rfl (aL (pre.length+v.length) rfl) (aa rfl (aL (pre.length+v.length+1) rfl) (aa rfl (WJ (lo:=pre.length) (hi:=pre.length+v.length+1) rfl rfl rfl rfl rfl (by decide) rfl (by rw[List.length_map];exact hul) bP ba (by omega) (by omega) (m:=v.length+1) (by omega)) (zl 10 rfl ?_)))));refine aK rfl (W7 (ls':=s.map aY) rfl TG rfl rfl rfl rfl (by omega) (by simp;omega) (by simp[<-hsl]) rfl (by rw[<-hsl];exact Ui s v ss hvs hsl (by omega) (by omega) (by rw[hvlen];omega))) ?_;refine aK rfl (W8 rfl TH rfl rfl rfl (by simp;omega) rfl (show te Tryz.prog 257 80 pre.length (v.length+1) ((pre++s++post).map aY) ((pre++fF (v.length+1) (val s%vv)++post).map aY) [V.one (ae v),V.one (ab.val (.int .u64 ((fJ (s.getD v.length 0*4294967296+s.getD (v.length-1) 0) (s.getD (v.length-2) 0) (v.getD (v.length-1) 0) (v.getD (v.length-2) 0):Nat):Int)))] (R.one (V.one (ab.val (.int .u32 ((val s/vv:Nat):Int))))) from by rw[<-hvv];exact OK pre s post v _ ss hvs hsl (by omega) (by rw[hvv];exact hVpos) (by rw[hvv];exact hslt) (by rw[hvv];exact dB))) ?_;refine aa rfl (eK rfl rfl rfl rfl (by decide) (by simp[hol]) (by decide) bP ba (by omega) (by omega) (off:=pre.length) (by omega)) (aK rfl (eQ (ls:=((out.set pre.length (val s/vv)).map aY)) rfl rfl rfl rfl ba rfl (by decide) (by simp;omega) (fX (by omega))) (zl 5 rfl ?_));refine aa rfl (du rfl rfl rfl (r:=((pre.length:Nat):Int)-1) (bS (by omega) (by omega) (by omega))) (zl 2 rfl ?_);exact aP ⟨pre.length,_,_,rfl,rfl,rfl,by simp;omega,by simp only[XX,xi] at hul ⊢;omega,(sp.append (wR _ _)).append sq,by simp[hol],hos.set _ _ hqv,hst1,hst2⟩ rfl
   .refine aa rfl (dY rfl) (zl 9 rfl ?_);have hk0:k=0:=by omega
    subst hk0;simp only[List.drop_zero,ZY,Y2] at heq htop;obtain⟨f1,f2⟩:=UH (x:=val us) (vb:=val b) (sh:=sh) (o:=val out) (va:=val a) (by rw[hVe];exact heq) (by rw[hVe];exact htop);refine zc 3 rfl (je 92 (us) rfl rfl rfl rfl (by omega) (aj TF rfl (ND us sh hus (by omega) (by omega)) (zl 10 rfl (je 97 (out) rfl rfl rfl rfl (by omega) (aj eO rfl (eL out hos) (zl 6 rfl ?_))))));exact kG ai rfl (by rw[f1,f2,va,vb])
theorem JF(x y:Nat)(hx:(ah x).length<=9000000000000)(hy:(ah y).length<=9000000000000)(h0:0<y):ar Tryz.prog 204 [V.one (ae (ah x)),V.one (ae (ah y))] (R.aW [V.one (ae (ah (x/y))),V.one (ae (ah (x%y))),V.one (ab.val (.int .i64 0))]):=by
 have h:=CA (ah x) (ah y) (bh _) (bh _) hx hy (by rw[aZ];exact h0);rw[aZ,aZ] at h;exact h
theorem S0(la lb:List Nat)(hsa:Small la)(hsb:Small lb)(hla0:la.length<=9000000000000)(hlb0:lb.length<=9000000000000):ar Tryz.prog 203 [V.one (ae la),V.one (ae lb)] (R.one (V.one (ae (ah (Nat.gcd (val la) (val lb)))))):=by
 refine aF Tryz.func203 Tryz.ntmps203 rfl (fun w0 A0=>?_);refine zc 6 rfl ?_;have ha0:=fH hsa;have hb0:=fH hsb;obtain⟨g,hg⟩:∃g,Nat.gcd (val la) (val lb)=g:=⟨_,rfl⟩;rw[hg];refine zc 2 rfl (aj eO rfl (eL la hsa) (zl 1 rfl (aj eO rfl (eL lb hsb) (zl 6 rfl ?_))));refine bH (fun m Γ H=>∃(x:Nat) (y:Nat),y=m/\Γ=[(0,some (D.v (V.one (ae (ah x))))),(1,some (D.v (V.one (ae (ah y)))))]/\H=[]/\Nat.gcd x y=g/\(ah x).length<=9000000000000/\(ah y).length<=9000000000000) ⟨val la,val lb,rfl,rfl,rfl,hg,by omega,by omega⟩ rfl ?_;rintro m Γ H ⟨x,y,rfl,rfl,rfl,hxy,hx,hy⟩;refine zc 4 rfl (aa rfl (aw rfl) ?_);by_cases hl:2<(ah y).length
 .refine aa rfl (dQ rfl) (zl 7 rfl ?_);have hy0:0<y:=YG (fun h=>by subst h;simp[cJ] at hl);have hm:=YE x hy0;have hml:=mX (Yn hm);refine zc 3 rfl (aj yh rfl (JF x y hx hy hy0) (zl 16 rfl ?_));exact aP ⟨y,x%y,rfl,rfl,rfl,by rw[Zx,<-hxy,Zx x y,za0 y x],hy,by omega⟩ rfl hm
 .refine aa rfl (cD rfl) (zl 12 rfl (aa rfl (aw rfl) ?_));by_cases hz:(ah y).length=0
  .refine aa rfl (bp rfl) (zl 4 rfl ?_);have hy0:y=0:=kS.1 (X5 hz);subst hy0;rw[zaR] at hxy;subst hxy;refine zc 2 rfl (aj ve rfl (xE (ah x) (bh _) (by omega)) (zl 3 rfl ?_));exact av ai rfl (by rw[aZ])
  .refine aa rfl (aU rfl) (zl 6 rfl ?_);have hy0:0<y:=YG (fun h=>by subst h;simp[cJ] at hz);have hm:=YE x hy0;have hml:=mX (Yn hm);have hy64:y<18446744073709551616:=(dm (n:=y) (k:=2)).1 (by omega);refine zc 3 rfl (aj yh rfl (JF x y hx hy hy0) (zl 12 rfl (aj IU rfl (Es y) (zl 1 rfl ?_))));rw[if_pos hy64];refine zl 9 rfl (aj IU rfl (Es (x%y)) (zl 1 rfl ?_));rw[if_pos (YR hm hy64)];refine zl 8 rfl (bH (fun m Γ H=>∃(p:Nat) (q:Nat),q=m/\Γ=[(11,some (D.val (.int .u64 (p:Int)))),(13,some (D.val (.int .u64 (q:Int))))]/\H=[]/\Nat.gcd p q=g/\p<18446744073709551616/\q<18446744073709551616) ⟨y,x%y,rfl,rfl,rfl,by rw[Zx,<-hxy,Zx x y,za0 y x],hy64,YR hm hy64⟩ rfl ?_);rintro m Γ H ⟨p,q,rfl,rfl,rfl,hpq,hp,hq⟩;refine zc 4 rfl ?_;by_cases hq0:0<q
   .refine aa rfl (dQ rfl) (zl 6 rfl ?_);have hmq:=YE p hq0;refine aE 0 [] [] (dz 3 rfl (af rfl (fR rfl rfl rfl (by omega) (r:=((p%q:Nat):Int)) (fB _ _)) (dz 2 rfl (aB (za 1 rfl ?_)))));exact aP ⟨q,p%q,rfl,rfl,rfl,by rw[Zx,<-hpq,Zx p q,za0 q p],hq,YR hmq hq⟩ rfl hmq
   .refine aa rfl (cD rfl) (zl 9 rfl ?_);have hq00:q=0:=by omega
    subst hq00;rw[zaR] at hpq;subst hpq;refine zc 2 rfl (aj yg rfl (xq p hp) (zl 3 rfl ?_));exact av ai rfl rfl
end Go.Proofs.YtakccfmgipajnaaGreatDoor
namespace Rc
open Go
theorem Eh{a:List Nat}(ha:Small a)(n:Nat):val (a.take n)<4294967296^n:=by
 refine XZ (dy (ha.take n)) (X3 (by decide) ?_);exact ZN n a
theorem Mj{a b:List Nat}{n:Nat}(h:∀i,n<=i->a.getD i 0=b.getD i 0):∀m,∃c,val (a.take (n+m))=val (a.take n)+c/\val (b.take (n+m))=val (b.take n)+c:=by
 intro m
 induction m with
 |zero=>exact⟨0,rfl,rfl⟩
 |succ m ih=>
  obtain⟨c,h1,h2⟩:=ih;refine⟨c+4294967296^(n+m)*a.getD (n+m) 0,?_,?_⟩
  .rw[<-ZO,iA,h1];omega
  .rw[<-ZO,iA,h2,h (n+m) (by omega)];omega
theorem Ei{a b:List Nat}{n:Nat}(h:∀i,n<=i->a.getD i 0=b.getD i 0):∃c,val a=val (a.take n)+c/\val b=val (b.take n)+c:=by
 obtain⟨c,h1,h2⟩:=Mj h (a.length+b.length);rw[dJ a _ (by omega)] at h1;rw[dJ b _ (by omega)] at h2;exact⟨c,h1,h2⟩
theorem JW{a b:List Nat}{n:Nat}(ha:Small a)(h:∀i,n+1<=i->a.getD i 0=b.getD i 0)(hlt:a.getD n 0<b.getD n 0):val a<val b:=by
 obtain⟨c,h1,h2⟩:=Ei h;rw[h1,h2,iA,iA];have h3:=Eh ha n;have h4:4294967296^n*(a.getD n 0+1)<=4294967296^n*b.getD n 0:=Yx _ hlt;rw[YX,Y1] at h4;omega
theorem Uq{a b:List Nat}(h:∀i,0<=i->a.getD i 0=b.getD i 0):val a=val b:=by
 obtain⟨c,h1,h2⟩:=Ei h;rw[h1,h2];simp
theorem KC{a b out:List Nat}{k c s:Nat}(hl:out.length=k)(h:val out+c*4294967296^k=val (a.take k)+val (b.take k))(hs:s=c+(a.getD k 0+b.getD k 0)) :
  val (out++[s%4294967296])+(s/4294967296)*4294967296^(k+1)=val (a.take (k+1))+val (b.take (k+1)):=by
 rw[ji,hl,iA a k,iA b k,Yb];simp only[iB,wE,Zc,Yl];have e:4294967296^k*s=4294967296^k*(s%4294967296)+s/4294967296*(4294967296^k*4294967296):=by
  conv=>lhs;rw[<-ZS s 4294967296]
  grind
 rw[hs] at e;rw[hs];have e2:4294967296^k*(c+(a.getD k 0+b.getD k 0))=c*4294967296^k+4294967296^k*a.getD k 0+4294967296^k*b.getD k 0:=by grind
 omega
theorem ES{a b out:List Nat}{k c d c':Nat}(hl:out.length=k)(h:val out+val (b.take k)=val (a.take k)+c*4294967296^k)(hd:d+(b.getD k 0+c)=a.getD k 0+c'*4294967296) :
  val (out++[d])+val (b.take (k+1))=val (a.take (k+1))+c'*4294967296^(k+1):=by
 rw[ji,hl,iA a k,iA b k,Yb];simp only[iB,wE,Zc,Yl];have e:4294967296^k*(d+(b.getD k 0+c))=4294967296^k*(a.getD k 0+c'*4294967296):=by rw[hd]
 have e1:4294967296^k*(d+(b.getD k 0+c))=4294967296^k*d+4294967296^k*b.getD k 0+c*4294967296^k:=by grind
 have e2:4294967296^k*(a.getD k 0+c'*4294967296)=4294967296^k*a.getD k 0+c'*(4294967296^k*4294967296):=by grind
 omega
theorem Nh{a b out:List Nat}{c:Nat}(ha:Small a)(hs:Small out)(hl:out.length=a.length)(hge:val b<=val a)(h:val out+val (b.take a.length)=val (a.take a.length)+c*4294967296^a.length):val out=val a-val b:=by
 rw[dJ a _ (XP _)] at h;have h1:=dy ha;have h2:=dy hs;rw[hl] at h2;have h3:=wB b a.length;have h4:val (b.take a.length)=val b:=by
  by_cases h5:a.length<=b.length
  .rw[YA h5] at h3;have h6:val (b.drop a.length)=0:=by
    rcases Yr (val (b.drop a.length)) with h7|h7
    .exact h7
    .have:4294967296^a.length*1<=4294967296^a.length*val (b.drop a.length):=Yx _ h7;omega
   rw[h6,Zc,Yl] at h3;exact h3.symm
  .exact dJ b _ (by omega)
 rw[h4] at h;rcases Yr c with h5|h5
 .subst h5;omega
 .have:1*4294967296^a.length<=c*4294967296^a.length:=Ya _ h5;omega
theorem QK{b out:List Nat}{i k c x:Nat}(hl:i+k<out.length)(base:Nat)(h:val out+c*4294967296^(i+k)=base+4294967296^i*(x*val (b.take k))) :
  val (out.set (i+k) ((c+(x*b.getD k 0+out[i+k]))%4294967296))+((c+(x*b.getD k 0+out[i+k]))/4294967296)*4294967296^(i+(k+1))=base+4294967296^i*(x*val (b.take (k+1))):=by
 have h1:=wC out (i+k) ((c+(x*b.getD k 0+out[i+k]))%4294967296) hl;rw[iA b k,show i+(k+1)=(i+k)+1 from rfl,Yb];generalize b.getD k 0=y at *;generalize hs:c+(x*y+out[i+k])=s at *;have e1:4294967296^(i+k)*s=4294967296^(i+k)*(s%4294967296)+s/4294967296*(4294967296^(i+k)*4294967296):=by
  conv=>lhs;rw[<-ZS s 4294967296]
  grind
 have e2:4294967296^(i+k)*s=c*4294967296^(i+k)+4294967296^i*(x*(4294967296^k*y))+4294967296^(i+k)*out[i+k]:=by
  rw[<-hs,Yv];grind
 have e3:4294967296^i*(x*(val (b.take k)+4294967296^k*y))=4294967296^i*(x*val (b.take k))+4294967296^i*(x*(4294967296^k*y)):=by grind
 omega
theorem QN{a b o:List Nat}{i c:Nat}(ha:Small a)(hb:Small b)(hi:i<a.length)(h:val o+c*4294967296^(i+(b.length+1))=val (a.take i)*val b+4294967296^i*(a[i]*val (b.take (b.length+1)))) :
  val o=val (a.take (i+1))*val b:=by
 rw[dJ b _ (by omega)] at h;have e:val (a.take i)*val b+4294967296^i*(a[i]*val b)=val (a.take (i+1))*val b:=by
  rw[iR a i hi];grind
 rw[e] at h;have h1:=Eh ha (i+1);have h2:=dy hb;have h3:val (a.take (i+1))*val b<4294967296^(i+(b.length+1)):=by
  rw[show i+(b.length+1)=(i+1)+b.length from by omega,Yv];rcases Yr (val b) with h|h
  .rw[h,Zc];exact Zn (Yp (by decide)) (Yp (by decide))
  .exact XZ (Zb h1 h) (Yx _ (Yn h2))
 rcases Yr c with h5|h5
 .subst h5;omega
 .have:1*4294967296^(i+(b.length+1))<=c*4294967296^(i+(b.length+1)):=Ya _ h5;omega
theorem NI{a out:List Nat}{i k c x:Nat}(hi:i<a.length)(hl:out.length=k/32+i)(h:val out+c*4294967296^out.length=val (a.take i)*2^k)(hx:x=c+a[i]*2^(k%32)) :
  val (out++[x%4294967296])+(x/4294967296)*4294967296^(out.length+1)=val (a.take (i+1))*2^k:=by
 rw[ji,iR a i hi,Yb];simp only[iB,wE,Zc,Yl];have e:4294967296^out.length*x=4294967296^out.length*(x%4294967296)+x/4294967296*(4294967296^out.length*4294967296):=by
  conv=>lhs;rw[<-ZS x 4294967296]
  grind
 have e2:4294967296^out.length*2^(k%32)=4294967296^i*2^k:=by
  rw[hl,gD,gD,<-Yv,<-Yv];congr 1;omega
 have e3:4294967296^out.length*x=c*4294967296^out.length+a[i]*(4294967296^out.length*2^(k%32)):=by rw[hx];grind
 rw[e2] at e3;have e4:(val (a.take i)+4294967296^i*a[i])*2^k=val (a.take i)*2^k+a[i]*(4294967296^i*2^k):=by grind
 omega
theorem NH{d c s:Nat}(hs:s<32)(hd:d<4294967296)(hc:c<2^s):d*2^s<18446744073709551616/\c+d*2^s<18446744073709551616/\(c+d*2^s)/4294967296<2^s/\2^s<=2147483648:=by
 have h1:(2:Nat)^s<=2^31:=X3 (by omega) (by omega);have h2:d*2^s<=4294967295*2^s:=Ya _ (by omega);refine⟨by omega,by omega,?_,by omega⟩;rw[YT (by omega)];omega
theorem Vs{x:Nat}(h:0<x):bl x=bl (x/2)+1:=by
 by_cases h2:2<=x
 .have:=sX (n:=x) (k:=1) (by simpa using h2);simpa using this
 .have:x=1:=by omega
  subst this;decide
theorem Ej(out:List Nat)(c:Nat):val (out++[c])=val out+c*4294967296^out.length:=by
 rw[ji];simp[Yu]
theorem pg{out:List Nat}{c:Nat}(h:Small out)(hc:c<4294967296):Small (out++[c]):=h.append (Small.cons hc Small.nil)
theorem C3{a:List Nat}(ha:Small a){n:Nat}(h:n/32<a.length):a[n/32]/2^(n%32)%2=val a/2^n%2:=by
 rw[<-Am (val a) n,qI a ha,Yh h,iB];have e:(4294967296:Nat)=2^(n%32)*(2*2^(31-n%32)):=by
  rw[<-Nat.pow_succ',<-Yv,show n%32+(31-n%32).succ=32 from by omega]
 rw[e,ZQ,Z7 _ _ (Yp (by decide)),ZQ,zaj]
theorem De{x:Nat}(h:x<4294967296):IntKind.u32.wrap ((BitVec.ofInt IntKind.u32.bits (x:Int) &&& BitVec.ofInt IntKind.u32.bits (1:Int)).toNat)=((x%2:Nat):Int):=by
 rw[BitVec.toNat_and,show(1:Int)=((1:Nat):Int) from rfl,lO _ x (by simp only[IntKind.bits];omega),lO _ 1 (by simp only[IntKind.bits];omega),Nat.and_one_is_mod];exact qF (by omega)
theorem CB{A n Q b r:Nat}(h:A/2^(n+1)=Q*b+r):A/2^n=2*Q*b+(2*r+A/2^n%2):=by
 have h1:A/2^(n+1)=A/2^n/2:=by rw[Yb,Z1]
 rw[h1] at h;have h2:=Zd (A/2^n) 2;rw[h] at h2;have e:2*(Q*b+r)=2*Q*b+2*r:=by grind
 omega
theorem Ap{o:List Nat}{n Q:Nat}(ho:Small o)(hn:n/32<o.length)(h:val o=2^(n+1)*Q) :
  o[n/32]%2^(n%32+1)=0/\o[n/32]+2^(n%32)<4294967296/\val (o.set (n/32) (o[n/32]+2^(n%32)))=2^n*(2*Q+1):=by
 have h1:=qI o ho (n/32);rw[Yh hn,iB] at h1;have e1:2^(n+1)=4294967296^(n/32)*2^(n%32+1):=by
  rw[gD,<-Yv];congr 1;omega
 rw[h,e1,ZQ,ZW _ (Yp (by decide))] at h1;have e2:(4294967296:Nat)=2^(n%32+1)*2^(31-n%32):=by rw[<-Yv,show n%32+1+(31-n%32)=32 from by omega]
 have hd:=ho.get (n/32) hn;have h2:o[n/32]%2^(n%32+1)=0:=by
  have h3:(o[n/32]+4294967296*val (o.drop (n/32+1)))%2^(n%32+1)=0:=by rw[<-h1];exact Nat.mul_mod_right _ _
  rw[e2,ZQ,zaj] at h3;exact h3
 refine⟨h2,?_,?_⟩
 .obtain⟨y,hy⟩:=Nat.dvd_of_mod_eq_zero h2;rw[hy] at hd ⊢;have hp:0<2^(n%32):=Yp (by decide);have hy2:y<2^(31-n%32):=by
   rw[e2] at hd;exact zak hd
  have h4:2^(n%32+1)*(y+1)<=2^(n%32+1)*2^(31-n%32):=Yx _ hy2;rw[<-e2,YX,Y1] at h4;have h5:(2:Nat)^(n%32+1)=2*2^(n%32):=Nat.pow_succ';omega
 .have h3:=wC o (n/32) (o[n/32]+2^(n%32)) hn;have e3:2^n=4294967296^(n/32)*2^(n%32):=by rw[gD,<-Yv];congr 1;omega
  rw[h] at h3;rw[YX,<-e3,Yb] at h3;have e4:2^n*2*Q=2^n*(2*Q):=by grind
  rw[e4] at h3;rw[YX,Y1];omega
theorem Bb{a b:Nat}(i:Nat)(ha:a%2^i=0)(hb:b<2^i)(h:a+b<4294967296) :
  IntKind.u32.wrap ((BitVec.ofInt IntKind.u32.bits (a:Int) ||| BitVec.ofInt IntKind.u32.bits (b:Int)).toNat)=((a+b:Nat):Int):=by
 rw[zaB,lO _ a (by simp only[IntKind.bits];omega),lO _ b (by simp only[IntKind.bits];omega),xk i ha hb];exact qF h
theorem C2{x n L:Nat}(h1:x<4294967296^L)(hn:n<bl x):n/32<L:=by
 have h2:bl x<=32*L:=gQ (by rw[<-gD];exact h1);omega
end Rc
