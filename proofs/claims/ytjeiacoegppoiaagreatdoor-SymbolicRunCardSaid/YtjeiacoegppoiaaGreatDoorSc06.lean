/- Parts of the proof, 6: the texts RefM, Qw, Aff, WkA, WkB, WkC, WkD, WkE, WkF, as far as they are used. -/
import Derived.Test.YtjeiacoegppoiaaGreatDoorSc05
set_option linter.unusedSimpArgs false
set_option linter.unusedVariables false
set_option maxRecDepth 10000
namespace Rc
open Go
theorem zid{a:List Nat}(ha:Small a)(n:Nat):val (a.take n)<4294967296^n:=by
 refine zEy (zbs (ha.take n)) (zEC (by decide) ?_);exact List.length_take_le n a
theorem zie{a b:List Nat}{n:Nat}(h:∀i,n<=i->a.getD i 0=b.getD i 0):∀m,∃c,val (a.take (n+m))=val (a.take n)+c/\val (b.take (n+m))=val (b.take n)+c:=by
 intro m
 induction m with
 |zero=>exact⟨0,rfl,rfl⟩
 |succ m ih=>
  obtain⟨c,h1,h2⟩:=ih;refine⟨c+4294967296^(n+m)*a.getD (n+m) 0,?_,?_⟩
  .rw[<-Nat.add_assoc,zaG,h1];omega
  .rw[<-Nat.add_assoc,zaG,h2,h (n+m) (by omega)];omega
theorem zdr{a b:List Nat}{n:Nat}(h:∀i,n<=i->a.getD i 0=b.getD i 0):∃c,val a=val (a.take n)+c/\val b=val (b.take n)+c:=by
 obtain⟨c,h1,h2⟩:=zie h (a.length+b.length);rw[zan a _ (by omega)] at h1;rw[zan b _ (by omega)] at h2;exact⟨c,h1,h2⟩
theorem zo0{a b:List Nat}{n:Nat}(ha:Small a)(h:∀i,n+1<=i->a.getD i 0=b.getD i 0)(hlt:a.getD n 0<b.getD n 0):val a<val b:=by
 obtain⟨c,h1,h2⟩:=zdr h;rw[h1,h2,zaG,zaG];have h3:=zid ha n;have h4:4294967296^n*(a.getD n 0+1)<=4294967296^n*b.getD n 0:=zEX _ hlt;rw[Nat.mul_add,Nat.mul_one] at h4;omega
theorem zzp{a b:List Nat}(h:∀i,0<=i->a.getD i 0=b.getD i 0):val a=val b:=by
 obtain⟨c,h1,h2⟩:=zdr h;rw[h1,h2];simp
theorem ztn{a b out:List Nat}{k c s:Nat}(hl:out.length=k)(h:val out+c*4294967296^k=val (a.take k)+val (b.take k))(hs:s=c+(a.getD k 0+b.getD k 0)) :
  val (out++[s%4294967296])+(s/4294967296)*4294967296^(k+1)=val (a.take (k+1))+val (b.take (k+1)):=by
 rw[za4,hl,zaG a k,zaG b k,zEI];simp only[zbG,zj4,Nat.mul_zero,Nat.add_zero];have e:4294967296^k*s=4294967296^k*(s%4294967296)+s/4294967296*(4294967296^k*4294967296):=by
  conv=>lhs;rw[<-Nat.mod_add_div s 4294967296]
  grind
 rw[hs] at e;rw[hs];have e2:4294967296^k*(c+(a.getD k 0+b.getD k 0))=c*4294967296^k+4294967296^k*a.getD k 0+4294967296^k*b.getD k 0:=by grind
 omega
theorem zqQ{a b out:List Nat}{k c d c':Nat}(hl:out.length=k)(h:val out+val (b.take k)=val (a.take k)+c*4294967296^k)(hd:d+(b.getD k 0+c)=a.getD k 0+c'*4294967296) :
  val (out++[d])+val (b.take (k+1))=val (a.take (k+1))+c'*4294967296^(k+1):=by
 rw[za4,hl,zaG a k,zaG b k,zEI];simp only[zbG,zj4,Nat.mul_zero,Nat.add_zero];have e:4294967296^k*(d+(b.getD k 0+c))=4294967296^k*(a.getD k 0+c'*4294967296):=by rw[hd]
 have e1:4294967296^k*(d+(b.getD k 0+c))=4294967296^k*d+4294967296^k*b.getD k 0+c*4294967296^k:=by grind
 have e2:4294967296^k*(a.getD k 0+c'*4294967296)=4294967296^k*a.getD k 0+c'*(4294967296^k*4294967296):=by grind
 omega
theorem zxr{a b out:List Nat}{c:Nat}(ha:Small a)(hs:Small out)(hl:out.length=a.length)(hge:val b<=val a)(h:val out+val (b.take a.length)=val (a.take a.length)+c*4294967296^a.length):val out=val a-val b:=by
 rw[zan a _ (zEt _)] at h;have h1:=zbs ha;have h2:=zbs hs;rw[hl] at h2;have h3:=zdg b a.length;have h4:val (b.take a.length)=val b:=by
  by_cases h5:a.length<=b.length
  .rw[Nat.min_eq_left h5] at h3;have h6:val (b.drop a.length)=0:=by
    rcases Nat.eq_zero_or_pos (val (b.drop a.length)) with h7|h7
    .exact h7
    .have:4294967296^a.length*1<=4294967296^a.length*val (b.drop a.length):=zEX _ h7;omega
   rw[h6,Nat.mul_zero,Nat.add_zero] at h3;exact h3.symm
  .exact zan b _ (by omega)
 rw[h4] at h;rcases Nat.eq_zero_or_pos c with h5|h5
 .subst h5;omega
 .have:1*4294967296^a.length<=c*4294967296^a.length:=zEA _ h5;omega
theorem zrT{b out:List Nat}{i k c x:Nat}(hl:i+k<out.length)(base:Nat)(h:val out+c*4294967296^(i+k)=base+4294967296^i*(x*val (b.take k))) :
  val (out.set (i+k) ((c+(x*b.getD k 0+out[i+k]))%4294967296))+((c+(x*b.getD k 0+out[i+k]))/4294967296)*4294967296^(i+(k+1))=base+4294967296^i*(x*val (b.take (k+1))):=by
 have h1:=zj3 out (i+k) ((c+(x*b.getD k 0+out[i+k]))%4294967296) hl;rw[zaG b k,show i+(k+1)=(i+k)+1 from rfl,zEI];generalize b.getD k 0=y at *;generalize hs:c+(x*y+out[i+k])=s at *;have e1:4294967296^(i+k)*s=4294967296^(i+k)*(s%4294967296)+s/4294967296*(4294967296^(i+k)*4294967296):=by
  conv=>lhs;rw[<-Nat.mod_add_div s 4294967296]
  grind
 have e2:4294967296^(i+k)*s=c*4294967296^(i+k)+4294967296^i*(x*(4294967296^k*y))+4294967296^(i+k)*out[i+k]:=by
  rw[<-hs,zEJ];grind
 have e3:4294967296^i*(x*(val (b.take k)+4294967296^k*y))=4294967296^i*(x*val (b.take k))+4294967296^i*(x*(4294967296^k*y)):=by grind
 omega
theorem zxW{a b o:List Nat}{i c:Nat}(ha:Small a)(hb:Small b)(hi:i<a.length)(h:val o+c*4294967296^(i+(b.length+1))=val (a.take i)*val b+4294967296^i*(a[i]*val (b.take (b.length+1)))) :
  val o=val (a.take (i+1))*val b:=by
 rw[zan b _ (by omega)] at h;have e:val (a.take i)*val b+4294967296^i*(a[i]*val b)=val (a.take (i+1))*val b:=by
  rw[zaF a i hi];grind
 rw[e] at h;have h1:=zid ha (i+1);have h2:=zbs hb;have h3:val (a.take (i+1))*val b<4294967296^(i+(b.length+1)):=by
  rw[show i+(b.length+1)=(i+1)+b.length from by omega,zEJ];rcases Nat.eq_zero_or_pos (val b) with h|h
  .rw[h,Nat.mul_zero];exact Nat.mul_pos (Nat.pow_pos (by decide)) (Nat.pow_pos (by decide))
  .exact zEy (Nat.mul_lt_mul_of_pos_right h1 h) (zEX _ (Nat.le_of_lt h2))
 rcases Nat.eq_zero_or_pos c with h5|h5
 .subst h5;omega
 .have:1*4294967296^(i+(b.length+1))<=c*4294967296^(i+(b.length+1)):=zEA _ h5;omega
theorem zxv{a out:List Nat}{i k c x:Nat}(hi:i<a.length)(hl:out.length=k/32+i)(h:val out+c*4294967296^out.length=val (a.take i)*2^k)(hx:x=c+a[i]*2^(k%32)) :
  val (out++[x%4294967296])+(x/4294967296)*4294967296^(out.length+1)=val (a.take (i+1))*2^k:=by
 rw[za4,zaF a i hi,zEI];simp only[zbG,zj4,Nat.mul_zero,Nat.add_zero];have e:4294967296^out.length*x=4294967296^out.length*(x%4294967296)+x/4294967296*(4294967296^out.length*4294967296):=by
  conv=>lhs;rw[<-Nat.mod_add_div x 4294967296]
  grind
 have e2:4294967296^out.length*2^(k%32)=4294967296^i*2^k:=by
  rw[hl,zdh,zdh,<-zEJ,<-zEJ];congr 1;omega
 have e3:4294967296^out.length*x=c*4294967296^out.length+a[i]*(4294967296^out.length*2^(k%32)):=by rw[hx];grind
 rw[e2] at e3;have e4:(val (a.take i)+4294967296^i*a[i])*2^k=val (a.take i)*2^k+a[i]*(4294967296^i*2^k):=by grind
 omega
theorem zqW{d c s:Nat}(hs:s<32)(hd:d<4294967296)(hc:c<2^s):d*2^s<18446744073709551616/\c+d*2^s<18446744073709551616/\(c+d*2^s)/4294967296<2^s/\2^s<=2147483648:=by
 have h1:(2:Nat)^s<=2^31:=zEC (by omega) (by omega);have h2:d*2^s<=4294967295*2^s:=zEA _ (by omega);refine⟨by omega,by omega,?_,by omega⟩;rw[Nat.div_lt_iff_lt_mul (by omega)];omega
theorem zte{x:Nat}(h:0<x):bl x=bl (x/2)+1:=by
 by_cases h2:2<=x
 .have:=zjV (n:=x) (k:=1) (by simpa using h2);simpa using this
 .have:x=1:=by omega
  subst this;decide
theorem znX(out:List Nat)(c:Nat):val (out++[c])=val out+c*4294967296^out.length:=by
 rw[za4];simp[zEU]
theorem zcp{out:List Nat}{c:Nat}(h:Small out)(hc:c<4294967296):Small (out++[c]):=h.append (Small.cons hc Small.nil)
theorem ztg{a:List Nat}(ha:Small a){n:Nat}(h:n/32<a.length):a[n/32]/2^(n%32)%2=val a/2^n%2:=by
 rw[<-zet (val a) n,zb1 a ha,zEW h,zbG];have e:(4294967296:Nat)=2^(n%32)*(2*2^(31-n%32)):=by
  rw[<-Nat.pow_succ',<-zEJ,show n%32+(31-n%32).succ=32 from by omega]
 rw[e,Nat.mul_assoc,Nat.add_mul_div_left _ _ (Nat.pow_pos (by decide)),Nat.mul_assoc,Nat.add_mul_mod_self_left]
theorem zk3{x:Nat}(h:x<4294967296):IntKind.u32.wrap ((BitVec.ofInt IntKind.u32.bits (x:Int) &&& BitVec.ofInt IntKind.u32.bits (1:Int)).toNat)=((x%2:Nat):Int):=by
 rw[BitVec.toNat_and,show(1:Int)=((1:Nat):Int) from rfl,zbT _ x (by simp only[IntKind.bits];omega),zbT _ 1 (by simp only[IntKind.bits];omega),Nat.and_one_is_mod];exact zb0 (by omega)
theorem ze6{A n Q b r:Nat}(h:A/2^(n+1)=Q*b+r):A/2^n=2*Q*b+(2*r+A/2^n%2):=by
 have h1:A/2^(n+1)=A/2^n/2:=by rw[zEI,Nat.div_div_eq_div_mul]
 rw[h1] at h;have h2:=Nat.div_add_mod (A/2^n) 2;rw[h] at h2;have e:2*(Q*b+r)=2*Q*b+2*r:=by grind
 omega
theorem zm4{o:List Nat}{n Q:Nat}(ho:Small o)(hn:n/32<o.length)(h:val o=2^(n+1)*Q) :
  o[n/32]%2^(n%32+1)=0/\o[n/32]+2^(n%32)<4294967296/\val (o.set (n/32) (o[n/32]+2^(n%32)))=2^n*(2*Q+1):=by
 have h1:=zb1 o ho (n/32);rw[zEW hn,zbG] at h1;have e1:2^(n+1)=4294967296^(n/32)*2^(n%32+1):=by
  rw[zdh,<-zEJ];congr 1;omega
 rw[h,e1,Nat.mul_assoc,Nat.mul_div_cancel_left _ (Nat.pow_pos (by decide))] at h1;have e2:(4294967296:Nat)=2^(n%32+1)*2^(31-n%32):=by rw[<-zEJ,show n%32+1+(31-n%32)=32 from by omega]
 have hd:=ho.get (n/32) hn;have h2:o[n/32]%2^(n%32+1)=0:=by
  have h3:(o[n/32]+4294967296*val (o.drop (n/32+1)))%2^(n%32+1)=0:=by rw[<-h1];exact Nat.mul_mod_right _ _
  rw[e2,Nat.mul_assoc,Nat.add_mul_mod_self_left] at h3;exact h3
 refine⟨h2,?_,?_⟩
 .obtain⟨y,hy⟩:=Nat.dvd_of_mod_eq_zero h2;rw[hy] at hd ⊢;have hp:0<2^(n%32):=Nat.pow_pos (by decide);have hy2:y<2^(31-n%32):=by
   rw[e2] at hd;exact Nat.lt_of_mul_lt_mul_left hd
  have h4:2^(n%32+1)*(y+1)<=2^(n%32+1)*2^(31-n%32):=zEX _ hy2;rw[<-e2,Nat.mul_add,Nat.mul_one] at h4;have h5:(2:Nat)^(n%32+1)=2*2^(n%32):=Nat.pow_succ';omega
 .have h3:=zj3 o (n/32) (o[n/32]+2^(n%32)) hn;have e3:2^n=4294967296^(n/32)*2^(n%32):=by rw[zdh,<-zEJ];congr 1;omega
  rw[h] at h3;rw[Nat.mul_add,<-e3,zEI] at h3;have e4:2^n*2*Q=2^n*(2*Q):=by grind
  rw[e4] at h3;rw[Nat.mul_add,Nat.mul_one];omega
theorem or32{a b:Nat}(i:Nat)(ha:a%2^i=0)(hb:b<2^i)(h:a+b<4294967296) :
  IntKind.u32.wrap ((BitVec.ofInt IntKind.u32.bits (a:Int) ||| BitVec.ofInt IntKind.u32.bits (b:Int)).toNat)=((a+b:Nat):Int):=by
 rw[BitVec.toNat_or,zbT _ a (by simp only[IntKind.bits];omega),zbT _ b (by simp only[IntKind.bits];omega),zom i ha hb];exact zb0 h
theorem zg8{x n L:Nat}(h1:x<4294967296^L)(hn:n<bl x):n/32<L:=by
 have h2:bl x<=32*L:=zaA (by rw[<-zdh];exact h1);omega
theorem zqv{b:Bool}{m:List Nat}{hm:Small m}{v:Nat}(h:val m=v):(Zr.mk b m hm).z=sgn b v:=by subst h;rfl
theorem zpK{b:Bool}{n d:List Nat}{hn:Small n}{hd:Small d}{vn vd:Nat}(h1:val n=vn)(h2:val d=vd):(Qr.mk b n d hn hd).q=rq b vn vd:=by subst h1;subst h2;rfl
theorem zrH{x:Qr}{r:Rat}(h:x.q=r):(Qr.mk (!x.neg) x.n x.d x.hn x.hd).q = -r:=by
 subst h;exact zrm x.neg (val x.n) (val x.d)
theorem Fit.neg{k:Nat}{x:Qr}(h:Fit k x):Fit k (Qr.mk (!x.neg) x.n x.d x.hn x.hd):=⟨h.n,h.d⟩
theorem zav{n:Nat}:0<(zaa n).length↔n≠0:=by
 constructor
 .intro h e;subst e;rw[zah] at h;simp at h
 .intro h;exact Nat.pos_of_ne_zero (fun e=>h (za2.1 (zEB e)))
theorem zvY(n:Nat):V.agg [Leaf.val (.bool false),zaf (zaa n)]=zV (zOf (sgn false n)):=by
 show V.agg _=V.agg [Leaf.val (.bool (decide (sgn false n<0))),zaf (zaa (sgn false n).natAbs)];rw[zcN,decide_eq_false (by rw[zec];omega)]
theorem zvX(n:Nat):V.agg [Leaf.val (.bool (decide ((0:Int)<((zaa n).length:Nat)))),zaf (zaa n)]=zV (zOf (sgn true n)):=by
 show V.agg _=V.agg [Leaf.val (.bool (decide (sgn true n<0))),zaf (zaa (sgn true n).natAbs)];rw[zcN];have h:=zav (n:=n);have e:decide ((0:Int)<((zaa n).length:Nat))=decide (sgn true n<0):=decide_eq_decide.2 (by rw[zdO];omega);rw[e]
theorem zg7{n:Nat}:bl n=0↔n=0:=by
 constructor
 .intro h;by_cases e:n=0
  .exact e
  .have:=zmF e;omega
 .rintro rfl;rfl
theorem zuc{x:Zr}(h:bl (val x.m)=0):sgz x.z=0:=by
 unfold Zr.z;rw[zg7.1 h];cases x.neg <;> rfl
theorem zqX{x:Zr}(h:val x.m=0):sgz x.z=0:=by
 unfold Zr.z;rw[h];cases x.neg <;> rfl
theorem zxx{x:Zr}(h:val x.m≠0)(hn:x.neg=true):sgz x.z = -1:=by
 unfold Zr.z sgz;rw[hn,zdO,if_pos (by omega)]
theorem zxw{x:Zr}(h:val x.m≠0)(hn:x.neg=false):sgz x.z=1:=by
 unfold Zr.z sgz;rw[hn,zec,if_neg (by omega),if_neg (by omega)]
theorem zlk{x y:Zr}(h:x.neg=y.neg):sgn x.neg (val x.m+val y.m)=x.z+y.z:=by
 unfold Zr.z;rw[<-h];cases x.neg <;> simp <;> omega
theorem zqA{x y:Zr}(h:x.neg≠y.neg)(hlt:val x.m<=val y.m):sgn y.neg (val y.m-val x.m)=x.z+y.z:=by
 unfold Zr.z;cases hx:x.neg <;> cases hy:y.neg <;> simp[hx,hy] at h ⊢ <;> omega
theorem zqB{x y:Zr}(h:x.neg≠y.neg)(hge:val y.m<=val x.m):sgn x.neg (val x.m-val y.m)=x.z+y.z:=by
 unfold Zr.z;cases hx:x.neg <;> cases hy:y.neg <;> simp[hx,hy] at h ⊢ <;> omega
theorem zbx(z:Int):(z<0/\sgz z = -1)\/(z=0/\sgz z=0)\/(0<z/\sgz z=1):=by
 unfold sgz;split
 .exact .inl ⟨by assumption,rfl⟩
 .split
  .exact .inr (.inl ⟨by assumption,rfl⟩)
  .exact .inr (.inr ⟨by omega,rfl⟩)
theorem zzy{a b:Int}(h:a<b):zoZ a b = -1:=by unfold zoZ;rw[if_pos h]
theorem zzz{a b:Int}(h:b<a):zoZ a b=1:=by unfold zoZ;rw[if_neg (by omega),if_neg (by omega)]
theorem zqc{a b:Int}(h:sgz a<sgz b):zoZ a b = -1:=by
 have h1:=zbx a;have h2:=zbx b;exact zzy (by omega)
theorem zqd{a b:Int}(h:sgz b<sgz a):zoZ a b=1:=by
 have h1:=zbx a;have h2:=zbx b;exact zzz (by omega)
theorem zvf{x y:Zr}(h:sgz x.z=sgz y.z)(hn:sgz x.z<0):zgM (val y.m) (val x.m)=zoZ x.z y.z:=by
 have h1:=zbx x.z;have h2:=zbx y.z;have a1:x.z<0:=by omega
 have a2:y.z<0:=by omega
 clear h1 h2 h hn;unfold Zr.z at *;cases hx:x.neg <;> cases hy:y.neg <;> rw[hx] at a1 <;> rw[hy] at a2 <;> simp at a1 a2
 .omega
 .omega
 .omega
 .simp only[zdO];unfold zgM zoZ
  repeat' split
  all_goals omega
theorem zve{x y:Zr}(h:sgz x.z=sgz y.z)(hn:¬sgz x.z<0):zgM (val x.m) (val y.m)=zoZ x.z y.z:=by
 have h1:=zbx x.z;have h2:=zbx y.z;have a:(x.z=0/\y.z=0)\/(0<x.z/\0<y.z):=by omega
 clear h1 h2 h hn;have e1:x.z=val x.m:=by
  unfold Zr.z at *;cases hx:x.neg <;> rw[hx] at a <;> simp at a ⊢ <;> omega
 have e2:y.z=val y.m:=by
  unfold Zr.z at *;cases hy:y.neg <;> rw[hy] at a <;> simp at a ⊢ <;> omega
 rw[e1,e2];unfold zgM zoZ
 repeat' split
 all_goals omega
def dl(d:List Nat):List Nat:=if val d=0 then[1] else d
theorem zfA(d:List Nat):val (dl d)=dn (val d):=by unfold dl dn;split <;> simp_all
theorem zcU{d:List Nat}(h:Small d):Small (dl d):=by
 unfold dl;split
 .exact Small.cons (by omega) Small.nil
 .exact h
theorem zfF{d:List Nat}{k k':Nat}(h:d.length<=k)(hk:k+1<=k'):(dl d).length<=k':=by
 unfold dl;split
 .simp;omega
 .omega
theorem zzt{d:List Nat}(h:bl (val d)=0):dl d=[1]:=by unfold dl;rw[if_pos (zg7.1 h)]
theorem dl_of{d:List Nat}(h:¬bl (val d)=0):dl d=d:=by unfold dl;rw[if_neg (fun e=>h (zg7.2 e))]
theorem zdw:zaa 1=[1]:=by rw[zdv (by decide)];simp[zah]
theorem zb6{n:Nat}:zaa n=[1]↔n=1:=by
 constructor
 .intro h;have:=zac n;rw[h] at this;simpa using this.symm
 .rintro rfl;exact zdw
theorem zhP(b:Bool){n d:Nat}(hn:n≠0)(hd:d≠0) :
  qV (qOf (rq b n d))=V.agg [Leaf.val (.bool b),zaf (zaa (n/Nat.gcd n d)),zaf (zaa (if d/Nat.gcd n d=1 then 0 else d/Nat.gcd n d))]:=by
 show V.agg [Leaf.val (.bool (zaQ (rq b n d))),zaf (zaa (zaw (rq b n d))),zaf (zaa (zaE (rq b n d)))]=_;rw[zny,ziU,zc1 hd,decide_eq_true hn,Bool.and_true];unfold zaE;rw[zmt,zc1 hd]
theorem zef(b:Bool){n d:Nat}(hd:d≠0) :
  qV (qOf (rq b n d))=V.agg [Leaf.val (.bool (b&&decide (n≠0))),zaf (zaa (n/Nat.gcd n d)),zaf (zaa (if d/Nat.gcd n d=1 then 0 else d/Nat.gcd n d))]:=by
 show V.agg [Leaf.val (.bool (zaQ (rq b n d))),zaf (zaa (zaw (rq b n d))),zaf (zaa (zaE (rq b n d)))]=_;rw[zny,ziU,zc1 hd];unfold zaE;rw[zmt,zc1 hd]
theorem zrE(b:Bool)(d:Nat):qV qZero=qV (qOf (rq b 0 d)):=by rw[znb];exact zc8
theorem zDA{n g:Nat}(hn:n≠0)(h:g ∣ n):n/g≠0:=by
 obtain⟨k,rfl⟩:=h;have hg:0<g:=Nat.pos_of_ne_zero (fun e=>hn (by rw[e,Nat.zero_mul]));rw[Nat.mul_div_cancel_left _ hg];intro e;exact hn (by rw[e,Nat.mul_zero])
theorem q_add(a b:Bool)(m n d e:Nat)(S:Int)(hS:S=sgn a m*sgn false (dn e)+sgn b n*sgn false (dn d)) :
  rq (decide (S<0)) S.natAbs (dn d*dn e)=rq a m d+rq b n e:=by
 refine zog a b m n d e S ?_;rw[hS];cases a <;> cases b <;> simp[Int.neg_mul]
theorem zBi(a b:Bool)(m n d e:Nat)(S:Int)(hS:S=sgn a (m*dn e)+sgn b (n*dn d)) :
  rq (decide (S<0)) S.natAbs (dn d*dn e)=rq a m d+rq b n e:=zog a b m n d e S hS
theorem zqg(a b:Bool)(m n d e:Nat):zoZ (sgn a m*sgn false (dn e)) (sgn b n*sgn false (dn d))=zft (rq a m d) (rq b n e):=(zzA a b m n d e).symm
theorem zqe{p q:Rat}(h:sg p<sg q):zft p q = -1:=by
 unfold zft;rw[if_pos];unfold sg at h;grind
theorem zqf{p q:Rat}(h:sg p≠sg q)(h':¬sg p<sg q):zft p q=1:=by
 unfold zft;unfold sg at h h';rw[if_neg,if_neg] <;> grind
theorem mx_ge{r s:Rat}(h:0<=zft r s):mx r s=r:=by unfold mx;rw[if_pos (zg6.1 h)]
theorem mx_lt{r s:Rat}(h:¬0<=zft r s):mx r s=s:=by unfold mx;rw[if_neg (fun e=>h (zg6.2 e))]
def isC(x:Qr):Bool:=(x.neg == zaQ x.q)&&decide (x.n=zaa (zaw x.q))&&decide (x.d=zaa (zaE x.q))
theorem zno{x:Qr}:isC x=true↔x=qOf x.q:=by
 unfold isC;rw[zED,zED,beq_iff_eq,decide_eq_true_eq,decide_eq_true_eq];constructor
 .rintro⟨⟨h1,h2⟩,h3⟩;obtain⟨b,n,d,hn,hd⟩:=x;simp only at h1 h2 h3;show _=Qr.mk _ _ _ _ _;congr
 .intro h;refine⟨⟨?_,?_⟩,?_⟩
  .have:=congrArg Qr.neg h;exact this
  .have:=congrArg Qr.n h;exact this
  .have:=congrArg Qr.d h;exact this
theorem zlx{a b:List Nat}(ha:Small a)(hb:Small b)(hl:a.length=b.length)(hv:val a=val b):a=b:=by
 rw[znf ha,znf hb,hl,hv]
theorem zsM{a b:Nat}:zgM a b=0↔a=b:=by
 unfold zgM;split
 .exact⟨fun h=>absurd h (by decide),fun h=>by omega⟩
 .split
  .exact⟨fun _=>by assumption,fun _=>rfl⟩
  .exact⟨fun h=>absurd h (by decide),fun h=>absurd h (by assumption)⟩
theorem znn{x:Qr}(hd:x.d.length=0):isC x=(decide (∀h:x.n≠[],x.n.getLast h≠0)&&(!x.neg||decide (0<x.n.length))):=by
 obtain⟨b,n,d,hn,hdd⟩:=x;simp only at hd;have hd0:=zEB hd;subst hd0;have hq:(Qr.mk b n [] hn hdd).q=rq b (val n) 0:=rfl;apply Bool.eq_iff_iff.2;unfold isC;rw[hq];simp only[];rw[zny,ziU];have hden:zaE (rq b (val n) 0)=0:=by unfold zaE;rw[zmt];simp
 rw[hden,zah];simp only[znv,Nat.gcd_one_right,Nat.div_one,zED,decide_eq_true_eq,beq_iff_eq,Bool.or_eq_true,Bool.not_eq_true',ne_eq,decide_true,and_true];constructor
 .rintro⟨h1,h2⟩;have hc:=zcS (val n);rw[<-h2] at hc;refine⟨fun h=>hc.2 h,?_⟩
  cases b with
  |false=>exact .inl rfl
  |true=>
   right;simp at h1;rw[h2];exact zav.2 h1
 .rintro⟨h1,h2⟩;have hc:Canon n:=⟨hn,fun h=>h1 h⟩;refine⟨?_,hc.eq⟩;rcases h2 with h2|h2
  .subst h2;simp
  .have:val n≠0:=by
    rw[hc.eq] at h2;exact zav.1 h2
   simp[this]
theorem ziJ{x:Qr}:isC x=((x.neg == zaQ x.q)&&((x.n.length:Int) == ((zaa (zaw x.q)).length:Nat))&&((x.d.length:Int) == ((zaa (zaE x.q)).length:Nat))&&(zgM (val x.n) (zaw x.q) == 0)&&(zgM (val x.d) (zaE x.q) == 0)):=by
 apply Bool.eq_iff_iff.2;unfold isC;simp only[zED,beq_iff_eq,decide_eq_true_eq,zsM];constructor
 .rintro⟨⟨h1,h2⟩,h3⟩;exact⟨⟨⟨⟨h1,by rw[<-h2]⟩,by rw[<-h3]⟩,by rw[h2,zac]⟩,by rw[h3,zac]⟩
 .rintro⟨⟨⟨⟨h1,h2⟩,h3⟩,h4⟩,h5⟩;exact⟨⟨h1,zlx x.hn (zab _) (by omega) (by rw[zac];exact h4)⟩,zlx x.hd (zab _) (by omega) (by rw[zac];exact h5)⟩
end Rc
namespace Rc
open Go Go.RowKit
abbrev Tm:Type:=Nat×Rat
def qL(r:Rat):List Leaf:=[Leaf.val (.bool (zaQ r)),zaf (zaa (zaw r)),zaf (zaa (zaE r))]
def tmE:El Tm:=⟨fun t=>[Leaf.val (.int .i64 (t.1:Int)),Leaf.val (.bool (zaQ t.2)),zaf (zaa (zaw t.2)),zaf (zaa (zaE t.2))],4,fun _=>rfl,fun _=>rfl⟩
structure Af where
 ts:List Tm
 c:Rat
@[reducible] def afL(f:Af):List Leaf:=[tmE.row f.ts,Leaf.val (.bool (zaQ f.c)),zaf (zaa (zaw f.c)),zaf (zaa (zaE f.c))]
@[reducible] def afV(f:Af):V:=V.agg (afL f)
def afE:El Af:=⟨fun f=>[tmE.row f.ts,Leaf.val (.bool (zaQ f.c)),zaf (zaa (zaw f.c)),zaf (zaa (zaE f.c))],4,fun _=>rfl,fun _=>rfl⟩
def nz(l:List Tm)(t:Tm):List Tm:=if t.2=0 then l else l++[t]
theorem zhj{l:List Tm}{v:Nat}{c:Rat}(h:c=0):nz l (v,c)=l:=if_pos h
theorem ze0{l:List Tm}{v:Nat}{c:Rat}(h:¬c=0):nz l (v,c)=l++[(v,c)]:=if_neg h
theorem zhz(l:List Tm)(t:Tm):(tmE.all l).length<=(tmE.all (nz l t)).length:=by
 unfold nz;split
 .exact zEt _
 .rw[El.all_append,zEF];omega
theorem zgR{c:Rat}(h:¬c=0):sg c≠0:=by
 unfold sg;rw[if_neg h];split <;> decide
def scT(ts:List Tm)(c:Rat):List Tm:=ts.foldl (fun out t=>nz out (t.1,t.2*c)) []
theorem zuf(ts:List Tm)(t:Tm)(c:Rat):scT (ts++[t]) c=nz (scT ts c) (t.1,t.2*c):=by
 unfold scT;rw[zER];rfl
theorem zaO{α:Type}{l:List α}{i:Nat}{x:α}(h:l[i]?=some x):l.take (i+1)=l.take i++[x]:=by
 rw[List.take_add_one,h];rfl
theorem zue{ts:List Tm}{i:Nat}{x:Tm}{c:Rat}(h:ts[i]?=some x):scT (ts.take (i+1)) c=nz (scT (ts.take i) c) (x.1,x.2*c):=by
 rw[zaO h,zuf]
theorem zeI(l:List Tm)(t:Tm):(nz l t).length<=l.length+1:=by
 unfold nz;split <;> simp
theorem zq2(ts:List Tm)(c:Rat):(scT ts c).length<=ts.length:=by
 have:∀(ts out:List Tm),(ts.foldl (fun out t=>nz out (t.1,t.2*c)) out).length<=out.length+ts.length:=by
  intro ts
  induction ts with
  |nil=>intro out;simp
  |cons t ts ih=>
   intro out;have h1:=ih (nz out (t.1,t.2*c));have h2:=zeI out (t.1,t.2*c);simp only[List.foldl_cons,List.length_cons];omega
 have:=this ts [];simpa[scT] using this
def zd7:List Tm->Nat->Rat->List Tm
 |[],v,c=>if c=0 then[] else[(v,c)]
 |(w,d)::ts,v,c=>if w=v then(if d+c=0 then ts else(w,d+c)::ts) else if v<w then(if c=0 then(w,d)::ts else(v,c)::(w,d)::ts) else(w,d)::zd7 ts v c
def CanT:List Tm->Prop
 |[]=>True
 |(w,d)::ts=>d≠0/\(∀t∈ts,w<t.1)/\CanT ts
def co:List Tm->Nat->Rat
 |[],_=>0
 |(w,d)::ts,v=>if w=v then d else co ts v
theorem zdb{ts:List Tm}{v:Nat}(h:∀t∈ts,v<t.1):co ts v=0:=by
 induction ts with
 |nil=>rfl
 |cons t ts ih=>
  have h1:=h t (by simp);unfold co;rw[if_neg (by omega)];exact ih fun u hu=>h u (by simp[hu])
theorem ziT:∀{a b:List Tm},CanT a->CanT b->(∀v,co a v=co b v)->a=b
 |[],[],_,_,_=>rfl
 |[],(w,d)::b,_,hb,h=>by
  have:=h w;unfold co at this;rw[if_pos rfl] at this;exact absurd this.symm hb.1
 |(w,d)::a,[],ha,_,h=>by
  have:=h w;unfold co at this;rw[if_pos rfl] at this;exact absurd this ha.1
 |(w,d)::a,(x,e)::b,ha,hb,h=>by
  obtain⟨a1,a2,a3⟩:=ha;obtain⟨b1,b2,b3⟩:=hb;have hw:=h w;have hx:=h x;unfold co at hw hx;rw[if_pos rfl] at hw hx;by_cases e1:w=x
  .subst e1;rw[if_pos rfl] at hw;subst hw;rw[ziT a3 b3 fun v=>?_];have:=h v;unfold co at this;by_cases e2:w=v
   .subst e2;rw[zdb a2,zdb b2]
   .rwa [if_neg e2,if_neg e2] at this
  .exfalso;rw[if_neg (fun e=>e1 e.symm)] at hw;rw[if_neg e1] at hx;by_cases e2:w<x
   .rw[zdb (fun t ht=>Nat.lt_trans e2 (b2 t ht))] at hw;exact a1 hw
   .rw[zdb (fun t ht=>Nat.lt_trans (show x<w by omega) (a2 t ht))] at hx;exact b1 hx.symm
theorem zpf{ts:List Tm}{v:Nat}{c:Rat}{t:Tm}(h:t∈zd7 ts v c):t.1=v \/ ∃u∈ts,u.1=t.1:=by
 induction ts with
 |nil=>
  unfold zd7 at h;split at h
  .simp at h
  .simp at h;subst h;exact .inl rfl
 |cons u ts ih=>
  obtain⟨w,d⟩:=u;unfold zd7 at h;split at h
  .split at h
   .exact .inr ⟨t,by simp[h],rfl⟩
   .rcases zET.1 h with h|h
    .subst h;exact .inr ⟨(w,d),by simp,rfl⟩
    .exact .inr ⟨t,by simp[h],rfl⟩
  .split at h
   .split at h
    .exact .inr ⟨t,h,rfl⟩
    .rcases zET.1 h with h|h
     .subst h;exact .inl rfl
     .exact .inr ⟨t,h,rfl⟩
   .rcases zET.1 h with h|h
    .subst h;exact .inr ⟨(w,d),by simp,rfl⟩
    .rcases ih h with h|⟨u,hu,he⟩
     .exact .inl h
     .exact .inr ⟨u,by simp[hu],he⟩
theorem zh5:∀{ts:List Tm} {v:Nat} {c:Rat},CanT ts->CanT (zd7 ts v c)
 |[],v,c,_=>by
  unfold zd7;split
  .trivial
  .rename_i h;exact⟨h,fun t ht=>by simp at ht,trivial⟩
 |(w,d)::ts,v,c,h=>by
  obtain⟨h1,h2,h3⟩:=h;unfold zd7;split
  .split
   .exact h3
   .rename_i h4;exact⟨h4,h2,h3⟩
  .split
   .rename_i h4;split
    .exact⟨h1,h2,h3⟩
    .rename_i h5;refine⟨h5,fun t ht=>?_,h1,h2,h3⟩;rcases zET.1 ht with ht|ht
     .subst ht;exact h4
     .exact Nat.lt_trans h4 (h2 t ht)
   .refine⟨h1,fun t ht=>?_,zh5 h3⟩;rcases zpf ht with ht|⟨u,hu,he⟩
    .omega
    .rw[<-he];exact h2 u hu
theorem znx:∀{ts:List Tm} {v:Nat} {c:Rat},CanT ts->∀x,co (zd7 ts v c) x=co ts x+if x=v then c else 0
 |[],v,c,_,x=>by
  unfold zd7;by_cases h:c=0
  .rw[if_pos h];subst h;simp[co];grind
  .rw[if_neg h];by_cases e:x=v
   .subst e;simp[co];grind
   .rw[if_neg e];unfold co;rw[if_neg (fun e'=>e e'.symm)];simp[co];grind
 |(w,d)::ts,v,c,h,x=>by
  obtain⟨h1,h2,h3⟩:=h;unfold zd7;by_cases e1:w=v
  .subst e1;rw[if_pos rfl];by_cases e2:d+c=0
   .rw[if_pos e2];by_cases e3:x=w
    .subst e3;rw[if_pos rfl,zdb h2];unfold co;rw[if_pos rfl,e2]
    .rw[if_neg e3];show co ts x=(if w=x then d else co ts x)+0;rw[if_neg (fun e=>e3 e.symm)];grind
   .rw[if_neg e2];by_cases e3:x=w
    .subst e3;unfold co;rw[if_pos rfl,if_pos rfl,if_pos rfl]
    .rw[if_neg e3];unfold co;rw[if_neg (fun e=>e3 e.symm),if_neg (fun e=>e3 e.symm)];grind
  .rw[if_neg e1];by_cases e2:v<w
   .rw[if_pos e2];by_cases e3:c=0
    .rw[if_pos e3];subst e3;simp;grind
    .rw[if_neg e3];by_cases e4:x=v
     .subst e4;rw[if_pos rfl,zdb (ts:=(w,d)::ts) (fun t ht=>by
       rcases zET.1 ht with ht|ht
       .subst ht;exact e2
       .exact Nat.lt_trans e2 (h2 t ht))]
      show(if x=x then c else _)=_;rw[if_pos rfl];grind
     .rw[if_neg e4];show(if v=x then c else co ((w,d)::ts) x)=_;rw[if_neg (fun e=>e4 e.symm)];grind
   .rw[if_neg e2];show(if w=x then d else co (zd7 ts v c) x)=(if w=x then d else co ts x)+_;by_cases e3:w=x
    .subst e3;rw[if_pos rfl,if_pos rfl,if_neg e1];grind
    .rw[if_neg e3,if_neg e3];exact znx h3 x
theorem CanT.get:∀{ts:List Tm} {i:Nat} {x:Tm},CanT ts->ts[i]?=some x->x.2≠0/\(∀t∈ts.drop (i+1),x.1<t.1)/\∀t∈ts.take i,t.1<x.1
 |[],i,x,_,h=>by simp at h
 |(w,d)::ts,0,x,hc,h=>by
  simp at h;subst h;exact⟨hc.1,by simpa using hc.2.1,by simp⟩
 |(w,d)::ts,i+1,x,hc,h=>by
  obtain⟨h1,h2,h3⟩:=hc;have hx:ts[i]?=some x:=by simpa using h
  obtain⟨q1,q2,q3⟩:=h3.get hx;refine⟨q1,by simpa using q2,fun t ht=>?_⟩;rw[List.take_succ_cons] at ht;rcases zET.1 ht with ht|ht
  .subst ht;exact h2 x (zEq hx)
  .exact q3 t ht
theorem CanT.prev{ts:List Tm}{i:Nat}{x y:Tm}(h:CanT ts)(hi:0<i)(hx:ts[i]?=some x)(hy:ts[i-1]?=some y):y.1<x.1:=by
 refine(h.get hx).2.2 y ?_;rw[List.mem_take_iff_getElem];obtain⟨h1,h2⟩:=zEr.1 hy;exact⟨i-1,by omega,h2⟩
def PlI(ts:List Tm)(v:Nat)(c:Rat)(i:Nat)(out:List Tm)(done:Bool):Prop:=
 if done=true then out++ts.drop i=zd7 ts v c/\∀t∈ts.drop i,v<t.1 else out=ts.take i/\∀t∈ts.take i,t.1<v
theorem zbb{α:Type}{l:List α}{i:Nat}{x:α}(h:l[i]?=some x):l.drop i=x::l.drop (i+1):=by
 obtain⟨h1,h2⟩:=zEr.1 h;rw[zEW h1,h2]
theorem zvB{w v:Nat}{d c:Rat}{ts:List Tm}(h:w<v):zd7 ((w,d)::ts) v c=(w,d)::zd7 ts v c:=by
 show(if w=v then _ else if v<w then _ else _)=_;rw[if_neg (show ¬w=v by omega),if_neg (show ¬v<w by omega)]
theorem zvA{w v:Nat}{d c:Rat}{ts:List Tm}(h:v<w):zd7 ((w,d)::ts) v c=if c=0 then(w,d)::ts else(v,c)::(w,d)::ts:=by
 show(if w=v then _ else if v<w then _ else _)=_;rw[if_neg (show ¬w=v by omega),if_pos h]
theorem zzW{w:Nat}{d c:Rat}{ts:List Tm}:zd7 ((w,d)::ts) w c=if d+c=0 then ts else(w,d+c)::ts:=by
 show(if w=w then _ else _)=_;rw[if_pos rfl]
theorem zi5:∀{a b:List Tm} {v:Nat} {c:Rat},(∀t∈a,t.1<v)->zd7 (a++b) v c=a++zd7 b v c
 |[],b,v,c,_=>rfl
 |(w,d)::a,b,v,c,h=>by
  have h1:w<v:=h (w,d) (by simp);show zd7 ((w,d)::(a++b)) v c=(w,d)::(a++zd7 b v c);rw[zvB h1,zi5 fun t ht=>h t (by simp[ht])]
theorem PlI.start(ts:List Tm)(v:Nat)(c:Rat):PlI ts v c 0 [] false:=by
 unfold PlI;rw[if_neg (by decide)];exact⟨by simp,by simp⟩
theorem PlI.eq{ts:List Tm}{v i:Nat}{c:Rat}{out:List Tm}{done:Bool}{x:Tm}(hc:CanT ts)(h:PlI ts v c i out done)(hx:ts[i]?=some x)(e:x.1=v):PlI ts v c (i+1) (nz out (x.1,x.2+c)) true:=by
 cases hd:done with
 |true=>
  subst hd;unfold PlI at h;rw[if_pos rfl] at h;have:=h.2 x (by rw[zbb hx];simp);omega
 |false=>
  subst hd;unfold PlI at h ⊢;rw[if_neg (by decide)] at h;rw[if_pos rfl];obtain⟨h1,h2⟩:=h;subst e;refine⟨?_,(hc.get hx).2.1⟩;have h3:ts=ts.take i++x::ts.drop (i+1):=by rw[<-zbb hx,List.take_append_drop]
  rw[show zd7 ts x.1 c=ts.take i++zd7 (x::ts.drop (i+1)) x.1 c from by
   conv=>lhs;rw[h3]
   exact zi5 h2]
  obtain⟨w,d⟩:=x;rw[zzW,h1];by_cases e0:d+c=0
  .rw[if_pos e0,zhj e0]
  .rw[if_neg e0,ze0 e0];simp
theorem PlI.ins{ts:List Tm}{v i:Nat}{c:Rat}{out:List Tm}{x:Tm}(hc:CanT ts)(h:PlI ts v c i out false)(hx:ts[i]?=some x)(e:v<x.1):PlI ts v c (i+1) (nz (nz out (v,c)) (x.1,x.2)) true:=by
 unfold PlI at h ⊢;rw[if_neg (by decide)] at h;rw[if_pos rfl];obtain⟨h1,h2⟩:=h;obtain⟨q1,q2,q3⟩:=hc.get hx;refine⟨?_,fun t ht=>Nat.lt_trans e (q2 t ht)⟩;have h3:ts=ts.take i++x::ts.drop (i+1):=by rw[<-zbb hx,List.take_append_drop]
 rw[show zd7 ts v c=ts.take i++zd7 (x::ts.drop (i+1)) v c from by
  conv=>lhs;rw[h3]
  exact zi5 h2]
 obtain⟨w,d⟩:=x;have q1:d≠0:=q1;rw[zvA e,ze0 q1,h1];by_cases e0:c=0
 .rw[if_pos e0,zhj e0];simp
 .rw[if_neg e0,ze0 e0];simp
theorem PlI.less{ts:List Tm}{v i:Nat}{c:Rat}{out:List Tm}{x:Tm}(hc:CanT ts)(h:PlI ts v c i out false)(hx:ts[i]?=some x)(e:x.1<v):PlI ts v c (i+1) (nz out (x.1,x.2)) false:=by
 unfold PlI at h ⊢;rw[if_neg (by decide)] at h ⊢;obtain⟨h1,h2⟩:=h;obtain⟨q1,q2,q3⟩:=hc.get hx;rw[zaO hx,ze0 q1,h1];refine⟨rfl,fun t ht=>?_⟩;rcases zEK.1 ht with ht|ht
 .exact h2 t ht
 .simp at ht;subst ht;exact e
theorem PlI.rest{ts:List Tm}{v i:Nat}{c:Rat}{out:List Tm}{x:Tm}(hc:CanT ts)(h:PlI ts v c i out true)(hx:ts[i]?=some x):PlI ts v c (i+1) (nz out (x.1,x.2)) true:=by
 unfold PlI at h ⊢;rw[if_pos rfl] at h ⊢;obtain⟨h1,h2⟩:=h;obtain⟨q1,q2,q3⟩:=hc.get hx;rw[zbb hx] at h1 h2;rw[ze0 q1];exact⟨by rw[<-h1];simp,fun t ht=>h2 t (by simp[ht])⟩
theorem PlI.fin_t{ts:List Tm}{v i:Nat}{c:Rat}{out:List Tm}(h:PlI ts v c i out true)(hi:ts.length<=i):out=zd7 ts v c:=by
 unfold PlI at h;rw[if_pos rfl,List.drop_of_length_le hi] at h;simpa using h.1
theorem PlI.fin_f{ts:List Tm}{v i:Nat}{c:Rat}{out:List Tm}(h:PlI ts v c i out false)(hi:ts.length<=i):nz out (v,c)=zd7 ts v c:=by
 unfold PlI at h;rw[if_neg (by decide),zEY hi] at h;obtain⟨h1,h2⟩:=h;subst h1;rw[show zd7 out v c=zd7 (out++[]) v c from by rw[zEN],zi5 h2];show nz out (v,c)=out++(if c=0 then[] else[(v,c)]);by_cases e0:c=0
 .rw[if_pos e0,zhj e0];simp
 .rw[if_neg e0,ze0 e0]
theorem zn2{ts:List Tm}{i n:Nat}{x:Tm}(h:ts[i]?=some x)(ha:∀t∈ts.take i,t.1<n)(hx:x.1<n):∀t∈ts.take (i+1),t.1<n:=by
 rw[zaO h];intro t ht;rcases zEK.1 ht with ht|ht
 .exact ha t ht
 .simp at ht;subst ht;exact hx
theorem zzP{ts:List Tm}{i n:Nat}{x:Tm}(h:ts[i]?=some x)(hx:n<=x.1):decide (∀t∈ts,t.1<n)=false:=by
 refine decide_eq_false fun ha=>?_;have:=ha x (zEq h);omega
theorem af0(ts:List Tm):afV ⟨ts,0⟩=V.agg [tmE.row ts,Leaf.val (.bool false),nilL,nilL]:=by
 show V.agg [tmE.row ts,Leaf.val (.bool (zaQ 0)),zaf (zaa (zaw 0)),zaf (zaa (zaE 0))]=_;rw[zbp,zbq,zah];rfl
def zgQ(f g:List Tm):List Tm:=g.foldl (fun a t=>zd7 a t.1 t.2) f
theorem zqN(f g:List Tm)(t:Tm):zgQ f (g++[t])=zd7 (zgQ f g) t.1 t.2:=by
 unfold zgQ;rw[zER];rfl
theorem zqM{f g:List Tm}{i:Nat}{x:Tm}(h:g[i]?=some x):zgQ f (g.take (i+1))=zd7 (zgQ f (g.take i)) x.1 x.2:=by
 rw[zaO h,zqN]
theorem zch:∀{g f:List Tm},CanT f->CanT (zgQ f g)
 |[],f,h=>h
 |t::g,f,h=>zch (g:=g) (zh5 (v:=t.1) (c:=t.2) h)
theorem zfU:∀{g f:List Tm},CanT f->CanT g->∀x,co (zgQ f g) x=co f x+co g x
 |[],f,_,_,x=>by show co f x=co f x+0;grind
 |(w,d)::g,f,hf,hg,x=>by
  show co (zgQ (zd7 f w d) g) x=_;rw[zfU (zh5 hf) hg.2.2 x,znx hf x];show _=co f x+(if w=x then d else co g x);by_cases e:x=w
  .subst e;rw[if_pos rfl,if_pos rfl,zdb hg.2.1];grind
  .rw[if_neg e,if_neg (fun h=>e h.symm)];grind
theorem ziX:∀{l:List Tm} {i:Nat},CanT l->CanT (l.take i)
 |[],i,_=>by simp[CanT]
 |(w,d)::l,0,_=>trivial
 |(w,d)::l,i+1,h=>⟨h.1,fun t ht=>h.2.1 t (List.mem_of_mem_take ht),ziX h.2.2⟩
theorem zfE:∀{l:List Tm} {t:Tm},CanT l->t∈l->co l t.1=t.2
 |(w,d)::l,t,h,ht=>by
  rcases zET.1 ht with ht|ht
  .subst ht;show(if w=w then d else _)=d;rw[if_pos rfl]
  .have:=h.2.1 t ht;show(if w=t.1 then d else co l t.1)=t.2;rw[if_neg (by omega)];exact zfE h.2.2 ht
theorem zqb{l:List Tm}{B:Nat}(h:∀t∈l,Br t.2 B)(x:Nat):Br (co l x) B:=by
 induction l with
 |nil=>exact Br.zero.mono (zEv _)
 |cons t l ih=>
  obtain⟨w,d⟩:=t;show Br (if w=x then d else co l x) B;split
  .exact h (w,d) (by simp)
  .exact ih fun u hu=>h u (by simp[hu])
theorem zm0{f g:List Tm}{B C:Nat}(hf:CanT f)(hg:CanT g)(h1:∀t∈f,Br t.2 B)(h2:∀t∈g,Br t.2 C):∀t∈zgQ f g,Br t.2 (B+C+1):=by
 intro t ht;rw[<-zfE (zch hf) ht,zfU hf hg];haveI:=zqb h1 t.1;haveI:=zqb h2 t.1;exact Br.add
theorem zvz(ts:List Tm)(v:Nat)(c:Rat):(zd7 ts v c).length<=ts.length+1:=by
 induction ts with
 |nil=>unfold zd7;split <;> simp
 |cons t ts ih=>
  obtain⟨w,d⟩:=t;unfold zd7;split
  .split <;> simp;omega
  .split
   .split <;> simp
   .simp only[List.length_cons];omega
theorem zhI:∀(g f:List Tm),(zgQ f g).length<=f.length+g.length
 |[],f=>by show f.length<=_;simp
 |t::g,f=>by
  have h1:=zhI g (zd7 f t.1 t.2);have h2:=zvz f t.1 t.2;show(zgQ (zd7 f t.1 t.2) g).length<=_;simp only[List.length_cons];omega
theorem zfd{n:Nat}:∀{g f:List Tm},(∀t∈f,t.1<n)->(∀t∈g,t.1<n)->∀t∈zgQ f g,t.1<n
 |[],f,h1,_=>h1
 |u::g,f,h1,h2=>by
  refine zfd (g:=g) (f:=zd7 f u.1 u.2) (fun t ht=>?_) (fun t ht=>h2 t (by simp[ht]));rcases zpf ht with h|⟨w,hw,he⟩
  .rw[h];exact h2 u (by simp)
  .rw[<-he];exact h1 w hw
def scR(c:Rat):List Tm->List Tm
 |[]=>[]
 |t::ts=>if t.2*c=0 then scR c ts else(t.1,t.2*c)::scR c ts
theorem zed(ts:List Tm)(c:Rat):scT ts c=scR c ts:=by
 have:∀(ts out:List Tm),ts.foldl (fun out t=>nz out (t.1,t.2*c)) out=out++scR c ts:=by
  intro ts
  induction ts with
  |nil=>intro out;simp[scR]
  |cons t ts ih=>
   intro out;rw[List.foldl_cons,ih];show nz out (t.1,t.2*c)++scR c ts=out++(if t.2*c=0 then scR c ts else(t.1,t.2*c)::scR c ts);by_cases e:t.2*c=0
   .rw[zhj e,if_pos e]
   .rw[ze0 e,if_neg e];simp
 have:=this ts [];simpa[scT] using this
theorem zeu{c:Rat}:∀{ts:List Tm} {t:Tm},t∈scR c ts->∃u∈ts,u.1=t.1/\t.2=u.2*c/\t.2≠0
 |u::ts,t,h=>by
  unfold scR at h;split at h
  .obtain⟨w,h1,h2⟩:=zeu h;exact⟨w,by simp[h1],h2⟩
  .rename_i h0;rcases zET.1 h with h|h
   .subst h;exact⟨u,by simp,rfl,rfl,h0⟩
   .obtain⟨w,h1,h2⟩:=zeu h;exact⟨w,by simp[h1],h2⟩
theorem zfK{c:Rat}:∀{ts:List Tm},CanT ts->CanT (scR c ts)
 |[],_=>trivial
 |(w,d)::ts,h=>by
  unfold scR;split
  .exact zfK h.2.2
  .rename_i h0;refine⟨h0,fun t ht=>?_,zfK h.2.2⟩;obtain⟨u,h1,h2,_⟩:=zeu ht;rw[<-h2];exact h.2.1 u h1
theorem zjT{c:Rat}:∀{ts:List Tm},CanT ts->∀x,co (scR c ts) x=co ts x*c
 |[],_,x=>by show(0:Rat)=0*c;grind
 |(w,d)::ts,h,x=>by
  unfold scR;by_cases e:w=x
  .subst e;show _=(if w=w then d else _)*c;rw[if_pos rfl];split
   .rename_i h0;rw[zjT h.2.2,zdb h.2.1];have h0:d*c=0:=h0;rw[h0];grind
   .show(if w=w then _ else _)=_;rw[if_pos rfl]
  .show _=(if w=x then d else co ts x)*c;rw[if_neg e];split
   .exact zjT h.2.2 x
   .show(if w=x then _ else _)=_;rw[if_neg e];exact zjT h.2.2 x
class Fm (ts:List Tm) (B n:outParam Nat):Prop where
 can:CanT ts
 bd:∀t∈ts,Br t.2 B
 len:ts.length<=n
 var:∀t∈ts,t.1<1000000
instance Fm.nil:Fm [] 0 0:=⟨trivial,fun t h=>by simp at h,zEt _,fun t h=>by simp at h⟩
instance Fm.sum{f g:List Tm}{B n C m:Nat}[hf:Fm f B n][hg:Fm g C m]:Fm (zgQ f g) (B+C+1) (n+m):=
 ⟨zch hf.can,zm0 hf.can hg.can hf.bd hg.bd,by have:=zhI g f;have:=hf.len;have:=hg.len;omega,zfd hf.var hg.var⟩
instance Fm.sc{f:List Tm}{c:Rat}{B n C:Nat}[hf:Fm f B n][hc:Br c C]:Fm (scT f c) (B+C+1) n:=by
 rw[zed];refine⟨zfK hf.can,fun t ht=>?_,?_,fun t ht=>?_⟩
 .obtain⟨u,h1,h2,h3,_⟩:=zeu ht;rw[h3];haveI:=hf.bd u h1;exact Br.mul
 .rw[<-zed];exact zEz (zq2 _ _) hf.len
 .obtain⟨u,h1,h2,_⟩:=zeu ht;rw[<-h2];exact hf.var u h1
theorem Fm.one{v:Nat}{c:Rat}{B:Nat}(hv:v<1000000)(hc:c≠0)[hb:Br c B]:Fm [(v,c)] B 1:=
 ⟨⟨hc,fun t h=>by simp at h,trivial⟩,fun t h=>by simp at h;subst h;exact hb,zEt _,fun t h=>by simp at h;subst h;exact hv⟩
theorem Fm.mono{f:List Tm}{B C n m:Nat}(h:Fm f B n)(h1:B<=C)(h2:n<=m):Fm f C m:=⟨h.can,fun t ht=>(h.bd t ht).mono h1,zEz h.len h2,h.var⟩
theorem takeA{l:List Af}{i n:Nat}{x:Af}(h:l[i]?=some x)(ha:∀f∈l.take i,∀t∈f.ts,t.1<n)(hx:∀t∈x.ts,t.1<n):∀f∈l.take (i+1),∀t∈f.ts,t.1<n:=by
 rw[zaO h];intro f hf;rcases zEK.1 hf with hf|hf
 .exact ha f hf
 .rw[List.mem_singleton.1 hf];exact hx
theorem badA{l:List Af}{i n:Nat}{x:Af}(h:l[i]?=some x)(hx:¬∀t∈x.ts,t.1<n):decide (∀f∈l,∀t∈f.ts,t.1<n)=false:=
 decide_eq_false fun ha=>hx (ha x (zEq h))
end Rc
namespace Go.Proofs.YtjeiacoegppoiaaGreatDoor
open Go Go.RowKit Rc
theorem zaH(l:List Nat)(hs:Small l):Ctr Tryz.prog 219 [V.one (zaf l)] (R.one (V.one (zaf (zaa (val l))))):=by
 refine bd_ Tryz.func219 Tryz.ntmps219 rfl (fun w0 A0=>?_);refine zc 1 rfl ?_;refine zgJ (s:=0) rfl (fun hm=>?_);refine zc 7 rfl (tq_ rfl (jln rfl) (zl 5 rfl (zbv (fun m Γ H=>∃(n:Nat),n=m/\Γ=[(0,some (D.v (V.one (zaf l)))),(3,some (D.int n))]/\H=[]/\n<=l.length/\∀i (hi:i<l.length),n<=i->l[i]=0) ⟨l.length,rfl,rfl,rfl,zEt _,fun i hi h=>absurd hi (by omega)⟩ rfl ?_)));rintro m Γ H ⟨n,rfl,rfl,rfl,h⟩;refine zc 4 rfl ?_;by_cases hp:0<n
 .refine tq_ rfl (gtT rfl) (zl 3 rfl (tq_ rfl (jsb (n-1) rfl) (tq_ rfl (ji1 rfl (zba (by omega))) (tq_ rfl (jli rfl) ?_))));by_cases hz:l[n-1]'(by omega)=0
  .refine tq_ rfl (eqT rfl) (zl 9 rfl (tq_ rfl (jsb (n-1) rfl) (zl 3 rfl ?_)));exact nx_ ⟨n-1,rfl,rfl,rfl,by omega,fun i hi h1=>(if e:i=n-1 then by subst e;exact hz else h.2 i hi (by omega))⟩ rfl
  .refine tq_ rfl (eqF rfl) (zl 13 rfl (tq_ rfl (eqF rfl) (zl 9 rfl (tq_ rfl (zdE rfl rfl rfl zck zau (by omega)) (zl 3 rfl ?_)))));exact r1_ hq_ rfl (by rw[<-zfm hs n h.1 h.2 (fun _=>hz)])
 .refine tq_ rfl (gtF rfl) (zl 20 rfl (tq_ rfl (eqT rfl) (zl 8 rfl ?_)));exact r1_ hq_ rfl (by rw[<-zfm hs n h.1 h.2 (fun h0=>absurd h0 hp),show n=0 from by omega] <;> rfl)
theorem zqh(l:List Nat)(hl:l.length<=10000000000000):Ctr Tryz.prog 220 [V.one (zaf l)] (R.one (V.one (zaf l))):=by
 refine bd_ Tryz.func220 Tryz.ntmps220 rfl (fun w0 A0=>?_);refine zc 9 rfl ?_;refine zh7 rfl rfl rfl rfl rfl zck (fun b1 hb1=>?_);refine zl 2 rfl ?_;refine zao rfl (fun hc4=>?_) (fun hc4=>?_)
 .refine zc 5 rfl ?_;exact r1_ hq_ rfl (by obtain⟨h1,h2⟩:=hb1 hc4;have:=zEB h1;subst this;rfl)
 .refine zc 4 rfl (zce rfl rfl rfl rfl zck zau rfl (zl 1 rfl ?_));obtain⟨ti2,hi2,hz2,hs2,hb2⟩:=zcP;refine zbW rfl rfl rfl rfl rfl rfl rfl rfl rfl (by simp) (by simp) (by decide) zck zck hi2 hz2 hs2 rfl (by simp only[maxLen];omega) (by rw[hb2];omega) (nm:=l.length) (by simp) (ls:=(l.map zbf)) (by simp) (zl 3 rfl (zcr 2 (l) rfl rfl rfl rfl rfl ?_));exact r1_ hq_ rfl rfl
theorem ziD(l:List Nat)(hs:Small l)(hl:l.length<=10000000000000):Ctr Tryz.prog 173 [V.one (zaf l)] (R.one (V.one (zaf (zaa (val l))))):=by
 refine bd_ Tryz.func173 Tryz.ntmps173 rfl (fun w0 A0=>?_);refine zc 8 rfl (tc_ zcR rfl (zaH l hs) (tc_ fn220 rfl (zqh _ (zEz (zam hs) hl)) (zl 3 rfl ?_)));exact r1_ hq_ rfl rfl
theorem zkO(la lb:List Nat)(hsa:Small la)(hsb:Small lb):Ctr Tryz.prog 172 [V.one (zaf la),V.one (zaf lb)] (R.one (V.one (Leaf.val (.int .i64 (zgM (val la) (val lb)))))):=by
 refine bd_ Tryz.func172 Tryz.ntmps172 rfl (fun w0 A0=>?_);refine zc 1 rfl ?_;refine zgJ (s:=0) rfl (fun hma=>?_);refine zgJ (s:=1) rfl (fun hmb=>?_);refine zc 7 rfl (tc_ zcR rfl (zaH la hsa) (zl 1 rfl (tc_ zcR rfl (zaH lb hsb) (zl 6 rfl ?_))));have hla:=zam hsa;have hlb:=zam hsb;have va:=zac (val la);have vb:=zac (val lb);have sa:=zab (val la);have sb:=zab (val lb);have hlt1:(zaa (val la)).length<(zaa (val lb)).length->val la<val lb:=zhl;have hlt2:(zaa (val lb)).length<(zaa (val la)).length->val lb<val la:=zhl;generalize zaa (val la)=a at *;generalize zaa (val lb)=b at *;refine zc 2 rfl (tq_ rfl (jln rfl) (zl 1 rfl (tq_ rfl (jln rfl) ?_)));by_cases hne:a.length≠b.length
 .refine tq_ rfl (neT rfl) (zl 7 rfl (tq_ rfl (jln rfl) (zl 1 rfl (tq_ rfl (jln rfl) ?_))));by_cases hlt:a.length<b.length
  .refine tq_ rfl (ltT rfl) (zl 8 rfl ?_);exact r1_ hq_ rfl (by rw[zdc (hlt1 hlt)])
  .refine tq_ rfl (ltF rfl) (zl 10 rfl ?_);exact r1_ hq_ rfl (by rw[zkP (hlt2 (by omega))])
 .refine tq_ rfl (neF rfl) (zl 9 rfl (tq_ rfl (jln rfl) (tq_ rfl (zaN rfl rfl rfl (r:=(a.length:Int)-1) (w64 (by omega) (by omega) (by omega))) (zl 4 rfl ?_))));refine zbv (fun m Γ H=>∃(n:Nat),n=m/\Γ=[(0,some (D.v (V.one (zaf a)))),(1,some (D.v (V.one (zaf b)))),(5,some (D.int ((n:Int)-1)))]/\H=[]/\n<=a.length/\a.drop n=b.drop n) ⟨a.length,rfl,rfl,rfl,zEt _,by rw[List.drop_of_length_le (zEt _),List.drop_of_length_le (by omega)]⟩ rfl ?_;rintro m Γ H ⟨n,rfl,rfl,rfl,h⟩;refine zc 4 rfl ?_;by_cases hp:0<n
  .refine tq_ rfl (geT rfl) (zl 8 rfl ?_);by_cases hz:a[n-1]'(by omega)=b[n-1]'(by omega)
   .refine dr_ 0 [] [] (dz 2 rfl (kq_ rfl (ji1 rfl (zaV (n-1) (by omega) (by omega))) (kq_ rfl (jli rfl) (dz 2 rfl (kq_ rfl (ji1 rfl (zaV (n-1) (by omega) (by omega))) (kq_ rfl (jli rfl) (kq_ rfl (neF rfl) (zae (za 7 rfl ?_)))))))));refine tq_ rfl (zaN rfl rfl rfl (r:=((n-1:Nat):Int)-1) (w64 (by omega) (by omega) (by omega))) (zl 2 rfl ?_);exact nx_ ⟨n-1,rfl,rfl,rfl,by omega,zmp (by omega) (by omega) (by rw[show n-1+1=n from by omega];exact h.2) hz⟩ rfl
   .refine dr_ 0 [] [] (dz 2 rfl (kq_ rfl (ji1 rfl (zaV (n-1) (by omega) (by omega))) (kq_ rfl (jli rfl) (dz 2 rfl (kq_ rfl (ji1 rfl (zaV (n-1) (by omega) (by omega))) (kq_ rfl (jli rfl) (kq_ rfl (neT rfl) (zae (za 4 rfl ?_)))))))));by_cases hy:a[n-1]'(by omega)<b[n-1]'(by omega)
    .refine dr_ 0 [] [] (dz 2 rfl (kq_ rfl (ji1 rfl (zaV (n-1) (by omega) (by omega))) (kq_ rfl (jli rfl) (dz 2 rfl (kq_ rfl (ji1 rfl (zaV (n-1) (by omega) (by omega))) (kq_ rfl (jli rfl) (kq_ rfl (ltT rfl) (zae (za 7 rfl ?_)))))))));exact r1_ hq_ rfl (by rw[zdc (by rw[<-va,<-vb];exact zw3 (n:=n-1) sa (by omega) (by omega) (by rw[show n-1+1=n from by omega];exact h.2) hy)])
    .refine dr_ 0 [] [] (dz 2 rfl (kq_ rfl (ji1 rfl (zaV (n-1) (by omega) (by omega))) (kq_ rfl (jli rfl) (dz 2 rfl (kq_ rfl (ji1 rfl (zaV (n-1) (by omega) (by omega))) (kq_ rfl (jli rfl) (kq_ rfl (ltF rfl) (zae (za 9 rfl ?_)))))))));exact r1_ hq_ rfl (by rw[zkP (by rw[<-va,<-vb];exact zw3 (n:=n-1) sb (by omega) (by omega) (by rw[show n-1+1=n from by omega];exact h.2.symm) (by omega))])
  .refine tq_ rfl (geF rfl) (zl 13 rfl ?_);exact r1_ hq_ rfl (by rw[zsN (by rw[<-va,<-vb];have h2:=h.2;rw[show n=0 from by omega] at h2;rw[show a=b from h2])])
theorem zfO(x:Nat)(hx:x<18446744073709551616):Ctr Tryz.prog 210 [V.one (Leaf.val (.int .u64 x))] (R.one (V.one (zaf (zaa x)))):=by
 refine bd_ Tryz.func210 Tryz.ntmps210 rfl (fun w0 A0=>?_);refine zc 8 rfl (tq_ rfl (jc3 (x%4294967296) rfl) (zl 1 rfl (tq_ rfl (zbA rfl rfl rfl (by decide) (r:=((x/4294967296:Nat):Int)) (zaY x 32 rfl)) (tq_ rfl (jc3 (x/4294967296) rfl) (te_ rfl (zad rfl zck zau zd9 rfl (by decide) (by decide) rfl (by decide) rfl) ?_)))));refine tc_ zcR rfl (zaH [x%4294967296,x/4294967296] (Small.cons (by omega) (Small.cons (by omega) Small.nil))) (zl 3 rfl ?_);exact r1_ hq_ rfl (by rw[show val [x%4294967296,x/4294967296]=x from by simp;omega])
theorem zpt(l:List Nat):Ctr Tryz.prog 171 [V.one (zaf l)] (R.one (V.one (Leaf.val (.bool (decide (∀h:l≠[],l.getLast h≠0)))))):=by
 refine bd_ Tryz.func171 Tryz.ntmps171 rfl (fun w0 A0=>?_);refine zc 1 rfl ?_;refine zgJ (s:=0) rfl (fun hm=>?_);refine zc 7 rfl (tq_ rfl (jln rfl) ?_);by_cases hz:l.length=0
 .refine tq_ rfl (eqT rfl) (zl 12 rfl ?_);exact r1_ hq_ rfl (by rw[decide_eq_true];intro h;exact absurd (zEB hz) h)
 .refine tq_ rfl (eqF rfl) (zl 3 rfl (tq_ rfl (jln rfl) (tq_ rfl (jsb (l.length-1) rfl) (tq_ rfl (ji1 rfl (zaV (l.length-1) (by omega) rfl)) (tq_ rfl (jli rfl) ?_)))));by_cases hy:l[l.length-1]'(by omega)≠0
  .refine tq_ rfl (neT rfl) (zl 4 rfl ?_);exact r1_ hq_ rfl (by rw[decide_eq_true];intro h;rw[List.getLast_eq_getElem];exact hy)
  .refine tq_ rfl (neF rfl) (zl 4 rfl ?_);exact r1_ hq_ rfl (by rw[decide_eq_false];intro h;exact h (by intro e;rw[e] at hz;simp at hz) (by rw[List.getLast_eq_getElem];omega))
theorem zlo(x:Nat):Ctr Tryz.prog 246 [V.one (zaf (zaa x))] (R.tup [V.one (Leaf.val (.int .u64 (if x<18446744073709551616 then x else 0:Nat))),V.one (Leaf.val (.bool (decide (x<18446744073709551616))))]):=by
 refine bd_ Tryz.func246 Tryz.ntmps246 rfl (fun w0 A0=>?_);refine zc 9 rfl (tc_ zcR rfl (zaH (zaa x) (zab x)) (zl 5 rfl ?_));rw[zac];have hx:=zac x;have hsl:=zab x;have hlen:(zaa x).length<=2↔x<4294967296^2:=zag;generalize zaa x=l at *;refine zc 2 rfl (tq_ rfl (jln rfl) ?_);by_cases hl:2<l.length
 .refine tq_ rfl (gtT rfl) (zl 9 rfl ?_);exact r2_ hq_ rfl (by rw[if_neg (by omega),decide_eq_false (by omega)] <;> rfl)
 .refine tq_ rfl (gtF rfl) (zl 14 rfl (tq_ rfl (jln rfl) (zl 4 rfl ?_)));refine zbv (fun m Γ H=>∃(i:Nat),l.length-i=m/\Γ=[(0,some (D.v (V.one (zaf l)))),(4,some (D.val (.int .u64 ((val (l.take i):Nat):Int)))),(12,some (D.v (V.one (zaf l)))),(13,some (D.int ((l.length:Nat):Int))),(14,some (D.int (i:Int)))]/\H=[]/\i<=l.length) ⟨0,rfl,rfl,rfl,zEv _⟩ rfl ?_;rintro m Γ H ⟨i,rfl,rfl,rfl,h⟩;refine zc 2 rfl ?_;by_cases hp:i<l.length
  .refine tq_ rfl (ltT rfl) (zl 11 rfl (tq_ rfl (ji1 rfl (zba (by omega))) (tq_ rfl (jli rfl) (zl 4 rfl ?_))));have hd:=hsl.get i hp;have hv:=zaF l i hp;have hlt:=zbs (hsl.take (i+1));rw[zEG,Nat.min_eq_left (by omega),zdh] at hlt;have hlt0:=zbs (hsl.take i);rw[zEG,Nat.min_eq_left (by omega),zdh] at hlt0;have h64:(2:Nat)^(32*(i+1))<=18446744073709551616:=by
    have:i=0\/i=1:=by omega
    rcases this with e|e <;> subst e <;> decide
   rw[zdh,zEU] at hv;refine zc 3 rfl (tq_ rfl (jc6 (l[i]'(by omega)) rfl) (zl 1 rfl (tq_ rfl (zfH rfl rfl rfl (r:=((32*i:Nat):Int)) (w64 (by omega) (by omega) (by omega))) (tq_ rfl (zeK rfl rfl rfl (by omega) (r:=((l[i]'(by omega)*2^(32*i):Nat):Int)) (zka _ (32*i) (zeh (by omega)) (by omega))) ?_))));refine tq_ rfl (zhG rfl rfl rfl (r:=((val (l.take (i+1)):Nat):Int)) (by rw[hv];exact zrK (32*i) (Nat.mul_mod_left _ _) hlt0 (by omega))) (zl 5 rfl (tq_ rfl (jad (i+1) rfl) (zl 2 rfl ?_)));exact nx_ ⟨i+1,rfl,rfl,rfl,by omega⟩ rfl
  .refine tq_ rfl (ltF rfl) (zl 16 rfl ?_);exact r2_ hq_ rfl (by rw[zan l i (by omega),hx,if_pos (by omega),decide_eq_true (by omega)])
theorem zvy(la lb:List Nat)(hsa:Small la)(hsb:Small lb)(hla0:la.length<=10000000000000)(hlb0:lb.length<=10000000000000):Ctr Tryz.prog 229 [V.one (zaf la),V.one (zaf lb)] (R.one (V.one (zaf (zaa (val la+val lb))))):=by
 refine bd_ Tryz.func229 Tryz.ntmps229 rfl (fun w0 A0=>?_);refine zc 8 rfl (tc_ zcR rfl (zaH la hsa) (zl 1 rfl (tc_ zcR rfl (zaH lb hsb) (zl 6 rfl ?_))));have hla:=zam hsa;have hlb:=zam hsb;have va:=zac (val la);have vb:=zac (val lb);have sa:=zab (val la);have sb:=zab (val lb);generalize zaa (val la)=a at *;generalize zaa (val lb)=b at *;refine zc 2 rfl (tq_ rfl (jln rfl) (zl 1 rfl (tq_ rfl (jln rfl) ?_)));by_cases hab:a.length<b.length
 .refine tq_ rfl (ltT rfl) (zl 13 rfl (tq_ rfl (jln rfl) (tq_ rfl (jad (b.length+1) rfl) ?_)));obtain⟨ti2,hi2,hz2,hs2,hb2⟩:=zcP;refine te_ rfl (zcT (i:=0) (n:=b.length+1) (ls:=((List.replicate (b.length+1) 0).map zbf)) rfl rfl rfl zck hi2 hz2 hs2 (by decide) rfl (by decide) rfl (by rw[hb2];omega) (by simp only[maxLen];omega) (zdL _) rfl) (zl 12 rfl (tq_ rfl (jln rfl) (zl 4 rfl ?_)));refine zbv (fun m Γ H=>∃(k:Nat) (out:List Nat) (c:Nat),b.length-k=m/\Γ=[(0,some (D.v (V.one (zaf b)))),(1,some (D.v (V.one (zaf a)))),(5,some (D.own 0 (b.length+1))),(6,some (D.val (.int .u64 (c:Int)))),(24,some (D.v (V.one (zaf b)))),(25,some (D.int ((b.length:Nat):Int))),(26,some (D.int (k:Int)))]/\H=[some ⟨182,out.map zbf,some 1,none⟩]/\k<=b.length/\out.length=b.length+1/\Small out/\c<=1/\val (out.take k)+c*4294967296^k=val (b.take k)+val (a.take k)) ⟨0,List.replicate (b.length+1) 0,0,rfl,rfl,rfl,zEv _,by simp,Small.replicate _,by omega,rfl⟩ rfl ?_;rintro m Γ H ⟨k,out,c,rfl,rfl,rfl,hkle,hol,hos,hc,heq⟩;refine zc 2 rfl ?_;by_cases hk:k<b.length
  .refine tq_ rfl (ltT rfl) (zl 9 rfl ?_);have hak:=sb.get k hk;have hbk:=sa.getD k;refine zc 2 rfl (tq_ rfl (ji1 rfl (zba (by omega))) (tq_ rfl (jli rfl) (zl 8 rfl (tq_ rfl (jc6 (b[k]'hk) rfl) (tq_ rfl (zbe rfl rfl rfl (r:=((c+b[k]'hk:Nat):Int)) (zdG (by omega))) (zl 8 rfl (tq_ rfl (jln rfl) ?_)))))));by_cases hkb:k<a.length
   .refine tq_ rfl (ltT rfl) (zl 3 rfl ?_);have hbk2:=sa.get k hkb;refine zc 4 rfl (tq_ rfl (ji1 rfl (zba (by omega))) (tq_ rfl (jli rfl) (tq_ rfl (jc6 (a[k]'hkb) rfl) (tq_ rfl (zbe rfl rfl rfl (r:=((c+b[k]'hk+a[k]'hkb:Nat):Int)) (zdG (by omega))) (zl 8 rfl (tq_ rfl (jc3 ((c+b[k]+a[k])%4294967296) rfl) ?_))))));refine tq_ rfl (zap rfl rfl rfl rfl (by decide) (by simp[hol]) (by decide) zck zau (by omega) (by omega) (off:=k) (by omega)) (te_ rfl (zaW (ls:=((out.set k ((c+b[k]+a[k])%4294967296)).map zbf)) rfl rfl rfl rfl zau rfl (by decide) (by simp;omega) (zaJ (by omega))) (zl 4 rfl ?_));refine tq_ rfl (zbA rfl rfl rfl (by decide) (r:=(((c+b[k]+a[k])/4294967296:Nat):Int)) (zaY _ 32 rfl)) (zl 5 rfl (tq_ rfl (jad (k+1) rfl) (zl 2 rfl ?_)));exact nx_ ⟨k+1,_,(c+b[k]+a[k])/4294967296,rfl,rfl,rfl,by omega,by simp[hol],hos.set _ _ (by omega),by omega,zgH hk (by omega) heq (by rw[zcb hkb])⟩ rfl
   .refine tq_ rfl (ltF rfl) (zl 10 rfl (tq_ rfl (jc3 ((c+b[k])%4294967296) rfl) (tq_ rfl (zap rfl rfl rfl rfl (by decide) (by simp[hol]) (by decide) zck zau (by omega) (by omega) (off:=k) (by omega)) (te_ rfl (zaW (ls:=((out.set k ((c+b[k])%4294967296)).map zbf)) rfl rfl rfl rfl zau rfl (by decide) (by simp;omega) (zaJ (by omega))) (zl 4 rfl ?_)))));refine tq_ rfl (zbA rfl rfl rfl (by decide) (r:=(((c+b[k])/4294967296:Nat):Int)) (zaY _ 32 rfl)) (zl 5 rfl (tq_ rfl (jad (k+1) rfl) (zl 2 rfl ?_)));exact nx_ ⟨k+1,_,(c+b[k])/4294967296,rfl,rfl,rfl,by omega,by simp[hol],hos.set _ _ (by omega),by omega,zgH hk (by omega) heq (by rw[zdV (by omega),Nat.add_zero])⟩ rfl
  .refine tq_ rfl (ltF rfl) (zl 13 rfl (tq_ rfl (jln rfl) (zl 1 rfl (tq_ rfl (jc3 c rfl) (tq_ rfl (zap rfl rfl rfl rfl (by decide) (by simp[hol]) (by decide) zck zau (by omega) (by omega) (off:=b.length) (by omega)) (te_ rfl (zaW (ls:=((out.set b.length c).map zbf)) rfl rfl rfl rfl zau rfl (by decide) (by simp;omega) (zaJ (by omega))) (zl 5 rfl ?_)))))));refine zaL 60 (out.set b.length c) rfl rfl rfl rfl (by simp[hol]) (tc_ zcR rfl (zaH (out.set b.length c) (hos.set _ _ (by omega))) (zl 3 rfl ?_));have hke:k=b.length:=by omega
   subst hke;have hfin:=zbk out b.length c (by omega);rw[zan _ _ (by simp[hol])] at hfin;rw[zan b _ (zEt _),zan a _ (by omega)] at heq;exact r1_ hq_ rfl (by rw[show val (out.set b.length c)=val la+val lb from by rw[hfin,<-va,<-vb,zEU];omega])
 .refine tq_ rfl (ltF rfl) (zl 8 rfl (tq_ rfl (jln rfl) (tq_ rfl (jad (a.length+1) rfl) ?_)));obtain⟨ti6,hi6,hz6,hs6,hb6⟩:=zcP;refine te_ rfl (zcT (i:=0) (n:=a.length+1) (ls:=((List.replicate (a.length+1) 0).map zbf)) rfl rfl rfl zck hi6 hz6 hs6 (by decide) rfl (by decide) rfl (by rw[hb6];omega) (by simp only[maxLen];omega) (zdL _) rfl) (zl 12 rfl (tq_ rfl (jln rfl) (zl 4 rfl ?_)));refine zbv (fun m Γ H=>∃(k:Nat) (out:List Nat) (c:Nat),a.length-k=m/\Γ=[(0,some (D.v (V.one (zaf a)))),(1,some (D.v (V.one (zaf b)))),(5,some (D.own 0 (a.length+1))),(6,some (D.val (.int .u64 (c:Int)))),(24,some (D.v (V.one (zaf a)))),(25,some (D.int ((a.length:Nat):Int))),(26,some (D.int (k:Int)))]/\H=[some ⟨182,out.map zbf,some 1,none⟩]/\k<=a.length/\out.length=a.length+1/\Small out/\c<=1/\val (out.take k)+c*4294967296^k=val (a.take k)+val (b.take k)) ⟨0,List.replicate (a.length+1) 0,0,rfl,rfl,rfl,zEv _,by simp,Small.replicate _,by omega,rfl⟩ rfl ?_;rintro m Γ H ⟨k,out,c,rfl,rfl,rfl,hkle,hol,hos,hc,heq⟩;refine zc 2 rfl ?_;by_cases hk:k<a.length
  .refine tq_ rfl (ltT rfl) (zl 9 rfl ?_);have hak:=sa.get k hk;have hbk:=sb.getD k;refine zc 2 rfl (tq_ rfl (ji1 rfl (zba (by omega))) (tq_ rfl (jli rfl) (zl 8 rfl (tq_ rfl (jc6 (a[k]'hk) rfl) (tq_ rfl (zbe rfl rfl rfl (r:=((c+a[k]'hk:Nat):Int)) (zdG (by omega))) (zl 8 rfl (tq_ rfl (jln rfl) ?_)))))));by_cases hkb:k<b.length
   .refine tq_ rfl (ltT rfl) (zl 3 rfl ?_);have hbk2:=sb.get k hkb;refine zc 4 rfl (tq_ rfl (ji1 rfl (zba (by omega))) (tq_ rfl (jli rfl) (tq_ rfl (jc6 (b[k]'hkb) rfl) (tq_ rfl (zbe rfl rfl rfl (r:=((c+a[k]'hk+b[k]'hkb:Nat):Int)) (zdG (by omega))) (zl 8 rfl (tq_ rfl (jc3 ((c+a[k]+b[k])%4294967296) rfl) ?_))))));refine tq_ rfl (zap rfl rfl rfl rfl (by decide) (by simp[hol]) (by decide) zck zau (by omega) (by omega) (off:=k) (by omega)) (te_ rfl (zaW (ls:=((out.set k ((c+a[k]+b[k])%4294967296)).map zbf)) rfl rfl rfl rfl zau rfl (by decide) (by simp;omega) (zaJ (by omega))) (zl 4 rfl ?_));refine tq_ rfl (zbA rfl rfl rfl (by decide) (r:=(((c+a[k]+b[k])/4294967296:Nat):Int)) (zaY _ 32 rfl)) (zl 5 rfl (tq_ rfl (jad (k+1) rfl) (zl 2 rfl ?_)));exact nx_ ⟨k+1,_,(c+a[k]+b[k])/4294967296,rfl,rfl,rfl,by omega,by simp[hol],hos.set _ _ (by omega),by omega,zgH hk (by omega) heq (by rw[zcb hkb])⟩ rfl
   .refine tq_ rfl (ltF rfl) (zl 10 rfl (tq_ rfl (jc3 ((c+a[k])%4294967296) rfl) (tq_ rfl (zap rfl rfl rfl rfl (by decide) (by simp[hol]) (by decide) zck zau (by omega) (by omega) (off:=k) (by omega)) (te_ rfl (zaW (ls:=((out.set k ((c+a[k])%4294967296)).map zbf)) rfl rfl rfl rfl zau rfl (by decide) (by simp;omega) (zaJ (by omega))) (zl 4 rfl ?_)))));refine tq_ rfl (zbA rfl rfl rfl (by decide) (r:=(((c+a[k])/4294967296:Nat):Int)) (zaY _ 32 rfl)) (zl 5 rfl (tq_ rfl (jad (k+1) rfl) (zl 2 rfl ?_)));exact nx_ ⟨k+1,_,(c+a[k])/4294967296,rfl,rfl,rfl,by omega,by simp[hol],hos.set _ _ (by omega),by omega,zgH hk (by omega) heq (by rw[zdV (by omega),Nat.add_zero])⟩ rfl
  .refine tq_ rfl (ltF rfl) (zl 13 rfl (tq_ rfl (jln rfl) (zl 1 rfl (tq_ rfl (jc3 c rfl) (tq_ rfl (zap rfl rfl rfl rfl (by decide) (by simp[hol]) (by decide) zck zau (by omega) (by omega) (off:=a.length) (by omega)) (te_ rfl (zaW (ls:=((out.set a.length c).map zbf)) rfl rfl rfl rfl zau rfl (by decide) (by simp;omega) (zaJ (by omega))) (zl 5 rfl ?_)))))));refine zaL 60 (out.set a.length c) rfl rfl rfl rfl (by simp[hol]) (tc_ zcR rfl (zaH (out.set a.length c) (hos.set _ _ (by omega))) (zl 3 rfl ?_));have hke:k=a.length:=by omega
   subst hke;have hfin:=zbk out a.length c (by omega);rw[zan _ _ (by simp[hol])] at hfin;rw[zan a _ (zEt _),zan b _ (by omega)] at heq;exact r1_ hq_ rfl (by rw[show val (out.set a.length c)=val la+val lb from by rw[hfin,<-va,<-vb,zEU];omega])
theorem zt6(la lb:List Nat)(hsa:Small la)(hsb:Small lb)(hla0:la.length<=10000000000000)(hge:val lb<=val la):Ctr Tryz.prog 230 [V.one (zaf la),V.one (zaf lb)] (R.tup [V.one (zaf (zaa (val la-val lb))),V.one (Leaf.val (.int .i64 0))]):=by
 refine bd_ Tryz.func230 Tryz.ntmps230 rfl (fun w0 A0=>?_);refine zc 9 rfl (tc_ zcR rfl (zaH la hsa) (zl 1 rfl (tc_ zcR rfl (zaH lb hsb) (zl 6 rfl ?_))));have hla:=zam hsa;have hlb:=zam hsb;have va:=zac (val la);have vb:=zac (val lb);have sa:=zab (val la);have sb:=zab (val lb);have hlen:(zaa (val lb)).length<=(zaa (val la)).length:=zaC hge;have hcm:¬zgM (val (zaa (val la))) (val (zaa (val lb)))<0:=by rw[va,vb];unfold zgM;rw[if_neg (by omega)];split <;> decide
 generalize zaa (val la)=a at *;generalize zaa (val lb)=b at *;refine zc 3 rfl (tc_ zkB rfl (zkO _ _ sa sb) (tq_ rfl (ltF rfl hcm) (zl 8 rfl (tq_ rfl (jln rfl) ?_))));obtain⟨ti1,hi1,hz1,hs1,hb1⟩:=zcP;refine te_ rfl (zcT (i:=0) (n:=a.length) (ls:=((List.replicate (a.length) 0).map zbf)) rfl rfl rfl zck hi1 hz1 hs1 (by decide) rfl (by decide) rfl (by rw[hb1];omega) (by simp only[maxLen];omega) (zdL _) rfl) (zl 12 rfl (tq_ rfl (jln rfl) (zl 4 rfl ?_)));refine zbv (fun m Γ H=>∃(k:Nat) (out:List Nat) (c:Nat),a.length-k=m/\Γ=[(0,some (D.v (V.one (zaf a)))),(1,some (D.v (V.one (zaf b)))),(6,some (D.own 0 a.length)),(7,some (D.val (.int .u64 (c:Int)))),(22,some (D.v (V.one (zaf a)))),(23,some (D.int ((a.length:Nat):Int))),(24,some (D.int (k:Int)))]/\H=[some ⟨182,out.map zbf,some 1,none⟩]/\k<=a.length/\out.length=a.length/\Small out/\c<=1/\val (out.take k)+val (b.take k)=val (a.take k)+c*4294967296^k) ⟨0,List.replicate a.length 0,0,rfl,rfl,rfl,zEv _,by simp,Small.replicate _,by omega,rfl⟩ rfl ?_;rintro m Γ H ⟨k,out,c,rfl,rfl,rfl,hkle,hol,hos,hc,heq⟩;refine zc 2 rfl ?_;by_cases hk:k<a.length
 .refine tq_ rfl (ltT rfl) (zl 9 rfl ?_);have hak:=sa.get k hk;have hbk:=sb.getD k;refine zc 2 rfl (tq_ rfl (ji1 rfl (zba (by omega))) (tq_ rfl (jli rfl) (zl 7 rfl (tq_ rfl (jc6 (a[k]'hk) rfl) (zl 1 rfl (tq_ rfl (zaN rfl rfl rfl (r:=(((18446744073709551616+a[k]'hk-c)%18446744073709551616:Nat):Int)) (zdG (by omega))) (zl 8 rfl (tq_ rfl (jln rfl) ?_))))))));by_cases hkb:k<b.length
  .refine tq_ rfl (ltT rfl) (zl 3 rfl ?_);have hbk2:=sb.get k hkb;refine zc 4 rfl (tq_ rfl (ji1 rfl (zba (by omega))) (tq_ rfl (jli rfl) (tq_ rfl (jc6 (b[k]'hkb) rfl) (tq_ rfl (zaN rfl rfl rfl (r:=(((18446744073709551616+a[k]'hk-c-b[k]'hkb)%18446744073709551616:Nat):Int)) (zdG (by omega))) (zl 8 rfl (tq_ rfl (jc3 (((18446744073709551616+a[k]-c-b[k])%18446744073709551616)%4294967296) rfl) ?_))))));refine tq_ rfl (zap rfl rfl rfl rfl (by decide) (by simp[hol]) (by decide) zck zau (by omega) (by omega) (off:=k) (by omega)) (te_ rfl (zaW (ls:=((out.set k (((18446744073709551616+a[k]-c-b[k])%18446744073709551616)%4294967296)).map zbf)) rfl rfl rfl rfl zau rfl (by decide) (by simp;omega) (zaJ (by omega))) (zl 4 rfl ?_));refine tq_ rfl (zbA rfl rfl rfl (by decide) (r:=((((18446744073709551616+a[k]-c-b[k])%18446744073709551616)/9223372036854775808:Nat):Int)) (zaY _ 63 rfl)) (zl 5 rfl (tq_ rfl (jad (k+1) rfl) (zl 2 rfl ?_)));exact nx_ ⟨k+1,_,((18446744073709551616+a[k]-c-b[k])%18446744073709551616)/9223372036854775808,rfl,rfl,rfl,by omega,by simp[hol],hos.set _ _ (by omega),by omega,zn4 hk (by omega) sa sb hc heq (by rw[zcb hkb])⟩ rfl
  .refine tq_ rfl (ltF rfl) (zl 10 rfl (tq_ rfl (jc3 (((18446744073709551616+a[k]-c)%18446744073709551616)%4294967296) rfl) (tq_ rfl (zap rfl rfl rfl rfl (by decide) (by simp[hol]) (by decide) zck zau (by omega) (by omega) (off:=k) (by omega)) ?_)));refine te_ rfl (zaW (ls:=((out.set k (((18446744073709551616+a[k]-c)%18446744073709551616)%4294967296)).map zbf)) rfl rfl rfl rfl zau rfl (by decide) (by simp;omega) (zaJ (by omega))) (zl 4 rfl (tq_ rfl (zbA rfl rfl rfl (by decide) (r:=((((18446744073709551616+a[k]-c)%18446744073709551616)/9223372036854775808:Nat):Int)) (zaY _ 63 rfl)) ?_));refine zl 5 rfl (tq_ rfl (jad (k+1) rfl) (zl 2 rfl ?_));exact nx_ ⟨k+1,_,((18446744073709551616+a[k]-c)%18446744073709551616)/9223372036854775808,rfl,rfl,rfl,by omega,by simp[hol],hos.set _ _ (by omega),by omega,zn4 hk (by omega) sa sb hc heq (by rw[zdV (by omega),Nat.sub_zero])⟩ rfl
 .refine tq_ rfl (ltF rfl) (zl 12 rfl (zaL 52 (out) rfl rfl rfl rfl (by omega) (tc_ zcR rfl (zaH out hos) (zl 4 rfl ?_))));have hke:k=a.length:=by omega
  subst hke;rw[zan out _ (by omega),zan a _ (zEt _),zan b _ (by omega)] at heq;have hlt:=zbs hos;rw[hol] at hlt;have hc0:c=0:=by
   rcases Nat.eq_zero_or_pos c with h|h
   .exact h
   .exfalso;have:c=1:=by omega
    subst this;omega
  exact r2_ hq_ rfl (by rw[show val out=val la-val lb from by rw[<-va,<-vb];subst hc0;omega])
theorem zuB(la lb:List Nat)(hsa:Small la)(hsb:Small lb)(hla0:la.length<=10000000000000)(hlb0:lb.length<=10000000000000):Ctr Tryz.prog 181 [V.one (zaf la),V.one (zaf lb)] (R.one (V.one (zaf (zaa (val la*val lb))))):=by
 refine bd_ Tryz.func181 Tryz.ntmps181 rfl (fun w0 A0=>?_);refine zc 8 rfl (tc_ zcR rfl (zaH la hsa) (zl 1 rfl (tc_ zcR rfl (zaH lb hsb) (zl 6 rfl ?_))));have hla:=zam hsa;have hlb:=zam hsb;have va:=zac (val la);have vb:=zac (val lb);have sa:=zab (val la);have sb:=zab (val lb);have ea:(zaa (val la)).length=0->val la=0:=fun h=>za2.1 (zEB h);have eb:(zaa (val lb)).length=0->val lb=0:=fun h=>za2.1 (zEB h);generalize zaa (val la)=a at *;generalize zaa (val lb)=b at *;refine zc 2 rfl (tq_ rfl (jln rfl) ?_);by_cases ha0:a.length=0
 .refine tq_ rfl (eqT rfl) (zl 13 rfl ?_);exact r1_ hq_ rfl (by rw[ea ha0,Nat.zero_mul,zah] <;> rfl)
 .refine tq_ rfl (eqF rfl) (zl 2 rfl (tq_ rfl (jln rfl) ?_));by_cases hb0:b.length=0
  .refine tq_ rfl (eqT rfl) (zl 9 rfl ?_);exact r1_ hq_ rfl (by rw[eb hb0,Nat.mul_zero,zah] <;> rfl)
  .refine tq_ rfl (eqF rfl) (zl 9 rfl (tq_ rfl (jln rfl) (zl 1 rfl (tq_ rfl (jln rfl) (tq_ rfl (jad (a.length+b.length) rfl) ?_)))));obtain⟨ti3,hi3,hz3,hs3,hb3⟩:=zcP;refine te_ rfl (zcT (i:=0) (n:=a.length+b.length) (ls:=((List.replicate (a.length+b.length) 0).map zbf)) rfl rfl rfl zck hi3 hz3 hs3 (by decide) rfl (by decide) rfl (by rw[hb3];omega) (by simp only[maxLen];omega) (zdL _) rfl) (zl 7 rfl (tq_ rfl (jln rfl) (zl 4 rfl ?_)));refine zbv (fun m Γ H=>∃(i:Nat) (out:List Nat),a.length-i=m/\Γ=[(0,some (D.v (V.one (zaf a)))),(1,some (D.v (V.one (zaf b)))),(5,some (D.own 0 (a.length+b.length))),(29,some (D.v (V.one (zaf a)))),(30,some (D.int ((a.length:Nat):Int))),(31,some (D.int (i:Int)))]/\H=[some ⟨182,out.map zbf,some 1,none⟩]/\i<=a.length/\out.length=a.length+b.length/\Small out/\val out=val (a.take i)*val b/\(∀j (hj:j<out.length),i+b.length<=j->out[j]=0)) ⟨0,List.replicate (a.length+b.length) 0,rfl,rfl,rfl,zEv _,by simp,Small.replicate _,by simp[zaX],by intro j hj _;simp⟩ rfl ?_;rintro m Γ H ⟨i,out,rfl,rfl,rfl,hile,hol,hos,heq,hzero⟩;refine zc 2 rfl ?_;by_cases hi:i<a.length
   .refine tq_ rfl (ltT rfl) (zl 9 rfl ?_);have hai:=sa.get i hi;refine zc 2 rfl (tq_ rfl (ji1 rfl (zba (by omega))) (tq_ rfl (jli rfl) (zl 13 rfl (tq_ rfl (jln rfl) (zl 4 rfl ?_)))));refine zbv (fun m Γ H=>∃(k:Nat) (o:List Nat) (c:Nat),b.length-k=m/\Γ=[(0,some (D.v (V.one (zaf a)))),(1,some (D.v (V.one (zaf b)))),(5,some (D.own 0 (a.length+b.length))),(6,some (D.int (i:Int))),(7,some (D.val (.int .u32 ((a[i]'hi:Nat):Int)))),(8,some (D.val (.int .u64 (c:Int)))),(29,some (D.v (V.one (zaf a)))),(30,some (D.int ((a.length:Nat):Int))),(31,some (D.int (i:Int))),(36,some (D.v (V.one (zaf b)))),(37,some (D.int ((b.length:Nat):Int))),(38,some (D.int (k:Int)))]/\H=[some ⟨182,o.map zbf,some 1,none⟩]/\k<=b.length/\o.length=a.length+b.length/\Small o/\c<4294967296/\val o+c*4294967296^(i+k)=val (a.take i)*val b+4294967296^i*(a[i]*val (b.take k))/\(∀j (hj:j<o.length),i+b.length<=j->o[j]=0)) ⟨0,out,0,rfl,rfl,rfl,zEv _,hol,hos,by omega,by simp[heq],hzero⟩ rfl ?_;rintro m Γ H ⟨k,o,c,rfl,rfl,rfl,hkle,hoo1,hoo,hc,hq,hz1⟩;refine zc 2 rfl ?_;by_cases hk:k<b.length
    .refine tq_ rfl (ltT rfl) (zl 9 rfl ?_);have hbk:=sb.get k hk;have hok:=hoo.get (i+k) (by omega);have hm:=zl9 hc hai hbk hok;have hm2:=hm.1;refine zc 2 rfl (tq_ rfl (ji1 rfl (zba (by omega))) (tq_ rfl (jli rfl) (zl 8 rfl (tq_ rfl (jc6 (a[i]'hi) rfl) (zl 1 rfl (tq_ rfl (jc6 (b[k]'hk) rfl) (tq_ rfl (zfH rfl rfl rfl (r:=((a[i]'hi*b[k]'hk:Nat):Int)) (zdG (by rw[<-Int.natCast_mul];omega))) (zl 3 rfl (tq_ rfl (jad (i+k) rfl) ?_)))))))));refine tq_ rfl (zap rfl rfl rfl rfl (by decide) (by simp[hoo1]) (by decide) zck zau (by omega) (by omega) (off:=i+k) (by omega)) (tq_ rfl (zcD rfl rfl rfl (by decide) zau (zg3 (by omega))) (tq_ rfl (jc6 (o[i+k]'(by omega)) rfl) (tq_ rfl (zbe rfl rfl rfl (r:=((a[i]'hi*b[k]'hk+o[i+k]'(by omega):Nat):Int)) (zdG (by omega))) ?_)));refine tq_ rfl (zbe rfl rfl rfl (r:=((c+(a[i]'hi*b[k]'hk+o[i+k]'(by omega)):Nat):Int)) (zdG (by omega))) (zl 8 rfl (tq_ rfl (jad (i+k) rfl) (zl 1 rfl (tq_ rfl (jc3 ((c+(a[i]'hi*b[k]'hk+o[i+k]'(by omega)))%4294967296) rfl) ?_))));refine tq_ rfl (zap rfl rfl rfl rfl (by decide) (by simp[hoo1]) (by decide) zck zau (by omega) (by omega) (off:=i+k) (by omega)) (te_ rfl (zaW (ls:=((o.set (i+k) ((c+(a[i]'hi*b[k]'hk+o[i+k]'(by omega)))%4294967296)).map zbf)) rfl rfl rfl rfl zau rfl (by decide) (by simp;omega) (zaJ (by omega))) (zl 4 rfl ?_));refine tq_ rfl (zbA rfl rfl rfl (by decide) (r:=(((c+(a[i]'hi*b[k]'hk+o[i+k]'(by omega)))/4294967296:Nat):Int)) (zaY _ 32 rfl)) (zl 5 rfl (tq_ rfl (jad (k+1) rfl) (zl 2 rfl ?_)));exact nx_ ⟨k+1,_,_,rfl,rfl,rfl,by omega,by simp[hoo1],hoo.set _ _ (by omega),hm.2.1,zuA hk (by omega) _ hq,by intro j hj hle;rw[List.getElem_set_ne (by omega)];exact hz1 j (by simpa using hj) hle⟩ rfl
    .refine tq_ rfl (ltF rfl) (zl 13 rfl (tq_ rfl (jln rfl) (tq_ rfl (jad (i+b.length) rfl) (zl 1 rfl (tq_ rfl (jc3 c rfl) (tq_ rfl (zap rfl rfl rfl rfl (by decide) (by simp[hoo1]) (by decide) zck zau (by omega) (by omega) (off:=i+b.length) (by omega)) ?_))))));refine te_ rfl (zaW (ls:=((o.set (i+b.length) c).map zbf)) rfl rfl rfl rfl zau rfl (by decide) (by simp;omega) (zaJ (by omega))) (zl 4 rfl (tq_ rfl (jad (i+1) rfl) (zl 2 rfl ?_)));have hke:k=b.length:=by omega
     subst hke;have hzz:=hz1 (i+b.length) (by omega) (zEt _);have hvs:=zj3 o (i+b.length) c (by omega);rw[hzz,Nat.mul_zero,Nat.add_zero] at hvs;rw[zan b _ (zEt _)] at hq;have hfin:val (o.set (i+b.length) c)=val (a.take (i+1))*val b:=by
      rw[hvs,zaF a i hi,Nat.add_mul,zEU _ c,hq];grind
     have hz2:∀j (hj:j<(o.set (i+b.length) c).length),i+1+b.length<=j->(o.set (i+b.length) c)[j]=0:=by
      intro j hj hle;rw[List.getElem_set_ne (by omega)];exact hz1 j (by simpa using hj) (by omega)
     have hol:=hoo1;exact nx_ ⟨i+1,_,rfl,rfl,rfl,by omega,by simp[hol],hoo.set _ _ hc,hfin,hz2⟩ rfl
   .refine tq_ rfl (ltF rfl) (zl 12 rfl (zaL 77 (out) rfl rfl rfl rfl (by omega) (tc_ zcR rfl (zaH out hos) (zl 3 rfl ?_))));have hie:i=a.length:=by omega
    subst hie;exact r1_ hq_ rfl (by rw[show val out=val la*val lb from by rw[heq,zan a _ (zEt _),va,vb]])
theorem zjK(x:Nat)(hx:x<4294967296):Ctr Tryz.prog 221 [V.one (Leaf.val (.int .u32 x))] (R.one (V.one (Leaf.val (.int .i64 ((bl x:Nat):Int))))):=by
 refine bd_ Tryz.func221 Tryz.ntmps221 rfl (fun w0 A0=>?_);refine zc 9 rfl ?_;by_cases h1:65536<=x
 .refine tq_ rfl (geT rfl) (zl 6 rfl (tq_ rfl (zbA rfl rfl rfl (by decide) (r:=((x/65536:Nat):Int)) (zaY x 16 rfl)) (zl 11 rfl ?_)));by_cases h2:256<=x/65536
  .refine tq_ rfl (geT rfl) (zl 6 rfl (tq_ rfl (zbA rfl rfl rfl (by decide) (r:=((x/65536/256:Nat):Int)) (zaY _ 8 rfl)) (zl 5 rfl (tq_ rfl (jad 24 rfl) (zl 7 rfl (tq_ rfl (jcv (x/65536/256) rfl (wu8 (by omega))) (tq_ rfl (zdY rfl rfl un9 (zhS (by kernel_rfl) (x:=x/65536/256) (by omega))) ?_)))))));refine tq_ rfl (jcv (bl (x/65536/256)) rfl (w64 (zhR (by omega)) (by omega) (by have:=zaA (n:=x/65536/256) (k:=8) (by omega);omega))) ?_;refine tq_ rfl (zbe rfl rfl rfl (r:=((bl x:Nat):Int)) (w64 (by have h1:=zjV (n:=x) (k:=16) h1;have h2:=zjV (n:=x/2^16) (k:=8) h2;simp only[Nat.reducePow] at h1 h2;omega) (by omega) (by have:=zaA (n:=x) (k:=32) hx;omega))) (zl 3 rfl ?_);exact r1_ hq_ rfl rfl
  .refine tq_ rfl (geF rfl) (zl 9 rfl (tq_ rfl (jcv (x/65536) rfl (wu8 (by omega))) (tq_ rfl (zdY rfl rfl un9 (zhS (by kernel_rfl) (x:=x/65536) (by omega))) (tq_ rfl (jcv (bl (x/65536)) rfl (w64 (zhR (by omega)) (by omega) (by have:=zaA (n:=x/65536) (k:=8) (by omega);omega))) ?_))));refine tq_ rfl (zbe rfl rfl rfl (r:=((bl x:Nat):Int)) (w64 (by have h1:=zjV (n:=x) (k:=16) h1;simp only[Nat.reducePow] at h1;omega) (by omega) (by have:=zaA (n:=x) (k:=32) hx;omega))) (zl 3 rfl ?_);exact r1_ hq_ rfl rfl
 .refine tq_ rfl (geF rfl) (zl 9 rfl ?_);by_cases h2:256<=x
  .refine tq_ rfl (geT rfl) (zl 6 rfl (tq_ rfl (zbA rfl rfl rfl (by decide) (r:=((x/256:Nat):Int)) (zaY x 8 rfl)) (zl 5 rfl (tq_ rfl (jad 8 rfl) (zl 7 rfl (tq_ rfl (jcv (x/256) rfl (wu8 (by omega))) (tq_ rfl (zdY rfl rfl un9 (zhS (by kernel_rfl) (x:=x/256) (by omega))) ?_)))))));refine tq_ rfl (jcv (bl (x/256)) rfl (w64 (zhR (by omega)) (by omega) (by have:=zaA (n:=x/256) (k:=8) (by omega);omega))) (tq_ rfl (zbe rfl rfl rfl (r:=((bl x:Nat):Int)) (w64 (by have h2:=zjV (n:=x) (k:=8) h2;simp only[Nat.reducePow] at h2;omega) (by omega) (by have:=zaA (n:=x) (k:=32) hx;omega))) (zl 3 rfl ?_));exact r1_ hq_ rfl rfl
  .refine tq_ rfl (geF rfl) (zl 9 rfl (tq_ rfl (jcv x rfl (wu8 (by omega))) (tq_ rfl (zdY rfl rfl un9 (zhS (by kernel_rfl) (x:=x) (by omega))) (tq_ rfl (jcv (bl (x)) rfl (w64 (zhR (by omega)) (by omega) (by have:=zaA (n:=x) (k:=8) (by omega);omega))) ?_))));refine tq_ rfl (zbe rfl rfl rfl (r:=((bl x:Nat):Int)) (w64 (by skip;omega) (by omega) (by have:=zaA (n:=x) (k:=32) hx;omega))) (zl 3 rfl ?_);exact r1_ hq_ rfl rfl
theorem zrY(x:Nat)(hx:x<4294967296):Ctr Tryz.prog 248 [V.one (Leaf.val (.int .u32 x))] (R.one (V.one (Leaf.val (.int .i64 ((32-bl x:Nat):Int))))):=by
 refine bd_ Tryz.func248 Tryz.ntmps248 rfl (fun w0 A0=>?_);refine zc 8 rfl (tc_ zCR rfl (zjK x hx) (tq_ rfl (zaN rfl rfl rfl (r:=((32-bl x:Nat):Int)) (w64 (by have:=zaA (n:=x) (k:=32) hx;omega) (by omega) (by omega))) (zl 3 rfl ?_)));exact r1_ hq_ rfl rfl
theorem zoz(a:List Nat)(k:Nat)(hsa:Small a)(hk:k<32)(hla:a.length<=10000000000000):CtrF Tryz.prog 249 182 (a.length+1) ((zhh (a.length+1) (val a*2^k)).map zbf) [V.one (zaf a),V.one (Leaf.val (.int .i64 (k:Int)))]:=by
 refine CtrF.of_body Tryz.func249 rfl Tryz.ntmps249 (zEw rfl) (fun w0 A0=>?_);refine qc_ (zc 8 rfl (tq_ rfl (jln rfl) (tq_ rfl (jad (a.length+1) rfl) ?_)));obtain⟨ti1,hi1,hz1,hs1,hb1⟩:=zcP;refine te_ rfl (zcT (i:=0) (n:=a.length+1) (ls:=((List.replicate (a.length+1) 0).map zbf)) rfl rfl rfl zck hi1 hz1 hs1 (by decide) rfl (by decide) rfl (by rw[hb1];omega) (by simp only[maxLen];omega) (zdL _) rfl) (zl 7 rfl (tq_ rfl (jln rfl) (zl 4 rfl ?_)));refine zbv (fun m Γ H=>∃(i:Nat) (out:List Nat),a.length-i=m/\Γ=[(0,some (D.v (V.one (zaf a)))),(1,some (D.int (k:Int))),(5,some (D.own 0 (a.length+1))),(13,some (D.v (V.one (zaf a)))),(14,some (D.int ((a.length:Nat):Int))),(15,some (D.int (i:Int)))]/\H=[some ⟨182,out.map zbf,some 1,none⟩]/\i<=a.length/\out.length=a.length+1/\Small out/\val (out.take (i+1))=val (a.take i)*2^k/\out.getD i 0<2^k) ⟨0,List.replicate (a.length+1) 0,rfl,rfl,rfl,zEv _,by simp,Small.replicate _,by rw[List.take_replicate,zaX];simp,by simp[List.getD];exact Nat.pow_pos (by omega)⟩ rfl ?_;rintro m Γ H ⟨i,out,rfl,rfl,rfl,hile,hol,hos,heq,hlow⟩;refine zc 2 rfl ?_;by_cases hi:i<a.length
 .refine tq_ rfl (ltT rfl) (zl 9 rfl ?_);have hai:=hsa.get i hi;have hoi:=hos.get i (by omega);rw[zcb (by omega)] at hlow;have hb:=zpU hk hai;have ho:=zx8 (d:=a[i]) hk hlow;refine zc 2 rfl (tq_ rfl (ji1 rfl (zba (by omega))) (tq_ rfl (jli rfl) (zl 7 rfl (tq_ rfl (jc6 (a[i]'hi) rfl) (zl 1 rfl (tq_ rfl (zeK rfl rfl rfl (by omega) (r:=((a[i]'hi*2^k:Nat):Int)) (zka _ k (zeh (by omega)) hb.1)) (zl 7 rfl ?_)))))));refine tq_ rfl (zap rfl rfl rfl rfl (by decide) (by simp[hol]) (by decide) zck zau (by omega) (by omega) (off:=i) (by omega)) (tq_ rfl (zcD rfl rfl rfl (by decide) zau (zg3 (by omega))) (zl 1 rfl (tq_ rfl (jc3 (a[i]'hi*2^k%4294967296) rfl) ?_)));refine tq_ rfl (zhG rfl rfl rfl (r:=((out[i]'(by omega)+a[i]'hi*2^k%4294967296:Nat):Int)) (or32' k ho.1 hlow ho.2)) (tq_ rfl (zap rfl rfl rfl rfl (by decide) (by simp[hol]) (by decide) zck zau (by omega) (by omega) (off:=i) (by omega)) ?_);refine te_ rfl (zaW (ls:=((out.set i (out[i]'(by omega)+a[i]'hi*2^k%4294967296)).map zbf)) rfl rfl rfl rfl zau rfl (by decide) (by simp;omega) (zaJ (by omega))) (zl 5 rfl (tq_ rfl (jad (i+1) rfl) (zl 1 rfl (tq_ rfl (zbA rfl rfl rfl (by decide) (r:=(((a[i]'hi*2^k)/4294967296:Nat):Int)) (zaY _ 32 rfl)) ?_))));refine tq_ rfl (jc3 ((a[i]'hi*2^k)/4294967296) rfl) (tq_ rfl (zap rfl rfl rfl rfl (by decide) (by simp[hol]) (by decide) zck zau (by omega) (by omega) (off:=i+1) (by omega)) ?_);refine te_ rfl (zaW (ls:=(((out.set i (out[i]'(by omega)+a[i]'hi*2^k%4294967296)).set (i+1) ((a[i]'hi*2^k)/4294967296)).map zbf)) rfl rfl rfl rfl zau rfl (by decide) (by simp;omega) (zaJ (by simp;omega))) (zl 4 rfl (tq_ rfl (jad (i+1) rfl) (zl 2 rfl ?_)));exact nx_ ⟨i+1,_,rfl,rfl,rfl,by omega,by simp[hol],(hos.set _ _ (by omega)).set _ _ (by omega),zr5 hi (by omega) heq _ rfl,by rw[zcb (by simp;omega),List.getElem_set_self];exact hb.2.1⟩ rfl
 .refine tq_ rfl (ltF rfl) (zl 15 rfl ?_);have hie:i=a.length:=by omega
  subst hie;rw[zan out _ (by omega),zan a _ (zEt _)] at heq;exact zz5 (fun _ _ h=>h) rfl rfl rfl (by simp;omega) (by rw[<-zkk hos hol heq]) (fun l hl=>by simp only[List.mem_map] at hl;obtain⟨x,_,rfl⟩:=hl;exact⟨_,rfl⟩)
theorem zmc(a:List Nat)(k:Nat)(hsa:Small a)(hk:k<32)(hla:a.length<=10000000000000):Ctr Tryz.prog 249 [V.one (zaf a),V.one (Leaf.val (.int .i64 (k:Int)))] (R.one (V.one (zaf (zhh (a.length+1) (val a*2^k))))):=by
 have h:=Ctr.of_fresh (zoz a k hsa hk hla) (by simp[zcm]);have e:(zhh (a.length+1) (val a*2^k)).length=a.length+1:=zcm _ _;unfold zaf;rw[e];exact h
theorem zob(la:List Nat)(k:Nat)(hsa:Small la)(hk:k<=1048576)(hla:la.length<=10000000000000):Ctr Tryz.prog 252 [V.one (zaf la),V.one (Leaf.val (.int .i64 (k:Int)))] (R.tup [V.one (zaf (zaa (val la/2^k))),V.one (Leaf.val (.int .i64 0))]):=by
 refine bd_ Tryz.func252 Tryz.ntmps252 rfl (fun w0 A0=>?_);refine zc 10 rfl (tq_ rfl (ltF rfl) (zl 2 rfl (tq_ rfl (gtF rfl) (zl 9 rfl (tc_ zcR rfl (zaH la hsa) (zl 5 rfl ?_))))));have hl0:=zam hsa;have vl:=zac (val la);have sl:=zab (val la);have hnil:(zaa (val la)).length<=k/32->val la/2^k=0:=by
  intro h;have h1:=zag.1 h;rw[<-zet,Nat.div_eq_of_lt h1,Nat.zero_div]
 generalize zaa (val la)=l at *;refine zc 2 rfl (tq_ rfl (zdX rfl rfl rfl (by decide) (r:=((k/32:Nat):Int)) (w64 (zf3 k 32) (by omega) (by omega))) (zl 1 rfl (tq_ rfl (jln rfl) ?_)));by_cases hz:l.length<=k/32
 .refine tq_ rfl (geT rfl) (zl 9 rfl ?_);exact r2_ hq_ rfl (by rw[hnil hz,zah] <;> rfl)
 .refine tq_ rfl (geF rfl) (zl 9 rfl (tq_ rfl (zdX rfl rfl rfl (by decide) (r:=((k/32:Nat):Int)) (w64 (zf3 k 32) (by omega) (by omega))) (tq_ rfl (zi9 rfl rfl rfl zck zau (by omega)) (zl 4 rfl ?_))));have sa:Small (l.drop (k/32)):=sl.drop _;have va:val (l.drop (k/32))/2^(k%32)=val la/2^k:=by rw[<-zb1 l sl,vl,zet]
  have hla2:(l.drop (k/32)).length<=l.length:=by rw[zEP];omega
  generalize l.drop (k/32)=a at *;refine zc 2 rfl (tq_ rfl (jln rfl) ?_);obtain⟨ti2,hi2,hz2,hs2,hb2⟩:=zcP;refine te_ rfl (zcT (i:=0) (n:=a.length) (ls:=((List.replicate (a.length) 0).map zbf)) rfl rfl rfl zck hi2 hz2 hs2 (by decide) rfl (by decide) rfl (by rw[hb2];omega) (by simp only[maxLen];omega) (zdL _) rfl) (zl 7 rfl (tq_ rfl (jln rfl) (zl 4 rfl ?_)));refine zbv (fun m Γ H=>∃(i:Nat) (out:List Nat),a.length-i=m/\Γ=[(0,some (D.v (V.one (zaf a)))),(1,some (D.int (k:Int))),(6,some (D.own 0 a.length)),(30,some (D.v (V.one (zaf a)))),(31,some (D.int ((a.length:Nat):Int))),(32,some (D.int (i:Int)))]/\H=[some ⟨182,out.map zbf,some 1,none⟩]/\i<=a.length/\out.length=a.length/\Small out/\val (out.take i)=val a/2^(k%32)%4294967296^i) ⟨0,List.replicate a.length 0,rfl,rfl,rfl,zEv _,by simp,Small.replicate _,by simp[Nat.mod_one]⟩ rfl ?_;rintro m Γ H ⟨i,out,rfl,rfl,rfl,hile,hol,hos,heq⟩;refine zc 2 rfl ?_;by_cases hi:i<a.length
  .refine tq_ rfl (ltT rfl) (zl 9 rfl ?_);have hai:=sa.get i hi;refine zc 2 rfl (tq_ rfl (ji1 rfl (zba (by omega))) (tq_ rfl (jli rfl) (zl 7 rfl (tq_ rfl (jc6 (a[i]'hi) rfl) (zl 7 rfl (tq_ rfl (jad (i+1) rfl) (zl 1 rfl (tq_ rfl (jln rfl) ?_))))))));by_cases hi1:i+1<a.length
   .refine tq_ rfl (ltT rfl) (zl 3 rfl ?_);have hai1:=sa.get (i+1) hi1;refine zc 4 rfl (tq_ rfl (jad (i+1) rfl) (tq_ rfl (ji1 rfl (zba (by omega))) (tq_ rfl (jli rfl) (tq_ rfl (jc6 (a[i+1]'hi1) rfl) (tq_ rfl (zeK rfl rfl rfl (by decide) (r:=((a[i+1]'hi1*2^32:Nat):Int)) (zka _ 32 rfl (by omega))) ?_)))));refine tq_ rfl (zhG rfl rfl rfl (r:=((a[i]'hi+a[i+1]'hi1*2^32:Nat):Int)) (zrK 32 (Nat.mul_mod_left _ _) (by omega) (by omega))) (zl 8 rfl (tq_ rfl (zcf rfl rfl rfl (by decide) (r:=((k%32:Nat):Int)) (zd2 k 32)) ?_));refine tq_ rfl (zbA rfl rfl rfl (by omega) (r:=(((a[i]'hi+a[i+1]'hi1*2^32)/2^(k%32):Nat):Int)) (zaY _ (k%32) (zeh (by omega)))) (tq_ rfl (jc3 ((a[i]'hi+a[i+1]'hi1*2^32)/2^(k%32)%4294967296) rfl) (tq_ rfl (zap rfl rfl rfl rfl (by decide) (by simp[hol]) (by decide) zck zau (by omega) (by omega) (off:=i) (by omega)) ?_));refine te_ rfl (zaW (ls:=((out.set i ((a[i]'hi+a[i+1]'hi1*2^32)/2^(k%32)%4294967296)).map zbf)) rfl rfl rfl rfl zau rfl (by decide) (by simp;omega) (zaJ (by omega))) (zl 4 rfl (tq_ rfl (jad (i+1) rfl) (zl 2 rfl ?_)));exact nx_ ⟨i+1,_,rfl,rfl,rfl,by omega,by simp[hol],hos.set _ _ (by omega),zj9 sa hi (by omega) (by omega) heq _ (by rw[zcb hi1,zEU 4294967296])⟩ rfl
   .refine tq_ rfl (ltF rfl) (zl 10 rfl (tq_ rfl (zcf rfl rfl rfl (by decide) (r:=((k%32:Nat):Int)) (zd2 k 32)) (tq_ rfl (zbA rfl rfl rfl (by omega) (r:=(((a[i]'hi)/2^(k%32):Nat):Int)) (zaY _ (k%32) (zeh (by omega)))) (tq_ rfl (jc3 ((a[i]'hi)/2^(k%32)%4294967296) rfl) ?_))));refine tq_ rfl (zap rfl rfl rfl rfl (by decide) (by simp[hol]) (by decide) zck zau (by omega) (by omega) (off:=i) (by omega)) (te_ rfl (zaW (ls:=((out.set i ((a[i]'hi)/2^(k%32)%4294967296)).map zbf)) rfl rfl rfl rfl zau rfl (by decide) (by simp;omega) (zaJ (by omega))) (zl 4 rfl (tq_ rfl (jad (i+1) rfl) (zl 2 rfl ?_))));exact nx_ ⟨i+1,_,rfl,rfl,rfl,by omega,by simp[hol],hos.set _ _ (by omega),zj9 sa hi (by omega) (by omega) heq _ (by rw[zdV (by omega),Nat.mul_zero,Nat.add_zero])⟩ rfl
  .refine tq_ rfl (ltF rfl) (zl 10 rfl ?_);have hie:i=a.length:=by omega
   subst hie;rw[zan out _ (by omega),va] at heq;have hlt:val la/2^k<4294967296^a.length:=by rw[<-va];exact zEQ (Nat.div_le_self _ _) (zbs sa)
   rw[Nat.mod_eq_of_lt hlt] at heq;refine zc 2 rfl (zaL 62 (out) rfl rfl rfl rfl (by omega) (tc_ zcR rfl (zaH out hos) (zl 4 rfl ?_)));exact r2_ hq_ rfl (by rw[heq])
theorem ztf(la:List Nat)(hsa:Small la)(hla:la.length<=10000000000000):Ctr Tryz.prog 174 [V.one (zaf la)] (R.one (V.one (Leaf.val (.int .i64 ((bl (val la):Nat):Int))))):=by
 refine bd_ Tryz.func174 Tryz.ntmps174 rfl (fun w0 A0=>?_);refine zc 8 rfl (tc_ zcR rfl (zaH la hsa) (zl 5 rfl ?_));have hl0:=zam hsa;have hb:=fun h=>zh2 (zcS (val la)) h;have hs:=zab (val la);rw[zac] at hb;have hz0:(zaa (val la)).length=0->val la=0:=fun h=>za2.1 (zEB h);generalize zaa (val la)=a at *;refine zc 2 rfl (tq_ rfl (jln rfl) ?_);by_cases hz:a.length=0
 .refine tq_ rfl (eqT rfl) (zl 8 rfl ?_);exact r1_ hq_ rfl (by rw[hz0 hz] <;> rfl)
 .refine tq_ rfl (eqF rfl) (zl 6 rfl ?_);have hb:=hb (by omega);have htop:=hs.get (a.length-1) (by omega);have hbt:=zaA (k:=32) htop;refine zc 2 rfl (tq_ rfl (jln rfl) (tq_ rfl (jsb (a.length-1) rfl) (tq_ rfl (zfH rfl rfl rfl (r:=((32*(a.length-1):Nat):Int)) (w64 (by omega) (by omega) (by omega))) (zl 2 rfl (tq_ rfl (jln rfl) (tq_ rfl (jsb (a.length-1) rfl) (tq_ rfl (ji1 rfl (zaV (a.length-1) (by omega) rfl)) (tq_ rfl (jli rfl) ?_))))))));refine tc_ zCR rfl (zjK (a[a.length-1]'(by omega)) htop) (tq_ rfl (jad (bl (val la)) rfl) (zl 3 rfl ?_));exact r1_ hq_ rfl rfl
theorem zpB(a:List Nat)(d:Nat)(hsa:Small a)(hd:d<4294967296)(hd0:0<d)(hla:a.length<=10000000000000):Ctr Tryz.prog 247 [V.one (zaf a),V.one (Leaf.val (.int .u32 d))] (R.tup [V.one (zaf (zaa (val a/d))),V.one (zaf (zaa (val a%d)))]):=by
 refine bd_ Tryz.func247 Tryz.ntmps247 rfl (fun w0 A0=>?_);refine zc 9 rfl (tq_ rfl (jln rfl) ?_);obtain⟨ti1,hi1,hz1,hs1,hb1⟩:=zcP;refine te_ rfl (zcT (i:=0) (n:=a.length) (ls:=((List.replicate (a.length) 0).map zbf)) rfl rfl rfl zck hi1 hz1 hs1 (by decide) rfl (by decide) rfl (by rw[hb1];omega) (by simp only[maxLen];omega) (zdL _) rfl) (zl 12 rfl (tq_ rfl (jln rfl) (tq_ rfl (zaN rfl rfl rfl (r:=(a.length:Int)-1) (w64 (by omega) (by omega) (by omega))) (zl 4 rfl ?_))));refine zbv (fun m Γ H=>∃(n:Nat) (out:List Nat) (r:Nat),n=m/\Γ=[(0,some (D.v (V.one (zaf a)))),(1,some (D.val (.int .u32 (d:Int)))),(6,some (D.own 0 a.length)),(7,some (D.val (.int .u64 (r:Int)))),(8,some (D.int ((n:Int)-1)))]/\H=[some ⟨182,out.map zbf,some 1,none⟩]/\n<=a.length/\out.length=a.length/\Small out/\r<d/\val (a.drop n)=val (out.drop n)*d+r) ⟨a.length,List.replicate a.length 0,0,rfl,rfl,rfl,zEt _,by simp,Small.replicate _,hd0,by rw[List.drop_of_length_le (zEt _),List.drop_of_length_le (by simp)];simp[val]⟩ rfl ?_;rintro m Γ H ⟨n,out,r,rfl,rfl,rfl,hnle,hol,hos,hr,heq⟩;refine zc 4 rfl ?_;by_cases hn:0<n
 .refine tq_ rfl (geT rfl) (zl 8 rfl ?_);have hai:=hsa.get (n-1) (by omega);have hq:(r*2^32+a[n-1]'(by omega))/d<4294967296:=by
   rw[Nat.div_lt_iff_lt_mul hd0];have:(r+1)*4294967296<=d*4294967296:=zEA _ hr;omega
  have hm:=Nat.mod_lt (r*2^32+a[n-1]'(by omega)) hd0;refine zc 2 rfl (tq_ rfl (zeK rfl rfl rfl (by decide) (r:=((r*2^32:Nat):Int)) (zka _ 32 rfl (by omega))) (zl 2 rfl (tq_ rfl (ji1 rfl (zaV (n-1) (by omega) (by omega))) (tq_ rfl (jli rfl) (tq_ rfl (jc6 (a[n-1]'(by omega)) rfl) ?_)))));refine tq_ rfl (zhG rfl rfl rfl (r:=((r*2^32+a[n-1]'(by omega):Nat):Int)) (or64 32 (Nat.mul_mod_left _ _) (by omega) (by omega))) (zl 9 rfl (tq_ rfl (jc6 d rfl) (tq_ rfl (zdX rfl rfl rfl (by omega) (r:=(((r*2^32+a[n-1]'(by omega))/d:Nat):Int)) ((by rw[zf3];exact zco (Nat.lt_trans hq (by decide))))) ?_)));refine tq_ rfl (jcv ((r*2^32+a[n-1]'(by omega))/d) rfl (zxh (Int.emod_eq_of_lt (Int.natCast_nonneg _) (Int.ofNat_lt.2 hq)))) (tq_ rfl (zap rfl rfl rfl rfl (by decide) (by simp[hol]) (by decide) zck zau (by omega) (by omega) (off:=n-1) (by omega)) ?_);refine te_ rfl (zaW (ls:=((out.set (n-1) ((r*2^32+a[n-1]'(by omega))/d)).map zbf)) rfl rfl rfl rfl zau rfl (by decide) (by simp;omega) (zaJ (by omega))) (zl 5 rfl (tq_ rfl (jc6 d rfl) (tq_ rfl (zcf rfl rfl rfl (by omega) (r:=(((r*2^32+a[n-1]'(by omega))%d:Nat):Int)) (zd2 _ _)) (zl 6 rfl ?_))));refine tq_ rfl (zaN rfl rfl rfl (r:=((n-1:Nat):Int)-1) (w64 (by omega) (by omega) (by omega))) (zl 2 rfl ?_);exact nx_ ⟨n-1,_,_,rfl,rfl,rfl,by omega,by simp[hol],hos.set _ _ hq,Nat.mod_lt _ hd0,zpA hn (by omega) (by omega) heq _ (by simp)⟩ rfl
 .refine tq_ rfl (geF rfl) (zl 9 rfl ?_);have hn0:n=0:=by omega
  subst hn0;simp only[List.drop_zero] at heq;have hq:val a/d=val out:=by rw[heq,zEU,Nat.mul_add_div hd0,Nat.div_eq_of_lt hr,Nat.add_zero]
  have hm:val a%d=r:=by rw[heq,zEU,Nat.mul_add_mod,Nat.mod_eq_of_lt hr]
  refine zc 2 rfl (zaL 39 (out) rfl rfl rfl rfl (by omega) (tc_ zcR rfl (zaH out hos) (zl 1 rfl (tc_ znr rfl (zfO r (by omega)) (zl 4 rfl ?_)))));exact r2_ hq_ rfl (by rw[hq,hm])
theorem zkJ(s v:List Nat)(hss:Small s)(hsv:Small v)(hsl:s.length=v.length+1)(hv2:2<=v.length)(hvl:v.length<=20000000000000)(hnz:0<v.getD (v.length-1) 0):Ctr Tryz.prog 251 [V.one (zaf s),V.one (zaf v)] (R.one (V.one (Leaf.val (.int .u64 ((est (s.getD v.length 0*4294967296+s.getD (v.length-1) 0) (s.getD (v.length-2) 0) (v.getD (v.length-1) 0) (v.getD (v.length-2) 0):Nat):Int))))):=by
 refine bd_ Tryz.func251 Tryz.ntmps251 rfl (fun w0 A0=>?_);refine zc 1 rfl ?_;rw[zcb (show v.length<s.length by omega),zcb (show v.length-1<s.length by omega),zcb (show v.length-2<s.length by omega),zcb (show v.length-1<v.length by omega),zcb (show v.length-2<v.length by omega)];rw[zcb (show v.length-1<v.length by omega)] at hnz;have a0:=hss.get v.length (by omega);have a1:=hss.get (v.length-1) (by omega);have a2:=hss.get (v.length-2) (by omega);have b1:=hsv.get (v.length-1) (by omega);have b2:=hsv.get (v.length-2) (by omega);obtain⟨v1,hv1⟩:∃x,x=v[v.length-1]:=⟨_,rfl⟩;obtain⟨v2,hv2e⟩:∃x,x=v[v.length-2]:=⟨_,rfl⟩;obtain⟨s2,hs2⟩:∃x,x=s[v.length-2]:=⟨_,rfl⟩;obtain⟨top,htop⟩:∃x,x=s[v.length]*4294967296+s[v.length-1]:=⟨_,rfl⟩;rw[<-hv1,<-hv2e,<-hs2,<-htop];rw[<-hv1] at hnz b1;rw[<-hv2e] at b2;rw[<-hs2] at a2;have h1:0<v1:=hnz;obtain⟨e,he⟩:∃e,est top s2 v1 v2=e:=⟨_,rfl⟩;rw[he];refine zc 7 rfl (tq_ rfl (jln rfl) (zl 4 rfl (dr_ 0 [] [] (dz 2 rfl (kq_ rfl (ji1 rfl (zaV (v.length) (by omega) (by omega))) (kq_ rfl (jli rfl) (kq_ rfl (jc6 (s[v.length]'(by omega)) rfl) (kq_ rfl (zeK rfl rfl rfl (by decide) (r:=((s[v.length]'(by omega)*2^32:Nat):Int)) (zka _ 32 rfl (by omega))) (dz 2 rfl ?_)))))))));refine kq_ rfl (jsb (v.length-1) rfl) (kq_ rfl (ji1 rfl (zaV (v.length-1) (by omega) (by omega))) (kq_ rfl (jli rfl) (kq_ rfl (jc6 (s[v.length-1]'(by omega)) rfl) (kq_ rfl (zhG rfl rfl rfl (r:=(top:Int)) (by rw[htop];exact or64 32 (Nat.mul_mod_left _ _) (by omega) (by omega))) (dz 1 rfl (zae (za 2 rfl (dr_ 0 [] [] (dz 3 rfl ?_)))))))));refine kq_ rfl (jsb (v.length-1) rfl) (kq_ rfl (ji1 rfl (zaV (v.length-1) (by omega) (by omega))) (kq_ rfl (jli rfl) (kq_ rfl (jcv v1 rfl (by rw[hv1];exact zdG (by omega))) (kq_ rfl (zdX rfl rfl rfl (by omega) (r:=((top/v1:Nat):Int)) ((by rw[zf3];exact zco (zEQ (Nat.div_le_self _ _) (by omega))))) (dz 3 rfl ?_)))));refine kq_ rfl (jsb (v.length-1) rfl) (kq_ rfl (ji1 rfl (zaV (v.length-1) (by omega) (by omega))) (kq_ rfl (jli rfl) (kq_ rfl (jcv v1 rfl (by rw[hv1];exact zdG (by omega))) (kq_ rfl (zcf rfl rfl rfl (by omega) (r:=((top%v1:Nat):Int)) (zd2 _ _)) (dz 2 rfl (zae (za 3 rfl ?_)))))));refine zbv (fun m Γ H=>∃(q:Nat) (r:Nat),q=m/\Γ=[(0,some (D.v (V.one (zaf s)))),(1,some (D.v (V.one (zaf v)))),(5,some (D.int ((v.length:Nat):Int))),(7,some (D.val (.int .u64 (q:Int)))),(8,some (D.val (.int .u64 (r:Int))))]/\H=[]/\q*v1+r=top/\r<4294967296/\e<=q/\q<18446744073709551616) ⟨top/v1,top%v1,rfl,rfl,rfl,by rw[zEU];exact Nat.div_add_mod _ _,Nat.lt_trans (Nat.mod_lt _ h1) b1,by rw[<-he];exact zDm h1 a2,zEQ (Nat.div_le_self _ _) (by omega)⟩ rfl ?_;rintro m Γ H ⟨q,r,rfl,rfl,rfl,hqt,hr,heq,hqb⟩;refine zc 2 rfl (dr_ 0 [] [] (dz 1 rfl ?_));by_cases hq:4294967296<=q
 .refine kq_ rfl (geT rfl) (dz 20 rfl (zae (za 6 rfl ?_)));have hlt:e<q:=by rw[<-he];exact zwP h1 hr hqt (.inl hq)
  have hq0:0<q:=by omega
  refine zc 2 rfl (tq_ rfl (zaN rfl rfl rfl (r:=((q-1:Nat):Int)) (zdG (by omega))) (zl 8 rfl (tq_ rfl (jsb (v.length-1) rfl) (tq_ rfl (ji1 rfl (zaV (v.length-1) (by omega) (by omega))) (tq_ rfl (jli rfl) (tq_ rfl (jcv v1 rfl (by rw[hv1];exact zdG (by omega))) (tq_ rfl (zbe rfl rfl rfl (r:=((r+v1:Nat):Int)) (zdG (by omega))) (zl 6 rfl ?_))))))));by_cases hr2:4294967296<=r+v1
  .refine tq_ rfl (geT rfl) (zl 14 rfl ?_);exact r1_ hq_ rfl (by rw[show q-1=e from Nat.le_antisymm (by rw[<-he];exact zmo h1 hr2 (by rw[<-hqt,Nat.sub_mul,Nat.one_mul];have:=Nat.le_mul_of_pos_left v1 hq0;omega)) (by omega)])
  .refine tq_ rfl (geF rfl) (zl 5 rfl ?_);exact nx_ ⟨q-1,r+v1,rfl,rfl,rfl,by rw[<-hqt,Nat.sub_mul,Nat.one_mul];have:=Nat.le_mul_of_pos_left v1 hq0;omega,by omega,by omega,by omega⟩ rfl
 .refine kq_ rfl (geF rfl) (dz 4 rfl ?_);have hm:q*v2<=4294967295*4294967295:=Nat.mul_le_mul (by omega) (by omega);refine kq_ rfl (jsb (v.length-2) rfl) (kq_ rfl (ji1 rfl (zaV (v.length-2) (by omega) (by omega))) (kq_ rfl (jli rfl) (kq_ rfl (jcv v2 rfl (by rw[hv2e];exact zdG (by omega))) (kq_ rfl (zfH rfl rfl rfl (r:=((q*v2:Nat):Int)) (zdG (by rw[<-Int.natCast_mul];omega))) (dz 1 rfl ?_)))));refine kq_ rfl (zeK rfl rfl rfl (by decide) (r:=((r*2^32:Nat):Int)) (zka _ 32 rfl (by omega))) (dz 2 rfl (kq_ rfl (jsb (v.length-2) rfl) (kq_ rfl (ji1 rfl (zaV (v.length-2) (by omega) (by omega))) (kq_ rfl (jli rfl) (kq_ rfl (jcv s2 rfl (by rw[hs2];exact zdG (by omega))) ?_)))));refine kq_ rfl (zhG rfl rfl rfl (r:=((r*2^32+s2:Nat):Int)) (or64 32 (Nat.mul_mod_left _ _) (by omega) (by omega))) ?_;by_cases hc:r*2^32+s2<q*v2
  .refine kq_ rfl (gtT rfl) (dz 1 rfl (zae (za 6 rfl ?_)));have hlt:e<q:=by rw[<-he];exact zwP h1 hr hqt (.inr hc)
   have hq0:0<q:=by omega
   refine zc 2 rfl (tq_ rfl (zaN rfl rfl rfl (r:=((q-1:Nat):Int)) (zdG (by omega))) (zl 8 rfl (tq_ rfl (jsb (v.length-1) rfl) (tq_ rfl (ji1 rfl (zaV (v.length-1) (by omega) (by omega))) (tq_ rfl (jli rfl) (tq_ rfl (jcv v1 rfl (by rw[hv1];exact zdG (by omega))) (tq_ rfl (zbe rfl rfl rfl (r:=((r+v1:Nat):Int)) (zdG (by omega))) (zl 6 rfl ?_))))))));by_cases hr2:4294967296<=r+v1
   .refine tq_ rfl (geT rfl) (zl 14 rfl ?_);exact r1_ hq_ rfl (by rw[show q-1=e from Nat.le_antisymm (by rw[<-he];exact zmo h1 hr2 (by rw[<-hqt,Nat.sub_mul,Nat.one_mul];have:=Nat.le_mul_of_pos_left v1 hq0;omega)) (by omega)])
   .refine tq_ rfl (geF rfl) (zl 5 rfl ?_);exact nx_ ⟨q-1,r+v1,rfl,rfl,rfl,by rw[<-hqt,Nat.sub_mul,Nat.one_mul];have:=Nat.le_mul_of_pos_left v1 hq0;omega,by omega,by omega,by omega⟩ rfl
  .refine kq_ rfl (gtF rfl) (dz 1 rfl (zae (za 13 rfl ?_)));exact r1_ hq_ rfl (by rw[show q=e from Nat.le_antisymm (by rw[<-he];exact zsv h1 (by omega) (Nat.le_of_not_lt hc) hqt) heq])
theorem znd(pre s post v:List Nat)(q:Nat)(hs:Small s)(hv:Small v)(hsl:s.length=v.length+1)(hvl:v.length<=20000000000000)(hV:0<val v)(hlt:val s<val v*4294967296)(hq:q=val s/val v\/q=val s/val v+1):CtrM Tryz.prog 250 182 pre.length (v.length+1) ((pre++s++post).map zbf) ((pre++zhh (v.length+1) (val s%val v)++post).map zbf) [V.one (zaf v),V.one (Leaf.val (.int .u64 (q:Int)))] (R.one (V.one (Leaf.val (.int .u32 ((val s/val v:Nat):Int))))):=by
 refine CtrM.of_body Tryz.func250 rfl Tryz.ntmps250 (zEw rfl) (fun w0 A0 bk hX=>?_);refine qc_ (zc 1 rfl ?_);have hqt:val s/val v<4294967296:=by rw[Nat.div_lt_iff_lt_mul hV,zEU];exact hlt
 have hqB:q<=4294967296:=by omega
 refine zc 14 rfl (tq_ rfl (jln rfl) (zl 4 rfl ?_));refine zbv (fun m Γ H=>∃(i:Nat) (s1:List Nat) (c:Nat) (b:Nat),v.length-i=m/\Γ=[(0,some (D.part 0 pre.length (v.length+1))),(1,some (D.v (V.one (zaf v)))),(2,some (D.val (.int .u64 (q:Int)))),(7,some (D.val (.int .u64 (c:Int)))),(8,some (D.val (.int .u64 (b:Int)))),(15,some (D.v (V.one (zaf v)))),(16,some (D.int ((v.length:Nat):Int))),(17,some (D.int (i:Int)))]/\H=[some ⟨182,(pre++s1++post).map zbf,some 1,some (.inl bk)⟩]/\i<=v.length/\s1.length=s.length/\Small s1/\c<4294967296/\b<=1/\val (s1.take i)+q*val (v.take i)=val (s.take i)+(c+b)*4294967296^i/\s1.drop i=s.drop i) ⟨0,s,0,0,rfl,rfl,rfl,zEv _,rfl,hs,by omega,by omega,by simp[val],rfl⟩ rfl ?_;rintro m Γ H ⟨i,s1,c,b,rfl,rfl,rfl,hile,hl1,hs1,hc,hb,heq,hdr⟩;refine zc 2 rfl ?_;by_cases hi:i<v.length
 .refine tq_ rfl (ltT rfl) (zl 9 rfl ?_);have hvi:=hv.get i hi;have hsi:=hs1.get i (by omega);have hm:q*v[i]<=4294967296*4294967295:=Nat.mul_le_mul hqB (by omega);obtain⟨t,ht⟩:∃t,t=c+q*v[i]:=⟨_,rfl⟩;have htb:t<18446744073709551616:=by omega
  obtain⟨x,hx⟩:∃x,x=(s1[i]'(by omega)+(18446744073709551616-(t%4294967296+b)))%18446744073709551616:=⟨_,rfl⟩;have hd:=zlt (l:=t%4294967296) (b:=b) hsi (by omega);simp only[<-hx] at hd;refine zc 2 rfl (tq_ rfl (ji1 rfl (zba (by omega))) (tq_ rfl (jli rfl) (zl 9 rfl (tq_ rfl (jc6 (v[i]'hi) rfl) (tq_ rfl (zfH rfl rfl rfl (r:=((q*v[i]'hi:Nat):Int)) (zdG (by rw[<-Int.natCast_mul];omega))) (tq_ rfl (zbe rfl rfl rfl (r:=(t:Int)) (by rw[ht];exact zdG (by omega))) (zl 7 rfl ?_)))))));refine tq_ rfl (zbB rfl rfl rfl rfl (by decide) (by simp;omega) zck zau (by omega) (by omega) (off:=pre.length+(i)) (by omega)) (tq_ rfl (zcD rfl rfl rfl (by decide) zau (get_part rfl (by omega))) (tq_ rfl (jc6 (s1[i]'(by omega)) rfl) (zl 1 rfl (tq_ rfl (jc3 (t%4294967296) rfl) (tq_ rfl (jc6 (t%4294967296) rfl) ?_)))));refine tq_ rfl (zaN rfl rfl rfl (r:=(((s1[i]'(by omega)+(18446744073709551616-t%4294967296))%18446744073709551616:Nat):Int)) (zdG (by omega))) (zl 1 rfl (tq_ rfl (zaN rfl rfl rfl (r:=(x:Int)) (zdG (by omega))) (zl 8 rfl (tq_ rfl (jc3 (x%4294967296) rfl) ?_))));refine tq_ rfl (zbB rfl rfl rfl rfl (by decide) (by simp;omega) zck zau (by omega) (by omega) (off:=pre.length+(i)) (by omega)) (te_ rfl (zaW (ls:=((pre++s1.set (i) (x%4294967296)++post).map zbf)) rfl rfl rfl rfl zau rfl (by decide) (by simp;omega) (zes rfl (by omega))) (zl 5 rfl ?_));refine tq_ rfl (zbA rfl rfl rfl (by decide) (r:=((x/9223372036854775808:Nat):Int)) (zaY _ 63 rfl)) (zl 5 rfl (tq_ rfl (zbA rfl rfl rfl (by decide) (r:=((t/4294967296:Nat):Int)) (zaY _ 32 rfl)) (zl 5 rfl (tq_ rfl (jad (i+1) rfl) (zl 2 rfl ?_)))));exact nx_ ⟨i+1,_,_,_,rfl,rfl,rfl,by omega,by simp[hl1],hs1.set _ _ (by omega),by omega,hd.2,zuq (by omega) (by omega) hi heq hdr _ _ t ht hd.1,zoj hdr⟩ rfl
 .refine tq_ rfl (ltF rfl) (zl 10 rfl ?_);have hie:i=v.length:=by omega
  subst hie;have hsn:=hs1.get v.length (by omega);obtain⟨x,hx⟩:∃x,x=(s1[v.length]'(by omega)+(18446744073709551616-(c+b)))%18446744073709551616:=⟨_,rfl⟩;have hd:=zlt (l:=c) (b:=b) hsn (by omega);simp only[<-hx] at hd;have htot:=zrz (by omega) hsl rfl heq hdr hd.1;have hs2:=hs1.set v.length (x%4294967296) (by omega);have hl2:(s1.set v.length (x%4294967296)).length=v.length+1:=by simp;omega
  refine zc 3 rfl (tq_ rfl (jln rfl) (tq_ rfl (zbB rfl rfl rfl rfl (by decide) (by simp;omega) zck zau (by omega) (by omega) (off:=pre.length+(v.length)) (by omega)) (tq_ rfl (zcD rfl rfl rfl (by decide) zau (get_part rfl (by omega))) (tq_ rfl (jc6 (s1[v.length]'(by omega)) rfl) (zl 1 rfl ?_)))));refine tq_ rfl (zaN rfl rfl rfl (r:=(((s1[v.length]'(by omega)+(18446744073709551616-c))%18446744073709551616:Nat):Int)) (zdG (by omega))) (zl 1 rfl (tq_ rfl (zaN rfl rfl rfl (r:=(x:Int)) (zdG (by omega))) (zl 7 rfl (tq_ rfl (jln rfl) (zl 1 rfl (tq_ rfl (jc3 (x%4294967296) rfl) ?_))))));refine tq_ rfl (zbB rfl rfl rfl rfl (by decide) (by simp;omega) zck zau (by omega) (by omega) (off:=pre.length+(v.length)) (by omega)) (te_ rfl (zaW (ls:=((pre++s1.set (v.length) (x%4294967296)++post).map zbf)) rfl rfl rfl rfl zau rfl (by decide) (by simp;omega) (zes rfl (by omega))) (zl 6 rfl ?_));refine tq_ rfl (zbA rfl rfl rfl (by decide) (r:=((x/9223372036854775808:Nat):Int)) (zaY _ 63 rfl)) ?_;by_cases hx0:x/9223372036854775808=0
  .refine tq_ rfl (eqT rfl) (zl 4 rfl ?_);rw[hx0,Nat.zero_mul,Nat.add_zero] at htot;obtain⟨k1,k2⟩:=zus hq hV htot;refine zc 2 rfl (tq_ rfl (jcv (val s/val v) rfl (by rw[<-k1];exact zxh (by omega))) (zl 3 rfl ?_));exact ztw (fun _ _ h=>h) rfl rfl rfl rfl (by simp;omega) (by rw[zkk hs2 hl2 k2]) hX
  .refine tq_ rfl (eqF rfl) (zl 6 rfl ?_);have hx1:x/9223372036854775808=1:=by omega
   rw[hx1,Nat.one_mul] at htot;have hbd:=zbs hs2;rw[hl2] at hbd;obtain⟨k1,k2⟩:=zur hq hV hbd htot;generalize s1.set v.length (x%4294967296)=s2 at *;refine zc 8 rfl (tq_ rfl (jln rfl) (zl 4 rfl ?_));refine zbv (fun m Γ H=>∃(i:Nat) (s3:List Nat) (c:Nat),v.length-i=m/\Γ=[(0,some (D.part 0 pre.length (v.length+1))),(1,some (D.v (V.one (zaf v)))),(2,some (D.val (.int .u64 (q:Int)))),(7,some (D.val (.int .u64 (c:Int)))),(70,some (D.v (V.one (zaf v)))),(71,some (D.int ((v.length:Nat):Int))),(72,some (D.int (i:Int)))]/\H=[some ⟨182,(pre++s3++post).map zbf,some 1,some (.inl bk)⟩]/\i<=v.length/\s3.length=v.length+1/\Small s3/\c<=1/\val (s3.take i)+c*4294967296^i=val (s2.take i)+val (v.take i)/\s3.drop i=s2.drop i) ⟨0,s2,0,rfl,rfl,rfl,zEv _,hl2,hs2,by omega,by simp[val],rfl⟩ rfl ?_;rintro m Γ H ⟨i,s3,c,rfl,rfl,rfl,hile,hl3,hs3,hc3,heq3,hdr3⟩;refine zc 2 rfl ?_;by_cases hi:i<v.length
   .refine tq_ rfl (ltT rfl) (zl 9 rfl ?_);have hvi:=hv.get i hi;have hsi:=hs3.get i (by omega);have hge:=zfS hdr3 (by omega) (by omega);refine zc 2 rfl (tq_ rfl (ji1 rfl (zba (by omega))) (tq_ rfl (jli rfl) (zl 9 rfl (tq_ rfl (zbB rfl rfl rfl rfl (by decide) (by simp;omega) zck zau (by omega) (by omega) (off:=pre.length+(i)) (by omega)) (tq_ rfl (zcD rfl rfl rfl (by decide) zau (get_part rfl (by omega))) (tq_ rfl (jc6 (s3[i]'(by omega)) rfl) (zl 1 rfl (tq_ rfl (jc6 (v[i]'hi) rfl) ?_))))))));refine tq_ rfl (zbe rfl rfl rfl (r:=((s3[i]'(by omega)+v[i]'hi:Nat):Int)) (zdG (by omega))) (tq_ rfl (zbe rfl rfl rfl (r:=((c+(s3[i]'(by omega)+v[i]'hi):Nat):Int)) (zdG (by omega))) (zl 8 rfl (tq_ rfl (jc3 ((c+(s3[i]'(by omega)+v[i]'hi))%4294967296) rfl) ?_)));refine tq_ rfl (zbB rfl rfl rfl rfl (by decide) (by simp;omega) zck zau (by omega) (by omega) (off:=pre.length+(i)) (by omega)) (te_ rfl (zaW (ls:=((pre++s3.set (i) ((c+(s3[i]'(by omega)+v[i]'hi))%4294967296)++post).map zbf)) rfl rfl rfl rfl zau rfl (by decide) (by simp;omega) (zes rfl (by omega))) (zl 4 rfl ?_));refine tq_ rfl (zbA rfl rfl rfl (by decide) (r:=(((c+(s3[i]'(by omega)+v[i]'hi))/4294967296:Nat):Int)) (zaY _ 32 rfl)) (zl 5 rfl (tq_ rfl (jad (i+1) rfl) (zl 2 rfl ?_)));exact nx_ ⟨i+1,_,_,rfl,rfl,rfl,by omega,by simp[hl3],hs3.set _ _ (by omega),by omega,zgH (a:=s2) (b:=v) (by omega) (by omega) heq3 (by rw[zcb hi,hge,Nat.add_assoc]),zoj hdr3⟩ rfl
   .refine tq_ rfl (ltF rfl) (zl 10 rfl ?_);have hie:i=v.length:=by omega
    subst hie;have hsn:=hs3.get v.length (by omega);have hR:val s%val v<4294967296^(v.length+1):=zEy (Nat.mod_lt _ hV) (Nat.le_of_lt (zEy (zbs hv) (zEC (by decide) (by omega))));have hfin:=zut hs3 hl3 hl2 rfl heq3 hdr3 rfl hR k2;obtain⟨Q,hQ⟩:∃Q,Q=val s/val v:=⟨_,rfl⟩;rw[<-hQ] at hqt;refine zc 3 rfl (tq_ rfl (jln rfl) (tq_ rfl (zbB rfl rfl rfl rfl (by decide) (by simp;omega) zck zau (by omega) (by omega) (off:=pre.length+(v.length)) (by omega)) (tq_ rfl (zcD rfl rfl rfl (by decide) zau (get_part rfl (by omega))) (zl 1 rfl (tq_ rfl (jc3 c rfl) ?_)))));refine tq_ rfl (zbe rfl rfl rfl (r:=(((s3[v.length]'(by omega)+c)%4294967296:Nat):Int)) (zxh (by omega))) (tq_ rfl (zbB rfl rfl rfl rfl (by decide) (by simp;omega) zck zau (by omega) (by omega) (off:=pre.length+(v.length)) (by omega)) ?_);refine te_ rfl (zaW (ls:=((pre++s3.set (v.length) ((s3[v.length]'(by omega)+c)%4294967296)++post).map zbf)) rfl rfl rfl rfl zau rfl (by decide) (by simp;omega) (zes rfl (by omega))) (zl 5 rfl (tq_ rfl (zaN rfl rfl rfl (r:=((Q:Nat):Int)) (by rw[k1,<-hQ];exact zdG (by omega))) (tq_ rfl (jc3 Q rfl) (zl 3 rfl ?_))));exact ztw (fun _ _ h=>h) rfl rfl (by rw[hQ]) rfl (by simp;omega) (by rw[zkk (n:=v.length+1) (hs3.set _ _ (Nat.mod_lt _ (by decide))) (by simp[hl3]) hfin]) hX
theorem ziS(la lb:List Nat)(hsa:Small la)(hsb:Small lb)(hla0:la.length<=9000000000000)(hlb0:lb.length<=9000000000000)(hb0:0<val lb):Ctr Tryz.prog 225 [V.one (zaf la),V.one (zaf lb)] (R.tup [V.one (zaf (zaa (val la/val lb))),V.one (zaf (zaa (val la%val lb))),V.one (Leaf.val (.int .i64 0))]):=by
 refine bd_ Tryz.func225 Tryz.ntmps225 rfl (fun w0 A0=>?_);refine zc 10 rfl (tc_ zcR rfl (zaH la hsa) (zl 1 rfl (tc_ zcR rfl (zaH lb hsb) (zl 7 rfl ?_))));have hla:=zam hsa;have hlb:=zam hsb;have va:=zac (val la);have vb:=zac (val lb);have sa:=zab (val la);have sb:=zab (val lb);have ca:=zcS (val la);have cb:=zcS (val lb);have hbl:0<(zaa (val lb)).length:=Nat.pos_of_ne_zero (fun h=>by have:=za2.1 (zEB h);omega);generalize zaa (val la)=a at *;generalize zaa (val lb)=b at *;refine zc 2 rfl (tq_ rfl (jln rfl) (tq_ rfl (eqF rfl) (zl 8 rfl (tc_ zkB rfl (zkO a b sa sb) ?_))));by_cases hab:val a<val b
 .refine tq_ rfl (ltT rfl (by rw[zdc hab];decide)) (zl 7 rfl (tc_ zkA rfl (ziD a sa (by omega)) (zl 5 rfl ?_)));exact r3_ hq_ rfl (by rw[<-va,<-vb,Nat.div_eq_of_lt hab,Nat.mod_eq_of_lt hab,zah] <;> rfl)
 .refine tq_ rfl (ltF rfl (by unfold zgM;rw[if_neg hab];split <;> decide)) (zl 7 rfl (tq_ rfl (jln rfl) ?_));by_cases h1:b.length=1
  .refine tq_ rfl (eqT rfl) (zl 8 rfl (tq_ rfl (ji1 rfl (zaV 0 (by omega) rfl)) (tq_ rfl (jli rfl) ?_)));have hb1:=sb.get 0 (by omega);have vb1:val b=b[0]:=by
    match b,h1 with
    |[d],_=>simp[val]
   have hb2:0<b[0]:=by rw[<-vb1,vb];exact hb0
   refine tc_ fn247 rfl (zpB a (b[0]'(by omega)) sa hb1 hb2 (by omega)) (zl 16 rfl ?_);exact r3_ hq_ rfl (by rw[<-va,<-vb,vb1])
  .refine tq_ rfl (eqF rfl) (zl 8 rfl ?_);have hbp:b.length-1<b.length:=Nat.sub_lt hbl (by decide);have htb:=sb.get (b.length-1) hbp;obtain⟨sh,hshe,hsh,hvlen,hvtop⟩:=zxT cb hbl;refine zc 3 rfl (tq_ rfl (jln rfl) (tq_ rfl (jsb (b.length-1) rfl) (tq_ rfl (ji1 rfl (zaV (b.length-1) hbp rfl)) (tq_ rfl (jli rfl) (tc_ fn248 rfl (zrY (b[b.length-1]'hbp) htb) (zl 4 rfl ?_))))));rw[hshe];have hp:0<2^sh:=Nat.pow_pos (by decide);have hab2:b.length<=a.length:=by
    have:=zaC (Nat.le_of_not_lt hab)
    rwa [zgo ca,zgo cb] at this
   have hVlt:val b*2^sh<4294967296^b.length:=by have:=zag (n:=val b*2^sh) (k:=b.length);rw[hvlen] at this;exact this.1 (zEt _)
   have hVpos:0<val b*2^sh:=Nat.mul_pos (by omega) hp;have hVge:4294967296^(b.length-1)*2^sh<=val b*2^sh:=by
    refine zEA _ ?_;have:=zag (n:=val b) (k:=b.length-1);rw[zgo cb] at this;omega
   obtain⟨hAlt,hAtop⟩:=zu4 sa rfl rfl hsh hab2 hVge hbl;have hVpad:val (zhh (b.length+1) (val b*2^sh))=val b*2^sh:=zf2 (Nat.lt_trans hVlt (zEV (by decide) (by omega)));refine zc 3 rfl (te_ rfl (zle (i:=0) rfl zzh rfl (zoz a sh sa hsh (by omega)) rfl) (zl 2 rfl (tc_ zzh rfl (zmc b sh sb hsh (by omega)) (tc_ zcR rfl (zaH (zhh (b.length+1) (val b*2^sh)) (zea _ _)) (zl 5 rfl ?_)))));rw[hVpad];have hvs:=zab (val b*2^sh);have hvv:=zac (val b*2^sh);generalize zaa (val b*2^sh)=v at *;generalize hVe:val b*2^sh=vv at *;refine zc 2 rfl (tq_ rfl (jln rfl) (zl 1 rfl (tq_ rfl (jln rfl) (tq_ rfl (jsb (a.length-b.length) rfl) (tq_ rfl (jad (a.length-b.length+1) rfl) ?_)))));obtain⟨ti3,hi3,hz3,hs3,hb3⟩:=zcP;refine te_ rfl (zcT (i:=1) (n:=a.length-b.length+1) (ls:=((List.replicate (a.length-b.length+1) 0).map zbf)) rfl rfl rfl zck hi3 hz3 hs3 (by decide) rfl (by decide) rfl (by rw[hb3];omega) (by simp only[maxLen];omega) (zdL _) rfl) (zl 7 rfl (tq_ rfl (zdq rfl rfl rfl (by decide) rfl (by simp) (by decide) zck) ?_));refine tq_ rfl (zaN rfl rfl rfl (r:=((a.length-b.length+1:Nat):Int)-1) (w64 (by omega) (by omega) (by omega))) (zl 4 rfl ?_);refine zbv (fun m Γ H=>∃(k:Nat) (us:List Nat) (out:List Nat),k=m/\Γ=[(0,some (D.v (V.one (zaf a)))),(1,some (D.v (V.one (zaf b)))),(9,some (D.val (.int .i64 (sh:Int)))),(10,some (D.own 0 (a.length+1))),(11,some (D.v (V.one (zaf v)))),(12,some (D.own 1 (a.length-b.length+1))),(13,some (D.int ((k:Int)-1)))]/\H=[some ⟨182,(us).map zbf,some 1,none⟩,some ⟨182,(out).map zbf,some 1,none⟩]/\k<=out.length/\us.length=a.length+1/\Small us/\out.length=a.length-b.length+1/\Small out/\val us+vv*(4294967296^k*val (out.drop k))=val a*2^sh/\val (us.drop k)<vv) ⟨a.length-b.length+1,zhh (a.length+1) (val a*2^sh),List.replicate (a.length-b.length+1) 0,rfl,rfl,rfl,by simp,zcm _ _,zea _ _,by simp,Small.replicate _,by rw[List.drop_of_length_le (by simp),zf2 hAlt,show val []=0 from rfl,Nat.mul_zero,Nat.mul_zero,Nat.add_zero],hAtop⟩ rfl ?_;rintro m Γ H ⟨k,us,out,rfl,rfl,rfl,hko,hul,hus,hol,hos,heq,htop⟩;refine zc 4 rfl ?_;by_cases hk:0<k
   .refine tq_ rfl (geT rfl) (zl 8 rfl ?_);obtain⟨pre,s,post,hsplit,hpl,hsl⟩:=zu5 (n:=v.length) hk (us:=us) (by omega);have hpk:(k:Int)-1=((pre.length:Nat):Int):=by omega
    rw[hpk];have hk1:k=pre.length+1:=by omega
    subst hk1;subst hsplit;obtain⟨ss,sp,sq,hpost,hslt⟩:=zDy hus hsl (by rw[hvlen];exact hVlt) htop;obtain⟨hst1,hst2⟩:=zzs (n:=v.length) rfl (by omega) hpost hVpos (by rw[hvlen];exact hVlt) heq;have hbnd:=ziP ss hvs hsl (by omega) (by rw[hvlen];exact hvtop) (by rw[hvv];exact hslt);rw[hvv] at hbnd;have hbq:est (s.getD v.length 0*4294967296+s.getD (v.length-1) 0) (s.getD (v.length-2) 0) (v.getD (v.length-1) 0) (v.getD (v.length-2) 0)=val s/vv\/est (s.getD v.length 0*4294967296+s.getD (v.length-1) 0) (s.getD (v.length-2) 0) (v.getD (v.length-1) 0) (v.getD (v.length-2) 0)=val s/vv+1:=by generalize est (s.getD v.length 0*4294967296+s.getD (v.length-1) 0) (s.getD (v.length-2) 0) (v.getD (v.length-1) 0) (v.getD (v.length-2) 0)=e at *;generalize val s/vv=z at *;omega
    have hqv:val s/vv<4294967296:=by rw[Nat.div_lt_iff_lt_mul hVpos,zEU];exact hslt
    refine zc 5 rfl (tq_ rfl (jln rfl) (tq_ rfl (jad (pre.length+v.length) rfl) (tq_ rfl (jad (pre.length+v.length+1) rfl) (tq_ rfl (zmM (lo:=pre.length) (hi:=pre.length+v.length+1) rfl rfl rfl rfl rfl (by decide) rfl (by rw[List.length_map];exact hul) zck zau (by omega) (by omega) (m:=v.length+1) (by omega)) (zl 10 rfl ?_)))));refine te_ rfl (zmS (ls':=s.map zbf) rfl fn251 rfl rfl rfl rfl (by omega) (by simp;omega) (by simp[<-hsl]) rfl (by rw[<-hsl];exact zkJ s v ss hvs hsl (by omega) (by omega) (by rw[hvlen];omega))) ?_;refine te_ rfl (znQ rfl fn250 rfl rfl rfl (by simp;omega) rfl (show CtrM Tryz.prog 250 182 pre.length (v.length+1) ((pre++s++post).map zbf) ((pre++zhh (v.length+1) (val s%vv)++post).map zbf) [V.one (zaf v),V.one (Leaf.val (.int .u64 ((est (s.getD v.length 0*4294967296+s.getD (v.length-1) 0) (s.getD (v.length-2) 0) (v.getD (v.length-1) 0) (v.getD (v.length-2) 0):Nat):Int)))] (R.one (V.one (Leaf.val (.int .u32 ((val s/vv:Nat):Int))))) from by rw[<-hvv];exact znd pre s post v _ ss hvs hsl (by omega) (by rw[hvv];exact hVpos) (by rw[hvv];exact hslt) (by rw[hvv];exact hbq))) ?_;refine tq_ rfl (zap rfl rfl rfl rfl (by decide) (by simp[hol]) (by decide) zck zau (by omega) (by omega) (off:=pre.length) (by omega)) (te_ rfl (zaW (ls:=((out.set pre.length (val s/vv)).map zbf)) rfl rfl rfl rfl zau rfl (by decide) (by simp;omega) (zaJ (by omega))) (zl 5 rfl ?_));refine tq_ rfl (zaN rfl rfl rfl (r:=((pre.length:Nat):Int)-1) (w64 (by omega) (by omega) (by omega))) (zl 2 rfl ?_);exact nx_ ⟨pre.length,_,_,rfl,rfl,rfl,by simp;omega,by simp only[zEF,zcm] at hul ⊢;omega,(sp.append (zea _ _)).append sq,by simp[hol],hos.set _ _ hqv,hst1,hst2⟩ rfl
   .refine tq_ rfl (geF rfl) (zl 9 rfl ?_);have hk0:k=0:=by omega
    subst hk0;simp only[List.drop_zero,Nat.pow_zero,Nat.one_mul] at heq htop;obtain⟨f1,f2⟩:=zDz (x:=val us) (vb:=val b) (sh:=sh) (o:=val out) (va:=val a) (by rw[hVe];exact heq) (by rw[hVe];exact htop);refine zc 3 rfl (zaL 92 (us) rfl rfl rfl rfl (by omega) (tc_ zCL rfl (zob us sh hus (by omega) (by omega)) (zl 10 rfl (zaL 97 (out) rfl rfl rfl rfl (by omega) (tc_ zcR rfl (zaH out hos) (zl 6 rfl ?_))))));exact r3_ hq_ rfl (by rw[f1,f2,va,vb])
theorem zoR(x y:Nat)(hx:(zaa x).length<=9000000000000)(hy:(zaa y).length<=9000000000000)(h0:0<y):Ctr Tryz.prog 225 [V.one (zaf (zaa x)),V.one (zaf (zaa y))] (R.tup [V.one (zaf (zaa (x/y))),V.one (zaf (zaa (x%y))),V.one (Leaf.val (.int .i64 0))]):=by
 have h:=ziS (zaa x) (zaa y) (zab _) (zab _) hx hy (by rw[zac];exact h0);rw[zac,zac] at h;exact h
theorem zuN(la lb:List Nat)(hsa:Small la)(hsb:Small lb)(hla0:la.length<=9000000000000)(hlb0:lb.length<=9000000000000):Ctr Tryz.prog 224 [V.one (zaf la),V.one (zaf lb)] (R.one (V.one (zaf (zaa (Nat.gcd (val la) (val lb)))))):=by
 refine bd_ Tryz.func224 Tryz.ntmps224 rfl (fun w0 A0=>?_);refine zc 6 rfl ?_;have ha0:=zam hsa;have hb0:=zam hsb;obtain⟨g,hg⟩:∃g,Nat.gcd (val la) (val lb)=g:=⟨_,rfl⟩;rw[hg];refine zc 2 rfl (tc_ zcR rfl (zaH la hsa) (zl 1 rfl (tc_ zcR rfl (zaH lb hsb) (zl 6 rfl ?_))));refine zbv (fun m Γ H=>∃(x:Nat) (y:Nat),y=m/\Γ=[(0,some (D.v (V.one (zaf (zaa x))))),(1,some (D.v (V.one (zaf (zaa y)))))]/\H=[]/\Nat.gcd x y=g/\(zaa x).length<=9000000000000/\(zaa y).length<=9000000000000) ⟨val la,val lb,rfl,rfl,rfl,hg,by omega,by omega⟩ rfl ?_;rintro m Γ H ⟨x,y,rfl,rfl,rfl,hxy,hx,hy⟩;refine zc 4 rfl (tq_ rfl (jln rfl) ?_);by_cases hl:2<(zaa y).length
 .refine tq_ rfl (gtT rfl) (zl 7 rfl ?_);have hy0:0<y:=Nat.pos_of_ne_zero (fun h=>by subst h;simp[zah] at hl);have hm:=Nat.mod_lt x hy0;have hml:=zaC (Nat.le_of_lt hm);refine zc 3 rfl (tc_ zp1 rfl (zoR x y hx hy hy0) (zl 16 rfl ?_));exact nx_ ⟨y,x%y,rfl,rfl,rfl,by rw[Nat.gcd_comm,<-hxy,Nat.gcd_comm x y,Nat.gcd_rec y x],hy,by omega⟩ rfl hm
 .refine tq_ rfl (gtF rfl) (zl 12 rfl (tq_ rfl (jln rfl) ?_));by_cases hz:(zaa y).length=0
  .refine tq_ rfl (eqT rfl) (zl 4 rfl ?_);have hy0:y=0:=za2.1 (zEB hz);subst hy0;rw[Nat.gcd_zero_right] at hxy;subst hxy;refine zc 2 rfl (tc_ zkA rfl (ziD (zaa x) (zab _) (by omega)) (zl 3 rfl ?_));exact r1_ hq_ rfl (by rw[zac])
  .refine tq_ rfl (eqF rfl) (zl 6 rfl ?_);have hy0:0<y:=Nat.pos_of_ne_zero (fun h=>by subst h;simp[zah] at hz);have hm:=Nat.mod_lt x hy0;have hml:=zaC (Nat.le_of_lt hm);have hy64:y<18446744073709551616:=(zag (n:=y) (k:=2)).1 (by omega);refine zc 3 rfl (tc_ zp1 rfl (zoR x y hx hy hy0) (zl 12 rfl (tc_ zCM rfl (zlo y) (zl 1 rfl ?_))));rw[if_pos hy64];refine zl 9 rfl (tc_ zCM rfl (zlo (x%y)) (zl 1 rfl ?_));rw[if_pos (Nat.lt_trans hm hy64)];refine zl 8 rfl (zbv (fun m Γ H=>∃(p:Nat) (q:Nat),q=m/\Γ=[(11,some (D.val (.int .u64 (p:Int)))),(13,some (D.val (.int .u64 (q:Int))))]/\H=[]/\Nat.gcd p q=g/\p<18446744073709551616/\q<18446744073709551616) ⟨y,x%y,rfl,rfl,rfl,by rw[Nat.gcd_comm,<-hxy,Nat.gcd_comm x y,Nat.gcd_rec y x],hy64,Nat.lt_trans hm hy64⟩ rfl ?_);rintro m Γ H ⟨p,q,rfl,rfl,rfl,hpq,hp,hq⟩;refine zc 4 rfl ?_;by_cases hq0:0<q
   .refine tq_ rfl (gtT rfl) (zl 6 rfl ?_);have hmq:=Nat.mod_lt p hq0;refine dr_ 0 [] [] (dz 3 rfl (kq_ rfl (zcf rfl rfl rfl (by omega) (r:=((p%q:Nat):Int)) (zd2 _ _)) (dz 2 rfl (zae (za 1 rfl ?_)))));exact nx_ ⟨q,p%q,rfl,rfl,rfl,by rw[Nat.gcd_comm,<-hpq,Nat.gcd_comm p q,Nat.gcd_rec q p],hq,Nat.lt_trans hmq hq⟩ rfl hmq
   .refine tq_ rfl (gtF rfl) (zl 9 rfl ?_);have hq00:q=0:=by omega
    subst hq00;rw[Nat.gcd_zero_right] at hpq;subst hpq;refine zc 2 rfl (tc_ znr rfl (zfO p hp) (zl 3 rfl ?_));exact r1_ hq_ rfl rfl
end Go.Proofs.YtjeiacoegppoiaaGreatDoor
