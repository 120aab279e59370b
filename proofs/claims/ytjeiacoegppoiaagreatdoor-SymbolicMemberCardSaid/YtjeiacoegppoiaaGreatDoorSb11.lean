/- Parts of the proof, 11: the texts Coll, Fw1, Fw2, WlA2, Best, Lw23, Der, Box, Ev, Mem, BoxB, BoxC, BoxW, WlB2, as far as they are used. -/
import Derived.Test.YtjeiacoegppoiaaGreatDoorSb10
set_option linter.unusedSimpArgs false
set_option linter.unusedVariables false
set_option maxRecDepth 10000
namespace Rc
open Go Go.RowKit
def ind(r:Rw):Rw->Rat:=fun x=>if x=r then 1 else 0
theorem zgq(r:Rw):ind r r=1:=if_pos rfl
theorem zsK{r x:Rw}(h:x≠r):ind r x=0:=if_neg h
theorem zfm{a b:Rw}(h:zbd a b=true):b≠a:=fun e=>by rw[e,ze0] at h;exact absurd h (by decide)
theorem zjm{r:Rw}:∀{l:List Mu},(∀x∈l,x.r≠r)->W (ind r) l=0
 |[],_=>rfl
 |m::l,h=>by
  have h1:=zsK (h m (by simp));have h2:=zjm (l:=l) (fun x hx=>h x (by simp[hx]));simp only[W,h1,h2];grind
theorem Mu.ext'{a b:Mu}(h1:a.r=b.r)(h2:a.c=b.c):a=b:=by cases a;cases b;simp at *;exact⟨h1,h2⟩
theorem zlc:∀{a b:List Mu},CanM a->CanM b->(∀r,W (ind r) a=W (ind r) b)->a=b
 |[],[],_,_,_=>rfl
 |[],y::b,_,hb,h=>by
  have h1:=h y.r;have h2:=zjm (r:=y.r) (l:=b) (fun x hx=>zfm (hb.2.1 x hx));have h3:=hb.1.2;simp only[W,zgq,h2] at h1;exfalso;grind
 |x::a,[],ha,_,h=>by
  have h1:=h x.r;have h2:=zjm (r:=x.r) (l:=a) (fun y hy=>zfm (ha.2.1 y hy));have h3:=ha.1.2;simp only[W,zgq,h2] at h1;exfalso;grind
 |x::a,y::b,ha,hb,h=>by
  have hxa:=zjm (r:=x.r) (l:=a) (fun z hz=>zfm (ha.2.1 z hz));have hyb:=zjm (r:=y.r) (l:=b) (fun z hz=>zfm (hb.2.1 z hz));have px:=ha.1.2;have py:=hb.1.2;by_cases he:x.r=y.r
  .have h1:=h x.r;rw[he] at hxa;rw[he] at h1;simp only[W,he,zgq,hxa,hyb] at h1;have hc:x.c.q=y.c.q:=by grind
   have hxy:x=y:=Mu.ext' he (by rw[ha.1.1,hb.1.1,hc]);subst hxy;rw[zlc ha.2.2 hb.2.2 (fun r=>by have:=h r;simp only[W] at this;grind)]
  .cases hl:zbd x.r y.r
   .have hyx:=zdy hl he;have h1:=h y.r;have h2:=zjm (r:=y.r) (l:=a) (fun z hz=>zfm (zcO hyx (ha.2.1 z hz)));simp only[W,zgq,zsK he,h2,hyb] at h1;exfalso;grind
   .have h1:=h x.r;have h2:=zjm (r:=x.r) (l:=b) (fun z hz=>zfm (zcO hl (hb.2.1 z hz)));simp only[W,zgq,zsK (fun e=>he e.symm),h2,hxa] at h1;exfalso;grind
def zcA(l:List Mu):List Mu:=l.foldl (fun a m=>zb2 a m.r m.c.q) []
def zju(l:List Mu):Prop:=∀m∈l,m.c=qOf m.c.q/\0<=m.c.q
theorem zkd(φ:Rw->Rat):∀(l a:List Mu),W φ (l.foldl (fun a m=>zb2 a m.r m.c.q) a)=W φ a+W φ l
 |[],a=>by simp only[List.foldl_nil,W];grind
 |m::l,a=>by rw[List.foldl_cons,zkd φ l,zpA];simp only[W];grind
theorem zxK(φ:Rw->Rat)(l:List Mu):W φ (zcA l)=W φ l:=by unfold zcA;rw[zkd];simp only[W];grind
theorem zke:∀{l a:List Mu},CanM a->zju l->CanM (l.foldl (fun a m=>zb2 a m.r m.c.q) a)
 |[],a,h,_=>h
 |m::l,a,h,hl=>zke (l:=l) (ziI (hl m (by simp)).2 h) (fun x hx=>hl x (by simp[hx]))
theorem zpi{l:List Mu}(h:zju l):CanM (zcA l):=zke (a:=[]) trivial h
theorem zk4(a b:List Mu):zcA (a++b)=b.foldl (fun a m=>zb2 a m.r m.c.q) (zcA a):=by unfold zcA;rw[zFJ]
def zou(c:Rat)(b:List Mu):List Mu:=b.map fun m=>⟨m.r,qOf (c*m.c.q)⟩
theorem zo6(c:Rat):∀(b a:List Mu),(zou c b).foldl (fun a m=>zb2 a m.r m.c.q) a=zaS a b c
 |[],a=>rfl
 |m::b,a=>by
  show(zou c b).foldl _ (zb2 a m.r (qOf (c*m.c.q)).q)=zaS (zb2 a m.r (m.c.q*c)) b c;rw[zah,Rat.mul_comm c,zo6 c b]
theorem zvU(a b:List Mu)(c:Rat):zcA (a++zou c b)=zaS (zcA a) b c:=by rw[zk4,zo6]
def Srt(l:List Mu):Prop:=l.Pairwise fun a b=>zbd b.r a.r=false
def zfn(A:List Mu)(x:Mu)(j:Nat):List Mu:=A.take j++x::A.drop j
theorem zh0{A:List Mu}{x:Mu}{j:Nat}:(zfn A x j).length=A.length+1:=by
 unfold zfn;simp only[zFx,zFy,List.length_cons,zFH];omega
theorem zvs{A:List Mu}{x:Mu}:zfn A x A.length=A++[x]:=by unfold zfn;rw[zFE,List.drop_length]
theorem zoX{A:List Mu}{x:Mu}{j:Nat}(hj:j<=A.length)(R:List Mu):(zfn A x j++R)[j]?=some x:=by
 unfold zfn;rw[zFK,List.getElem?_append_right (by rw[zFy];omega),zFy,Nat.min_eq_left hj,Nat.sub_self];rfl
theorem zmh{A:List Mu}{x y:Mu}{j:Nat}(h0:0<j)(hj:j<=A.length)(hy:A[j-1]?=some y)(R:List Mu):(zfn A x j++R)[j-1]?=some y:=by
 unfold zfn;rw[zFK,zFp (by rw[zFy];omega),List.getElem?_take,if_pos (by omega),hy]
theorem zsG{A:List Mu}{x y:Mu}{j:Nat}(h0:0<j)(hj:j<=A.length)(hy:A[j-1]?=some y)(R:List Mu):((zfn A x j++R).set j y).set (j-1) x=zfn A x (j-1)++R:=by
 obtain⟨k,rfl⟩:∃k,j=k+1:=⟨j-1,by omega⟩;simp only[Nat.add_sub_cancel] at hy ⊢;have hk:=(zFj.1 hy).1;unfold zfn;have e1:A.take (k+1)=A.take k++[y]:=zaF hy;have e2:A.drop k=y::A.drop (k+1):=zbc hy;have hl:(A.take k).length=k:=by rw[zFy];omega
 rw[e1,e2];generalize A.take k=T at *;generalize A.drop (k+1)=D at *;subst hl;simp[List.set_append]
theorem zia(φ:Rw->Rat):∀(a b:List Mu),W φ (a++b)=W φ a+W φ b
 |[],b=>by simp only[List.nil_append,W];grind
 |m::a,b=>by simp only[List.cons_append,W,zia φ a b];grind
theorem zCH(φ:Rw->Rat){A:List Mu}{x:Mu}{j:Nat}:W φ (zfn A x j)=W φ A+x.c.q*φ x.r:=by
 have h:W φ A=W φ (A.take j++A.drop j):=by rw[List.take_append_drop]
 unfold zfn;rw[h,zia,zia];simp only[W];grind
theorem zoW{A:List Mu}{x m:Mu}{j:Nat}:m∈zfn A x j↔m=x\/m∈A:=by
 have h:m∈A↔m∈A.take j++A.drop j:=by rw[List.take_append_drop]
 unfold zfn;rw[h];simp only[zFC,zFL];constructor
 .rintro(h|h|h) <;> simp[h]
 .rintro(h|h|h) <;> simp[h]
def Gt(A:List Mu)(x:Mu)(j:Nat):Prop:=∀m∈A.drop j,zbd x.r m.r=true
theorem Gt.start{A:List Mu}{x:Mu}:Gt A x A.length:=fun m hm=>by rw[List.drop_length] at hm;simp at hm
theorem Gt.step{A:List Mu}{x y:Mu}{j:Nat}(h:Gt A x j)(h0:0<j)(hy:A[j-1]?=some y)(hl:zbd x.r y.r=true):Gt A x (j-1):=by
 intro m hm;obtain⟨k,rfl⟩:∃k,j=k+1:=⟨j-1,by omega⟩;simp only[Nat.add_sub_cancel] at hy hm;rw[zbc hy] at hm;rcases zFL.1 hm with rfl|hm
 .exact hl
 .exact h m hm
theorem zqa{a b:Rw}(h:zbd a b=true):zbd b a=false:=by
 cases h':zbd b a
 .rfl
 .have:=zcO h h';rw[ze0] at this;exact absurd this (by decide)
theorem ziU{a b c:Rw}(h1:zbd b a=false)(h2:zbd c b=false):zbd c a=false:=by
 cases h:zbd c a
 .rfl
 .by_cases e:a=b
  .subst e;rw[h] at h2;exact absurd h2 (by decide)
  .have:=zcO h (zdy h1 (fun e'=>e e'.symm));rw[this] at h2;exact absurd h2 (by decide)
theorem Srt.ins{A:List Mu}{x:Mu}{j:Nat}(hA:Srt A)(hj:j<=A.length)(hg:Gt A x j)(hl:j=0 \/ ∃y,A[j-1]?=some y/\zbd x.r y.r=false):Srt (zfn A x j):=by
 have h:Srt (A.take j++A.drop j):=by rw[List.take_append_drop];exact hA
 unfold Srt at h;rw[List.pairwise_append] at h;obtain⟨h1,h2,h3⟩:=h;unfold Srt zfn;rw[List.pairwise_append];refine⟨h1,List.pairwise_cons.2 ⟨fun m hm=>zqa (hg m hm),h2⟩,fun a ha b hb=>?_⟩;rcases zFL.1 hb with rfl|hb
 .rcases hl with rfl|⟨y,hy,hxy⟩
  .simp at ha
  .obtain⟨k,rfl⟩:∃k,j=k+1:=⟨j-1,by
    rcases Nat.eq_zero_or_pos j with e|e
    .subst e;simp at ha
    .omega⟩
   simp only[Nat.add_sub_cancel] at hy;rw[zaF hy] at ha h1;rcases zFC.1 ha with ha|ha
   .have:=(List.pairwise_append.1 h1).2.2 a ha y (by simp);exact ziU this hxy
   .simp at ha;subst ha;exact hxy
 .exact h3 a ha b hb
structure InsOk(l u:List Mu)(i:Nat):Prop where
 len:u.length=l.length
 w:∀φ,W φ u=W φ l
 mem:∀m∈u,m∈l
 srt:Srt (u.take i)
theorem InsOk.start(l:List Mu):InsOk l l 1:=⟨rfl,fun _=>rfl,fun _ h=>h,by
 cases l with
 |nil=>exact List.Pairwise.nil
 |cons m l=>exact List.pairwise_singleton _ _⟩
theorem zmf{u:List Mu}{i:Nat}{x:Mu}(hx:u[i]?=some x):u=zfn (u.take i) x i++u.drop (i+1):=by
 have hi:=(zFj.1 hx).1;have hl:(u.take i).length=i:=by rw[zFy];omega
 conv=>lhs;rw[<-List.take_append_drop i u,zbc hx]
 have:zfn (u.take i) x i=u.take i++[x]:=by
  have:=zvs (A:=u.take i) (x:=x);rwa [hl] at this
 rw[this,zFK];rfl
theorem InsOk.next{l u:List Mu}{i j:Nat}{x:Mu}(h:InsOk l u i)(hx:u[i]?=some x)(hj:j<=i)(hg:Gt (u.take i) x j)(hl:j=0 \/ ∃y,(u.take i)[j-1]?=some y/\zbd x.r y.r=false) :
  InsOk l (zfn (u.take i) x j++u.drop (i+1)) (i+1):=by
 have hi:=(zFj.1 hx).1;have htl:(u.take i).length=i:=by rw[zFy];omega
 have hu:=zmf hx;refine⟨?_,fun φ=>?_,fun m hm=>?_,?_⟩
 .rw[zFx,zh0,htl,zFH,<-h.len];omega
 .have:=h.w φ;rw[hu] at this;rw[zia,zCH] at this ⊢;exact this
 .refine h.mem m ?_;rw[hu];rcases zFC.1 hm with hm|hm
  .exact List.mem_append_left _ (zoW.2 (zoW.1 hm))
  .exact List.mem_append_right _ hm
 .rw[List.take_append_of_le_length (by rw[zh0,htl];exact zFl _),zFQ (by rw[zh0,htl];exact zFl _)];exact h.srt.ins (by omega) hg hl
structure GrpOk(u out:List Mu)(i:Nat):Prop where
 can:CanM out
 w:∀r,W (ind r) out=W (ind r) (u.take i)
 lt:∀x∈out,∀(j:Nat) (m:Mu),i<=j->u[j]?=some m->zbd x.r m.r=true
 len:out.length<=i
theorem GrpOk.start(u:List Mu):GrpOk u [] 0:=⟨trivial,fun r=>by simp,fun x hx=>by simp at hx,zFl _⟩
theorem zrk{u:List Mu}(h:Srt u){i j:Nat}{x y:Mu}(hij:i<j)(hx:u[i]?=some x)(hy:u[j]?=some y):zbd y.r x.r=false:=by
 obtain⟨h1,rfl⟩:=zFj.1 hx;obtain⟨h2,rfl⟩:=zFj.1 hy;exact List.pairwise_iff_getElem.1 h i j h1 h2 hij
structure InOk(u:List Mu)(r:Rw)(i0 i:Nat)(sum:Rat):Prop where
 le:i0<=i
 all:∀(j:Nat) (m:Mu),i0<=j->j<i->u[j]?=some m->m.r=r
 w:∀r',W (ind r') (u.take i)=W (ind r') (u.take i0)+(if r=r' then sum else 0)
 pos:0<=sum
theorem InOk.start(u:List Mu)(r:Rw)(i:Nat):InOk u r i i 0:=⟨zFl _,fun j m h1 h2=>by omega,fun r'=>by split <;> grind,by grind⟩
theorem InOk.step{u:List Mu}{r:Rw}{i0 i:Nat}{sum:Rat}{x:Mu}(h:InOk u r i0 i sum)(hx:u[i]?=some x)(hr:x.r=r)(hp:0<=x.c.q):InOk u r i0 (i+1) (sum+x.c.q):=by
 refine⟨by have:=h.le;omega,fun j m h1 h2 hm=>?_,fun r'=>?_,by have:=h.pos;grind⟩
 .by_cases e:j=i
  .subst e;rw[hx] at hm;cases hm;exact hr
  .exact h.all j m h1 (by omega) hm
 .rw[zaF hx,zAT,h.w r',hr];unfold ind;split <;> grind
theorem GrpOk.next{u out:List Mu}{i0 i:Nat}{sum:Rat}{r:Rw}{m0:Mu}(hu:Srt u)(h:GrpOk u out i0)(hi:InOk u r i0 i sum)(h0:u[i0]?=some m0)(hr0:m0.r=r)(hlt:i0<i)(hstop:∀m,u[i]?=some m->m.r≠r) :
  GrpOk u (if 0<sum then out++[⟨r,qOf sum⟩] else out) i:=by
 have key:∀(j:Nat) (m:Mu),i<=j->u[j]?=some m->zbd r m.r=true:=by
  intro j m hj hm;have hji:=(zFj.1 hm).1;obtain⟨y,hy⟩:∃y,u[i]?=some y:=⟨_,zFh (by omega)⟩;have h1:=zrk hu (i:=i0) (j:=i) (by omega) h0 hy;rw[hr0] at h1;have h2:=zdy h1 (hstop y hy);by_cases e:j=i
  .subst e;rw[hy] at hm;cases hm;exact h2
  .have h3:=zrk hu (i:=i) (j:=j) (by omega) hy hm;by_cases e2:m.r=y.r
   .rw[e2];exact h2
   .exact zcO h2 (zdy h3 e2)
 have hlow:∀x∈out,zbd x.r r=true:=fun x hx=>hr0 ▸ h.lt x hx i0 m0 (zFl _) h0;have hpos:=hi.pos;split
 .rename_i hp;refine⟨?_,fun r'=>?_,fun x hx j m hj hm=>?_,?_⟩
  .have:∀{a:List Mu},CanM a->(∀x∈a,zbd x.r r=true)->CanM (a++[⟨r,qOf sum⟩]):=by
    intro a
    induction a with
    |nil=>intro _ _;exact⟨⟨by rw[zah],by rw[zah];exact hp⟩,fun x hx=>by simp at hx,trivial⟩
    |cons y a ih=>
     intro hc hx;refine⟨hc.1,fun z hz=>?_,ih hc.2.2 (fun z hz=>hx z (by simp[hz]))⟩;rcases zFC.1 hz with hz|hz
     .exact hc.2.1 z hz
     .simp at hz;subst hz;exact hx y (by simp)
   exact this h.can hlow
  .rw[zAT,h.w r',hi.w r'];unfold ind;simp only[zah];split <;> grind
  .rcases zFC.1 hx with hx|hx
   .exact h.lt x hx j m (by omega) hm
   .simp at hx;subst hx;exact key j m hj hm
  .have:=h.len;simp;omega
 .rename_i hp;have hz:sum=0:=by grind
  refine⟨h.can,fun r'=>?_,fun x hx j m hj hm=>h.lt x hx j m (by omega) hm,by have:=h.len;omega⟩;rw[h.w r',hi.w r',hz];split <;> grind
theorem zzb{l u out:List Mu}{n:Nat}(hc:zju l)(h1:InsOk l u n)(h2:GrpOk u out u.length):out=zcA l:=
 zlc h2.can (zpi hc) (fun r=>by rw[h2.w r,zFE,h1.w,zxK])
def zmx(a b:Int):Int:=if a<b then -1 else if b<a then 1 else 0
def zFg(a b:Rw):Int:=if zmx a.kind b.kind≠0 then zmx a.kind b.kind else if zmx a.idx b.idx≠0 then zmx a.idx b.idx else if zmx a.lo b.lo≠0 then zmx a.lo b.lo else if zmx a.hi b.hi≠0 then zmx a.hi b.hi else 0
def zBn:List Int->Int
 |[]=>0
 |x::l=>if x≠0 then x else zBn l
theorem zB2:D.agg [Leaf.val (.bool false),nilL,nilL]=D.agg (qL 0):=by
 unfold qL;rw[zeC Rat.le_refl,zbq,zbr,zai];rfl
def i64E:El Int:=⟨fun z=>[Leaf.val (.int .i64 z)],1,fun _=>rfl,fun _=>rfl⟩
theorem zth{a b:Rw}:zFg a b<0↔zbd a b=true:=by
 rw[zgo];unfold zFg zmx
 repeat' split
 all_goals omega
section
variable {P:Program}{ops:Array Oper}{X:List Nat}{o:Oper}{Γ:Gam}{H:Hp}
theorem zww{x:Operand}{t i off n:Nat}{e:HE}(ho:o.op = .load t x)(hx:opD Γ x=some (D.ptr i off))(hi:H[i]?=some (some e))(hXi:i ∉ X)(ht:TyIs P t true n)
  (hrow:e.row=none) (hn:off+n<=e.ls.length) {ls:List Leaf} (hls:(e.ls.drop off).take n=ls):Jq P ops X o Γ H (D.agg ls):=by
 intro w0 A0 N Γ2 H2 E a w hs hX hG;obtain⟨h1,h2⟩:=za9 hs hG (x:=x) (by rw[ho];simp[Op.operands]) hx;have h2:a.eval x = .pointer (some ⟨E.b i,off,none⟩):=h2;obtain⟨g1,g2⟩:=hG.boxes i e (hX i e hXi hi);refine⟨trivial,?_⟩;obtain⟨cs,rest,hc,hd,_⟩:=HE.block g1 (HE.box g1 hrow).1;have hlen:=hd.length;refine⟨.agg ((cs.drop off).take n).toArray,?_,_,rfl,hls ▸ (hd.drop off).take n⟩;have hl:=zg3 (P:=P) hc n (by simp;omega) (o:=off);have hcs:(((cs++rest).drop off).take n)=((cs.drop off).take n):=by
  rw[List.drop_append_of_le_length (by omega),List.take_append_of_le_length (by simp;omega)]
 rw[hcs] at hl;simp[execOp,ho,h2,Instr.loadAt,Instr.sureAddr,loadVar,ht.isAgg,ht.sizeOf,hl]
def zk0(P:Program)(s f:Nat):Bool:=match P.underlying s with
 |some (.struct fields)=>match fields[f]? with
  |some fl=>fl.offset == 0&&(fl.byteOffset == 0&&(match P.info? fl.type with|some i=>i.size == 0|none=>false))
  |none=>false
 |_=>false
theorem zkZ{P:Program}{s f:Nat}(h:zk0 P s f=true):∃fields fl,P.underlying s=some (.struct fields)/\fields[f]?=some fl/\fl.offset=0/\fl.byteOffset=0/\∃i,P.info? fl.type=some i/\i.size=0:=by
 unfold zk0 at h;split at h
 .rename_i fields hu;split at h
  .rename_i fl hfl;simp only[zFv,beq_iff_eq] at h;obtain⟨h1,h2,h3⟩:=h;split at h3
   .rename_i i hi;exact⟨fields,fl,hu,hfl,h1,h2,i,hi,by simpa using h3⟩
   .cases h3
  .cases h
 .cases h
theorem zlq{x:Operand}{s f i:Nat}{e:HE}(ho:o.op = .fieldAddr s x f)(hx:opD Γ x=some (D.ptr i 0))(hi:H[i]?=some (some e))(hXi:i ∉ X)(hrow:e.row=none)(h0:P.cellsOf e.t=0)(hf:zk0 P s f=true):Jq P ops X o Γ H (D.ptr i 0):=by
 intro w0 A0 N Γ2 H2 E a w hs hX hG;obtain⟨h1,h2⟩:=za9 hs hG (x:=x) (by rw[ho];simp[Op.operands]) hx;have h2:a.eval x = .pointer (some ⟨E.b i,0,none⟩):=h2;obtain⟨g1,g2⟩:=hG.boxes i e (hX i e hXi hi);obtain⟨fields,fl,hu,hfl,ho1,ho2,inf,hinf,hsz⟩:=zkZ hf;obtain⟨cs,rest,hc,_,_⟩:=HE.block g1 (HE.box g1 hrow).1;have hsh:w.shape? (E.b i)=some (e.t,(cs++rest).toArray.size):=by unfold World.shape?;rw[hc]
 refine⟨h1,.pointer (some ⟨E.b i,0,none⟩),?_,rfl⟩;simp[execOp,ho,h2,Instr.fieldAt,Instr.sureAddr,run_underlying hu,hfl,fieldPlace,Go.sizeOf,typeInfo,hinf,hsz,partAt,byteOf,noView,viewAt,Go.shape,hsh,h0,ho1,ho2,Sem.run]
end
@[reducible] def hrw{α:Type}(t sz:Nat)(e:El α)(l:List α):Option HE:=some ⟨t,e.all l,some sz,none⟩
section
variable {α:Type}{P:Program}{ops:Array Oper}{X:List Nat}{o:Oper}{Γ:Gam}{H:Hp}{i t sz:Nat}
theorem El.len_sz{e:El α}{l:List α}{n sz:Nat}(hn:l.length=n)(hs:e.sz=sz):(e.all l).length=n*sz:=by rw[El.all_length,hn,hs]
theorem zgI{x y:Operand}{t' u n:Nat}{k:IntKind}{z:Int}{b:Bool}(e:El α)(l:List α)(j:Nat)(ho:o.op = .indexAddr t' x y)(hx:opD Γ x=some (D.own i n))(hy:opD Γ y=some (D.val (.int k z)))(hi:H[i]?=some (hrw t sz e l))(hXi:i ∉ X)
  (ht:P.underlying t'=some (.slice u)) (hu:TyIs P u b sz) (hj:j<n) (hn:l.length=n) (hs:e.sz=sz:=by rfl) (hsz:0<sz:=by decide) (hz:z=(j:Int):=by first|rfl|omega):Jq P ops X o Γ H (D.ptr i (j*sz)):=by
 subst hz;exact zaq ho hx hy hi hXi (El.len_sz hn hs) hsz ht hu (by omega) (by omega) rfl
theorem El.get_part{e:El α}{l:List α}{j:Nat}{v:α}(hv:l[j]?=some v)(fo n:Nat)(hf:fo+n<=e.sz):((e.all l).drop (j*e.sz+fo)).take n=((e.f v).drop fo).take n:=by
 obtain⟨h1,rfl⟩:=zFj.1 hv;have h:=El.all_get e h1;rw[<-h,List.drop_take,List.drop_drop,List.take_take,Nat.min_eq_left (by omega)]
theorem El.fit{e:El α}{l:List α}{j:Nat}{v:α}(hv:l[j]?=some v):j*e.sz+e.sz<=(e.all l).length:=by
 have h1:=(zFj.1 hv).1;rw[El.all_length];have:=zFs e.sz h1;rw[Nat.succ_mul] at this;exact this
theorem zjt{x:Operand}{t' n fo:Nat}{v:α}{ls:List Leaf}(e:El α)(l:List α)(j:Nat)(ho:o.op = .load t' x)(hx:opD Γ x=some (D.ptr i (j*sz+fo)))(hi:H[i]?=some (hrw t sz e l))(hXi:i ∉ X)(ht:TyIs P t' true n)
  (hv:l[j]?=some v) (hls:((e.f v).drop fo).take n=ls) (hs:e.sz=sz:=by rfl) (hf:fo+n<=sz:=by decide) (hn:0<n:=by decide):Jq P ops X o Γ H (D.agg ls):=by
 subst hs;refine zaC ho hx hi hXi ht hn ?_ ?_
 .have:=El.fit (e:=e) hv;show j*e.sz+fo+n<=(e.all l).length;omega
 .rw[<-hls];exact El.get_part hv fo n hf
theorem zpO{e:El α}{l:List α}{j:Nat}(v:α)(hj:j<l.length):splice (e.all l) (j*e.sz) (e.f v)=e.all (l.set j v):=by
 unfold splice;rw[El.all_take,e.len,<-Nat.succ_mul,El.all_drop,List.set_eq_take_append_cons_drop,if_pos hj,El.all_append];simp only[El.all,zFK]
theorem zE3{x y:Operand}{t' n:Nat}(e:El α)(l:List α)(j:Nat)(v:α){b:Bool}(ho:o.op = .store t' x y)(hx:opD Γ x=some (D.ptr i (j*sz)))(hy:opD Γ y=some (D.agg (e.f v)))(hi:H[i]?=some (hrw t sz e l))(ht:TyIs P t' b sz)
  (hj:j<l.length) (hs:e.sz=sz:=by rfl) (hsz:0<sz:=by decide):Je P ops o Γ H none (H.set i (hrw t sz e (l.set j v))):=by
 subst hs;refine zaY (v:=V.agg (e.f v)) ho hx hy hi ht (e.len v) hsz ?_ (zpO v hj);have:=El.fit (e:=e) (zFh hj);show j*e.sz+e.sz<=(e.all l).length;exact this
theorem zx9{x y:Operand}{t' n:Nat}(e:El α)(l:List α)(j:Nat)(v:α){b:Bool}(ho:o.op = .store t' x y)(hx:opD Γ x=some (D.ptr i (j*sz)))(hy:opD Γ y=some (D.agg (e.f v)))(hi:H[i]?=some (hrw t sz e l))(ht:TyIs P t' b sz)
  (hj:j<l.length) (hs:e.sz=sz:=by rfl) (hsz:0<sz:=by decide):∀H2:Hp,H2[i]?=H[i]?->Je P ops o Γ H2 none (H2.set i (hrw t sz e (l.set j v))):=fun _ hH=>zE3 (n:=n) e l j v ho hx hy (hH.trans hi) ht hj hs hsz
end
section
variable {P:Program}{ops:Array Oper}{X:List Nat}{o:Oper}{Γ:Gam}{H:Hp}
theorem zbl{x:Operand}{ls:List Leaf}(ho:o.op = .nilCheck x)(hx:opD Γ x=some (D.rep (zaV ls))):Jq P ops X o Γ H (D.rep (zaV ls)):=by
 intro w0 A0 N Γ2 H2 E a w hs hX hG;obtain⟨h0,h1⟩:=za9 hs hG (x:=x) (by rw[ho];simp[Op.operands]) hx;obtain⟨ad,h2,h3⟩:=h1;exact⟨h0,.pointer (some ad),by simp[execOp,ho,h2],ad,rfl,h3⟩
theorem zmX{t elem len sz:Nat}{parts:Array (Nat×Operand)}{zs ls:List Leaf}{lp:List (Nat×List Leaf)}{b:Bool}(ho:o.op = .buildSlice t len parts)(ht:P.underlying t=some (.slice elem))(hsz:TyIs P elem b sz)
  (hz:TyZero P elem zs) (hzl:zs.length=sz) (hsz0:0<sz) (hlen:0<len) (hp:zfF Γ parts.toList=some lp) (hbig:len*sz<=16777216)
  (hf:zkY (fun i=>some (i*sz,sz)) (zhh (len*sz) zs) lp=some ls) (hcl:clL ls=true:=by rfl):Je P ops o Γ H (some (D.rep (zec len ls))) H:=by
 intro w0 A0 N Γ2 a w Q K hs hN hSt hK;obtain⟨E,hG⟩:=hSt;obtain⟨z,hzr,hzd⟩:=hz.run w E.A;obtain⟨h1,h2⟩:=zeB parts.toList lp (zgv (.inr ⟨len,ho⟩) hs hG) hp;obtain⟨cs,hc1,hc2⟩:=zh3 (A:=E.A) (w:=w) (places:=fun i=>some (i*sz,sz)) (parts.toList.map fun p=>(p.1,a.eval p.2)) lp ((Array.range (len*sz)).map (z.cells[· % z.cells.size]!)) _ ls
  (zfa hzd (by omega) (len*sz)) h1 h2 hf
 have hb:=zbQ w (.cells cs elem);have hG':=hG.grow hb;have hlm:len<=16777216:=zFr (Nat.le_mul_of_pos_right len hsz0) hbig;refine zaT (v:=.slice (some ⟨w.heap.size,0,none⟩) len len) (w':=w.alloc (.cells cs elem)) ?_ (hK _ _ ⟨_,hG'.put (fun d hd=>?_) hN⟩)
 .have n1:¬16777216<len*sz:=by omega
  have n2:len*sz≠0:=Nat.ne_of_gt (Nat.mul_pos hlen hsz0);have hps:(parts.map fun(p:Nat×Operand)=>(p.1,a.eval p.2)).toList=parts.toList.map fun p=>(p.1,a.eval p.2):=by simp
  simp only[execOp,ho,Instr.buildSlice];simp only[hps];simp[run_underlying ht,hsz.sizeOf,n1,hzr,hc1,newRow,n2]
 .cases hd;refine⟨trivial,?_⟩;have:=ziN (t:=elem) (len:=len) hG.foot hc2 hcl (by simp only[maxLen];omega);rw[show cs.toList.toArray=cs from by simp] at this;exact⟨this,_,rfl⟩
end
section
variable {P:Program}{Γ:Gam}{H:Hp}
theorem zt1{Q:Exit->Act->World->Prop}{w0:Frm}{A0:Foot}{N:Nat}{fn:Func}{y:R}{r r' r'' r3:ResultVar}{x x' x'' x3:V}(hQ:∀a w,zwv P fn w0 A0 y .ret a w->Q .ret a w)
  (hr:fn.results = #[r,r',r'',r3]) (h:zee P Γ H r x) (h':zee P Γ H r' x') (h'':zee P Γ H r'' x'') (h3:zee P Γ H r3 x3) (hy:R.tup [x,x',x'',x3]=y) (hcl:zg7 [x,x',x'',x3]=true:=by rfl):Tc P Q w0 A0 N Γ H .ret:=by
 intro a w hSt;obtain⟨E,hG⟩:=hSt;obtain⟨v,hv,hd⟩:=zaU hG h;obtain⟨v',hv',hd'⟩:=zaU hG h';obtain⟨v'',hv'',hd''⟩:=zaU hG h'';obtain⟨v3,hv3,hd3⟩:=zaU hG h3;refine wp_ret (hQ a w ⟨hG.defers,.tuple #[v,v',v'',v3],?_,_,rfl,?_,hG.below⟩)
 .rw[za7,hr];simp[hv,hv',hv'',hv3]
 .subst hy;simp only[zg7,zFv] at hcl;exact⟨[v,v',v'',v3],rfl,hG.out hcl.1 hd,hG.out hcl.2.1 hd',hG.out hcl.2.2.1 hd'',hG.out hcl.2.2.2.1 hd3,trivial⟩
end
end Rc
namespace Go.Proofs.YtjeiacoegppoiaaGreatDoor
open Go Go.RowKit Rc
theorem zCG(z:Int):Ctr Tryz.prog 228 [V.one (Leaf.val (.int .i64 (z)))] (R.one (V.one (Leaf.val (.bool false)))):=by
 refine bd_ Tryz.func228 Tryz.ntmps228 rfl (fun w0 A0=>?_);refine zc 9 rfl (tq_ rfl (neF rfl rfl) (zl 3 rfl ?_));exact r1_ hq_ rfl rfl
theorem zFf(a b:Int):Ctr Tryz.prog 187 [V.one (Leaf.val (.int .i64 (a))),V.one (Leaf.val (.int .i64 (b)))] (R.one (V.one (Leaf.val (.int .i64 (zmx a b))))):=by
 refine bd_ Tryz.func187 Tryz.ntmps187 rfl (fun w0 A0=>?_);refine zc 8 rfl (tc_ zDH rfl (zCG a) (zl 6 rfl (tc_ zDH rfl (zCG b) (zl 24 rfl (zl 2 rfl ?_)))));by_cases h1:a<b
 .refine tq_ rfl (ltT rfl) (zl 8 rfl ?_);exact r1_ hq_ rfl (by unfold zmx;rw[if_pos h1])
 .refine tq_ rfl (ltF rfl) (zl 10 rfl ?_);by_cases h2:b<a
  .refine tq_ rfl (gtT rfl) (zl 8 rfl ?_);exact r1_ hq_ rfl (by unfold zmx;rw[if_neg h1,if_pos h2])
  .refine tq_ rfl (gtF rfl) (zl 10 rfl ?_);exact r1_ hq_ rfl (by unfold zmx;rw[if_neg h1,if_neg h2])
theorem cmpor(l:List Int)(hl:l.length<=1000):Ctr Tryz.prog 186 [V.one (El.row i64E l)] (R.one (V.one (Leaf.val (.int .i64 (zBn l))))):=by
 refine bd_ Tryz.func186 Tryz.ntmps186 rfl (fun w0 A0=>?_);refine zc 14 rfl (tq_ rfl (jln rfl) (zl 4 rfl (zbo (fun m Γ H=>∃(i:Nat),l.length-i=m/\Γ=[(3,some (D.val (.int .i64 0))),(6,some (D.v (V.one (El.row i64E l)))),(7,some (D.val (.int .i64 ((l.length:Nat):Int)))),(8,some (D.val (.int .i64 (i:Int))))]/\H=[]/\i<=l.length/\zBn l=zBn (l.drop i)) ⟨0,rfl,rfl,rfl,zFn _,rfl⟩ rfl ?_)));rintro m Γ H ⟨i,rfl,rfl,rfl,hi0,ho⟩;refine zc 2 rfl ?_;by_cases hi:i<l.length
 .refine tq_ rfl (ltT rfl) (zl 9 rfl ?_);obtain⟨x,hx⟩:∃x,l[i]?=some x:=⟨_,zFh hi⟩;refine zc 1 rfl (tq_ rfl (jix i hx rfl) (tq_ rfl (jli rfl) (zl 7 rfl ?_)));by_cases h0:x≠0
  .refine tq_ rfl (neT rfl) (zl 9 rfl ?_);exact r1_ hq_ rfl (by rw[ho,zbc hx,zBn,if_pos h0])
  .refine tq_ rfl (neF rfl) (zl 7 rfl (tq_ rfl (jad (i+1) rfl) (zl 2 rfl ?_)));exact nx_ ⟨i+1,rfl,rfl,rfl,hi,by rw[ho,zbc hx,zBn,if_neg h0]⟩ rfl
 .refine tq_ rfl (ltF rfl) (zl 15 rfl ?_);exact r1_ hq_ rfl (by rw[ho,List.drop_eq_nil_of_le (by omega)] <;> rfl)
theorem zEC(a b:Rw):Ctr Tryz.prog 121 [rwV a,rwV b] (R.one (V.one (Leaf.val (.int .i64 (zFg a b))))):=by
 refine bd_ Tryz.func121 Tryz.ntmps121 rfl (fun w0 A0=>?_);refine zc 8 rfl (dr_ 0 [] [] (dz 4 rfl (kc_ zvE rfl (zFf a.kind b.kind) (dz 4 rfl (kc_ zvE rfl (zFf a.idx b.idx) (dz 4 rfl (kc_ zvE rfl (zFf a.lo b.lo) (dz 4 rfl (kc_ zvE rfl (zFf a.hi b.hi) ?_)))))))));refine ke_ rfl (fun _=>zad rfl zBz ty3 tz3 rfl (by decide) (by decide) rfl (by decide) rfl) (kc_ fn186 rfl (cmpor ([(zmx a.kind b.kind),(zmx a.idx b.idx),(zmx a.lo b.lo),(zmx a.hi b.hi)]) (zFo rfl)) (dz 1 rfl (zae (za 1 rfl ?_))));exact r1_ hq_ rfl rfl
theorem cmp2(a b:Mu):Ctr Tryz.prog 120 [muV a,muV b] (R.one (V.one (Leaf.val (.int .i64 (zFg a.r b.r))))):=by
 refine bd_ Tryz.func120 Tryz.ntmps120 rfl (fun w0 A0=>?_);refine zc 13 rfl (tc_ fn121 rfl (zEC a.r b.r) (zl 3 rfl ?_));exact r1_ hq_ rfl rfl
theorem neg1(m:Mu){B:Nat}[Fq m.c B](hB:B<=100000000000)(h:0<=m.c.q):Ctr Tryz.prog 117 [muV m] (R.one (V.one (Leaf.val (.bool false)))):=by
 refine bd_ Tryz.func117 Tryz.ntmps117 rfl (fun w0 A0=>?_);refine zc 10 rfl (tc_ zjF rfl (zd4 m.c (m.c.q) rfl (Fq.use (x:=m.c) (by omega))) (tq_ rfl (ltF rfl (by have:=zgS.2 h;omega)) (zl 3 rfl ?_)));exact r1_ hq_ rfl rfl
theorem zvv(l:List Mu)(hl:l.length<=1000){B:Nat}(hB:MB B l)(hB2:B<=100000000000)(hc:zju l):Ctr Tryz.prog 184 [V.one (El.row muE l),V.one (Leaf.val (.func (.func 117) #[] #[]))] (R.one (V.one (Leaf.val (.int .i64 (-1))))):=by
 refine bd_ Tryz.func184 Tryz.ntmps184 rfl (fun w0 A0=>?_);refine zc 9 rfl (tq_ rfl (jln rfl) (zl 4 rfl (zbo (fun m Γ H=>∃(i:Nat),l.length-i=m/\Γ=[(0,some (D.v (V.one (El.row muE l)))),(1,some (D.val (.func (.func 117) #[] #[]))),(7,some (D.val (.int .i64 ((l.length:Nat):Int)))),(8,some (D.val (.int .i64 (i:Int))))]/\H=[]/\i<=l.length) ⟨0,rfl,rfl,rfl,zFn _⟩ rfl ?_)));rintro m Γ H ⟨i,rfl,rfl,rfl,hi0⟩;refine zc 2 rfl ?_;by_cases hi:i<l.length
 .refine tq_ rfl (ltT rfl) (zl 15 rfl ?_);obtain⟨x,hx⟩:∃x,l[i]?=some x:=⟨_,zFh hi⟩;haveI hxB:=hB x (zFi hx);refine zc 4 rfl (tq_ rfl (jix i hx rfl) (tq_ rfl (jlr rfl) (te_ rfl (zid rfl rfl fn117 rfl (neg1 x (by omega) (hc x (zFi hx)).2)) (zl 7 rfl (tq_ rfl (jad (i+1) rfl) (zl 2 rfl ?_))))));exact nx_ ⟨i+1,rfl,rfl,rfl,hi⟩ rfl
 .refine tq_ rfl (ltF rfl) (zl 14 rfl ?_);exact r1_ hq_ rfl rfl
theorem zvw(l:List Mu)(hl:l.length<=1000){B:Nat}(hB:MB B l)(hB2:B<=100000000000)(hc:zju l):Ctr Tryz.prog 116 [V.one (El.row muE l),V.one (Leaf.val (.func (.func 117) #[] #[]))] (R.one (V.one (Leaf.val (.bool false)))):=by
 refine bd_ Tryz.func116 Tryz.ntmps116 rfl (fun w0 A0=>?_);refine zc 9 rfl (tc_ fn184 rfl (zvv l hl hB hB2 hc) (zl 4 rfl ?_));exact r1_ hq_ rfl rfl
set_option maxHeartbeats 2000000 in
theorem znE(l:List Mu){B:Nat}(hc:zju l)(hB:MB B l)(hB2:B<=10000000000)(hl:l.length<=19):CtrT Tryz.prog 55 109 7 (El.all muE (zcA l)) [] [V.one (Leaf.val (.int .i64 0))] [V.one (El.row muE l)]:=by
 refine CtrT.of_body Tryz.func55 rfl Tryz.ntmps55 (zFo rfl) (fun w0 A0 hX=>?_);refine qc_ (zc 10 rfl (tc_ fn116 rfl (zvw l (by omega) hB (by omega) hc) (zl 8 rfl ?_)));refine zcC rfl rfl Tryz.func118 rfl rfl Tryz.ntmps118 (zFo rfl) rfl (fun a1 d1 s1=>?_);refine qc_ (zc 9 rfl ?_);refine zib rfl rfl rfl rfl rfl zcH (fun b2 hnil=>?_);refine zl 2 rfl ?_;refine zap rfl (fun hn4=>?_) (fun hn4=>?_)
 .obtain⟨hl0,_⟩:=hnil hn4;have hl1:=zFt hl0;subst hl1;refine zc 2 rfl (zfv (u:=109) (sz:=7) rfl rfl rfl rfl rfl (zl 2 rfl (zic [] (fun _ _ h=>h) d1 s1 rfl rfl rfl trivial (zl 6 rfl ?_))));refine zcC rfl rfl Tryz.func119 rfl rfl Tryz.ntmps119 (zFo rfl) rfl (fun a3 d3 s3=>?_);refine qc_ (zc 3 rfl (tq_ rfl (zdq rfl rfl rfl (by decide) rfl rfl (by decide) zcH) (zl 1 rfl ?_)));refine zcC rfl rfl Tryz.func185 rfl rfl Tryz.ntmps185 (zFo rfl) rfl (fun a4 d4 s4=>?_);refine qc_ (zc 14 rfl (zer 1 (rn_ (zc 5 rfl (tq_ rfl (leF rfl (by decide)) (zl 14 rfl ?_))))));refine zcC rfl rfl Tryz.func226 rfl rfl Tryz.ntmps226 (zFo rfl) rfl (fun a5 d5 s5=>?_);refine qc_ (zc 3 rfl (tq_ rfl (zbg rfl rfl rfl (r:=1) (w64 (by decide) (by decide) (by decide))) (zl 4 rfl (zer 1 (rn_ (zc 5 rfl (tq_ rfl (ltF rfl (by decide)) (zl 7 rfl ?_))))))));refine zcX [(0,some (D.own 0 0)),(1,some (D.val (.int .i64 ((0:Nat):Int)))),(2,some (D.val (.func (.func 120) #[] #[]))),(6,some (D.val (.int .i64 20))),(4004,some (D.own 0 0))] d5 s5 rfl rfl ⟨rfl,rfl,rfl,rfl,rfl,trivial⟩ (zl 3 rfl (zer 1 (rn_ (zc 5 rfl (tq_ rfl (ltF rfl (by decide)) (zl 7 rfl ?_))))));refine zcX [(2004,some (D.own 0 0))] d4 s4 rfl rfl ⟨rfl,trivial⟩ (zl 1 rfl (zcX [(4,some (D.own 0 0))] d3 s3 rfl rfl ⟨rfl,trivial⟩ (zl 4 rfl (tq_ rfl (zbC rfl (rfl)) (zl 4 rfl (zdl 5 109 7 rfl rfl (zc 5 rfl (zer 1 (rn_ ?_)))))))));refine zc 5 rfl (tq_ rfl (zdq rfl rfl rfl (by decide) rfl rfl (by decide) zcH) (tq_ rfl (ltF rfl (by decide)) (zl 15 rfl ?_)));exact zpC (fun _ _ h=>h) hX rfl (rowOk.own rfl rfl rfl) rfl rfl
 .refine zc 3 rfl (nz_ [so 0 (D.v (V.one (El.row muE l)))] [] rfl rfl (zc 1 rfl (zcf rfl rfl rfl rfl zcH zbi rfl (zl 1 rfl ?_))));obtain⟨ti6,hi6,hz6,hs6,hb6⟩:=zvu;refine zbX rfl rfl rfl rfl rfl rfl rfl rfl rfl rfl (El.all_length muE l) (by decide) zcH zcH hi6 hz6 hs6 rfl (by simp only[maxLen];omega) (by rw[hb6];omega) (nm:=l.length) (Nat.zero_add _) (ls:=muE.all l) rfl (zl 3 rfl (zic [] (fun _ _ h=>h) d1 s1 rfl rfl rfl trivial (zl 6 rfl ?_)));refine zcC rfl rfl Tryz.func119 rfl rfl Tryz.ntmps119 (zFo rfl) rfl (fun a7 d7 s7=>?_);refine qc_ (zc 3 rfl (tq_ rfl (zdq rfl rfl rfl (by decide) rfl (El.len_sz rfl rfl) (by decide) zcH) (zl 1 rfl ?_)));refine zcC rfl rfl Tryz.func185 rfl rfl Tryz.ntmps185 (zFo rfl) rfl (fun a8 d8 s8=>?_);refine qc_ (zc 14 rfl (zer 1 (rn_ (zc 5 rfl (tq_ rfl (leF rfl) (zl 14 rfl ?_))))));refine zcC rfl rfl Tryz.func226 rfl rfl Tryz.ntmps226 (zFo rfl) rfl (fun a9 d9 s9=>?_);refine qc_ (zc 3 rfl (tq_ rfl (zbg rfl rfl rfl (r:=1) (w64 (by decide) (by decide) (by decide))) (zl 4 rfl ?_)));refine zbo (fun m Γ H=>∃(i:Nat) (u:List Mu),l.length-i=m/\Γ=[(0,some (D.own 0 l.length)),(1,some (D.val (.int .i64 0))),(2,some (D.val (.int .i64 ((l.length:Nat):Int)))),(3,some (D.val (.func (.func 120) #[] #[]))),(8,some (D.val (.int .i64 (i:Int)))),(2000,some (D.own 0 l.length)),(2001,some (D.val (.int .i64 ((l.length:Nat):Int)))),(2002,some (D.val (.func (.func 120) #[] #[]))),(2006,some (D.val (.int .i64 20))),(6004,some (D.own 0 l.length))]/\H=[hrw 109 7 muE u]/\1<=i/\InsOk l u i) ⟨1,l,rfl,rfl,rfl,zFl _,InsOk.start l⟩ rfl ?_;rintro m Γ H ⟨i,u,rfl,rfl,rfl,hi1,hI⟩;refine zc 5 rfl ?_;by_cases hi:i<l.length
  .refine tq_ rfl (ltT rfl) (zl 8 rfl ?_);have hul:=hI.len;obtain⟨x,hx⟩:∃x,u[i]?=some x:=⟨_,zFh (by omega)⟩;have htl:(u.take i).length=i:=by rw[zFy];omega
   have hg0:Gt (u.take i) x i:=by have h:=Gt.start (A:=u.take i) (x:=x);rwa [htl] at h
   refine zc 6 rfl ?_;refine zbo (fun m Γ H=>∃(j:Nat),j=m/\Γ=[(0,some (D.own 0 l.length)),(1,some (D.val (.int .i64 0))),(2,some (D.val (.int .i64 ((l.length:Nat):Int)))),(3,some (D.val (.func (.func 120) #[] #[]))),(8,some (D.val (.int .i64 (i:Int)))),(9,some (D.val (.int .i64 (j:Int)))),(2000,some (D.own 0 l.length)),(2001,some (D.val (.int .i64 ((l.length:Nat):Int)))),(2002,some (D.val (.func (.func 120) #[] #[]))),(2006,some (D.val (.int .i64 20))),(6004,some (D.own 0 l.length))]/\H=[hrw 109 7 muE (zfn (u.take i) x j++u.drop (i+1))]/\j<=i/\Gt (u.take i) x j) ⟨i,rfl,rfl,by rw[<-zmf hx],zFl _,hg0⟩ rfl ?_;rintro m Γ H ⟨j,rfl,rfl,rfl,hji,hg⟩;have hsl:(zfn (u.take i) x j++u.drop (i+1)).length=l.length:=by rw[zFx,zh0,htl,zFH];omega
   refine zc 2 rfl (dr_ 0 [] [] (dz 2 rfl ?_));by_cases hj0:0<j
   .refine kq_ rfl (gtT rfl) (dz 1 rfl ?_);obtain⟨y,hy⟩:∃y,(u.take i)[j-1]?=some y:=⟨_,zFh (by omega)⟩;refine dz 3 rfl (kq_ rfl (zgI (i:=0) muE (zfn (u.take i) x j++u.drop (i+1)) (j) rfl rfl rfl rfl (by decide) zcH zbi (by omega) hsl) (kq_ rfl (zjt (i:=0) muE (zfn (u.take i) x j++u.drop (i+1)) (j) (fo:=0) rfl rfl rfl (by decide) zbi (zoX (by omega) _) rfl) (dz 2 rfl (kq_ rfl (jsb (j-1) rfl) ?_))));refine kq_ rfl (zgI (i:=0) muE (zfn (u.take i) x j++u.drop (i+1)) (j-1) rfl rfl rfl rfl (by decide) zcH zbi (by omega) hsl) (kq_ rfl (zjt (i:=0) muE (zfn (u.take i) x j++u.drop (i+1)) (j-1) (fo:=0) rfl rfl rfl (by decide) zbi (zmh hj0 (by omega) hy _) rfl) (ke_ rfl (fun _=>zid rfl rfl fn120 rfl (cmp2 x y)) ?_));by_cases hlt:zbd x.r y.r=true
    .refine kq_ rfl (ltT rfl (zth.2 hlt)) (dz 1 rfl (zae (za 6 rfl (dr_ 0 [(15,0),(17,0)] [0] (dz 4 rfl (kq_ rfl (jsb (j-1) rfl) (dz 2 rfl (kq_ rfl (jsb (j-1) rfl) (kp_ [] rfl (zgI (i:=0) muE (zfn (u.take i) x j++u.drop (i+1)) (j-1) rfl rfl rfl rfl (by decide) zcH zbi (by omega) hsl) ?_)))))))));refine kp_ [] rfl (zjt (i:=0) muE (zfn (u.take i) x j++u.drop (i+1)) (j-1) (fo:=0) rfl rfl rfl (by decide) zbi (zmh hj0 (by omega) hy _) rfl) (dz 2 rfl (kp_ [] rfl (zgI (i:=0) muE (zfn (u.take i) x j++u.drop (i+1)) (j) rfl rfl rfl rfl (by decide) zcH zbi (by omega) hsl) ?_));refine kp_ [] rfl (zjt (i:=0) muE (zfn (u.take i) x j++u.drop (i+1)) (j) (fo:=0) rfl rfl rfl (by decide) zbi (zoX (by omega) _) rfl) (kp_ [] rfl (zgI (i:=0) muE (zfn (u.take i) x j++u.drop (i+1)) (j) rfl rfl rfl rfl (by decide) zcH zbi (by omega) hsl) ?_);refine ki_ 0 rfl (zx9 (n:=0) muE (zfn (u.take i) x j++u.drop (i+1)) (j) (y) rfl rfl rfl rfl zbi (by rw[hsl];omega)) (kp_ [] rfl (zgI (i:=0) muE ((zfn (u.take i) x j++u.drop (i+1)).set (j) y) (j-1) rfl rfl rfl rfl (by decide) zcH zbi (by omega) (by rw[List.length_set];exact hsl)) ?_);refine ki_ 0 rfl (zx9 (n:=0) muE ((zfn (u.take i) x j++u.drop (i+1)).set (j) y) (j-1) (x) rfl rfl rfl rfl zbi (by rw[List.length_set,hsl];omega)) (zae (za 4 rfl (tq_ rfl (jsb (j-1) rfl) (zl 2 rfl ?_))));exact nx_ ⟨j-1,rfl,rfl,by rw[zsG hj0 (by omega) hy],by omega,hg.step hj0 hy hlt⟩ rfl
    .refine kq_ rfl (ltF rfl (fun e=>hlt (zth.1 e))) (dz 1 rfl (zae (za 10 rfl (tq_ rfl (jad (i+1) rfl) (zl 2 rfl ?_)))));exact nx_ ⟨i+1,_,rfl,rfl,rfl,by omega,hI.next hx hji hg (.inr ⟨y,hy,by simpa using hlt⟩)⟩ rfl
   .refine kq_ rfl (gtF rfl) (dz 14 rfl (zae (za 10 rfl (tq_ rfl (jad (i+1) rfl) (zl 2 rfl ?_)))));exact nx_ ⟨i+1,_,rfl,rfl,rfl,by omega,hI.next hx hji hg (.inl (by omega))⟩ rfl
  .refine tq_ rfl (ltF rfl) (zl 7 rfl (zcX [(0,some (D.own 0 l.length)),(1,some (D.val (.int .i64 ((l.length:Nat):Int)))),(2,some (D.val (.func (.func 120) #[] #[]))),(6,some (D.val (.int .i64 20))),(4004,some (D.own 0 l.length))] d9 s9 rfl rfl ⟨rfl,rfl,rfl,rfl,rfl,trivial⟩ (zl 3 rfl (zer 1 (rn_ (zc 5 rfl (tq_ rfl (ltF rfl) (zl 7 rfl ?_))))))));refine zcX [(2004,some (D.own 0 l.length))] d8 s8 rfl rfl ⟨rfl,trivial⟩ (zl 1 rfl (zcX [(4,some (D.own 0 l.length))] d7 s7 rfl rfl ⟨rfl,trivial⟩ (zl 3 rfl ?_)));have hul:=hI.len;have hsrt:Srt u:=by have:=hI.srt;rwa [zFQ (by omega)] at this
   have hcu:zju u:=fun m hm=>hc m (hI.mem m hm);have hBu:MB B u:=fun m hm=>hB m (hI.mem m hm);refine zc 1 rfl (tq_ rfl (zbC rfl (rfl)) (zl 4 rfl (zdl 5 109 7 rfl rfl (zc 5 rfl ?_))));refine zbo (fun m Γ H=>∃(i2:Nat) (n:Nat) (out:List Mu),l.length-i2=m/\Γ=[(4,some (D.own 0 l.length)),(5,some (D.v (V.one (Leaf.own 1 n)))),(6,some (D.val (.int .i64 (i2:Int))))]/\H=[hrw 109 7 muE u,hgr 109 7 muE out n]/\i2<=l.length/\GrpOk u out i2) ⟨0,0,[],rfl,rfl,rfl,zFn _,GrpOk.start u⟩ rfl ?_;rintro m Γ H ⟨i2,n,out,rfl,rfl,rfl,hi20,hG⟩;refine zc 5 rfl (tq_ rfl (zdq rfl rfl rfl (by decide) rfl (El.len_sz hul rfl) (by decide) zcH) ?_);by_cases hi2:i2<l.length
   .refine tq_ rfl (ltT rfl) (zl 7 rfl ?_);obtain⟨m0,h0⟩:∃m,u[i2]?=some m:=⟨_,zFh (by omega)⟩;refine zc 3 rfl (tq_ rfl (zgI (i:=0) muE u (i2) rfl rfl rfl rfl (by decide) zcH zbi hi2 hul) (zl 1 rfl (tq_ rfl (zjt (i:=0) muE u (i2) (fo:=0) rfl rfl rfl (by decide) zyh h0 rfl) (zl 1 rfl (eq_ (D.agg (qL 0)) rfl (zB2) (zl 8 rfl ?_))))));refine zbo (fun m Γ H=>∃(i3:Nat) (sum:Rat),l.length-i3=m/\Γ=[(4,some (D.own 0 l.length)),(5,some (D.v (V.one (Leaf.own 1 n)))),(6,some (D.val (.int .i64 (i3:Int)))),(7,some (D.ptr 2 0)),(8,some (D.ptr 3 0))]/\H=[hrw 109 7 muE u,hgr 109 7 muE out n,hb_ 107 [Leaf.val (.int .i64 m0.r.kind),Leaf.val (.int .i64 m0.r.idx),Leaf.val (.int .i64 m0.r.lo),Leaf.val (.int .i64 m0.r.hi)],hb_ 36 (qL sum)]/\i3<=l.length/\InOk u m0.r i2 i3 sum/\Br sum (i3*(B+2))) ⟨i2,0,rfl,rfl,rfl,by omega,InOk.start u m0.r i2,Br.zero.mono (zFn _)⟩ rfl ?_;rintro m Γ H ⟨i3,sum,rfl,rfl,rfl,hi30,hS,hsB⟩;refine zc 2 rfl (nz_ [so 4 (D.own 0 l.length),so 5 (D.v (V.one (Leaf.own 1 n))),so 6 (D.val (.int .i64 (i3:Int))),so 7 (D.ptr 2 0),so 8 (D.ptr 3 0)] [hrw 109 7 muE u,hgr 109 7 muE out n,hb_ 107 [Leaf.val (.int .i64 m0.r.kind),Leaf.val (.int .i64 m0.r.idx),Leaf.val (.int .i64 m0.r.lo),Leaf.val (.int .i64 m0.r.hi)],hb_ 36 (qL sum)] rfl rfl (dr_ 0 [] [] (dz 2 rfl ?_)));refine kq_ rfl (zdq rfl rfl rfl (by decide) rfl (El.len_sz hul rfl) (by decide) zcH) ?_;by_cases hi3:i3<l.length
    .refine kq_ rfl (ltT rfl) (dz 1 rfl ?_);obtain⟨x3,hx3⟩:∃m,u[i3]?=some m:=⟨_,zFh (by omega)⟩;haveI hx3B:=hBu x3 (zFi hx3);refine dz 2 rfl (kq_ rfl (zgI (i:=0) muE u (i3) rfl rfl rfl rfl (by decide) zcH zbi (by omega) hul) (dz 1 rfl (kq_ rfl (zjt (i:=0) muE u (i3) (fo:=0) rfl rfl rfl (by decide) zyh hx3 rfl) (dz 1 rfl ?_))));by_cases he:x3.r=m0.r
     .refine kq_ rfl (zlr rfl rfl rfl zoB (d:=true) (zEi he)) (dz 1 rfl (zae (za 6 rfl ?_)));have hm3:=zFs (B+2) (show i3<=19 by omega);haveI hsB':=hsB;have hbr3:Br (sum+x3.c.q) ((i3+1)*(B+2)):=(inferInstance:Br (sum+x3.c.q) _).mono (by rw[Nat.succ_mul];omega);refine nz_ [so 4 _,so 5 _,so 6 _,so 7 _,so 8 _] [_,_,_,_] rfl rfl (dr_ 0 [(7,3)] [3] (kp_ [] rfl (zaC rfl rfl rfl (by decide) zhM (by decide) (zFo rfl) rfl) (dz 2 rfl (kq_ rfl (zgI (i:=0) muE u (i3) rfl rfl rfl rfl (by decide) zcH zbi (by omega) hul) (dz 1 rfl ?_)))));refine kq_ rfl (zjt (i:=0) muE u (i3) (fo:=4) rfl rfl rfl (by decide) zhM hx3 rfl) (zjC (D.agg (qL x3.c.q)) rfl (zxF (hcu x3 (zFi hx3)).1) (kc_ zsY rfl (zB5 (qOf (sum)) (sum) (zah _) (Br.use (by omega)) (qOf (x3.c.q)) (x3.c.q) (zah _) (Br.use (by omega))) (dz 1 rfl (zae (za 2 rfl ?_)))));refine nz_ [so 4 _,so 5 _,so 6 _,so 7 _,so 8 _] [_,_,_,hb_ 36 (qL ((sum)+(x3.c.q)))] rfl rfl (zc 2 rfl (tq_ rfl (jad (i3+1) rfl) (zl 2 rfl ?_)));exact nx_ ⟨i3+1,_,rfl,rfl,rfl,by omega,hS.step hx3 he (hcu x3 (zFi hx3)).2,hbr3⟩ rfl
     .refine kq_ rfl (zlr rfl rfl rfl zoB (d:=false) (zEj he)) (dz 1 rfl (zae (za 8 rfl ?_)));have hm3:=zFs (B+2) (show i3<=19 by omega);have hlt:i2<i3:=(by have h1:=hS.le;rcases Nat.lt_or_eq_of_le h1 with h|h <;> first|exact h|(subst h;rw[h0] at hx3;cases hx3;exact absurd rfl he));have hGn:=GrpOk.next hsrt hG hS h0 rfl hlt (fun m hm=>by rw[hx3] at hm;cases hm;exact he);have hol:=hG.len;refine zc 2 rfl (tc_ zjF rfl (zd4 (qOf (sum)) (sum) (zah _) (Br.use (by omega))) ?_);by_cases hp:0<sum
      .refine tq_ rfl (gtT rfl (zd3.2 hp)) (zl 3 rfl (nz_ [so 4 _,so 5 _,so 6 _,so 7 _,so 8 _] [_,_,_,_] rfl rfl (zc 5 rfl (te_ rfl (zad rfl zcH zbi zcZ rfl (by decide) (by decide) rfl (by decide) rfl) (te_ rfl (jap (e:=muE) (⟨m0.r,(qOf (sum))⟩) rfl rfl) (zl 3 rfl (zal 2 (zal 3 (zaJ 2 rfl ?_)))))))));exact nx_ ⟨i3,_,_,rfl,rfl,rfl,by omega,(by rw[if_pos hp] at hGn;exact hGn)⟩ rfl
      .refine tq_ rfl (gtF rfl (fun e=>hp (zd3.1 e))) (zl 5 rfl (zal 2 (zal 3 (zaJ 2 rfl ?_))));exact nx_ ⟨i3,_,_,rfl,rfl,rfl,by omega,(by rw[if_neg hp] at hGn;exact hGn)⟩ rfl
    .refine kq_ rfl (ltF rfl) (dz 9 rfl (zae (za 8 rfl ?_)));have hm3:=zFs (B+2) (show i3<=19 by omega);have hlt:i2<i3:=(by have h1:=hS.le;omega);have hGn:=GrpOk.next hsrt hG hS h0 rfl hlt (fun m hm=>by have:=(zFj.1 hm).1;omega);have hol:=hG.len;refine nz_ [so 4 _,so 5 _,so 6 _,so 7 _,so 8 _] [_,_,_,_] rfl rfl (zc 2 rfl (tc_ zjF rfl (zd4 (qOf (sum)) (sum) (zah _) (Br.use (by omega))) ?_));by_cases hp:0<sum
     .refine tq_ rfl (gtT rfl (zd3.2 hp)) (zl 8 rfl (te_ rfl (zad rfl zcH zbi zcZ rfl (by decide) (by decide) rfl (by decide) rfl) (te_ rfl (jap (e:=muE) (⟨m0.r,(qOf (sum))⟩) rfl rfl) (zl 3 rfl (zal 2 (zal 3 (zaJ 2 rfl ?_)))))));exact nx_ ⟨i3,_,_,rfl,rfl,rfl,by omega,(by rw[if_pos hp] at hGn;exact hGn)⟩ rfl
     .refine tq_ rfl (gtF rfl (fun e=>hp (zd3.1 e))) (zl 5 rfl (zal 2 (zal 3 (zaJ 2 rfl ?_))));exact nx_ ⟨i3,_,_,rfl,rfl,rfl,by omega,(by rw[if_neg hp] at hGn;exact hGn)⟩ rfl
   .refine tq_ rfl (ltF rfl) (zl 9 rfl ?_);have hie:i2=u.length:=by omega
    rw[hie] at hG;have hout:=zzb hc hI hG;refine nf_ [0] [so 5 (D.v (V.one (Leaf.own 1 n)))] [none,hgr 109 7 muE out n] rfl rfl rfl (zc 6 rfl ?_);exact zpC (fun _ _ h=>h) hX rfl (rowOk.own rfl rfl (by rw[hout])) rfl rfl
end Go.Proofs.YtjeiacoegppoiaaGreatDoor
namespace Rc
open Go Go.RowKit
theorem zog{s:Sc}(h:QOk s.q){j:Nat}{p:Af}(hp:s.q.g.us[j]?=some p):FOk 3 (s.q.g.inp+s.q.g.us.length) p:=(h.g.us j p hp).mono (zFl _) (by have:=(zFj.1 hp).1;omega)
def sl(s:Sc)(up:Bool)(p:Af):List Mu:=if up=true then abL s (zbO p) else abL s p
theorem zs0(l:List Nat):(zhq l).path.length<=4:=by
 have e:(zhq l).path=(zfz l).path:=by unfold zhq;split <;> rfl
 rw[e];have h4:nx l (zaw l 0).2 4<4:=zda (by decide);have:=(zhV (l:=l) (ziG l 0) (za3 (ziH (zFn _))) (nx l (zaw l 0).2 4)).2.1;show(zfS _ _ _ _).1.length<=4;omega
theorem zdf{ts:List Tm}{c:Rat}(h:CanT ts):CanT (scT ts c):=by rw[zdP];exact zfN h
theorem zqv{ts:List Tm}{c:Rat}(h:CanT ts)(v:Nat):co (scT ts c) v=co ts v*c:=by rw[zdP];exact zkf h v
theorem zte{f g:Af}(hf:CanT f.ts)(hg:CanT g.ts)(v:Nat):co (zf0 f g).ts v=co f.ts v+co g.ts v:=zf1 hf hg v
theorem zfJ{f:Af}{c:Rat}(hf:CanT f.ts)(v:Nat):co (fSc f c).ts v=co f.ts v*c:=zqv hf v
theorem zc4{f g:Af}(hf:CanT f.ts)(hg:CanT g.ts)(v:Nat):co (zcu f g).ts v=co f.ts v-co g.ts v:=by
 show co (zgQ f.ts (scT g.ts ((-1:Int):Rat))) v=_;rw[zf1 hf (zdf hg),zqv hg,m1];grind
theorem zg8{f g:Af}(hf:CanT f.ts):CanT (zcu f g).ts:=zch hf
theorem zfA(v:Nat):CanT (fV v).ts:=⟨by decide,fun t ht=>by simp at ht,trivial⟩
theorem zhI(c:Rat):CanT (fN c).ts:=trivial
theorem zm2(w v:Nat):co (fV w).ts v=if w=v then 1 else 0:=by
 show(if w=v then((1:Int):Rat) else co [] v)=_;rw[p1];rfl
theorem zqR(c:Rat)(v:Nat):co (fN c).ts v=0:=rfl
def coR(s:Sc)(v:Nat)(r:Rw):Rat:=co (zaL s r).1.ts v
section
variable {s:Sc}
def coS(v:Nat):List Tm->Rat
 |[]=>0
 |t::ts=>(if t.1=v then t.2 else 0)+coS v ts
theorem ztf{v:Nat}:∀{ts:List Tm},CanT ts->coS v ts=co ts v
 |[],_=>rfl
 |(w,d)::ts,h=>by
  obtain⟨h1,h2,h3⟩:=h;show(if w=v then d else 0)+coS v ts=if w=v then d else co ts v;rw[ztf h3];split
  .rename_i e;subst e;rw[zcS h2];grind
  .grind
end
def lvr(l:List Lm)(n:Nat):Qr:=match l[n-1]? with|some m=>m.v|none=>qZero
theorem zcN{l:List Lm}{n:Nat}{m:Lm}(h:l[n-1]?=some m):lvr l n=m.v:=by unfold lvr;rw[h]
def zj0(r:Rw):List Mu:=[⟨r,qOf ((1:Int):Rat)⟩]
def zBm(up:Bool)(i:Nat)(b:Rat×Rw)(k:Nat)(d:Dc):Rat×Rw:=
 if d.kind=(if up=true then 4 else 3)/\d.idx=i/\(if up=true then d.pt<b.1 else b.1<d.pt) then(d.pt,⟨4,(k:Int),0,0⟩) else b
def zjw(s:Sc)(i:Nat)(up:Bool):Rat×Rw:=if up=true then((s.q.r.hi[i]?).getD 0,⟨2,(i:Int),0,0⟩) else((s.q.r.lo[i]?).getD 0,⟨1,(i:Int),0,0⟩)
def inpT(s:Sc)(i:Nat)(up:Bool)(b:Rat×Rw)(k:Nat):Rat×Rw:=match s.path[k]? with|some d=>zBm up i b k d|none=>b
def zgK(s:Sc)(i:Nat)(up:Bool)(n:Nat):Rat×Rw:=(List.range n).foldl (inpT s i up) (zjw s i up)
def ziZ(s:Sc)(i:Nat)(up:Bool):Rat×Rw:=zgK s i up s.path.length
theorem ze1{s:Sc}{i:Nat}{up:Bool}{n:Nat}{d:Dc}(h:s.path[n]?=some d):zgK s i up (n+1)=zBm up i (zgK s i up n) n d:=by
 unfold zgK;rw[List.range_succ,zFJ];simp only[List.foldl_cons,List.foldl_nil];show inpT s i up _ n=_;unfold inpT;rw[h]
@[reducible] def bLo(s:Sc)(j:Nat):Nat:=(zam s.lems (j:Int)).1
@[reducible] def bHi(s:Sc)(j:Nat):Nat:=(zam s.lems (j:Int)).2
@[reducible] def zus(s:Sc)(j:Nat):Bool:=zet s.path 1 (j:Int)
@[reducible] def zut(s:Sc)(j:Nat):Bool:=zet s.path 2 (j:Int)
def zoQ(s:Sc)(j:Nat):Qr×List Mu:=
 if bLo s j≠0/\0<lv s.lems (bLo s j) then(lvr s.lems (bLo s j),[⟨⟨6,(j:Int),0,0⟩,qOf ((1:Int):Rat)⟩,⟨⟨11,(j:Int),(bLo s j:Int),0⟩,qOf ((1:Int):Rat)⟩])
 else(qZero,zj0 ⟨5,(j:Int),0,0⟩)
def zeP(s:Sc)(j:Nat):Option (Qr×List Mu):=
 if zut s j=true\/(bHi s j≠0/\lv s.lems (bHi s j)<=0) then some (qZero,zj0 ⟨10,(j:Int),0,if zut s j=true then 0 else(bHi s j:Int)⟩)
 else if bHi s j=0 then none
 else if zus s j=true\/(bLo s j≠0/\0<=lv s.lems (bLo s j)) then some (lvr s.lems (bHi s j),[⟨⟨8,(j:Int),if zus s j=true then 0 else(bLo s j:Int),0⟩,qOf ((1:Int):Rat)⟩,⟨⟨12,(j:Int),0,(bHi s j:Int)⟩,qOf ((1:Int):Rat)⟩])
 else if bLo s j=0 then none
 else some (lvr s.lems (bHi s j),[⟨⟨12,(j:Int),0,(bHi s j:Int)⟩,qOf (lv s.lems (bHi s j)*(((1:Int):Rat)/(lv s.lems (bHi s j)-lv s.lems (bLo s j))))⟩,⟨⟨13,(j:Int),(bLo s j:Int),(bHi s j:Int)⟩,qOf (((1:Int):Rat)/(lv s.lems (bHi s j)-lv s.lems (bLo s j)))⟩])
def zjK(s:Sc)(v:Nat)(up:Bool):Option (Qr×List Mu):=
 if v<s.q.g.inp then some (qOf (ziZ s v up).1,zj0 (ziZ s v up).2)
 else if up=true then zeP s (v-s.q.g.inp) else some (zoQ s (v-s.q.g.inp))
def zmE(s:Sc)(a:Option (Rat×List Mu))(t:Tm):Option (Rat×List Mu):=
 match a with
 |none=>none
 |some (x,l)=>match zjK s t.1 (decide (t.2<0)) with
  |none=>none
  |some (b,m)=>some (x+t.2*b.q,zaS l m (rq false (zav t.2) (zaz t.2)))
def zh7(s:Sc)(f:Af)(n:Nat):Option (Rat×List Mu):=(f.ts.take n).foldl (zmE s) (some (f.c,[]))
def zlg(s:Sc)(f:Af):Option (Rat×List Mu):=zh7 s f f.ts.length
def zb9:Dom:=fun s f=>match zlg s f with|some (x,l)=>(x,l,true)|none=>(0,[],false)
theorem zc5{s:Sc}{f:Af}{n:Nat}{t:Tm}(h:f.ts[n]?=some t):zh7 s f (n+1)=zmE s (zh7 s f n) t:=by
 unfold zh7;rw[zaF h,zFJ];rfl
theorem zmD{s:Sc}:∀(ts:List Tm),ts.foldl (zmE s) none=none
 |[]=>rfl
 |t::ts=>zmD ts
theorem zmF{s:Sc}{f:Af}{n:Nat}(h:zh7 s f n=none):zlg s f=none:=by
 unfold zlg zh7 at *;rw[zFE]
 conv=>lhs;rw[<-List.take_append_drop n f.ts,zFJ,h]
 exact zmD _
theorem zbW{s:Sc}{f:Af}{x:Rat}{l:List Mu}(h:zlg s f=some (x,l)):zb9 s f=(x,l,true):=by unfold zb9;rw[h]
theorem zdC{s:Sc}{f:Af}(h:zlg s f=none):zb9 s f=(0,[],false):=by unfold zb9;rw[h]
section
variable {s:Sc}
theorem zsP{k:Nat}{d:Dc}(hd:s.path[k]?=some d)(h3:3<=d.kind):zaL s ⟨4,(k:Int),0,0⟩=(zeX d,true):=by
 unfold zaL;rw[if_neg (by show ¬(5:Int)<=4;decide),if_neg (by show ¬((0:Int)≠0\/(0:Int)≠0\/(k:Int)<0);omega),if_neg (by show ¬(4:Int)=1;decide),if_neg (by show ¬(4:Int)=2;decide),if_neg (by show ¬(4:Int)=3;decide),if_pos rfl];simp only[zgP,hd];rw[if_pos h3]
theorem zqe{j n:Nat}{p:Af}{m:Lm}(hp:s.q.g.us[j]?=some p)(hn:0<n)(hm:s.lems[n-1]?=some m)(hu:m.unit=(j:Int))(hup:m.up=false) :
  zaL s ⟨11,(j:Int),(n:Int),0⟩=(zcu p (fN m.v.q),true):=
 zcz (by decide) hp (by
  unfold zbf;rw[if_neg (by simp),if_neg (by simp),if_neg (by simp),if_neg (by simp),if_neg (by simp),if_neg (by simp),if_pos rfl];unfold zvm zdI;simp only[zj7 hn hm hu hup];simp)
theorem zo4{j:Nat}{p:Af}(hp:s.q.g.us[j]?=some p)(hd:zet s.path 1 (j:Int)=true):zaL s ⟨8,(j:Int),0,0⟩=(zcu p (fV (s.q.g.inp+j)),true):=
 zcz (by decide) hp (by
  unfold zbf;rw[if_neg (by simp),if_neg (by simp),if_neg (by simp),if_pos rfl];unfold onB;simp only[hd];simp)
theorem zml{j:Nat}{p:Af}(hp:s.q.g.us[j]?=some p)(hd:zet s.path 2 (j:Int)=true):zaL s ⟨10,(j:Int),0,0⟩=(fSc (fV (s.q.g.inp+j)) ((-1:Int):Rat),true):=
 zcz (by decide) hp (by
  unfold zbf;rw[if_neg (by simp),if_neg (by simp),if_neg (by simp),if_neg (by simp),if_neg (by simp),if_pos rfl];unfold zj1;simp only[hd];simp)
end
structure SB(B:Nat)(s:Sc):Prop where
 q:QOk s.q
 d:∀d∈s.path,DOk 200 s.q d
 pl:s.path.length<=100
 B:∀m∈s.lems,Fq m.v B
 ll:s.lems.length<=1000
structure BvOk(s:Sc)(B v:Nat)(up:Bool)(b:Qr)(l:List Mu):Prop where
 step:StepOk s (4*B+12) l
 fq:Fq b (B+201)
 co:∀w,W (coR s w) l=if v=w then(if up=true then -1 else 1) else 0
 wc:W (zhk s) l=if up=true then b.q else -b.q
theorem ziK{s:Sc}{r:Rw}{B:Nat}(h:(zaL s r).2=true):StepOk s (4*B+12) (zj0 r):=
 ⟨(zdR (B:=B) h).ok,(zdR (B:=B) h).pos,(zdR (B:=B) h).bd.mono (by omega),by simp[zj0]⟩
theorem zjZ(φ:Rw->Rat)(r:Rw):W φ (zj0 r)=φ r:=by unfold zj0;simp only[W,zah,p1];grind
theorem ite_sub{v w:Nat}:(if v=w then(1:Rat) else 0)-0=if v=w then 1 else 0:=by split <;> grind
structure InpOk(s:Sc)(i:Nat)(up:Bool)(n:Nat)(b:Rat×Rw):Prop where
 ok:(zaL s b.2).2=true
 hb:Hb b.1 200
 co:∀w,coR s w b.2=if i=w then(if up=true then -1 else 1) else 0
 wc:zhk s b.2=if up=true then b.1 else -b.1
theorem zmi{B:Nat}{s:Sc}(hs:SB B s){i:Nat}(hi:i<s.q.g.inp)(up:Bool):∀n,n<=s.path.length->InpOk s i up n (zgK s i up n)
 |0,_=>by
  have hl:=hs.q.r.lo;have hh:=hs.q.r.hi;obtain⟨a,ha⟩:∃a,s.q.r.lo[i]?=some a:=⟨_,zFh (by omega)⟩;obtain⟨c,hc⟩:∃c,s.q.r.hi[i]?=some c:=⟨_,zFh (by omega)⟩;obtain⟨h1,h2,_⟩:=hs.q.r.bd i a c ha hc;show InpOk s i up 0 (zjw s i up);unfold zjw;cases up
  .rw[if_neg (by decide),ha];have hf:=znu ha;refine⟨?_,h1.mono (by omega),fun w=>?_,?_⟩
   .show(zaL s ⟨1,(i:Int),0,0⟩).2=true;rw[hf]
   .show co (zaL s ⟨1,(i:Int),0,0⟩).1.ts w=_;rw[hf,zc4 (zfA _) (zhI _),zm2,zqR];split <;> (try simp) <;> (try grind)
   .show(zaL s ⟨1,(i:Int),0,0⟩).1.c = -a;rw[hf];show 0+a*((-1:Int):Rat) = -a;rw[m1];grind
  .rw[if_pos rfl,hc];have hf:=znv hc;refine⟨?_,h2.mono (by omega),fun w=>?_,?_⟩
   .show(zaL s ⟨2,(i:Int),0,0⟩).2=true;rw[hf]
   .show co (zaL s ⟨2,(i:Int),0,0⟩).1.ts w=_;rw[hf,zc4 (zhI _) (zfA _),zm2,zqR];split <;> (try simp) <;> (try grind)
   .show(zaL s ⟨2,(i:Int),0,0⟩).1.c=c;rw[hf];show c+0*((-1:Int):Rat)=c;grind
 |n+1,hn=>by
  have ih:=zmi hs hi up n (by omega);obtain⟨d,hd⟩:∃d,s.path[n]?=some d:=⟨_,zFh (by omega)⟩;have hok:=hs.d d (zFi hd);rw[ze1 hd];by_cases hc:d.kind=(if up=true then 4 else 3)/\d.idx=i/\(if up=true then d.pt<(zgK s i up n).1 else(zgK s i up n).1<d.pt)
  .have e:zBm up i (zgK s i up n) n d=(d.pt,⟨4,(n:Int),0,0⟩):=if_pos hc;rw[e];obtain⟨hk,hx,_⟩:=hc;have h3:3<=d.kind:=by rw[hk];split <;> omega
   have hf:=zsP hd h3;refine⟨?_,hok.2,fun w=>?_,?_⟩
   .show(zaL s ⟨4,(n:Int),0,0⟩).2=true;rw[hf]
   .show co (zaL s ⟨4,(n:Int),0,0⟩).1.ts w=_;rw[hf];show co (zeX d).ts w=_;unfold zeX;cases up
    .rw[if_pos (by simpa using hk),zc4 (zfA _) (zhI _),zm2,zqR,hx];split <;> (try simp) <;> (try grind)
    .rw[if_neg (by simp at hk;omega),zfJ (zg8 (zfA _)),zc4 (zfA _) (zhI _),zm2,zqR,hx,m1];split <;> (try simp) <;> (try grind)
   .show(zaL s ⟨4,(n:Int),0,0⟩).1.c=_;rw[hf];show(zeX d).c=_;unfold zeX;cases up
    .rw[if_pos (by simpa using hk)];show 0+d.pt*((-1:Int):Rat) = -d.pt;rw[m1];grind
    .rw[if_neg (by simp at hk;omega)];show(0+d.pt*((-1:Int):Rat))*((-1:Int):Rat)=d.pt;rw[m1];grind
  .have e:zBm up i (zgK s i up n) n d=zgK s i up n:=if_neg hc;rw[e];exact⟨ih.ok,ih.hb,ih.co,ih.wc⟩
theorem zCA{B:Nat}{s:Sc}(hs:SB B s){j:Nat}(hj:j<s.q.g.us.length):BvOk s B (s.q.g.inp+j) false (zoQ s j).1 (zoQ s j).2:=by
 obtain⟨p,hp⟩:∃p,s.q.g.us[j]?=some p:=⟨_,zFh hj⟩;have hpc:=(hs.q.g.us j p hp).can;unfold zoQ;split
 .rename_i h;obtain⟨y,hy,yu,yp,hly,hy0,hyl⟩:=zbe h.1;haveI:=hs.B y (zFi hy);have f1:=zka hp;have f2:=zqe hp hy0 hy yu yp;simp only[zcN hy];refine⟨⟨fun m hm=>?_,fun m hm=>?_,fun m hm=>?_,by simp⟩,(inferInstance:Fq y.v B).mono (by omega),fun w=>?_,?_⟩
  .simp at hm;rcases hm with rfl|rfl
   .rw[f1]
   .rw[f2]
  .simp at hm;rcases hm with rfl|rfl <;> rw[zah] <;> decide
  .simp only[zFL,List.not_mem_nil,or_false] at hm;rcases hm with rfl|rfl <;> exact Fq.of.mono (by omega)
  .simp only[W,coR,f1,f2,zah,p1];rw[zc4 (zfA _) hpc,zc4 hpc (zhI _),zm2,zqR];simp;split <;> grind
  .simp only[W,zhk,f1,f2,zah,p1,zcu,fV,fN,m1];simp;grind
 .have f1:=zgs hp;refine⟨ziK (by rw[f1]),⟨zeU⟩,fun w=>?_,?_⟩
  .rw[zjZ];simp only[coR,f1,zm2];simp
  .rw[zjZ];simp only[zhk,f1,fV,zcJ];simp
theorem zy9{B:Nat}{s:Sc}(hs:SB B s){j:Nat}(hj:j<s.q.g.us.length){b:Qr}{l:List Mu}(h:zeP s j=some (b,l)):BvOk s B (s.q.g.inp+j) true b l:=by
 obtain⟨p,hp⟩:∃p,s.q.g.us[j]?=some p:=⟨_,zFh hj⟩;have hpc:=(hs.q.g.us j p hp).can;unfold zeP at h;split at h
 .rename_i hoff;cases h;have f1:zaL s ⟨10,(j:Int),0,if zut s j=true then 0 else(bHi s j:Int)⟩=(fSc (fV (s.q.g.inp+j)) ((-1:Int):Rat),true):=by
   split
   .rename_i hd;exact zml hp hd
   .rename_i hd;rcases hoff with h1|h1
    .exact absurd h1 hd
    .obtain⟨z,hz,zu,zp,hlz,hz0,hzl⟩:=zbj h1.1;exact zh2 hp hz0 hz zu zp (by rw[<-hlz];exact h1.2)
  refine⟨ziK (by rw[f1]),⟨zeU⟩,fun w=>?_,?_⟩
  .rw[zjZ];simp only[coR,f1];rw[zfJ (zfA _),zm2,m1];simp;split <;> grind
  .rw[zjZ];simp only[zhk,f1,fSc,fV,zcJ,m1];simp
 .rename_i hoff;split at h
  .cases h
  .rename_i hh;obtain⟨z,hz,zu,zp,hlz,hz0,hzl⟩:=zbj hh;haveI:=hs.B z (zFi hz);have f2:=zi5 hp hz0 hz zu zp;have hu:0<z.v.q:=by
    have:¬z.v.q<=0:=fun e=>hoff (.inr ⟨hh,by rw[hlz];exact e⟩);grind
   split at h
   .rename_i hon;simp only[zFk,zFm] at h;obtain⟨rfl,rfl⟩:=h;have f1:zaL s ⟨8,(j:Int),if zus s j=true then 0 else(bLo s j:Int),0⟩=(zcu p (fV (s.q.g.inp+j)),true):=by
     split
     .rename_i hd;exact zo4 hp hd
     .rename_i hd;rcases hon with h1|h1
      .exact absurd h1 hd
      .obtain⟨y,hy,yu,yp,hly,hy0,hyl⟩:=zbe h1.1;exact zkR hp hy0 hy yu yp (by rw[<-hly];exact h1.2)
    rw[zcN hz];refine⟨⟨fun m hm=>?_,fun m hm=>?_,fun m hm=>?_,by simp⟩,(inferInstance:Fq z.v B).mono (by omega),fun w=>?_,?_⟩
    .simp at hm;rcases hm with rfl|rfl
     .simp only[f1]
     .rw[f2]
    .simp at hm;rcases hm with rfl|rfl <;> rw[zah] <;> decide
    .simp only[zFL,List.not_mem_nil,or_false] at hm;rcases hm with rfl|rfl <;> exact Fq.of.mono (by omega)
    .simp only[W,coR,f1,f2,zah,p1];rw[zc4 hpc (zfA _),zc4 (zhI _) hpc,zm2,zqR];simp;split <;> grind
    .simp only[W,zhk,f1,f2,zah,p1,zcu,fV,fN,m1];simp;grind
   .rename_i hon;split at h
    .cases h
    .rename_i hl;obtain⟨y,hy,yu,yp,hly,hy0,hyl⟩:=zbe hl;haveI:=hs.B y (zFi hy);have hl0:y.v.q<0:=by
      have:¬0<=y.v.q:=fun e=>hon (.inr ⟨hl,by rw[hly];exact e⟩);grind
     have f3:=zh1 hp hy0 hy yu yp hz0 hz zu zp hl0 hu;simp only[zFk,zFm] at h;obtain⟨rfl,rfl⟩:=h;rw[zcN hz,hlz,hly];have h2:0<z.v.q-y.v.q:=by grind
     have h3:0<((1:Int):Rat)/(z.v.q-y.v.q):=by
      rw[Rat.div_def];exact Rat.mul_pos (by decide) (Rat.inv_pos.2 h2)
     have h4:(z.v.q-y.v.q)*(((1:Int):Rat)/(z.v.q-y.v.q))=1:=by
      rw[Rat.div_def,p1,Rat.one_mul];exact Rat.mul_inv_cancel _ (by grind)
     refine⟨⟨fun m hm=>?_,fun m hm=>?_,fun m hm=>?_,by simp⟩,(inferInstance:Fq z.v B).mono (by omega),fun w=>?_,?_⟩
     .simp at hm;rcases hm with rfl|rfl
      .rw[f2]
      .rw[f3]
     .simp only[zFL,List.not_mem_nil,or_false] at hm;rcases hm with rfl|rfl
      .show 0<(qOf _).q;rw[zah];exact Rat.mul_pos hu h3
      .show 0<(qOf _).q;rw[zah];exact h3
     .simp only[zFL,List.not_mem_nil,or_false] at hm;rcases hm with rfl|rfl <;> exact Fq.of.mono (by omega)
     .simp only[W,coR,f2,f3,zah];rw[zc4 (zhI _) hpc,zc4 (zdf (zg8 hpc)) (zdf (zfA _)),zfJ (zg8 hpc),zc4 hpc (zhI _),zfJ (zfA _),zm2,zqR,zqR];simp only[if_true];generalize ((1:Int):Rat)/(z.v.q-y.v.q)=t at *;split <;> grind
     .simp only[W,zhk,f2,f3,zah,zcu,fSc,fV,fN,m1,if_true];generalize ((1:Int):Rat)/(z.v.q-y.v.q)=t at *;grind
theorem ztB{B:Nat}{s:Sc}(hs:SB B s){v:Nat}(hv:v<s.q.g.inp+s.q.g.us.length){up:Bool}{b:Qr}{l:List Mu}(h:zjK s v up=some (b,l)):BvOk s B v up b l:=by
 unfold zjK at h;split at h
 .rename_i hi;simp only[zFk,zFm] at h;obtain⟨rfl,rfl⟩:=h;have hok:=zmi hs hi up s.path.length (zFl _);haveI:Br (ziZ s v up).1 201:=hok.hb.br;exact⟨ziK hok.ok,Fq.of.mono (by omega),fun w=>by rw[zjZ];exact hok.co w,by rw[zjZ,zah];exact hok.wc⟩
 .rename_i hi;have e:v=s.q.g.inp+(v-s.q.g.inp):=by omega
  split at h
  .rename_i hu;subst hu;have:=zy9 hs (j:=v-s.q.g.inp) (by omega) h
   rwa [<-e] at this
  .rename_i hu;simp only[zFk] at h;have:=zCA hs (j:=v-s.q.g.inp) (by omega);rw[h,<-e] at this;have hu:up=false:=by simpa using hu
   subst hu;exact this
structure BoxOk(s:Sc)(B F:Nat)(f:Af)(ts:List Tm)(x:Rat)(l:List Mu):Prop where
 der:DerOk s (ts.length*(8*B+2*F+40)) (2*ts.length) l
 co:∀w,W (coR s w) l=coS w ts
 wc:W (zhk s) l=f.c-x
 br:Br x (F+ts.length*(B+F+210))
theorem zmN(c:Rat):(c<0->rq false (zav c) (zaz c) = -c)/\(¬c<0->rq false (zav c) (zaz c)=c):=by
 rw[zpy];exact⟨fun h=>if_pos h,fun h=>if_neg h⟩
theorem zpj(w:Nat)(t:Tm):∀ts:List Tm,coS w (ts++[t])=coS w ts+if t.1=w then t.2 else 0
 |[]=>by simp only[List.nil_append,coS];grind
 |x::ts=>by simp only[List.cons_append,coS,zpj w t ts];grind
theorem zv4{B F:Nat}{s:Sc}(hs:SB B s){f:Af}{ts:List Tm}{t:Tm}{x:Rat}{l:List Mu}(hv:t.1<s.q.g.inp+s.q.g.us.length)(ht:Br t.2 F)(h:BoxOk s B F f ts x l){c:Qr}{m:List Mu}
  (hb:zjK s t.1 (decide (t.2<0))=some (c,m)):BoxOk s B F f (ts++[t]) (x+t.2*c.q) (zaS l m (rq false (zav t.2) (zaz t.2))):=by
 have hk:=ztB hs hv hb;have hd:=h.der;have hm:=hk.step;obtain⟨a1,a2⟩:=zmN t.2;refine⟨⟨zgm (P:=fun r=>(zaL s r).2=true) hd.ok hm.ok,zfi (zeq _) hd.can hm.pos,(zei hd.bd hm.bd).mono ?_,?_⟩,fun w=>?_,?_,?_⟩
 .have:=zFs (4*B+12+(F+1)+2) hm.len;simp only[zFx,List.length_singleton,Nat.add_mul,Nat.one_mul];omega
 .have:=zdo m l (rq false (zav t.2) (zaz t.2));have:=hd.len;have:=hm.len;simp only[zFx,List.length_singleton];omega
 .rw[zf4,h.co w,hk.co w,zpj];by_cases hn:t.2<0
  .rw[a1 hn,decide_eq_true hn];simp only[if_true];split <;> grind
  .rw[a2 hn,decide_eq_false hn];simp;split <;> grind
 .rw[zf4,h.wc,hk.wc];by_cases hn:t.2<0
  .rw[a1 hn,decide_eq_true hn];simp only[if_true];grind
  .rw[a2 hn,decide_eq_false hn];simp;grind
 .haveI:=h.br;haveI:=hk.fq;refine(inferInstance:Br (x+t.2*c.q) _).mono ?_;simp only[zFx,List.length_singleton,Nat.add_mul,Nat.one_mul];omega
theorem zmC{B F:Nat}{s:Sc}(hs:SB B s){f:Af}(hf:FL F (s.q.g.inp+s.q.g.us.length) f):∀n,n<=f.ts.length->∀x l,zh7 s f n=some (x,l)->BoxOk s B F f (f.ts.take n) x l
 |0,_,x,l,h=>by
  simp only[zh7,List.take_zero,List.foldl_nil,zFk,zFm] at h;obtain⟨rfl,rfl⟩:=h;refine⟨⟨fun m hm=>by simp at hm,trivial,fun m hm=>by simp at hm,by simp⟩,fun w=>rfl,?_,hf.cb.mono (by omega)⟩;show(0:Rat)=_;grind
 |n+1,hn,x,l,h=>by
  obtain⟨t,ht⟩:∃t,f.ts[n]?=some t:=⟨_,zFh (by omega)⟩;have htm:=zFi ht;rw[zc5 ht] at h;rw[zaF ht]
  cases ho:zh7 s f n with
  |none=>rw[ho] at h;simp[zmE] at h
  |some a=>
   obtain⟨x0,l0⟩:=a;rw[ho] at h;have ih:=zmC hs hf n (by omega) x0 l0 ho;unfold zmE at h;simp only at h
   cases hbn:zjK s t.1 (decide (t.2<0)) with
   |none=>rw[hbn] at h;simp at h
   |some a=>
    obtain⟨c,m⟩:=a;rw[hbn] at h;simp only[zFk,zFm] at h;obtain⟨rfl,rfl⟩:=h;exact zv4 hs (hf.var t htm) (hf.bd t htm) ih hbn
def evN(f:Af)(v:List Rat)(n:Nat):Rat:=(f.ts.take n).foldl (fun s t=>s+t.2*(v[t.1]?).getD 0) f.c
def evM(f:Af)(v:List Rat):Rat:=evN f v f.ts.length
theorem zk1{f:Af}{v:List Rat}{n:Nat}{t:Tm}{y:Rat}(h:f.ts[n]?=some t)(hy:v[t.1]?=some y):evN f v (n+1)=evN f v n+t.2*y:=by
 unfold evN;rw[zaF h,zFJ];simp only[List.foldl_cons,List.foldl_nil,hy,Option.getD_some]
def VB(K:Nat)(v:List Rat):Prop:=∀y∈v,Br y K
theorem VB.mono{K L:Nat}{v:List Rat}(h:VB K v)(hl:K<=L):VB L v:=fun y hy=>(h y hy).mono hl
theorem zs2{f:Af}{v:List Rat}{b m K:Nat}(hf:FOk b m f)(hv:VB K v)(hm:m<=v.length):∀n,n<=f.ts.length->Br (evN f v n) (b+1+n*(K+(b+3)))
 |0,_=>by have:=hf.br;exact this.mono (by omega)
 |n+1,hn=>by
  obtain⟨t,ht⟩:∃t,f.ts[n]?=some t:=⟨_,zFh (by omega)⟩;have htm:=zFi ht;have htv:=hf.var t htm;obtain⟨y,hy⟩:∃y,v[t.1]?=some y:=⟨_,zFh (by omega)⟩;haveI:=zs2 hf hv hm n (by omega);haveI:Br t.2 (b+1):=(hf.bd t htm).br;haveI:=hv y (zFi hy);rw[zk1 ht hy];exact(inferInstance:Br (evN f v n+t.2*y) (b+1+n*(K+(b+3))+(b+1+K+1)+1)).mono (by rw[Nat.add_mul];omega)
theorem zkc{f:Af}{v:List Rat}{b m K:Nat}(hf:FOk b m f)(hv:VB K v)(hm:m<=v.length)(h7:m<=7):Br (evM f v) (b+1+7*(K+(b+3))):=
 (zs2 hf hv hm f.ts.length (zFl _)).mono (by have:=hf.len;have:=zFs (K+(b+3)) (show f.ts.length<=7 by omega);omega)
def zmM(us:List Af)(x:List Rat):Nat->List Rat
 |0=>x
 |n+1=>match us[n]? with
  |some p=>zmM us x n++[mx (evM p (zmM us x n)) 0]
  |none=>zmM us x n
theorem zep{us:List Af}{x:List Rat}{n:Nat}{p:Af}(h:us[n]?=some p):zmM us x (n+1)=zmM us x n++[mx (evM p (zmM us x n)) 0]:=by
 rw[zmM,h]
theorem zb0{us:List Af}{x:List Rat}:∀n,n<=us.length->(zmM us x n).length=x.length+n
 |0,_=>rfl
 |n+1,h=>by
  obtain⟨p,hp⟩:∃p,us[n]?=some p:=⟨_,zFh (by omega)⟩;rw[zep hp,zFx,zb0 n (by omega)];rfl
def KV:Nat->Nat
 |0=>100
 |n+1=>8*KV n+50
theorem zt3{n:Nat}(h:n<=4):KV n<=500000:=by
 have:n=0\/n=1\/n=2\/n=3\/n=4:=by omega
 rcases this with rfl|rfl|rfl|rfl|rfl <;> decide
theorem zx7:∀n,100<=KV n
 |0=>zFl _
 |n+1=>by have:=zx7 n;simp only[KV];omega
theorem zCq{y:Rat}{K:Nat}(h:Br y K):Br (mx y 0) K:=by
 by_cases h0:0<=zeo y 0
 .rw[zvi h0];exact h
 .rw[zvh h0];exact Br.zero.mono (zFn _)
theorem zhd{g:Gr}(hg:GOk g){x:List Rat}(hx:VB 100 x)(hl:x.length=g.inp):∀n,n<=g.us.length->VB (KV n) (zmM g.us x n)
 |0,_=>hx
 |n+1,h=>by
  obtain⟨p,hp⟩:∃p,g.us[n]?=some p:=⟨_,zFh (by omega)⟩;have ih:=zhd hg hx hl n (by omega);have h4:=hg.u4;have h3:=hg.i3;rw[zep hp];intro y hy;rcases zFC.1 hy with hy|hy
  .exact(ih y hy).mono (by simp only[KV];omega)
  .rw[List.mem_singleton] at hy;subst hy;have:=zkc (hg.us n p hp) ih (by rw[zb0 n (by omega),hl];exact zFl _) (by omega);exact(zCq this).mono (by simp only[KV];have:=zx7 n;omega)
def zbn(g:Gr)(x:List Rat):List Rat:=zmM g.us x g.us.length
def zva(g:Gr)(x:List Rat):List Rat:=g.us.map fun p=>evM p (zbn g x)
def zqu(r:Rg)(x:List Rat):Bool:=r.rows.all fun f=>decide (0<=sg (evM f x))
def zi0(q:Qu)(d:Dc)(x:List Rat):Bool:=
 if d.kind=3 then decide (0<=zeo ((x[d.idx]?).getD 0) d.pt) else if d.kind=4 then decide (zeo ((x[d.idx]?).getD 0) d.pt<=0)
 else if d.kind=1 then decide (0<=sg (((zva q.g x)[d.idx]?).getD 0)) else decide (sg (((zva q.g x)[d.idx]?).getD 0)<=0)
def zBj(s:Sc)(x:List Rat):Bool:=zqu s.q.r x&&s.path.all fun d=>zi0 s.q d x
theorem all_take{α:Type}{f:α->Bool}{l:List α}{i:Nat}{x:α}(hx:l[i]?=some x)(h:(l.take i).all f=true)(hp:f x=true):(l.take (i+1)).all f=true:=by
 rw[zaF hx,List.all_append,h];simp[hp]
theorem zxZ{α:Type}{f:α->Bool}{l:List α}{i:Nat}{x:α}(hx:l[i]?=some x)(hp:f x=false):l.all f=false:=by
 cases h:l.all f
 .rfl
 .have:=List.all_eq_true.1 h x (zFi hx);rw[hp] at this;simp at this
structure InB(r:Rg)(x:List Rat):Prop where
 len:x.length=r.lo.length
 bd:VB 100 x
 in_:∀(i:Nat) (y a b:Rat),x[i]?=some y->r.lo[i]?=some a->r.hi[i]?=some b->a<=y/\y<=b
def zvq(r:Rg)(l:List Nat)(i:Nat):Rat:=(r.lo[i]?).getD 0+((((l[i]?).getD 0%9:Nat):Int):Rat)/((8:Int):Rat)*((r.hi[i]?).getD 0-(r.lo[i]?).getD 0)
def zeO(r:Rg)(l:List Nat)(n:Nat):List Rat:=(List.range n).map (zvq r l)
theorem zmg(r:Rg)(l:List Nat)(n:Nat):zeO r l (n+1)=zeO r l n++[zvq r l n]:=by unfold zeO;rw[List.range_succ,List.map_append];rfl
theorem zhZ(r:Rg)(l:List Nat)(n:Nat):(zeO r l n).length=n:=by simp[zeO]
theorem zmp{k:Nat}(h:k<=8):Hb (((k:Int):Rat)/((8:Int):Rat)) 10/\0<=((k:Int):Rat)/((8:Int):Rat)/\((k:Int):Rat)/((8:Int):Rat)<=1:=by
 have:k=0\/k=1\/k=2\/k=3\/k=4\/k=5\/k=6\/k=7\/k=8:=by omega
 rcases this with rfl|rfl|rfl|rfl|rfl|rfl|rfl|rfl|rfl <;> exact⟨⟨by decide +kernel,by decide +kernel⟩,by decide +kernel,by decide +kernel⟩
theorem zsD{n:Nat}{r:Rg}(hr:ROk n r){l:List Nat}{i:Nat}{a b:Rat}(ha:r.lo[i]?=some a)(hb:r.hi[i]?=some b):Br (zvq r l i) 100/\a<=zvq r l i/\zvq r l i<=b:=by
 obtain⟨h1,h2,h3⟩:=hr.bd i a b ha hb;unfold zvq;rw[ha,hb];simp only[Option.getD_some];obtain⟨k,hk⟩:∃k,(l[i]?).getD 0%9=k:=⟨_,rfl⟩;rw[hk];obtain⟨e1,e2,e3⟩:=zmp (k:=k) (by omega);obtain⟨c,hc⟩:∃c:Rat,((k:Int):Rat)/((8:Int):Rat)=c:=⟨_,rfl⟩;rw[hc] at e1 e2 e3 ⊢;refine⟨(inferInstance:Hb (a+c*(b-a)) (3+(10+(7+3+1))+1)).br.mono (by omega),?_,?_⟩
 .have:0<=c*(b-a):=Rat.mul_nonneg e2 (by grind);grind
 .have:0<=(1-c)*(b-a):=Rat.mul_nonneg (by grind) (by grind);grind
theorem zsE{n:Nat}{r:Rg}(hr:ROk n r)(l:List Nat):InB r (zeO r l r.lo.length):=by
 refine⟨zhZ _ _ _,fun y hy=>?_,fun i y a b hy ha hb=>?_⟩
 .obtain⟨i,hi,rfl⟩:=List.mem_map.1 hy;have hi:=List.mem_range.1 hi;exact(zsD hr (zFh hi) (zFh (by rw[hr.hi,<-hr.lo];exact hi))).1
 .have:y=zvq r l i:=by
   unfold zeO at hy;rw[List.getElem?_map] at hy;have hi:i<r.lo.length:=(zFj.1 ha).1;rw[List.getElem?_range hi] at hy;simpa using hy.symm
  subst this;exact(zsD hr ha hb).2
theorem zyR{a b:Rat}:a<=mx a b/\b<=mx a b/\(mx a b=a\/mx a b=b):=by
 by_cases h:0<=zeo a b
 .rw[zvi h];exact⟨Rat.le_refl,ze8.1 h,.inl rfl⟩
 .rw[zvh h];have h2:zeo a b<0:=by omega
  exact⟨Rat.le_of_lt (ze7.1 h2),Rat.le_refl,.inr rfl⟩
theorem zfu{us:List Af}{x:List Rat}:∀n,n<=us.length->∀i,i<x.length+n->(zmM us x us.length)[i]?=(zmM us x n)[i]?:=by
 intro n hn i hi;have key:∀k,n+k<=us.length->(zmM us x (n+k))[i]?=(zmM us x n)[i]?:=by
  intro k
  induction k with
  |zero=>intro _;rfl
  |succ k ih=>
   intro hk;obtain⟨p,hp⟩:∃p,us[n+k]?=some p:=⟨_,zFh (by omega)⟩;rw[show n+(k+1)=(n+k)+1 by omega,zep hp,zFp (by rw[zb0 _ (by omega)];omega),ih (by omega)]
 have:=key (us.length-n) (by omega)
 rwa [show n+(us.length-n)=us.length by omega] at this
theorem zxv{f:Af}{v v':List Rat}{m:Nat}(hf:∀t∈f.ts,t.1<m)(h:∀i,i<m->v[i]?=v'[i]?):∀n,n<=f.ts.length->evN f v n=evN f v' n
 |0,_=>rfl
 |n+1,hn=>by
  obtain⟨t,ht⟩:∃t,f.ts[n]?=some t:=⟨_,zFh (by omega)⟩;have ih:=zxv hf h n (by omega);unfold evN at ih ⊢;rw[zaF ht,zFJ,zFJ,ih];simp only[List.foldl_cons,List.foldl_nil];rw[h t.1 (hf t (zFi ht))]
theorem zxx{f:Af}{v v':List Rat}{m:Nat}(hf:∀t∈f.ts,t.1<m)(h:∀i,i<m->v[i]?=v'[i]?):evM f v=evM f v':=zxv hf h _ (zFl _)
def Holds(g:Gr)(x:List Rat)(l:List Lm):Prop:=∀m∈l,∀p,g.us[m.unit.toNat]?=some p->(m.up=true->evM p (zbn g x)<=m.v.q)/\(m.up=false->m.v.q<=evM p (zbn g x))
theorem evS{f:Af}{v:List Rat}:∀(ts:List Tm) (c:Rat),ts.foldl (fun s t=>s+t.2*(v[t.1]?).getD 0) c=c+ts.foldl (fun s t=>s+t.2*(v[t.1]?).getD 0) 0
 |[],c=>by simp only[List.foldl_nil];grind
 |t::ts,c=>by
  rw[List.foldl_cons,List.foldl_cons,evS (f:=f) ts (c+_),evS (f:=f) ts (0+_)];grind
theorem zxU{s:Sc}(hs:SOk s){x:List Rat}(hx:InB s.q.r x)(hl:Holds s.q.g x s.lems):∀(ts:List Tm) (a:List Mu×Bool),a.2=true->(∀t∈ts,t.1<s.q.g.inp+s.q.g.us.length)->(ts.foldl (zgG s.q.g.inp s.lems) a).2=true →
  zqS s ts<=ts.foldl (fun r t=>r+t.2*((zbn s.q.g x)[t.1]?).getD 0) 0
 |[],_,_,_,_=>by simp only[zqS,List.foldl_nil];exact Rat.le_refl
 |t::ts,a,ha,hv,h=>by
  have h2:(zgG s.q.g.inp s.lems a t).2=true:=by
   cases e:(zgG s.q.g.inp s.lems a t).2
   .have:=zlm (inp:=s.q.g.inp) (lems:=s.lems) ts _ e;rw[List.foldl_cons] at h;rw[this] at h;simp at h
   .rfl
  have ih:=zxU hs hx hl ts _ h2 (fun y hy=>hv y (by simp[hy])) h;rw[List.foldl_cons,evS (f:=fZ) ts];simp only[zqS];have htv:=hv t (by simp);have hr:=hs.q.r;have hlen:(zbn s.q.g x).length=s.q.g.inp+s.q.g.us.length:=by unfold zbn;rw[zb0 _ (zFl _),hx.len,hr.lo]
  obtain⟨y,hy⟩:∃y,(zbn s.q.g x)[t.1]?=some y:=⟨_,zFh (by omega)⟩;rw[hy];simp only[Option.getD_some];have key:t.2*zxV s t<=t.2*y:=by
   unfold zxV;by_cases hin:t.1<s.q.g.inp
   .have hxy:x[t.1]?=some y:=by rw[<-hy];exact(zfu 0 (zFn _) t.1 (by rw[hx.len,hr.lo];omega)).symm
    obtain⟨c,hc⟩:∃c,s.q.r.lo[t.1]?=some c:=⟨_,zFh (by rw[hr.lo];exact hin)⟩;obtain⟨d,hd⟩:∃d,s.q.r.hi[t.1]?=some d:=⟨_,zFh (by rw[hr.hi];exact hin)⟩;obtain⟨i1,i2⟩:=hx.in_ t.1 y c d hxy hc hd;split
    .rename_i hp;unfold lb;rw[if_pos hin,hc];exact Rat.mul_le_mul_of_nonneg_left i1 (Rat.le_of_lt hp)
    .rename_i hp;unfold ub;rw[if_pos hin,hd];simp only[Option.getD_some];have:0<=(-t.2)*(d-y):=Rat.mul_nonneg (by grind) (by grind);grind
   .obtain⟨j,hj⟩:∃j,t.1=s.q.g.inp+j:=⟨t.1-s.q.g.inp,by omega⟩;have hju:j<s.q.g.us.length:=by omega
    obtain⟨p,hp⟩:∃p,s.q.g.us[j]?=some p:=⟨_,zFh hju⟩;have hyv:y=mx (evM p (zbn s.q.g x)) 0:=by
     have e1:(zbn s.q.g x)[t.1]?=(zmM s.q.g.us x (j+1))[t.1]?:=zfu (j+1) (by omega) t.1 (by rw[hx.len,hr.lo];omega);rw[hy,zep hp,List.getElem?_append_right (by rw[zb0 j (by omega),hx.len,hr.lo];omega),zb0 j (by omega),hx.len,hr.lo,hj,Nat.sub_self] at e1;simp only[List.getElem?_cons_zero,zFk] at e1;rw[e1];congr 1;exact(zxx (m:=s.q.g.inp+j) (hs.q.g.us j p hp).var (fun i hi=>zfu j (by omega) i (by rw[hx.len,hr.lo];omega))).symm
    obtain⟨k1,k2,k3⟩:=zyR (a:=evM p (zbn s.q.g x)) (b:=0);rw[<-hyv] at k1 k2 k3;split
    .rename_i hpos;unfold lb;rw[if_neg hin];have:0<=t.2*y:=Rat.mul_nonneg (Rat.le_of_lt hpos) k2;grind
    .rename_i hneg;have hub:y<=ub s t.1:=by
      unfold ub;rw[if_neg hin,show t.1-s.q.g.inp=j by omega];have hbest:(zam s.lems (j:Int)).2≠0:=by
       intro e;unfold zgG at h2;rw[if_pos ha,if_neg hneg] at h2;have:zbZ s.q.g.inp s.lems t.1=none:=by
        unfold zbZ;rw[if_neg hin,show t.1-s.q.g.inp=j by omega,if_pos (.inr e)]
       rw[this] at h2;simp at h2
      obtain⟨m,m1,m2,m3,m4,_⟩:=zbj hbest;have hh:=(hl m (zFi m1) p (by rw[m2];exact hp)).1 m3;rw[<-m4] at hh;split
      .rename_i hz;rcases hz with hz|hz
       .exact absurd hz hbest
       .rcases k3 with k3|k3
        .rw[k3];exact Rat.le_trans hh hz
        .rw[k3];exact Rat.le_refl
      .rename_i hz;have hz:¬lv s.lems (zam s.lems (j:Int)).2<=0:=fun e=>hz (.inr e);rcases k3 with k3|k3
       .rw[k3];exact hh
       .rw[k3];exact Rat.le_of_lt (Rat.not_le.1 hz)
     have:0<=(-t.2)*(ub s t.1-y):=Rat.mul_nonneg (by grind) (by grind);grind
  grind
theorem zx3{s:Sc}(hs:SOk s){x:List Rat}(hx:InB s.q.r x)(hl:Holds s.q.g x s.lems){f:Af}{n:Nat}(hf:FOk 3 n f)(hn:n<=s.q.g.inp+s.q.g.us.length)(hb:abB s f=true):abQ s f<=evM f (zbn s.q.g x):=by
 rw[zx4 hs.q (fun t ht=>zFq (hf.var t ht) hn) hb];unfold evM evN;rw[zFE,evS (f:=f)];have:=zxU hs hx hl f.ts ([],true) rfl (fun t ht=>zFq (hf.var t ht) hn) hb;grind
theorem zxs{v:List Rat}{c:Rat}:∀ts:List Tm,(scR c ts).foldl (fun s t=>s+t.2*(v[t.1]?).getD 0) 0=c*ts.foldl (fun s t=>s+t.2*(v[t.1]?).getD 0) 0
 |[]=>by simp only[scR,List.foldl_nil];grind
 |t::ts=>by
  have ih:=zxs (v:=v) (c:=c) ts;rw[List.foldl_cons,evS (f:=fZ) ts];unfold scR;split
  .rename_i h;rw[ih];have:c*(t.2*(v[t.1]?).getD 0)=0:=by
    have e:c*(t.2*(v[t.1]?).getD 0)=(t.2*c)*(v[t.1]?).getD 0:=by grind
    rw[e,h];grind
   grind
  .rw[List.foldl_cons,evS (f:=fZ) (scR c ts),ih];grind
theorem zxt(p:Af)(v:List Rat):evM (zbO p) v = -(evM p v):=by
 unfold evM evN;rw[zFE,zFE,evS (f:=fZ) _ (zbO p).c,evS (f:=fZ) _ p.c];show p.c*((-1:Int):Rat)+(scT p.ts ((-1:Int):Rat)).foldl _ 0=_;rw[zdP,zxs,m1];grind
section
variable {s:Sc}{x:List Rat}
theorem Holds.app{g:Gr}{l r:List Lm}(h1:Holds g x l)(h2:Holds g x r):Holds g x (l++r):=fun m hm=>by
 rcases zFC.1 hm with hm|hm
 .exact h1 m hm
 .exact h2 m hm
theorem zgr{g:Gr}{j:Nat}{up:Bool}{c:Rat}{pf:List Mu}{p:Af}(hp:g.us[j]?=some p)(h:(up=true->evM p (zbn g x)<=c)/\(up=false->c<=evM p (zbn g x))):Holds g x [⟨(j:Int),up,qOf c,pf⟩]:=fun m hm q hq=>by
 rw[List.mem_singleton] at hm;subst hm;have:q=p:=by
  have e:g.us[j]?=some q:=hq;rw[hp] at e;exact(Option.some.inj e).symm
 subst this;rw[zah];exact h
theorem zpz{s:Sc}(hs:SOk s){x:List Rat}(hx:InB s.q.r x)(hl:Holds s.q.g x s.lems){j:Nat}{p:Af}(hp:s.q.g.us[j]?=some p):(abB s p=true->abQ s p<=evM p (zbn s.q.g x))/\(abB s (zbO p)=true->evM p (zbn s.q.g x)≤-(abQ s (zbO p))):=by
 have hf:=zog hs.q hp;refine⟨fun h=>zx3 hs hx hl hf (zFl _) h,fun h=>?_⟩;have:=zx3 hs hx hl hf.neg (zFl _) h;have e:=zxt p (zbn s.q.g x);have:abQ s (zbO p)≤-(evM p (zbn s.q.g x)):=by rw[<-e];exact this
 grind
theorem zjS(hs:SOk s)(hx:InB s.q.r x)(hl:Holds s.q.g x s.lems){bits:Int}(h0:0<=bits)(h4:bits<=4096){j:Nat}{up:Bool}{p:Af}(hp:s.q.g.us[j]?=some p):Holds s.q.g x (zfy zAQ s bits j up p):=by
 have hj:=(zFj.1 hp).1;have hK:=zjL (j:=j) (by have:=hs.q.g.u4;omega);obtain⟨b1,b2⟩:=zpz hs hx hl hp;have hpo:=hs.q.g.us j p hp;unfold zfy;split
 .rename_i hb;rw[zFv] at hb;have hb1:=hb.1;unfold zpQ at hb1;refine zgr hp ⟨fun hu=>?_,fun hu=>?_⟩
  .rw[if_pos hu] at hb1;have hb1:abB s (zbO p)=true:=hb1;unfold zjy;rw[if_pos hu];haveI h1:=zgN hs hj hpo.neg hb1;have h2:Hb (-(abQ s (zbO p))) (KB j-4200):=Hb.neg;exact Rat.le_trans (b2 hb1) (zkA h2 (by omega) h0 h4).2
  .have hu':¬up=true:=by rw[hu];decide
   rw[if_neg hu'] at hb1;have hb1:abB s p=true:=hb1;unfold zjy;rw[if_neg hu'];exact Rat.le_trans (zkA (zgN hs hj hpo hb1) (by omega) h0 h4).1 (b1 hb1)
 .exact fun m hm=>by simp at hm
theorem zpU(hs:SOk s)(h80:s.lems.length<=80)(hx:InB s.q.r x)(hl:Holds s.q.g x s.lems){bits:Int}(h0:0<=bits)(h4:bits<=4096):∀n,n<=s.q.g.us.length->Holds s.q.g x (Rc.runN zAQ s bits n)
 |0,_=>hl
 |n+1,hn=>by
  obtain⟨p,hp⟩:∃p,s.q.g.us[n]?=some p:=⟨_,zFh (by omega)⟩;have ih:=zpU hs h80 hx hl h0 h4 n (by omega);have h1:=zgc znY hs h80 (bits:=bits) (n:=n) (by omega);have h2:=zfP znY hs h80 bits n (by omega);have h3:=zit znY hs (bits:=bits) h1 hp;have h4':=hs.q.g.u4;have hA:Holds s.q.g x (zbb zAQ s bits (Rc.runN zAQ s bits n) n p):=ih.app (zjS h1 hx ih h0 h4 (by exact hp));rw[zdh hp];exact hA.app (zjS (s:=withL s (zbb zAQ s bits (Rc.runN zAQ s bits n) n p)) (LOk.withL hs h3.1 (by omega)) hx hA h0 h4 (by exact hp))
theorem zmJ(hs:SOk s)(h80:s.lems.length<=80)(hx:InB s.q.r x)(hl:Holds s.q.g x s.lems):∀n,n<=s.q.g.us.length->Holds s.q.g x (bdN s n)
 |0,_=>hl
 |n+1,hn=>by
  obtain⟨p,hp⟩:∃p,s.q.g.us[n]?=some p:=⟨_,zFh (by omega)⟩;have ih:=zmJ hs h80 hx hl n (by omega);have h1:=znR hs h80 (n:=n) (by omega);obtain⟨b1,b2⟩:=zpz (s:=withL s (bdN s n)) h1 hx ih (by exact hp);rw[zhb hp];refine(ih.app ?_).app ?_
  .unfold bdA;split
   .rename_i hb;exact zgr hp ⟨fun h=>by simp at h,fun _=>b1 hb⟩
   .exact fun m hm=>by simp at hm
  .unfold bdB;split
   .rename_i hb;exact zgr hp ⟨fun _=>b2 hb,fun h=>by simp at h⟩
   .exact fun m hm=>by simp at hm
theorem zqq(l:List Nat){x:List Rat}(hx:InB (zhq l).q.r x):Holds (zhq l).q.g x (zhq l).lems:=by
 by_cases hp:0<zhB l%3
 .have e:zhq l=zfr (zfz l):=if_pos hp;rw[e] at hx ⊢;exact zmJ (s:=zfz l) (zkE l) (zFn _) hx (fun m hm=>by simp[zfz] at hm) _ (zFl _)
 .have e:zhq l=zfz l:=if_neg hp;rw[e];exact fun m hm=>by simp[zfz] at hm
end
theorem SOk.sb{s:Sc}(h:SOk s):SB 135001 s:=⟨h.q,h.d,h.pl,h.B,by have:=h.ll;omega⟩
theorem zEN{f g:Af}(h1:f.ts=g.ts)(h2:f.c=g.c):f=g:=by cases f;cases g;simp at *;exact⟨h1,h2⟩
theorem zm6{B:Nat}{s:Sc}(hs:SB B s){v:Nat}:∀(l:List Mu) (a:Af),CanT a.ts->CanT (l.foldl (fun a m=>zf0 a (fSc (zaL s m.r).1 m.c.q)) a).ts/\co (l.foldl (fun a m=>zf0 a (fSc (zaL s m.r).1 m.c.q)) a).ts v=co a.ts v+W (coR s v) l
 |[],a,h=>⟨h,by simp only[List.foldl_nil,W];grind⟩
 |m::l,a,h=>by
  have hc:=(zkS (r:=m.r) hs.q hs.d hs.B).can;obtain⟨i1,i2⟩:=zm6 hs (v:=v) l (zf0 a (fSc (zaL s m.r).1 m.c.q)) (zch h);refine⟨i1,?_⟩;rw[List.foldl_cons,i2,zte h (zdf hc),zfJ hc];simp only[W,coR];grind
def zqM(s:Sc)(f:Af)(x:Rat)(l:List Mu):Prop:=zmZ s l=zcu f (fN x)
theorem zxH{B:Nat}{s:Sc}(hs:SB B s){f:Af}{x:Rat}{l:List Mu}(hf:CanT f.ts)(h1:∀w,W (coR s w) l=co f.ts w)(h2:W (zhk s) l=f.c-x):zqM s f x l:=by
 refine zEN (zkh (zm6 hs (v:=0) l fZ trivial).1 (zg8 hf) (fun w=>?_)) ?_
 .have:=(zm6 hs (v:=w) l fZ trivial).2;rw[show(zmZ s l).ts=(l.foldl (fun a m=>zf0 a (fSc (zaL s m.r).1 m.c.q)) fZ).ts from rfl,this,h1,zc4 hf (zhI _),zqR];show(0:Rat)+_=_;grind
 .rw[zwW,h2];show _=f.c+x*((-1:Int):Rat);rw[m1];grind
theorem zpo{B F:Nat}{s:Sc}(hs:SB B s){f:Af}(hf:FL F (s.q.g.inp+s.q.g.us.length) f){x:Rat}{l:List Mu}(h:zlg s f=some (x,l)):BoxOk s B F f f.ts x l:=by
 have:=zmC hs hf f.ts.length (zFl _) x l h
 rwa [zFE] at this
theorem FL.len7{F:Nat}{s:Sc}(hq:QOk s.q){f:Af}(hf:FL F (s.q.g.inp+s.q.g.us.length) f):f.ts.length<=7:=by
 have:=hq.g.i3;have:=hq.g.u4;have:=(hf.fm (by omega)).len;have:=hq.g.i3;have:=hq.g.u4;omega
structure Bnd(s:Sc)(B F:Nat)(f:Af)(x:Rat)(l:List Mu):Prop where
 der:DerOk s (7*(8*B+2*F+40)) 14 l
 sum:zqM s f x l
 br:Br x (F+7*(B+F+210))
theorem znN{B F:Nat}{s:Sc}(hs:SB B s){f:Af}(hf:FL F (s.q.g.inp+s.q.g.us.length) f){x:Rat}{l:List Mu}(h:zlg s f=some (x,l)):Bnd s B F f x l:=by
 have h1:=zpo hs hf h;have h7:=hf.len7 hs.q;have h8:=zFs (8*B+2*F+40) h7;have h9:=zFs (B+F+210) h7;exact⟨⟨h1.der.ok,h1.der.can,h1.der.bd.mono h8,zFr h1.der.len (by omega)⟩,zxH hs hf.can (fun w=>by rw[h1.co w,ztf hf.can]) h1.wc,h1.br.mono (by omega)⟩
theorem ztz{B F:Nat}{s:Sc}(hs:SB B s){f:Af}(hf:FL F (s.q.g.inp+s.q.g.us.length) f):Br (zb9 s f).1 (F+7*(B+F+210)):=by
 cases h:zlg s f with
 |none=>rw[zdC h];exact Br.zero.mono (zFn _)
 |some a=>obtain⟨x,l⟩:=a;rw[zbW h];exact(znN hs hf h).br
theorem zlh{B F:Nat}{s:Sc}(hs:SB B s){f:Af}(hf:FL F (s.q.g.inp+s.q.g.us.length) f):DerOk s (7*(8*B+2*F+40)) 14 (zb9 s f).2.1:=by
 cases h:zlg s f with
 |none=>rw[zdC h];exact⟨fun m hm=>by simp at hm,trivial,fun m hm=>by simp at hm,by simp⟩
 |some a=>obtain⟨x,l⟩:=a;rw[zbW h];exact(znN hs hf h).der
theorem zv6{B F:Nat}{s:Sc}(hs:SB B s){f:Af}(hf:FL F (s.q.g.inp+s.q.g.us.length) f)(h:(zb9 s f).2.2=true):zqM s f (zb9 s f).1 (zb9 s f).2.1:=by
 cases ho:zlg s f with
 |none=>rw[zdC ho] at h;simp at h
 |some a=>obtain⟨x,l⟩:=a;rw[zbW ho];exact(znN hs hf ho).sum
def wgB(inp v:Nat):Nat:=if v<inp then 204 else KB (v-inp)+4
def wB(inp:Nat):Nat->Nat
 |0=>0
 |n+1=>wB inp n+wgB inp n
theorem zq4(inp:Nat){a b:Nat}(h:a<=b):wB inp a<=wB inp b:=by
 induction b with
 |zero=>
      have:a=0:=by omega
      subst this;exact zFl _
 |succ b ih=>
  by_cases e:a=b+1
  .subst e;exact zFl _
  .have:=ih (by omega);simp only[wB];omega
theorem zwM(inp:Nat):∀n,n<=inp->wB inp n=204*n
 |0,_=>rfl
 |n+1,h=>by have:=zwM inp n (by omega);simp only[wB,wgB,this];rw[if_pos (by omega)];omega
theorem zq3(inp:Nat):∀j,wB inp (inp+j)+5000<=204*inp+4*j+5000*3^j
 |0=>by
  have:=zwM inp inp (zFl _);show wB inp inp+5000<=_;omega
 |j+1=>by
  have:=zq3 inp j;show wB inp (inp+j)+wgB inp (inp+j)+5000<=_;unfold wgB KB;rw[if_neg (by omega),show inp+j-inp=j by omega,zFA];omega
theorem zED{s:Sc}(hs:SOk s){v:Nat}(hv:v<s.q.g.inp+s.q.g.us.length){up:Bool}{b:Qr}{l:List Mu}(h:zjK s v up=some (b,l)):Hb b.q (wgB s.q.g.inp v-4):=by
 have lvh:∀{n:Nat} {m:Lm},s.lems[n-1]?=some m->m.unit=((v-s.q.g.inp:Nat):Int)->Hb (lvr s.lems n).q (KB (v-s.q.g.inp)):=fun {n m} hm hu=>by
  rw[zcN hm];have:=(hs.l m (zFi hm)).hb;rw[hu] at this;exact this
 unfold zjK at h;unfold wgB;split at h
 .rename_i hi;simp only[zFk,zFm] at h;obtain⟨rfl,rfl⟩:=h;rw[if_pos hi,zah];exact(zmi hs.sb hi up s.path.length (zFl _)).hb
 .rename_i hi;rw[if_neg hi,Nat.add_sub_cancel];split at h
  .unfold zeP at h;split at h
   .cases h;rw[zcJ];exact Hb.z
   .split at h
    .cases h
    .rename_i hh;obtain⟨z,hz,zu,_⟩:=zbj hh;split at h
     .simp only[zFk,zFm] at h;rw[<-h.1];exact lvh hz zu
     .split at h
      .cases h
      .simp only[zFk,zFm] at h;rw[<-h.1];exact lvh hz zu
  .simp only[zFk] at h;unfold zoQ at h;split at h
   .rename_i hl;obtain⟨y,hy,yu,_⟩:=zbe hl.1;simp only[zFm] at h;rw[<-h.1];exact lvh hy yu
   .simp only[zFm] at h;rw[<-h.1,zcJ];exact Hb.z
def znr(ts:List Tm)(n:Nat):Nat:=match n with|0=>0|k+1=>match ts[k]? with|some t=>t.1+1|none=>0
theorem zxR{s:Sc}(hs:SOk s){f:Af}{m:Nat}(hm:m<=s.q.g.inp+s.q.g.us.length)(hf:FOk 3 m f):∀n,n<=f.ts.length->∀x l,zh7 s f n=some (x,l)->Hb x (4+wB s.q.g.inp (znr f.ts n))
 |0,_,x,l,h=>by
  simp only[zh7,List.take_zero,List.foldl_nil,zFk,zFm] at h;obtain⟨rfl,rfl⟩:=h;exact hf.cb.mono (by omega)
 |n+1,hn,x,l,h=>by
  obtain⟨t,ht⟩:∃t,f.ts[n]?=some t:=⟨_,zFh (by omega)⟩;have htm:=zFi ht;rw[zc5 ht] at h
  cases ho:zh7 s f n with
  |none=>rw[ho] at h;simp[zmE] at h
  |some a=>
   obtain⟨x0,l0⟩:=a;rw[ho] at h;have ih:=zxR hs hm hf n (by omega) x0 l0 ho;unfold zmE at h;simp only at h
   cases hbn:zjK s t.1 (decide (t.2<0)) with
   |none=>rw[hbn] at h;simp at h
   |some a=>
    obtain⟨c,k⟩:=a;rw[hbn] at h;simp only[zFk,zFm] at h;obtain⟨rfl,rfl⟩:=h;have hv:=hf.var t htm;haveI:=ih;haveI:=zED hs (zFq hv hm) hbn;haveI:=hf.bd t htm;have hw:znr f.ts n<=t.1:=by
     cases n with
     |zero=>exact zFn _
     |succ k=>
      obtain⟨y,hy⟩:∃y,f.ts[k]?=some y:=⟨_,zFh (by omega)⟩;simp only[znr,hy];exact hf.can.prev (by omega) ht hy
    have h1:=zq4 s.q.g.inp hw;have h2:4<=wgB s.q.g.inp t.1:=by unfold wgB;split <;> omega
    have h3:znr f.ts (n+1)=t.1+1:=by simp only[znr,ht]
    rw[h3];refine(inferInstance:Hb (x0+t.2*c.q) _).mono ?_;simp only[wB];omega
theorem zAx:zfC zb9:=by
 intro s hs j f hj hf hb
 cases ho:zlg s f with
 |none=>rw[zdC ho] at hb;simp at hb
 |some a=>
  obtain⟨x,l⟩:=a;rw[zbW ho];have h:=zxR hs (m:=s.q.g.inp+j) (by omega) hf f.ts.length (zFl _) x l ho;refine h.mono ?_;have h1:znr f.ts f.ts.length<=s.q.g.inp+j:=by
   unfold znr;split
   .exact zFn _
   .rename_i k hk;obtain⟨t,ht⟩:∃t,f.ts[k]?=some t:=⟨_,zFh (by omega)⟩;rw[ht];exact hf.var t (zFi ht)
  have h2:=zq4 s.q.g.inp h1;have h3:=zq3 s.q.g.inp j;have h4:=hs.q.g.i3;have h5:=hs.q.g.u4;have:=zEZ j;unfold KB at *;omega
def zcw(s:Sc)(x:List Rat):Prop:=∀d∈s.path,zi0 s.q d x=true
theorem zoO{s:Sc}{x:List Rat}(h:zBj s x=true):zcw s x:=by
 unfold zBj at h;rw[zFv] at h;exact List.all_eq_true.1 h.2
theorem zsH{s:Sc}(hs:SOk s){x:List Rat}(hx:InB s.q.r x)(hp:zcw s x){i:Nat}{y:Rat}(hi:i<s.q.g.inp)(hy:x[i]?=some y)(up:Bool):∀n,n<=s.path.length->if up=true then y<=(zgK s i up n).1 else(zgK s i up n).1<=y
 |0,_=>by
  have hl:=hs.q.r.lo;have hh:=hs.q.r.hi;obtain⟨a,ha⟩:∃a,s.q.r.lo[i]?=some a:=⟨_,zFh (by omega)⟩;obtain⟨c,hc⟩:∃c,s.q.r.hi[i]?=some c:=⟨_,zFh (by omega)⟩;obtain⟨h1,h2⟩:=hx.in_ i y a c hy ha hc;show if up=true then y<=(zjw s i up).1 else(zjw s i up).1<=y;unfold zjw;cases up
  .simp only[zFD,if_false,ha,Option.getD_some];exact h1
  .simp only[if_true,hc,Option.getD_some];exact h2
 |n+1,hn=>by
  have ih:=zsH hs hx hp hi hy up n (by omega);obtain⟨d,hd⟩:∃d,s.path[n]?=some d:=⟨_,zFh (by omega)⟩;have hh:=hp d (zFi hd);rw[ze1 hd];by_cases hc:d.kind=(if up=true then 4 else 3)/\d.idx=i/\(if up=true then d.pt<(zgK s i up n).1 else(zgK s i up n).1<d.pt)
  .have e:zBm up i (zgK s i up n) n d=(d.pt,⟨4,(n:Int),0,0⟩):=if_pos hc;rw[e];obtain⟨hk,hix,_⟩:=hc;unfold zi0 at hh;rw[hix,hy] at hh;cases up
   .have hk:d.kind=3:=by simpa using hk
    rw[if_pos hk] at hh;exact ze8.1 (of_decide_eq_true hh)
   .have hk:d.kind=4:=by simpa using hk
    rw[if_neg (by omega),if_pos hk] at hh;exact zg6.1 (of_decide_eq_true hh)
  .have e:zBm up i (zgK s i up n) n d=zgK s i up n:=if_neg hc;rw[e];exact ih
theorem zxJ{s:Sc}(hs:SOk s){x:List Rat}(hp:zcw s x){j:Nat}{p:Af}(hpj:s.q.g.us[j]?=some p):(zus s j=true->0<=evM p (zbn s.q.g x))/\(zut s j=true->evM p (zbn s.q.g x)<=0):=by
 have hpp:(zva s.q.g x)[j]?=some (evM p (zbn s.q.g x)):=by unfold zva;rw[List.getElem?_map,hpj];rfl
 constructor
 .intro h;have h:s.path.any (fun d=>((d.kind:Int) == ((1:Nat):Int))&&((d.idx:Int) == (j:Int)))=true:=h;obtain⟨d,hd,h1⟩:=List.any_eq_true.1 h;rw[zFv,beq_iff_eq,beq_iff_eq] at h1;have hh:=hp d hd;unfold zi0 at hh;rw[if_neg (by omega),if_neg (by omega),if_pos (by omega),show d.idx=j by omega,hpp] at hh;exact zgS.1 (of_decide_eq_true hh)
 .intro h;have h:s.path.any (fun d=>((d.kind:Int) == ((2:Nat):Int))&&((d.idx:Int) == (j:Int)))=true:=h;obtain⟨d,hd,h1⟩:=List.any_eq_true.1 h;rw[zFv,beq_iff_eq,beq_iff_eq] at h1;have hh:=hp d hd;unfold zi0 at hh;rw[if_neg (by omega),if_neg (by omega),if_neg (by omega),show d.idx=j by omega,hpp] at hh;exact zgb.1 (of_decide_eq_true hh)
theorem zpx{s:Sc}(hs:SOk s){x:List Rat}(hx:InB s.q.r x){j:Nat}{p:Af}(hp:s.q.g.us[j]?=some p):(zbn s.q.g x)[s.q.g.inp+j]?=some (mx (evM p (zbn s.q.g x)) 0):=by
 have hr:=hs.q.r;have hju:=(zFj.1 hp).1;have e1:(zbn s.q.g x)[s.q.g.inp+j]?=(zmM s.q.g.us x (j+1))[s.q.g.inp+j]?:=zfu (j+1) (by omega) _ (by rw[hx.len,hr.lo];omega);rw[e1,zep hp,List.getElem?_append_right (by rw[zb0 j (by omega),hx.len,hr.lo];omega),zb0 j (by omega),hx.len,hr.lo,Nat.sub_self];simp only[List.getElem?_cons_zero,zFk];congr 1;exact(zxx (m:=s.q.g.inp+j) (hs.q.g.us j p hp).var (fun i hi=>zfu j (by omega) i (by rw[hx.len,hr.lo];omega))).symm
theorem ztT{s:Sc}(hs:SOk s){x:List Rat}(hx:InB s.q.r x){i:Nat}(hi:i<s.q.g.inp):(zbn s.q.g x)[i]?=x[i]?:=
 zfu 0 (zFn _) i (by rw[hx.len,hs.q.r.lo];omega)
theorem zAz{s:Sc}(hs:SOk s){x:List Rat}(hx:InB s.q.r x)(hp:zcw s x)(hl:Holds s.q.g x s.lems){v:Nat}(hv:v<s.q.g.inp+s.q.g.us.length){y:Rat}(hy:(zbn s.q.g x)[v]?=some y){up:Bool}{b:Qr}{l:List Mu}
  (h:zjK s v up=some (b,l)):if up=true then y<=b.q else b.q<=y:=by
 unfold zjK at h;split at h
 .rename_i hi;simp only[zFk,zFm] at h;obtain⟨rfl,rfl⟩:=h;rw[zah];rw[ztT hs hx hi] at hy;exact zsH hs hx hp hi hy up s.path.length (zFl _)
 .rename_i hi;obtain⟨j,hj⟩:∃j,v=s.q.g.inp+j:=⟨v-s.q.g.inp,by omega⟩;subst hj;rw[show s.q.g.inp+j-s.q.g.inp=j by omega] at h;obtain⟨p,hpj⟩:∃p,s.q.g.us[j]?=some p:=⟨_,zFh (by omega)⟩;rw[zpx hs hx hpj] at hy;have hy:mx (evM p (zbn s.q.g x)) 0=y:=Option.some.inj hy;obtain⟨k1,k2,k3⟩:=zyR (a:=evM p (zbn s.q.g x)) (b:=0);rw[hy] at k1 k2 k3;obtain⟨d1,d2⟩:=zxJ hs hp hpj;have hiB:bHi s j≠0->evM p (zbn s.q.g x)<=lv s.lems (bHi s j):=fun hn=>by
   obtain⟨m,m1,m2,m3,m4,_⟩:=zbj hn;have hh:=(hl m (zFi m1) p (by rw[m2];exact hpj)).1 m3;rw[m4];exact hh
  have loB:bLo s j≠0->lv s.lems (bLo s j)<=evM p (zbn s.q.g x):=fun hn=>by
   obtain⟨m,m1,m2,m3,m4,_⟩:=zbe hn;have hh:=(hl m (zFi m1) p (by rw[m2];exact hpj)).2 m3;rw[m4];exact hh
  have hr:∀{n:Nat} {m:Lm},s.lems[n-1]?=some m->(lvr s.lems n).q=lv s.lems n:=fun {n m} hm=>by rw[zcN hm,ziS hm]
  split at h
  .rename_i hu;subst hu;simp only[if_true];unfold zeP at h;split at h
   .rename_i hoff;cases h;rw[zcJ];have:evM p (zbn s.q.g x)<=0:=by
     rcases hoff with e|⟨e1,e2⟩
     .exact d2 e
     .exact Rat.le_trans (hiB e1) e2
    rcases k3 with k3|k3
    .rw[k3];exact this
    .rw[k3];exact Rat.le_refl
   .rename_i hoff;split at h
    .cases h
    .rename_i hh;obtain⟨m,m1,_⟩:=zbj hh;have hpos:¬lv s.lems (bHi s j)<=0:=fun e=>hoff (.inr ⟨hh,e⟩);have key:y<=lv s.lems (bHi s j):=by
      rcases k3 with k3|k3
      .rw[k3];exact hiB hh
      .rw[k3];exact Rat.le_of_lt (Rat.not_le.1 hpos)
     split at h
     .simp only[zFk,zFm] at h;rw[<-h.1,hr m1];exact key
     .split at h
      .cases h
      .simp only[zFk,zFm] at h;rw[<-h.1,hr m1];exact key
  .rename_i hu;rw[if_neg hu];simp only[zFk] at h;unfold zoQ at h;split at h
   .rename_i hc;obtain⟨m,m1,_⟩:=zbe hc.1;simp only[zFm] at h;rw[<-h.1,hr m1];exact Rat.le_trans (loB hc.1) k1
   .simp only[zFm] at h;rw[<-h.1,zcJ];exact k2
theorem zxQ{s:Sc}(hs:SOk s){x:List Rat}(hx:InB s.q.r x)(hp:zcw s x)(hl:Holds s.q.g x s.lems){f:Af}(hv:∀t∈f.ts,t.1<s.q.g.inp+s.q.g.us.length):∀n,n<=f.ts.length->∀b l,zh7 s f n=some (b,l)->b<=evN f (zbn s.q.g x) n
 |0,_,b,l,h=>by
  simp only[zh7,List.take_zero,List.foldl_nil,zFk,zFm] at h;rw[<-h.1];exact Rat.le_refl
 |n+1,hn,b,l,h=>by
  obtain⟨t,ht⟩:∃t,f.ts[n]?=some t:=⟨_,zFh (by omega)⟩;have htv:=hv t (zFi ht);have hlen:(zbn s.q.g x).length=s.q.g.inp+s.q.g.us.length:=by unfold zbn;rw[zb0 _ (zFl _),hx.len,hs.q.r.lo]
  obtain⟨y,hy⟩:∃y,(zbn s.q.g x)[t.1]?=some y:=⟨_,zFh (by omega)⟩;rw[zc5 ht] at h
  cases ho:zh7 s f n with
  |none=>rw[ho] at h;simp[zmE] at h
  |some a=>
   obtain⟨x0,l0⟩:=a;rw[ho] at h;have ih:=zxQ hs hx hp hl hv n (by omega) x0 l0 ho;unfold zmE at h;simp only at h
   cases hbn:zjK s t.1 (decide (t.2<0)) with
   |none=>rw[hbn] at h;simp at h
   |some a=>
    obtain⟨c,k⟩:=a;rw[hbn] at h;simp only[zFk,zFm] at h;obtain⟨rfl,rfl⟩:=h;have hb:=zAz hs hx hp hl htv hy hbn;rw[zk1 ht hy];have key:t.2*c.q<=t.2*y:=by
     by_cases hneg:t.2<0
     .rw[decide_eq_true hneg] at hb;have hb:y<=c.q:=hb;have:0<=(-t.2)*(c.q-y):=Rat.mul_nonneg (by grind) (by grind);grind
     .rw[decide_eq_false hneg] at hb;have hb:c.q<=y:=hb;have:0<=t.2*(y-c.q):=Rat.mul_nonneg (by grind) (by grind);grind
    grind
theorem ztx{s:Sc}(hs:SOk s){x:List Rat}(hx:InB s.q.r x)(hp:zcw s x)(hl:Holds s.q.g x s.lems){f:Af}(hv:∀t∈f.ts,t.1<s.q.g.inp+s.q.g.us.length)(h:(zb9 s f).2.2=true):(zb9 s f).1<=evM f (zbn s.q.g x):=by
 cases ho:zlg s f with
 |none=>rw[zdC ho] at h;simp at h
 |some a=>
  obtain⟨b,l⟩:=a;rw[zbW ho];exact zxQ hs hx hp hl hv f.ts.length (zFl _) b l ho
structure DomD(d:Dom):Prop where
 ok:zfC d
 der:∀s:Sc,SOk s->∀f:Af,FOk 3 (s.q.g.inp+s.q.g.us.length) f->DerOk s 60000000 14 (d s f).2.1
 sum:∀s:Sc,SOk s->∀f:Af,FOk 3 (s.q.g.inp+s.q.g.us.length) f->(d s f).2.2=true->zqM s f (d s f).1 (d s f).2.1
theorem zxT:DomD zb9:=⟨zAx,fun s hs f hf=>by
  have:=zlh hs.sb hf.fl;exact⟨this.ok,this.can,this.bd.mono (by omega),this.len⟩,fun s hs f hf h=>zv6 hs.sb hf.fl h⟩
def boE:El Bool:=⟨fun b=>[Leaf.val (.bool b)],1,fun _=>rfl,fun _=>rfl⟩
@[reducible] def vwL(s:Sc):List Leaf:=[Leaf.val (.int .i64 (s.q.g.inp:Int)),afE.row s.q.g.us,afE.row s.q.g.os,ratE.row s.q.r.lo,ratE.row s.q.r.hi,afE.row s.q.r.rows,tmE.row s.q.goal.ts,Leaf.val (.bool (zaP s.q.goal.c)),zaf (zaa (zav s.q.goal.c)),zaf (zaa (zaz s.q.goal.c)),dcE.row s.path,lmE.row s.lems,boE.row (List.replicate s.path.length true)]
@[reducible] def vwV(s:Sc):V:=V.one (Leaf.rep (zaV (vwL s)))
theorem zrX{n i:Nat}(h:i<n):(List.replicate n true)[i]?=some true:=by rw[List.getElem?_replicate,if_pos h]
theorem zu3(n:Nat):List.replicate n true++[true]=List.replicate (n+1) true:=by rw[<-List.replicate_succ']
theorem ziR(l:List Lm)(n:Nat):(lvr l n).q=lv l n:=by
 unfold lvr lv;split <;> rename_i h
 .rw[h]
 .rw[h];exact zcJ
theorem zmb{B:Nat}{l:List Lm}(h:∀m∈l,Fq m.v B)(n:Nat):Fq (lvr l n) B:=by
 unfold lvr;split
 .rename_i m hm;exact h m (zFi hm)
 .exact⟨zeU⟩
def zhF(s:Sc)(j:Nat):Qr×List Mu×Bool:=match zeP s j with|some (b,l)=>(b,l,true)|none=>(qZero,[],false)
def zbM(s:Sc)(v:Nat)(up:Bool):Qr×List Mu×Bool:=match zjK s v up with|some (b,l)=>(b,l,true)|none=>(qZero,[],false)
def zaW(s:Sc)(j:Nat):Bool:=zut s j||(decide (bHi s j≠0)&&decide (lv s.lems (bHi s j)<=0))
def zcd(s:Sc)(j:Nat):Bool:=zus s j||(decide (bLo s j≠0)&&decide (0<=lv s.lems (bLo s j)))
theorem zbp{s:Sc}{j:Nat}:zaW s j=true↔(zut s j=true\/(bHi s j≠0/\lv s.lems (bHi s j)<=0)):=by
 unfold zaW;rw[Bool.or_eq_true,zFv,decide_eq_true_iff,decide_eq_true_iff]
theorem zca{s:Sc}{j:Nat}:zcd s j=true↔(zus s j=true\/(bLo s j≠0/\0<=lv s.lems (bLo s j))):=by
 unfold zcd;rw[Bool.or_eq_true,zFv,decide_eq_true_iff,decide_eq_true_iff]
section
variable {s:Sc}{j:Nat}
@[reducible] def zcx(s:Sc)(j:Nat):Rw:=⟨10,(j:Int),0,if zut s j=true then 0 else(bHi s j:Int)⟩
@[reducible] def zdk(s:Sc)(j:Nat):Rw:=⟨8,(j:Int),if zus s j=true then 0 else(bLo s j:Int),0⟩
theorem zhW(h:zut s j=true):zcx s j=⟨10,(j:Int),0,0⟩:=by unfold zcx;rw[if_pos h]
theorem zfh(h:zut s j=false):zcx s j=⟨10,(j:Int),0,(bHi s j:Int)⟩:=by unfold zcx;rw[if_neg (by rw[h];decide)]
theorem zkI(h:zus s j=true):zdk s j=⟨8,(j:Int),0,0⟩:=by unfold zdk;rw[if_pos h]
theorem zg0(h:zus s j=false):zdk s j=⟨8,(j:Int),(bLo s j:Int),0⟩:=by unfold zdk;rw[if_neg (by rw[h];decide)]
theorem zi1(h:zaW s j=true):zeP s j=some (qZero,zj0 (zcx s j)):=by
 unfold zeP;rw[if_pos (zbp.1 h)]
theorem zo0(h:zaW s j=false)(h1:bHi s j=0):zeP s j=none:=by
 unfold zeP;rw[if_neg (fun e=>by rw[zbp.2 e] at h;cases h),if_pos h1]
theorem zkN(h:zaW s j=false)(h1:bHi s j≠0)(h2:zcd s j=true):zeP s j=some (lvr s.lems (bHi s j),[⟨zdk s j,qOf ((1:Int):Rat)⟩,⟨⟨12,(j:Int),0,(bHi s j:Int)⟩,qOf ((1:Int):Rat)⟩]):=by
 unfold zeP;rw[if_neg (fun e=>by rw[zbp.2 e] at h;cases h),if_neg h1,if_pos (zca.1 h2)]
theorem zoZ(h:zaW s j=false)(h1:bHi s j≠0)(h2:zcd s j=false)(h3:bLo s j=0):zeP s j=none:=by
 unfold zeP;rw[if_neg (fun e=>by rw[zbp.2 e] at h;cases h),if_neg h1,if_neg (fun e=>by rw[zca.2 e] at h2;cases h2),if_pos h3]
theorem zmj(h:zaW s j=false)(h1:bHi s j≠0)(h2:zcd s j=false)(h3:bLo s j≠0):zeP s j=some (lvr s.lems (bHi s j),[⟨⟨12,(j:Int),0,(bHi s j:Int)⟩,qOf ((lvr s.lems (bHi s j)).q*(((1:Int):Rat)/((lvr s.lems (bHi s j)).q-(lvr s.lems (bLo s j)).q)))⟩,⟨⟨13,(j:Int),(bLo s j:Int),(bHi s j:Int)⟩,qOf (((1:Int):Rat)/((lvr s.lems (bHi s j)).q-(lvr s.lems (bLo s j)).q))⟩]):=by
 rw[ziR,ziR];unfold zeP;rw[if_neg (fun e=>by rw[zbp.2 e] at h;cases h),if_neg h1,if_neg (fun e=>by rw[zca.2 e] at h2;cases h2),if_neg h3]
theorem zct{b:Qr}{l:List Mu}(h:zeP s j=some (b,l)):zhF s j=(b,l,true):=by unfold zhF;rw[h]
theorem zfo(h:zeP s j=none):zhF s j=(qZero,[],false):=by unfold zhF;rw[h]
theorem zwS(h:zaW s j=false)(h1:bHi s j≠0)(h2:zcd s j=false)(h3:bLo s j≠0):(lvr s.lems (bHi s j)).q-(lvr s.lems (bLo s j)).q≠0:=by
 rw[ziR,ziR];have a1:¬lv s.lems (bHi s j)<=0:=fun e=>by rw[zbp.2 (.inr ⟨h1,e⟩)] at h;cases h
 have a2:¬0<=lv s.lems (bLo s j):=fun e=>by rw[zca.2 (.inr ⟨h3,e⟩)] at h2;cases h2
 grind
theorem ztF{v:Nat}{up:Bool}(h:v<s.q.g.inp):zbM s v up=(qOf (ziZ s v up).1,zj0 (ziZ s v up).2,true):=by unfold zbM zjK;rw[if_pos h]
theorem ztD{v:Nat}(h:¬v<s.q.g.inp):zbM s v true=zhF s (v-s.q.g.inp):=by unfold zbM zjK zhF;rw[if_neg h,if_pos rfl]
theorem ztE{v:Nat}(h:¬v<s.q.g.inp):zbM s v false=((zoQ s (v-s.q.g.inp)).1,(zoQ s (v-s.q.g.inp)).2,true):=by unfold zbM zjK;rw[if_neg h,if_neg (by decide)]
theorem zpq{v:Nat}{up:Bool}(h:(zbM s v up).2.2=true):zjK s v up=some ((zbM s v up).1,(zbM s v up).2.1):=by
 unfold zbM at *;split at h
 .rename_i b l e;rw[e]
 .cases h
theorem zxW{v:Nat}{up:Bool}(h:(zbM s v up).2.2=false):zjK s v up=none:=by
 unfold zbM at *;split at h
 .cases h
 .rename_i e;rw[e]
theorem zxg(h:bLo s j≠0/\0<lv s.lems (bLo s j)):zoQ s j=(lvr s.lems (bLo s j),[⟨⟨6,(j:Int),0,0⟩,qOf ((1:Int):Rat)⟩,⟨⟨11,(j:Int),(bLo s j:Int),0⟩,qOf ((1:Int):Rat)⟩]):=if_pos h
theorem zoP(h:¬(bLo s j≠0/\0<lv s.lems (bLo s j))):zoQ s j=(qZero,zj0 ⟨5,(j:Int),0,0⟩):=if_neg h
end
theorem zxm{s:Sc}{i n:Nat}{up:Bool}{d:Dc}(hd:s.path[n]?=some d)(h:d.kind=(if up=true then 4 else 3)/\d.idx=i/\(if up=true then d.pt<(zgK s i up n).1 else(zgK s i up n).1<d.pt)):zgK s i up (n+1)=(d.pt,⟨4,(n:Int),0,0⟩):=by rw[ze1 hd];exact if_pos h
theorem zj9{s:Sc}{i n:Nat}{up:Bool}{d:Dc}(hd:s.path[n]?=some d)(h:¬(d.kind=(if up=true then 4 else 3)/\d.idx=i/\(if up=true then d.pt<(zgK s i up n).1 else(zgK s i up n).1<d.pt))):zgK s i up (n+1)=zgK s i up n:=by rw[ze1 hd];exact if_neg h
theorem zsJ{B:Nat}{s:Sc}(hs:SB B s){i:Nat}(hi:i<s.q.g.inp)(up:Bool){n:Nat}(hn:n<=s.path.length):Br (zgK s i up n).1 201:=(zmi hs hi up n hn).hb.br
@[reducible] def zc6(c:Rat):Rat:=mx c (-c)
theorem zdE(c:Rat):zc6 c=rq false (zav c) (zaz c):=by
 obtain⟨a1,a2⟩:=zmN c;by_cases h:c<0
 .rw[a1 h];unfold zc6 mx;split <;> grind
 .rw[a2 h];unfold zc6 mx;split <;> grind
def zBt(s:Sc)(a:Option (Rat×List Mu))(t:Tm):Option (Rat×List Mu):=
 match a with
 |none=>none
 |some (x,l)=>match zjK s t.1 (decide (t.2<0)) with
  |none=>none
  |some (b,m)=>some (x+t.2*b.q,l++zou (zc6 t.2) m)
def zts(s:Sc)(f:Af)(n:Nat):Option (Rat×List Mu):=(f.ts.take n).foldl (zBt s) (some (f.c,[]))
theorem zto{s:Sc}{f:Af}{n:Nat}{t:Tm}(h:f.ts[n]?=some t):zts s f (n+1)=zBt s (zts s f n) t:=by
 unfold zts;rw[zaF h,zFJ];rfl
theorem ztt{s:Sc}{a:Option (Rat×List Mu)}{t:Tm}:(zBt s a t).map (fun p=>(p.1,zcA p.2))=zmE s (a.map fun p=>(p.1,zcA p.2)) t:=by
 cases a with
 |none=>rfl
 |some p=>
  obtain⟨x,l⟩:=p;unfold zBt zmE;simp only[Option.map_some]
  cases zjK s t.1 (decide (t.2<0)) with
  |none=>rfl
  |some b=>simp only[Option.map_some];rw[zvU,zdE]
theorem ztr{s:Sc}{f:Af}(n:Nat):(zts s f n).map (fun p=>(p.1,zcA p.2))=zh7 s f n:=by
 unfold zts zh7;have:∀(ts:List Tm) (a:Option (Rat×List Mu)),(ts.foldl (zBt s) a).map (fun p=>(p.1,zcA p.2))=ts.foldl (zmE s) (a.map fun p=>(p.1,zcA p.2)):=by
  intro ts
  induction ts with
  |nil=>intro a;rfl
  |cons t ts ih=>intro a;rw[List.foldl_cons,List.foldl_cons,ih,ztt]
 exact this _ _
structure PlOk(B F n:Nat)(l:List Mu):Prop where
 len:l.length<=2*n
 mb:MB (4*B+F+20) l
 cof:zju l
theorem zEP(c:Rat):0<=zc6 c:=by rw[zdE];exact zeq c
theorem znX{c:Rat}{B:Nat}(h:Br c B):Br (zc6 c) (B+1):=by
 unfold zc6 mx;split
 .exact h.mono (by omega)
 .haveI:=h;exact(inferInstance:Br (-c) _).mono (by omega)
theorem zrr{c:Rat}{m:Mu}{l:List Mu}(h:m∈zou c l):∃x∈l,m=⟨x.r,qOf (c*x.c.q)⟩:=by
 obtain⟨x,hx,rfl⟩:=List.mem_map.1 h;exact⟨x,hx,rfl⟩
theorem PlOk.next{B F n:Nat}{l:List Mu}(h:PlOk B F n l){s:Sc}{m:List Mu}(hm:StepOk s (4*B+12) m){c:Rat}(hc:Br c F):PlOk B F (n+1) (l++zou (zc6 c) m):=by
 refine⟨?_,fun x hx=>?_,fun x hx=>?_⟩
 .have h1:=h.len;have h2:=hm.len;simp only[zFx,zou,List.length_map];omega
 .rcases zFC.1 hx with hx|hx
  .exact h.mb x hx
  .obtain⟨y,hy,rfl⟩:=zrr hx;haveI:=znX hc;haveI:=hm.bd y hy;exact(Fq.of (r:=zc6 c*y.c.q)).mono (by omega)
 .rcases zFC.1 hx with hx|hx
  .exact h.cof x hx
  .obtain⟨y,hy,rfl⟩:=zrr hx;show qOf _=qOf (qOf _).q/\0<=(qOf _).q;rw[zah];exact⟨rfl,Rat.mul_nonneg (zEP c) (Rat.le_of_lt (hm.pos y hy))⟩
theorem zuR{c:Rat}{m:List Mu}{k:Nat}{x:Mu}(h:m[k]?=some x):zou c (m.take k)++[⟨x.r,qOf (c*x.c.q)⟩]=zou c (m.take (k+1)):=by
 unfold zou;rw[zaF h,List.map_append];rfl
theorem zlf{s:Sc}{f:Af}{n:Nat}{x:Rat}{l:List Mu}(h:zts s f n=some (x,l)):zh7 s f n=some (x,zcA l):=by rw[<-ztr,h];rfl
theorem ztq{s:Sc}{f:Af}{n:Nat}{t:Tm}{x:Rat}{l:List Mu}(ht:f.ts[n]?=some t)(h:zts s f n=some (x,l))(hb:(zbM s t.1 (decide (t.2<0))).2.2=true) :
  zts s f (n+1)=some (x+t.2*(zbM s t.1 (decide (t.2<0))).1.q,l++zou (zc6 t.2) (zbM s t.1 (decide (t.2<0))).2.1):=by
 rw[zto ht,h];unfold zBt;simp only[zpq hb]
theorem ztp{s:Sc}{f:Af}{n:Nat}{t:Tm}{x:Rat}{l:List Mu}(ht:f.ts[n]?=some t)(h:zts s f n=some (x,l))(hb:(zbM s t.1 (decide (t.2<0))).2.2=false):zb9 s f=(0,[],false):=by
 refine zdC (zmF (n:=n+1) ?_);rw[zc5 ht,zlf h];unfold zmE;simp only[zxW hb]
theorem zv5{s:Sc}{f:Af}{x:Rat}{l:List Mu}(h:zts s f f.ts.length=some (x,l)):zb9 s f=(x,zcA l,true):=zbW (zlf h)
theorem ztv{s:Sc}{f:Af}{n:Nat}{t:Tm}{x:Rat}{l:List Mu}(ht:f.ts[n]?=some t)(h:zh7 s f n=some (x,l))(hb:(zbM s t.1 (decide (t.2<0))).2.2=true) :
  zh7 s f (n+1)=some (x+t.2*(zbM s t.1 (decide (t.2<0))).1.q,zaS l (zbM s t.1 (decide (t.2<0))).2.1 (rq false (zav t.2) (zaz t.2))):=by
 rw[zc5 ht,h];unfold zmE;simp only[zpq hb]
theorem ztu{s:Sc}{f:Af}{n:Nat}{t:Tm}{x:Rat}{l:List Mu}(ht:f.ts[n]?=some t)(h:zh7 s f n=some (x,l))(hb:(zbM s t.1 (decide (t.2<0))).2.2=false):zb9 s f=(0,[],false):=by
 refine zdC (zmF (n:=n+1) ?_);rw[zc5 ht,h];unfold zmE;simp only[zxW hb]
theorem zxl{up:Bool}{a b:Rat}:zeo a b=(if up=true then(-1:Int) else 1)↔(if up=true then a<b else b<a):=by
 cases up
 .simp only[zFD,if_false];exact zk7
 .simp only[if_true];exact zk6
theorem PlOk.start{B F:Nat}:PlOk B F 0 []:=⟨by simp,fun m hm=>by simp at hm,fun m hm=>by simp at hm⟩
@[reducible] def bdL(x:Rat)(l:List Mu)(b:Bool):List Leaf:=[Leaf.val (.bool (zaP x)),zaf (zaa (zav x)),zaf (zaa (zaz x)),muE.row l,Leaf.val (.bool b)]
@[reducible] def bdV(x:Rat)(l:List Mu)(b:Bool):V:=V.agg (bdL x l b)
theorem bdZ:D.agg [Leaf.val (.bool false),nilL,nilL,nilL,Leaf.val (.bool false)]=D.agg (bdL 0 [] false):=by
 unfold bdL;rw[zeC Rat.le_refl,zbq,zbr,zai];rfl
theorem zsI{up:Bool}{a b:Rat}:0<(if up=true then(-1:Int) else 1)*zeo a b↔(if up=true then a<b else b<a):=by
 cases up
 .simp only[zFD,if_false,Int.one_mul];exact zeD
 .simp only[if_true];rw[<-ze7];omega
theorem zCJ{up:Bool}{a b:Rat}:-1<=(if up=true then(-1:Int) else 1)*zeo a b/\(if up=true then(-1:Int) else 1)*zeo a b<=1:=by
 have h:zeo a b = -1\/zeo a b=0\/zeo a b=1:=by unfold zeo;(repeat' split) <;> decide
 cases up
 .simp only[zFD,if_false,Int.one_mul];omega
 .simp only[if_true];omega
end Rc
namespace Go.Proofs.YtjeiacoegppoiaaGreatDoor
open Go Go.RowKit Rc
theorem zFb(x:Qr)(r:Rat)(hr:x.q=r)(hfx:Fit 200000000000 x)(y:Qr)(s:Rat)(hs:y.q=s)(hfy:Fit 200000000000 y):Ctr Tryz.prog 114 [qV x,qV y] (R.one (qV (qOf (r-s)))):=by
 refine bd_ Tryz.func114 Tryz.ntmps114 rfl (fun w0 A0=>?_);haveI ixn:Bn (val x.n) 200000000000:=Bn.val x.hn hfx.n;haveI ixd:Bn (val x.d) 200000000000:=Bn.val x.hd hfx.d;haveI iyn:Bn (val y.n) 200000000000:=Bn.val y.hn hfy.n;haveI iyd:Bn (val y.d) 200000000000:=Bn.val y.hd hfy.d;haveI ir:Br r 200000000000:=hr ▸ Br.q hfx;haveI is:Br s 200000000000:=hs ▸ Br.q hfy;refine zc 20 rfl (tc_ zsY rfl (zB5 x (r) hr (hfx.mono (by omega)) (Qr.mk (!y.neg) y.n y.d y.hn y.hd) (-(s)) (zr7 hs) (Fit.neg (hfy.mono (by omega)))) (zl 3 rfl ?_));exact r1_ hq_ rfl (by rw[Rat.sub_eq_add_neg] <;> rfl)
theorem qdiv(x:Qr)(r:Rat)(hr:x.q=r)(hfx:Fit 1000000000000 x)(y:Qr)(s:Rat)(hs:y.q=s)(hfy:Fit 1000000000000 y)(hs0:s≠0):Ctr Tryz.prog 113 [qV x,qV y] (R.tup [qV (qOf (r/s)),V.one (Leaf.val (.int .i64 0))]):=by
 refine bd_ Tryz.func113 Tryz.ntmps113 rfl (fun w0 A0=>?_);haveI ixn:Bn (val x.n) 1000000000000:=Bn.val x.hn hfx.n;haveI ixd:Bn (val x.d) 1000000000000:=Bn.val x.hd hfx.d;haveI iyn:Bn (val y.n) 1000000000000:=Bn.val y.hn hfy.n;haveI iyd:Bn (val y.d) 1000000000000:=Bn.val y.hd hfy.d;have hyn:val y.n≠0:=fun e=>hs0 (by rw[<-hs];unfold Qr.q;rw[zfe];exact e);refine zc 12 rfl (tc_ zjF rfl (zd4 y (s) hs (hfy.mono (by omega))) (tq_ rfl (eqF rfl (zio hs0)) (zl 6 rfl (dr_ 0 [(16,2)] [2] (dz 4 rfl (kq_ rfl (zbR rfl rfl rfl un4 (d:=_) (rfl)) (dz 3 rfl (kc_ zjI rfl (zfE y (hfy.mono (by omega))) ?_))))))));refine kc_ zqn rfl (zp6 x.n x.hn (hfx.mono (by omega)).n (dl y.d) (zcV y.hd) (zfI hfy.d (by omega)) (val x.n) rfl (dn (val y.d)) (zfD _)) (dz 1 rfl (kc_ zjI rfl (zfE x (hfx.mono (by omega))) (dz 2 rfl (kc_ zqn rfl (zp6 (dl x.d) (zcV x.hd) (zfI hfx.d (by omega)) y.n y.hn (hfy.mono (by omega)).n (dn (val x.d)) (zfD _) (val y.n) rfl) ?_))));refine kc_ zsV rfl (zr8 (x.neg != y.neg) (zaa ((val x.n)*(dn (val y.d)))) (zaa ((dn (val x.d))*(val y.n))) (zab _) (zab _) (Bn.use (by omega)) (Bn.use (by omega)) ((val x.n)*(dn (val y.d))) ((dn (val x.d))*(val y.n)) (zac _) (zac _) (Nat.mul_ne_zero (zdK _) hyn)) (dz 2 rfl (zae (za 1 rfl ?_)));exact r2_ hq_ rfl (by subst hr;subst hs;rw[zw1 _ _ _ _ _ _ hyn] <;> rfl)
theorem zwJ(x:Rat)(h:x=0):Ctr Tryz.prog 245 [V.agg (qL (x))] (R.one (V.one (Leaf.val (.bool true)))):=by
 refine bd_ Tryz.func245 Tryz.ntmps245 rfl (fun w0 A0=>?_);refine zc 11 rfl (is_ true rfl (by rw[h];rfl) (zl 3 rfl (tq_ rfl (jln rfl) (tq_ rfl (eqT rfl (by rw[h,zbq,zai];rfl)) (zl 4 rfl (tq_ rfl (jln rfl) (tq_ rfl (eqT rfl (by rw[h,zbr,zai];rfl)) (zl 4 rfl ?_))))))));exact r1_ hq_ rfl rfl
theorem zEc(q:Qu)(d:Dc){b:Nat}(hd:DOk b q d)(hb:b<=1000000):Ctr Tryz.prog 222 [quV q,dcV d] (R.one (V.one (Leaf.val (.bool true)))):=by
 refine bd_ Tryz.func222 Tryz.ntmps222 rfl (fun w0 A0=>?_);obtain⟨hk,hbt⟩:=hd;haveI:=hbt.br;have hkk:d.kind=1\/d.kind=2\/d.kind=3\/d.kind=4:=by rcases hk with⟨h,_⟩|⟨h,_⟩ <;> omega
 refine zc 18 rfl ?_;by_cases h1:d.kind=1
 .refine tq_ rfl (eqT rfl) (zl 8 rfl ?_);have hp0:d.idx<q.g.us.length/\d.pt=0:=by rcases hk with⟨_,h⟩|⟨h,_⟩ <;> first|exact h|omega
  refine zc 3 rfl (tq_ rfl (geT rfl) (zl 6 rfl (tq_ rfl (jln rfl) (tq_ rfl (ltT rfl) (zl 4 rfl (tc_ zDE rfl (zwJ d.pt hp0.2) (zl 4 rfl ?_)))))));exact r1_ hq_ rfl rfl
 .refine tq_ rfl (eqF rfl) (zl 5 rfl ?_);by_cases h2:d.kind=2
  .refine tq_ rfl (eqT rfl) (zl 5 rfl ?_);have hp0:d.idx<q.g.us.length/\d.pt=0:=by rcases hk with⟨_,h⟩|⟨h,_⟩ <;> first|exact h|omega
   refine zc 3 rfl (tq_ rfl (geT rfl) (zl 6 rfl (tq_ rfl (jln rfl) (tq_ rfl (ltT rfl) (zl 4 rfl (tc_ zDE rfl (zwJ d.pt hp0.2) (zl 4 rfl ?_)))))));exact r1_ hq_ rfl rfl
  .refine tq_ rfl (eqF rfl) (zl 7 rfl ?_);by_cases h3:d.kind=3
   .refine tq_ rfl (eqT rfl) (zl 8 rfl ?_);have hp0:d.idx<q.g.inp:=by rcases hk with⟨h,_⟩|⟨_,h⟩ <;> first|exact h|omega
    refine zc 3 rfl (tq_ rfl (geT rfl) (zl 6 rfl (tq_ rfl (ltT rfl) (zl 4 rfl (tc_ znA rfl (ziF (qOf (d.pt)) (d.pt) (zah _) (Br.use (by omega))) (is_ true rfl (zek _) (zl 4 rfl ?_)))))));exact r1_ hq_ rfl rfl
   .refine tq_ rfl (eqF rfl) (zl 5 rfl (tq_ rfl (eqT rfl) (zl 5 rfl ?_)));have hp0:d.idx<q.g.inp:=by rcases hk with⟨h,_⟩|⟨_,h⟩ <;> first|exact h|omega
    refine zc 3 rfl (tq_ rfl (geT rfl) (zl 6 rfl (tq_ rfl (ltT rfl) (zl 4 rfl (tc_ znA rfl (ziF (qOf (d.pt)) (d.pt) (zah _) (Br.use (by omega))) (is_ true rfl (zek _) (zl 4 rfl ?_)))))));exact r1_ hq_ rfl rfl
theorem zxr(q:Qu)(hq:QOk q)(d:Dc){b:Nat}(hd:DOk b q d)(hb:b<=1000000):Ctr Tryz.prog 176 [quV q,dcV d] (R.one (V.one (Leaf.val (.bool true)))):=by
 refine bd_ Tryz.func176 Tryz.ntmps176 rfl (fun w0 A0=>?_);refine zc 10 rfl (tc_ zFe rfl (zhT q hq) (zl 3 rfl (tc_ fn222 rfl (zEc q d hd hb) (zl 4 rfl ?_))));exact r1_ hq_ rfl rfl
theorem zsN(g:Gr)(hg:GOk g):Ctr Tryz.prog 50 [grV g] (R.one (V.one (Leaf.val (.int .i64 (((g.inp+g.us.length:Nat):Int)))))):=by
 refine bd_ Tryz.func50 Tryz.ntmps50 rfl (fun w0 A0=>?_);have h1:=hg.i1;have h2:=hg.i3;have h3:=hg.u4;have h4:=hg.o1;have h5:=hg.o3;refine zc 10 rfl (tc_ zEb rfl (zo1 g (by assumption)) (zl 12 rfl (tq_ rfl (jln rfl) (tq_ rfl (jad (g.inp+g.us.length) rfl) (zl 3 rfl ?_)))));exact r1_ hq_ rfl rfl
theorem zCC(s:Sc)(hs:SB 135001 s):Ctr Tryz.prog 131 [scV s] (R.tup [vwV s,V.one (Leaf.val (.bool true))]):=by
 refine bd_ Tryz.func131 Tryz.ntmps131 rfl (fun w0 A0=>?_);have hB:=hs.B;have hq:=hs.q;have hd:=hs.d;have hpl:=hs.pl;have hl:=hs.ll;have hg:=hq.g;have hr:=hq.r;have hlo:=hr.lo;have hhi:=hr.hi;have h1:=hg.i1;have h2:=hg.i3;have h3:=hg.u4;have h4:=hg.o1;have h5:=hg.o3;refine zc 12 rfl (tc_ zFe rfl (zhT s.q hq) (zl 9 rfl (tq_ rfl (zeG rfl tx224 rfl zB7 rfl) (zl 6 rfl ?_))));refine zcW 1 4 1 (ls':=[Leaf.val (.int .i64 ((s.q.g.inp:Nat):Int)),El.row afE s.q.g.us,El.row afE s.q.g.os,El.row ratE s.q.r.lo,El.row ratE s.q.r.hi,El.row afE s.q.r.rows,El.row tmE s.q.goal.ts,Leaf.val (.bool (zaP s.q.goal.c)),zaf (zaa (zav s.q.goal.c)),zaf (zaa (zaz s.q.goal.c)),El.row dcE s.path,El.row lmE s.lems,Leaf.own 2 0]) rfl rfl rfl ⟨.inl rfl,.inl rfl,.inl rfl,.inl rfl,.inl rfl,.inl rfl,.inl rfl,.inl rfl,.inl rfl,.inl rfl,.inl rfl,.inl rfl,.inr ⟨rfl,rfl⟩,trivial⟩ ?_;refine zc 3 rfl (tq_ rfl (jln rfl) (zl 4 rfl ?_));refine zbo (fun m Γ H=>∃(i:Nat) (n:Nat) (out:List Bool),s.path.length-i=m/\Γ=[(1,some (D.ptr 0 0)),(4,some (D.ptr 1 0)),(15,some (D.v (V.one (El.row dcE s.path)))),(16,some (D.val (.int .i64 ((s.path.length:Nat):Int)))),(17,some (D.val (.int .i64 (i:Int))))]/\H=[hb_ 43 (scL s),hb_ 224 (quL s.q++[El.row dcE s.path,El.row lmE s.lems,Leaf.own 2 n]),hgr 4 1 boE out n]/\i<=s.path.length/\out=List.replicate i true) ⟨0,0,[],rfl,rfl,rfl,zFn _,rfl⟩ rfl ?_;rintro m Γ H ⟨i,n,out,rfl,rfl,rfl,hi0,hout⟩;refine zc 2 rfl ?_;by_cases hi:i<s.path.length
 .refine tq_ rfl (ltT rfl) (zl 9 rfl ?_);obtain⟨d,hdx⟩:∃d,s.path[i]?=some d:=⟨_,zFh hi⟩;have hdo:=hd d (zFi hdx);have hol:out.length<=100:=by rw[hout,List.length_replicate];omega
  refine zc 1 rfl (tq_ rfl (jix i hdx rfl) (tq_ rfl (jlr rfl) (zl 4 rfl (dr_ 0 [(10,2),(13,1)] [2,1] (dz 4 rfl (kp_ [2] rfl (jld rfl) (dz 3 rfl (kc_ zDT rfl (zxr s.q hq d hdo (by omega)) (ke_ rfl (fun _=>zad rfl zBA ty4 tz4 rfl (by decide) (by decide) rfl (by decide) rfl) ?_)))))))));refine ki_ 2 rfl (dap true rfl rfl) (dz 3 rfl (zae (za 3 rfl (tq_ rfl (jad (i+1) rfl) (zl 2 rfl (zal 3 (zaJ 3 rfl ?_)))))));exact nx_ ⟨i+1,_,_,rfl,rfl,rfl,hi,(by rw[hout,zu3])⟩ rfl
 .refine tq_ rfl (ltF rfl) (zl 10 rfl ?_);have hie:i=s.path.length:=by omega
  rw[hie] at hout;refine zcD 1 (ls':=[Leaf.val (.int .i64 ((s.q.g.inp:Nat):Int)),El.row afE s.q.g.us,El.row afE s.q.g.os,El.row ratE s.q.r.lo,El.row ratE s.q.r.hi,El.row afE s.q.r.rows,El.row tmE s.q.goal.ts,Leaf.val (.bool (zaP s.q.goal.c)),zaf (zaa (zav s.q.goal.c)),zaf (zaa (zaz s.q.goal.c)),El.row dcE s.path,El.row lmE s.lems,El.row boE out]) rfl rfl (RowAt.ofE boE out rfl (by decide)) ⟨.inl rfl,.inl rfl,.inl rfl,.inl rfl,.inl rfl,.inl rfl,.inl rfl,.inl rfl,.inl rfl,.inl rfl,.inl rfl,.inl rfl,.inr ⟨rfl,rfl⟩,trivial⟩ ?_;refine zc 1 rfl (zjo 4 rfl rfl rfl (zl 5 rfl ?_));exact r2_ hq_ rfl (by rw[hout])
theorem zdS(r:Rw)(c:Qr):Ctr Tryz.prog 134 [rwV r,qV c] (R.one (muV ⟨r,c⟩)):=by
 refine bd_ Tryz.func134 Tryz.ntmps134 rfl (fun w0 A0=>?_);refine zc 15 rfl ?_;exact r1_ hq_ rfl rfl
theorem zgM(s:Sc)(hs:SB 135001 s)(n:Nat)(h0:0<n)(hn:n<=s.lems.length):Ctr Tryz.prog 232 [vwV s,V.one (Leaf.val (.int .i64 ((n:Int))))] (R.one (qV (lvr s.lems n))):=by
 refine bd_ Tryz.func232 Tryz.ntmps232 rfl (fun w0 A0=>?_);have hB:=hs.B;have hq:=hs.q;have hd:=hs.d;have hpl:=hs.pl;have hl:=hs.ll;have hg:=hq.g;have hr:=hq.r;have hlo:=hr.lo;have hhi:=hr.hi;have h1:=hg.i1;have h2:=hg.i3;have h3:=hg.u4;have h4:=hg.o1;have h5:=hg.o3;refine zc 6 rfl ?_;obtain⟨y,hy⟩:∃y,s.lems[n-1]?=some y:=⟨_,zFh (by omega)⟩;refine zc 2 rfl (tq_ rfl (zbl rfl rfl) (tq_ rfl (jft rfl) (tq_ rfl (jfr rfl) (tq_ rfl (jli rfl) (zl 1 rfl (tq_ rfl (jsb (n-1) rfl) (tq_ rfl (jix (n-1) hy rfl) (tq_ rfl (jft rfl) (tq_ rfl (jlr rfl) ?_)))))))));refine zl 3 rfl ?_;exact r1_ hq_ rfl (by rw[zcN hy])
theorem zEy(s:Sc)(hs:SB 135001 s)(k:Nat)(j:Int):Ctr Tryz.prog 231 [vwV s,V.one (Leaf.val (.int .i64 ((k:Int)))),V.one (Leaf.val (.int .i64 (j)))] (R.one (V.one (Leaf.val (.bool (zet s.path k j))))):=by
 refine bd_ Tryz.func231 Tryz.ntmps231 rfl (fun w0 A0=>?_);have hB:=hs.B;have hq:=hs.q;have hd:=hs.d;have hpl:=hs.pl;have hl:=hs.ll;have hg:=hq.g;have hr:=hq.r;have hlo:=hr.lo;have hhi:=hr.hi;have h1:=hg.i1;have h2:=hg.i3;have h3:=hg.u4;have h4:=hg.o1;have h5:=hg.o3;refine zc 9 rfl (tq_ rfl (zbl rfl rfl) (tq_ rfl (jft rfl) (tq_ rfl (jfr rfl) (tq_ rfl (jli rfl) (tq_ rfl (jln rfl) (zl 4 rfl ?_))))));refine zbo (fun m Γ H=>∃(i:Nat),s.path.length-i=m/\Γ=[(0,some (D.rep (zaV (vwL s)))),(1,some (D.val (.int .i64 (k:Int)))),(2,some (D.val (.int .i64 j))),(13,some (D.v (V.one (El.row dcE s.path)))),(14,some (D.val (.int .i64 ((s.path.length:Nat):Int)))),(15,some (D.val (.int .i64 (i:Int))))]/\H=[]/\i<=s.path.length/\zvR s.path k j i=false) ⟨0,rfl,rfl,rfl,zFn _,rfl⟩ rfl ?_;rintro m Γ H ⟨i,rfl,rfl,rfl,hi0,hno⟩;refine zc 2 rfl ?_;by_cases hi:i<s.path.length
 .refine tq_ rfl (ltT rfl) (zl 9 rfl ?_);obtain⟨x,hx⟩:∃x,s.path[i]?=some x:=⟨_,zFh hi⟩;refine zc 2 rfl (tq_ rfl (jix i hx rfl) (tq_ rfl (jlr rfl) (zl 8 rfl (tq_ rfl (zbl rfl rfl) (tq_ rfl (jfr rfl) (tq_ rfl (jli rfl) (zl 1 rfl (tq_ rfl (jix i (zrX hi) rfl) (tq_ rfl (jli rfl) ?_)))))))));refine zl 7 rfl ?_;refine zdH rfl (fun hk1=>?_) (fun hk1=>?_)
  .refine zl 12 rfl (tq_ rfl (jad (i+1) rfl) (zl 2 rfl (zal 0 (zaJ 0 rfl ?_))));exact nx_ ⟨i+1,rfl,rfl,rfl,hi,by rw[zc3 hx,hno,hk1];rfl⟩ rfl
  .refine zl 7 rfl ?_;refine zap rfl (fun hk2=>?_) (fun hk2=>?_)
   .refine zc 5 rfl ?_;exact r1_ hq_ rfl (by rw[zpg hx hk1 hk2])
   .refine zc 4 rfl (tq_ rfl (jad (i+1) rfl) (zl 2 rfl (zal 0 (zaJ 0 rfl ?_))));exact nx_ ⟨i+1,rfl,rfl,rfl,hi,by rw[zc3 hx,hno,hk1,hk2];rfl⟩ rfl
 .refine tq_ rfl (ltF rfl) (zl 14 rfl ?_);exact r1_ hq_ rfl (by rw[<-zh6,<-show i=s.path.length by omega,hno])
end Go.Proofs.YtjeiacoegppoiaaGreatDoor
