/- Parts of the proof, 11: the texts Coll, Fw1, Fw2, WlA2, Best, Lw23, Der, Box, Ev, Mem, BoxB, BoxC, BoxW, as far as they are used. -/
import Derived.Test.YtjeiacoegppoiaaGreatDoorSc10
set_option linter.unusedSimpArgs false
set_option linter.unusedVariables false
set_option maxRecDepth 10000
namespace Rc
open Go Go.RowKit
def ind(r:Rw):Rw->Rat:=fun x=>if x=r then 1 else 0
theorem zgr(r:Rw):ind r r=1:=if_pos rfl
theorem zsc{r x:Rw}(h:x≠r):ind r x=0:=if_neg h
theorem zfo{a b:Rw}(h:zbd a b=true):b≠a:=fun e=>by rw[e,ze1] at h;exact absurd h (by decide)
theorem zi7{r:Rw}:∀{l:List Mu},(∀x∈l,x.r≠r)->W (ind r) l=0
 |[],_=>rfl
 |m::l,h=>by
  have h1:=zsc (h m (by simp));have h2:=zi7 (l:=l) (fun x hx=>h x (by simp[hx]));simp only[W,h1,h2];grind
theorem Mu.ext'{a b:Mu}(h1:a.r=b.r)(h2:a.c=b.c):a=b:=by cases a;cases b;simp at *;exact⟨h1,h2⟩
theorem zkS:∀{a b:List Mu},CanM a->CanM b->(∀r,W (ind r) a=W (ind r) b)->a=b
 |[],[],_,_,_=>rfl
 |[],y::b,_,hb,h=>by
  have h1:=h y.r;have h2:=zi7 (r:=y.r) (l:=b) (fun x hx=>zfo (hb.2.1 x hx));have h3:=hb.1.2;simp only[W,zgr,h2] at h1;exfalso;grind
 |x::a,[],ha,_,h=>by
  have h1:=h x.r;have h2:=zi7 (r:=x.r) (l:=a) (fun y hy=>zfo (ha.2.1 y hy));have h3:=ha.1.2;simp only[W,zgr,h2] at h1;exfalso;grind
 |x::a,y::b,ha,hb,h=>by
  have hxa:=zi7 (r:=x.r) (l:=a) (fun z hz=>zfo (ha.2.1 z hz));have hyb:=zi7 (r:=y.r) (l:=b) (fun z hz=>zfo (hb.2.1 z hz));have px:=ha.1.2;have py:=hb.1.2;by_cases he:x.r=y.r
  .have h1:=h x.r;rw[he] at hxa;rw[he] at h1;simp only[W,he,zgr,hxa,hyb] at h1;have hc:x.c.q=y.c.q:=by grind
   have hxy:x=y:=Mu.ext' he (by rw[ha.1.1,hb.1.1,hc]);subst hxy;rw[zkS ha.2.2 hb.2.2 (fun r=>by have:=h r;simp only[W] at this;grind)]
  .cases hl:zbd x.r y.r
   .have hyx:=zdx hl he;have h1:=h y.r;have h2:=zi7 (r:=y.r) (l:=a) (fun z hz=>zfo (zcO hyx (ha.2.1 z hz)));simp only[W,zgr,zsc he,h2,hyb] at h1;exfalso;grind
   .have h1:=h x.r;have h2:=zi7 (r:=x.r) (l:=b) (fun z hz=>zfo (zcO hl (hb.2.1 z hz)));simp only[W,zgr,zsc (fun e=>he e.symm),h2,hxa] at h1;exfalso;grind
def zcy(l:List Mu):List Mu:=l.foldl (fun a m=>zbZ a m.r m.c.q) []
def zje(l:List Mu):Prop:=∀m∈l,m.c=qOf m.c.q/\0<=m.c.q
theorem zjR(φ:Rw->Rat):∀(l a:List Mu),W φ (l.foldl (fun a m=>zbZ a m.r m.c.q) a)=W φ a+W φ l
 |[],a=>by simp only[List.foldl_nil,W];grind
 |m::l,a=>by rw[List.foldl_cons,zjR φ l,zpg];simp only[W];grind
theorem zwY(φ:Rw->Rat)(l:List Mu):W φ (zcy l)=W φ l:=by unfold zcy;rw[zjR];simp only[W];grind
theorem zjS:∀{l a:List Mu},CanM a->zje l->CanM (l.foldl (fun a m=>zbZ a m.r m.c.q) a)
 |[],a,h,_=>h
 |m::l,a,h,hl=>zjS (l:=l) (ziv (hl m (by simp)).2 h) (fun x hx=>hl x (by simp[hx]))
theorem zoV{l:List Mu}(h:zje l):CanM (zcy l):=zjS (a:=[]) trivial h
theorem zkK(a b:List Mu):zcy (a++b)=b.foldl (fun a m=>zbZ a m.r m.c.q) (zcy a):=by unfold zcy;rw[zER]
def zoc(c:Rat)(b:List Mu):List Mu:=b.map fun m=>⟨m.r,qOf (c*m.c.q)⟩
theorem zoN(c:Rat):∀(b a:List Mu),(zoc c b).foldl (fun a m=>zbZ a m.r m.c.q) a=zaU a b c
 |[],a=>rfl
 |m::b,a=>by
  show(zoc c b).foldl _ (zbZ a m.r (qOf (c*m.c.q)).q)=zaU (zbZ a m.r (m.c.q*c)) b c;rw[zaj,Rat.mul_comm c,zoN c b]
theorem zva(a b:List Mu)(c:Rat):zcy (a++zoc c b)=zaU (zcy a) b c:=by rw[zkK,zoN]
def Srt(l:List Mu):Prop:=l.Pairwise fun a b=>zbd b.r a.r=false
def zfp(A:List Mu)(x:Mu)(j:Nat):List Mu:=A.take j++x::A.drop j
theorem zhU{A:List Mu}{x:Mu}{j:Nat}:(zfp A x j).length=A.length+1:=by
 unfold zfp;simp only[zEF,zEG,List.length_cons,zEP];omega
theorem zuI{A:List Mu}{x:Mu}:zfp A x A.length=A++[x]:=by unfold zfp;rw[zEM,List.drop_length]
theorem zoD{A:List Mu}{x:Mu}{j:Nat}(hj:j<=A.length)(R:List Mu):(zfp A x j++R)[j]?=some x:=by
 unfold zfp;rw[zES,List.getElem?_append_right (by rw[zEG];omega),zEG,Nat.min_eq_left hj,Nat.sub_self];rfl
theorem zme{A:List Mu}{x y:Mu}{j:Nat}(h0:0<j)(hj:j<=A.length)(hy:A[j-1]?=some y)(R:List Mu):(zfp A x j++R)[j-1]?=some y:=by
 unfold zfp;rw[zES,zEx (by rw[zEG];omega),List.getElem?_take,if_pos (by omega),hy]
theorem zr9{A:List Mu}{x y:Mu}{j:Nat}(h0:0<j)(hj:j<=A.length)(hy:A[j-1]?=some y)(R:List Mu):((zfp A x j++R).set j y).set (j-1) x=zfp A x (j-1)++R:=by
 obtain⟨k,rfl⟩:∃k,j=k+1:=⟨j-1,by omega⟩;simp only[Nat.add_sub_cancel] at hy ⊢;have hk:=(zEr.1 hy).1;unfold zfp;have e1:A.take (k+1)=A.take k++[y]:=zaO hy;have e2:A.drop k=y::A.drop (k+1):=zbb hy;have hl:(A.take k).length=k:=by rw[zEG];omega
 rw[e1,e2];generalize A.take k=T at *;generalize A.drop (k+1)=D at *;subst hl;simp[List.set_append]
theorem zh6(φ:Rw->Rat):∀(a b:List Mu),W φ (a++b)=W φ a+W φ b
 |[],b=>by simp only[List.nil_append,W];grind
 |m::a,b=>by simp only[List.cons_append,W,zh6 φ a b];grind
theorem zBO(φ:Rw->Rat){A:List Mu}{x:Mu}{j:Nat}:W φ (zfp A x j)=W φ A+x.c.q*φ x.r:=by
 have h:W φ A=W φ (A.take j++A.drop j):=by rw[List.take_append_drop]
 unfold zfp;rw[h,zh6,zh6];simp only[W];grind
theorem zoC{A:List Mu}{x m:Mu}{j:Nat}:m∈zfp A x j↔m=x\/m∈A:=by
 have h:m∈A↔m∈A.take j++A.drop j:=by rw[List.take_append_drop]
 unfold zfp;rw[h];simp only[zEK,zET];constructor
 .rintro(h|h|h) <;> simp[h]
 .rintro(h|h|h) <;> simp[h]
def Gt(A:List Mu)(x:Mu)(j:Nat):Prop:=∀m∈A.drop j,zbd x.r m.r=true
theorem Gt.start{A:List Mu}{x:Mu}:Gt A x A.length:=fun m hm=>by rw[List.drop_length] at hm;simp at hm
theorem Gt.step{A:List Mu}{x y:Mu}{j:Nat}(h:Gt A x j)(h0:0<j)(hy:A[j-1]?=some y)(hl:zbd x.r y.r=true):Gt A x (j-1):=by
 intro m hm;obtain⟨k,rfl⟩:∃k,j=k+1:=⟨j-1,by omega⟩;simp only[Nat.add_sub_cancel] at hy hm;rw[zbb hy] at hm;rcases zET.1 hm with rfl|hm
 .exact hl
 .exact h m hm
theorem zpT{a b:Rw}(h:zbd a b=true):zbd b a=false:=by
 cases h':zbd b a
 .rfl
 .have:=zcO h h';rw[ze1] at this;exact absurd this (by decide)
theorem ziG{a b c:Rw}(h1:zbd b a=false)(h2:zbd c b=false):zbd c a=false:=by
 cases h:zbd c a
 .rfl
 .by_cases e:a=b
  .subst e;rw[h] at h2;exact absurd h2 (by decide)
  .have:=zcO h (zdx h1 (fun e'=>e e'.symm));rw[this] at h2;exact absurd h2 (by decide)
theorem Srt.ins{A:List Mu}{x:Mu}{j:Nat}(hA:Srt A)(hj:j<=A.length)(hg:Gt A x j)(hl:j=0 \/ ∃y,A[j-1]?=some y/\zbd x.r y.r=false):Srt (zfp A x j):=by
 have h:Srt (A.take j++A.drop j):=by rw[List.take_append_drop];exact hA
 unfold Srt at h;rw[List.pairwise_append] at h;obtain⟨h1,h2,h3⟩:=h;unfold Srt zfp;rw[List.pairwise_append];refine⟨h1,List.pairwise_cons.2 ⟨fun m hm=>zpT (hg m hm),h2⟩,fun a ha b hb=>?_⟩;rcases zET.1 hb with rfl|hb
 .rcases hl with rfl|⟨y,hy,hxy⟩
  .simp at ha
  .obtain⟨k,rfl⟩:∃k,j=k+1:=⟨j-1,by
    rcases Nat.eq_zero_or_pos j with e|e
    .subst e;simp at ha
    .omega⟩
   simp only[Nat.add_sub_cancel] at hy;rw[zaO hy] at ha h1;rcases zEK.1 ha with ha|ha
   .have:=(List.pairwise_append.1 h1).2.2 a ha y (by simp);exact ziG this hxy
   .simp at ha;subst ha;exact hxy
 .exact h3 a ha b hb
structure InsOk(l u:List Mu)(i:Nat):Prop where
 len:u.length=l.length
 w:∀φ,W φ u=W φ l
 mem:∀m∈u,m∈l
 srt:Srt (u.take i)
theorem InsOk.start(l:List Mu):InsOk l l 1:=⟨rfl,fun _=>rfl,fun _ h=>h,by
 cases l with
 |nil=>exact List.Pairwise.nil
 |cons m l=>exact List.pairwise_singleton _ _⟩
theorem zmd{u:List Mu}{i:Nat}{x:Mu}(hx:u[i]?=some x):u=zfp (u.take i) x i++u.drop (i+1):=by
 have hi:=(zEr.1 hx).1;have hl:(u.take i).length=i:=by rw[zEG];omega
 conv=>lhs;rw[<-List.take_append_drop i u,zbb hx]
 have:zfp (u.take i) x i=u.take i++[x]:=by
  have:=zuI (A:=u.take i) (x:=x);rwa [hl] at this
 rw[this,zES];rfl
theorem InsOk.next{l u:List Mu}{i j:Nat}{x:Mu}(h:InsOk l u i)(hx:u[i]?=some x)(hj:j<=i)(hg:Gt (u.take i) x j)(hl:j=0 \/ ∃y,(u.take i)[j-1]?=some y/\zbd x.r y.r=false) :
  InsOk l (zfp (u.take i) x j++u.drop (i+1)) (i+1):=by
 have hi:=(zEr.1 hx).1;have htl:(u.take i).length=i:=by rw[zEG];omega
 have hu:=zmd hx;refine⟨?_,fun φ=>?_,fun m hm=>?_,?_⟩
 .rw[zEF,zhU,htl,zEP,<-h.len];omega
 .have:=h.w φ;rw[hu] at this;rw[zh6,zBO] at this ⊢;exact this
 .refine h.mem m ?_;rw[hu];rcases zEK.1 hm with hm|hm
  .exact List.mem_append_left _ (zoC.2 (zoC.1 hm))
  .exact List.mem_append_right _ hm
 .rw[List.take_append_of_le_length (by rw[zhU,htl];exact zEt _),zEY (by rw[zhU,htl];exact zEt _)];exact h.srt.ins (by omega) hg hl
structure GrpOk(u out:List Mu)(i:Nat):Prop where
 can:CanM out
 w:∀r,W (ind r) out=W (ind r) (u.take i)
 lt:∀x∈out,∀(j:Nat) (m:Mu),i<=j->u[j]?=some m->zbd x.r m.r=true
 len:out.length<=i
theorem GrpOk.start(u:List Mu):GrpOk u [] 0:=⟨trivial,fun r=>by simp,fun x hx=>by simp at hx,zEt _⟩
theorem zqS{u:List Mu}(h:Srt u){i j:Nat}{x y:Mu}(hij:i<j)(hx:u[i]?=some x)(hy:u[j]?=some y):zbd y.r x.r=false:=by
 obtain⟨h1,rfl⟩:=zEr.1 hx;obtain⟨h2,rfl⟩:=zEr.1 hy;exact List.pairwise_iff_getElem.1 h i j h1 h2 hij
structure InOk(u:List Mu)(r:Rw)(i0 i:Nat)(sum:Rat):Prop where
 le:i0<=i
 all:∀(j:Nat) (m:Mu),i0<=j->j<i->u[j]?=some m->m.r=r
 w:∀r',W (ind r') (u.take i)=W (ind r') (u.take i0)+(if r=r' then sum else 0)
 pos:0<=sum
theorem InOk.start(u:List Mu)(r:Rw)(i:Nat):InOk u r i i 0:=⟨zEt _,fun j m h1 h2=>by omega,fun r'=>by split <;> grind,by grind⟩
theorem InOk.step{u:List Mu}{r:Rw}{i0 i:Nat}{sum:Rat}{x:Mu}(h:InOk u r i0 i sum)(hx:u[i]?=some x)(hr:x.r=r)(hp:0<=x.c.q):InOk u r i0 (i+1) (sum+x.c.q):=by
 refine⟨by have:=h.le;omega,fun j m h1 h2 hm=>?_,fun r'=>?_,by have:=h.pos;grind⟩
 .by_cases e:j=i
  .subst e;rw[hx] at hm;cases hm;exact hr
  .exact h.all j m h1 (by omega) hm
 .rw[zaO hx,zz2,h.w r',hr];unfold ind;split <;> grind
theorem GrpOk.next{u out:List Mu}{i0 i:Nat}{sum:Rat}{r:Rw}{m0:Mu}(hu:Srt u)(h:GrpOk u out i0)(hi:InOk u r i0 i sum)(h0:u[i0]?=some m0)(hr0:m0.r=r)(hlt:i0<i)(hstop:∀m,u[i]?=some m->m.r≠r) :
  GrpOk u (if 0<sum then out++[⟨r,qOf sum⟩] else out) i:=by
 have key:∀(j:Nat) (m:Mu),i<=j->u[j]?=some m->zbd r m.r=true:=by
  intro j m hj hm;have hji:=(zEr.1 hm).1;obtain⟨y,hy⟩:∃y,u[i]?=some y:=⟨_,zEp (by omega)⟩;have h1:=zqS hu (i:=i0) (j:=i) (by omega) h0 hy;rw[hr0] at h1;have h2:=zdx h1 (hstop y hy);by_cases e:j=i
  .subst e;rw[hy] at hm;cases hm;exact h2
  .have h3:=zqS hu (i:=i) (j:=j) (by omega) hy hm;by_cases e2:m.r=y.r
   .rw[e2];exact h2
   .exact zcO h2 (zdx h3 e2)
 have hlow:∀x∈out,zbd x.r r=true:=fun x hx=>hr0 ▸ h.lt x hx i0 m0 (zEt _) h0;have hpos:=hi.pos;split
 .rename_i hp;refine⟨?_,fun r'=>?_,fun x hx j m hj hm=>?_,?_⟩
  .have:∀{a:List Mu},CanM a->(∀x∈a,zbd x.r r=true)->CanM (a++[⟨r,qOf sum⟩]):=by
    intro a
    induction a with
    |nil=>intro _ _;exact⟨⟨by rw[zaj],by rw[zaj];exact hp⟩,fun x hx=>by simp at hx,trivial⟩
    |cons y a ih=>
     intro hc hx;refine⟨hc.1,fun z hz=>?_,ih hc.2.2 (fun z hz=>hx z (by simp[hz]))⟩;rcases zEK.1 hz with hz|hz
     .exact hc.2.1 z hz
     .simp at hz;subst hz;exact hx y (by simp)
   exact this h.can hlow
  .rw[zz2,h.w r',hi.w r'];unfold ind;simp only[zaj];split <;> grind
  .rcases zEK.1 hx with hx|hx
   .exact h.lt x hx j m (by omega) hm
   .simp at hx;subst hx;exact key j m hj hm
  .have:=h.len;simp;omega
 .rename_i hp;have hz:sum=0:=by grind
  refine⟨h.can,fun r'=>?_,fun x hx j m hj hm=>h.lt x hx j m (by omega) hm,by have:=h.len;omega⟩;rw[h.w r',hi.w r',hz];split <;> grind
theorem zyh{l u out:List Mu}{n:Nat}(hc:zje l)(h1:InsOk l u n)(h2:GrpOk u out u.length):out=zcy l:=
 zkS h2.can (zoV hc) (fun r=>by rw[h2.w r,zEM,h1.w,zwY])
def zmw(a b:Int):Int:=if a<b then -1 else if b<a then 1 else 0
def zEo(a b:Rw):Int:=if zmw a.kind b.kind≠0 then zmw a.kind b.kind else if zmw a.idx b.idx≠0 then zmw a.idx b.idx else if zmw a.lo b.lo≠0 then zmw a.lo b.lo else if zmw a.hi b.hi≠0 then zmw a.hi b.hi else 0
def zAv:List Int->Int
 |[]=>0
 |x::l=>if x≠0 then x else zAv l
theorem zBe:D.agg [Leaf.val (.bool false),nilL,nilL]=D.agg (qL 0):=by
 unfold qL;rw[zez Rat.le_refl,zbp,zbq,zah];rfl
def i64E:El Int:=⟨fun z=>[Leaf.val (.int .i64 z)],1,fun _=>rfl,fun _=>rfl⟩
theorem zsL{a b:Rw}:zEo a b<0↔zbd a b=true:=by
 rw[zgp];unfold zEo zmw
 repeat' split
 all_goals omega
section
variable {P:Program}{ops:Array Oper}{X:List Nat}{o:Oper}{Γ:Gam}{H:Hp}
theorem zvQ{x:Operand}{t i off n:Nat}{e:HE}(ho:o.op = .load t x)(hx:opD Γ x=some (D.ptr i off))(hi:H[i]?=some (some e))(hXi:i ∉ X)(ht:TyIs P t true n)
  (hrow:e.row=none) (hn:off+n<=e.ls.length) {ls:List Leaf} (hls:(e.ls.drop off).take n=ls):Jq P ops X o Γ H (D.agg ls):=by
 intro w0 A0 N Γ2 H2 E a w hs hX hG;obtain⟨h1,h2⟩:=za9 hs hG (x:=x) (by rw[ho];simp[Op.operands]) hx;have h2:a.eval x = .pointer (some ⟨E.b i,off,none⟩):=h2;obtain⟨g1,g2⟩:=hG.boxes i e (hX i e hXi hi);refine⟨trivial,?_⟩;obtain⟨cs,rest,hc,hd,_⟩:=HE.block g1 (HE.box g1 hrow).1;have hlen:=hd.length;refine⟨.agg ((cs.drop off).take n).toArray,?_,_,rfl,hls ▸ (hd.drop off).take n⟩;have hl:=zg1 (P:=P) hc n (by simp;omega) (o:=off);have hcs:(((cs++rest).drop off).take n)=((cs.drop off).take n):=by
  rw[List.drop_append_of_le_length (by omega),List.take_append_of_le_length (by simp;omega)]
 rw[hcs] at hl;simp[execOp,ho,h2,Instr.loadAt,Instr.sureAddr,loadVar,ht.isAgg,ht.sizeOf,hl]
def zkI(P:Program)(s f:Nat):Bool:=match P.underlying s with
 |some (.struct fields)=>match fields[f]? with
  |some fl=>fl.offset == 0&&(fl.byteOffset == 0&&(match P.info? fl.type with|some i=>i.size == 0|none=>false))
  |none=>false
 |_=>false
theorem zkH{P:Program}{s f:Nat}(h:zkI P s f=true):∃fields fl,P.underlying s=some (.struct fields)/\fields[f]?=some fl/\fl.offset=0/\fl.byteOffset=0/\∃i,P.info? fl.type=some i/\i.size=0:=by
 unfold zkI at h;split at h
 .rename_i fields hu;split at h
  .rename_i fl hfl;simp only[zED,beq_iff_eq] at h;obtain⟨h1,h2,h3⟩:=h;split at h3
   .rename_i i hi;exact⟨fields,fl,hu,hfl,h1,h2,i,hi,by simpa using h3⟩
   .cases h3
  .cases h
 .cases h
theorem zlb{x:Operand}{s f i:Nat}{e:HE}(ho:o.op = .fieldAddr s x f)(hx:opD Γ x=some (D.ptr i 0))(hi:H[i]?=some (some e))(hXi:i ∉ X)(hrow:e.row=none)(h0:P.cellsOf e.t=0)(hf:zkI P s f=true):Jq P ops X o Γ H (D.ptr i 0):=by
 intro w0 A0 N Γ2 H2 E a w hs hX hG;obtain⟨h1,h2⟩:=za9 hs hG (x:=x) (by rw[ho];simp[Op.operands]) hx;have h2:a.eval x = .pointer (some ⟨E.b i,0,none⟩):=h2;obtain⟨g1,g2⟩:=hG.boxes i e (hX i e hXi hi);obtain⟨fields,fl,hu,hfl,ho1,ho2,inf,hinf,hsz⟩:=zkH hf;obtain⟨cs,rest,hc,_,_⟩:=HE.block g1 (HE.box g1 hrow).1;have hsh:w.shape? (E.b i)=some (e.t,(cs++rest).toArray.size):=by unfold World.shape?;rw[hc]
 refine⟨h1,.pointer (some ⟨E.b i,0,none⟩),?_,rfl⟩;simp[execOp,ho,h2,Instr.fieldAt,Instr.sureAddr,run_underlying hu,hfl,fieldPlace,Go.sizeOf,typeInfo,hinf,hsz,partAt,byteOf,noView,viewAt,Go.shape,hsh,h0,ho1,ho2,Sem.run]
end
@[reducible] def hrw{α:Type}(t sz:Nat)(e:El α)(l:List α):Option HE:=some ⟨t,e.all l,some sz,none⟩
section
variable {α:Type}{P:Program}{ops:Array Oper}{X:List Nat}{o:Oper}{Γ:Gam}{H:Hp}{i t sz:Nat}
theorem El.len_sz{e:El α}{l:List α}{n sz:Nat}(hn:l.length=n)(hs:e.sz=sz):(e.all l).length=n*sz:=by rw[El.all_length,hn,hs]
theorem zgL{x y:Operand}{t' u n:Nat}{k:IntKind}{z:Int}{b:Bool}(e:El α)(l:List α)(j:Nat)(ho:o.op = .indexAddr t' x y)(hx:opD Γ x=some (D.own i n))(hy:opD Γ y=some (D.val (.int k z)))(hi:H[i]?=some (hrw t sz e l))(hXi:i ∉ X)
  (ht:P.underlying t'=some (.slice u)) (hu:TyIs P u b sz) (hj:j<n) (hn:l.length=n) (hs:e.sz=sz:=by rfl) (hsz:0<sz:=by decide) (hz:z=(j:Int):=by first|rfl|omega):Jq P ops X o Γ H (D.ptr i (j*sz)):=by
 subst hz;exact zap ho hx hy hi hXi (El.len_sz hn hs) hsz ht hu (by omega) (by omega) rfl
theorem El.get_part{e:El α}{l:List α}{j:Nat}{v:α}(hv:l[j]?=some v)(fo n:Nat)(hf:fo+n<=e.sz):((e.all l).drop (j*e.sz+fo)).take n=((e.f v).drop fo).take n:=by
 obtain⟨h1,rfl⟩:=zEr.1 hv;have h:=El.all_get e h1;rw[<-h,List.drop_take,List.drop_drop,List.take_take,Nat.min_eq_left (by omega)]
theorem El.fit{e:El α}{l:List α}{j:Nat}{v:α}(hv:l[j]?=some v):j*e.sz+e.sz<=(e.all l).length:=by
 have h1:=(zEr.1 hv).1;rw[El.all_length];have:=zEA e.sz h1;rw[Nat.succ_mul] at this;exact this
theorem zjd{x:Operand}{t' n fo:Nat}{v:α}{ls:List Leaf}(e:El α)(l:List α)(j:Nat)(ho:o.op = .load t' x)(hx:opD Γ x=some (D.ptr i (j*sz+fo)))(hi:H[i]?=some (hrw t sz e l))(hXi:i ∉ X)(ht:TyIs P t' true n)
  (hv:l[j]?=some v) (hls:((e.f v).drop fo).take n=ls) (hs:e.sz=sz:=by rfl) (hf:fo+n<=sz:=by decide) (hn:0<n:=by decide):Jq P ops X o Γ H (D.agg ls):=by
 subst hs;refine zaI ho hx hi hXi ht hn ?_ ?_
 .have:=El.fit (e:=e) hv;show j*e.sz+fo+n<=(e.all l).length;omega
 .rw[<-hls];exact El.get_part hv fo n hf
theorem zpy{e:El α}{l:List α}{j:Nat}(v:α)(hj:j<l.length):splice (e.all l) (j*e.sz) (e.f v)=e.all (l.set j v):=by
 unfold splice;rw[El.all_take,e.len,<-Nat.succ_mul,El.all_drop,List.set_eq_take_append_cons_drop,if_pos hj,El.all_append];simp only[El.all,zES]
theorem zEb{x y:Operand}{t' n:Nat}(e:El α)(l:List α)(j:Nat)(v:α){b:Bool}(ho:o.op = .store t' x y)(hx:opD Γ x=some (D.ptr i (j*sz)))(hy:opD Γ y=some (D.agg (e.f v)))(hi:H[i]?=some (hrw t sz e l))(ht:TyIs P t' b sz)
  (hj:j<l.length) (hs:e.sz=sz:=by rfl) (hsz:0<sz:=by decide):Je P ops o Γ H none (H.set i (hrw t sz e (l.set j v))):=by
 subst hs;refine zaW (v:=V.agg (e.f v)) ho hx hy hi ht (e.len v) hsz ?_ (zpy v hj);have:=El.fit (e:=e) (zEp hj);show j*e.sz+e.sz<=(e.all l).length;exact this
theorem zxe{x y:Operand}{t' n:Nat}(e:El α)(l:List α)(j:Nat)(v:α){b:Bool}(ho:o.op = .store t' x y)(hx:opD Γ x=some (D.ptr i (j*sz)))(hy:opD Γ y=some (D.agg (e.f v)))(hi:H[i]?=some (hrw t sz e l))(ht:TyIs P t' b sz)
  (hj:j<l.length) (hs:e.sz=sz:=by rfl) (hsz:0<sz:=by decide):∀H2:Hp,H2[i]?=H[i]?->Je P ops o Γ H2 none (H2.set i (hrw t sz e (l.set j v))):=fun _ hH=>zEb (n:=n) e l j v ho hx hy (hH.trans hi) ht hj hs hsz
end
section
variable {P:Program}{ops:Array Oper}{X:List Nat}{o:Oper}{Γ:Gam}{H:Hp}
theorem zbm{x:Operand}{ls:List Leaf}(ho:o.op = .nilCheck x)(hx:opD Γ x=some (D.rep (zaT ls))):Jq P ops X o Γ H (D.rep (zaT ls)):=by
 intro w0 A0 N Γ2 H2 E a w hs hX hG;obtain⟨h0,h1⟩:=za9 hs hG (x:=x) (by rw[ho];simp[Op.operands]) hx;obtain⟨ad,h2,h3⟩:=h1;exact⟨h0,.pointer (some ad),by simp[execOp,ho,h2],ad,rfl,h3⟩
theorem zmT{t elem len sz:Nat}{parts:Array (Nat×Operand)}{zs ls:List Leaf}{lp:List (Nat×List Leaf)}{b:Bool}(ho:o.op = .buildSlice t len parts)(ht:P.underlying t=some (.slice elem))(hsz:TyIs P elem b sz)
  (hz:TyZero P elem zs) (hzl:zs.length=sz) (hsz0:0<sz) (hlen:0<len) (hp:zfC Γ parts.toList=some lp) (hbig:len*sz<=16777216)
  (hf:zkG (fun i=>some (i*sz,sz)) (zhd (len*sz) zs) lp=some ls) (hcl:clL ls=true:=by rfl):Je P ops o Γ H (some (D.rep (zeb len ls))) H:=by
 intro w0 A0 N Γ2 a w Q K hs hN hSt hK;obtain⟨E,hG⟩:=hSt;obtain⟨z,hzr,hzd⟩:=hz.run w E.A;obtain⟨h1,h2⟩:=zey parts.toList lp (zgx (.inr ⟨len,ho⟩) hs hG) hp;obtain⟨cs,hc1,hc2⟩:=zhX (A:=E.A) (w:=w) (places:=fun i=>some (i*sz,sz)) (parts.toList.map fun p=>(p.1,a.eval p.2)) lp ((Array.range (len*sz)).map (z.cells[· % z.cells.size]!)) _ ls
  (zfc hzd (by omega) (len*sz)) h1 h2 hf
 have hb:=zbR w (.cells cs elem);have hG':=hG.grow hb;have hlm:len<=16777216:=zEz (Nat.le_mul_of_pos_right len hsz0) hbig;refine zaR (v:=.slice (some ⟨w.heap.size,0,none⟩) len len) (w':=w.alloc (.cells cs elem)) ?_ (hK _ _ ⟨_,hG'.put (fun d hd=>?_) hN⟩)
 .have n1:¬16777216<len*sz:=by omega
  have n2:len*sz≠0:=Nat.ne_of_gt (Nat.mul_pos hlen hsz0);have hps:(parts.map fun(p:Nat×Operand)=>(p.1,a.eval p.2)).toList=parts.toList.map fun p=>(p.1,a.eval p.2):=by simp
  simp only[execOp,ho,Instr.buildSlice];simp only[hps];simp[run_underlying ht,hsz.sizeOf,n1,hzr,hc1,newRow,n2]
 .cases hd;refine⟨trivial,?_⟩;have:=ziA (t:=elem) (len:=len) hG.foot hc2 hcl (by simp only[maxLen];omega);rw[show cs.toList.toArray=cs from by simp] at this;exact⟨this,_,rfl⟩
end
section
variable {P:Program}{Γ:Gam}{H:Hp}
theorem ztx{Q:Exit->Act->World->Prop}{w0:Frm}{A0:Foot}{N:Nat}{fn:Func}{y:R}{r r' r'' r3:ResultVar}{x x' x'' x3:V}(hQ:∀a w,zvO P fn w0 A0 y .ret a w->Q .ret a w)
  (hr:fn.results = #[r,r',r'',r3]) (h:zee P Γ H r x) (h':zee P Γ H r' x') (h'':zee P Γ H r'' x'') (h3:zee P Γ H r3 x3) (hy:R.tup [x,x',x'',x3]=y) (hcl:zho [x,x',x'',x3]=true:=by rfl):Tc P Q w0 A0 N Γ H .ret:=by
 intro a w hSt;obtain⟨E,hG⟩:=hSt;obtain⟨v,hv,hd⟩:=zaS hG h;obtain⟨v',hv',hd'⟩:=zaS hG h';obtain⟨v'',hv'',hd''⟩:=zaS hG h'';obtain⟨v3,hv3,hd3⟩:=zaS hG h3;refine wp_ret (hQ a w ⟨hG.defers,.tuple #[v,v',v'',v3],?_,_,rfl,?_,hG.below⟩)
 .rw[za7,hr];simp[hv,hv',hv'',hv3]
 .subst hy;simp only[zho,zED] at hcl;exact⟨[v,v',v'',v3],rfl,hG.out hcl.1 hd,hG.out hcl.2.1 hd',hG.out hcl.2.2.1 hd'',hG.out hcl.2.2.2.1 hd3,trivial⟩
end
end Rc
namespace Go.Proofs.YtjeiacoegppoiaaGreatDoor
open Go Go.RowKit Rc
theorem zBN(z:Int):Ctr Tryz.prog 228 [V.one (Leaf.val (.int .i64 (z)))] (R.one (V.one (Leaf.val (.bool false)))):=by
 refine bd_ Tryz.func228 Tryz.ntmps228 rfl (fun w0 A0=>?_);refine zc 9 rfl (tq_ rfl (neF rfl rfl) (zl 3 rfl ?_));exact r1_ hq_ rfl rfl
theorem zEn(a b:Int):Ctr Tryz.prog 187 [V.one (Leaf.val (.int .i64 (a))),V.one (Leaf.val (.int .i64 (b)))] (R.one (V.one (Leaf.val (.int .i64 (zmw a b))))):=by
 refine bd_ Tryz.func187 Tryz.ntmps187 rfl (fun w0 A0=>?_);refine zc 8 rfl (tc_ zCQ rfl (zBN a) (zl 6 rfl (tc_ zCQ rfl (zBN b) (zl 24 rfl (zl 2 rfl ?_)))));by_cases h1:a<b
 .refine tq_ rfl (ltT rfl) (zl 8 rfl ?_);exact r1_ hq_ rfl (by unfold zmw;rw[if_pos h1])
 .refine tq_ rfl (ltF rfl) (zl 10 rfl ?_);by_cases h2:b<a
  .refine tq_ rfl (gtT rfl) (zl 8 rfl ?_);exact r1_ hq_ rfl (by unfold zmw;rw[if_neg h1,if_pos h2])
  .refine tq_ rfl (gtF rfl) (zl 10 rfl ?_);exact r1_ hq_ rfl (by unfold zmw;rw[if_neg h1,if_neg h2])
theorem cmpor(l:List Int)(hl:l.length<=1000):Ctr Tryz.prog 186 [V.one (El.row i64E l)] (R.one (V.one (Leaf.val (.int .i64 (zAv l))))):=by
 refine bd_ Tryz.func186 Tryz.ntmps186 rfl (fun w0 A0=>?_);refine zc 14 rfl (tq_ rfl (jln rfl) (zl 4 rfl (zbv (fun m Γ H=>∃(i:Nat),l.length-i=m/\Γ=[(3,some (D.val (.int .i64 0))),(6,some (D.v (V.one (El.row i64E l)))),(7,some (D.val (.int .i64 ((l.length:Nat):Int)))),(8,some (D.val (.int .i64 (i:Int))))]/\H=[]/\i<=l.length/\zAv l=zAv (l.drop i)) ⟨0,rfl,rfl,rfl,zEv _,rfl⟩ rfl ?_)));rintro m Γ H ⟨i,rfl,rfl,rfl,hi0,ho⟩;refine zc 2 rfl ?_;by_cases hi:i<l.length
 .refine tq_ rfl (ltT rfl) (zl 9 rfl ?_);obtain⟨x,hx⟩:∃x,l[i]?=some x:=⟨_,zEp hi⟩;refine zc 1 rfl (tq_ rfl (jix i hx rfl) (tq_ rfl (jli rfl) (zl 7 rfl ?_)));by_cases h0:x≠0
  .refine tq_ rfl (neT rfl) (zl 9 rfl ?_);exact r1_ hq_ rfl (by rw[ho,zbb hx,zAv,if_pos h0])
  .refine tq_ rfl (neF rfl) (zl 7 rfl (tq_ rfl (jad (i+1) rfl) (zl 2 rfl ?_)));exact nx_ ⟨i+1,rfl,rfl,rfl,hi,by rw[ho,zbb hx,zAv,if_neg h0]⟩ rfl
 .refine tq_ rfl (ltF rfl) (zl 15 rfl ?_);exact r1_ hq_ rfl (by rw[ho,List.drop_eq_nil_of_le (by omega)] <;> rfl)
theorem zDG(a b:Rw):Ctr Tryz.prog 121 [rwV a,rwV b] (R.one (V.one (Leaf.val (.int .i64 (zEo a b))))):=by
 refine bd_ Tryz.func121 Tryz.ntmps121 rfl (fun w0 A0=>?_);refine zc 8 rfl (dr_ 0 [] [] (dz 4 rfl (kc_ zuU rfl (zEn a.kind b.kind) (dz 4 rfl (kc_ zuU rfl (zEn a.idx b.idx) (dz 4 rfl (kc_ zuU rfl (zEn a.lo b.lo) (dz 4 rfl (kc_ zuU rfl (zEn a.hi b.hi) ?_)))))))));refine ke_ rfl (fun _=>zad rfl zAK ty3 tz3 rfl (by decide) (by decide) rfl (by decide) rfl) (kc_ fn186 rfl (cmpor ([(zmw a.kind b.kind),(zmw a.idx b.idx),(zmw a.lo b.lo),(zmw a.hi b.hi)]) (zEw rfl)) (dz 1 rfl (zae (za 1 rfl ?_))));exact r1_ hq_ rfl rfl
theorem cmp2(a b:Mu):Ctr Tryz.prog 120 [muV a,muV b] (R.one (V.one (Leaf.val (.int .i64 (zEo a.r b.r))))):=by
 refine bd_ Tryz.func120 Tryz.ntmps120 rfl (fun w0 A0=>?_);refine zc 13 rfl (tc_ fn121 rfl (zDG a.r b.r) (zl 3 rfl ?_));exact r1_ hq_ rfl rfl
theorem neg1(m:Mu){B:Nat}[Fq m.c B](hB:B<=100000000000)(h:0<=m.c.q):Ctr Tryz.prog 117 [muV m] (R.one (V.one (Leaf.val (.bool false)))):=by
 refine bd_ Tryz.func117 Tryz.ntmps117 rfl (fun w0 A0=>?_);refine zc 10 rfl (tc_ zjp rfl (zd5 m.c (m.c.q) rfl (Fq.use (x:=m.c) (by omega))) (tq_ rfl (ltF rfl (by have:=zii.2 h;omega)) (zl 3 rfl ?_)));exact r1_ hq_ rfl rfl
theorem zuL(l:List Mu)(hl:l.length<=1000){B:Nat}(hB:MB B l)(hB2:B<=100000000000)(hc:zje l):Ctr Tryz.prog 184 [V.one (El.row muE l),V.one (Leaf.val (.func (.func 117) #[] #[]))] (R.one (V.one (Leaf.val (.int .i64 (-1))))):=by
 refine bd_ Tryz.func184 Tryz.ntmps184 rfl (fun w0 A0=>?_);refine zc 9 rfl (tq_ rfl (jln rfl) (zl 4 rfl (zbv (fun m Γ H=>∃(i:Nat),l.length-i=m/\Γ=[(0,some (D.v (V.one (El.row muE l)))),(1,some (D.val (.func (.func 117) #[] #[]))),(7,some (D.val (.int .i64 ((l.length:Nat):Int)))),(8,some (D.val (.int .i64 (i:Int))))]/\H=[]/\i<=l.length) ⟨0,rfl,rfl,rfl,zEv _⟩ rfl ?_)));rintro m Γ H ⟨i,rfl,rfl,rfl,hi0⟩;refine zc 2 rfl ?_;by_cases hi:i<l.length
 .refine tq_ rfl (ltT rfl) (zl 15 rfl ?_);obtain⟨x,hx⟩:∃x,l[i]?=some x:=⟨_,zEp hi⟩;haveI hxB:=hB x (zEq hx);refine zc 4 rfl (tq_ rfl (jix i hx rfl) (tq_ rfl (jlr rfl) (te_ rfl (zh9 rfl rfl fn117 rfl (neg1 x (by omega) (hc x (zEq hx)).2)) (zl 7 rfl (tq_ rfl (jad (i+1) rfl) (zl 2 rfl ?_))))));exact nx_ ⟨i+1,rfl,rfl,rfl,hi⟩ rfl
 .refine tq_ rfl (ltF rfl) (zl 14 rfl ?_);exact r1_ hq_ rfl rfl
theorem zuM(l:List Mu)(hl:l.length<=1000){B:Nat}(hB:MB B l)(hB2:B<=100000000000)(hc:zje l):Ctr Tryz.prog 116 [V.one (El.row muE l),V.one (Leaf.val (.func (.func 117) #[] #[]))] (R.one (V.one (Leaf.val (.bool false)))):=by
 refine bd_ Tryz.func116 Tryz.ntmps116 rfl (fun w0 A0=>?_);refine zc 9 rfl (tc_ fn184 rfl (zuL l hl hB hB2 hc) (zl 4 rfl ?_));exact r1_ hq_ rfl rfl
set_option maxHeartbeats 2000000 in
theorem znw(l:List Mu){B:Nat}(hc:zje l)(hB:MB B l)(hB2:B<=10000000000)(hl:l.length<=19):CtrT Tryz.prog 55 109 7 (El.all muE (zcy l)) [] [V.one (Leaf.val (.int .i64 0))] [V.one (El.row muE l)]:=by
 refine CtrT.of_body Tryz.func55 rfl Tryz.ntmps55 (zEw rfl) (fun w0 A0 hX=>?_);refine qc_ (zc 10 rfl (tc_ fn116 rfl (zuM l (by omega) hB (by omega) hc) (zl 8 rfl ?_)));refine zcC rfl rfl Tryz.func118 rfl rfl Tryz.ntmps118 (zEw rfl) rfl (fun a1 d1 s1=>?_);refine qc_ (zc 9 rfl ?_);refine zh7 rfl rfl rfl rfl rfl zcJ (fun b2 hnil=>?_);refine zl 2 rfl ?_;refine zao rfl (fun hn4=>?_) (fun hn4=>?_)
 .obtain⟨hl0,_⟩:=hnil hn4;have hl1:=zEB hl0;subst hl1;refine zc 2 rfl (zfv (u:=109) (sz:=7) rfl rfl rfl rfl rfl (zl 2 rfl (zh8 [] (fun _ _ h=>h) d1 s1 rfl rfl rfl trivial (zl 6 rfl ?_))));refine zcC rfl rfl Tryz.func119 rfl rfl Tryz.ntmps119 (zEw rfl) rfl (fun a3 d3 s3=>?_);refine qc_ (zc 3 rfl (tq_ rfl (zdq rfl rfl rfl (by decide) rfl rfl (by decide) zcJ) (zl 1 rfl ?_)));refine zcC rfl rfl Tryz.func185 rfl rfl Tryz.ntmps185 (zEw rfl) rfl (fun a4 d4 s4=>?_);refine qc_ (zc 14 rfl (zep 1 (rn_ (zc 5 rfl (tq_ rfl (leF rfl (by decide)) (zl 14 rfl ?_))))));refine zcC rfl rfl Tryz.func226 rfl rfl Tryz.ntmps226 (zEw rfl) rfl (fun a5 d5 s5=>?_);refine qc_ (zc 3 rfl (tq_ rfl (zbe rfl rfl rfl (r:=1) (w64 (by decide) (by decide) (by decide))) (zl 4 rfl (zep 1 (rn_ (zc 5 rfl (tq_ rfl (ltF rfl (by decide)) (zl 7 rfl ?_))))))));refine zcY [(0,some (D.own 0 0)),(1,some (D.val (.int .i64 ((0:Nat):Int)))),(2,some (D.val (.func (.func 120) #[] #[]))),(6,some (D.val (.int .i64 20))),(4004,some (D.own 0 0))] d5 s5 rfl rfl ⟨rfl,rfl,rfl,rfl,rfl,trivial⟩ (zl 3 rfl (zep 1 (rn_ (zc 5 rfl (tq_ rfl (ltF rfl (by decide)) (zl 7 rfl ?_))))));refine zcY [(2004,some (D.own 0 0))] d4 s4 rfl rfl ⟨rfl,trivial⟩ (zl 1 rfl (zcY [(4,some (D.own 0 0))] d3 s3 rfl rfl ⟨rfl,trivial⟩ (zl 4 rfl (tq_ rfl (zcg rfl (rfl)) (zl 4 rfl (zgK 5 109 7 rfl rfl (zc 5 rfl (zep 1 (rn_ ?_)))))))));refine zc 5 rfl (tq_ rfl (zdq rfl rfl rfl (by decide) rfl rfl (by decide) zcJ) (tq_ rfl (ltF rfl (by decide)) (zl 15 rfl ?_)));exact zpi (fun _ _ h=>h) hX rfl (rowOk.own rfl rfl rfl) rfl rfl
 .refine zc 3 rfl (nz_ [so 0 (D.v (V.one (El.row muE l)))] [] rfl rfl (zc 1 rfl (zce rfl rfl rfl rfl zcJ zbh rfl (zl 1 rfl ?_))));obtain⟨ti6,hi6,hz6,hs6,hb6⟩:=zuK;refine zbW rfl rfl rfl rfl rfl rfl rfl rfl rfl rfl (El.all_length muE l) (by decide) zcJ zcJ hi6 hz6 hs6 rfl (by simp only[maxLen];omega) (by rw[hb6];omega) (nm:=l.length) (Nat.zero_add _) (ls:=muE.all l) rfl (zl 3 rfl (zh8 [] (fun _ _ h=>h) d1 s1 rfl rfl rfl trivial (zl 6 rfl ?_)));refine zcC rfl rfl Tryz.func119 rfl rfl Tryz.ntmps119 (zEw rfl) rfl (fun a7 d7 s7=>?_);refine qc_ (zc 3 rfl (tq_ rfl (zdq rfl rfl rfl (by decide) rfl (El.len_sz rfl rfl) (by decide) zcJ) (zl 1 rfl ?_)));refine zcC rfl rfl Tryz.func185 rfl rfl Tryz.ntmps185 (zEw rfl) rfl (fun a8 d8 s8=>?_);refine qc_ (zc 14 rfl (zep 1 (rn_ (zc 5 rfl (tq_ rfl (leF rfl) (zl 14 rfl ?_))))));refine zcC rfl rfl Tryz.func226 rfl rfl Tryz.ntmps226 (zEw rfl) rfl (fun a9 d9 s9=>?_);refine qc_ (zc 3 rfl (tq_ rfl (zbe rfl rfl rfl (r:=1) (w64 (by decide) (by decide) (by decide))) (zl 4 rfl ?_)));refine zbv (fun m Γ H=>∃(i:Nat) (u:List Mu),l.length-i=m/\Γ=[(0,some (D.own 0 l.length)),(1,some (D.val (.int .i64 0))),(2,some (D.val (.int .i64 ((l.length:Nat):Int)))),(3,some (D.val (.func (.func 120) #[] #[]))),(8,some (D.val (.int .i64 (i:Int)))),(2000,some (D.own 0 l.length)),(2001,some (D.val (.int .i64 ((l.length:Nat):Int)))),(2002,some (D.val (.func (.func 120) #[] #[]))),(2006,some (D.val (.int .i64 20))),(6004,some (D.own 0 l.length))]/\H=[hrw 109 7 muE u]/\1<=i/\InsOk l u i) ⟨1,l,rfl,rfl,rfl,zEt _,InsOk.start l⟩ rfl ?_;rintro m Γ H ⟨i,u,rfl,rfl,rfl,hi1,hI⟩;refine zc 5 rfl ?_;by_cases hi:i<l.length
  .refine tq_ rfl (ltT rfl) (zl 8 rfl ?_);have hul:=hI.len;obtain⟨x,hx⟩:∃x,u[i]?=some x:=⟨_,zEp (by omega)⟩;have htl:(u.take i).length=i:=by rw[zEG];omega
   have hg0:Gt (u.take i) x i:=by have h:=Gt.start (A:=u.take i) (x:=x);rwa [htl] at h
   refine zc 6 rfl ?_;refine zbv (fun m Γ H=>∃(j:Nat),j=m/\Γ=[(0,some (D.own 0 l.length)),(1,some (D.val (.int .i64 0))),(2,some (D.val (.int .i64 ((l.length:Nat):Int)))),(3,some (D.val (.func (.func 120) #[] #[]))),(8,some (D.val (.int .i64 (i:Int)))),(9,some (D.val (.int .i64 (j:Int)))),(2000,some (D.own 0 l.length)),(2001,some (D.val (.int .i64 ((l.length:Nat):Int)))),(2002,some (D.val (.func (.func 120) #[] #[]))),(2006,some (D.val (.int .i64 20))),(6004,some (D.own 0 l.length))]/\H=[hrw 109 7 muE (zfp (u.take i) x j++u.drop (i+1))]/\j<=i/\Gt (u.take i) x j) ⟨i,rfl,rfl,by rw[<-zmd hx],zEt _,hg0⟩ rfl ?_;rintro m Γ H ⟨j,rfl,rfl,rfl,hji,hg⟩;have hsl:(zfp (u.take i) x j++u.drop (i+1)).length=l.length:=by rw[zEF,zhU,htl,zEP];omega
   refine zc 2 rfl (dr_ 0 [] [] (dz 2 rfl ?_));by_cases hj0:0<j
   .refine kq_ rfl (gtT rfl) (dz 1 rfl ?_);obtain⟨y,hy⟩:∃y,(u.take i)[j-1]?=some y:=⟨_,zEp (by omega)⟩;refine dz 3 rfl (kq_ rfl (zgL (i:=0) muE (zfp (u.take i) x j++u.drop (i+1)) (j) rfl rfl rfl rfl (by decide) zcJ zbh (by omega) hsl) (kq_ rfl (zjd (i:=0) muE (zfp (u.take i) x j++u.drop (i+1)) (j) (fo:=0) rfl rfl rfl (by decide) zbh (zoD (by omega) _) rfl) (dz 2 rfl (kq_ rfl (jsb (j-1) rfl) ?_))));refine kq_ rfl (zgL (i:=0) muE (zfp (u.take i) x j++u.drop (i+1)) (j-1) rfl rfl rfl rfl (by decide) zcJ zbh (by omega) hsl) (kq_ rfl (zjd (i:=0) muE (zfp (u.take i) x j++u.drop (i+1)) (j-1) (fo:=0) rfl rfl rfl (by decide) zbh (zme hj0 (by omega) hy _) rfl) (ke_ rfl (fun _=>zh9 rfl rfl fn120 rfl (cmp2 x y)) ?_));by_cases hlt:zbd x.r y.r=true
    .refine kq_ rfl (ltT rfl (zsL.2 hlt)) (dz 1 rfl (zae (za 6 rfl (dr_ 0 [(15,0),(17,0)] [0] (dz 4 rfl (kq_ rfl (jsb (j-1) rfl) (dz 2 rfl (kq_ rfl (jsb (j-1) rfl) (kp_ [] rfl (zgL (i:=0) muE (zfp (u.take i) x j++u.drop (i+1)) (j-1) rfl rfl rfl rfl (by decide) zcJ zbh (by omega) hsl) ?_)))))))));refine kp_ [] rfl (zjd (i:=0) muE (zfp (u.take i) x j++u.drop (i+1)) (j-1) (fo:=0) rfl rfl rfl (by decide) zbh (zme hj0 (by omega) hy _) rfl) (dz 2 rfl (kp_ [] rfl (zgL (i:=0) muE (zfp (u.take i) x j++u.drop (i+1)) (j) rfl rfl rfl rfl (by decide) zcJ zbh (by omega) hsl) ?_));refine kp_ [] rfl (zjd (i:=0) muE (zfp (u.take i) x j++u.drop (i+1)) (j) (fo:=0) rfl rfl rfl (by decide) zbh (zoD (by omega) _) rfl) (kp_ [] rfl (zgL (i:=0) muE (zfp (u.take i) x j++u.drop (i+1)) (j) rfl rfl rfl rfl (by decide) zcJ zbh (by omega) hsl) ?_);refine ki_ 0 rfl (zxe (n:=0) muE (zfp (u.take i) x j++u.drop (i+1)) (j) (y) rfl rfl rfl rfl zbh (by rw[hsl];omega)) (kp_ [] rfl (zgL (i:=0) muE ((zfp (u.take i) x j++u.drop (i+1)).set (j) y) (j-1) rfl rfl rfl rfl (by decide) zcJ zbh (by omega) (by rw[List.length_set];exact hsl)) ?_);refine ki_ 0 rfl (zxe (n:=0) muE ((zfp (u.take i) x j++u.drop (i+1)).set (j) y) (j-1) (x) rfl rfl rfl rfl zbh (by rw[List.length_set,hsl];omega)) (zae (za 4 rfl (tq_ rfl (jsb (j-1) rfl) (zl 2 rfl ?_))));exact nx_ ⟨j-1,rfl,rfl,by rw[zr9 hj0 (by omega) hy],by omega,hg.step hj0 hy hlt⟩ rfl
    .refine kq_ rfl (ltF rfl (fun e=>hlt (zsL.1 e))) (dz 1 rfl (zae (za 10 rfl (tq_ rfl (jad (i+1) rfl) (zl 2 rfl ?_)))));exact nx_ ⟨i+1,_,rfl,rfl,rfl,by omega,hI.next hx hji hg (.inr ⟨y,hy,by simpa using hlt⟩)⟩ rfl
   .refine kq_ rfl (gtF rfl) (dz 14 rfl (zae (za 10 rfl (tq_ rfl (jad (i+1) rfl) (zl 2 rfl ?_)))));exact nx_ ⟨i+1,_,rfl,rfl,rfl,by omega,hI.next hx hji hg (.inl (by omega))⟩ rfl
  .refine tq_ rfl (ltF rfl) (zl 7 rfl (zcY [(0,some (D.own 0 l.length)),(1,some (D.val (.int .i64 ((l.length:Nat):Int)))),(2,some (D.val (.func (.func 120) #[] #[]))),(6,some (D.val (.int .i64 20))),(4004,some (D.own 0 l.length))] d9 s9 rfl rfl ⟨rfl,rfl,rfl,rfl,rfl,trivial⟩ (zl 3 rfl (zep 1 (rn_ (zc 5 rfl (tq_ rfl (ltF rfl) (zl 7 rfl ?_))))))));refine zcY [(2004,some (D.own 0 l.length))] d8 s8 rfl rfl ⟨rfl,trivial⟩ (zl 1 rfl (zcY [(4,some (D.own 0 l.length))] d7 s7 rfl rfl ⟨rfl,trivial⟩ (zl 3 rfl ?_)));have hul:=hI.len;have hsrt:Srt u:=by have:=hI.srt;rwa [zEY (by omega)] at this
   have hcu:zje u:=fun m hm=>hc m (hI.mem m hm);have hBu:MB B u:=fun m hm=>hB m (hI.mem m hm);refine zc 1 rfl (tq_ rfl (zcg rfl (rfl)) (zl 4 rfl (zgK 5 109 7 rfl rfl (zc 5 rfl ?_))));refine zbv (fun m Γ H=>∃(i2:Nat) (n:Nat) (out:List Mu),l.length-i2=m/\Γ=[(4,some (D.own 0 l.length)),(5,some (D.v (V.one (Leaf.own 1 n)))),(6,some (D.val (.int .i64 (i2:Int))))]/\H=[hrw 109 7 muE u,hgr 109 7 muE out n]/\i2<=l.length/\GrpOk u out i2) ⟨0,0,[],rfl,rfl,rfl,zEv _,GrpOk.start u⟩ rfl ?_;rintro m Γ H ⟨i2,n,out,rfl,rfl,rfl,hi20,hG⟩;refine zc 5 rfl (tq_ rfl (zdq rfl rfl rfl (by decide) rfl (El.len_sz hul rfl) (by decide) zcJ) ?_);by_cases hi2:i2<l.length
   .refine tq_ rfl (ltT rfl) (zl 7 rfl ?_);obtain⟨m0,h0⟩:∃m,u[i2]?=some m:=⟨_,zEp (by omega)⟩;refine zc 3 rfl (tq_ rfl (zgL (i:=0) muE u (i2) rfl rfl rfl rfl (by decide) zcJ zbh hi2 hul) (zl 1 rfl (tq_ rfl (zjd (i:=0) muE u (i2) (fo:=0) rfl rfl rfl (by decide) zxn h0 rfl) (zl 1 rfl (eq_ (D.agg (qL 0)) rfl (zBe) (zl 8 rfl ?_))))));refine zbv (fun m Γ H=>∃(i3:Nat) (sum:Rat),l.length-i3=m/\Γ=[(4,some (D.own 0 l.length)),(5,some (D.v (V.one (Leaf.own 1 n)))),(6,some (D.val (.int .i64 (i3:Int)))),(7,some (D.ptr 2 0)),(8,some (D.ptr 3 0))]/\H=[hrw 109 7 muE u,hgr 109 7 muE out n,hb_ 107 [Leaf.val (.int .i64 m0.r.kind),Leaf.val (.int .i64 m0.r.idx),Leaf.val (.int .i64 m0.r.lo),Leaf.val (.int .i64 m0.r.hi)],hb_ 36 (qL sum)]/\i3<=l.length/\InOk u m0.r i2 i3 sum/\Br sum (i3*(B+2))) ⟨i2,0,rfl,rfl,rfl,by omega,InOk.start u m0.r i2,Br.zero.mono (zEv _)⟩ rfl ?_;rintro m Γ H ⟨i3,sum,rfl,rfl,rfl,hi30,hS,hsB⟩;refine zc 2 rfl (nz_ [so 4 (D.own 0 l.length),so 5 (D.v (V.one (Leaf.own 1 n))),so 6 (D.val (.int .i64 (i3:Int))),so 7 (D.ptr 2 0),so 8 (D.ptr 3 0)] [hrw 109 7 muE u,hgr 109 7 muE out n,hb_ 107 [Leaf.val (.int .i64 m0.r.kind),Leaf.val (.int .i64 m0.r.idx),Leaf.val (.int .i64 m0.r.lo),Leaf.val (.int .i64 m0.r.hi)],hb_ 36 (qL sum)] rfl rfl (dr_ 0 [] [] (dz 2 rfl ?_)));refine kq_ rfl (zdq rfl rfl rfl (by decide) rfl (El.len_sz hul rfl) (by decide) zcJ) ?_;by_cases hi3:i3<l.length
    .refine kq_ rfl (ltT rfl) (dz 1 rfl ?_);obtain⟨x3,hx3⟩:∃m,u[i3]?=some m:=⟨_,zEp (by omega)⟩;haveI hx3B:=hBu x3 (zEq hx3);refine dz 2 rfl (kq_ rfl (zgL (i:=0) muE u (i3) rfl rfl rfl rfl (by decide) zcJ zbh (by omega) hul) (dz 1 rfl (kq_ rfl (zjd (i:=0) muE u (i3) (fo:=0) rfl rfl rfl (by decide) zxn hx3 rfl) (dz 1 rfl ?_))));by_cases he:x3.r=m0.r
     .refine kq_ rfl (zlc rfl rfl rfl zlO (d:=true) (zzq he)) (dz 1 rfl (zae (za 6 rfl ?_)));have hm3:=zEA (B+2) (show i3<=19 by omega);haveI hsB':=hsB;have hbr3:Br (sum+x3.c.q) ((i3+1)*(B+2)):=(inferInstance:Br (sum+x3.c.q) _).mono (by rw[Nat.succ_mul];omega);refine nz_ [so 4 _,so 5 _,so 6 _,so 7 _,so 8 _] [_,_,_,_] rfl rfl (dr_ 0 [(7,3)] [3] (kp_ [] rfl (zaI rfl rfl rfl (by decide) zmV (by decide) (zEw rfl) rfl) (dz 2 rfl (kq_ rfl (zgL (i:=0) muE u (i3) rfl rfl rfl rfl (by decide) zcJ zbh (by omega) hul) (dz 1 rfl ?_)))));refine kq_ rfl (zjd (i:=0) muE u (i3) (fo:=4) rfl rfl rfl (by decide) zmV hx3 rfl) (zjf (D.agg (qL x3.c.q)) rfl (zsz (hcu x3 (zEq hx3)).1) (kc_ zsr rfl (zBh (qOf (sum)) (sum) (zaj _) (Br.use (by omega)) (qOf (x3.c.q)) (x3.c.q) (zaj _) (Br.use (by omega))) (dz 1 rfl (zae (za 2 rfl ?_)))));refine nz_ [so 4 _,so 5 _,so 6 _,so 7 _,so 8 _] [_,_,_,hb_ 36 (qL ((sum)+(x3.c.q)))] rfl rfl (zc 2 rfl (tq_ rfl (jad (i3+1) rfl) (zl 2 rfl ?_)));exact nx_ ⟨i3+1,_,rfl,rfl,rfl,by omega,hS.step hx3 he (hcu x3 (zEq hx3)).2,hbr3⟩ rfl
     .refine kq_ rfl (zlc rfl rfl rfl zlO (d:=false) (zDp he)) (dz 1 rfl (zae (za 8 rfl ?_)));have hm3:=zEA (B+2) (show i3<=19 by omega);have hlt:i2<i3:=(by have h1:=hS.le;rcases Nat.lt_or_eq_of_le h1 with h|h <;> first|exact h|(subst h;rw[h0] at hx3;cases hx3;exact absurd rfl he));have hGn:=GrpOk.next hsrt hG hS h0 rfl hlt (fun m hm=>by rw[hx3] at hm;cases hm;exact he);have hol:=hG.len;refine zc 2 rfl (tc_ zjp rfl (zd5 (qOf (sum)) (sum) (zaj _) (Br.use (by omega))) ?_);by_cases hp:0<sum
      .refine tq_ rfl (gtT rfl (zd3.2 hp)) (zl 3 rfl (nz_ [so 4 _,so 5 _,so 6 _,so 7 _,so 8 _] [_,_,_,_] rfl rfl (zc 5 rfl (te_ rfl (zad rfl zcJ zbh zcZ rfl (by decide) (by decide) rfl (by decide) rfl) (te_ rfl (jap (e:=muE) (⟨m0.r,(qOf (sum))⟩) rfl rfl) (zl 3 rfl (zal 2 (zal 3 (zaM 2 rfl ?_)))))))));exact nx_ ⟨i3,_,_,rfl,rfl,rfl,by omega,(by rw[if_pos hp] at hGn;exact hGn)⟩ rfl
      .refine tq_ rfl (gtF rfl (fun e=>hp (zd3.1 e))) (zl 5 rfl (zal 2 (zal 3 (zaM 2 rfl ?_))));exact nx_ ⟨i3,_,_,rfl,rfl,rfl,by omega,(by rw[if_neg hp] at hGn;exact hGn)⟩ rfl
    .refine kq_ rfl (ltF rfl) (dz 9 rfl (zae (za 8 rfl ?_)));have hm3:=zEA (B+2) (show i3<=19 by omega);have hlt:i2<i3:=(by have h1:=hS.le;omega);have hGn:=GrpOk.next hsrt hG hS h0 rfl hlt (fun m hm=>by have:=(zEr.1 hm).1;omega);have hol:=hG.len;refine nz_ [so 4 _,so 5 _,so 6 _,so 7 _,so 8 _] [_,_,_,_] rfl rfl (zc 2 rfl (tc_ zjp rfl (zd5 (qOf (sum)) (sum) (zaj _) (Br.use (by omega))) ?_));by_cases hp:0<sum
     .refine tq_ rfl (gtT rfl (zd3.2 hp)) (zl 8 rfl (te_ rfl (zad rfl zcJ zbh zcZ rfl (by decide) (by decide) rfl (by decide) rfl) (te_ rfl (jap (e:=muE) (⟨m0.r,(qOf (sum))⟩) rfl rfl) (zl 3 rfl (zal 2 (zal 3 (zaM 2 rfl ?_)))))));exact nx_ ⟨i3,_,_,rfl,rfl,rfl,by omega,(by rw[if_pos hp] at hGn;exact hGn)⟩ rfl
     .refine tq_ rfl (gtF rfl (fun e=>hp (zd3.1 e))) (zl 5 rfl (zal 2 (zal 3 (zaM 2 rfl ?_))));exact nx_ ⟨i3,_,_,rfl,rfl,rfl,by omega,(by rw[if_neg hp] at hGn;exact hGn)⟩ rfl
   .refine tq_ rfl (ltF rfl) (zl 9 rfl ?_);have hie:i2=u.length:=by omega
    rw[hie] at hG;have hout:=zyh hc hI hG;refine nf_ [0] [so 5 (D.v (V.one (Leaf.own 1 n)))] [none,hgr 109 7 muE out n] rfl rfl rfl (zc 6 rfl ?_);exact zpi (fun _ _ h=>h) hX rfl (rowOk.own rfl rfl (by rw[hout])) rfl rfl
end Go.Proofs.YtjeiacoegppoiaaGreatDoor
namespace Rc
open Go Go.RowKit
theorem zi3(l:List Lm)(u:Int):∀n (i:Nat) (m:Lm),i<n->l[i]?=some m->m.unit=u →
  (m.up=false->(zcH l u n).1≠0/\m.v.q<=lv l (zcH l u n).1)/\(m.up=true->(zcH l u n).2≠0/\lv l (zcH l u n).2<=m.v.q)
 |0,i,m,hi,_,_=>by omega
 |n+1,i,m,hi,hm,hu=>by
  rw[za1]
  cases hx:l[n]? with
  |none=>
   have hin:i<n:=by have:=(zEr.1 hm).1;have:=List.getElem?_eq_none_iff.1 hx;omega
   unfold zo2;simp only[hx];exact zi3 l u n i m hin hm hu
  |some x=>
   have hlx:lv l (n+1)=x.v.q:=zgm (by simpa using hx);by_cases hin:i=n
   .subst hin;rw[hm] at hx;cases hx;refine⟨fun hup=>?_,fun hup=>?_⟩
    .by_cases hc:(zcH l u i).1=0\/lv l (zcH l u i).1<m.v.q
     .rw[zfX hm hu hup hc];exact⟨by simp,by rw[hlx];exact Rat.le_refl⟩
     .rw[ziZ hm hu hup hc];exact⟨fun e=>hc (.inl e),Rat.not_lt.1 (fun e=>hc (.inr e))⟩
    .by_cases hc:(zcH l u i).2=0\/m.v.q<lv l (zcH l u i).2
     .rw[zfW hm hu hup hc];exact⟨by simp,by rw[hlx];exact Rat.le_refl⟩
     .rw[ziY hm hu hup hc];exact⟨fun e=>hc (.inl e),Rat.not_lt.1 (fun e=>hc (.inr e))⟩
   .obtain⟨h1,h2⟩:=zi3 l u n i m (by omega) hm hu;by_cases hxu:x.unit=u
    .cases hxup:x.up
     .by_cases hc:(zcH l u n).1=0\/lv l (zcH l u n).1<x.v.q
      .rw[zfX hx hxu hxup hc];refine⟨fun hup=>⟨by simp,?_⟩,h2⟩;show m.v.q<=lv l (n+1);rw[hlx];rcases hc with hc|hc
       .exact absurd hc (h1 hup).1
       .exact Rat.le_of_lt (Std.lt_of_le_of_lt (h1 hup).2 hc)
      .rw[ziZ hx hxu hxup hc];exact⟨h1,h2⟩
     .by_cases hc:(zcH l u n).2=0\/x.v.q<lv l (zcH l u n).2
      .rw[zfW hx hxu hxup hc];refine⟨h1,fun hup=>⟨by simp,?_⟩⟩;show lv l (n+1)<=m.v.q;rw[hlx];rcases hc with hc|hc
       .exact absurd hc (h2 hup).1
       .exact Rat.le_of_lt (Std.lt_of_lt_of_le hc (h2 hup).2)
      .rw[ziY hx hxu hxup hc];exact⟨h1,h2⟩
    .rw[zkT hx hxu];exact⟨h1,h2⟩
theorem zk2{l:List Lm}{u:Int}{m:Lm}(hm:m∈l)(hu:m.unit=u):(m.up=false->(zak l u).1≠0/\m.v.q<=lv l (zak l u).1)/\(m.up=true->(zak l u).2≠0/\lv l (zak l u).2<=m.v.q):=by
 obtain⟨i,hi⟩:=List.getElem?_of_mem hm;exact zi3 l u l.length i m (zEr.1 hi).1 hi hu
theorem zgD{l r:List Lm}{u:Int}:((zak l u).1≠0->(zak (l++r) u).1≠0/\lv l (zak l u).1<=lv (l++r) (zak (l++r) u).1)/\((zak l u).2≠0->(zak (l++r) u).2≠0/\lv (l++r) (zak (l++r) u).2<=lv l (zak l u).2):=by
 refine⟨fun h=>?_,fun h=>?_⟩
 .obtain⟨m,h1,h2,h3,h4,_⟩:=zbj h;rw[h4];exact(zk2 (List.mem_append_left _ (zEq h1)) h2).1 h3
 .obtain⟨m,h1,h2,h3,h4,_⟩:=zbu h;rw[h4];exact(zk2 (List.mem_append_left _ (zEq h1)) h2).2 h3
theorem zzZ{s:Sc}(h:SOk s){f:Af}{b:Nat}(hf:FOk b (s.q.g.inp+s.q.g.us.length) f)(hb:b<=9):DerOk s (7*(8*135001+50)) 14 (abL s f):=by
 have:=ztt h.q h.B hf hb f.ts.length
 rwa [zEM] at this
theorem zj5{s:Sc}(h:QOk s.q){j:Nat}{p:Af}(hp:s.q.g.us[j]?=some p):FOk 3 (s.q.g.inp+s.q.g.us.length) p:=(h.g.us j p hp).mono (zEt _) (by have:=(zEr.1 hp).1;omega)
def sl(s:Sc)(up:Bool)(p:Af):List Mu:=if up=true then abL s (zbo p) else abL s p
theorem zb8{ts:List Tm}{c:Rat}(h:CanT ts):CanT (scT ts c):=by rw[zed];exact zfK h
theorem zqa{ts:List Tm}{c:Rat}(h:CanT ts)(v:Nat):co (scT ts c) v=co ts v*c:=by rw[zed];exact zjT h v
theorem zsI{f g:Af}(hf:CanT f.ts)(hg:CanT g.ts)(v:Nat):co (zfz f g).ts v=co f.ts v+co g.ts v:=zfU hf hg v
theorem zc3{f:Af}{c:Rat}(hf:CanT f.ts)(v:Nat):co (fSc f c).ts v=co f.ts v*c:=zqa hf v
theorem zbc{f g:Af}(hf:CanT f.ts)(hg:CanT g.ts)(v:Nat):co (zbQ f g).ts v=co f.ts v-co g.ts v:=by
 show co (zgQ f.ts (scT g.ts ((-1:Int):Rat))) v=_;rw[zfU hf (zb8 hg),zqa hg,m1];grind
theorem zbi{f g:Af}(hf:CanT f.ts):CanT (zbQ f g).ts:=zch hf
theorem zdJ(v:Nat):CanT (fV v).ts:=⟨by decide,fun t ht=>by simp at ht,trivial⟩
theorem zdK(c:Rat):CanT (fN c).ts:=trivial
theorem zjh(w v:Nat):co (fV w).ts v=if w=v then 1 else 0:=by
 show(if w=v then((1:Int):Rat) else co [] v)=_;rw[p1];rfl
theorem zji(c:Rat)(v:Nat):co (fN c).ts v=0:=rfl
def coR(s:Sc)(v:Nat)(r:Rw):Rat:=co (zaz s r).1.ts v
section
variable {s:Sc}
theorem zvd(hq:QOk s.q){w:Nat}(hw:w<s.q.g.inp+s.q.g.us.length)(v:Nat):W (coR s v) (zcB s.q.g.inp w)=if w=v then 1 else 0:=by
 unfold zcB;split
 .have:=hq.r.lo;obtain⟨c,hc⟩:∃c,s.q.r.lo[w]?=some c:=⟨_,zEp (by omega)⟩;simp only[W,coR,zky hc,zaj,p1];rw[zbc (zdJ _) (zdK _),zjh,zji];grind
 .rename_i h;obtain⟨p,hp⟩:∃p,s.q.g.us[w-s.q.g.inp]?=some p:=⟨_,zEp (by omega)⟩;simp only[W,coR,ze2 hp,zaj,p1];rw[zjh,show s.q.g.inp+(w-s.q.g.inp)=w by omega];grind
theorem zzx(hq:QOk s.q){w:Nat}{l:List Mu}(hw:w<s.q.g.inp+s.q.g.us.length)(h:zbY s.q.g.inp s.lems w=some l)(v:Nat):W (coR s v) l=if w=v then -1 else 0:=by
 unfold zbY at h;split at h
 .rename_i hi;cases h;have:=hq.r.hi;obtain⟨c,hc⟩:∃c,s.q.r.hi[w]?=some c:=⟨_,zEp (by omega)⟩;simp only[W,coR,zkz hc,zaj,p1];rw[zbc (zdK _) (zdJ _),zjh,zji];grind
 .rename_i hi;obtain⟨p,hp⟩:∃p,s.q.g.us[w-s.q.g.inp]?=some p:=⟨_,zEp (by omega)⟩;have hpc:=(hq.g.us _ p hp).can;have hwi:s.q.g.inp+(w-s.q.g.inp)=w:=by omega
  split at h
  .cases h
  .rename_i hb;obtain⟨y,hy,yu,yp,hly,hy0,hyl⟩:=zbj (fun e=>hb (.inl e));obtain⟨z,hz,zu,zp,hlz,hz0,hzl⟩:=zbu (fun e=>hb (.inr e));rw[hlz,hly] at h;split at h
   .rename_i hu;cases h;simp only[W,coR,zgu hp hz0 hz zu zp hu,zaj,p1];rw[zc3 (zdJ _),zjh,hwi,m1];grind
   .rename_i hu;split at h
    .rename_i hl;cases h;simp only[W,coR,ziO hp hy0 hy yu yp hl,zfT hp hz0 hz zu zp,zaj,p1];rw[zbc hpc (zdJ _),zbc (zdK _) hpc,zjh,zji,hwi];grind
    .rename_i hl;cases h;have h1:0<z.v.q:=by grind
     have h2:z.v.q-y.v.q≠0:=by grind
     simp only[W,coR,zfT hp hz0 hz zu zp,zgt hp hy0 hy yu yp hz0 hz zu zp (by grind) h1,zaj,p1];rw[zbc (zdK _) hpc,zji,zbc (f:=fSc (zbQ p (fN y.v.q)) z.v.q) (zb8 (zbi hpc)) (zb8 (zdJ _)),zc3 (zbi hpc),zbc hpc (zdK _),zji,zc3 (zdJ _),zjh,hwi];have h3:(z.v.q-y.v.q)*(1/(z.v.q-y.v.q))=1:=by rw[Rat.div_def,Rat.one_mul];exact Rat.mul_inv_cancel _ h2
     generalize 1/(z.v.q-y.v.q)=k at *;split <;> grind
def coS(v:Nat):List Tm->Rat
 |[]=>0
 |t::ts=>(if t.1=v then t.2 else 0)+coS v ts
theorem zoY{v:Nat}:∀{ts:List Tm},CanT ts->coS v ts=co ts v
 |[],_=>rfl
 |(w,d)::ts,h=>by
  obtain⟨h1,h2,h3⟩:=h;show(if w=v then d else 0)+coS v ts=if w=v then d else co ts v;rw[zoY h3];split
  .rename_i e;subst e;rw[zdb h2];grind
  .grind
theorem zzY(hq:QOk s.q){v:Nat}{a:List Mu×Bool}{t:Tm}(hv:t.1<s.q.g.inp+s.q.g.us.length)(h:(zfG s.q.g.inp s.lems a t).2=true):W (coR s v) (zfG s.q.g.inp s.lems a t).1=W (coR s v) a.1+if t.1=v then t.2 else 0:=by
 unfold zfG at h ⊢;split at h
 .rename_i ha;rw[if_pos ha];split at h
  .rename_i hp;rw[if_pos hp];simp only[];rw[zeB,zvd hq hv,zjX,if_neg (by grind)];split <;> grind
  .rename_i hp;rw[if_neg hp];split at h
   .rename_i l hl;simp only[hl];rw[zeB,zzx hq hv hl,zjX];split
    .split <;> grind
    .have:t.2=0:=by grind
     rw[this];split <;> grind
   .simp at h
 .rename_i ha;exact absurd h ha
theorem zts(hq:QOk s.q){v:Nat}:∀(ts:List Tm) (a:List Mu×Bool),(∀t∈ts,t.1<s.q.g.inp+s.q.g.us.length)->(ts.foldl (zfG s.q.g.inp s.lems) a).2=true->W (coR s v) (ts.foldl (zfG s.q.g.inp s.lems) a).1=W (coR s v) a.1+coS v ts
 |[],a,_,_=>by simp only[List.foldl_nil,coS];grind
 |t::ts,a,hv,h=>by
  have h2:(zfG s.q.g.inp s.lems a t).2=true:=by
   cases e:(zfG s.q.g.inp s.lems a t).2
   .have:=zk4 (inp:=s.q.g.inp) (lems:=s.lems) ts _ e;rw[List.foldl_cons] at h;rw[this] at h;simp at h
   .rfl
  rw[List.foldl_cons,zts hq ts _ (fun x hx=>hv x (by simp[hx])) h,zzY hq (hv t (by simp)) h2];simp only[coS];grind
theorem zwc(hs:SOk s){v:Nat}:∀(l:List Mu) (a:Af),CanT a.ts->CanT (l.foldl (fun a m=>zfz a (fSc (zaz s m.r).1 m.c.q)) a).ts/\co (l.foldl (fun a m=>zfz a (fSc (zaz s m.r).1 m.c.q)) a).ts v=co a.ts v+W (coR s v) l
 |[],a,h=>⟨h,by simp only[List.foldl_nil,W];grind⟩
 |m::l,a,h=>by
  have hc:=(zhW (r:=m.r) hs.q hs.d hs.B).can;obtain⟨i1,i2⟩:=zwc hs (v:=v) l (zfz a (fSc (zaz s m.r).1 m.c.q)) (zch h);refine⟨i1,?_⟩;rw[List.foldl_cons,i2,zsI h (zb8 hc),zc3 hc];simp only[W,coR];grind
theorem zDZ(hs:SOk s){f:Af}{n:Nat}(hf:FOk 3 n f)(hn:n<=s.q.g.inp+s.q.g.us.length)(hb:abB s f=true)(v:Nat):CanT (zeR s (abL s f)).ts/\co (zeR s (abL s f)).ts v=co f.ts v:=by
 obtain⟨h1,h2⟩:=zwc hs (v:=v) (abL s f) fZ trivial;refine⟨h1,?_⟩;have h3:=zts hs.q (v:=v) f.ts ([],true) (fun t ht=>zEy (hf.var t ht) hn) hb;have h3:W (coR s v) (abL s f)=W (coR s v) []+coS v f.ts:=h3;show co (List.foldl _ fZ (abL s f)).ts v=_;rw[h2,h3,zoY hf.can];simp only[W,fZ,co];grind
theorem zoW{ts:List Tm}(h:CanT ts)(h0:∀v,co ts v=0):ts=[]:=ziT h trivial h0
end
def zx7(p:Af)(m:Lm):Af:=if m.up=true then fSc (zbQ p (fN m.v.q)) ((-1:Int):Rat) else zbQ p (fN m.v.q)
structure DerL(s:Sc)(m:Lm):Prop where
 lok:LOk s.q m
 can:CanM m.pf
 bd:MB 60000000 m.pf
 len:m.pf.length<=14
 ok:∀x∈m.pf,(zaz s x.r).2=true
 sum:∀p,s.q.g.us[m.unit.toNat]?=some p->(zbQ (zx7 p m) (zeR s m.pf)).ts=[]/\0<=(zbQ (zx7 p m) (zeR s m.pf)).c
theorem zh0{s:Sc}(hs:SOk s){j:Nat}{up:Bool}{p:Af}(hp:s.q.g.us[j]?=some p){x:Rat}(hx:Hb x (KB j))
  (hb:abB s (if up=true then zbo p else p)=true) (hle:if up=true then -(abQ s (zbo p))<=x else x<=abQ s p):DerL s ⟨(j:Int),up,qOf x,abL s (if up=true then zbo p else p)⟩:=by
 have hj:=(zEr.1 hp).1;have hpo:=zj5 hs.q hp;have hfo:FOk 3 (s.q.g.inp+s.q.g.us.length) (if up=true then zbo p else p):=by
  split
  .exact hpo.neg
  .exact hpo
 have hd:=zzZ hs hfo (by omega);refine⟨zl8 (f:=p) hs hj hx,hd.can,hd.bd.mono (by omega),hd.len,hd.ok,fun q hq=>?_⟩;have:q=p:=by
  have e:s.q.g.us[j]?=some q:=hq;rw[hp] at e;exact(Option.some.inj e).symm
 subst this;have hS:=zDZ hs hfo (zEt _) hb;have hSc:=(hS 0).1;have hQ:abQ s (if up=true then zbo q else q)=(if up=true then zbo q else q).c-(zeR s (abL s (if up=true then zbo q else q))).c:=by
  unfold abQ;rw[if_pos hb];show _+_*((-1:Int):Rat)=_;rw[m1];grind
 have hpc:=hpo.can;unfold zx7;cases up
 .simp only[zEL,if_false] at *;rw[zaj];refine⟨zoW (zbi (zbi hpc)) (fun v=>?_),?_⟩
  .rw[zbc (zbi hpc) hSc,zbc hpc (zdK _),zji,(hS v).2];grind
  .show 0<=(q.c+x*((-1:Int):Rat))+(zeR s (abL s q)).c*((-1:Int):Rat);rw[m1];grind
 .simp only[if_true] at *;rw[zaj];have hnc:(zbo q).c=q.c*((-1:Int):Rat):=rfl;rw[hnc,m1] at hQ;refine⟨zoW (zbi (zb8 (zbi hpc))) (fun v=>?_),?_⟩
  .rw[zbc (f:=fSc (zbQ q (fN x)) ((-1:Int):Rat)) (zb8 (zbi hpc)) hSc,zc3 (zbi hpc),zbc hpc (zdK _),zji,(hS v).2,zc3 hpc,m1];grind
  .show 0<=(q.c+x*((-1:Int):Rat))*((-1:Int):Rat)+(zeR s (abL s (zbo q))).c*((-1:Int):Rat);rw[m1];grind
theorem zhT{l r:List Lm}{n u:Int}{up:Bool}(h:(lem l n u up).2=true):lem (l++r) n u up=lem l n u up:=by
 unfold lem at h ⊢;split at h
 .simp at h
 .rename_i hn;rw[if_neg hn,if_neg hn]
  cases hm:l[(n-1).toNat]? with
  |none=>rw[hm] at h;simp at h
  |some m=>rw[zEx (zEr.1 hm).1,hm]
section
variable {s:Sc}{l r:List Lm}{w:Rw}
theorem zoo(h:onB (withL s l) w=true):onB (withL s (l++r)) w=true:=by
 unfold onB zpR zdk at h ⊢;simp only[zED,Bool.or_eq_true] at h ⊢;refine⟨h.1,h.2.elim .inl (fun h=>.inr ?_)⟩;have e:lem (withL s (l++r)).lems w.lo w.idx false=lem (withL s l).lems w.lo w.idx false:=zhT h.1;rw[e];exact h
theorem zl4(h:zhy (withL s l) w=true):zhy (withL s (l++r)) w=true:=by
 unfold zhy zpw zdd at h ⊢;simp only[zED,Bool.or_eq_true] at h ⊢;refine⟨h.1,h.2.elim .inl (fun h=>.inr ?_)⟩;have e:lem (withL s (l++r)).lems w.hi w.idx true=lem (withL s l).lems w.hi w.idx true:=zhT h.1;rw[e];exact h
theorem zpu{p:Af}(h:(za5 (withL s l) w p).2=true):za5 (withL s (l++r)) w p=za5 (withL s l) w p:=by
 have hlow:zpR (withL s l) w=true->lem (withL s (l++r)).lems w.lo w.idx false=lem (withL s l).lems w.lo w.idx false:=fun h=>zhT h;have htop:zpw (withL s l) w=true->lem (withL s (l++r)).lems w.hi w.idx true=lem (withL s l).lems w.hi w.idx true:=fun h=>zhT h;unfold za5 at h ⊢;by_cases h5:w.kind=5
 .rw[if_pos h5,if_pos h5];rfl
 rw[if_neg h5] at h;rw[if_neg h5,if_neg h5];by_cases h6:w.kind=6
 .rw[if_pos h6,if_pos h6];rfl
 rw[if_neg h6] at h;rw[if_neg h6,if_neg h6];by_cases h7:w.kind=7
 .rw[if_pos h7] at h;rw[if_pos h7,if_pos h7,zoo h,show onB (withL s l) w=true from h]
 rw[if_neg h7] at h;rw[if_neg h7,if_neg h7];by_cases h8:w.kind=8
 .rw[if_pos h8] at h;rw[if_pos h8,if_pos h8,zoo h,show onB (withL s l) w=true from h];rfl
 rw[if_neg h8] at h;rw[if_neg h8,if_neg h8];by_cases h9:w.kind=9
 .rw[if_pos h9] at h;rw[if_pos h9,if_pos h9,zl4 h,show zhy (withL s l) w=true from h]
 rw[if_neg h9] at h;rw[if_neg h9,if_neg h9];by_cases h10:w.kind=10
 .rw[if_pos h10] at h;rw[if_pos h10,if_pos h10,zl4 h,show zhy (withL s l) w=true from h];rfl
 rw[if_neg h10] at h;rw[if_neg h10,if_neg h10];by_cases h11:w.kind=11
 .rw[if_pos h11] at h;rw[if_pos h11,if_pos h11];simp only[zED] at h;unfold zdk zpR at *;rw[hlow h.1]
 rw[if_neg h11] at h;rw[if_neg h11,if_neg h11];by_cases h12:w.kind=12
 .rw[if_pos h12] at h;rw[if_pos h12,if_pos h12];simp only[zED] at h;unfold zdd zpw at *;rw[htop h.1]
 rw[if_neg h12] at h;rw[if_neg h12,if_neg h12];by_cases h13:w.kind=13
 .rw[if_pos h13] at h;rw[if_pos h13,if_pos h13];simp only[zED] at h;unfold zdk zpR zdd zpw at *;rw[hlow h.1.1.1,htop h.1.1.2];rfl
 rw[if_neg h13] at h;simp at h
theorem zjQ(h:(zaz (withL s l) w).2=true):zaz (withL s (l++r)) w=zaz (withL s l) w:=by
 unfold zaz at h ⊢;by_cases h5:5<=w.kind
 .rw[if_pos h5] at h;rw[if_pos h5,if_pos h5];unfold zhv at h ⊢;by_cases hi:w.idx<0
  .rw[if_pos hi,if_pos hi]
  .rw[if_neg hi] at h;rw[if_neg hi,if_neg hi];have eq0:(withL s (l++r)).q=(withL s l).q:=rfl;rw[eq0]
   cases hp:(withL s l).q.g.us[w.idx.toNat]? with
   |none=>rfl
   |some p=>
    rw[hp] at h;simp only[orZ] at h ⊢;by_cases hu:(za5 (withL s l) w p).2=true
    .rw[zpu hu]
    .rw[if_neg hu] at h;simp at h
 .rw[if_neg h5,if_neg h5];rfl
theorem zlr:∀(ms:List Mu) (a:Af),(∀m∈ms,(zaz (withL s l) m.r).2=true)->ms.foldl (fun a m=>zfz a (fSc (zaz (withL s (l++r)) m.r).1 m.c.q)) a=ms.foldl (fun a m=>zfz a (fSc (zaz (withL s l) m.r).1 m.c.q)) a
 |[],_,_=>rfl
 |m::ms,a,h=>by
  rw[List.foldl_cons,List.foldl_cons,zjQ (h m (by simp)),zlr ms _ (fun x hx=>h x (by simp[hx]))]
theorem DerL.more{m:Lm}(h:DerL (withL s l) m):DerL (withL s (l++r)) m:=
 ⟨h.lok,h.can,h.bd,h.len,fun x hx=>by rw[zjQ (h.ok x hx)];exact h.ok x hx,fun p hp=>by
  have e:zeR (withL s (l++r)) m.pf=zeR (withL s l) m.pf:=zlr m.pf fZ h.ok;rw[e];exact h.sum p hp⟩
def DerA(s:Sc)(l:List Lm):Prop:=∀(i:Nat) (m:Lm),l[i]?=some m->DerL (withL s (l.take i)) m
theorem DerA.nil:DerA s []:=fun i m h=>by simp at h
theorem DerA.snoc{m:Lm}(h:DerA s l)(hm:DerL (withL s l) m):DerA s (l++[m]):=fun i x hx=>by
 by_cases hi:i<l.length
 .rw[zEx hi] at hx;rw[List.take_append_of_le_length (by omega)];exact h i x hx
 .have:i=l.length:=by have:=(zEr.1 hx).1;simp at this;omega
  subst this;rw[List.getElem?_append_right (zEt _),Nat.sub_self] at hx;simp only[List.getElem?_cons_zero,zEs] at hx;subst hx
  rwa [List.take_append_of_le_length (zEt _),zEM]
theorem zlC{bits:Int}(h0:0<=bits)(h4:bits<=4096){j:Nat}{up:Bool}{p:Af}(hs:SOk (withL s l))(hp:s.q.g.us[j]?=some p)(hA:DerA s l):DerA s (l++zds zDW (withL s l) bits j up p):=by
 have hj:=(zEr.1 hp).1;have hK:=zk7 (j:=j) (by have:=hs.q.g.u4;have e:(withL s l).q=s.q:=rfl;rw[e] at this;omega);have hpo:=hs.q.g.us j p hp;have hK1:5000<=KB j:=zvP j;unfold zds;split
 .rename_i hb;rw[zED] at hb;have hb1:=hb.1;refine hA.snoc ?_;unfold zig at hb1;cases up
  .rw[if_neg (by decide)] at hb1;have h1:Hb (abQ (withL s l) p) (KB j-4200):=zeO hs hj hpo hb1;exact zh0 (up:=false) hs hp ((zd4 (up:=false) (bits:=bits) h1 (by omega)).mono (by omega)) hb1 (zke h1 (by omega) h0 h4).1
  .rw[if_pos rfl] at hb1;haveI h1:Hb (abQ (withL s l) (zbo p)) (KB j-4200):=zeO hs hj hpo.neg hb1;have h2:Hb (-(abQ (withL s l) (zbo p))) (KB j-4200):=Hb.neg;exact zh0 (up:=true) hs hp ((zd4 (up:=true) (bits:=bits) h2 (by omega)).mono (by omega)) hb1 (zke h2 (by omega) h0 h4).2
 .rw[zEN];exact hA
end
theorem zrb{s:Sc}(hs:SOk s)(h80:s.lems.length<=80){bits:Int}(h0:0<=bits)(h4:bits<=4096)(hA:DerA s s.lems):∀n,n<=s.q.g.us.length->DerA s (Rc.runN zDW s bits n)
 |0,_=>hA
 |n+1,hn=>by
  obtain⟨p,hp⟩:∃p,s.q.g.us[n]?=some p:=⟨_,zEp (by omega)⟩;have ih:=zrb hs h80 h0 h4 hA n (by omega);have h1:=zff znI hs h80 (bits:=bits) (n:=n) (by omega);have h2:=zeU znI hs h80 bits n (by omega);have h3:=zgS znI hs (bits:=bits) h1 hp;have h4':=hs.q.g.u4;have hAA:DerA s (za8 zDW s bits (Rc.runN zDW s bits n) n p):=zlC h0 h4 h1 hp ih;rw[zcV hp];exact zlC h0 h4 (LOk.withL hs h3.1 (by omega)) hp hAA
theorem zpd{s:Sc}(hs:SOk s)(h80:s.lems.length<=80)(hA:DerA s s.lems):∀n,n<=s.q.g.us.length->DerA s (bdN s n)
 |0,_=>hA
 |n+1,hn=>by
  obtain⟨p,hp⟩:∃p,s.q.g.us[n]?=some p:=⟨_,zEp (by omega)⟩;have hj:=(zEr.1 hp).1;have ih:=zpd hs h80 hA n (by omega);have h1:=znC hs h80 (n:=n) (by omega);have hK:=zk7 (j:=n) (by have:=hs.q.g.u4;omega);have hpo:=hs.q.g.us n p hp;rw[zhb hp];have hlow:DerA s (bdN s n++bdA s (bdN s n) n p):=by
   unfold bdA;split
   .rename_i hb;have hq:Hb (abQ (withL s (bdN s n)) p) (KB n-4200):=zeO h1 hj hpo hb;exact ih.snoc (zh0 (up:=false) h1 hp (hq.mono (by omega)) hb Rat.le_refl)
   .rw[zEN];exact ih
  unfold bdB;split
  .rename_i hb;haveI hq:Hb (abQ (withL s (bdN s n)) (zbo p)) (KB n-4200):=zeO h1 hj hpo.neg hb;have h2:Hb (-(abQ (withL s (bdN s n)) (zbo p))) (KB n):=(Hb.neg (i:=KB n-4200)).mono (by omega);exact hlow.snoc (DerL.more (zh0 (up:=true) h1 hp h2 hb Rat.le_refl))
  .rw[zEN];exact hlow
theorem zsu(l:List Nat):DerA (zbg l) (zbg l).lems:=by
 by_cases hp:0<zqs l%3
 .have e:zbg l=zfu (zgk l):=if_pos hp;rw[e];have:=zpd (zkj l) (zEv _) (show DerA (zgk l) (zgk l).lems from DerA.nil) _ (zEt _);exact this
 .have e:zbg l=zgk l:=if_neg hp;rw[e];exact DerA.nil
def zf7(x:Mu):Bool:=decide (x.c.n.length<=4)&&decide (x.c.d.length<=4)
def zeS(m:Lm):Bool:=(decide (m.v.n.length<=4)&&(decide (m.v.d.length<=4)&&decide (m.pf.length<=30)))&&m.pf.all zf7
def zn8(l:List Lm):Bool:=l.all zeS&&decide (l.length<=20)
theorem zj6{m:Lm}(h:¬(m.v.n.length<=4/\m.v.d.length<=4/\m.pf.length<=30)):zeS m=false:=by
 unfold zeS;cases hb:(decide (m.v.n.length<=4)&&(decide (m.v.d.length<=4)&&decide (m.pf.length<=30)))
 .rfl
 .simp only[zED,decide_eq_true_eq] at hb;exact absurd hb h
theorem zn7{m:Lm}{j:Nat}{x:Mu}(hx:m.pf[j]?=some x)(h:¬(x.c.n.length<=4/\x.c.d.length<=4)):zeS m=false:=by
 unfold zeS;have:zf7 x=false:=by
  unfold zf7;cases hb:(decide (x.c.n.length<=4)&&decide (x.c.d.length<=4))
  .rfl
  .simp only[zED,decide_eq_true_eq] at hb;exact absurd hb h
 rw[show m.pf.all zf7=false from by
  cases h2:m.pf.all zf7
  .rfl
  .have:=List.all_eq_true.1 h2 x (zEq hx);simp_all,Bool.and_false]
theorem zf8{l:List Lm}{i:Nat}{m:Lm}(hm:l[i]?=some m)(h:zeS m=false):zn8 l=false:=by
 unfold zn8;rw[show l.all zeS=false from by
  cases h2:l.all zeS
  .rfl
  .have:=List.all_eq_true.1 h2 m (zEq hm);simp_all,Bool.false_and]
theorem zpe{α:Type}{f:α->Bool}{l:List α}{i:Nat}{x:α}(hx:l[i]?=some x)(h:(l.take i).all f=true)(hp:f x=true):(l.take (i+1)).all f=true:=by
 rw[zaO hx,List.all_append,h];simp[hp]
theorem zua{m:Lm}(h:m.v.n.length<=4/\m.v.d.length<=4/\m.pf.length<=30)(h2:m.pf.all zf7=true):zeS m=true:=by
 unfold zeS;rw[h2,decide_eq_true h.1,decide_eq_true h.2.1,decide_eq_true h.2.2];rfl
def lvr(l:List Lm)(n:Nat):Qr:=match l[n-1]? with|some m=>m.v|none=>qZero
theorem zcv{l:List Lm}{n:Nat}{m:Lm}(h:l[n-1]?=some m):lvr l n=m.v:=by unfold lvr;rw[h]
def zko(r:Rw):List Mu:=[⟨r,qOf ((1:Int):Rat)⟩]
def zwH(up:Bool)(i:Nat)(b:Rat×Rw)(k:Nat)(d:Dc):Rat×Rw:=
 if d.kind=(if up=true then 4 else 3)/\d.idx=i/\(if up=true then d.pt<b.1 else b.1<d.pt) then(d.pt,⟨4,(k:Int),0,0⟩) else b
def zoE(s:Sc)(i:Nat)(up:Bool):Rat×Rw:=if up=true then((s.q.r.hi[i]?).getD 0,⟨2,(i:Int),0,0⟩) else((s.q.r.lo[i]?).getD 0,⟨1,(i:Int),0,0⟩)
def inpT(s:Sc)(i:Nat)(up:Bool)(b:Rat×Rw)(k:Nat):Rat×Rw:=match s.path[k]? with|some d=>zwH up i b k d|none=>b
def zgq(s:Sc)(i:Nat)(up:Bool)(n:Nat):Rat×Rw:=(List.range n).foldl (inpT s i up) (zoE s i up)
def zhV(s:Sc)(i:Nat)(up:Bool):Rat×Rw:=zgq s i up s.path.length
theorem zek{s:Sc}{i:Nat}{up:Bool}{n:Nat}{d:Dc}(h:s.path[n]?=some d):zgq s i up (n+1)=zwH up i (zgq s i up n) n d:=by
 unfold zgq;rw[List.range_succ,zER];simp only[List.foldl_cons,List.foldl_nil];show inpT s i up _ n=_;unfold inpT;rw[h]
@[reducible] def bLo(s:Sc)(j:Nat):Nat:=(zak s.lems (j:Int)).1
@[reducible] def bHi(s:Sc)(j:Nat):Nat:=(zak s.lems (j:Int)).2
@[reducible] def zsB(s:Sc)(j:Nat):Bool:=zeM s.path 1 (j:Int)
@[reducible] def zsC(s:Sc)(j:Nat):Bool:=zeM s.path 2 (j:Int)
def zmb(s:Sc)(j:Nat):Qr×List Mu:=
 if bLo s j≠0/\0<lv s.lems (bLo s j) then(lvr s.lems (bLo s j),[⟨⟨6,(j:Int),0,0⟩,qOf ((1:Int):Rat)⟩,⟨⟨11,(j:Int),(bLo s j:Int),0⟩,qOf ((1:Int):Rat)⟩])
 else(qZero,zko ⟨5,(j:Int),0,0⟩)
def zdl(s:Sc)(j:Nat):Option (Qr×List Mu):=
 if zsC s j=true\/(bHi s j≠0/\lv s.lems (bHi s j)<=0) then some (qZero,zko ⟨10,(j:Int),0,if zsC s j=true then 0 else(bHi s j:Int)⟩)
 else if bHi s j=0 then none
 else if zsB s j=true\/(bLo s j≠0/\0<=lv s.lems (bLo s j)) then some (lvr s.lems (bHi s j),[⟨⟨8,(j:Int),if zsB s j=true then 0 else(bLo s j:Int),0⟩,qOf ((1:Int):Rat)⟩,⟨⟨12,(j:Int),0,(bHi s j:Int)⟩,qOf ((1:Int):Rat)⟩])
 else if bLo s j=0 then none
 else some (lvr s.lems (bHi s j),[⟨⟨12,(j:Int),0,(bHi s j:Int)⟩,qOf (lv s.lems (bHi s j)*(((1:Int):Rat)/(lv s.lems (bHi s j)-lv s.lems (bLo s j))))⟩,⟨⟨13,(j:Int),(bLo s j:Int),(bHi s j:Int)⟩,qOf (((1:Int):Rat)/(lv s.lems (bHi s j)-lv s.lems (bLo s j)))⟩])
def zi0(s:Sc)(v:Nat)(up:Bool):Option (Qr×List Mu):=
 if v<s.q.g.inp then some (qOf (zhV s v up).1,zko (zhV s v up).2)
 else if up=true then zdl s (v-s.q.g.inp) else some (zmb s (v-s.q.g.inp))
def zmD(s:Sc)(a:Option (Rat×List Mu))(t:Tm):Option (Rat×List Mu):=
 match a with
 |none=>none
 |some (x,l)=>match zi0 s t.1 (decide (t.2<0)) with
  |none=>none
  |some (b,m)=>some (x+t.2*b.q,zaU l m (rq false (zaw t.2) (zaE t.2)))
def zhE(s:Sc)(f:Af)(n:Nat):Option (Rat×List Mu):=(f.ts.take n).foldl (zmD s) (some (f.c,[]))
def zlh(s:Sc)(f:Af):Option (Rat×List Mu):=zhE s f f.ts.length
def zbM:Dom:=fun s f=>match zlh s f with|some (x,l)=>(x,l,true)|none=>(0,[],false)
theorem zc4{s:Sc}{f:Af}{n:Nat}{t:Tm}(h:f.ts[n]?=some t):zhE s f (n+1)=zmD s (zhE s f n) t:=by
 unfold zhE;rw[zaO h,zER];rfl
theorem zmC{s:Sc}:∀(ts:List Tm),ts.foldl (zmD s) none=none
 |[]=>rfl
 |t::ts=>zmC ts
theorem zmE{s:Sc}{f:Af}{n:Nat}(h:zhE s f n=none):zlh s f=none:=by
 unfold zlh zhE at *;rw[zEM]
 conv=>lhs;rw[<-List.take_append_drop n f.ts,zER,h]
 exact zmC _
theorem zc5{s:Sc}{f:Af}{x:Rat}{l:List Mu}(h:zlh s f=some (x,l)):zbM s f=(x,l,true):=by unfold zbM;rw[h]
theorem zen{s:Sc}{f:Af}(h:zlh s f=none):zbM s f=(0,[],false):=by unfold zbM;rw[h]
section
variable {s:Sc}
theorem zsi{k:Nat}{d:Dc}(hd:s.path[k]?=some d)(h3:3<=d.kind):zaz s ⟨4,(k:Int),0,0⟩=(zeZ d,true):=by
 unfold zaz;rw[if_neg (by show ¬(5:Int)<=4;decide),if_neg (by show ¬((0:Int)≠0\/(0:Int)≠0\/(k:Int)<0);omega),if_neg (by show ¬(4:Int)=1;decide),if_neg (by show ¬(4:Int)=2;decide),if_neg (by show ¬(4:Int)=3;decide),if_pos rfl];simp only[zgP,hd];rw[if_pos h3]
theorem zpX{j n:Nat}{p:Af}{m:Lm}(hp:s.q.g.us[j]?=some p)(hn:0<n)(hm:s.lems[n-1]?=some m)(hu:m.unit=(j:Int))(hup:m.up=false) :
  zaz s ⟨11,(j:Int),(n:Int),0⟩=(zbQ p (fN m.v.q),true):=
 zcx (by decide) hp (by
  unfold za5;rw[if_neg (by simp),if_neg (by simp),if_neg (by simp),if_neg (by simp),if_neg (by simp),if_neg (by simp),if_pos rfl];unfold zpR zdk;simp only[zjL hn hm hu hup];simp)
theorem zoL{j:Nat}{p:Af}(hp:s.q.g.us[j]?=some p)(hd:zeM s.path 1 (j:Int)=true):zaz s ⟨8,(j:Int),0,0⟩=(zbQ p (fV (s.q.g.inp+j)),true):=
 zcx (by decide) hp (by
  unfold za5;rw[if_neg (by simp),if_neg (by simp),if_neg (by simp),if_pos rfl];unfold onB;simp only[hd];simp)
theorem zmk{j:Nat}{p:Af}(hp:s.q.g.us[j]?=some p)(hd:zeM s.path 2 (j:Int)=true):zaz s ⟨10,(j:Int),0,0⟩=(fSc (fV (s.q.g.inp+j)) ((-1:Int):Rat),true):=
 zcx (by decide) hp (by
  unfold za5;rw[if_neg (by simp),if_neg (by simp),if_neg (by simp),if_neg (by simp),if_neg (by simp),if_pos rfl];unfold zhy;simp only[hd];simp)
end
structure SB(B:Nat)(s:Sc):Prop where
 q:QOk s.q
 d:∀d∈s.path,DOk 200 s.q d
 pl:s.path.length<=100
 B:∀m∈s.lems,Fq m.v B
 ll:s.lems.length<=1000
structure BvOk(s:Sc)(B v:Nat)(up:Bool)(b:Qr)(l:List Mu):Prop where
 step:StepOk s (4*B+12) l
 fq:Fq b (B+201)
 co:∀w,W (coR s w) l=if v=w then(if up=true then -1 else 1) else 0
 wc:W (zhg s) l=if up=true then b.q else -b.q
theorem zix{s:Sc}{r:Rw}{B:Nat}(h:(zaz s r).2=true):StepOk s (4*B+12) (zko r):=
 ⟨(zdR (B:=B) h).ok,(zdR (B:=B) h).pos,(zdR (B:=B) h).bd.mono (by omega),by simp[zko]⟩
theorem zjG(φ:Rw->Rat)(r:Rw):W φ (zko r)=φ r:=by unfold zko;simp only[W,zaj,p1];grind
theorem ite_sub{v w:Nat}:(if v=w then(1:Rat) else 0)-0=if v=w then 1 else 0:=by split <;> grind
structure InpOk(s:Sc)(i:Nat)(up:Bool)(n:Nat)(b:Rat×Rw):Prop where
 ok:(zaz s b.2).2=true
 hb:Hb b.1 200
 co:∀w,coR s w b.2=if i=w then(if up=true then -1 else 1) else 0
 wc:zhg s b.2=if up=true then b.1 else -b.1
theorem zmf{B:Nat}{s:Sc}(hs:SB B s){i:Nat}(hi:i<s.q.g.inp)(up:Bool):∀n,n<=s.path.length->InpOk s i up n (zgq s i up n)
 |0,_=>by
  have hl:=hs.q.r.lo;have hh:=hs.q.r.hi;obtain⟨a,ha⟩:∃a,s.q.r.lo[i]?=some a:=⟨_,zEp (by omega)⟩;obtain⟨c,hc⟩:∃c,s.q.r.hi[i]?=some c:=⟨_,zEp (by omega)⟩;obtain⟨h1,h2,_⟩:=hs.q.r.bd i a c ha hc;show InpOk s i up 0 (zoE s i up);unfold zoE;cases up
  .rw[if_neg (by decide),ha];have hf:=zky ha;refine⟨?_,h1.mono (by omega),fun w=>?_,?_⟩
   .show(zaz s ⟨1,(i:Int),0,0⟩).2=true;rw[hf]
   .show co (zaz s ⟨1,(i:Int),0,0⟩).1.ts w=_;rw[hf,zbc (zdJ _) (zdK _),zjh,zji];split <;> (try simp) <;> (try grind)
   .show(zaz s ⟨1,(i:Int),0,0⟩).1.c = -a;rw[hf];show 0+a*((-1:Int):Rat) = -a;rw[m1];grind
  .rw[if_pos rfl,hc];have hf:=zkz hc;refine⟨?_,h2.mono (by omega),fun w=>?_,?_⟩
   .show(zaz s ⟨2,(i:Int),0,0⟩).2=true;rw[hf]
   .show co (zaz s ⟨2,(i:Int),0,0⟩).1.ts w=_;rw[hf,zbc (zdK _) (zdJ _),zjh,zji];split <;> (try simp) <;> (try grind)
   .show(zaz s ⟨2,(i:Int),0,0⟩).1.c=c;rw[hf];show c+0*((-1:Int):Rat)=c;grind
 |n+1,hn=>by
  have ih:=zmf hs hi up n (by omega);obtain⟨d,hd⟩:∃d,s.path[n]?=some d:=⟨_,zEp (by omega)⟩;have hok:=hs.d d (zEq hd);rw[zek hd];by_cases hc:d.kind=(if up=true then 4 else 3)/\d.idx=i/\(if up=true then d.pt<(zgq s i up n).1 else(zgq s i up n).1<d.pt)
  .have e:zwH up i (zgq s i up n) n d=(d.pt,⟨4,(n:Int),0,0⟩):=if_pos hc;rw[e];obtain⟨hk,hx,_⟩:=hc;have h3:3<=d.kind:=by rw[hk];split <;> omega
   have hf:=zsi hd h3;refine⟨?_,hok.2,fun w=>?_,?_⟩
   .show(zaz s ⟨4,(n:Int),0,0⟩).2=true;rw[hf]
   .show co (zaz s ⟨4,(n:Int),0,0⟩).1.ts w=_;rw[hf];show co (zeZ d).ts w=_;unfold zeZ;cases up
    .rw[if_pos (by simpa using hk),zbc (zdJ _) (zdK _),zjh,zji,hx];split <;> (try simp) <;> (try grind)
    .rw[if_neg (by simp at hk;omega),zc3 (zbi (zdJ _)),zbc (zdJ _) (zdK _),zjh,zji,hx,m1];split <;> (try simp) <;> (try grind)
   .show(zaz s ⟨4,(n:Int),0,0⟩).1.c=_;rw[hf];show(zeZ d).c=_;unfold zeZ;cases up
    .rw[if_pos (by simpa using hk)];show 0+d.pt*((-1:Int):Rat) = -d.pt;rw[m1];grind
    .rw[if_neg (by simp at hk;omega)];show(0+d.pt*((-1:Int):Rat))*((-1:Int):Rat)=d.pt;rw[m1];grind
  .have e:zwH up i (zgq s i up n) n d=zgq s i up n:=if_neg hc;rw[e];exact⟨ih.ok,ih.hb,ih.co,ih.wc⟩
theorem zBJ{B:Nat}{s:Sc}(hs:SB B s){j:Nat}(hj:j<s.q.g.us.length):BvOk s B (s.q.g.inp+j) false (zmb s j).1 (zmb s j).2:=by
 obtain⟨p,hp⟩:∃p,s.q.g.us[j]?=some p:=⟨_,zEp hj⟩;have hpc:=(hs.q.g.us j p hp).can;unfold zmb;split
 .rename_i h;obtain⟨y,hy,yu,yp,hly,hy0,hyl⟩:=zbj h.1;haveI:=hs.B y (zEq hy);have f1:=zjP hp;have f2:=zpX hp hy0 hy yu yp;simp only[zcv hy];refine⟨⟨fun m hm=>?_,fun m hm=>?_,fun m hm=>?_,by simp⟩,(inferInstance:Fq y.v B).mono (by omega),fun w=>?_,?_⟩
  .simp at hm;rcases hm with rfl|rfl
   .rw[f1]
   .rw[f2]
  .simp at hm;rcases hm with rfl|rfl <;> rw[zaj] <;> decide
  .simp only[zET,List.not_mem_nil,or_false] at hm;rcases hm with rfl|rfl <;> exact Fq.of.mono (by omega)
  .simp only[W,coR,f1,f2,zaj,p1];rw[zbc (zdJ _) hpc,zbc hpc (zdK _),zjh,zji];simp;split <;> grind
  .simp only[W,zhg,f1,f2,zaj,p1,zbQ,fV,fN,m1];simp;grind
 .have f1:=ze2 hp;refine⟨zix (by rw[f1]),⟨zgh⟩,fun w=>?_,?_⟩
  .rw[zjG];simp only[coR,f1,zjh];simp
  .rw[zjG];simp only[zhg,f1,fV,zcs];simp
theorem zyf{B:Nat}{s:Sc}(hs:SB B s){j:Nat}(hj:j<s.q.g.us.length){b:Qr}{l:List Mu}(h:zdl s j=some (b,l)):BvOk s B (s.q.g.inp+j) true b l:=by
 obtain⟨p,hp⟩:∃p,s.q.g.us[j]?=some p:=⟨_,zEp hj⟩;have hpc:=(hs.q.g.us j p hp).can;unfold zdl at h;split at h
 .rename_i hoff;cases h;have f1:zaz s ⟨10,(j:Int),0,if zsC s j=true then 0 else(bHi s j:Int)⟩=(fSc (fV (s.q.g.inp+j)) ((-1:Int):Rat),true):=by
   split
   .rename_i hd;exact zmk hp hd
   .rename_i hd;rcases hoff with h1|h1
    .exact absurd h1 hd
    .obtain⟨z,hz,zu,zp,hlz,hz0,hzl⟩:=zbu h1.1;exact zgu hp hz0 hz zu zp (by rw[<-hlz];exact h1.2)
  refine⟨zix (by rw[f1]),⟨zgh⟩,fun w=>?_,?_⟩
  .rw[zjG];simp only[coR,f1];rw[zc3 (zdJ _),zjh,m1];simp;split <;> grind
  .rw[zjG];simp only[zhg,f1,fSc,fV,zcs,m1];simp
 .rename_i hoff;split at h
  .cases h
  .rename_i hh;obtain⟨z,hz,zu,zp,hlz,hz0,hzl⟩:=zbu hh;haveI:=hs.B z (zEq hz);have f2:=zfT hp hz0 hz zu zp;have hu:0<z.v.q:=by
    have:¬z.v.q<=0:=fun e=>hoff (.inr ⟨hh,by rw[hlz];exact e⟩);grind
   split at h
   .rename_i hon;simp only[zEs,zEu] at h;obtain⟨rfl,rfl⟩:=h;have f1:zaz s ⟨8,(j:Int),if zsB s j=true then 0 else(bLo s j:Int),0⟩=(zbQ p (fV (s.q.g.inp+j)),true):=by
     split
     .rename_i hd;exact zoL hp hd
     .rename_i hd;rcases hon with h1|h1
      .exact absurd h1 hd
      .obtain⟨y,hy,yu,yp,hly,hy0,hyl⟩:=zbj h1.1;exact ziO hp hy0 hy yu yp (by rw[<-hly];exact h1.2)
    rw[zcv hz];refine⟨⟨fun m hm=>?_,fun m hm=>?_,fun m hm=>?_,by simp⟩,(inferInstance:Fq z.v B).mono (by omega),fun w=>?_,?_⟩
    .simp at hm;rcases hm with rfl|rfl
     .simp only[f1]
     .rw[f2]
    .simp at hm;rcases hm with rfl|rfl <;> rw[zaj] <;> decide
    .simp only[zET,List.not_mem_nil,or_false] at hm;rcases hm with rfl|rfl <;> exact Fq.of.mono (by omega)
    .simp only[W,coR,f1,f2,zaj,p1];rw[zbc hpc (zdJ _),zbc (zdK _) hpc,zjh,zji];simp;split <;> grind
    .simp only[W,zhg,f1,f2,zaj,p1,zbQ,fV,fN,m1];simp;grind
   .rename_i hon;split at h
    .cases h
    .rename_i hl;obtain⟨y,hy,yu,yp,hly,hy0,hyl⟩:=zbj hl;haveI:=hs.B y (zEq hy);have hl0:y.v.q<0:=by
      have:¬0<=y.v.q:=fun e=>hon (.inr ⟨hl,by rw[hly];exact e⟩);grind
     have f3:=zgt hp hy0 hy yu yp hz0 hz zu zp hl0 hu;simp only[zEs,zEu] at h;obtain⟨rfl,rfl⟩:=h;rw[zcv hz,hlz,hly];have h2:0<z.v.q-y.v.q:=by grind
     have h3:0<((1:Int):Rat)/(z.v.q-y.v.q):=by
      rw[Rat.div_def];exact Rat.mul_pos (by decide) (Rat.inv_pos.2 h2)
     have h4:(z.v.q-y.v.q)*(((1:Int):Rat)/(z.v.q-y.v.q))=1:=by
      rw[Rat.div_def,p1,Rat.one_mul];exact Rat.mul_inv_cancel _ (by grind)
     refine⟨⟨fun m hm=>?_,fun m hm=>?_,fun m hm=>?_,by simp⟩,(inferInstance:Fq z.v B).mono (by omega),fun w=>?_,?_⟩
     .simp at hm;rcases hm with rfl|rfl
      .rw[f2]
      .rw[f3]
     .simp only[zET,List.not_mem_nil,or_false] at hm;rcases hm with rfl|rfl
      .show 0<(qOf _).q;rw[zaj];exact Rat.mul_pos hu h3
      .show 0<(qOf _).q;rw[zaj];exact h3
     .simp only[zET,List.not_mem_nil,or_false] at hm;rcases hm with rfl|rfl <;> exact Fq.of.mono (by omega)
     .simp only[W,coR,f2,f3,zaj];rw[zbc (zdK _) hpc,zbc (zb8 (zbi hpc)) (zb8 (zdJ _)),zc3 (zbi hpc),zbc hpc (zdK _),zc3 (zdJ _),zjh,zji,zji];simp only[if_true];generalize ((1:Int):Rat)/(z.v.q-y.v.q)=t at *;split <;> grind
     .simp only[W,zhg,f2,f3,zaj,zbQ,fSc,fV,fN,m1,if_true];generalize ((1:Int):Rat)/(z.v.q-y.v.q)=t at *;grind
theorem zs7{B:Nat}{s:Sc}(hs:SB B s){v:Nat}(hv:v<s.q.g.inp+s.q.g.us.length){up:Bool}{b:Qr}{l:List Mu}(h:zi0 s v up=some (b,l)):BvOk s B v up b l:=by
 unfold zi0 at h;split at h
 .rename_i hi;simp only[zEs,zEu] at h;obtain⟨rfl,rfl⟩:=h;have hok:=zmf hs hi up s.path.length (zEt _);haveI:Br (zhV s v up).1 201:=hok.hb.br;exact⟨zix hok.ok,Fq.of.mono (by omega),fun w=>by rw[zjG];exact hok.co w,by rw[zjG,zaj];exact hok.wc⟩
 .rename_i hi;have e:v=s.q.g.inp+(v-s.q.g.inp):=by omega
  split at h
  .rename_i hu;subst hu;have:=zyf hs (j:=v-s.q.g.inp) (by omega) h
   rwa [<-e] at this
  .rename_i hu;simp only[zEs] at h;have:=zBJ hs (j:=v-s.q.g.inp) (by omega);rw[h,<-e] at this;have hu:up=false:=by simpa using hu
   subst hu;exact this
structure BoxOk(s:Sc)(B F:Nat)(f:Af)(ts:List Tm)(x:Rat)(l:List Mu):Prop where
 der:DerOk s (ts.length*(8*B+2*F+40)) (2*ts.length) l
 co:∀w,W (coR s w) l=coS w ts
 wc:W (zhg s) l=f.c-x
 br:Br x (F+ts.length*(B+F+210))
theorem zmK(c:Rat):(c<0->rq false (zaw c) (zaE c) = -c)/\(¬c<0->rq false (zaw c) (zaE c)=c):=by
 rw[zjX];exact⟨fun h=>if_pos h,fun h=>if_neg h⟩
theorem zoX(w:Nat)(t:Tm):∀ts:List Tm,coS w (ts++[t])=coS w ts+if t.1=w then t.2 else 0
 |[]=>by simp only[List.nil_append,coS];grind
 |x::ts=>by simp only[List.cons_append,coS,zoX w t ts];grind
theorem zvl{B F:Nat}{s:Sc}(hs:SB B s){f:Af}{ts:List Tm}{t:Tm}{x:Rat}{l:List Mu}(hv:t.1<s.q.g.inp+s.q.g.us.length)(ht:Br t.2 F)(h:BoxOk s B F f ts x l){c:Qr}{m:List Mu}
  (hb:zi0 s t.1 (decide (t.2<0))=some (c,m)):BoxOk s B F f (ts++[t]) (x+t.2*c.q) (zaU l m (rq false (zaw t.2) (zaE t.2))):=by
 have hk:=zs7 hs hv hb;have hd:=h.der;have hm:=hk.step;obtain⟨a1,a2⟩:=zmK t.2;refine⟨⟨zgl (P:=fun r=>(zaz s r).2=true) hd.ok hm.ok,zfk (zeo _) hd.can hm.pos,(zei hd.bd hm.bd).mono ?_,?_⟩,fun w=>?_,?_,?_⟩
 .have:=zEA (4*B+12+(F+1)+2) hm.len;simp only[zEF,List.length_singleton,Nat.add_mul,Nat.one_mul];omega
 .have:=zdo m l (rq false (zaw t.2) (zaE t.2));have:=hd.len;have:=hm.len;simp only[zEF,List.length_singleton];omega
 .rw[zeB,h.co w,hk.co w,zoX];by_cases hn:t.2<0
  .rw[a1 hn,decide_eq_true hn];simp only[if_true];split <;> grind
  .rw[a2 hn,decide_eq_false hn];simp;split <;> grind
 .rw[zeB,h.wc,hk.wc];by_cases hn:t.2<0
  .rw[a1 hn,decide_eq_true hn];simp only[if_true];grind
  .rw[a2 hn,decide_eq_false hn];simp;grind
 .haveI:=h.br;haveI:=hk.fq;refine(inferInstance:Br (x+t.2*c.q) _).mono ?_;simp only[zEF,List.length_singleton,Nat.add_mul,Nat.one_mul];omega
theorem zmB{B F:Nat}{s:Sc}(hs:SB B s){f:Af}(hf:FL F (s.q.g.inp+s.q.g.us.length) f):∀n,n<=f.ts.length->∀x l,zhE s f n=some (x,l)->BoxOk s B F f (f.ts.take n) x l
 |0,_,x,l,h=>by
  simp only[zhE,List.take_zero,List.foldl_nil,zEs,zEu] at h;obtain⟨rfl,rfl⟩:=h;refine⟨⟨fun m hm=>by simp at hm,trivial,fun m hm=>by simp at hm,by simp⟩,fun w=>rfl,?_,hf.cb.mono (by omega)⟩;show(0:Rat)=_;grind
 |n+1,hn,x,l,h=>by
  obtain⟨t,ht⟩:∃t,f.ts[n]?=some t:=⟨_,zEp (by omega)⟩;have htm:=zEq ht;rw[zc4 ht] at h;rw[zaO ht]
  cases ho:zhE s f n with
  |none=>rw[ho] at h;simp[zmD] at h
  |some a=>
   obtain⟨x0,l0⟩:=a;rw[ho] at h;have ih:=zmB hs hf n (by omega) x0 l0 ho;unfold zmD at h;simp only at h
   cases hbn:zi0 s t.1 (decide (t.2<0)) with
   |none=>rw[hbn] at h;simp at h
   |some a=>
    obtain⟨c,m⟩:=a;rw[hbn] at h;simp only[zEs,zEu] at h;obtain⟨rfl,rfl⟩:=h;exact zvl hs (hf.var t htm) (hf.bd t htm) ih hbn
theorem SOk.sb{s:Sc}(h:SOk s):SB 135001 s:=⟨h.q,h.d,h.pl,h.B,by have:=h.ll;omega⟩
theorem zDT{f g:Af}(h1:f.ts=g.ts)(h2:f.c=g.c):f=g:=by cases f;cases g;simp at *;exact⟨h1,h2⟩
theorem zmZ{B:Nat}{s:Sc}(hs:SB B s){v:Nat}:∀(l:List Mu) (a:Af),CanT a.ts->CanT (l.foldl (fun a m=>zfz a (fSc (zaz s m.r).1 m.c.q)) a).ts/\co (l.foldl (fun a m=>zfz a (fSc (zaz s m.r).1 m.c.q)) a).ts v=co a.ts v+W (coR s v) l
 |[],a,h=>⟨h,by simp only[List.foldl_nil,W];grind⟩
 |m::l,a,h=>by
  have hc:=(zhW (r:=m.r) hs.q hs.d hs.B).can;obtain⟨i1,i2⟩:=zmZ hs (v:=v) l (zfz a (fSc (zaz s m.r).1 m.c.q)) (zch h);refine⟨i1,?_⟩;rw[List.foldl_cons,i2,zsI h (zb8 hc),zc3 hc];simp only[W,coR];grind
def zqr(s:Sc)(f:Af)(x:Rat)(l:List Mu):Prop:=zeR s l=zbQ f (fN x)
theorem zwX{B:Nat}{s:Sc}(hs:SB B s){f:Af}{x:Rat}{l:List Mu}(hf:CanT f.ts)(h1:∀w,W (coR s w) l=co f.ts w)(h2:W (zhg s) l=f.c-x):zqr s f x l:=by
 refine zDT (ziT (zmZ hs (v:=0) l fZ trivial).1 (zbi hf) (fun w=>?_)) ?_
 .have:=(zmZ hs (v:=w) l fZ trivial).2;rw[show(zeR s l).ts=(l.foldl (fun a m=>zfz a (fSc (zaz s m.r).1 m.c.q)) fZ).ts from rfl,this,h1,zbc hf (zdK _),zji];show(0:Rat)+_=_;grind
 .rw[zwd,h2];show _=f.c+x*((-1:Int):Rat);rw[m1];grind
theorem zo5{B F:Nat}{s:Sc}(hs:SB B s){f:Af}(hf:FL F (s.q.g.inp+s.q.g.us.length) f){x:Rat}{l:List Mu}(h:zlh s f=some (x,l)):BoxOk s B F f f.ts x l:=by
 have:=zmB hs hf f.ts.length (zEt _) x l h
 rwa [zEM] at this
theorem FL.len7{F:Nat}{s:Sc}(hq:QOk s.q){f:Af}(hf:FL F (s.q.g.inp+s.q.g.us.length) f):f.ts.length<=7:=by
 have:=hq.g.i3;have:=hq.g.u4;have:=(hf.fm (by omega)).len;have:=hq.g.i3;have:=hq.g.u4;omega
structure Bnd(s:Sc)(B F:Nat)(f:Af)(x:Rat)(l:List Mu):Prop where
 der:DerOk s (7*(8*B+2*F+40)) 14 l
 sum:zqr s f x l
 br:Br x (F+7*(B+F+210))
theorem znA{B F:Nat}{s:Sc}(hs:SB B s){f:Af}(hf:FL F (s.q.g.inp+s.q.g.us.length) f){x:Rat}{l:List Mu}(h:zlh s f=some (x,l)):Bnd s B F f x l:=by
 have h1:=zo5 hs hf h;have h7:=hf.len7 hs.q;have h8:=zEA (8*B+2*F+40) h7;have h9:=zEA (B+F+210) h7;exact⟨⟨h1.der.ok,h1.der.can,h1.der.bd.mono h8,zEz h1.der.len (by omega)⟩,zwX hs hf.can (fun w=>by rw[h1.co w,zoY hf.can]) h1.wc,h1.br.mono (by omega)⟩
theorem zs5{B F:Nat}{s:Sc}(hs:SB B s){f:Af}(hf:FL F (s.q.g.inp+s.q.g.us.length) f):Br (zbM s f).1 (F+7*(B+F+210)):=by
 cases h:zlh s f with
 |none=>rw[zen h];exact Br.zero.mono (zEv _)
 |some a=>obtain⟨x,l⟩:=a;rw[zc5 h];exact(znA hs hf h).br
theorem zkX{B F:Nat}{s:Sc}(hs:SB B s){f:Af}(hf:FL F (s.q.g.inp+s.q.g.us.length) f):DerOk s (7*(8*B+2*F+40)) 14 (zbM s f).2.1:=by
 cases h:zlh s f with
 |none=>rw[zen h];exact⟨fun m hm=>by simp at hm,trivial,fun m hm=>by simp at hm,by simp⟩
 |some a=>obtain⟨x,l⟩:=a;rw[zc5 h];exact(znA hs hf h).der
theorem zvo{B F:Nat}{s:Sc}(hs:SB B s){f:Af}(hf:FL F (s.q.g.inp+s.q.g.us.length) f)(h:(zbM s f).2.2=true):zqr s f (zbM s f).1 (zbM s f).2.1:=by
 cases ho:zlh s f with
 |none=>rw[zen ho] at h;simp at h
 |some a=>obtain⟨x,l⟩:=a;rw[zc5 ho];exact(znA hs hf ho).sum
def wgB(inp v:Nat):Nat:=if v<inp then 204 else KB (v-inp)+4
def wB(inp:Nat):Nat->Nat
 |0=>0
 |n+1=>wB inp n+wgB inp n
theorem zqF(inp:Nat){a b:Nat}(h:a<=b):wB inp a<=wB inp b:=by
 induction b with
 |zero=>
      have:a=0:=by omega
      subst this;exact zEt _
 |succ b ih=>
  by_cases e:a=b+1
  .subst e;exact zEt _
  .have:=ih (by omega);simp only[wB];omega
theorem zv3(inp:Nat):∀n,n<=inp->wB inp n=204*n
 |0,_=>rfl
 |n+1,h=>by have:=zv3 inp n (by omega);simp only[wB,wgB,this];rw[if_pos (by omega)];omega
theorem zqE(inp:Nat):∀j,wB inp (inp+j)+5000<=204*inp+4*j+5000*3^j
 |0=>by
  have:=zv3 inp inp (zEt _);show wB inp inp+5000<=_;omega
 |j+1=>by
  have:=zqE inp j;show wB inp (inp+j)+wgB inp (inp+j)+5000<=_;unfold wgB KB;rw[if_neg (by omega),show inp+j-inp=j by omega,zEI];omega
theorem zDH{s:Sc}(hs:SOk s){v:Nat}(hv:v<s.q.g.inp+s.q.g.us.length){up:Bool}{b:Qr}{l:List Mu}(h:zi0 s v up=some (b,l)):Hb b.q (wgB s.q.g.inp v-4):=by
 have lvh:∀{n:Nat} {m:Lm},s.lems[n-1]?=some m->m.unit=((v-s.q.g.inp:Nat):Int)->Hb (lvr s.lems n).q (KB (v-s.q.g.inp)):=fun {n m} hm hu=>by
  rw[zcv hm];have:=(hs.l m (zEq hm)).hb;rw[hu] at this;exact this
 unfold zi0 at h;unfold wgB;split at h
 .rename_i hi;simp only[zEs,zEu] at h;obtain⟨rfl,rfl⟩:=h;rw[if_pos hi,zaj];exact(zmf hs.sb hi up s.path.length (zEt _)).hb
 .rename_i hi;rw[if_neg hi,Nat.add_sub_cancel];split at h
  .unfold zdl at h;split at h
   .cases h;rw[zcs];exact Hb.z
   .split at h
    .cases h
    .rename_i hh;obtain⟨z,hz,zu,_⟩:=zbu hh;split at h
     .simp only[zEs,zEu] at h;rw[<-h.1];exact lvh hz zu
     .split at h
      .cases h
      .simp only[zEs,zEu] at h;rw[<-h.1];exact lvh hz zu
  .simp only[zEs] at h;unfold zmb at h;split at h
   .rename_i hl;obtain⟨y,hy,yu,_⟩:=zbj hl.1;simp only[zEu] at h;rw[<-h.1];exact lvh hy yu
   .simp only[zEu] at h;rw[<-h.1,zcs];exact Hb.z
def znm(ts:List Tm)(n:Nat):Nat:=match n with|0=>0|k+1=>match ts[k]? with|some t=>t.1+1|none=>0
theorem zw4{s:Sc}(hs:SOk s){f:Af}{m:Nat}(hm:m<=s.q.g.inp+s.q.g.us.length)(hf:FOk 3 m f):∀n,n<=f.ts.length->∀x l,zhE s f n=some (x,l)->Hb x (4+wB s.q.g.inp (znm f.ts n))
 |0,_,x,l,h=>by
  simp only[zhE,List.take_zero,List.foldl_nil,zEs,zEu] at h;obtain⟨rfl,rfl⟩:=h;exact hf.cb.mono (by omega)
 |n+1,hn,x,l,h=>by
  obtain⟨t,ht⟩:∃t,f.ts[n]?=some t:=⟨_,zEp (by omega)⟩;have htm:=zEq ht;rw[zc4 ht] at h
  cases ho:zhE s f n with
  |none=>rw[ho] at h;simp[zmD] at h
  |some a=>
   obtain⟨x0,l0⟩:=a;rw[ho] at h;have ih:=zw4 hs hm hf n (by omega) x0 l0 ho;unfold zmD at h;simp only at h
   cases hbn:zi0 s t.1 (decide (t.2<0)) with
   |none=>rw[hbn] at h;simp at h
   |some a=>
    obtain⟨c,k⟩:=a;rw[hbn] at h;simp only[zEs,zEu] at h;obtain⟨rfl,rfl⟩:=h;have hv:=hf.var t htm;haveI:=ih;haveI:=zDH hs (zEy hv hm) hbn;haveI:=hf.bd t htm;have hw:znm f.ts n<=t.1:=by
     cases n with
     |zero=>exact zEv _
     |succ k=>
      obtain⟨y,hy⟩:∃y,f.ts[k]?=some y:=⟨_,zEp (by omega)⟩;simp only[znm,hy];exact hf.can.prev (by omega) ht hy
    have h1:=zqF s.q.g.inp hw;have h2:4<=wgB s.q.g.inp t.1:=by unfold wgB;split <;> omega
    have h3:znm f.ts (n+1)=t.1+1:=by simp only[znm,ht]
    rw[h3];refine(inferInstance:Hb (x0+t.2*c.q) _).mono ?_;simp only[wB];omega
theorem zzF:zf1 zbM:=by
 intro s hs j f hj hf hb
 cases ho:zlh s f with
 |none=>rw[zen ho] at hb;simp at hb
 |some a=>
  obtain⟨x,l⟩:=a;rw[zc5 ho];have h:=zw4 hs (m:=s.q.g.inp+j) (by omega) hf f.ts.length (zEt _) x l ho;refine h.mono ?_;have h1:znm f.ts f.ts.length<=s.q.g.inp+j:=by
   unfold znm;split
   .exact zEv _
   .rename_i k hk;obtain⟨t,ht⟩:∃t,f.ts[k]?=some t:=⟨_,zEp (by omega)⟩;rw[ht];exact hf.var t (zEq ht)
  have h2:=zqF s.q.g.inp h1;have h3:=zqE s.q.g.inp j;have h4:=hs.q.g.i3;have h5:=hs.q.g.u4;have:=zvP j;unfold KB at *;omega
theorem zpV{up:Bool}{i k:Nat}{b:Rat×Rw}{d:Dc}:if up=true then(zwH up i b k d).1<=b.1 else b.1<=(zwH up i b k d).1:=by
 unfold zwH;cases up
 .simp only[zEL,if_false];split
  .rename_i h;exact Rat.le_of_lt h.2.2
  .exact Rat.le_refl
 .simp only[if_true];split
  .rename_i h;exact Rat.le_of_lt h.2.2
  .exact Rat.le_refl
theorem zjN{s:Sc}{i:Nat}{up:Bool}{n:Nat}:∀k,n+k<=s.path.length->if up=true then(zgq s i up (n+k)).1<=(zgq s i up n).1 else(zgq s i up n).1<=(zgq s i up (n+k)).1
 |0,_=>by cases up <;> exact Rat.le_refl
 |k+1,h=>by
  have ih:=zjN (s:=s) (i:=i) (up:=up) (n:=n) k (by omega);obtain⟨d,hd⟩:∃d,s.path[n+k]?=some d:=⟨_,zEp (by omega)⟩;have e:zgq s i up (n+(k+1))=zwH up i (zgq s i up (n+k)) (n+k) d:=zek hd;rw[e];have h2:=zpV (up:=up) (i:=i) (k:=n+k) (b:=zgq s i up (n+k)) (d:=d);cases up
  .simp only[zEL,if_false] at *;exact Rat.le_trans ih h2
  .simp only[if_true] at *;exact Rat.le_trans h2 ih
@[reducible] def zcu(s:Sc)(e:List Dc)(r:List Lm):Sc:=⟨s.q,s.path++e,s.lems++r⟩
section
variable {s:Sc}{e:List Dc}{r:List Lm}
theorem zmg{i:Nat}{up:Bool}:∀n,n<=s.path.length->zgq (zcu s e r) i up n=zgq s i up n
 |0,_=>rfl
 |n+1,h=>by
  obtain⟨d,hd⟩:∃d,s.path[n]?=some d:=⟨_,zEp (by omega)⟩;have hd2:(zcu s e r).path[n]?=some d:=by show(s.path++e)[n]?=_;rw[zEx (by omega)];exact hd
  rw[zek hd,zek hd2,zmg n (by omega)]
theorem zuJ{i:Nat}{up:Bool}:if up=true then(zhV (zcu s e r) i up).1<=(zhV s i up).1 else(zhV s i up).1<=(zhV (zcu s e r) i up).1:=by
 have hl:(zcu s e r).path.length=s.path.length+e.length:=by show(s.path++e).length=_;rw[zEF]
 have:=zjN (s:=zcu s e r) (i:=i) (up:=up) (n:=s.path.length) e.length (by omega);rw[zmg s.path.length (zEt _)] at this;unfold zhV;rw[hl];exact this
theorem zoT{k:Nat}{j:Int}(h:zeM s.path k j=true):zeM (zcu s e r).path k j=true:=by
 show zeM (s.path++e) k j=true;unfold zeM at *;rw[List.any_append,h];rfl
theorem zuD{j:Nat}:(zmb s j).1.q<=(zmb (zcu s e r) j).1.q:=by
 obtain⟨b1,_⟩:=zgD (l:=s.lems) (r:=r) (u:=(j:Int));have hr:∀{l:List Lm} {u:Int},(zak l u).1≠0->(lvr l (zak l u).1).q=lv l (zak l u).1:=fun {l u} h=>by
  obtain⟨m,hm,_⟩:=zbj h;rw[zcv hm,zgm hm]
 unfold zmb;by_cases h:bLo s j≠0/\0<lv s.lems (bLo s j)
 .obtain⟨c1,c2⟩:=b1 h.1;have h2:bLo (zcu s e r) j≠0/\0<lv (zcu s e r).lems (bLo (zcu s e r) j):=⟨c1,by have h3:=h.2;have c2:lv s.lems (bLo s j)<=lv (zcu s e r).lems (bLo (zcu s e r) j):=c2;grind⟩;rw[if_pos h,if_pos h2];simp only[];rw[hr h.1,hr h2.1];exact c2
 .rw[if_neg h];simp only[zcs];split
  .rename_i h2;simp only[];rw[hr h2.1];exact Rat.le_of_lt h2.2
  .simp only[zcs];exact Rat.le_refl
theorem zse{j:Nat}{b:Qr}{l:List Mu}(h:zdl s j=some (b,l)):∃b' l',zdl (zcu s e r) j=some (b',l')/\b'.q<=b.q:=by
 obtain⟨b1,b2⟩:=zgD (l:=s.lems) (r:=r) (u:=(j:Int));have hr:∀{l:List Lm} {u:Int},(zak l u).2≠0->(lvr l (zak l u).2).q=lv l (zak l u).2:=fun {l u} h=>by
  obtain⟨m,hm,_⟩:=zbu h;rw[zcv hm,zgm hm]
 by_cases hoff':zsC (zcu s e r) j=true\/(bHi (zcu s e r) j≠0/\lv (zcu s e r).lems (bHi (zcu s e r) j)<=0)
 .refine⟨qZero,_,by unfold zdl;rw[if_pos hoff'],?_⟩;rw[zcs];unfold zdl at h;split at h
  .cases h;rw[zcs];exact Rat.le_refl
  .rename_i hoff;split at h
   .cases h
   .rename_i hh;have hpos:0<=lv s.lems (bHi s j):=Rat.le_of_lt (Rat.not_le.1 (fun e=>hoff (.inr ⟨hh,e⟩)));split at h
    .simp only[zEs,zEu] at h;rw[<-h.1,hr hh];exact hpos
    .split at h
     .cases h
     .simp only[zEs,zEu] at h;rw[<-h.1,hr hh];exact hpos
 .have hoff:¬(zsC s j=true\/(bHi s j≠0/\lv s.lems (bHi s j)<=0)):=by
   rintro(q|⟨q1,q2⟩)
   .exact hoff' (.inl (zoT q))
   .obtain⟨c1,c2⟩:=b2 q1;exact hoff' (.inr ⟨c1,Rat.le_trans c2 q2⟩)
  unfold zdl at h;rw[if_neg hoff] at h;split at h
  .cases h
  .rename_i hh;obtain⟨c1,c2⟩:=b2 hh;have hb:b=lvr s.lems (bHi s j):=by
    split at h
    .simp only[zEs,zEu] at h;exact h.1.symm
    .split at h
     .cases h
     .simp only[zEs,zEu] at h;exact h.1.symm
   have hex:zsB s j=true\/bLo s j≠0:=by
    split at h
    .rename_i hon;exact hon.imp id (fun q=>q.1)
    .split at h
     .cases h
     .rename_i hl;exact .inr hl
   have hle:(lvr (zcu s e r).lems (bHi (zcu s e r) j)).q<=b.q:=by rw[hb,hr hh,hr c1];exact c2
   unfold zdl;rw[if_neg hoff',if_neg c1];by_cases hon':zsB (zcu s e r) j=true\/(bLo (zcu s e r) j≠0/\0<=lv (zcu s e r).lems (bLo (zcu s e r) j))
   .rw[if_pos hon'];exact⟨_,_,rfl,hle⟩
   .rw[if_neg hon'];have hlo':bLo (zcu s e r) j≠0:=by
     rcases hex with q|q
     .exact absurd (.inl (zoT q)) hon'
     .exact(b1 q).1
    rw[if_neg hlo'];exact⟨_,_,rfl,hle⟩
theorem zvp{v:Nat}{up:Bool}{b:Qr}{l:List Mu}(h:zi0 s v up=some (b,l)):∃b' l',zi0 (zcu s e r) v up=some (b',l')/\if up=true then b'.q<=b.q else b.q<=b'.q:=by
 unfold zi0 at *;split at h
 .rename_i hi;simp only[zEs,zEu] at h;have hi2:v<(zcu s e r).q.g.inp:=hi;rw[if_pos hi2];refine⟨_,_,rfl,?_⟩;rw[<-h.1,zaj,zaj];exact zuJ
 .rename_i hi;have hi2:¬v<(zcu s e r).q.g.inp:=hi;rw[if_neg hi2];split at h
  .rename_i hu;rw[if_pos hu];subst hu;exact zse h
  .rename_i hu;rw[if_neg hu];simp only[zEs] at h;refine⟨_,_,rfl,?_⟩;rw[if_neg hu];have:b=(zmb s (v-s.q.g.inp)).1:=by rw[h]
   rw[this];exact zuD
theorem zvm{f:Af}:∀n,n<=f.ts.length->∀x l,zhE s f n=some (x,l)->∃x' l',zhE (zcu s e r) f n=some (x',l')/\x<=x'
 |0,_,x,l,h=>by
  simp only[zhE,List.take_zero,List.foldl_nil,zEs,zEu] at h;exact⟨f.c,[],rfl,by rw[h.1];exact Rat.le_refl⟩
 |n+1,hn,x,l,h=>by
  obtain⟨t,ht⟩:∃t,f.ts[n]?=some t:=⟨_,zEp (by omega)⟩;rw[zc4 ht] at h ⊢
  cases ho:zhE s f n with
  |none=>rw[ho] at h;simp[zmD] at h
  |some a=>
   obtain⟨x0,l0⟩:=a;rw[ho] at h;obtain⟨x1,l1,h1,h2⟩:=zvm n (by omega) x0 l0 ho;rw[h1];unfold zmD at h ⊢;simp only at h ⊢
   cases hbn:zi0 s t.1 (decide (t.2<0)) with
   |none=>rw[hbn] at h;simp at h
   |some a=>
    obtain⟨c,k⟩:=a;rw[hbn] at h;simp only[zEs,zEu] at h;obtain⟨c',k',h3,h4⟩:=zvp (e:=e) (r:=r) hbn;rw[h3];refine⟨_,_,rfl,?_⟩;rw[<-h.1];have key:t.2*c.q<=t.2*c'.q:=by
     by_cases hneg:t.2<0
     .rw[decide_eq_true hneg] at h4;have h4:c'.q<=c.q:=h4;have:0<=(-t.2)*(c.q-c'.q):=Rat.mul_nonneg (by grind) (by grind);grind
     .rw[decide_eq_false hneg] at h4;have h4:c.q<=c'.q:=h4;have:0<=t.2*(c'.q-c.q):=Rat.mul_nonneg (by grind) (by grind);grind
    grind
end
structure DomD(d:Dom):Prop where
 ok:zf1 d
 der:∀s:Sc,SOk s->∀f:Af,FOk 3 (s.q.g.inp+s.q.g.us.length) f->DerOk s 60000000 14 (d s f).2.1
 sum:∀s:Sc,SOk s->∀f:Af,FOk 3 (s.q.g.inp+s.q.g.us.length) f->(d s f).2.2=true->zqr s f (d s f).1 (d s f).2.1
theorem zw5:DomD zbM:=⟨zzF,fun s hs f hf=>by
  have:=zkX hs.sb hf.fl;exact⟨this.ok,this.can,this.bd.mono (by omega),this.len⟩,fun s hs f hf h=>zvo hs.sb hf.fl h⟩
theorem zms{d:Dom}(hd:DomD d){s:Sc}(hs:SOk s){j:Nat}{up:Bool}{p:Af}(hp:s.q.g.us[j]?=some p){x:Rat}(hx:Hb x (KB j))
  (hb:(d s (if up=true then zbo p else p)).2.2=true) (hle:if up=true then -(d s (zbo p)).1<=x else x<=(d s p).1):DerL s ⟨(j:Int),up,qOf x,(d s (if up=true then zbo p else p)).2.1⟩:=by
 have hj:=(zEr.1 hp).1;have hpo:=zj5 hs.q hp;have hfo:FOk 3 (s.q.g.inp+s.q.g.us.length) (if up=true then zbo p else p):=by
  split
  .exact hpo.neg
  .exact hpo
 have hdr:=hd.der s hs _ hfo;have hsm:=hd.sum s hs _ hfo hb;refine⟨zl8 (f:=p) hs hj hx,hdr.can,hdr.bd,hdr.len,hdr.ok,fun q hq=>?_⟩;have:q=p:=by
  have e:s.q.g.us[j]?=some q:=hq;rw[hp] at e;exact(Option.some.inj e).symm
 subst this;have hpc:=hpo.can;have hsm:zeR s (d s (if up=true then zbo q else q)).2.1=_:=hsm;show(zbQ (zx7 q _) (zeR s (d s (if up=true then zbo q else q)).2.1)).ts=[]/\_;rw[hsm];unfold zx7;cases up
 .simp only[zEL,if_false] at *;rw[zaj];refine⟨zoW (zbi (zbi hpc)) (fun v=>?_),?_⟩
  .rw[zbc (zbi hpc) (zbi hpc),zbc hpc (zdK _),zbc hpc (zdK _),zji,zji];grind
  .show 0<=(q.c+x*((-1:Int):Rat))+(q.c+(d s q).1*((-1:Int):Rat))*((-1:Int):Rat);rw[m1];grind
 .simp only[if_true] at *;rw[zaj];refine⟨zoW (zbi (zb8 (zbi hpc))) (fun v=>?_),?_⟩
  .rw[zbc (f:=fSc (zbQ q (fN x)) ((-1:Int):Rat)) (zb8 (zbi hpc)) (zbi (zb8 hpc)),zc3 (zbi hpc),zbc hpc (zdK _),zji,zbc (f:=zbo q) (zb8 hpc) (zdK _),zc3 hpc,zji,m1];grind
  .show 0<=(q.c+x*((-1:Int):Rat))*((-1:Int):Rat)+(q.c*((-1:Int):Rat)+(d s (zbo q)).1*((-1:Int):Rat))*((-1:Int):Rat);rw[m1];grind
theorem zlB{d:Dom}(hd:DomD d){s:Sc}{l:List Lm}{bits:Int}(h0:0<=bits)(h4:bits<=4096){j:Nat}{up:Bool}{p:Af}(hs:SOk (withL s l))(hp:s.q.g.us[j]?=some p)(hA:DerA s l):DerA s (l++zds d (withL s l) bits j up p):=by
 have hj:=(zEr.1 hp).1;have hK:=zk7 (j:=j) (by have:=hs.q.g.u4;have e:(withL s l).q=s.q:=rfl;rw[e] at this;omega);have hpo:=hs.q.g.us j p hp;have hK1:5000<=KB j:=zvP j;unfold zds;split
 .rename_i hb;rw[zED] at hb;have hb1:=hb.1;refine hA.snoc ?_;unfold zig at hb1;cases up
  .rw[if_neg (by decide)] at hb1;have h1:Hb (d (withL s l) p).1 (KB j-4200):=hd.ok _ hs j p hj hpo hb1;exact zms hd (up:=false) hs hp ((zd4 (up:=false) (bits:=bits) h1 (by omega)).mono (by omega)) hb1 (zke h1 (by omega) h0 h4).1
  .rw[if_pos rfl] at hb1;haveI h1:Hb (d (withL s l) (zbo p)).1 (KB j-4200):=hd.ok _ hs j (zbo p) hj hpo.neg hb1;have h2:Hb (-(d (withL s l) (zbo p)).1) (KB j-4200):=Hb.neg;exact zms hd (up:=true) hs hp ((zd4 (up:=true) (bits:=bits) h2 (by omega)).mono (by omega)) hb1 (zke h2 (by omega) h0 h4).2
 .rw[zEN];exact hA
theorem zlH{d:Dom}(hd:DomD d){s:Sc}(hs:SOk s)(h80:s.lems.length<=80){bits:Int}(h0:0<=bits)(h4:bits<=4096)(hA:DerA s s.lems):∀n,n<=s.q.g.us.length->DerA s (Rc.runN d s bits n)
 |0,_=>hA
 |n+1,hn=>by
  obtain⟨p,hp⟩:∃p,s.q.g.us[n]?=some p:=⟨_,zEp (by omega)⟩;have ih:=zlH hd hs h80 h0 h4 hA n (by omega);have h1:=zff hd.ok hs h80 (bits:=bits) (n:=n) (by omega);have h2:=zeU hd.ok hs h80 bits n (by omega);have h3:=zgS hd.ok hs (bits:=bits) h1 hp;have h4':=hs.q.g.u4;have hAA:DerA s (za8 d s bits (Rc.runN d s bits n) n p):=zlB hd h0 h4 h1 hp ih;rw[zcV hp];exact zlB hd h0 h4 (LOk.withL hs h3.1 (by omega)) hp hAA
theorem zre{d:Dom}(hd:DomD d){s:Sc}(hs:SOk s)(h80:s.lems.length<=80){bits:Int}(h0:0<=bits)(h4:bits<=4096)(hA:DerA s s.lems):DerA (zbl d s bits) (zbl d s bits).lems:=zlH hd hs h80 h0 h4 hA _ (zEt _)
theorem zzv{s:Sc}{l:List Lm}(h:DerA s l):∀m∈l,m.pf.length<=14:=fun m hm=>by
 obtain⟨i,hi⟩:=zfQ hm;exact(h i m hi).len
def Full(s:Sc)(l:List Lm)(n:Nat):Prop:=∀j,j<n->(zak l (j:Int)).1≠0/\(zak l (j:Int)).2≠0
theorem Full.more{s:Sc}{l:List Lm}{n:Nat}(h:Full s l n)(r:List Lm):Full s (l++r) n:=fun j hj=>by
 obtain⟨h1,h2⟩:=h j hj;obtain⟨b1,b2⟩:=zgD (l:=l) (r:=r) (u:=(j:Int));exact⟨(b1 h1).1,(b2 h2).1⟩
theorem zvq{s:Sc}{n v:Nat}(h:Full s s.lems n)(hv:v<s.q.g.inp+n)(up:Bool):∃b l,zi0 s v up=some (b,l):=by
 unfold zi0;split
 .exact⟨_,_,rfl⟩
 .split
  .obtain⟨h1,h2⟩:=h (v-s.q.g.inp) (by omega);unfold zdl
   repeat' split
   all_goals first|exact⟨_,_,rfl⟩|(exfalso;contradiction)
  .exact⟨_,_,rfl⟩
theorem zo4{s:Sc}{m:Nat}(h:Full s s.lems m){f:Af}(hv:∀t∈f.ts,t.1<s.q.g.inp+m):∀n,n<=f.ts.length->∃x l,zhE s f n=some (x,l)
 |0,_=>⟨_,_,rfl⟩
 |n+1,hn=>by
  obtain⟨t,ht⟩:∃t,f.ts[n]?=some t:=⟨_,zEp (by omega)⟩;obtain⟨x,l,h1⟩:=zo4 h hv n (by omega);obtain⟨b,k,h2⟩:=zvq h (hv t (zEq ht)) (decide (t.2<0));rw[zc4 ht,h1];unfold zmD;simp only[h2];exact⟨_,_,rfl⟩
theorem zs3{s:Sc}{m:Nat}(h:Full s s.lems m){f:Af}(hv:∀t∈f.ts,t.1<s.q.g.inp+m):(zbM s f).2.2=true:=by
 obtain⟨x,l,h1⟩:=zo4 h hv f.ts.length (zEt _);rw[zc5 (show zlh s f=some (x,l) from h1)]
def zAl(d:Dom):Prop:=∀(s:Sc),SOk s->∀(j:Nat),j<=s.q.g.us.length->Full s s.lems j->∀f:Af,FOk 3 (s.q.g.inp+j) f->(d s f).2.2=true
theorem zo6:zAl zbM:=fun s hs j hj h f hf=>zs3 h hf.var
theorem zlA{d:Dom}{s:Sc}{bits:Int}{j:Nat}{up:Bool}{p:Af}(hb:zig d s up p=true):if up=true then(zak (s.lems++zds d s bits j up p) (j:Int)).2≠0 else(zak (s.lems++zds d s bits j up p) (j:Int)).1≠0:=by
 cases hst:zb4 s.lems j up (zjk d s bits up p)
 .have e:zds d s bits j up p=[]:=by unfold zds;rw[hb,hst];rfl
  rw[e,zEN];cases up
  .unfold zb4 at hst;simp at hst;simp;exact hst.1
  .unfold zb4 at hst;simp at hst;simp;exact hst.1
 .have e:zds d s bits j up p=[⟨(j:Int),up,qOf (zjk d s bits up p),zqV d s up p⟩]:=by unfold zds;rw[hb,hst];rfl
  rw[e];have hm:(⟨(j:Int),up,qOf (zjk d s bits up p),zqV d s up p⟩:Lm)∈s.lems++[⟨(j:Int),up,qOf (zjk d s bits up p),zqV d s up p⟩]:=by simp
  obtain⟨m1,m2⟩:=zk2 hm rfl;cases up
  .simp only[zEL,if_false];exact(m1 rfl).1
  .simp only[if_true];exact(m2 rfl).1
theorem zlG{d:Dom}(hd:zf1 d)(ht:zAl d){s:Sc}(hs:SOk s)(h80:s.lems.length<=80){bits:Int}:∀n,n<=s.q.g.us.length->Full s (Rc.runN d s bits n) n
 |0,_=>fun j hj=>by omega
 |n+1,hn=>by
  obtain⟨p,hp⟩:∃p,s.q.g.us[n]?=some p:=⟨_,zEp (by omega)⟩;have hpo:=hs.q.g.us n p hp;have ih:=zlG hd ht hs h80 (bits:=bits) n (by omega);have h1:=zff hd hs h80 (bits:=bits) (n:=n) (by omega);have h2:=zeU hd hs h80 bits n (by omega);have h3:=zgS hd hs (bits:=bits) h1 hp;have h4':=hs.q.g.u4;have hs2:SOk (withL s (za8 d s bits (Rc.runN d s bits n) n p)):=LOk.withL hs h3.1 (by omega);rw[zcV hp];have t1:zig d (withL s (Rc.runN d s bits n)) false p=true:=by
   unfold zig;rw[if_neg (by decide)];exact ht _ h1 n (by show n<=s.q.g.us.length;omega) ih p hpo
  have f1:=zlA (bits:=bits) (j:=n) t1;have ih2:Full s (za8 d s bits (Rc.runN d s bits n) n p) n:=ih.more _;have t2:zig d (withL s (za8 d s bits (Rc.runN d s bits n) n p)) true p=true:=by
   unfold zig;rw[if_pos rfl];exact ht _ hs2 n (by show n<=s.q.g.us.length;omega) ih2 (zbo p) hpo.neg
  have f2:=zlA (bits:=bits) (j:=n) t2;intro j hj;by_cases e:j=n
  .subst e;refine⟨?_,by rw[if_pos rfl] at f2;exact f2⟩;have g1:(zak (za8 d s bits (Rc.runN d s bits j) j p) (j:Int)).1≠0:=by rw[if_neg (by decide)] at f1;exact f1
   exact((zgD (l:=za8 d s bits (Rc.runN d s bits j) j p) (r:=zds d (withL s (za8 d s bits (Rc.runN d s bits j) j p)) bits j true p) (u:=(j:Int))).1 g1).1
  .exact(ih2.more _) j (by omega)
theorem zrd{d:Dom}(hd:zf1 d)(ht:zAl d){s:Sc}(hs:SOk s)(h80:s.lems.length<=80)(bits:Int):Full s (zbl d s bits).lems s.q.g.us.length:=zlG hd ht hs h80 _ (zEt _)
def boE:El Bool:=⟨fun b=>[Leaf.val (.bool b)],1,fun _=>rfl,fun _=>rfl⟩
@[reducible] def vwL(s:Sc):List Leaf:=[Leaf.val (.int .i64 (s.q.g.inp:Int)),afE.row s.q.g.us,afE.row s.q.g.os,ratE.row s.q.r.lo,ratE.row s.q.r.hi,afE.row s.q.r.rows,tmE.row s.q.goal.ts,Leaf.val (.bool (zaQ s.q.goal.c)),zaf (zaa (zaw s.q.goal.c)),zaf (zaa (zaE s.q.goal.c)),dcE.row s.path,lmE.row s.lems,boE.row (List.replicate s.path.length true)]
@[reducible] def vwV(s:Sc):V:=V.one (Leaf.rep (zaT (vwL s)))
theorem zrx{n i:Nat}(h:i<n):(List.replicate n true)[i]?=some true:=by rw[List.getElem?_replicate,if_pos h]
theorem zup(n:Nat):List.replicate n true++[true]=List.replicate (n+1) true:=by rw[<-List.replicate_succ']
theorem ziE(l:List Lm)(n:Nat):(lvr l n).q=lv l n:=by
 unfold lvr lv;split <;> rename_i h
 .rw[h]
 .rw[h];exact zcs
theorem zma{B:Nat}{l:List Lm}(h:∀m∈l,Fq m.v B)(n:Nat):Fq (lvr l n) B:=by
 unfold lvr;split
 .rename_i m hm;exact h m (zEq hm)
 .exact⟨zgh⟩
def zhB(s:Sc)(j:Nat):Qr×List Mu×Bool:=match zdl s j with|some (b,l)=>(b,l,true)|none=>(qZero,[],false)
def zbN(s:Sc)(v:Nat)(up:Bool):Qr×List Mu×Bool:=match zi0 s v up with|some (b,l)=>(b,l,true)|none=>(qZero,[],false)
def zby(s:Sc)(j:Nat):Bool:=zsC s j||(decide (bHi s j≠0)&&decide (lv s.lems (bHi s j)<=0))
def zdH(s:Sc)(j:Nat):Bool:=zsB s j||(decide (bLo s j≠0)&&decide (0<=lv s.lems (bLo s j)))
theorem zcc{s:Sc}{j:Nat}:zby s j=true↔(zsC s j=true\/(bHi s j≠0/\lv s.lems (bHi s j)<=0)):=by
 unfold zby;rw[Bool.or_eq_true,zED,decide_eq_true_iff,decide_eq_true_iff]
theorem zdU{s:Sc}{j:Nat}:zdH s j=true↔(zsB s j=true\/(bLo s j≠0/\0<=lv s.lems (bLo s j))):=by
 unfold zdH;rw[Bool.or_eq_true,zED,decide_eq_true_iff,decide_eq_true_iff]
section
variable {s:Sc}{j:Nat}
@[reducible] def zct(s:Sc)(j:Nat):Rw:=⟨10,(j:Int),0,if zsC s j=true then 0 else(bHi s j:Int)⟩
@[reducible] def zdi(s:Sc)(j:Nat):Rw:=⟨8,(j:Int),if zsB s j=true then 0 else(bLo s j:Int),0⟩
theorem zhQ(h:zsC s j=true):zct s j=⟨10,(j:Int),0,0⟩:=by unfold zct;rw[if_pos h]
theorem zfj(h:zsC s j=false):zct s j=⟨10,(j:Int),0,(bHi s j:Int)⟩:=by unfold zct;rw[if_neg (by rw[h];decide)]
theorem zkp(h:zsB s j=true):zdi s j=⟨8,(j:Int),0,0⟩:=by unfold zdi;rw[if_pos h]
theorem zgY(h:zsB s j=false):zdi s j=⟨8,(j:Int),(bLo s j:Int),0⟩:=by unfold zdi;rw[if_neg (by rw[h];decide)]
theorem ziK(h:zby s j=true):zdl s j=some (qZero,zko (zct s j)):=by
 unfold zdl;rw[if_pos (zcc.1 h)]
theorem zoG(h:zby s j=false)(h1:bHi s j=0):zdl s j=none:=by
 unfold zdl;rw[if_neg (fun e=>by rw[zcc.2 e] at h;cases h),if_pos h1]
theorem zkv(h:zby s j=false)(h1:bHi s j≠0)(h2:zdH s j=true):zdl s j=some (lvr s.lems (bHi s j),[⟨zdi s j,qOf ((1:Int):Rat)⟩,⟨⟨12,(j:Int),0,(bHi s j:Int)⟩,qOf ((1:Int):Rat)⟩]):=by
 unfold zdl;rw[if_neg (fun e=>by rw[zcc.2 e] at h;cases h),if_neg h1,if_pos (zdU.1 h2)]
theorem zoF(h:zby s j=false)(h1:bHi s j≠0)(h2:zdH s j=false)(h3:bLo s j=0):zdl s j=none:=by
 unfold zdl;rw[if_neg (fun e=>by rw[zcc.2 e] at h;cases h),if_neg h1,if_neg (fun e=>by rw[zdU.2 e] at h2;cases h2),if_pos h3]
theorem zmh(h:zby s j=false)(h1:bHi s j≠0)(h2:zdH s j=false)(h3:bLo s j≠0):zdl s j=some (lvr s.lems (bHi s j),[⟨⟨12,(j:Int),0,(bHi s j:Int)⟩,qOf ((lvr s.lems (bHi s j)).q*(((1:Int):Rat)/((lvr s.lems (bHi s j)).q-(lvr s.lems (bLo s j)).q)))⟩,⟨⟨13,(j:Int),(bLo s j:Int),(bHi s j:Int)⟩,qOf (((1:Int):Rat)/((lvr s.lems (bHi s j)).q-(lvr s.lems (bLo s j)).q))⟩]):=by
 rw[ziE,ziE];unfold zdl;rw[if_neg (fun e=>by rw[zcc.2 e] at h;cases h),if_neg h1,if_neg (fun e=>by rw[zdU.2 e] at h2;cases h2),if_neg h3]
theorem zcq{b:Qr}{l:List Mu}(h:zdl s j=some (b,l)):zhB s j=(b,l,true):=by unfold zhB;rw[h]
theorem zfq(h:zdl s j=none):zhB s j=(qZero,[],false):=by unfold zhB;rw[h]
theorem zv8(h:zby s j=false)(h1:bHi s j≠0)(h2:zdH s j=false)(h3:bLo s j≠0):(lvr s.lems (bHi s j)).q-(lvr s.lems (bLo s j)).q≠0:=by
 rw[ziE,ziE];have a1:¬lv s.lems (bHi s j)<=0:=fun e=>by rw[zcc.2 (.inr ⟨h1,e⟩)] at h;cases h
 have a2:¬0<=lv s.lems (bLo s j):=fun e=>by rw[zdU.2 (.inr ⟨h3,e⟩)] at h2;cases h2
 grind
theorem ztb{v:Nat}{up:Bool}(h:v<s.q.g.inp):zbN s v up=(qOf (zhV s v up).1,zko (zhV s v up).2,true):=by unfold zbN zi0;rw[if_pos h]
theorem zs9{v:Nat}(h:¬v<s.q.g.inp):zbN s v true=zhB s (v-s.q.g.inp):=by unfold zbN zi0 zhB;rw[if_neg h,if_pos rfl]
theorem zta{v:Nat}(h:¬v<s.q.g.inp):zbN s v false=((zmb s (v-s.q.g.inp)).1,(zmb s (v-s.q.g.inp)).2,true):=by unfold zbN zi0;rw[if_neg h,if_neg (by decide)]
theorem zo8{v:Nat}{up:Bool}(h:(zbN s v up).2.2=true):zi0 s v up=some ((zbN s v up).1,(zbN s v up).2.1):=by
 unfold zbN at *;split at h
 .rename_i b l e;rw[e]
 .cases h
theorem zw6{v:Nat}{up:Bool}(h:(zbN s v up).2.2=false):zi0 s v up=none:=by
 unfold zbN at *;split at h
 .cases h
 .rename_i e;rw[e]
theorem zwB(h:bLo s j≠0/\0<lv s.lems (bLo s j)):zmb s j=(lvr s.lems (bLo s j),[⟨⟨6,(j:Int),0,0⟩,qOf ((1:Int):Rat)⟩,⟨⟨11,(j:Int),(bLo s j:Int),0⟩,qOf ((1:Int):Rat)⟩]):=if_pos h
theorem zox(h:¬(bLo s j≠0/\0<lv s.lems (bLo s j))):zmb s j=(qZero,zko ⟨5,(j:Int),0,0⟩):=if_neg h
end
theorem zwI{s:Sc}{i n:Nat}{up:Bool}{d:Dc}(hd:s.path[n]?=some d)(h:d.kind=(if up=true then 4 else 3)/\d.idx=i/\(if up=true then d.pt<(zgq s i up n).1 else(zgq s i up n).1<d.pt)):zgq s i up (n+1)=(d.pt,⟨4,(n:Int),0,0⟩):=by rw[zek hd];exact if_pos h
theorem zjO{s:Sc}{i n:Nat}{up:Bool}{d:Dc}(hd:s.path[n]?=some d)(h:¬(d.kind=(if up=true then 4 else 3)/\d.idx=i/\(if up=true then d.pt<(zgq s i up n).1 else(zgq s i up n).1<d.pt))):zgq s i up (n+1)=zgq s i up n:=by rw[zek hd];exact if_neg h
theorem zsb{B:Nat}{s:Sc}(hs:SB B s){i:Nat}(hi:i<s.q.g.inp)(up:Bool){n:Nat}(hn:n<=s.path.length):Br (zgq s i up n).1 201:=(zmf hs hi up n hn).hb.br
@[reducible] def zc6(c:Rat):Rat:=mx c (-c)
theorem zdD(c:Rat):zc6 c=rq false (zaw c) (zaE c):=by
 obtain⟨a1,a2⟩:=zmK c;by_cases h:c<0
 .rw[a1 h];unfold zc6 mx;split <;> grind
 .rw[a2 h];unfold zc6 mx;split <;> grind
def zAB(s:Sc)(a:Option (Rat×List Mu))(t:Tm):Option (Rat×List Mu):=
 match a with
 |none=>none
 |some (x,l)=>match zi0 s t.1 (decide (t.2<0)) with
  |none=>none
  |some (b,m)=>some (x+t.2*b.q,l++zoc (zc6 t.2) m)
def zsX(s:Sc)(f:Af)(n:Nat):Option (Rat×List Mu):=(f.ts.take n).foldl (zAB s) (some (f.c,[]))
theorem zsT{s:Sc}{f:Af}{n:Nat}{t:Tm}(h:f.ts[n]?=some t):zsX s f (n+1)=zAB s (zsX s f n) t:=by
 unfold zsX;rw[zaO h,zER];rfl
theorem zsY{s:Sc}{a:Option (Rat×List Mu)}{t:Tm}:(zAB s a t).map (fun p=>(p.1,zcy p.2))=zmD s (a.map fun p=>(p.1,zcy p.2)) t:=by
 cases a with
 |none=>rfl
 |some p=>
  obtain⟨x,l⟩:=p;unfold zAB zmD;simp only[Option.map_some]
  cases zi0 s t.1 (decide (t.2<0)) with
  |none=>rfl
  |some b=>simp only[Option.map_some];rw[zva,zdD]
theorem zsW{s:Sc}{f:Af}(n:Nat):(zsX s f n).map (fun p=>(p.1,zcy p.2))=zhE s f n:=by
 unfold zsX zhE;have:∀(ts:List Tm) (a:Option (Rat×List Mu)),(ts.foldl (zAB s) a).map (fun p=>(p.1,zcy p.2))=ts.foldl (zmD s) (a.map fun p=>(p.1,zcy p.2)):=by
  intro ts
  induction ts with
  |nil=>intro a;rfl
  |cons t ts ih=>intro a;rw[List.foldl_cons,List.foldl_cons,ih,zsY]
 exact this _ _
structure PlOk(B F n:Nat)(l:List Mu):Prop where
 len:l.length<=2*n
 mb:MB (4*B+F+20) l
 cof:zje l
theorem zDV(c:Rat):0<=zc6 c:=by rw[zdD];exact zeo c
theorem znH{c:Rat}{B:Nat}(h:Br c B):Br (zc6 c) (B+1):=by
 unfold zc6 mx;split
 .exact h.mono (by omega)
 .haveI:=h;exact(inferInstance:Br (-c) _).mono (by omega)
theorem zqZ{c:Rat}{m:Mu}{l:List Mu}(h:m∈zoc c l):∃x∈l,m=⟨x.r,qOf (c*x.c.q)⟩:=by
 obtain⟨x,hx,rfl⟩:=List.mem_map.1 h;exact⟨x,hx,rfl⟩
theorem PlOk.next{B F n:Nat}{l:List Mu}(h:PlOk B F n l){s:Sc}{m:List Mu}(hm:StepOk s (4*B+12) m){c:Rat}(hc:Br c F):PlOk B F (n+1) (l++zoc (zc6 c) m):=by
 refine⟨?_,fun x hx=>?_,fun x hx=>?_⟩
 .have h1:=h.len;have h2:=hm.len;simp only[zEF,zoc,List.length_map];omega
 .rcases zEK.1 hx with hx|hx
  .exact h.mb x hx
  .obtain⟨y,hy,rfl⟩:=zqZ hx;haveI:=znH hc;haveI:=hm.bd y hy;exact(Fq.of (r:=zc6 c*y.c.q)).mono (by omega)
 .rcases zEK.1 hx with hx|hx
  .exact h.cof x hx
  .obtain⟨y,hy,rfl⟩:=zqZ hx;show qOf _=qOf (qOf _).q/\0<=(qOf _).q;rw[zaj];exact⟨rfl,Rat.mul_nonneg (zDV c) (Rat.le_of_lt (hm.pos y hy))⟩
theorem zud{c:Rat}{m:List Mu}{k:Nat}{x:Mu}(h:m[k]?=some x):zoc c (m.take k)++[⟨x.r,qOf (c*x.c.q)⟩]=zoc c (m.take (k+1)):=by
 unfold zoc;rw[zaO h,List.map_append];rfl
theorem zkW{s:Sc}{f:Af}{n:Nat}{x:Rat}{l:List Mu}(h:zsX s f n=some (x,l)):zhE s f n=some (x,zcy l):=by rw[<-zsW,h];rfl
theorem zsV{s:Sc}{f:Af}{n:Nat}{t:Tm}{x:Rat}{l:List Mu}(ht:f.ts[n]?=some t)(h:zsX s f n=some (x,l))(hb:(zbN s t.1 (decide (t.2<0))).2.2=true) :
  zsX s f (n+1)=some (x+t.2*(zbN s t.1 (decide (t.2<0))).1.q,l++zoc (zc6 t.2) (zbN s t.1 (decide (t.2<0))).2.1):=by
 rw[zsT ht,h];unfold zAB;simp only[zo8 hb]
theorem zsU{s:Sc}{f:Af}{n:Nat}{t:Tm}{x:Rat}{l:List Mu}(ht:f.ts[n]?=some t)(h:zsX s f n=some (x,l))(hb:(zbN s t.1 (decide (t.2<0))).2.2=false):zbM s f=(0,[],false):=by
 refine zen (zmE (n:=n+1) ?_);rw[zc4 ht,zkW h];unfold zmD;simp only[zw6 hb]
theorem zvn{s:Sc}{f:Af}{x:Rat}{l:List Mu}(h:zsX s f f.ts.length=some (x,l)):zbM s f=(x,zcy l,true):=zc5 (zkW h)
theorem zs0{s:Sc}{f:Af}{n:Nat}{t:Tm}{x:Rat}{l:List Mu}(ht:f.ts[n]?=some t)(h:zhE s f n=some (x,l))(hb:(zbN s t.1 (decide (t.2<0))).2.2=true) :
  zhE s f (n+1)=some (x+t.2*(zbN s t.1 (decide (t.2<0))).1.q,zaU l (zbN s t.1 (decide (t.2<0))).2.1 (rq false (zaw t.2) (zaE t.2))):=by
 rw[zc4 ht,h];unfold zmD;simp only[zo8 hb]
theorem zsZ{s:Sc}{f:Af}{n:Nat}{t:Tm}{x:Rat}{l:List Mu}(ht:f.ts[n]?=some t)(h:zhE s f n=some (x,l))(hb:(zbN s t.1 (decide (t.2<0))).2.2=false):zbM s f=(0,[],false):=by
 refine zen (zmE (n:=n+1) ?_);rw[zc4 ht,h];unfold zmD;simp only[zw6 hb]
theorem zwG{up:Bool}{a b:Rat}:zft a b=(if up=true then(-1:Int) else 1)↔(if up=true then a<b else b<a):=by
 cases up
 .simp only[zEL,if_false];exact zkN
 .simp only[if_true];exact zkM
theorem PlOk.start{B F:Nat}:PlOk B F 0 []:=⟨by simp,fun m hm=>by simp at hm,fun m hm=>by simp at hm⟩
@[reducible] def bdL(x:Rat)(l:List Mu)(b:Bool):List Leaf:=[Leaf.val (.bool (zaQ x)),zaf (zaa (zaw x)),zaf (zaa (zaE x)),muE.row l,Leaf.val (.bool b)]
@[reducible] def bdV(x:Rat)(l:List Mu)(b:Bool):V:=V.agg (bdL x l b)
theorem bdZ:D.agg [Leaf.val (.bool false),nilL,nilL,nilL,Leaf.val (.bool false)]=D.agg (bdL 0 [] false):=by
 unfold bdL;rw[zez Rat.le_refl,zbp,zbq,zah];rfl
theorem zsa{up:Bool}{a b:Rat}:0<(if up=true then(-1:Int) else 1)*zft a b↔(if up=true then a<b else b<a):=by
 cases up
 .simp only[zEL,if_false,Int.one_mul];exact zdB
 .simp only[if_true];rw[<-zfV];omega
theorem zBQ{up:Bool}{a b:Rat}:-1<=(if up=true then(-1:Int) else 1)*zft a b/\(if up=true then(-1:Int) else 1)*zft a b<=1:=by
 have h:zft a b = -1\/zft a b=0\/zft a b=1:=by unfold zft;(repeat' split) <;> decide
 cases up
 .simp only[zEL,if_false,Int.one_mul];omega
 .simp only[if_true];omega
end Rc
