/- Parts of the proof, 12: the texts EvC, EvD, EvE, EvF, EvG, EvH, EvI, as far as they are used. -/
import Derived.Test.YtakccfmgipajnaaGreatDoorWp11
import Derived.OwnWalkIn
set_option linter.unusedSimpArgs false
set_option linter.unusedVariables false
set_option maxRecDepth 10000
namespace Rc
abbrev XW:=@Go.Sem.run_bind
abbrev Yq:=@Bool.cond_eq_ite
abbrev ZH:=@Nat.lt_iff_add_one_le
abbrev ZI:=@Array.getD_eq_getD_getElem?
abbrev Z3:=@Go.Result.andThen_ok
abbrev zaC:=@Go.Oper.semAt_plain
abbrev zaH:=@Nat.le_succ
end Rc
namespace Rc.Ev
open Go
theorem cd{α:Type}(n:Nat)(k:Nat->α):fN n k=k n:=by cases n <;> rfl
theorem gz{α β:Type}(l:List α)(k:List α->β):kp l k=k l:=by
 induction l generalizing k with
 |nil=>rfl
 |cons x l ih=>exact ih _
theorem Ud{α:Type}(l:List Nat)(k:List Nat->α):Cm l k=k l:=by
 induction l generalizing k with
 |nil=>rfl
 |cons x l ih=>show fN x (fun x=>Cm l fun l=>k (x::l))=_;rw[cd,ih]
theorem Uc{α:Type}(S:HS)(k:HS->α):fS S k=k S:=by cases S;rfl
theorem Cl{α:Type}(c:Option Nat)(k:Option Nat->α):fO c k=k c:=by cases c <;> simp[fO,cd]
theorem gu{α:Type}(l:List α):len l=l.length:=by
 induction l with
 |nil=>rfl
 |cons x l ih=>show Nat.add (len l) 1=_;rw[ih];rfl
theorem jd{α:Type}(l m:List α):app l m=l++m:=by
 induction l with
 |nil=>rfl
 |cons x l ih=>show x::app l m=_;rw[ih];rfl
theorem iV{α:Type}(l:List α)(n:Nat):nth l n=l[n]?:=by
 induction l generalizing n with
 |nil=>rfl
 |cons x l ih=>
  show(bif Nat.beq n 0 then some x else nth l (Nat.sub n 1))=_
  cases n with
  |zero=>rfl
  |succ n=>show nth l (n+1-1)=_;rw[ih];rfl
theorem z8{α:Type}(n:Nat)(l:List α):tk n l=l.take n:=by
 induction l generalizing n with
 |nil=>simp[tk]
 |cons x l ih=>
  show(bif Nat.beq n 0 then[] else x::tk (Nat.sub n 1) l)=_
  cases n with
  |zero=>rfl
  |succ n=>show x::tk (n+1-1) l=_;rw[ih];rfl
theorem JC{α:Type}(n:Nat)(l:List α):dr n l=l.drop n:=by
 induction l generalizing n with
 |nil=>simp[dr]
 |cons x l ih=>
  show(bif Nat.beq n 0 then x::l else dr (Nat.sub n 1) l)=_
  cases n with
  |zero=>rfl
  |succ n=>show dr (n+1-1) l=_;rw[ih];rfl
theorem OD{α:Type}(l:List α)(n:Nat):(rep l n).length=n*l.length:=by
 induction n with
 |zero=>show([]:List α).length=_;simp
 |succ n ih=>show(app l (rep l n)).length=_;rw[jd,XX,ih,Nat.succ_mul,ZX]
theorem A6{α:Type}{l r:List α}{o zV0:Nat}(h:part l o zV0=some r):r=(l.drop o).take zV0/\r.length=zV0/\(zV0=0\/o+zV0<=l.length):=by
 unfold part at h;simp only[z8,JC,gu] at h;cases hb:Nat.beq ((l.drop o).take zV0).length zV0
 .rw[hb] at h;simp at h
 .rw[hb] at h;simp only[cond_true,XL] at h;have hl:=XT hb;subst h;refine⟨rfl,hl,?_⟩;rw[X2,X1] at hl;omega
theorem AL{α:Type}{l r l':List α}{o:Nat}(h:rn l o r=some l'):l'=l.take o++(r++l.drop (o+r.length))/\o+r.length<=l.length/\l'.length=l.length:=by
 unfold rn at h;simp only[z8,JC,gu,jd] at h;cases hb:Nat.ble (Nat.add o r.length) l.length
 .rw[hb] at h;simp at h
 .rw[hb] at h;simp only[cond_true,XL] at h;have hl:o+r.length<=l.length:=XU hb;subst h;refine⟨rfl,hl,?_⟩;simp only[XX,X2,X1,Nat.add_eq];omega
theorem gM{α β:Type}(t:Tr α)(p:List Bool)(x:Option α)(k:Tr α->β):t.fb p x k=k (t.eZ p x):=by
 induction t generalizing p k with
 |e=>rfl
 |n v l r il ir=>
  cases p with
  |nil=>rfl
  |cons b p=>
         cases b
         .exact ir p _
         .exact il p _
theorem BS{α:Type}(t:Tr α)(p p':List Bool)(x:Option α){y:α}(h:(t.eZ p x).dX p'=some y):(p'=p/\x=some y)\/(p'≠p/\t.dX p'=some y):=by
 induction t generalizing p p' with
 |e=>exact absurd h (by simp[Tr.eZ,Tr.dX])
 |n v l r il ir=>
  cases p with
  |nil=>
   cases p' with
   |nil=>exact .inl ⟨rfl,h⟩
   |cons b' p'=>exact .inr ⟨by simp,h⟩
  |cons b p=>
   cases p' with
   |nil=>cases b <;> exact .inr ⟨by simp,h⟩
   |cons b' p'=>
    cases b <;> cases b'
    .rcases ir p p' h with⟨e,hx⟩|⟨e,hx⟩
     .exact .inl ⟨by rw[e],hx⟩
     .exact .inr ⟨by simpa using e,hx⟩
    .exact .inr ⟨by simp,h⟩
    .exact .inr ⟨by simp,h⟩
    .rcases il p p' h with⟨e,hx⟩|⟨e,hx⟩
     .exact .inl ⟨by rw[e],hx⟩
     .exact .inr ⟨by simpa using e,hx⟩
theorem lU{α:Type}(t:Tr α){p p':List Bool}(x:Option α)(h:p'≠p):(t.eZ p x).dX p'=t.dX p':=by
 induction t generalizing p p' with
 |e=>rfl
 |n v l r il ir=>
  cases p with
  |nil=>
   cases p' with
   |nil=>exact absurd rfl h
   |cons b' p'=>rfl
  |cons b p=>
   cases p' with
   |nil=>cases b <;> rfl
   |cons b' p'=>
    cases b <;> cases b'
    .exact ir (fun e=>h (by rw[e]))
    .rfl
    .rfl
    .exact il (fun e=>h (by rw[e]))
theorem Ph:∀(f k k':Nat),k<2^f-1->k'<2^f-1->lK f k=lK f k'->k=k':=by
 intro f
 induction f with
 |zero=>intro k k' h _ _;simp at h
 |succ f ih=>
  intro k k' h h' he;have e1:∀k,lK (f+1) k=bif Nat.beq k 0 then[] else bif Nat.beq (Nat.mod k 2) 1 then true::lK f (Nat.div k 2) else false::lK f (Nat.sub (Nat.div k 2) 1):=fun _=>rfl;rw[e1,e1] at he;have hp:2^(f+1)=2*2^f:=by rw[Yb,Yu]
  have hp0:0<2^f:=Yp (by decide);have hb:∀n,Nat.beq n 0=decide (n=0):=fun n=>by cases n <;> rfl
  have hb1:∀n,Nat.beq (Nat.mod n 2) 1=decide (n%2=1):=fun n=>by
   by_cases hn:n%2=1
   .rw[decide_eq_true hn];show Nat.beq (n%2) 1=true;rw[hn];rfl
   .have:n%2=0:=by omega
    rw[decide_eq_false hn];show Nat.beq (n%2) 1=false;rw[this];rfl
  have hd:∀n,Nat.div n 2=n/2:=fun _=>rfl;have hs:∀n,Nat.sub n 1=n-1:=fun _=>rfl;rw[hb,hb,hb1,hb1,hd,hd,hs,hs] at he;by_cases zV0:k=0 <;> by_cases z':k'=0 <;> by_cases o:k%2=1 <;> by_cases o':k'%2=1 <;> simp[zV0,z',o,o'] at he <;> try omega
  .have:=ih _ _ (by omega) (by omega) he;omega
  .have:=ih _ _ (by omega) (by omega) he;omega
theorem kH{k k':Nat}(h:k<1048575)(h':k'<1048575)(he:bu k=bu k'):k=k':=Ph 20 k k' (by simpa using h) (by simpa using h') he
structure Mp where
 d:Nat->Prop
 b:Nat->Nat
 z:Nat->Nat
 e:Nat->Nat
 A:Cells
mutual
def vr(M:Mp)(w:World):CV->Value->Prop
 |.k v,u=>u=v/\v.oneCell'=true
 |.p b o,u=>M.d b/\u = .pointer (some ⟨M.b b,o,none⟩)
 |.s b o n c,u=>M.d b/\∃c',u = .slice (some ⟨M.b b,o,none⟩) n c'/\n<=c'/\c'<=maxLen/\(match c with|some k=>c'=k|none=>c'*M.e b+o=M.z b)
 |.e,u=>∃a c',u = .slice a 0 c'
 |.q l,u=>(ae l).den (ak.of M.A) u w
 |.pq l i,u=>∃a x,u = .pointer (some a)/\l[i]?=some x/\a.spot=none/\M.A a.block a.off/\w.cell? a=some (.int .u32 (x:Int))
 |.f fn fs cs,u=>∃fs' cs':List Value,u = .func fn fs'.toArray cs'.toArray/\aC M w fs fs'/\aC M w cs cs'
 |.i t v,u=>∃v',u = .iface t v'/\vr M w v v'
 |.a l,u=>∃l':List Value,u = .agg l'.toArray/\aC M w l l'/\∀x∈l',x.oneCell'=true
 |.t l,u=>∃l':List Value,u = .tuple l'.toArray/\aC M w l l'
 |.m b,u=>M.d b/\u = .map (some (M.b b))
 |.y b,u=>M.d b/\u = .func (.yield (M.b b)) #[] #[]
 |.z,u=>∃a,u = .pointer (some a)
def aC(M:Mp)(w:World):List CV->List Value->Prop
 |[],[]=>True
 |x::xs,y::ys=>vr M w x y/\aC M w xs ys
 |[],_::_=>False
 |_::_,[]=>False
end
structure Mp.ext(M M':Mp):Prop where
 d:∀i,M.d i->M'.d i
 b:∀i,M.d i->M'.b i=M.b i
 z:∀i,M.d i->M'.z i=M.z i
 e:∀i,M.d i->M'.e i=M.e i
 A:∀k j,M.A k j->M'.A k j
theorem Mp.ext.refl(M:Mp):M.ext M:=⟨fun _ h=>h,fun _ _=>rfl,fun _ _=>rfl,fun _ _=>rfl,fun _ _ h=>h⟩
theorem Mp.ext.trans{M M' M'':Mp}(h:M.ext M')(h':M'.ext M''):M.ext M'':=
 ⟨fun i hi=>h'.d i (h.d i hi),fun i hi=>(h'.b i (h.d i hi)).trans (h.b i hi),fun i hi=>(h'.z i (h.d i hi)).trans (h.z i hi),fun i hi=>(h'.e i (h.d i hi)).trans (h.e i hi),fun k j hk=>h'.A k j (h.A k j hk)⟩
mutual
theorem qG{M M':Mp}{w w':World}(he:M.ext M')(hk:kept M.A w w'):∀(x:CV) (u:Value),vr M w x u->vr M' w' x u
 |.k v,u,h=>by simp only[vr] at *;exact h
 |.p b o,u,h=>by simp only[vr] at *;exact⟨he.d _ h.1,by rw[he.b _ h.1];exact h.2⟩
 |.s b o n c,u,h=>by
  simp only[vr] at *;obtain⟨h0,c',h1,h2,h3,h4⟩:=h;refine⟨he.d _ h0,c',by rw[he.b _ h0];exact h1,h2,h3,?_⟩
  cases c with
  |some k=>exact h4
  |none=>simp only at *;rw[he.e _ h0,he.z _ h0];exact h4
 |.e,u,h=>by simp only[vr] at *;exact h
 |.q l,u,h=>by simp only[vr] at *;exact ab.cU (ak.le.of he.A) (ab.fK hk h)
 |.pq l i,u,h=>by
  simp only[vr] at *;obtain⟨⟨bl,off,sp⟩,x,h1,h2,h3,h4,h5⟩:=h;simp only at h3 h4;subst h3;exact⟨⟨bl,off,none⟩,x,h1,h2,rfl,he.A _ _ h4,by rw[hk _ _ h4];exact h5⟩
 |.f fn fs cs,u,h=>by
  simp only[vr] at *;obtain⟨fs',cs',h1,h2,h3⟩:=h;exact⟨fs',cs',h1,jG he hk fs fs' h2,jG he hk cs cs' h3⟩
 |.i t v,u,h=>by
  simp only[vr] at *;obtain⟨v',h1,h2⟩:=h;exact⟨v',h1,qG he hk v v' h2⟩
 |.a l,u,h=>by
  simp only[vr] at *;obtain⟨l',h1,h2,h3⟩:=h;exact⟨l',h1,jG he hk l l' h2,h3⟩
 |.t l,u,h=>by
  simp only[vr] at *;obtain⟨l',h1,h2⟩:=h;exact⟨l',h1,jG he hk l l' h2⟩
 |.m b,u,h=>by simp only[vr] at *;exact⟨he.d _ h.1,by rw[he.b _ h.1];exact h.2⟩
 |.y b,u,h=>by simp only[vr] at *;exact⟨he.d _ h.1,by rw[he.b _ h.1];exact h.2⟩
 |.z,u,h=>by simp only[vr] at *;exact h
theorem jG{M M':Mp}{w w':World}(he:M.ext M')(hk:kept M.A w w'):∀(xs:List CV) (us:List Value),aC M w xs us->aC M' w' xs us
 |[],[],_=>trivial
 |x::xs,u::us,h=>by simp only[aC] at *;exact⟨qG he hk x u h.1,jG he hk xs us h.2⟩
 |[],_::_,h=>by simp only[aC] at h
 |_::_,[],h=>by simp only[aC] at h
end
theorem fT{M:Mp}{w:World}:∀{xs:List CV} {us:List Value},aC M w xs us->us.length=xs.length
 |[],[],_=>rfl
 |x::xs,u::us,h=>by simp only[aC] at h;simp[fT h.2]
 |[],_::_,h=>by simp only[aC] at h
 |_::_,[],h=>by simp only[aC] at h
theorem wA{M:Mp}{w:World}:∀{xs:List CV} {us:List Value} {i:Nat} {x:CV},aC M w xs us->xs[i]?=some x->∃u,us[i]?=some u/\vr M w x u
 |[],[],_,_,_,hi=>by simp at hi
 |x::xs,u::us,i,y,h,hi=>by
  simp only[aC] at h
  cases i with
  |zero=>simp at hi;subst hi;exact⟨u,rfl,h.1⟩
  |succ i=>simpa using wA h.2 (by simpa using hi)
 |[],_::_,_,_,h,_=>by simp only[aC] at h
 |_::_,[],_,_,h,_=>by simp only[aC] at h
theorem ky{M:Mp}{w:World}:∀{xs xs':List CV} {us us':List Value},aC M w xs us->aC M w xs' us'->aC M w (xs++xs') (us++us')
 |[],_,[],_,_,h'=>h'
 |x::xs,_,u::us,_,h,h'=>by simp only[aC,Z6] at *;exact⟨h.1,ky h.2 h'⟩
 |[],_,_::_,_,h,_=>by simp only[aC] at h
 |_::_,_,[],_,h,_=>by simp only[aC] at h
theorem tB{M:Mp}{w:World}:∀{xs:List CV} {us:List Value} (n:Nat),aC M w xs us->aC M w (xs.take n) (us.take n)
 |[],[],n,_=>by simp[aC]
 |x::xs,u::us,0,h=>by simp[aC]
 |x::xs,u::us,n+1,h=>by simp only[aC,zaK] at *;exact⟨h.1,tB n h.2⟩
 |[],_::_,_,h=>by simp only[aC] at h
 |_::_,[],_,h=>by simp only[aC] at h
theorem tC{M:Mp}{w:World}:∀{xs:List CV} {us:List Value} (n:Nat),aC M w xs us->aC M w (xs.drop n) (us.drop n)
 |[],[],n,_=>by simp[aC]
 |x::xs,u::us,0,h=>h
 |x::xs,u::us,n+1,h=>by simp only[aC,List.drop_succ_cons] at *;exact tC n h.2
 |[],_::_,_,h=>by simp only[aC] at h
 |_::_,[],_,h=>by simp only[aC] at h
def fD{α:Type}:Tr α->List Bool->Bool
 |.e,_=>false
 |.n _ _ _,[]=>true
 |.n _ l r,b::p=>if b then fD l p else fD r p
def rm{α:Type}(t:Tr α)(N:Nat):Prop:=∀s,fD t (bu s)=true->s<N
def aR:Nat:=1048575
def sr(M:Mp)(w:World)(T:Tr CV)(a:Array Value):Prop:=∀s x,T.get s=some x->∃u,a[s]?=some u/\vr M w x u
def mr(M:Mp)(w:World):List (Value×CV×Nat)->List MapEntry->Prop
 |[],[]=>True
 |x::xs,y::ys=>(y.key=x.1/\x.1.oneCell'=true/\vr M w x.2.1 y.val/\y.born=x.2.2)/\mr M w xs ys
 |[],_::_=>False
 |_::_,[]=>False
def br(M:Mp)(w:World)(i:Nat):Bk->Prop
 |.c l t x=>∃cs rest:List Value,w.heap[M.b i]?=some (.cells (cs++rest).toArray t (0,0))/\(cs++rest).length=M.z i/\(x=true->rest=[])/\aC M w l cs/\(∀v∈cs,v.oneCell'=true)/\dc t=some (M.e i)
 |.m es ck=>∃es':List MapEntry,w.heap[M.b i]?=some (.map es'.toArray ck)/\mr M w es es'
 |.l st pd _ tm ps asg body df=>∃(fn:FuncId) (a:Array Value),w.heap[M.b i]?=some (.loop ⟨st,pd,fn,a,ps,asg,body,M.b df⟩)/\sr M w tm a/\M.d df/\rm tm a.size/\a.size<=Ev.aR
 |.d op=>w.heap[M.b i]?=some (.deferred (bif op then some [] else none))
theorem my{M M':Mp}{w w':World}(he:M.ext M')(hk:kept M.A w w'){T:Tr CV}{a:Array Value}(h:sr M w T a):sr M' w' T a:=fun s x hx=>
 let ⟨u,h1,h2⟩:=h s x hx;⟨u,h1,qG he hk x u h2⟩
theorem Bm{M M':Mp}{w w':World}(he:M.ext M')(hk:kept M.A w w'):∀{xs:List (Value×CV×Nat)} {ys:List MapEntry},mr M w xs ys->mr M' w' xs ys
 |[],[],_=>trivial
 |x::xs,y::ys,h=>⟨⟨h.1.1,h.1.2.1,qG he hk _ _ h.1.2.2.1,h.1.2.2.2⟩,Bm he hk h.2⟩
 |[],_::_,h=>h.elim
 |_::_,[],h=>h.elim
theorem l8{M M':Mp}{w w':World}(he:M.ext M')(hk:kept M.A w w'){i:Nat}(hd:M.d i)(hb:w'.heap[M.b i]?=w.heap[M.b i]?){b:Bk}(h:br M w i b):br M' w' i b:=by
 have e1:=he.b i hd
 cases b with
 |c l t x=>
  obtain⟨cs,rest,h1,h2,h3,h4,h5,h6⟩:=h;exact⟨cs,rest,by rw[e1,hb];exact h1,by rw[he.z i hd];exact h2,h3,jG he hk _ _ h4,h5,by rw[he.e i hd];exact h6⟩
 |m es ck=>
  obtain⟨es',h1,h2⟩:=h;exact⟨es',by rw[e1,hb];exact h1,Bm he hk h2⟩
 |l st pd fn tm ps asg body df=>
  obtain⟨fn',a,h1,h2,h3,h4⟩:=h;exact⟨fn',a,by rw[e1,hb,he.b df h3];exact h1,my he hk h2,he.d df h3,h4⟩
 |d op=>
  show w'.heap[M'.b i]?=_;rw[e1,hb];exact h
theorem jY{M:Mp}{w:World}{i:Nat}{b:Bk}(h:br M w i b):M.b i<w.heap.size:=by
 cases b with
 |c l t x=>obtain⟨cs,rest,h1,_⟩:=h;exact(X4.1 h1).1
 |m es ck=>obtain⟨es',h1,_⟩:=h;exact(X4.1 h1).1
 |l st pd fn tm ps asg body df=>obtain⟨_,_,h1,_⟩:=h;exact(X4.1 h1).1
 |d op=>have h1:w.heap[M.b i]?=_:=h;exact(X4.1 h1).1
structure Hr(T:Nat->Prop)(M:Mp)(S:HS)(w:World):Prop where
 bO:∀i b,T i->S.rd i=some b->M.d i/\br M w i b
 inj:∀i j b b',T i->T j->S.rd i=some b->S.rd j=some b'->i≠j->M.b i≠M.b j
 apart:∀i b,T i->S.rd i=some b->∀j,¬M.A (M.b i) j
 bc:∀k j,M.A k j->k<w.heap.size
 aR:∀i,T i->i<aR
section
variable {M:Mp}{w:World}
theorem vx{v:Value}{x:CV}(h:l3 v=some x):vr M w x v:=by
 unfold l3 at h;split at h <;> simp at h <;> subst h <;> simp[vr,Value.oneCell']
theorem UO{v:Value}{x:CV}(h:l3 v=some x):v.oneCell'=true:=by
 unfold l3 at h;split at h <;> simp at h <;> simp[Value.oneCell']
theorem JN:∀{l:List Value} {xs:List CV},CE l=some xs->aC M w xs l/\∀v∈l,v.oneCell'=true
 |[],xs,h=>by
  have h:some ([]:List CV)=some xs:=h;cases h;exact⟨by simp[aC],fun v hv=>by simp at hv⟩
 |v::l,xs,h=>by
  have h:(match l3 v,CE l with|some x,some xs=>some (x::xs)|_,_=>none)=some xs:=h;split at h
  .rename_i x ys h1 h2;simp at h;subst h;obtain⟨h3,h4⟩:=JN h2;refine⟨by simp only[aC];exact⟨vx h1,h3⟩,fun u hu=>?_⟩;rcases X9.1 hu with rfl|hu
   .exact UO h1
   .exact h4 u hu
  .simp at h
theorem CF{v:Value}{x:CV}(h:yE v=some x):vr M w x v:=by
 unfold yE at h;split at h
 .rename_i cs;split at h
  .rename_i l hl;simp at h;subst h;obtain⟨h1,h2⟩:=JN (M:=M) (w:=w) hl;simp only[vr];exact⟨cs.toList,by simp,h1,h2⟩
  .simp at h
 .rename_i vs;split at h
  .rename_i hl;simp at h;subst h;simp only[vr];exact⟨[],by rw[<-hl],by simp[aC]⟩
  .simp at h
 .exact vx h
theorem cQ{T:Tr CV}{a:Act}{x:Operand}{v:CV}(hT:sr M w T a.tmps)(h:bM T x=some v):vr M w v (a.eval x):=by
 cases x with
 |tmp t=>
  obtain⟨u,h1,h2⟩:=hT t v h;show vr M w v (a.tmps.getD t undef);rw[ZI,h1];exact h2
 |const c=>exact CF h
 |global g=>exact absurd h (by simp[bM])
 |func f=>
  have h:some (CV.f (.func f) [] [])=some v:=h;cases h;simp only[vr];exact⟨[],[],rfl,by simp[aC],by simp[aC]⟩
theorem xn{T:Tr CV}{a:Act}(hT:sr M w T a.tmps):∀{l:List Operand} {vs:List CV},dU T l=some vs->aC M w vs (l.map a.eval)
 |[],vs,h=>by
  have h:some ([]:List CV)=some vs:=h;cases h;simp[aC]
 |x::l,vs,h=>by
  have h:(match bM T x,dU T l with|some v,some vs=>some (v::vs)|_,_=>none)=some vs:=h;split at h
  .rename_i v us h1 h2;simp at h;subst h;simp only[ZP,aC];exact⟨cQ hT h1,xn hT h2⟩
  .simp at h
theorem JP:∀{xs:List CV} {l us:List Value},cos xs=some l->aC M w xs us->us=l
 |[],l,us,h,hr=>by
  have h:some ([]:List Value)=some l:=h;cases h
  cases us with
  |nil=>rfl
  |cons u us=>simp[aC] at hr
 |x::xs,l,us,h,hr=>by
  have h:(match CI x,cos xs with|some x,some xs=>some (x::xs)|_,_=>none)=some l:=h;split at h
  .rename_i v vs h1 h2;simp at h;subst h
   cases us with
   |nil=>simp[aC] at hr
   |cons u us=>
    simp only[aC] at hr;have:=JP h2 hr.2;subst this;cases x <;> simp[CI] at h1;subst h1;have:=hr.1;simp only[vr] at this;rw[this.1]
  .simp at h
theorem JQ{x:CV}{v u:Value}(h:yF x=some v)(hr:vr M w x u):u=v:=by
 unfold yF at h;split at h
 .simp at h;subst h;simp only[vr] at hr;exact hr.1
 .split at h
  .rename_i l' hl;simp at h;subst h;simp only[vr] at hr;obtain⟨l2,h1,h2,_⟩:=hr;rw[h1,JP hl h2]
  .simp at h
 .simp at h
end
theorem uf{α:Type}:∀(s:Sem α) {a:α} (w:World),gZ s=some a->s.run PP w = .ok a w
 |.pure x,a,w,h=>by
  have h:some x=some a:=h;cases h;rfl
 |.program k,a,w,h=>by
  have h:gZ (k PP)=some a:=h;show(k PP).run PP w=_;exact uf (k PP) w h
 |.mark m k,a,w,h=>by
  have h:gZ k=some a:=h;show k.run PP w=_;exact uf k w h
 |.load ..,_,_,h=>by simp[gZ] at h
 |.store ..,_,_,h=>by simp[gZ] at h
 |.new ..,_,_,h=>by simp[gZ] at h
 |.shape ..,_,_,h=>by simp[gZ] at h
 |.freeze ..,_,_,h=>by simp[gZ] at h
 |.frozen ..,_,_,h=>by simp[gZ] at h
 |.getObj ..,_,_,h=>by simp[gZ] at h
 |.setObj ..,_,_,h=>by simp[gZ] at h
 |.choose ..,_,_,h=>by simp[gZ] at h
 |.sys ..,_,_,h=>by simp[gZ] at h
 |.halt ..,_,_,h=>by simp[gZ] at h
theorem SC{P:Program}{t:TypeId}{i:TypeInfo}(h:nth P.types.toList t=some i):P.info? t=some i:=by
 rw[iV] at h;have hlt:t<P.types.size:=by
  have:=(XN.1 h).1;simpa using this
 unfold Tables.info?;rw[if_pos hlt];simpa using h
theorem oz{t:TypeId}{i:TypeInfo}(h:inf t=some i):PP.info? t=some i:=SC h
theorem Mw{P:Program}{f:TypeId->Option TypeInfo}(hf:∀{t i},f t=some i->P.info? t=some i){t:TypeId}{d:TypeDesc}
  (h:(match f t with
   |some i=>(match i.desc with
    |.named _ u=>(match f u with|some j=>some j.desc|none=>none)
    |d=>some d)
   |none=>none)=some d):P.underlying t=some d:=by
 cases h1:f t with
 |none=>rw[h1] at h;simp at h
 |some i=>
  rw[h1] at h;have h2:=hf h1;unfold Program.underlying;rw[h2];obtain⟨ds,s,zV0,b,p,al,fa,zr,c,m⟩:=i;cases ds <;> simp only[XL] at h ⊢ <;> try exact h
  rename_i n u
  cases h3:f u with
  |none=>rw[h3] at h;simp at h
  |some j=>
   rw[h3] at h;rw[hf h3];simpa using h
theorem cz{t:TypeId}{d:TypeDesc}(h:cR t=some d):PP.underlying t=some d:=Mw oz h
theorem mw{t:TypeId}{zV0:Nat}(h:dc t=some zV0):∃i,PP.info? t=some i/\i.size=zV0:=by
 unfold dc at h;split at h
 .rename_i i hi;simp at h;exact⟨i,oz hi,h⟩
 .simp at h
theorem Jz{t e:TypeId}(h:elemOf t=some e):PP.underlying t=some (.slice e):=by
 unfold elemOf at h;split at h
 .rename_i e' he;simp at h;subst h;exact cz he
 .simp at h
theorem re{t:TypeId}{b:Bool}(w:World)(h:qn t=some b):(isAgg t).run PP w = .ok b w:=by
 unfold qn at h;split at h
 .rename_i hu;simp at h;subst h;simp[isAgg,run_underlying (cz hu)]
 .rename_i hu;simp at h;subst h;simp[isAgg,run_underlying (cz hu)]
 .rename_i d h1 h2 hu;simp at h;subst h;cases d <;> simp[isAgg,run_underlying (cz hu)] <;> simp_all
 .simp at h
theorem gk{t:TypeId}{zV0:Nat}(w:World)(h:dc t=some zV0):(Go.sizeOf t).run PP w = .ok zV0 w:=by
 obtain⟨i,h1,h2⟩:=mw h;rw[run_sizeOf w h1];simp[Program.cellsOf,h1,h2]
def tb(m i:Nat):Prop:=m.testBit i=true
theorem aM{a b i:Nat}:tb (Nat.lor a b) i↔tb a i\/tb b i:=by
 unfold tb;rw[show Nat.lor a b=a ||| b from rfl,Nat.testBit_or];simp
theorem cn{i j:Nat}:tb (fM i) j↔j=i:=by
 unfold tb fM;rw[show Nat.shiftLeft 1 i=1 <<< i from rfl,Nat.one_shiftLeft,Nat.testBit_two_pow];simp[eq_comm]
theorem fA(S:HS)(i:Nat):S.bD i=⟨S.h,S.c,Nat.lor S.tm (fM i),S.mm⟩:=by
 cases S;simp[HS.bD,cd]
theorem gW(S:HS)(i:Nat)(b:Option Bk):S.wr i b=⟨S.h.eZ (bu i) b,S.c,Nat.lor S.tm (fM i),Nat.lor S.mm (fM i)⟩:=by
 cases S;simp[HS.wr,cd,gM]
theorem g9(S:HS)(b:Bk):S.new b=⟨S.h.eZ (bu S.c) (some b),S.c+1,Nat.lor S.tm (fM S.c),Nat.lor S.mm (fM S.c)⟩:=by
 cases S;simp[HS.new,cd,gM]
theorem ru(S:HS)(i j:Nat):(S.bD i).rd j=S.rd j:=by rw[fA];rfl
theorem pz{S:HS}{i j:Nat}{b:Option Bk}(hi:i<aR)(hj:j<aR){y:Bk}(h:(S.wr i b).rd j=some y):(j=i/\b=some y)\/(j≠i/\S.rd j=some y):=by
 rw[gW] at h;rcases BS S.h (bu i) (bu j) b h with⟨e,hx⟩|⟨e,hx⟩
 .exact .inl ⟨kH hj hi e,hx⟩
 .exact .inr ⟨fun e'=>e (by rw[e']),hx⟩
theorem AO{S:HS}{i j:Nat}{b:Option Bk}(hi:i<aR)(hj:j<aR)(h:j≠i):(S.wr i b).rd j=S.rd j:=by
 rw[gW];exact lU S.h b (fun e=>h (kH hj hi e))
theorem kF{S:HS}{j:Nat}{b:Bk}(hi:S.c<aR)(hj:j<aR){y:Bk}(h:(S.new b).rd j=some y):(j=S.c/\b=y)\/(j≠S.c/\S.rd j=some y):=by
 rw[g9] at h;rcases BS S.h (bu S.c) (bu j) (some b) h with⟨e,hx⟩|⟨e,hx⟩
 .exact .inl ⟨kH hj hi e,by simpa using hx⟩
 .exact .inr ⟨fun e'=>e (by rw[e']),hx⟩
theorem AP{S:HS}{j:Nat}{b:Bk}(hi:S.c<aR)(hj:j<aR)(h:j≠S.c):(S.new b).rd j=S.rd j:=by
 rw[g9];exact lU S.h _ (fun e=>h (kH hj hi e))
structure Fr(M:Mp)(S:HS)(w:World)(M':Mp)(S':HS)(w':World):Prop where
 ext:M.ext M'
 bI:kept M.A w w'
 size:w.heap.size<=w'.heap.size
 os:w'.os=w.os
 tape:w'.tape=w.tape
 output:w'.output=w.output
 kh:∀k,k<w.heap.size->(∀i b,i<aR->tb S'.mm i->M.d i->S.rd i=some b->M.b i≠k)->w'.heap[k]?=w.heap[k]?
 kP:∀k j,M'.A k j->M.A k j\/w.heap.size<=k
 g8:∀i,M'.d i->¬M.d i->S.c<=i/\i<S'.c/\tb S'.mm i/\(w.heap.size<=M'.b i \/ ∃j b,j<aR/\tb S'.mm j/\M.d j/\S.rd j=some b/\S'.rd j=none/\M.b j=M'.b i)
 back:∀i b,i<aR->S'.rd i=some b->M.d i->∃b0,S.rd i=some b0
 same:∀i,i<aR->¬tb S'.mm i->S'.rd i=S.rd i
 z7:∀i,tb S.tm i->tb S'.tm i
 om:∀i,tb S.mm i->tb S'.mm i
 G7:∀i,tb S'.mm i->tb S.mm i\/tb S'.tm i
 vG:S.c<=S'.c
theorem Fr.refl(M:Mp)(S:HS)(w:World):Fr M S w M S w:=
 ⟨Mp.ext.refl M,kept.refl _ _,XP _,rfl,rfl,rfl,fun _ _ _=>rfl,fun _ _ h=>.inl h,fun i h h'=>absurd h h',fun i b _ h _=>⟨b,h⟩,fun _ _ _=>rfl,fun _ h=>h,fun _ h=>h,fun _ h=>.inl h,XP _⟩
theorem Fr.bD{M:Mp}{S:HS}{w:World}(i:Nat):Fr M S w M (S.bD i) w:=by
 have e:=fA S i;refine⟨Mp.ext.refl M,kept.refl _ _,XP _,rfl,rfl,rfl,fun _ _ _=>rfl,fun _ _ h=>.inl h,fun i h h'=>absurd h h',fun j b _ h _=>⟨b,by rw[ru] at h;exact h⟩,fun j _ _=>ru S i j,fun j h=>?_,fun j h=>?_,fun j h=>?_,?_⟩
 .rw[e];exact aM.2 (.inl h)
 .rw[e];exact h
 .rw[e] at h;exact .inl h
 .rw[e];exact XP _
theorem Fr.trans{M M1 M2:Mp}{S S1 S2:HS}{w w1 w2:World}(h:Fr M S w M1 S1 w1)(h':Fr M1 S1 w1 M2 S2 w2):Fr M S w M2 S2 w2:=by
 refine⟨h.ext.trans h'.ext,?_,XY h.size h'.size,h'.os.trans h.os,h'.tape.trans h.tape,h'.output.trans h.output,?_,?_,?_,?_,?_,fun i hi=>h'.z7 i (h.z7 i hi),fun i hi=>h'.om i (h.om i hi),?_,XY h.vG h'.vG⟩
 .intro k j hk;exact(h'.bI k j (h.ext.A k j hk)).trans (h.bI k j hk)
 .intro k hk hn;rw[h'.kh k (XZ hk h.size) ?_,h.kh k hk fun i b hl hi hd hb=>hn i b hl (h'.om i hi) hd hb];intro i b hl hi hd hb hk';by_cases hM:M.d i
  .obtain⟨b0,h0⟩:=h.back i b hl hb hM;exact hn i b0 hl hi hM h0 (by rw[<-h.ext.b i hM];exact hk')
  .obtain⟨_,_,_,h3|⟨j,b',hlj,h4,h5,h6,_,h7⟩⟩:=h.g8 i hd hM
   .omega
   .exact hn j b' hlj (h'.om j h4) h5 h6 (h7.trans hk')
 .intro k j hk;rcases h'.kP k j hk with hk|hk
  .exact h.kP k j hk
  .exact .inr (XY h.size hk)
 .intro i hd hn;by_cases h1:M1.d i
  .obtain⟨a1,a2,a3,a4⟩:=h.g8 i h1 hn;refine⟨a1,XZ a2 h'.vG,h'.om i a3,?_⟩;rw[h'.ext.b i h1];rcases a4 with a4|⟨j,b,cl,c1,c2,c3,c4,c5⟩
   .exact .inl a4
   .refine .inr ⟨j,b,cl,h'.om j c1,c2,c3,?_,c5⟩
    cases hr:S2.rd j with
    |none=>rfl
    |some b2=>obtain⟨b1,hb1⟩:=h'.back j b2 cl hr (h.ext.d j c2);rw[c4] at hb1;simp at hb1
  .obtain⟨a1,a2,a3,a4⟩:=h'.g8 i hd h1;refine⟨XY h.vG a1,a2,a3,?_⟩;rcases a4 with a4|⟨j,b,cl,c1,c2,c3,c4,c5⟩
   .exact .inl (XY h.size a4)
   .by_cases hM:M.d j
    .obtain⟨b0,h0⟩:=h.back j b cl c3 hM;exact .inr ⟨j,b0,cl,c1,hM,h0,c4,by rw[<-h.ext.b j hM];exact c5⟩
    .obtain⟨_,_,d3,d4|⟨j2,b2,el,e1,e2,e3,e4,e5⟩⟩:=h.g8 j c2 hM
     .exact .inl (by rw[<-c5];exact d4)
     .refine .inr ⟨j2,b2,el,h'.om j2 e1,e2,e3,?_,e5.trans c5⟩
      cases hr:S2.rd j2 with
      |none=>rfl
      |some b3=>obtain⟨b1,hb1⟩:=h'.back j2 b3 el hr (h.ext.d j2 e2);rw[e4] at hb1;simp at hb1
 .intro i b hl hb hd;obtain⟨b1,h1⟩:=h'.back i b hl hb (h.ext.d i hd);exact h.back i b1 hl h1 hd
 .intro i hl hi;rw[h'.same i hl hi,h.same i hl fun hm=>hi (h'.om i hm)]
 .intro i hi;rcases h'.G7 i hi with h1|h1
  .rcases h.G7 i h1 with h2|h2
   .exact .inl h2
   .exact .inr (h'.z7 i h2)
  .exact .inr h1
section
variable {T:Nat->Prop}{M:Mp}{S S':HS}{w:World}
def In(T:Nat->Prop)(S:HS):Prop:=∀i,tb S.tm i->T i
theorem ox{b o zV0:Nat}{cs:List CV}(h:Hr T M S w)(hT:T b)(he:lQ S b o zV0=some cs) :
  ∃vs:List Value,aC M w cs vs/\vs.length=zV0/\(∀v∈vs,v.oneCell'=true)/\∀j v,vs[j]?=some v->w.cell? ⟨M.b b,o+j,none⟩=some v:=by
 unfold lQ at he;split at he
 .rename_i l t x hb;obtain⟨h1,h2,h3⟩:=A6 he;obtain⟨_,c,rest,g1,g2,g3,g4,g5,g6⟩:=h.bO b _ hT hb;have hl:=fT g4;refine⟨(c.drop o).take zV0,by rw[h1];exact tB zV0 (tC o g4),?_,fun v hv=>g5 v (Zy (YB hv)),fun j v hj=>?_⟩
  .rw[h1] at h2;rw[X2,X1] at h2 ⊢;rw[hl];exact h2
  .rw[YS] at hj;split at hj
   .rw[Yw] at hj;have hlt:=(XN.1 hj).1;unfold World.cell?;rw[g1];simp[XV hlt,hj]
   .simp at hj
 .simp at he
theorem jZ(b o j:Nat):(⟨b,o,none⟩:Addr).add j=⟨b,o+j,none⟩:=by unfold Addr.add;split <;> simp_all
theorem G8{t:TypeId}{cs:List CV}{v:CV}(h:rM t cs=some v):(qn t=some true/\v = .a cs)\/(qn t=some false/\cs=[v]):=by
 unfold rM at h;split at h
 .rename_i ha;rw[gz] at h;simp at h;exact .inl ⟨ha,h.symm⟩
 .rename_i ha;split at h
  .simp at h;subst h;exact .inr ⟨ha,rfl⟩
  .simp at h
 .simp at h
theorem HJ{t:TypeId}{x v:CV}{u:Value}(h:Hr T M S w)(he:ld S t x=some (v,S'))(hI:In T S')(hx:vr M w x u) :
  (∃u',(Instr.loadAt t u).run PP w = .ok u' w/\vr M w v u')/\(S'=S \/ ∃i,S'=S.bD i):=by
 unfold ld at he;split at he
 .rename_i b o;split at he
  .rename_i zV0 hz;split at he
   .rename_i cs hc;split at he
    .rename_i v' hm;simp only[XL,XO] at he;obtain⟨rfl,rfl⟩:=he;refine⟨?_,.inr ⟨b,rfl⟩⟩;have hT:T b:=hI b (by rw[fA];exact aM.2 (.inr (cn.2 rfl)));simp only[vr] at hx;obtain⟨hd,rfl⟩:=hx;obtain⟨vs,g1,g2,g3,g4⟩:=ox h hT hc;have hrun:=run_loadCells_list (P:=PP) w ⟨M.b b,o,none⟩ vs (fun j y hj=>by rw[jZ];exact g4 j y hj);rcases G8 hm with⟨ha,rfl⟩|⟨ha,rfl⟩
     .refine⟨.agg vs.toArray,?_,by simp only[vr];exact⟨vs,rfl,g1,g3⟩⟩;rw[g2] at hrun;simp[Instr.loadAt,Instr.sureAddr,loadVar,XW,re w ha,gk w hz,hrun]
     .cases vs with
      |nil=>simp[aC] at g1
      |cons y ys=>
       simp only[aC] at g1;refine⟨y,?_,g1.1⟩;have:=g4 0 y rfl;simp only[Yl] at this;simp[Instr.loadAt,Instr.sureAddr,loadVar,XW,re w ha,load,Sem.run,this]
    .simp at he
   .simp at he
  .simp at he
 .rename_i l i;split at he
  .rename_i n hn;split at he
   .rename_i ha;simp only[XL,XO] at he;obtain⟨rfl,rfl⟩:=he;refine⟨?_,.inl rfl⟩;simp only[vr] at hx;obtain⟨a,y,rfl,h2,h3,h4,h5⟩:=hx;rw[iV] at hn;rw[hn] at h2;cases h2;exact⟨.int .u32 (n:Int),by simp[Instr.loadAt,Instr.sureAddr,loadVar,XW,re w ha,load,Sem.run,h5],by simp[vr,Value.oneCell']⟩
   .simp at he
  .simp at he
 .split at he
  .rename_i ha hz;simp only[XL,XO] at he;obtain⟨rfl,rfl⟩:=he;refine⟨?_,.inl rfl⟩;simp only[vr] at hx;obtain⟨a,rfl⟩:=hx;exact⟨.agg #[],by simp[Instr.loadAt,Instr.sureAddr,loadVar,XW,re w ha,gk w hz,loadCells,loadCellsFrom,pure,Sem.run],by simp only[vr];exact⟨[],rfl,by simp[aC],fun x hx=>by simp at hx⟩⟩
  .simp at he
 .simp at he
theorem Se{b:Nat}(h:Hr T M S w)(hT:T b){bk:Bk}(hb:S.rd b=some bk)(cs:Array Value):kept M.A w (w.setRow (M.b b) cs):=by
 intro k j hk;by_cases hkb:k=M.b b
 .subst hkb;exact absurd hk (h.apart b bk hT hb j)
 .exact Zk (setRow_other w _ k _ hkb)
theorem LU{b:Nat}{l l':List CV}{t:TypeId}{x:Bool}{c c' rest:List Value}(h:Hr T M S w)(hT:T b)(hb:S.rd b=some (.c l t x))
  (g1:w.heap[M.b b]?=some (.cells (c++rest).toArray t (0,0))) (g2:(c++rest).length=M.z b) (g3:x=true->rest=[]) (g6:dc t=some (M.e b))
  (hl:aC M w l' c') (h1:∀v∈c',v.oneCell'=true) (hlen:c'.length=c.length) :
  Hr T M (S.wr b (some (.c l' t x))) (w.setRow (M.b b) (c'++rest).toArray)/\Fr M S w M (S.wr b (some (.c l' t x))) (w.setRow (M.b b) (c'++rest).toArray):=by
 have hk:=Se h hT hb (c'++rest).toArray;have hbl:=h.aR b hT;have hnew:=setRow_heap w (M.b b) (c++rest).toArray (c'++rest).toArray t (0,0) g1;have hd:M.d b:=(h.bO b _ hT hb).1;refine⟨⟨?_,?_,?_,?_,h.aR⟩,?_⟩
 .intro i bk hi hr;rcases pz hbl (h.aR i hi) hr with⟨rfl,hx⟩|⟨hne,hx⟩
  .simp only[XL] at hx;subst hx;exact⟨hd,c',rest,hnew,by rw[<-g2];simp[hlen],g3,jG (Mp.ext.refl M) hk _ _ hl,h1,g6⟩
  .obtain⟨hdi,hbi⟩:=h.bO i bk hi hx;exact⟨hdi,l8 (Mp.ext.refl M) hk hdi (setRow_other w _ _ _ (h.inj i b _ _ hi hT hx hb hne)) hbi⟩
 .intro i j bi bj hi hj hri hrj hij;have live:∀i bi,T i->(S.wr b (some (.c l' t x))).rd i=some bi->∃b0,S.rd i=some b0:=by
   intro i bi hi hr;rcases pz hbl (h.aR i hi) hr with⟨rfl,_⟩|⟨_,hx⟩
   .exact⟨_,hb⟩
   .exact⟨_,hx⟩
  obtain⟨b0,h0⟩:=live i bi hi hri;obtain⟨b1,h1⟩:=live j bj hj hrj;exact h.inj i j _ _ hi hj h0 h1 hij
 .intro i bi hi hr j hA;rcases pz hbl (h.aR i hi) hr with⟨rfl,_⟩|⟨_,hx⟩
  .exact h.apart _ _ hT hb j hA
  .exact h.apart i _ hi hx j hA
 .intro k j hA;rw[setRow_size];exact h.bc k j hA
 .have e:=gW S b (some (.c l' t x));refine⟨Mp.ext.refl M,hk,by rw[setRow_size];exact XP _,rfl,rfl,rfl,?_,fun _ _ h=>.inl h,fun i h h'=>absurd h h',?_,?_,?_,?_,?_,?_⟩
  .intro k hk' hn;refine setRow_other w _ k _ fun e'=>?_;exact hn b _ hbl (by rw[e];exact aM.2 (.inr (cn.2 rfl))) hd hb e'.symm
  .intro i bi _ hr hdi;by_cases hpe:bu i=bu b
   .rw[e] at hr;have:S.rd i=S.rd b:=by show S.h.dX (bu i)=S.h.dX (bu b);rw[hpe]
    exact⟨_,this.trans hb⟩
   .have:(S.wr b (some (.c l' t x))).rd i=S.rd i:=by rw[e];exact lU S.h _ hpe
    exact⟨bi,by rw[<-this];exact hr⟩
  .intro i hl hi;refine AO hbl hl fun e'=>hi ?_;rw[e,e'];exact aM.2 (.inr (cn.2 rfl))
  .intro i hi;rw[e];exact aM.2 (.inl hi)
  .intro i hi;rw[e];exact aM.2 (.inl hi)
  .intro i hi;rw[e] at hi ⊢;rcases aM.1 hi with hi|hi
   .exact .inl hi
   .exact .inr (aM.2 (.inr hi))
  .rw[e];exact XP _
theorem pb{b o:Nat}{cs:List CV}{vs:List Value}(h:Hr T M S w)(he:iT S b o cs=some S')(hI:In T S')(hv:aC M w cs vs)(h1:∀v∈vs,v.oneCell'=true) :
  ∃w',(storeCells ⟨M.b b,o,none⟩ vs).run PP w = .ok () w'/\Hr T M S' w'/\Fr M S w M S' w':=by
 unfold iT at he;split at he
 .rename_i l t x hb;split at he
  .rename_i l' hr;rw[gz] at he;simp only[XL] at he;subst he;have hT:T b:=hI b (by rw[gW];exact aM.2 (.inr (cn.2 rfl)));obtain⟨e1,e2,e3⟩:=AL hr;obtain⟨hd,c,rest,g1,g2,g3,g4,g5,g6⟩:=h.bO b _ hT hb;have hlc:=fT g4;have hlv:=fT hv;have hrun:=run_storeCells_at PP (M.b b) o t vs 0 (c++rest).toArray w g1 (by simp;omega) h1;obtain⟨k1,k2⟩:=LU (l':=l') (c':=c.take o++(vs++c.drop (o+vs.length))) h hT hb g1 g2 g3 g6
    (by rw[e1,<-hlv];exact ky (tB o g4) (ky hv (tC _ g4)))
    (fun v hm=>by
     rcases Yc.1 hm with hm|hm
     .exact g5 v (YB hm)
     .rcases Yc.1 hm with hm|hm
      .exact h1 v hm
      .exact g5 v (Zy hm))
    (by simp only[XX,X2,X1];omega)
   refine⟨_,hrun,?_⟩;have ea:((c++rest).toArray.toList.take (o+0)++vs++(c++rest).toArray.toList.drop (o+0+vs.length))=(c.take o++(vs++c.drop (o+vs.length)))++rest:=by
    simp only[Yl];rw[YY (by omega),ZD (by omega)];simp
   rw[ea];exact⟨k1,k2⟩
  .simp at he
 .simp at he
theorem Kw{l:List CV}{t:TypeId}{x:Bool}{c rest:List Value}{ez:Nat}(h:Hr T M S w)(hf:¬M.d S.c)(hT:T S.c)
  (hl:aC M w l c) (h1:∀v∈c,v.oneCell'=true) (g3:x=true->rest=[]) (g6:dc t=some ez) :
  ∃M',Hr T M' (S.new (.c l t x)) (w.alloc (.cells (c++rest).toArray t))/\Fr M S w M' (S.new (.c l t x)) (w.alloc (.cells (c++rest).toArray t)) ∧
   M'.d S.c/\M'.b S.c=w.heap.size/\M'.z S.c=(c++rest).length/\M'.e S.c=ez:=by
 have hb:=ma w (.cells (c++rest).toArray t);have hk:kept M.A w (w.alloc (.cells (c++rest).toArray t)):=ju fun k j hk=>hb.block k (h.bc k j hk);have hsz:(w.alloc (.cells (c++rest).toArray t)).heap.size=w.heap.size+1:=by simp
 have hnew:(w.alloc (.cells (c++rest).toArray t)).heap[w.heap.size]?=some (.cells (c++rest).toArray t (0,0)):=heap_alloc_new w _;have hcl:=h.aR _ hT;have hnone:∀b,S.rd S.c≠some b:=fun b hr=>hf (h.bO _ _ hT hr).1
 let M':Mp:=⟨fun i=>M.d i\/i=S.c,fun i=>if i=S.c then w.heap.size else M.b i,fun i=>if i=S.c then(c++rest).length else M.z i,fun i=>if i=S.c then ez else M.e i,M.A⟩
 have hne:∀i,M.d i->i≠S.c:=fun i hi e=>hf (e ▸ hi);have hext:M.ext M':=⟨fun i hi=>.inl hi,fun i hi=>if_neg (hne i hi),fun i hi=>if_neg (hne i hi),fun i hi=>if_neg (hne i hi),fun _ _ hk=>hk⟩;have e:=g9 S (.c l t x);refine⟨M',⟨?_,?_,?_,?_,h.aR⟩,?_,.inr rfl,if_pos rfl,if_pos rfl,if_pos rfl⟩
 .intro i bk hi hr;rcases kF hcl (h.aR i hi) hr with⟨rfl,rfl⟩|⟨hne',hx⟩
  .refine⟨.inr rfl,c,rest,?_,(if_pos rfl).symm,g3,jG hext hk _ _ hl,h1,by rw[g6];exact congrArg some (if_pos rfl).symm⟩;rw[show M'.b S.c=w.heap.size from if_pos rfl];exact hnew
  .obtain⟨hdi,hbi⟩:=h.bO i bk hi hx;exact⟨.inl hdi,l8 hext hk hdi (hb.block _ (jY hbi)) hbi⟩
 .intro i j bi bj hi hj hri hrj hij;rcases kF hcl (h.aR i hi) hri with⟨rfl,_⟩|⟨hni,hxi⟩
  .rcases kF hcl (h.aR j hj) hrj with⟨rfl,_⟩|⟨hnj,hxj⟩
   .exact absurd rfl hij
   .rw[show M'.b S.c=w.heap.size from if_pos rfl,show M'.b j=M.b j from if_neg hnj];have:=jY (h.bO j bj hj hxj).2;omega
  .rcases kF hcl (h.aR j hj) hrj with⟨rfl,_⟩|⟨hnj,hxj⟩
   .rw[show M'.b S.c=w.heap.size from if_pos rfl,show M'.b i=M.b i from if_neg hni];have:=jY (h.bO i bi hi hxi).2;omega
   .rw[show M'.b i=M.b i from if_neg hni,show M'.b j=M.b j from if_neg hnj];exact h.inj i j bi bj hi hj hxi hxj hij
 .intro i bi hi hr j hA;rcases kF hcl (h.aR i hi) hr with⟨rfl,_⟩|⟨hni,hxi⟩
  .rw[show M'.b S.c=w.heap.size from if_pos rfl] at hA;have:=h.bc _ _ hA;omega
  .rw[show M'.b i=M.b i from if_neg hni] at hA;exact h.apart i bi hi hxi j hA
 .intro k j hA;have:=h.bc k j hA;omega
 .refine⟨hext,hk,by rw[hsz];omega,hb.os,hb.tape,hb.output,fun k hk' _=>hb.block k hk',fun _ _ h=>.inl h,?_,?_,?_,?_,?_,?_,?_⟩
  .intro i hd hn;have hi:i=S.c:=hd.resolve_left hn;subst hi;refine⟨XP _,?_,?_,.inl ?_⟩
   .rw[e];exact Zf _
   .rw[e];exact aM.2 (.inr (cn.2 rfl))
   .rw[show M'.b S.c=w.heap.size from if_pos rfl];exact XP _
  .intro i bi hil hr hdi;by_cases hpe:bu i=bu S.c
   .exact absurd (kH hil hcl hpe) (hne i hdi)
   .have:(S.new (.c l t x)).rd i=S.rd i:=by rw[e];exact lU S.h _ hpe
    exact⟨bi,by rw[<-this];exact hr⟩
  .intro i hl hi;refine AP hcl hl fun e'=>hi ?_;rw[e,e'];exact aM.2 (.inr (cn.2 rfl))
  .intro i hi;rw[e];exact aM.2 (.inl hi)
  .intro i hi;rw[e];exact aM.2 (.inl hi)
  .intro i hi;rw[e] at hi ⊢;rcases aM.1 hi with hi|hi
   .exact .inl hi
   .exact .inr (aM.2 (.inr hi))
  .rw[e];exact zaH _
end
def Fc(r:Option Nat):Fence:={ Fence.wide with round:=r }
def dg(r:Option Nat)(n:Nat)(T:Nat->Prop)(M:Mp)(S:HS)(w:World)(a:Act)(o:Oper)(v:CV)(S':HS):Prop:=
 ∀(K:Act->World->Prop) (Q:Exit->Act->World->Prop),(∀M' u w',vr M' w' v u->Hr T M' S' w'->Fr M S w M' S' w'->K (a.put o.dst u) w')->o.wpIn (Fc r) n PP a w K Q
section
variable {r:Option Nat}{n:Nat}{T:Nat->Prop}{M:Mp}{S S':HS}{w w':World}{a:Act}{o:Oper}{v:CV}{u:Value}{K:Act->World->Prop}{Q:Exit->Act->World->Prop}{F:Tr CV}
theorem cT(hd:∀c,o.op≠.defer c)(h:(execOp a.eval o).run PP w = .ok (.value u) w')(hK:K (a.put o.dst u) w'):o.wpIn (Fc r) n PP a w K Q:=by
 refine⟨fun _ _=>trivial,?_⟩;rw[zaC (Fc r) a.eval o hd,h];exact hK
theorem Gn(hd:∀c,o.op≠.defer c)(h:(execOp a.eval o).run PP w = .ok .skip w')(hK:K (a.put o.dst undef) w'):o.wpIn (Fc r) n PP a w K Q:=by
 refine⟨fun _ _=>trivial,?_⟩;rw[zaC (Fc r) a.eval o hd,h];exact hK
theorem Hr.bD(h:Hr T M S w)(i:Nat):Hr T M (S.bD i) w:=
 ⟨fun j b hj hr=>h.bO j b hj (by rw[ru] at hr;exact hr),fun i' j b b' hi hj h1 h2 hn=>h.inj i' j b b' hi hj (by rw[ru] at h1;exact h1) (by rw[ru] at h2;exact h2) hn,
  fun j b hj hr=>h.apart j b hj (by rw[ru] at hr;exact hr),h.bc,h.aR⟩
theorem dV(hH:Hr T M S w)(hd:∀c,o.op≠.defer c)(h:(execOp a.eval o).run PP w = .ok (.value u) w)(hv:vr M w v u)(hS:S'=S \/ ∃i,S'=S.bD i):dg r n T M S w a o v S':=by
 intro K Q hK;refine cT hd h ?_;rcases hS with rfl|⟨i,rfl⟩
 .exact hK M u w hv hH (Fr.refl _ _ _)
 .exact hK M u w hv (hH.bD i) (Fr.bD i)
theorem qM:vr M w CV.un undef:=by simp only[vr];exact⟨[],rfl,by simp[aC]⟩
theorem Gu{x:Operand}(ho:o.op = .move x\/o.op = .assign x)(hH:Hr T M S w)(hT:sr M w F a.tmps)(ih:Rec)(he:r8 x ih F S=some (v,S')):dg r n T M S w a o v S':=by
 unfold r8 at he;split at he
 .rename_i y hy;simp only[XL,XO] at he;obtain⟨rfl,rfl⟩:=he;refine dV hH (fun c hc=>?_) (u:=a.eval x) ?_ (cQ hT hy) (.inl rfl)
  .rcases ho with h|h <;> rw[h] at hc <;> simp at hc
  .unfold execOp;rcases ho with h|h <;> rw[h] <;> rfl
 .simp at he
theorem PT{c x y:Operand}(ho:o.op = .pick c x y)(hH:Hr T M S w)(hT:sr M w F a.tmps)(ih:Rec)(he:uO c x y ih F S=some (v,S')):dg r n T M S w a o v S':=by
 unfold uO at he;have hd:∀c,o.op≠.defer c:=fun c hc=>by rw[ho] at hc;simp at hc
 split at he
 .rename_i hc;have hb:=cQ hT hc;simp only[vr] at hb;split at he
  .rename_i zV0 hz;simp only[XL,XO] at he;obtain⟨rfl,rfl⟩:=he;exact dV hH hd (u:=a.eval x) (by unfold execOp;rw[ho];simp[hb.1,asBool,XW]) (cQ hT hz) (.inl rfl)
  .simp at he
 .rename_i hc;have hb:=cQ hT hc;simp only[vr] at hb;split at he
  .rename_i zV0 hz;simp only[XL,XO] at he;obtain⟨rfl,rfl⟩:=he;exact dV hH hd (u:=a.eval y) (by unfold execOp;rw[ho];simp[hb.1,asBool,XW]) (cQ hT hz) (.inl rfl)
  .simp at he
 .simp at he
theorem P3{t:TypeId}{x:Operand}(ho:o.op = .load t x)(hH:Hr T M S w)(hT:sr M w F a.tmps)(ih:Rec)(he:se t x ih F S=some (v,S'))(hI:In T S'):dg r n T M S w a o v S':=by
 unfold se at he;have hd:∀c,o.op≠.defer c:=fun c hc=>by rw[ho] at hc;simp at hc
 split at he
 .rename_i y hy;obtain⟨⟨u',h1,h2⟩,h3⟩:=HJ hH he hI (cQ hT hy);exact dV hH hd (u:=u') (by unfold execOp;rw[ho];simp[XW,h1]) h2 h3
 .simp at he
theorem L0{u:Value}{x:CV}(hx:vr M w x u)(ht:x.jS=false)(ha:∀l,x≠.a l):u.oneCell'=true:=by
 cases x with
 |a l=>exact absurd rfl (ha l)
 |t l=>simp[CV.jS] at ht
 |k v=>simp only[vr] at hx;obtain⟨rfl,h⟩:=hx;exact h
 |p b o=>simp only[vr] at hx;obtain⟨_,rfl⟩:=hx;rfl
 |s b o n c=>simp only[vr] at hx;obtain⟨_,c',rfl,_⟩:=hx;rfl
 |e=>simp only[vr] at hx;obtain⟨_,_,rfl⟩:=hx;rfl
 |q l=>simp only[vr] at hx;exact ab.vu hx
 |pq l i=>simp only[vr] at hx;obtain⟨_,_,rfl,_⟩:=hx;rfl
 |f fn fs cs=>simp only[vr] at hx;obtain⟨_,_,rfl,_⟩:=hx;rfl
 |i t v=>simp only[vr] at hx;obtain⟨_,rfl,_⟩:=hx;rfl
 |m b=>simp only[vr] at hx;obtain⟨_,rfl⟩:=hx;rfl
 |y b=>simp only[vr] at hx;obtain⟨_,rfl⟩:=hx;rfl
 |z=>simp only[vr] at hx;obtain⟨_,rfl⟩:=hx;rfl
theorem lq{u:Value}{x:CV}(hx:vr M w x u)(ht:x.jS=false):aC M w x.cl u.cells.toList/\∀y∈u.cells.toList,y.oneCell'=true:=by
 by_cases ha:∃l,x = .a l
 .obtain⟨l,rfl⟩:=ha;simp only[vr] at hx;obtain⟨l',rfl,g1,g2⟩:=hx;exact⟨by simpa[CV.cl,Value.cells] using g1,fun y hy=>g2 y (by simpa[Value.cells] using hy)⟩
 .have h1:=L0 hx ht (fun l e=>ha ⟨l,e⟩);rw[Gt h1];have hcl:x.cl=[x]:=by cases x <;> first|rfl|exact absurd ⟨_,rfl⟩ ha
  rw[hcl];refine⟨by simp only[aC];exact⟨hx,trivial⟩,fun y hy=>?_⟩;simp at hy;subst hy;exact h1
theorem PR{t:TypeId}{x y:Operand}(ho:o.op = .store t x y)(hH:Hr T M S w)(hT:sr M w F a.tmps)(ih:Rec)(he:r7 t x y ih F S=some (v,S'))(hI:In T S'):dg r n T M S w a o v S':=by
 unfold r7 at he;have hd:∀c,o.op≠.defer c:=fun c hc=>by rw[ho] at hc;simp at hc
 split at he
 .rename_i p q hp hq;unfold st at he;split at he
  .rename_i b off sz hz;cases ht:q.jS
   .rw[ht] at he;simp only[cond_false] at he;cases hl:Nat.beq (len q.cl) sz
    .rw[hl] at he;simp at he
    .rw[hl] at he;simp only[cond_true] at he;split at he
     .rename_i S2 hst;simp only[XL,XO] at he;obtain⟨rfl,rfl⟩:=he;have hx:=cQ hT hp;simp only[vr] at hx;obtain⟨hdb,hx⟩:=hx;obtain⟨g1,g2⟩:=lq (cQ hT hq) ht;obtain⟨w',k1,k2,k3⟩:=pb hH hst hI g1 g2;have hsz:(a.eval y).cells.size=sz:=by
       have e1:=fT g1;rw[gu] at hl;have e2:=XT hl;simp only[YU] at e1;omega
      intro K Q hK;refine Gn hd (w':=w') ?_ (hK M undef w' qM k2 k3);unfold execOp;rw[ho];simp[XW,hx,Instr.storeAt,Instr.sureAddr,storeVar,gk w hz,hsz,k1]
     .simp at he
   .rw[ht] at he;simp at he
  .simp at he
 .simp at he
theorem GK{l:List CV}{t:TypeId}{u:Value}(hH:Hr T M S w)(he:rH S l t=some (v,S'))(hI:In T S')(hf:T S.c->¬M.d S.c)
  (hl:aC M w l u.cells.toList) (h1:∀y∈u.cells.toList,y.oneCell'=true) :
  ∃M' w',(newVar t u).run PP w = .ok ⟨w.heap.size,0,none⟩ w'/\vr M' w' v (.pointer (some ⟨w.heap.size,0,none⟩))/\Hr T M' S' w'/\Fr M S w M' S' w':=by
 unfold rH at he;split at he
 .rename_i sz hz;rw[cd,gz] at he;simp only[XL,XO] at he;obtain⟨rfl,rfl⟩:=he;have hT:T S.c:=hI S.c (by rw[g9];exact aM.2 (.inr (cn.2 rfl)));obtain⟨M',k1,k2,k3,k4,_,_⟩:=Kw (rest:=[]) (x:=true) hH (hf hT) hT hl h1 (fun _=>rfl) hz;rw[YF,Y5] at k1 k2;refine⟨M',_,?_,?_,k1,k2⟩
  .simp[newVar,newRow]
  .simp only[vr];exact⟨k3,by rw[k4]⟩
 .simp at he
theorem qC{t:TypeId}{x:CV}(h:zero t=some x):∃u,(zeroValue t).run PP w = .ok u w/\vr M w x u/\x.jS=false:=by
 unfold zero at h;split at h
 .rename_i i hi;split at h
  .rename_i zV0 hz;have hrun:(zeroValue t).run PP w = .ok zV0 w:=by simp[zeroValue,XW,run_typeInfo w (oz hi),hz]
   split at h
   .simp at h
   .rename_i r hr;refine⟨zV0,hrun,CF h,?_⟩;cases x <;> first|rfl|(exact absurd h (by rename_i l;exact fun e=>hr l e))
  .simp at h
 .simp at h
theorem Qn{t:TypeId}(ho:o.op = .alloc t)(hH:Hr T M S w)(ih:Rec)(he:uW t ih F S=some (v,S'))(hI:In T S')(hf:T S.c->¬M.d S.c):dg r n T M S w a o v S':=by
 unfold uW at he;have hd:∀c,o.op≠.defer c:=fun c hc=>by rw[ho] at hc;simp at hc
 split at he
 .rename_i x hx;obtain⟨u,g1,g2,g3⟩:=qC (M:=M) (w:=w) hx;obtain⟨c1,c2⟩:=lq g2 g3;obtain⟨M',w',k1,k2,k3,k4⟩:=GK hH he hI hf c1 c2;intro K Q hK;refine cT hd (u:=.pointer (some ⟨w.heap.size,0,none⟩)) (w':=w') ?_ (hK M' _ w' k2 k3 k4);unfold execOp;rw[ho];simp[XW,Instr.alloc,g1,k1]
 .simp at he
theorem Qj{t:TypeId}{x:Operand}(ho:o.op = .box t x)(hH:Hr T M S w)(hT:sr M w F a.tmps)(ih:Rec)(he:sk t x ih F S=some (v,S'))(hI:In T S')(hf:T S.c->¬M.d S.c):dg r n T M S w a o v S':=by
 unfold sk at he;have hd:∀c,o.op≠.defer c:=fun c hc=>by rw[ho] at hc;simp at hc
 split at he
 .rename_i y hy;cases ht:y.jS
  .rw[ht] at he;simp only[cond_false] at he;obtain⟨c1,c2⟩:=lq (cQ hT hy) ht;obtain⟨M',w',k1,k2,k3,k4⟩:=GK hH he hI hf c1 c2;intro K Q hK;refine cT hd (u:=.pointer (some ⟨w.heap.size,0,none⟩)) (w':=w') ?_ (hK M' _ w' k2 k3 k4);unfold execOp;rw[ho];simp[XW,Instr.box,k1]
  .rw[ht] at he;simp at he
 .simp at he
theorem A7{xs ys:List CV}{us:List Value}{o zV0:Nat}(h:aC M w xs us)(h1:∀u∈us,u.oneCell'=true)(hp:part xs o zV0=some ys):aC M w ys ((us.drop o).take zV0)/\((us.drop o).take zV0).length=zV0/\∀u∈(us.drop o).take zV0,u.oneCell'=true:=by
 obtain⟨e1,e2,_⟩:=A6 hp;refine⟨by rw[e1];exact tB zV0 (tC o h),?_,fun u hu=>h1 u (Zy (YB hu))⟩;have:=fT h;rw[e1,X2,X1] at e2;rw[X2,X1,this];exact e2
theorem Fp{t:TypeId}{xs ys:List CV}{us:List Value}{o zV0:Nat}{v:CV}(h:aC M w xs us)(h1:∀u∈us,u.oneCell'=true)(hz:dc t=some zV0)(hp:part xs o zV0=some ys)(hm:rM t ys=some v) :
  ∃u,(Go.part t us.toArray o).run PP w = .ok u w/\vr M w v u:=by
 obtain⟨g1,g2,g3⟩:=A7 h h1 hp;rcases G8 hm with⟨ha,rfl⟩|⟨ha,rfl⟩
 .refine⟨.agg ((us.drop o).take zV0).toArray,?_,by simp only[vr];exact⟨_,rfl,g1,g3⟩⟩;simp[Go.part,XW,re w ha,gk w hz,List.extract_eq_take_drop]
 .cases hd:(us.drop o).take zV0 with
  |nil=>rw[hd] at g1;simp[aC] at g1
  |cons y rest=>
   rw[hd] at g1;simp only[aC] at g1;refine⟨y,?_,g1.1⟩;have hy:us[o]?=some y:=by
    have h2:((us.drop o).take zV0)[0]?=some y:=by rw[hd];rfl
    rw[YS] at h2;split at h2
    .rw[Yw] at h2;simpa using h2
    .simp at h2
   simp[Go.part,XW,re w ha,hy]
theorem I8{t:TypeId}{k:Nat}{f:Field}(h:sG t k=some f):∃fs:Array Field,PP.underlying t=some (.struct fs)/\fs[k]?=some f:=by
 unfold sG at h;split at h
 .rename_i fs hu;rw[iV] at h;exact⟨fs,cz hu,by simpa using h⟩
 .simp at h
theorem P8{t:TypeId}{x:Operand}{k:Nat}(ho:o.op = .fieldAddr t x k)(hH:Hr T M S w)(hT:sr M w F a.tmps)(ih:Rec)(he:sf t x k ih F S=some (v,S'))(hI:In T S'):dg r n T M S w a o v S':=by
 unfold sf at he;have hd:∀c,o.op≠.defer c:=fun c hc=>by rw[ho] at hc;simp at hc
 split at he
 .rename_i y hy;have hv:=cQ hT hy;unfold yn at he;split at he
  .rename_i b off f hf;obtain⟨fs,hu,hk⟩:=I8 hf;simp only[vr] at hv;obtain⟨hdb,hv⟩:=hv;split at he
   .rename_i hs;split at he
    .rename_i l e x' hb;split at he
     .rename_i hse;simp only[XL,XO] at he;obtain⟨rfl,rfl⟩:=he;have hTb:T b:=hI b (by rw[fA];exact aM.2 (.inr (cn.2 rfl)));obtain⟨_,cs,rest,g1,_⟩:=hH.bO b _ hTb hb;obtain⟨ie,he1,he2⟩:=mw hse;have hco:PP.cellsOf e=0:=by simp[Program.cellsOf,he1,he2]
      have hbyte:∀off',(byteOf ⟨M.b b,off',none⟩).run PP w = .ok 0 w:=by
       intro off';simp[byteOf,noView,viewAt,World.shape?,XW,g1,hco]
      refine dV hH hd (u:=.pointer (some (if 0=0+f.byteOffset then⟨M.b b,off+f.offset,none⟩ else⟨M.b b,off+f.offset,some (0+f.byteOffset)⟩))) ?_ (by simp only[vr];exact⟨_,rfl⟩) (.inr ⟨b,rfl⟩);unfold execOp;rw[ho];simp[XW,hv,Instr.fieldAt,run_underlying hu,hk,Instr.sureAddr,fieldPlace,gk w hs,partAt,hbyte]
     .simp at he
    .simp at he
   .rename_i sz hne hs;rw[cd] at he;simp only[XL,XO] at he;obtain⟨rfl,rfl⟩:=he;have hne':sz≠0:=fun e=>hne e;refine dV hH hd (u:=.pointer (some ⟨M.b b,off+f.offset,none⟩)) ?_ (by simp only[vr];exact⟨hdb,rfl⟩) (.inl rfl);unfold execOp;rw[ho];simp[XW,hv,Instr.fieldAt,run_underlying hu,hk,Instr.sureAddr,fieldPlace,gk w hs,hne',jZ]
   .simp at he
  .simp at he
 .simp at he
theorem P9{t:TypeId}{x:Operand}{k:Nat}(ho:o.op = .field t x k)(hH:Hr T M S w)(hT:sr M w F a.tmps)(ih:Rec)(he:uT t x k ih F S=some (v,S')):dg r n T M S w a o v S':=by
 unfold uT at he;have hd:∀c,o.op≠.defer c:=fun c hc=>by rw[ho] at hc;simp at hc
 split at he
 .rename_i y hy;split at he
  .rename_i zV0 hz;simp only[XL,XO] at he;obtain⟨rfl,rfl⟩:=he;have hv:=cQ hT hy;unfold Io at hz;split at hz
   .rename_i l f hf;obtain⟨fs,hu,hk⟩:=I8 hf;simp only[vr] at hv;obtain⟨us,hv,g1,g2⟩:=hv;split at hz
    .rename_i sz hs;split at hz
     .rename_i cs hp;obtain⟨u,k1,k2⟩:=Fp g1 g2 hs hp hz;refine dV hH hd (u:=u) ?_ k2 (.inl rfl);unfold execOp;rw[ho];simp[XW,hv,Instr.field,run_underlying hu,hk,asAgg,k1]
     .simp at hz
    .simp at hz
   .simp at hz
  .simp at he
 .simp at he
theorem Qa{x:Operand}{k:Nat}(ho:o.op = .extract x k)(hH:Hr T M S w)(hT:sr M w F a.tmps)(ih:Rec)(he:uU x k ih F S=some (v,S')):dg r n T M S w a o v S':=by
 unfold uU at he;have hd:∀c,o.op≠.defer c:=fun c hc=>by rw[ho] at hc;simp at hc
 split at he
 .rename_i l hl;split at he
  .rename_i y hy;simp only[XL,XO] at he;obtain⟨rfl,rfl⟩:=he;have hv:=cQ hT hl;simp only[vr] at hv;obtain⟨us,hv,g1⟩:=hv;rw[iV] at hy;obtain⟨u,k1,k2⟩:=wA g1 hy;refine dV hH hd (u:=u) ?_ k2 (.inl rfl);unfold execOp;rw[ho];simp[XW,hv,Instr.extract,k1]
  .simp at he
 .simp at he
theorem PY{t:TypeId}{x:Operand}(ho:o.op = .makeInterface t x)(hH:Hr T M S w)(hT:sr M w F a.tmps)(ih:Rec)(he:uQ t x ih F S=some (v,S')):dg r n T M S w a o v S':=by
 unfold uQ at he;have hd:∀c,o.op≠.defer c:=fun c hc=>by rw[ho] at hc;simp at hc
 split at he
 .rename_i y hy;split at he
  .simp at he
  .rename_i d hne hu;simp only[XL,XO] at he;obtain⟨rfl,rfl⟩:=he;refine dV hH hd (u:=.iface t (a.eval x)) ?_ (by simp only[vr];exact⟨_,rfl,cQ hT hy⟩) (.inl rfl);unfold execOp;rw[ho];cases d <;> first|(exact absurd rfl (hne _))|simp[XW,Instr.makeInterface,run_underlying (cz hu)]
  .simp at he
 .simp at he
theorem PZ{fn:Fn}{fs cs:Array Operand}(ho:o.op = .makeFunc fn fs cs)(hH:Hr T M S w)(hT:sr M w F a.tmps)(ih:Rec)(he:pN fn fs cs ih F S=some (v,S')):dg r n T M S w a o v S':=by
 unfold pN at he;have hd:∀c,o.op≠.defer c:=fun c hc=>by rw[ho] at hc;simp at hc
 split at he
 .rename_i f;split at he
  .rename_i x y hx hy;simp only[XL,XO] at he;obtain⟨rfl,rfl⟩:=he;refine dV hH hd (u:=.func (.func f) (fs.map a.eval) (cs.map a.eval)) ?_ ?_ (.inl rfl)
   .unfold execOp;rw[ho];simp[XW,Instr.makeFunc]
   .simp only[vr];exact⟨fs.toList.map a.eval,cs.toList.map a.eval,by rw[<-zau,<-zau],xn hT hx,xn hT hy⟩
  .simp at he
 .simp at he
theorem PQ{op:UnOp}{t:TypeId}{x:Operand}(ho:o.op = .unOp op t x)(hH:Hr T M S w)(hT:sr M w F a.tmps)(ih:Rec)(he:uN op x ih F S=some (v,S')):dg r n T M S w a o v S':=by
 unfold uN at he;have hd:∀c,o.op≠.defer c:=fun c hc=>by rw[ho] at hc;simp at hc
 split at he
 .rename_i y hy;split at he
  .rename_i zV0 hz;split at he
   .rename_i z' hz';simp only[XL,XO] at he;obtain⟨rfl,rfl⟩:=he;have hv:=cQ hT hy;simp only[vr] at hv;refine dV hH hd (u:=zV0) ?_ (vx hz') (.inl rfl);unfold execOp;rw[ho];simp[XW,hv.1,uf _ w hz]
   .simp at he
  .simp at he
 .simp at he
end
section
variable {r:Option Nat}{n:Nat}{T:Nat->Prop}{M:Mp}{S S':HS}{w w':World}{a:Act}{o:Oper}{v:CV}{u:Value}{F:Tr CV}
theorem jz{a b:Nat}:Nat.blt a b=true↔a<b:=by simp[Nat.blt,ZH]
theorem F6{l:List Nat}{i:Nat}(h:vr M w (.q l) u)(hi:i<l.length) :
  ∃ad cap,u = .slice (some ad) l.length cap/\ad.spot=none/\M.A ad.block (ad.off+i)/\w.cell? ⟨ad.block,ad.off+i,none⟩=some (.int .u32 ((l[i]:Nat):Int)):=by
 simp only[vr] at h;obtain⟨a,cap,h1,h2,h3,h4,h5⟩:=h
 cases a with
 |none=>have:=(h4 rfl).1;omega
 |some ad=>
  obtain⟨g1,g2⟩:=h5 ad rfl;have hl:(l.map aY)[i]?=some (aY l[i]):=by rw[YW,XM hi];rfl
  obtain⟨k1,x,k2,k3⟩:=g2 i _ hl;refine⟨ad,cap,h1,g1 (by omega),k1,?_⟩;rw[k2];have k3:x = .int .u32 ((l[i]:Nat):Int)/\_:=k3;rw[k3.1]
theorem P6{t:TypeId}{x j:Operand}(ho:o.op = .indexAddr t x j)(hH:Hr T M S w)(hT:sr M w F a.tmps)(ih:Rec)(he:uR t x j ih F S=some (v,S')):dg r n T M S w a o v S':=by
 unfold uR at he;have hd:∀c,o.op≠.defer c:=fun c hc=>by rw[ho] at hc;simp at hc
 split at he
 .rename_i y k hy hk;split at he
  .rename_i q hq;simp only[XL,XO] at he;obtain⟨rfl,rfl⟩:=he;have hv:=cQ hT hy;have hj:=cQ hT hk;unfold H9 at hq;split at hq
   .rename_i b off len c kk i;simp only[vr] at hv hj;obtain⟨hdb,c',hv,_⟩:=hv;split at hq
    .rename_i e hel;split at hq
     .rename_i sz hs;cases hb:Nat.blt i len
      .rw[hb] at hq;simp at hq
      .rw[hb] at hq;simp only[cond_true,cd,XL] at hq;subst hq;have hlt:=jz.1 hb;refine dV hH hd (u:=.pointer (some ⟨M.b b,off+i*sz,none⟩)) ?_ (by simp only[vr];exact⟨hdb,rfl⟩) (.inl rfl);unfold execOp;rw[ho];simp[XW,hv,hj.1,Instr.indexAt,asIntOf,run_underlying (Jz hel),hlt,gk w hs,jZ]
     .simp at hq
    .simp at hq
   .rename_i l kk i;split at hq
    .rename_i e hel;split at hq
     .rename_i hs;cases hb:Nat.blt i (Ev.len l)
      .rw[hb] at hq;simp at hq
      .rw[hb] at hq;simp only[cond_true,cd,XL] at hq;subst hq;have hlt:=jz.1 hb;rw[gu] at hlt;obtain⟨⟨bl,of,sp⟩,cap,k1,k2,k3,k4⟩:=F6 hv hlt;simp only at k2 k3 k4;subst k2;simp only[vr] at hj;refine dV hH hd (u:=.pointer (some ⟨bl,of+i,none⟩)) ?_ (by simp only[vr];exact⟨_,_,rfl,XM hlt,rfl,k3,k4⟩) (.inl rfl);unfold execOp;rw[ho];simp[XW,k1,hj.1,Instr.indexAt,asIntOf,run_underlying (Jz hel),hlt,gk w hs,jZ]
     .simp at hq
    .simp at hq
   .rename_i b off kk i;simp only[vr] at hv hj;obtain⟨hdb,hv⟩:=hv;split at hq
    .rename_i len e hu;split at hq
     .rename_i sz hs;cases hb:Nat.blt i len
      .rw[hb] at hq;simp at hq
      .rw[hb] at hq;simp only[cond_true,cd,XL] at hq;subst hq;have hlt:=jz.1 hb;refine dV hH hd (u:=.pointer (some ⟨M.b b,off+i*sz,none⟩)) ?_ (by simp only[vr];exact⟨hdb,rfl⟩) (.inl rfl);unfold execOp;rw[ho];simp[XW,hv,hj.1,Instr.indexAt,asIntOf,run_underlying (cz hu),Instr.sureAddr,hlt,gk w hs,jZ]
     .simp at hq
    .simp at hq
   .simp at hq
  .simp at he
 .simp at he
theorem P7{t:TypeId}{x j:Operand}(ho:o.op = .index t x j)(hH:Hr T M S w)(hT:sr M w F a.tmps)(ih:Rec)(he:uS t x j ih F S=some (v,S')):dg r n T M S w a o v S':=by
 unfold uS at he;have hd:∀c,o.op≠.defer c:=fun c hc=>by rw[ho] at hc;simp at hc
 split at he
 .rename_i y k hy hk;split at he
  .rename_i q hq;simp only[XL,XO] at he;obtain⟨rfl,rfl⟩:=he;have hv:=cQ hT hy;have hj:=cQ hT hk;unfold HO at hq;split at hq
   .rename_i l kk i len e hu;simp only[vr] at hv hj;obtain⟨us,hv,g1,g2⟩:=hv;split at hq
    .rename_i sz hs;cases hb:Nat.blt i len
     .rw[hb] at hq;simp at hq
     .rw[hb] at hq;simp only[cond_true] at hq;split at hq
      .rename_i cs hp;have hlt:=jz.1 hb;obtain⟨u,k1,k2⟩:=Fp g1 g2 hs hp hq;refine dV hH hd (u:=u) ?_ k2 (.inl rfl);unfold execOp;rw[ho];have k2':(Go.part e us.toArray (i*sz)).run PP w = .ok u w:=k1;simp[XW,hv,hj.1,Instr.index,asIntOf,run_underlying (cz hu),hlt,gk w hs,k2']
      .simp at hq
    .simp at hq
   .simp at hq
  .simp at he
 .simp at he
theorem PU{x:Operand}(ho:o.op = .nilCheck x)(hH:Hr T M S w)(hT:sr M w F a.tmps)(ih:Rec)(he:uP x ih F S=some (v,S')):dg r n T M S w a o v S':=by
 unfold uP at he;have hd:∀c,o.op≠.defer c:=fun c hc=>by rw[ho] at hc;simp at hc
 split at he
 .rename_i b off hy;simp only[XL,XO] at he;obtain⟨rfl,rfl⟩:=he;have hv:=cQ hT hy;refine dV hH hd (u:=a.eval x) ?_ hv (.inl rfl);simp only[vr] at hv;unfold execOp;rw[ho];simp[hv.2]
 .rename_i l i hy;simp only[XL,XO] at he;obtain⟨rfl,rfl⟩:=he;have hv:=cQ hT hy;refine dV hH hd (u:=a.eval x) ?_ hv (.inl rfl);simp only[vr] at hv;obtain⟨_,_,hv,_⟩:=hv;unfold execOp;rw[ho];simp[hv]
 .rename_i f fs cs hy;simp only[XL,XO] at he;obtain⟨rfl,rfl⟩:=he;have hv:=cQ hT hy;refine dV hH hd (u:=a.eval x) ?_ hv (.inl rfl);simp only[vr] at hv;obtain⟨_,_,hv,_⟩:=hv;unfold execOp;rw[ho];simp[hv]
 .rename_i t y hy;simp only[XL,XO] at he;obtain⟨rfl,rfl⟩:=he;have hv:=cQ hT hy;refine dV hH hd (u:=a.eval x) ?_ hv (.inl rfl);simp only[vr] at hv;obtain⟨_,hv,_⟩:=hv;unfold execOp;rw[ho];simp[hv]
 .simp at he
theorem xW(a b:Int):rY a b=decide (a<b):=by
 cases a <;> cases b <;> simp only[rY] <;> rw[Zw,decide_eq_true_iff] <;> simp[Nat.blt,Int.lt_iff_add_one_le] <;> omega
theorem xX(a b:Int):rZ a b=(a == b):=by
 cases a <;> cases b <;> simp only[rZ] <;> rw[Zw] <;> simp <;> omega
theorem SH{zV0:Int}{x:CV}(h:r6 zV0=some x):x = .k (.int .i64 zV0)/\IntKind.i64.wrap zV0=zV0:=by
 unfold r6 at h;split at h
 .rename_i m;cases hb:Nat.blt m 9223372036854775808
  .rw[hb] at h;simp at h
  .rw[hb] at h;simp only[cond_true,cd,XL] at h;have:=jz.1 hb;exact⟨h.symm,IntWalk.i64_in _ (by constructor <;> simp only[Int.ofNat_eq_natCast] <;> omega)⟩
 .rename_i m;cases hb:Nat.blt m 9223372036854775808
  .rw[hb] at h;simp at h
  .rw[hb] at h;simp only[cond_true,cd,XL] at h;have:=jz.1 hb;exact⟨h.symm,IntWalk.i64_in _ (by constructor <;> omega)⟩
theorem Ub{op:BinOp}{t:TypeId}{x y:Operand}{p q:Int}{zV0:CV}(h:nr op p q=some zV0) :
  ∃u,(do eqGuard op t x y (.int .i64 p) (.int .i64 q);binOp op t (.int .i64 p) (.int .i64 q)).run PP w = .ok u w/\vr M w zV0 u:=by
 have hg:∀op,(eqGuard op t x y (.int .i64 p) (.int .i64 q)).run PP w = .ok () w:=by
  intro op;unfold eqGuard;split <;> rfl
 have hc:∀(b:Bool) (op:BinOp),(binOp op t (.int .i64 p) (.int .i64 q)).run PP w = .ok (.bool b) w->zV0 = .bool b->∃u,(do eqGuard op t x y (.int .i64 p) (.int .i64 q);binOp op t (.int .i64 p) (.int .i64 q)).run PP w = .ok u w/\vr M w zV0 u:=by
  intro b op h1 h2;subst h2;exact⟨.bool b,by simp only[XW,hg,Z3];exact h1,by simp[vr,Value.oneCell']⟩
 have hi:∀(m:Int) (op:BinOp),r6 m=some zV0->(binOp op t (.int .i64 p) (.int .i64 q)).run PP w = .ok (.int .i64 (IntKind.i64.wrap m)) w->∃u,(do eqGuard op t x y (.int .i64 p) (.int .i64 q);binOp op t (.int .i64 p) (.int .i64 q)).run PP w = .ok u w/\vr M w zV0 u:=by
  intro m op h1 h2;obtain⟨rfl,hw⟩:=SH h1;exact⟨.int .i64 m,by simp only[XW,hg,Z3];rw[h2,hw],by simp[vr,Value.oneCell']⟩
 cases op
 case add=>exact hi (p+q) .add h rfl
 case sub=>exact hi (p-q) .sub h rfl
 case mul=>exact hi (p*q) .mul h rfl
 case lss=>exact hc (decide (p<q)) .lss rfl (by simp only[nr,XL] at h;rw[<-h,xW])
 case gtr=>exact hc (decide (p > q)) .gtr rfl (by simp only[nr,XL] at h;rw[<-h,xW])
 case leq=>exact hc (decide (p<=q)) .leq rfl (by simp only[nr,XL] at h;rw[<-h,xW];congr 2;rw[Zw];simp)
 case geq=>exact hc (decide (p ≥ q)) .geq rfl (by simp only[nr,XL] at h;rw[<-h,xW];congr 2;rw[Zw];simp)
 case eql=>exact hc (p == q) .eql rfl (by simp only[nr,XL] at h;rw[<-h,xX])
 case neq=>exact hc (p != q) .neq rfl (by simp only[nr,XL] at h;rw[<-h,xX];rfl)
 all_goals (simp[nr] at h)
theorem Js(d:Nat){P:Program}{t e:TypeId}(h:P.underlying t=some (.pointer e))(ad:Addr)(w:World):(Op.equalIn (d+1) t (.pointer (some ad)) (.pointer none)).run P w = .ok false w/\(Op.equalIn (d+1) t (.pointer none) (.pointer (some ad))).run P w = .ok false w:=by
 constructor <;> simp[Op.equalIn,run_underlying h]
theorem yt(d:Nat){P:Program}{t e:TypeId}(h:P.underlying t=some (.slice e))(ad:Addr)(k c:Nat)(w:World):(Op.equalIn (d+1) t (.slice (some ad) k c) (.slice none 0 0)).run P w = .ok false w/\(Op.equalIn (d+1) t (.slice none 0 0) (.slice (some ad) k c)).run P w = .ok false w:=by
 constructor <;> simp[Op.equalIn,run_underlying h]
theorem Jv(d:Nat){P:Program}{t:TypeId}{p q:Array TypeId}{b:Bool}(h:P.underlying t=some (.func p q b))(fn:Fn)(x y:Array Value)(w:World):(Op.equalIn (d+1) t (.func fn x y) .nilFunc).run P w = .ok false w/\(Op.equalIn (d+1) t .nilFunc (.func fn x y)).run P w = .ok false w:=by
 constructor <;> simp[Op.equalIn,run_underlying h]
theorem Ju(d:Nat){P:Program}{t:TypeId}{ms:Array (String×TypeId)}(h:P.underlying t=some (.interface ms))(k:TypeId)(x:Value)(w:World):(Op.equalIn (d+1) t (.iface k x) .nilIface).run P w = .ok false w/\(Op.equalIn (d+1) t .nilIface (.iface k x)).run P w = .ok false w:=by
 constructor <;> simp[Op.equalIn,run_underlying h]
theorem Jt(d:Nat){P:Program}{t e k:TypeId}(h:P.underlying t=some (.map k e))(m:Nat)(w:World):(Op.equalIn (d+1) t (.map (some m)) (.map none)).run P w = .ok false w/\(Op.equalIn (d+1) t (.map none) (.map (some m))).run P w = .ok false w:=by
 constructor <;> simp[Op.equalIn,run_underlying h]
def isEq:BinOp->Bool
 |.eql=>true
 |_=>false
theorem GG{t:TypeId}{x:CV}{c u:Value}(h:notNil t x c=true)(hx:vr M w x u)(op:BinOp)(y zV0:Operand)(ho:op = .eql\/op = .neq) :
  ((do eqGuard op t y zV0 u c;binOp op t u c).run PP w = .ok (.bool (bif isEq op then false else true)) w) ∧
  ((do eqGuard op t y zV0 c u;binOp op t c u).run PP w = .ok (.bool (bif isEq op then false else true)) w):=by
 have fin:∀(u c:Value),(∀d,(Op.equalIn (d+1) t u c).run PP w = .ok false w)->(eqGuard op t y zV0 u c).run PP w = .ok () w->(∀o,o = .eql->binOp o t u c=(do pure (.bool (← Op.equal t u c))))->(∀o,o = .neq->binOp o t u c=(do pure (.bool (!(← Op.equal t u c))))) →
   (do eqGuard op t y zV0 u c;binOp op t u c).run PP w = .ok (.bool (bif isEq op then false else true)) w:=by
  intro u c h1 h2 h3 h4;have h5:(Op.equal t u c).run PP w = .ok false w:=h1 9999;rcases ho with rfl|rfl
  .rw[h3 _ rfl];simp[XW,h2,h5,isEq]
  .rw[h4 _ rfl];simp[XW,h2,h5,isEq]
 unfold notNil at h;split at h
 case h_7=>simp at h
 all_goals
  rename_i hu;have hu:=cz hu
 .simp only[vr] at hx;obtain⟨_,rfl⟩:=hx;exact⟨fin _ _ (fun d=>(Js d hu _ w).1) (by unfold eqGuard;split <;> rfl) (fun o e=>by subst e;rfl) (fun o e=>by subst e;rfl),fin _ _ (fun d=>(Js d hu _ w).2) (by unfold eqGuard;split <;> rfl) (fun o e=>by subst e;rfl) (fun o e=>by subst e;rfl)⟩
 .simp only[vr] at hx;obtain⟨_,c',rfl,_⟩:=hx;exact⟨fin _ _ (fun d=>(yt d hu _ _ _ w).1) (by unfold eqGuard;split <;> rfl) (fun o e=>by subst e;rfl) (fun o e=>by subst e;rfl),fin _ _ (fun d=>(yt d hu _ _ _ w).2) (by unfold eqGuard;split <;> rfl) (fun o e=>by subst e;rfl) (fun o e=>by subst e;rfl)⟩
 .obtain⟨ad,cap,rfl,_⟩:=F6 (i:=0) hx (by simp);exact⟨fin _ _ (fun d=>(yt d hu _ _ _ w).1) (by unfold eqGuard;split <;> rfl) (fun o e=>by subst e;rfl) (fun o e=>by subst e;rfl),fin _ _ (fun d=>(yt d hu _ _ _ w).2) (by unfold eqGuard;split <;> rfl) (fun o e=>by subst e;rfl) (fun o e=>by subst e;rfl)⟩
 .simp only[vr] at hx;obtain⟨_,_,rfl,_⟩:=hx;exact⟨fin _ _ (fun d=>(Jv d hu _ _ _ w).1) (by unfold eqGuard;split <;> rfl) (fun o e=>by subst e;rfl) (fun o e=>by subst e;rfl),fin _ _ (fun d=>(Jv d hu _ _ _ w).2) (by unfold eqGuard;split <;> rfl) (fun o e=>by subst e;rfl) (fun o e=>by subst e;rfl)⟩
 .simp only[vr] at hx;obtain⟨_,rfl,_⟩:=hx;exact⟨fin _ _ (fun d=>(Ju d hu _ _ w).1) (by unfold eqGuard;split <;> rfl) (fun o e=>by subst e;rfl) (fun o e=>by subst e;rfl),fin _ _ (fun d=>(Ju d hu _ _ w).2) (by unfold eqGuard;split <;> rfl) (fun o e=>by subst e;rfl) (fun o e=>by subst e;rfl)⟩
 .simp only[vr] at hx;obtain⟨_,rfl⟩:=hx;exact⟨fin _ _ (fun d=>(Jt d hu _ w).1) (by unfold eqGuard;split <;> rfl) (fun o e=>by subst e;rfl) (fun o e=>by subst e;rfl),fin _ _ (fun d=>(Jt d hu _ w).2) (by unfold eqGuard;split <;> rfl) (fun o e=>by subst e;rfl) (fun o e=>by subst e;rfl)⟩
theorem Up(d:Nat){P:Program}{t e:TypeId}{i:TypeInfo}(h:P.underlying t=some (.pointer e))(hi:P.info? e=some i)(hz:i.size≠0)(b p q:Nat)(w:World) :
  (Op.equalIn (d+1) t (.pointer (some ⟨b,p,none⟩)) (.pointer (some ⟨b,q,none⟩))).run P w = .ok (Nat.beq p q) w:=by
 have hc:P.cellsOf e≠0:=by simpa[Program.cellsOf,hi] using hz
 have hb:((⟨b,p,none⟩:Addr) == ⟨b,q,none⟩)=Nat.beq p q:=by
  rw[Zw];simp
 simp only[Op.equalIn,XW,run_underlying h,Z3,run_sizeOf w hi];rw[if_pos hc];simp[sameAddr,hb]
theorem Jr{op:BinOp}{t:TypeId}{x y:Operand}{p q:CV}{U V:Value}{b:Bool}(hb:eqv t p q=some b)(ho:op = .eql\/op = .neq)(hp:vr M w p U)(hq:vr M w q V) :
  (do eqGuard op t x y U V;binOp op t U V).run PP w = .ok (.bool (bif isEq op then b else !b)) w:=by
 unfold eqv at hb;split at hb
 .rename_i i o' i' o'';cases hbb:Nat.beq i i'
  .rw[hbb] at hb;simp at hb
  .rw[hbb] at hb;simp only[cond_true] at hb;have:=XT hbb;subst this;split at hb
   .rename_i e hu;split at hb
    .rename_i sz hs;simp only[XL] at hb;subst hb;simp only[vr] at hp hq;obtain⟨_,rfl⟩:=hp;obtain⟨_,rfl⟩:=hq;obtain⟨ti,h1,h2⟩:=mw hs;have h5:(Op.equal t (.pointer (some ⟨M.b i,o',none⟩)) (.pointer (some ⟨M.b i,o'',none⟩))).run PP w = .ok (Nat.beq o' o'') w:=Up 9999 (cz hu) h1 (by omega) _ _ _ w;have hg:(eqGuard op t x y (.pointer (some ⟨M.b i,o',none⟩)) (.pointer (some ⟨M.b i,o'',none⟩))).run PP w = .ok () w:=by unfold eqGuard;split <;> rfl
     rcases ho with rfl|rfl
     .have hbn:binOp .eql t (.pointer (some ⟨M.b i,o',none⟩)) (.pointer (some ⟨M.b i,o'',none⟩))=(do pure (.bool (← Op.equal t (.pointer (some ⟨M.b i,o',none⟩)) (.pointer (some ⟨M.b i,o'',none⟩))))):=rfl;rw[hbn];simp[XW,hg,h5,isEq]
     .have hbn:binOp .neq t (.pointer (some ⟨M.b i,o',none⟩)) (.pointer (some ⟨M.b i,o'',none⟩))=(do pure (.bool (!(← Op.equal t (.pointer (some ⟨M.b i,o',none⟩)) (.pointer (some ⟨M.b i,o'',none⟩)))))):=rfl;rw[hbn];simp[XW,hg,h5,isEq]
    .simp at hb
   .simp at hb
 .rename_i v1;cases hn:notNil t p v1
  .rw[hn] at hb;simp at hb
  .rw[hn] at hb;simp only[cond_true,XL] at hb;subst hb;simp only[vr] at hq;rw[hq.1];exact(GG hn hp op x y ho).1
 .rename_i v1 hx1;cases hn:notNil t q v1
  .rw[hn] at hb;simp at hb
  .rw[hn] at hb;simp only[cond_true,XL] at hb;subst hb;simp only[vr] at hp;rw[hp.1];exact(GG hn hq op x y ho).2
 .simp at hb
theorem Kj{op:BinOp}{t:TypeId}{x y:Operand}{p q zV0:CV}{U V:Value}(h:bin.binG op t x y p q=some zV0)(hp:vr M w p U)(hq:vr M w q V) :
  ∃u,(do eqGuard op t x y U V;binOp op t U V).run PP w = .ok u w/\vr M w zV0 u:=by
 unfold bin.binG at h;split at h
 .rename_i u0 v0 h1 h2;have e1:=JQ h1 hp;have e2:=JQ h2 hq;subst e1;subst e2;split at h
  .rename_i r hr;exact⟨r,uf _ w hr,vx h⟩
  .simp at h
 .cases op
  case eql=>
   simp only at h
   cases hb:eqv t p q with
   |none=>rw[hb] at h;simp at h
   |some b=>
    rw[hb] at h;simp only[XL] at h;subst h;exact⟨_,Jr hb (.inl rfl) hp hq,by simp[vr,Value.oneCell',isEq]⟩
  case neq=>
   simp only at h
   cases hb:eqv t p q with
   |none=>rw[hb] at h;simp at h
   |some b=>
    rw[hb] at h;simp only[XL] at h;subst h;exact⟨_,Jr hb (.inr rfl) hp hq,by simp[vr,Value.oneCell',isEq]⟩
  all_goals simp at h
theorem Vv{op:BinOp}{t:TypeId}{x y:Operand}{p q zV0:CV}{U V:Value}(h:bin op t x y p q=some zV0)(hp:vr M w p U)(hq:vr M w q V) :
  ∃u,(do eqGuard op t x y U V;binOp op t U V).run PP w = .ok u w/\vr M w zV0 u:=by
 unfold bin at h;split at h
 .rename_i m k;split at h
  .rename_i z' hf;simp only[XL] at h;subst h;simp only[vr] at hp hq;rw[hp.1,hq.1];exact Ub hf
  .exact Kj h hp hq
 .exact Kj h hp hq
theorem Qk{op:BinOp}{t t':TypeId}{x y:Operand}(ho:o.op = .binOp op t x y t')(hH:Hr T M S w)(hT:sr M w F a.tmps)(ih:Rec)(he:uV op t x y ih F S=some (v,S')):dg r n T M S w a o v S':=by
 unfold uV at he;have hd:∀c,o.op≠.defer c:=fun c hc=>by rw[ho] at hc;simp at hc
 split at he
 .rename_i p q hp hq;split at he
  .rename_i zV0 hz;simp only[XL,XO] at he;obtain⟨rfl,rfl⟩:=he;obtain⟨u,h1,h2⟩:=Vv hz (cQ hT hp) (cQ hT hq);refine dV hH hd (u:=u) ?_ h2 (.inl rfl);unfold execOp;rw[ho];simp only[XW] at h1 ⊢;rw[h1];rfl
  .simp at he
 .simp at he
end
section
variable {r:Option Nat}{n:Nat}{T:Nat->Prop}{M:Mp}{S S':HS}{w w':World}{a:Act}{o:Oper}{v:CV}{u:Value}{F:Tr CV}
theorem od{c:Call}{b:Builtin}(ho:o.op = .call c)(hb:c.callee = .builtin b) :
  ∃cs:Array Bool,(execOp a.eval o)=builtin b c.argTypes o.type cs (c.args.map a.eval):=by
 unfold execOp;rw[ho];simp only[resolve,hb];exact⟨_,rfl⟩
theorem kJ{l:Array Operand}{xs:List CV}(hT:sr M w F a.tmps)(h:dU F l.toList=some xs):∃us:List Value,l.map a.eval=us.toArray/\aC M w xs us:=
 ⟨l.toList.map a.eval,by cases l;simp,xn hT h⟩
theorem F5{l:List Nat}(h:vr M w (.q l) u):∃ad cap,u = .slice ad l.length cap:=by
 simp only[vr] at h;obtain⟨ad,cap,h1,_⟩:=h;exact⟨ad,cap,by rw[h1];try rfl⟩
theorem R1{t:TypeId}{x:CV}{ts:List TypeId}{s:TypeId}(h:rS S t x=some (v,S'))(hx:vr M w x u) :
  S'=S/\∃zV0,(Builtin.len_ (t::ts).toArray s #[u]).run PP w = .ok zV0 w/\vr M w v zV0:=by
 unfold rS at h;split at h
 .rename_i e hu;simp only[XL,XO] at h;obtain⟨rfl,rfl⟩:=h;simp only[vr] at hx;refine⟨rfl,_,?_,by simp only[vr];exact⟨rfl,rfl⟩⟩;simp[Builtin.len_,XW,run_underlying (cz hu),hx.1,goInt]
 .rename_i e hu;simp only[XL,XO] at h;obtain⟨rfl,rfl⟩:=h;simp only[vr] at hx;obtain⟨ad,c',rfl⟩:=hx;refine⟨rfl,_,?_,by simp only[vr];exact⟨rfl,rfl⟩⟩;simp[Builtin.len_,XW,run_underlying (cz hu),goInt]
 .rename_i e b o n c hu;simp only[XL,XO] at h;obtain⟨rfl,rfl⟩:=h;simp only[vr] at hx;obtain⟨_,c',rfl,g1,g2,_⟩:=hx;refine⟨rfl,_,?_,by simp only[vr];exact⟨rfl,rfl⟩⟩;simp[Builtin.len_,XW,run_underlying (cz hu),goInt]
 .rename_i e l hu;rw[cd,gu] at h;simp only[XL,XO] at h;obtain⟨rfl,rfl⟩:=h;obtain⟨ad,cap,rfl⟩:=F5 hx;refine⟨rfl,_,?_,by simp only[vr];exact⟨rfl,rfl⟩⟩;simp[Builtin.len_,XW,run_underlying (cz hu),goInt]
 .rename_i s hu;simp only[XL,XO] at h;obtain⟨rfl,rfl⟩:=h;simp only[vr] at hx;refine⟨rfl,_,?_,by simp only[vr];exact⟨rfl,rfl⟩⟩;simp[Builtin.len_,XW,run_underlying (cz hu),hx.1,goInt]
 .simp at h
theorem Vf{t:TypeId}{x:CV}{ts:List TypeId}{s:TypeId}(h:sR S t x=some (v,S'))(hx:vr M w x u) :
  S'=S/\∃zV0,(Builtin.cap_ (t::ts).toArray s #[u]).run PP w = .ok zV0 w/\vr M w v zV0:=by
 unfold sR at h;split at h
 .rename_i e hu;simp only[XL,XO] at h;obtain⟨rfl,rfl⟩:=h;simp only[vr] at hx;refine⟨rfl,_,?_,by simp only[vr];exact⟨rfl,rfl⟩⟩;simp[Builtin.cap_,XW,run_underlying (cz hu),hx.1,goInt]
 .rename_i e b o n c hu;simp only[XL,XO] at h;obtain⟨rfl,rfl⟩:=h;simp only[vr] at hx;obtain⟨_,c',rfl,g1,g2,g3⟩:=hx;refine⟨rfl,_,?_,by simp only[vr];exact⟨rfl,rfl⟩⟩;simp[Builtin.cap_,XW,run_underlying (cz hu),goInt,g3]
 .simp at h
theorem P5{c:Call}{t:TypeId}{ts:List TypeId}{x:CV}(ho:o.op = .call c)(hb:c.callee = .builtin .len)(hts:c.argTypes.toList=t::ts)(hH:Hr T M S w)(hT:sr M w F a.tmps)(hx:dU F c.args.toList=some [x])
  (he:rS S t x=some (v,S')):dg r n T M S w a o v S':=by
 have hd:∀c,o.op≠.defer c:=fun c hc=>by rw[ho] at hc;simp at hc
 obtain⟨us,h1,h2⟩:=kJ hT hx;obtain⟨cs,hop⟩:=od (a:=a) ho hb
 match us,h2 with
 |[u],h2=>
  simp only[aC] at h2;obtain⟨hS,zV0,k1,k2⟩:=R1 (ts:=ts) (s:=o.type) he h2.1;refine dV hH hd (u:=zV0) ?_ k2 (.inl hS);have ht:c.argTypes=(t::ts).toArray:=by rw[<-hts]
  rw[hop,h1,ht];simp only[builtin,XW,k1];rfl
 |[],h2=>simp[aC] at h2
 |_::_::_,h2=>simp[aC] at h2
theorem Qe{c:Call}{t:TypeId}{ts:List TypeId}{x:CV}(ho:o.op = .call c)(hb:c.callee = .builtin .cap)(hts:c.argTypes.toList=t::ts)(hH:Hr T M S w)(hT:sr M w F a.tmps)(hx:dU F c.args.toList=some [x])
  (he:sR S t x=some (v,S')):dg r n T M S w a o v S':=by
 have hd:∀c,o.op≠.defer c:=fun c hc=>by rw[ho] at hc;simp at hc
 obtain⟨us,h1,h2⟩:=kJ hT hx;obtain⟨cs,hop⟩:=od (a:=a) ho hb
 match us,h2 with
 |[u],h2=>
  simp only[aC] at h2;obtain⟨hS,zV0,k1,k2⟩:=Vf (ts:=ts) (s:=o.type) he h2.1;refine dV hH hd (u:=zV0) ?_ k2 (.inl hS);have ht:c.argTypes=(t::ts).toArray:=by rw[<-hts]
  rw[hop,h1,ht];simp only[builtin,XW,k1];rfl
 |[],h2=>simp[aC] at h2
 |_::_::_,h2=>simp[aC] at h2
theorem Fi{d:TypeDesc}{t:TypeId}{k k':Value}{b:Bool}(hk:lR t k=true)(hd:cR t=some d)(h:wX k k'=some b):Instr.sameNow d k k'=some b:=by
 unfold lR at hk;rw[hd] at hk;unfold wX at h;split at h
 .rename_i j p j' q;cases hj:decide (j=j')
  .rw[hj] at h;simp at h
  .rw[hj] at h;simp only[cond_true,XL] at h;have hj:=of_decide_eq_true hj;subst hj;rw[xX] at h;cases d <;> simp at hk;simp[Instr.sameNow,h]
 .rename_i p q;simp only[XL] at h;cases d <;> simp at hk;simp only[Instr.sameNow];rw[<-h];obtain⟨p⟩:=p;obtain⟨q⟩:=q;have:(ByteArray.mk p == ByteArray.mk q)=(p == q):=rfl;rw[this];by_cases hpq:p=q <;> simp[hpq]
 .simp at h
theorem Bq{d:TypeDesc}{t:TypeId}{k:Value}(hk:lR t k=true)(hd:cR t=some d):∀{es:List (Value×CV×Nat)} {ms:List MapEntry} {zV0:Option CV} (i:Nat),mr M w es ms->ux k es=some zV0 →
  (zV0=none->Instr.findNow d k ms i=some none)/\(∀x,zV0=some x->∃j u,Instr.findNow d k ms i=some (some (j,u))/\vr M w x u)
 |[],[],zV0,i,_,h=>by
  have h:some (none:Option CV)=some zV0:=h;cases h;exact⟨fun _=>rfl,fun x hx=>by simp at hx⟩
 |x::es,y::ms,zV0,i,hm,h=>by
  simp only[mr] at hm;obtain⟨⟨m1,m2,m3,m4⟩,hm⟩:=hm;have h':(match wX k x.1 with|some true=>some (some x.2.1)|some false=>ux k es|none=>none)=some zV0:=h;split at h'
  .rename_i hs;cases h';refine⟨fun hz=>by simp at hz,fun x' hx=>?_⟩;cases hx;refine⟨i,y.val,?_,m3⟩;simp only[Instr.findNow,m1,Fi hk hd hs]
  .rename_i hs;obtain⟨g1,g2⟩:=Bq hk hd (i+1) hm h';have:Instr.findNow d k (y::ms) i=Instr.findNow d k ms (i+1):=by simp only[Instr.findNow,m1,Fi hk hd hs]
   rw[this];exact⟨g1,g2⟩
  .simp at h'
 |[],_::_,_,_,h,_=>by simp[mr] at h
 |_::_,[],_,_,h,_=>by simp[mr] at h
theorem J2{d:TypeDesc}{t:TypeId}{k:Value}(hk:lR t k=true)(hd:cR t=some d)(b:Bool)(m:Nat):(Instr.checkKey b (m+1) t k).run PP w = .ok () w:=by
 unfold lR at hk;rw[hd] at hk;unfold Instr.checkKey;have h0:=run_underlying (cz hd) w;split at hk <;> first|(rename_i h1;cases h1;simp[XW,h0])|simp at hk
theorem Hu{t kt e:TypeId}{k:Value}{b:Nat}{es:List (Value×CV×Nat)}{ck:Nat}{zV0:Option CV}{ok:Bool}(hH:Hr T M S w)(hTb:T b)(hu:cR t=some (.map kt e))(hk:lR kt k=true)(hb:S.rd b=some (.m es ck))(hz:ux k es=some zV0) :
  (∀x,zV0=some x->∃u,(Instr.lookup t (.map (some (M.b b))) k ok).run PP w = .ok (if ok then .tuple #[u,.bool true] else u) w/\vr M w x u) ∧
  (zV0=none->∀u,(zeroValue e).run PP w = .ok u w->(Instr.lookup t (.map (some (M.b b))) k ok).run PP w = .ok (if ok then .tuple #[u,.bool false] else u) w):=by
 obtain⟨_,ms,h1,h2⟩:=hH.bO b _ hTb hb
 cases hd':cR kt with
 |none=>unfold lR at hk;rw[hd'] at hk;simp at hk
 |some d=>
  obtain⟨g1,g2⟩:=Bq hk hd' 0 h2 hz;have hg:(getObj (M.b b)).run PP w = .ok (.map ms.toArray ck) w:=by simp[getObj,Sem.run,h1]
  have hck:∀b,(Instr.checkKey b 10000 kt k).run PP w = .ok () w:=fun b=>J2 hk hd' b 9999;have hkt:=run_underlying (cz hd') w;refine⟨fun x hx=>?_,fun hn u hz0=>?_⟩
  .obtain⟨j,u,f1,f2⟩:=g2 x hx;refine⟨u,?_,f2⟩;simp[Instr.lookup,XW,run_underlying (cz hu),hg,hck,Instr.findKey,hkt,f1]
  .have f1:=g1 hn;simp[Instr.lookup,XW,run_underlying (cz hu),hg,hck,Instr.findKey,hkt,f1,hz0]
theorem P0{t:TypeId}{x i:Operand}{ok:Bool}(ho:o.op = .lookup t x i ok)(hH:Hr T M S w)(hT:sr M w F a.tmps)(ih:Rec)(he:sd t x i ok ih F S=some (v,S'))(hI:In T S'):dg r n T M S w a o v S':=by
 unfold sd at he;have hd:∀c,o.op≠.defer c:=fun c hc=>by rw[ho] at hc;simp at hc
 split at he
 .rename_i b k kt e hx hi hu;split at he
  .rename_i es ck hk hb;have hv:=cQ hT hx;have hj:=cQ hT hi;simp only[vr] at hv hj;split at he
   .rename_i zV0 hz;simp only[XL,XO] at he;obtain⟨rfl,rfl⟩:=he;have hTb:T b:=hI b (by rw[fA];exact aM.2 (.inr (cn.2 rfl)));obtain⟨u,k1,k2⟩:=(Hu (ok:=ok) hH hTb hu hk hb hz).1 zV0 rfl;refine dV hH hd (u:=if ok then .tuple #[u,.bool true] else u) ?_ ?_ (.inr ⟨b,rfl⟩)
    .unfold execOp;rw[ho];simp[XW,hv.2,hj.1,k1]
    .cases ok
     .simpa using k2
     .simp only[cond_true,if_true,vr];exact⟨[u,.bool true],rfl,by simp only[aC,vr];exact⟨k2,by simp[Value.oneCell'],trivial⟩⟩
   .rename_i hz;split at he
    .rename_i zV0 hz0;simp only[XL,XO] at he;obtain⟨rfl,rfl⟩:=he;have hTb:T b:=hI b (by rw[fA];exact aM.2 (.inr (cn.2 rfl)));obtain⟨u,q1,k2,_⟩:=qC (M:=M) (w:=w) hz0;have k1:=(Hu (ok:=ok) hH hTb hu hk hb hz).2 rfl u q1;refine dV hH hd (u:=if ok then .tuple #[u,.bool false] else u) ?_ ?_ (.inr ⟨b,rfl⟩)
     .unfold execOp;rw[ho];simp[XW,hv.2,hj.1,k1]
     .cases ok
      .simpa using k2
      .simp only[cond_true,if_true,vr];exact⟨[u,.bool false],rfl,by simp only[aC,vr];exact⟨k2,by simp[Value.oneCell'],trivial⟩⟩
    .simp at he
   .simp at he
  .simp at he
 .simp at he
theorem NM{k t:Nat}{cs:Array Value}{zV0:Nat×Nat}(h:w.heap[k]?=some (.cells cs t zV0)):(Go.shape k).run PP w = .ok (some (t,cs.size)) w:=by
 simp[Go.shape,Sem.run,World.shape?,h]
theorem Al{k t:Nat}{cs:Array Value}{zV0:Nat×Nat}(h:w.heap[k]?=some (.cells cs t zV0)):w.shape? k=some (t,cs.size):=by
 simp[World.shape?,h]
theorem Mc{k t:Nat}{cs:Array Value}{zV0:Nat×Nat}(h:w.heap[k]?=some (.cells cs t zV0)):(viewAt k).run PP w = .ok none w:=by
 simp[viewAt,XW,NM h]
theorem seen_cells{ad:Addr}{t:Nat}{cs:Array Value}{zV0:Nat×Nat}(h:w.heap[ad.block]?=some (.cells cs t zV0)):(Conv.seenAt ad).run PP w = .ok ad w:=by
 simp[Conv.seenAt,XW,Mc h]
theorem Qc{s t:TypeId}{x:Operand}(ho:o.op = .convert s t x)(hH:Hr T M S w)(hT:sr M w F a.tmps)(ih:Rec)(he:si s t x ih F S=some (v,S'))(hI:In T S'):dg r n T M S w a o v S':=by
 unfold si at he;have hd:∀c,o.op≠.defer c:=fun c hc=>by rw[ho] at hc;simp at hc
 split at he
 .rename_i y hy;have hv:=cQ hT hy;unfold yH at he;split at he
  .rename_i k;simp only[vr] at hv;split at he
   .rename_i zV0 hz;split at he
    .rename_i z' hz';simp only[XL,XO] at he;obtain⟨rfl,rfl⟩:=he;refine dV hH hd (u:=zV0) ?_ (vx hz') (.inl rfl);unfold execOp;rw[ho];simp[XW,hv.1,uf _ w hz]
    .simp at he
   .simp at he
  .rename_i b p;simp only[vr] at hv;split at he
   .rename_i t' l e c hs hu hb;split at he
    .rename_i zV0 hz;cases hc:(Nat.ble 1 zV0&&Nat.blt p (len l))
     .rw[hc] at he;simp at he
     .rw[hc] at he;simp only[cond_true,XL,XO] at he;obtain⟨rfl,rfl⟩:=he;have hTb:T b:=hI b (by rw[fA];exact aM.2 (.inr (cn.2 rfl)));obtain⟨_,cs,rest,h1,h2,h3,h4,h5,h6⟩:=hH.bO b _ hTb hb;simp only[XQ] at hc;have hc1:=XU hc.1;have hc2:=jz.1 hc.2;rw[gu] at hc2;have hll:=fT h4;have hne:¬(cs++rest).toArray.size<=p:=by simp;omega
      refine dV hH hd (u:=a.eval x) ?_ (by simp only[vr];exact hv) (.inr ⟨b,rfl⟩);unfold execOp;rw[ho];have hcv:(convert s t (a.eval x)).run PP w = .ok (a.eval x) w:=by
       rw[hv.2];unfold convert;have hsh:=Al h1;have hsn:=seen_cells (ad:=⟨M.b b,p,none⟩) h1;have hz0:zV0≠0:=by omega
       simp[XW,run_underlying (cz hs),run_underlying (cz hu),Conv.unsafePointer,hsn,cellsIn,hsh,gk w hz,hz0,hne]
       try omega
      simp[XW,hcv]
    .simp at he
   .rename_i u' l e hs hu hb;split at he
    .rename_i zV0 hz;cases hc:liesAt PP PP.depth e (len l/PP.cellsOf e) p u' 1
     .rw[hc] at he;simp at he
     .rw[hc] at he;simp only[cond_true,XL,XO] at he;obtain⟨rfl,rfl⟩:=he;have hTb:T b:=hI b (by rw[fA];exact aM.2 (.inr (cn.2 rfl)));obtain⟨_,cs,rest,h1,h2,h3,h4,h5,h6⟩:=hH.bO b _ hTb hb;have h3:=h3 rfl;subst h3;rw[gu] at hc;have hll:=fT h4;refine dV hH hd (u:=a.eval x) ?_ (by simp only[vr];exact hv) (.inr ⟨b,rfl⟩);unfold execOp;rw[ho];have hcv:(convert s t (a.eval x)).run PP w = .ok (a.eval x) w:=by
       rw[hv.2];unfold convert;have hsh:=Al h1;have hsn:=seen_cells (ad:=⟨M.b b,p,none⟩) h1;have hva:(variablesAt ⟨M.b b,p,none⟩ u' 1).run PP w = .ok true w:=by
        simp[variablesAt,XW,hsh,hll,hc]
       simp[XW,run_underlying (cz hs),run_underlying (cz hu),Conv.unsafePointer,hsn,hva,gk w hz]
      simp[XW,hcv]
    .simp at he
   .simp at he
  .simp at he
 .simp at he
def bv:Option Nat->Option Value->Prop
 |none,x=>x=none
 |some m,x=>∃j,x=some (.int j (m:Int))
theorem CW{x:Option Operand}{m:Option Nat}(hT:sr M w F a.tmps)(h:jy F x=some m):bv m (x.map a.eval):=by
 cases x with
 |none=>cases h;rfl
 |some y=>
  unfold jy at h;simp only at h;split at h
  .rename_i j k hy;cases h;have:=cQ hT hy;simp only[vr] at this;exact⟨j,by simp[this.1]⟩
  .simp at h
theorem Vm{m y:Nat}{j:IntKind}{c:BoundsCode}(h:m<=y):(Instr.sliceBound (.int j (m:Int)) y c).run PP w = .ok m w:=by
 simp[Instr.sliceBound,XW,asIntOf,h]
theorem Kc{lo hi mx:Option Nat}{l h m:Option Value}{b:Bool}{len cap:Nat}(hl:bv lo l)(hh:bv hi h)(hm:bv mx m)(hs:mx≠none->hi≠none)
  (h1:lo.getD 0<=hi.getD len) (h2:hi.getD len<=mx.getD cap) (h3:mx.getD cap<=cap) :
  (Instr.sliceBounds b len cap l h m).run PP w = .ok (lo.getD 0,hi.getD len,mx.getD cap) w:=by
 unfold Instr.sliceBounds;cases mx <;> cases hi <;> cases lo <;> simp only[bv] at hl hh hm <;> (try obtain⟨j1,hl⟩:=hl) <;> (try obtain⟨j2,hh⟩:=hh) <;> (try obtain⟨j3,hm⟩:=hm) <;> (try subst hl) <;> (try subst hh) <;> (try subst hm) <;>
  simp only[Option.getD_none,Yt] at h1 h2 h3 <;> first|(simp at hs;done)|simp[XW,Vm,h1,h2,h3]
theorem qW{t e:TypeId}{zV0 n c:Nat}{ad:Option Addr}{lo hi mx:Option Nat}{l h m:Option Value}(hu:cR t=some (.slice e))(hz:dc e=some zV0)(hl:bv lo l)(hh:bv hi h)(hm:bv mx m)(hs:mx≠none->hi≠none)
  (h1:lo.getD 0<=hi.getD n) (h2:hi.getD n<=mx.getD c) (h3:mx.getD c<=c) :
  (Instr.sliceAt t (.slice ad n c) l h m).run PP w = .ok (.slice (if mx.getD c=lo.getD 0 then ad else ad.map (·.add (lo.getD 0*zV0))) (hi.getD n-lo.getD 0) (mx.getD c-lo.getD 0)) w:=by
 have hb:=Kc (w:=w) (b:=true) hl hh hm hs h1 h2 h3;simp[Instr.sliceAt,Instr.slice,XW,run_underlying (cz hu),hb,gk w hz]
theorem NB{t:TypeId}{b o' n':Nat}{c lo hi mx:Option Nat}{l h m:Option Value}(hH:Hr T M S w)(hl:bv lo l)(hh:bv hi h)(hm:bv mx m)(hx:vr M w (.s b o' n' c) u)(hTb:T b)(he:pj S t b o' n' c lo hi mx=some (v,S')) :
  S'=S.bD b/\∃u',(Instr.sliceAt t u l h m).run PP w = .ok u' w/\vr M w v u':=by
 unfold pj at he;split at he
 .rename_i e cl bt cx hel hb;split at he
  .rename_i zV0 hz;obtain⟨hd,cs,rest,h1,h2,h3,h4,h5,h6⟩:=hH.bO b _ hTb hb;have hll:=fT h4;simp only[vr] at hx;obtain⟨_,c',rfl,g1,g2,g3⟩:=hx;have hu:cR t=some (.slice e):=by
    unfold elemOf at hel;split at hel
    .rename_i e' h';cases hel;exact h'
    .simp at hel
   cases hs0:(mx.isNone||hi.isSome)
   .rw[hs0] at he;simp at he
   .rw[hs0] at he;have hs:mx≠none->hi≠none:=by cases mx <;> cases hi <;> simp at hs0 ⊢
    simp only[cond_true,cd,Cl,gu] at he;have hk:rV c bt e cl.length o' zV0<=c'/\(c=none->0<rV c bt e cl.length o' zV0->zV0=M.e b):=by
     cases c with
     |some k=>exact⟨by simp only at g3;simp only[rV];omega,fun h=>by simp at h⟩
     |none=>
      simp only at g3;simp only[rV];cases hbe:Nat.beq bt e
      .simp
      .have:=XT hbe;subst this;rw[hz] at h6;have hze:zV0=M.e b:=by simpa using h6
       refine⟨?_,fun _ _=>hze⟩;simp only[cond_true];have:(cl.length-o')/zV0<=(c'*zV0)/zV0:=Nat.div_le_div_right (by simp at h2;rw[<-hze] at g3;omega);have h0:zV0=0\/0<zV0:=by omega
       rcases h0 with rfl|h0
       .show(cl.length-o')/0<=c';simp
       .rwa [Y4 _ h0] at this
    generalize rV c bt e cl.length o' zV0=kn at he hk;obtain⟨hk1,hk2⟩:=hk;cases hc:(Nat.ble (lo.getD 0) (hi.getD n')&&Nat.ble (hi.getD n') (mx.getD kn)&&Nat.ble (mx.getD kn) kn&&Nat.ble 1 zV0)
    .rw[hc] at he;simp at he
    .rw[hc] at he;simp only[cond_true] at he;simp only[XQ] at hc;obtain⟨⟨⟨c1,c2⟩,c3⟩,c4⟩:=hc;have c1:=XU c1;have c2:=XU c2;have c3:=XU c3;have c4:=XU c4;have d2:hi.getD n'<=mx.getD c':=by cases mx <;> simp at c2 c3 ⊢ <;> omega
     have d3:mx.getD c'<=c':=by cases mx <;> simp at c2 c3 ⊢ <;> omega
     have hrun:=qW (w:=w) (ad:=some ⟨M.b b,o',none⟩) hu hz hl hh hm hs c1 d2 d3;have hcap:∀q,mU mx c (lo.getD 0)=some q->q=mx.getD c'-lo.getD 0:=by
      intro q hq
      cases mx with
      |some m'=>simp[mU] at hq;simp;omega
      |none=>
       cases c with
       |some k=>simp only at g3;simp[mU] at hq;simp;omega
       |none=>simp[mU] at hq
     have hnone:mU mx c (lo.getD 0)=none->mx=none/\c=none:=by
      intro hq
      cases mx with
      |some m'=>simp[mU] at hq
      |none=>cases c with
       |some k=>simp[mU] at hq
       |none=>exact⟨rfl,rfl⟩
     generalize lo.getD 0=lo' at *;generalize hi.getD n'=hi' at *;cases hl0:Nat.beq lo' 0
     .rw[hl0] at he;simp only[cond_false] at he;split at he
      .rename_i q hq;simp only[XL,XO] at he;obtain⟨rfl,rfl⟩:=he;have hq:=hcap q hq;refine⟨rfl,_,hrun,?_⟩;simp only[vr];refine⟨hd,_,?_,?_,?_,hq.symm⟩
       .by_cases hm0:mx.getD c'=lo'
        .have:q=0:=by omega
         subst this;simp[hm0]
        .have:Nat.beq q 0=false:=by cases hb0:Nat.beq q 0;rfl;have:=XT hb0;omega
         simp[hm0,this,Addr.add]
       .show hi'-lo'<=_;omega
       .omega
      .rename_i hq;obtain⟨rfl,rfl⟩:=hnone hq;cases hlt:Nat.blt lo' kn
       .rw[hlt] at he;simp only[cond_false] at he;cases hle:Nat.beq lo' hi'
        .rw[hle] at he;simp at he
        .rw[hle] at he;simp only[cond_true,XL,XO] at he;obtain⟨rfl,rfl⟩:=he;have:=XT hle;subst this;refine⟨rfl,_,hrun,?_⟩;simp only[vr,zaS];exact⟨_,_,rfl⟩
       .rw[hlt] at he;have hlt:=jz.1 hlt;simp only[cond_true,XL,XO] at he;obtain⟨rfl,rfl⟩:=he;refine⟨rfl,_,hrun,?_⟩;have hze:=hk2 rfl (by omega);simp only[Option.getD_none] at *;have hne:¬c'=lo':=by omega
        simp only[vr];refine⟨hd,c'-lo',by simp[hne,Addr.add],Nat.sub_le_sub_right d2 _,by omega,?_⟩;show(c'-lo')*M.e b+(o'+lo'*zV0)=M.z b;rw[<-hze] at g3 ⊢;rw[zaG];have:lo'*zV0<=c'*zV0:=Ya _ (by omega);omega
     .rw[hl0] at he;have:=XT hl0;subst this;simp only[cond_true,XL,XO] at he;obtain⟨rfl,rfl⟩:=he;refine⟨rfl,_,hrun,?_⟩;simp only[vr];refine⟨hd,mx.getD c',by simp[Addr.add],by omega,by omega,?_⟩
      cases hq:mU mx c 0 with
      |some q=>have:=hcap q hq;simp only;omega
      |none=>obtain⟨rfl,rfl⟩:=hnone hq;simpa using g3
  .simp at he
 .simp at he
theorem O7{l:List Nat}{ad:Option Addr}{cap:Nat}(h:vr M w (.q l) (.slice ad l.length cap))(k:Nat)(hk:k<=l.length):vr M w (.q (l.take k)) (.slice ad k cap):=by
 simp only[vr] at h ⊢;obtain⟨a,cap',h1,h2,h3,h4,h5⟩:=h;have hla:(l.map aY).length=l.length:=by simp
 have hlb:((l.take k).map aY).length=k:=by simp;omega
 simp only[Value.slice.injEq] at h1;obtain⟨rfl,_,rfl⟩:=h1;have hlk:(l.take k).length=k:=by simp;omega
 refine⟨ad,cap,by rw[hlk],by rw[hlk];omega,h3,?_,?_⟩
 .intro hn;obtain⟨g1,g2,g3⟩:=h4 hn;have:l=[]:=ZB.1 g1;subst this;simp[g3]
 .intro ad' ha;obtain⟨g1,g2⟩:=h5 ad' ha;refine⟨g1,fun i x hi=>g2 i x ?_⟩;rw[List.map_take,YS] at hi;split at hi
  .exact hi
  .simp at hi
theorem nv{t e:TypeId}(h:elemOf t=some e):cR t=some (.slice e):=by
 unfold elemOf at h;split at h
 .rename_i e' h';cases h;exact h'
 .simp at h
theorem NA{t:TypeId}{b o' n':Nat}{c lo hi mx:Option Nat}(h:pj S t b o' n' c lo hi mx=some (v,S')):S'=S.bD b:=by
 unfold pj at h;simp only[cd,Cl,Yq] at h
 repeat' split at h
 all_goals first
  |(simp at h;done)
  |(simp only[XL,XO] at h;exact h.2.symm)
theorem Nz{t:TypeId}{x:CV}{lo hi mx:Option Operand}(hH:Hr T M S w)(hT:sr M w F a.tmps)(hx:vr M w x u)(hI:In T S')(he:qX F S t x lo hi mx=some (v,S')) :
  (S'=S \/ ∃i,S'=S.bD i)/\∃u',(Instr.sliceAt t u (lo.map a.eval) (hi.map a.eval) (mx.map a.eval)).run PP w = .ok u' w/\vr M w v u':=by
 unfold qX at he;split at he
 .rename_i lo' hi' mx' hl hh hm;have hl:=CW hT hl;have hh:=CW hT hh;have hm:=CW hT hm;split at he
  .rename_i b o' n' c;have hS:=NA he;have hTb:T b:=hI b (by rw[hS,fA];exact aM.2 (.inr (cn.2 rfl)));exact⟨.inr ⟨b,hS⟩,(NB hH hl hh hm hx hTb he).2⟩
  .rename_i l;split at he
   .rename_i e hel;split at he
    .rename_i zV0 hz h0;obtain⟨hz,h0⟩:dc e=some _/\lo'.getD 0=0:=⟨by assumption,by assumption⟩;rw[gu] at he;cases hc:Nat.ble (hi'.getD l.length) l.length
     .rw[hc] at he;simp at he
     .rw[hc] at he;simp only[cond_true,XL,XO] at he;obtain⟨rfl,rfl⟩:=he;have hc:=XU hc;obtain⟨ad,cap,rfl⟩:=F5 hx;have hcap:l.length<=cap:=by
       have hx':=hx;simp only[vr] at hx';obtain⟨a1,c1,h1,h2,_⟩:=hx';simp only[Value.slice.injEq] at h1;obtain⟨_,_,rfl⟩:=h1;simpa using h2
      have hrun:=qW (w:=w) (ad:=ad) (n:=l.length) (c:=cap) (nv hel) hz hl hh hm (by simp) (by omega) (by simp;omega) (by simp);refine⟨.inl rfl,_,hrun,?_⟩;rw[z8,h0];have:=O7 hx _ hc;simpa[Addr.add] using this
    .simp at he
   .simp at he
  .split at he
   .rename_i e hel;split at he
    .obtain⟨hz,h0,h1⟩:dc e=some _/\lo'.getD 0=0/\hi'.getD 0=0:=⟨by assumption,by assumption,by assumption⟩;simp only[XL,XO] at he;obtain⟨rfl,rfl⟩:=he;simp only[vr] at hx;obtain⟨rfl,_⟩:=hx;have hrun:=qW (w:=w) (ad:=none) (n:=0) (c:=0) (nv hel) hz hl hh hm (by simp) (by omega) (by simp;omega) (by simp);refine⟨.inl rfl,_,hrun,?_⟩;simp[vr,h0,h1,Value.oneCell']
    .simp at he
   .simp at he
  .rename_i s;split at he
   .have hu:cR t=some .string:=by assumption
    simp only at he;cases hc:(Nat.ble (lo'.getD 0) (hi'.getD s.size)&&Nat.ble (hi'.getD s.size) s.size)
    .rw[hc] at he;simp at he
    .rw[hc] at he;rw[XQ] at hc;have c1:=XU hc.1;have c2:=XU hc.2;simp only[cond_true,XL,XO] at he;obtain⟨rfl,rfl⟩:=he;simp only[vr] at hx;obtain⟨rfl,_⟩:=hx;have hm0:mx.map a.eval=none:=hm;have hb:=Kc (w:=w) (b:=false) (len:=s.size) (cap:=s.size) (mx:=none) (m:=none) hl hh rfl (by simp) c1 (by simpa using c2) (by simp);refine⟨.inl rfl,.string (s.extract (lo'.getD 0) (hi'.getD s.size)),?_,by simp[vr,Value.oneCell']⟩;simp[Instr.sliceAt,Instr.slice,XW,run_underlying (cz hu),hm0,hb]
   .simp at he
  .simp at he
 .simp at he
end
structure Hv(T:Nat->Prop)(M:Mp)(G:Nat->Option Bk)(w:World):Prop where
 bO:∀i b,T i->G i=some b->M.d i/\br M w i b
 inj:∀i j b b',T i->T j->G i=some b->G j=some b'->i≠j->M.b i≠M.b j
 apart:∀i b,T i->G i=some b->∀j,¬M.A (M.b i) j
 bc:∀k j,M.A k j->k<w.heap.size
 aR:∀i,T i->i<aR
structure Fv(N mm:Nat->Prop)(M:Mp)(G:Nat->Option Bk)(w:World)(M':Mp)(G':Nat->Option Bk)(w':World):Prop where
 ext:M.ext M'
 bI:kept M.A w w'
 size:w.heap.size<=w'.heap.size
 os:w'.os=w.os
 tape:w'.tape=w.tape
 output:w'.output=w.output
 kh:∀k,k<w.heap.size->(∀i b,i<aR->mm i->M.d i->G i=some b->M.b i≠k)->w'.heap[k]?=w.heap[k]?
 kP:∀k j,M'.A k j->M.A k j\/w.heap.size<=k
 g8:∀i,M'.d i->¬M.d i->N i/\mm i/\(w.heap.size<=M'.b i \/ ∃j b,j<aR/\mm j/\M.d j/\G j=some b/\G' j=none/\M.b j=M'.b i)
 back:∀i b,i<aR->G' i=some b->M.d i->∃b0,G i=some b0
 same:∀i,i<aR->¬mm i->G' i=G i
structure ij(S S':HS):Prop where
 c:S.c<=S'.c
 tm:∀i,tb S.tm i->tb S'.tm i
structure Fx(T:Nat->Prop)(M:Mp)(c:Nat)(w:World):Prop where
 nw:∀k,T k->c<=k->¬M.d k
 gl:kv w
 ga:∀p∈jn,∀i v,p.2[i]?=some v->M.A p.1 i
section
variable {T T':Nat->Prop}{N N' mm mm':Nat->Prop}{M M1 M' M2:Mp}{G G1 G' G2:Nat->Option Bk}{S S1 S' S2:HS}{w w1 w' w2:World}
theorem Hr.hv(h:Hr T M S w):Hv T M S.rd w:=⟨h.bO,h.inj,h.apart,h.bc,h.aR⟩
theorem Hv.hr(h:Hv T M S.rd w):Hr T M S w:=⟨h.bO,h.inj,h.apart,h.bc,h.aR⟩
theorem Hv.less(h:Hv T M G w)(ht:∀i,T' i->T i)(hg:∀i b,T' i->G' i=some b->G i=some b):Hv T' M G' w:=
 ⟨fun i b hi hb=>h.bO i b (ht i hi) (hg i b hi hb),fun i j b b' hi hj hb hb'=>h.inj i j b b' (ht i hi) (ht j hj) (hg i b hi hb) (hg j b' hj hb'),fun i b hi hb=>h.apart i b (ht i hi) (hg i b hi hb),h.bc,fun i hi=>h.aR i (ht i hi)⟩
theorem Fv.refl(N mm:Nat->Prop)(M:Mp)(G:Nat->Option Bk)(w:World):Fv N mm M G w M G w:=
 ⟨Mp.ext.refl M,kept.refl _ _,XP _,rfl,rfl,rfl,fun _ _ _=>rfl,fun _ _ h=>.inl h,fun i h h'=>absurd h h',fun i b _ h _=>⟨b,h⟩,fun _ _ _=>rfl⟩
theorem Fv.mono(h:Fv N mm M G w M' G' w')(hN:∀i,N i->N' i)(hm:∀i,mm i->mm' i):Fv N' mm' M G w M' G' w':=by
 refine⟨h.ext,h.bI,h.size,h.os,h.tape,h.output,fun k hk hn=>h.kh k hk fun i b hl hi hd hb=>hn i b hl (hm i hi) hd hb,h.kP,?_,h.back,fun i hl hi=>h.same i hl fun hi'=>hi (hm i hi')⟩;intro i hd hn;obtain⟨a1,a2,a3⟩:=h.g8 i hd hn;refine⟨hN i a1,hm i a2,?_⟩;rcases a3 with a3|⟨j,b,cl,c1,c2⟩
 .exact .inl a3
 .exact .inr ⟨j,b,cl,hm j c1,c2⟩
theorem Fv.trans(h:Fv N mm M G w M1 G1 w1)(h':Fv N mm M1 G1 w1 M2 G2 w2):Fv N mm M G w M2 G2 w2:=by
 refine⟨h.ext.trans h'.ext,?_,XY h.size h'.size,h'.os.trans h.os,h'.tape.trans h.tape,h'.output.trans h.output,?_,?_,?_,?_,?_⟩
 .intro k j hk;exact(h'.bI k j (h.ext.A k j hk)).trans (h.bI k j hk)
 .intro k hk hn;rw[h'.kh k (XZ hk h.size) ?_,h.kh k hk fun i b hl hi hd hb=>hn i b hl hi hd hb];intro i b hl hi hd hb hk';by_cases hM:M.d i
  .obtain⟨b0,h0⟩:=h.back i b hl hb hM;exact hn i b0 hl hi hM h0 (by rw[<-h.ext.b i hM];exact hk')
  .obtain⟨_,_,h3|⟨j,b',hlj,h4,h5,h6,_,h7⟩⟩:=h.g8 i hd hM
   .omega
   .exact hn j b' hlj h4 h5 h6 (h7.trans hk')
 .intro k j hk;rcases h'.kP k j hk with hk|hk
  .exact h.kP k j hk
  .exact .inr (XY h.size hk)
 .intro i hd hn;by_cases h1:M1.d i
  .obtain⟨a1,a2,a4⟩:=h.g8 i h1 hn;refine⟨a1,a2,?_⟩;rw[h'.ext.b i h1];rcases a4 with a4|⟨j,b,cl,c1,c2,c3,c4,c5⟩
   .exact .inl a4
   .refine .inr ⟨j,b,cl,c1,c2,c3,?_,c5⟩
    cases hr:G2 j with
    |none=>rfl
    |some b2=>obtain⟨b1,hb1⟩:=h'.back j b2 cl hr (h.ext.d j c2);rw[c4] at hb1;simp at hb1
  .obtain⟨a1,a2,a4⟩:=h'.g8 i hd h1;refine⟨a1,a2,?_⟩;rcases a4 with a4|⟨j,b,cl,c1,c2,c3,c4,c5⟩
   .exact .inl (XY h.size a4)
   .by_cases hM:M.d j
    .obtain⟨b0,h0⟩:=h.back j b cl c3 hM;exact .inr ⟨j,b0,cl,c1,hM,h0,c4,by rw[<-h.ext.b j hM];exact c5⟩
    .obtain⟨_,_,d4|⟨j2,b2,el,e1,e2,e3,e4,e5⟩⟩:=h.g8 j c2 hM
     .exact .inl (by rw[<-c5];exact d4)
     .refine .inr ⟨j2,b2,el,e1,e2,e3,?_,e5.trans c5⟩
      cases hr:G2 j2 with
      |none=>rfl
      |some b3=>obtain⟨b1,hb1⟩:=h'.back j2 b3 el hr (h.ext.d j2 e2);rw[e4] at hb1;simp at hb1
 .intro i b hl hb hd;obtain⟨b1,h1⟩:=h'.back i b hl hb (h.ext.d i hd);exact h.back i b1 hl h1 hd
 .intro i hl hi;rw[h'.same i hl hi,h.same i hl hi]
theorem Fr.fv(h:Fr M S w M' S' w'):Fv (fun i=>S.c<=i/\i<S'.c) (tb S'.mm) M S.rd w M' S'.rd w':=
 ⟨h.ext,h.bI,h.size,h.os,h.tape,h.output,h.kh,h.kP,fun i hd hn=>let ⟨a1,a2,a3,a4⟩:=h.g8 i hd hn;⟨⟨a1,a2⟩,a3,a4⟩,h.back,h.same⟩
theorem Fv.fr(h:Fv (fun i=>S.c<=i/\i<S'.c) (tb S'.mm) M S.rd w M' S'.rd w')(h1:∀i,tb S.tm i->tb S'.tm i)(h2:∀i,tb S.mm i->tb S'.mm i)(h3:∀i,tb S'.mm i->tb S.mm i\/tb S'.tm i)(h4:S.c<=S'.c):Fr M S w M' S' w':=
 ⟨h.ext,h.bI,h.size,h.os,h.tape,h.output,h.kh,h.kP,fun i hd hn=>let ⟨⟨a1,a2⟩,a3,a4⟩:=h.g8 i hd hn;⟨a1,a2,a3,a4⟩,h.back,h.same,h1,h2,h3,h4⟩
theorem Hw{Ti:Nat->Prop}(hG:Hv T M G w)(hr:Hv Ti M' G1 w')(hf:Fv N mm M S.rd w M' G1 w')(hTi:∀i,Ti i->T i)(hm:∀i,mm i->Ti i)(hag:∀i b,Ti i->S.rd i=some b->G i=some b)
  (h1:∀i b,mm i->G' i=some b->G1 i=some b) (h2:∀i,i<Ev.aR->¬mm i->G' i=G i):Hv T M' G' w'/\Fv N mm M G w M' G' w':=by
 have hlim:∀i,mm i->i<Ev.aR:=fun i hi=>hr.aR i (hm i hi);have bI:∀i b,T i->¬mm i->G i=some b->M.d i/\w'.heap[M.b i]?=w.heap[M.b i]?:=by
  intro i b hi hn hb;obtain⟨hd,hbr⟩:=hG.bO i b hi hb;refine⟨hd,hf.kh _ (jY hbr) ?_⟩;intro j b' hl hj hdj hbj;have hTj:=hm j hj;exact hG.inj j i b' b (hTi j hTj) hi (hag j b' hTj hbj) hb (fun e=>hn (e ▸ hj))
 have apartb:∀i j b b',T j->mm i->¬mm j->G1 i=some b->G j=some b'->M'.b i≠M'.b j:=by
  intro i j b b' hTj hi hj hb hb';have hTi':=hm i hi;obtain⟨hdj,hbrj⟩:=hG.bO j b' hTj hb';rw[hf.ext.b j hdj];by_cases hd:M.d i
  .obtain⟨b0,h0⟩:=hf.back i b (hlim i hi) hb hd;rw[hf.ext.b i hd];exact hG.inj i j b0 b' (hTi i hTi') hTj (hag i b0 hTi' h0) hb' (fun e=>hj (e ▸ hi))
  .obtain⟨hd',_⟩:=hr.bO i b hTi' hb;obtain⟨_,_,h3|⟨k,b0,hlk,k1,k2,k3,_,k5⟩⟩:=hf.g8 i hd' hd
   .have:=jY hbrj;omega
   .rw[<-k5];have hTk:=hm k k1;exact hG.inj k j b0 b' (hTi k hTk) hTj (hag k b0 hTk k3) hb' (fun e=>hj (e ▸ k1))
 refine⟨⟨?_,?_,?_,hr.bc,hG.aR⟩,?_⟩
 .intro i b hi hb;by_cases hmi:mm i
  .exact hr.bO i b (hm i hmi) (h1 i b hmi hb)
  .rw[h2 i (hG.aR i hi) hmi] at hb;obtain⟨hd,hbr⟩:=hG.bO i b hi hb;exact⟨hf.ext.d i hd,l8 hf.ext hf.bI hd (bI i b hi hmi hb).2 hbr⟩
 .intro i j b b' hi hj hb hb' hij;by_cases hmi:mm i <;> by_cases hmj:mm j
  .exact hr.inj i j b b' (hm i hmi) (hm j hmj) (h1 i b hmi hb) (h1 j b' hmj hb') hij
  .rw[h2 j (hG.aR j hj) hmj] at hb';exact apartb i j b b' hj hmi hmj (h1 i b hmi hb) hb'
  .rw[h2 i (hG.aR i hi) hmi] at hb;exact fun e=>apartb j i b' b hi hmj hmi (h1 j b' hmj hb') hb e.symm
  .rw[h2 i (hG.aR i hi) hmi] at hb;rw[h2 j (hG.aR j hj) hmj] at hb';rw[hf.ext.b i (hG.bO i b hi hb).1,hf.ext.b j (hG.bO j b' hj hb').1];exact hG.inj i j b b' hi hj hb hb' hij
 .intro i b hi hb j hA;by_cases hmi:mm i
  .exact hr.apart i b (hm i hmi) (h1 i b hmi hb) j hA
  .rw[h2 i (hG.aR i hi) hmi] at hb;obtain⟨hd,hbr⟩:=hG.bO i b hi hb;rw[hf.ext.b i hd] at hA;rcases hf.kP _ _ hA with hA|hA
   .exact hG.apart i b hi hb j hA
   .have:=jY hbr;omega
 .refine⟨hf.ext,hf.bI,hf.size,hf.os,hf.tape,hf.output,?_,hf.kP,?_,?_,fun i hl hi=>h2 i hl hi⟩
  .intro k hk hn;exact hf.kh k hk fun i b hl hi hd hb=>hn i b hl hi hd (hag i b (hm i hi) hb)
  .intro i hd hn;obtain⟨a1,a2,a3⟩:=hf.g8 i hd hn;refine⟨a1,a2,?_⟩;rcases a3 with a3|⟨j,b,cl,c1,c2,c3,c4,c5⟩
   .exact .inl a3
   .refine .inr ⟨j,b,cl,c1,c2,hag j b (hm j c1) c3,?_,c5⟩
    cases hg:G' j with
    |none=>rfl
    |some b1=>have:=h1 j b1 c1 hg;rw[c4] at this;simp at this
  .intro i b hl hb hd;by_cases hmi:mm i
   .obtain⟨b0,h0⟩:=hf.back i b hl (h1 i b hmi hb) hd;exact⟨b0,hag i b0 (hm i hmi) h0⟩
   .exact⟨b,by rw[<-h2 i hl hmi];exact hb⟩
theorem ij.refl(S:HS):ij S S:=⟨XP _,fun _ h=>h⟩
theorem ij.wr(S:HS)(i:Nat)(b:Option Bk):ij S (S.wr i b):=by rw[gW];exact⟨XP _,fun i h=>aM.2 (.inl h)⟩
theorem ij.new(S:HS)(b:Bk):ij S (S.new b):=by rw[g9];exact⟨zaH _,fun i h=>aM.2 (.inl h)⟩
theorem In.back(h:In T S')(hm:ij S S'):In T S:=fun i hi=>h i (hm.tm i hi)
theorem BQ(h:Fx T M S.c w)(he:M.ext M')(hk:kept M.A w w')(hs:w.heap.size<=w'.heap.size):kv w'/\∀p∈jn,∀i v,p.2[i]?=some v->M'.A p.1 i:=by
 refine⟨fun p hp=>⟨XZ (h.gl p hp).1 hs,fun i v hi=>?_⟩,fun p hp i v hi=>he.A _ _ (h.ga p hp i v hi)⟩;rw[hk _ _ (h.ga p hp i v hi)];exact(h.gl p hp).2 i v hi
theorem Fx.step(h:Fx T M S.c w)(hf:Fr M S w M' S' w'):Fx T M' S'.c w':=by
 refine⟨?_,(BQ h hf.ext hf.bI hf.size).1,(BQ h hf.ext hf.bI hf.size).2⟩;intro k hT hk hd;by_cases hM:M.d k
 .exact h.nw k hT (XY hf.vG hk) hM
 .have:=(hf.g8 k hd hM).2.1;omega
theorem Fx.fv{c:Nat}(h:Fx T M c w)(hf:Fv N mm M G w M' G' w'):kv w'/\∀p∈jn,∀i v,p.2[i]?=some v->M'.A p.1 i:=BQ (S:=⟨.e,c,0,0⟩) h hf.ext hf.bI hf.size
theorem Fx.here(h:Fx T M S.c w)(hT:T S.c):¬M.d S.c:=h.nw _ hT (XP _)
theorem Hr.quiet(h:Hr T M S w)(hS:S'=S \/ ∃i,S'=S.bD i):Hr T M S' w/\Fr M S w M S' w:=by
 rcases hS with rfl|⟨i,rfl⟩
 .exact⟨h,Fr.refl _ _ _⟩
 .exact⟨h.bD i,Fr.bD i⟩
theorem tw{b:Nat}{bk:Bk}{ob:Option Bk}(h:Hr T M S w)(hT:T b)(hb:S.rd b=some bk)
  (hsz:w'.heap.size=w.heap.size) (hoth:∀k,k≠M.b b->w'.heap[k]?=w.heap[k]?) (hos:w'.os=w.os) (htp:w'.tape=w.tape) (hout:w'.output=w.output)
  (hnew:∀bk',ob=some bk'->kept M.A w w'->br M w' b bk') :
  Hr T M (S.wr b ob) w'/\Fr M S w M (S.wr b ob) w':=by
 have hk:kept M.A w w':=by
  intro k j hk;by_cases hkb:k=M.b b
  .subst hkb;exact absurd hk (h.apart b bk hT hb j)
  .exact Zk (hoth _ hkb)
 have hbl:=h.aR b hT;have hd:M.d b:=(h.bO b _ hT hb).1;have live:∀i bi,T i->(S.wr b ob).rd i=some bi->∃b0,S.rd i=some b0:=by
  intro i bi hi hr;rcases pz hbl (h.aR i hi) hr with⟨rfl,_⟩|⟨_,hx⟩
  .exact⟨_,hb⟩
  .exact⟨_,hx⟩
 refine⟨⟨?_,?_,?_,?_,h.aR⟩,?_⟩
 .intro i bi hi hr;rcases pz hbl (h.aR i hi) hr with⟨rfl,hx⟩|⟨hne,hx⟩
  .exact⟨hd,hnew _ hx hk⟩
  .obtain⟨hdi,hbi⟩:=h.bO i bi hi hx;exact⟨hdi,l8 (Mp.ext.refl M) hk hdi (hoth _ (h.inj i b _ _ hi hT hx hb hne)) hbi⟩
 .intro i j bi bj hi hj hri hrj hij;obtain⟨b0,h0⟩:=live i bi hi hri;obtain⟨b1,h1⟩:=live j bj hj hrj;exact h.inj i j _ _ hi hj h0 h1 hij
 .intro i bi hi hr j hA;rcases pz hbl (h.aR i hi) hr with⟨rfl,_⟩|⟨_,hx⟩
  .exact h.apart _ _ hT hb j hA
  .exact h.apart i _ hi hx j hA
 .intro k j hA;rw[hsz];exact h.bc k j hA
 .have e:=gW S b ob;refine⟨Mp.ext.refl M,hk,by rw[hsz];exact XP _,hos,htp,hout,?_,fun _ _ h=>.inl h,fun i h h'=>absurd h h',?_,?_,?_,?_,?_,?_⟩
  .intro k hk' hn;refine hoth k fun e'=>?_;exact hn b _ hbl (by rw[e];exact aM.2 (.inr (cn.2 rfl))) hd hb e'.symm
  .intro i bi _ hr hdi;by_cases hpe:bu i=bu b
   .rw[e] at hr;have:S.rd i=S.rd b:=by show S.h.dX (bu i)=S.h.dX (bu b);rw[hpe]
    exact⟨_,this.trans hb⟩
   .have:(S.wr b ob).rd i=S.rd i:=by rw[e];exact lU S.h _ hpe
    exact⟨bi,by rw[<-this];exact hr⟩
  .intro i hl hi;refine AO hbl hl fun e'=>hi ?_;rw[e,e'];exact aM.2 (.inr (cn.2 rfl))
  .intro i hi;rw[e];exact aM.2 (.inl hi)
  .intro i hi;rw[e];exact aM.2 (.inl hi)
  .intro i hi;rw[e] at hi ⊢;rcases aM.1 hi with hi|hi
   .exact .inl hi
   .exact .inr (aM.2 (.inr hi))
  .rw[e];exact XP _
theorem xF{bk:Bk}{ob:Obj}{zV0 e:Nat}(h:Hr T M S w)(hf:¬M.d S.c)(hT:T S.c)
  (hnew:∀M',M.ext M'->kept M.A w (w.alloc ob)->M'.d S.c->M'.b S.c=w.heap.size->M'.z S.c=zV0->M'.e S.c=e->(w.alloc ob).heap[w.heap.size]?=some ob->br M' (w.alloc ob) S.c bk) :
  ∃M',Hr T M' (S.new bk) (w.alloc ob)/\Fr M S w M' (S.new bk) (w.alloc ob)/\M'.d S.c/\M'.b S.c=w.heap.size/\M'.z S.c=zV0/\M'.e S.c=e:=by
 have hb:=ma w ob;have hk:kept M.A w (w.alloc ob):=ju fun k j hk=>hb.block k (h.bc k j hk);have hsz:(w.alloc ob).heap.size=w.heap.size+1:=by simp
 have hnw:(w.alloc ob).heap[w.heap.size]?=some ob:=heap_alloc_new w _;have hcl:=h.aR _ hT
 let M':Mp:=⟨fun i=>M.d i\/i=S.c,fun i=>if i=S.c then w.heap.size else M.b i,fun i=>if i=S.c then zV0 else M.z i,fun i=>if i=S.c then e else M.e i,M.A⟩
 have hne:∀i,M.d i->i≠S.c:=fun i hi e=>hf (e ▸ hi);have hext:M.ext M':=⟨fun i hi=>.inl hi,fun i hi=>if_neg (hne i hi),fun i hi=>if_neg (hne i hi),fun i hi=>if_neg (hne i hi),fun _ _ hk=>hk⟩;have eS:=g9 S bk;refine⟨M',⟨?_,?_,?_,?_,h.aR⟩,?_,.inr rfl,if_pos rfl,if_pos rfl,if_pos rfl⟩
 .intro i bi hi hr;rcases kF hcl (h.aR i hi) hr with⟨rfl,rfl⟩|⟨hne',hx⟩
  .exact⟨.inr rfl,hnew M' hext hk (.inr rfl) (if_pos rfl) (if_pos rfl) (if_pos rfl) hnw⟩
  .obtain⟨hdi,hbi⟩:=h.bO i bi hi hx;exact⟨.inl hdi,l8 hext hk hdi (hb.block _ (jY hbi)) hbi⟩
 .intro i j bi bj hi hj hri hrj hij;rcases kF hcl (h.aR i hi) hri with⟨rfl,_⟩|⟨hni,hxi⟩
  .rcases kF hcl (h.aR j hj) hrj with⟨rfl,_⟩|⟨hnj,hxj⟩
   .exact absurd rfl hij
   .rw[show M'.b S.c=w.heap.size from if_pos rfl,show M'.b j=M.b j from if_neg hnj];have:=jY (h.bO j bj hj hxj).2;omega
  .rcases kF hcl (h.aR j hj) hrj with⟨rfl,_⟩|⟨hnj,hxj⟩
   .rw[show M'.b S.c=w.heap.size from if_pos rfl,show M'.b i=M.b i from if_neg hni];have:=jY (h.bO i bi hi hxi).2;omega
   .rw[show M'.b i=M.b i from if_neg hni,show M'.b j=M.b j from if_neg hnj];exact h.inj i j bi bj hi hj hxi hxj hij
 .intro i bi hi hr j hA;rcases kF hcl (h.aR i hi) hr with⟨rfl,_⟩|⟨hni,hxi⟩
  .rw[show M'.b S.c=w.heap.size from if_pos rfl] at hA;have:=h.bc _ _ hA;omega
  .rw[show M'.b i=M.b i from if_neg hni] at hA;exact h.apart i bi hi hxi j hA
 .intro k j hA;have:=h.bc k j hA;omega
 .refine⟨hext,hk,by rw[hsz];omega,hb.os,hb.tape,hb.output,fun k hk' _=>hb.block k hk',fun _ _ h=>.inl h,?_,?_,?_,?_,?_,?_,?_⟩
  .intro i hd hn;have hi:i=S.c:=hd.resolve_left hn;subst hi;refine⟨XP _,?_,?_,.inl ?_⟩
   .rw[eS];exact Zf _
   .rw[eS];exact aM.2 (.inr (cn.2 rfl))
   .rw[show M'.b S.c=w.heap.size from if_pos rfl];exact XP _
  .intro i bi hil hr hdi;by_cases hpe:bu i=bu S.c
   .exact absurd (kH hil hcl hpe) (hne i hdi)
   .have:(S.new bk).rd i=S.rd i:=by rw[eS];exact lU S.h _ hpe
    exact⟨bi,by rw[<-this];exact hr⟩
  .intro i hl hi;refine AP hcl hl fun e'=>hi ?_;rw[eS,e'];exact aM.2 (.inr (cn.2 rfl))
  .intro i hi;rw[eS];exact aM.2 (.inl hi)
  .intro i hi;rw[eS];exact aM.2 (.inl hi)
  .intro i hi;rw[eS] at hi ⊢;rcases aM.1 hi with hi|hi
   .exact .inl hi
   .exact .inr (aM.2 (.inr hi))
  .rw[eS];exact zaH _
end
end Rc.Ev
