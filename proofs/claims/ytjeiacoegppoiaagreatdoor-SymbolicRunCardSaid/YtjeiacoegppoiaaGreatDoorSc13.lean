/- Parts of the proof, 13: the texts SymW, WlJ2, WlK2, WlL2, SymD, Both, SymE, SymX, WlM2, WlN2, WlS, SymF, BoxI, SymG, FwZ, FwX, Fw3, Raw, SymY, WlO2, Awk, Awb, as far as they are used. -/
import Derived.Test.YtjeiacoegppoiaaGreatDoorSc12
import Derived.WalkKit
import Derived.ProofKit
import Derived.OpenShut
import Derived.ShutString
import Derived.ChangeOld
import Derived.Below
set_option linter.unusedSimpArgs false
set_option linter.unusedVariables false
set_option maxRecDepth 10000
namespace Rc
open Go Go.RowKit
section
variable {ts:List Tm}{i v:Nat}{x:Tm}
theorem zw0(hx:ts[i]?=some x)(e:x.1=v):co (ts.drop i) v=x.2:=by
 rw[zbb hx];obtain⟨w,d⟩:=x;show(if w=v then d else _)=_;exact if_pos e
theorem zsH(hx:ts[i]?=some x)(e:x.1≠v):co (ts.drop (i+1)) v=co (ts.drop i) v:=by
 rw[zbb hx];obtain⟨w,d⟩:=x;exact(if_neg e).symm
theorem zw1(h:ts.length<=i):co (ts.drop i) v=0:=by rw[List.drop_eq_nil_of_le h];rfl
theorem zw2:∀{l:List Tm},x.1≠v->co (l++[x]) v=co l v
 |[],e=>if_neg e
 |(w,d)::l,e=>by
  show(if w=v then d else co (l++[x]) v)=if w=v then d else co l v;rw[zw2 e]
theorem zvc(hc:CanT ts)(hx:ts[i]?=some x)(e:x.1=v):co (ts.take (i+1)) v=x.2:=by
 rw[<-e];exact zfE (ziX hc) (by rw[zaO hx];simp)
theorem zvb(hx:ts[i]?=some x)(e:x.1≠v):co (ts.take (i+1)) v=co (ts.take i) v:=by rw[zaO hx,zw2 e]
theorem zri(hx:ts[i]?=some x)(e:x.1=v):zik (ts.take (i+1)) v=zik (ts.take i) v:=by
 unfold zik;rw[zaO hx,List.filter_append,List.filter_cons_of_neg (by simp[e])];simp
theorem zrh(hx:ts[i]?=some x)(e:x.1≠v):zik (ts.take (i+1)) v=zik (ts.take i) v++[x]:=by
 unfold zik;rw[zaO hx,List.filter_append,List.filter_cons_of_pos (by simp[e])];simp
theorem zxG(ts:List Tm)(v:Nat):(zik ts v).length<=ts.length:=List.length_filter_le _ _
theorem zzV(hc:CanT ts):zd7 ts v (-(co ts v))=zik ts v:=by
 refine ziT (zh5 hc) (zgT hc) fun w=>?_;rw[znx hc,zsG hc];by_cases e:w=v
 .rw[if_pos e,if_pos e,e];grind
 .rw[if_neg e,if_neg e];grind
end
theorem zwi{B n v:Nat}{f:Af}(h:FL B n f):FL B n ⟨zik f.ts v,f.c⟩:=
 ⟨zgT h.can,fun t ht=>h.bd t (List.mem_filter.1 ht).1,h.cb,fun t ht=>h.var t (List.mem_filter.1 ht).1⟩
theorem zAV{l u:Rat}(h:l<0/\0<u)(h2:-l<u):slp l u=true:=by unfold slp;rw[decide_eq_true h.1,decide_eq_true h.2,decide_eq_true h2];rfl
theorem zAW{l u:Rat}(h2:¬ -l<u):slp l u=false:=by unfold slp;rw[decide_eq_false h2,Bool.and_false,Bool.and_false]
theorem zqG{l u:Rat}(h:¬(l<0/\0<u)):(decide (l<0)&&decide (0<u))=false:=by
 by_cases h1:l<0
 .rw[decide_eq_false (fun e=>h ⟨h1,e⟩),Bool.and_false]
 .rw[decide_eq_false h1,Bool.false_and]
theorem zjx{l u:Rat}(h:l<0/\0<u):(decide (l<0)&&decide (0<u))=true:=by rw[decide_eq_true h.1,decide_eq_true h.2];rfl
theorem zAU{l u:Rat}(h:¬(l<0/\0<u)):slp l u=false:=by
 unfold slp;rw[<-Bool.and_assoc,zqG h,Bool.false_and]
def lvz(l:List Lm)(n:Nat):Qr:=if n=0 then qZero else lvr l n
theorem zBI{l:List Lm}{n:Nat}(h:n=0):lvz l n=qZero:=if_pos h
theorem zrZ{l:List Lm}{n:Nat}{m:Lm}(h0:n≠0)(h:l[n-1]?=some m):lvz l n=m.v:=by unfold lvz;rw[if_neg h0,zcv h]
theorem zhA{l:List Lm}{n:Nat}(h0:n≠0):(lvz l n).q=lv l n:=by unfold lvz;rw[if_neg h0,ziE]
theorem zwy{l:List Lm}{B:Nat}(hB:∀m∈l,Fq m.v B)(n:Nat):Fq (lvz l n) B:=by
 unfold lvz;split
 .exact⟨zgh⟩
 .exact zma hB n
def zgb(s:Sc)(j:Nat)(p:Af)(c:Rat):(Af×Rw×Rat)×Bool:=match zfM s j p c with|some x=>(x,true)|none=>((fZ,⟨0,0,0,0⟩,0),false)
@[reducible] def rpL(x:Af×Rw×Rat):List Leaf:=[tmE.row x.1.ts,Leaf.val (.bool (zaQ x.1.c)),zaf (zaa (zaw x.1.c)),zaf (zaa (zaE x.1.c)),Leaf.val (.int .i64 x.2.1.kind),Leaf.val (.int .i64 x.2.1.idx),Leaf.val (.int .i64 x.2.1.lo),Leaf.val (.int .i64 x.2.1.hi),Leaf.val (.bool (zaQ x.2.2)),zaf (zaa (zaw x.2.2)),zaf (zaa (zaE x.2.2))]
theorem zbI{s:Sc}{j:Nat}{p:Af}{c:Rat}{x:Af×Rw×Rat}(h:zfM s j p c=some x):zgb s j p c=(x,true):=by unfold zgb;rw[h]
theorem zin{s:Sc}{j:Nat}{p:Af}{c:Rat}(h:zfM s j p c=none):zgb s j p c=((fZ,⟨0,0,0,0⟩,0),false):=by unfold zgb;rw[h]
theorem rpZ:V.agg [tmE.row [],Leaf.val (.bool false),nilL,nilL,Leaf.val (.int .i64 0),Leaf.val (.int .i64 0),Leaf.val (.int .i64 0),Leaf.val (.int .i64 0),Leaf.val (.bool false),nilL,nilL]=V.agg (rpL (fZ,⟨0,0,0,0⟩,0)):=by
 show _=V.agg [tmE.row [],Leaf.val (.bool (zaQ 0)),zaf (zaa (zaw 0)),zaf (zaa (zaE 0)),Leaf.val (.int .i64 0),Leaf.val (.int .i64 0),Leaf.val (.int .i64 0),Leaf.val (.int .i64 0),Leaf.val (.bool (zaQ 0)),zaf (zaa (zaw 0)),zaf (zaa (zaE 0))];rw[zbp,zbq,zah];rfl
theorem rp0(r:Rw)(k:Rat):R.tup [V.agg [tmE.row [],Leaf.val (.bool false),nilL,nilL,Leaf.val (.int .i64 r.kind),Leaf.val (.int .i64 r.idx),Leaf.val (.int .i64 r.lo),Leaf.val (.int .i64 r.hi),Leaf.val (.bool (zaQ k)),zaf (zaa (zaw k)),zaf (zaa (zaE k))],V.one (Leaf.val (.bool true))]=R.tup [V.agg (rpL (fZ,r,k)),V.one (Leaf.val (.bool true))]:=by
 show _=R.tup [V.agg [tmE.row [],Leaf.val (.bool (zaQ 0)),zaf (zaa (zaw 0)),zaf (zaa (zaE 0)),Leaf.val (.int .i64 r.kind),Leaf.val (.int .i64 r.idx),Leaf.val (.int .i64 r.lo),Leaf.val (.int .i64 r.hi),Leaf.val (.bool (zaQ k)),zaf (zaa (zaw k)),zaf (zaa (zaE k))],_];rw[zbp,zbq,zah];rfl
theorem afZ:afV fZ=V.agg [nilL,Leaf.val (.bool false),nilL,nilL]:=congrArg V.agg fZ_ls
section
variable {s:Sc}{j:Nat}{p:Af}{c:Rat}
theorem zio(h:zdH s j=true):zfM s j p c=some (p,if 0<c then⟨6,(j:Int),0,0⟩ else zdi s j,zc6 c):=if_pos h
theorem zgc(h:zdH s j=false)(h2:zby s j=true):zfM s j p c=some (fZ,if 0<c then⟨5,(j:Int),0,0⟩ else zct s j,zc6 c):=by
 unfold zfM;rw[if_neg (by rw[h];decide),if_pos h2]
theorem zrp(h:zdH s j=false)(h2:zby s j=false)(hc:0<c)(h3:bLo s j≠0/\bHi s j≠0/\slp (lv s.lems (bLo s j)) (lv s.lems (bHi s j))=true):zfM s j p c=some (p,⟨6,(j:Int),0,0⟩,zc6 c):=by
 unfold zfM;rw[if_neg (by rw[h];decide),if_neg (by rw[h2];decide),if_pos hc,if_pos h3]
theorem zgV(h:zdH s j=false)(h2:zby s j=false)(hc:0<c)(h3:¬(bLo s j≠0/\bHi s j≠0/\slp (lv s.lems (bLo s j)) (lv s.lems (bHi s j))=true)):zfM s j p c=some (fZ,⟨5,(j:Int),0,0⟩,zc6 c):=by
 unfold zfM;rw[if_neg (by rw[h];decide),if_neg (by rw[h2];decide),if_pos hc,if_neg h3]
theorem zoi(h:zdH s j=false)(h2:zby s j=false)(hc:¬0<c)(h3:bLo s j=0\/bHi s j=0):zfM s j p c=none:=by
 unfold zfM;rw[if_neg (by rw[h];decide),if_neg (by rw[h2];decide),if_neg hc,if_pos h3]
theorem zoh(h:zdH s j=false)(h2:zby s j=false)(hc:¬0<c)(h3:bLo s j≠0)(h4:bHi s j≠0):zfM s j p c=some (zfz (fSc p (zcE (lv s.lems (bLo s j)) (lv s.lems (bHi s j)))) (fN (zcF (lv s.lems (bLo s j)) (lv s.lems (bHi s j)))),⟨13,(j:Int),(bLo s j:Int),(bHi s j:Int)⟩,zc6 c/(lv s.lems (bHi s j)-lv s.lems (bLo s j))):=by
 unfold zfM;rw[if_neg (by rw[h];decide),if_neg (by rw[h2];decide),if_neg hc,if_neg (fun e=>e.elim h3 h4)]
theorem zBm(h:zdH s j=false)(h1:bLo s j≠0):lv s.lems (bLo s j)<0:=Rat.not_le.1 fun e=>by
 have:=zdU.2 (.inr ⟨h1,e⟩);rw[h] at this;cases this
theorem zwu(h:zby s j=false)(h1:bHi s j≠0):0<lv s.lems (bHi s j):=Rat.not_le.1 fun e=>by
 have:=zcc.2 (.inr ⟨h1,e⟩);rw[h] at this;cases this
end
theorem zr2{l u:Rat}{B:Nat}[Br l B][Br u B](hB:B<=1000000):Br (zcE l u) 100000000/\Br (zcF l u) 100000000:=by
 constructor
 .unfold zcE;exact(inferInstance:Br (u/(u-l)) _).mono (by omega)
 .unfold zcF;exact(inferInstance:Br (-(l*u)/(u-l)) _).mono (by omega)
theorem zAX{g:List Tm}(h:CanT g):scT g ((1:Int):Rat)=g:=ziT (zb8 h) h fun w=>by
 rw[zqa h];show co g w*1=_;rw[Rat.mul_one]
def bkP(s:Sc)(f:Af)(l:List Mu)(j:Nat):Af×List Mu×Bool:=match bkS s (some (f,l)) j with|some x=>(x.1,x.2,true)|none=>(fZ,[],false)
theorem zcj{s:Sc}{f:Af}{l:List Mu}{j:Nat}{x:Af×List Mu}(h:bkS s (some (f,l)) j=some x):bkP s f l j=(x.1,x.2,true):=by unfold bkP;rw[h]
theorem zk1{s:Sc}{f:Af}{l:List Mu}{j:Nat}(h:bkS s (some (f,l)) j=none):bkP s f l j=(fZ,[],false):=by unfold bkP;rw[h]
end Rc
namespace Go.Proofs.YtjeiacoegppoiaaGreatDoor
open Go Go.RowKit Rc
theorem znZ(x:Qr)(r:Rat)(hr:x.q=r)(hfx:Fit 10000000000 x)(y:Qr)(s:Rat)(hs:y.q=s)(hfy:Fit 10000000000 y):Ctr Tryz.prog 177 [qV x,qV y] (R.one (V.one (Leaf.val (.bool ((decide (r<0)&&decide (0<s))))))):=by
 refine bd_ Tryz.func177 Tryz.ntmps177 rfl (fun w0 A0=>?_);refine zc 10 rfl (tc_ zjp rfl (zd5 x (r) hr (hfx.mono (by omega))) ?_);by_cases h1:r<0
 .refine tq_ rfl (ltT rfl (zkb.2 h1)) (zl 2 rfl (tc_ zjp rfl (zd5 y (s) hs (hfy.mono (by omega))) ?_));by_cases h2:0<s
  .refine tq_ rfl (gtT rfl (zd3.2 h2)) (zl 4 rfl ?_);exact r1_ hq_ rfl (by rw[decide_eq_true h1,decide_eq_true h2] <;> rfl)
  .refine tq_ rfl (gtF rfl (fun e=>h2 (zd3.1 e))) (zl 4 rfl ?_);exact r1_ hq_ rfl (by rw[decide_eq_false h2,Bool.and_false])
 .refine tq_ rfl (ltF rfl (fun e=>h1 (zkb.1 e))) (zl 8 rfl ?_);exact r1_ hq_ rfl (by rw[decide_eq_false h1] <;> rfl)
theorem zwp(x:Qr)(r:Rat)(hr:x.q=r)(hfx:Fit 1000000000000 x)(y:Qr)(s:Rat)(hs:y.q=s)(hfy:Fit 1000000000000 y)(hs0:s≠0):Ctr Tryz.prog 178 [qV x,qV y] (R.one (qV (qOf (r/s)))):=by
 refine bd_ Tryz.func178 Tryz.ntmps178 rfl (fun w0 A0=>?_);refine zc 11 rfl (tc_ zzm rfl (qdiv x (r) hr (hfx.mono (by omega)) y (s) hs (hfy.mono (by omega)) (by assumption)) (zl 14 rfl ?_));exact r1_ hq_ rfl rfl
theorem zqU(x:Qr)(r:Rat)(hr:x.q=r)(hfx:Fit 10000000000 x)(y:Qr)(s:Rat)(hs:y.q=s)(hfy:Fit 10000000000 y):Ctr Tryz.prog 110 [qV x,qV y] (R.one (V.one (Leaf.val (.int .i64 ((if slp r s=true then 1 else 0)))))):=by
 refine bd_ Tryz.func110 Tryz.ntmps110 rfl (fun w0 A0=>?_);haveI ixn:Bn (val x.n) 10000000000:=Bn.val x.hn hfx.n;haveI ixd:Bn (val x.d) 10000000000:=Bn.val x.hd hfx.d;haveI iyn:Bn (val y.n) 10000000000:=Bn.val y.hn hfy.n;haveI iyd:Bn (val y.d) 10000000000:=Bn.val y.hd hfy.d;haveI ir:Br r 10000000000:=hr ▸ Br.q hfx;haveI is:Br s 10000000000:=hs ▸ Br.q hfy;refine zc 9 rfl ?_;by_cases hu:r<0/\0<s
 .refine dr_ 0 [] [] (dz 2 rfl (kc_ zuV rfl (znZ x r hr (hfx.mono (by omega)) y s hs (hfy.mono (by omega))) (zg2 true rfl (zjx hu) (dz 3 rfl (kc_ zCE rfl (zBg x (r) hr (hfx.mono (by omega))) (kc_ zuQ rfl (zuv y (s) hs (hfy.mono (by omega)) (qOf (-(r))) (-(r)) (zaj _) (Br.use (by omega))) ?_))))));by_cases h3:-r<s
  .refine kq_ rfl (gtT rfl (by rw[zdB];exact h3)) (dz 1 rfl (zae (za 7 rfl ?_)));exact r1_ hq_ rfl (by rw[if_pos (zAV hu h3)])
  .refine kq_ rfl (gtF rfl (by rw[zdB];exact h3)) (dz 1 rfl (zae (za 9 rfl ?_)));exact r1_ hq_ rfl (by rw[zAW h3] <;> rfl)
 .refine dr_ 0 [] [] (dz 2 rfl (kc_ zuV rfl (znZ x r hr (hfx.mono (by omega)) y s hs (hfy.mono (by omega))) (zg2 false rfl (zqG hu) (dz 7 rfl (zae (za 9 rfl ?_))))));exact r1_ hq_ rfl (by rw[zAU hu] <;> rfl)
theorem gap_p(x:Qr)(r:Rat)(hr:x.q=r)(hfx:Fit 10000000000 x)(y:Qr)(s:Rat)(hs:y.q=s)(hfy:Fit 10000000000 y)(h1:r<0)(h2:0<s):Ctr Tryz.prog 179 [qV x,qV y] (R.one (qV (qOf (zcF r s)))):=by
 refine bd_ Tryz.func179 Tryz.ntmps179 rfl (fun w0 A0=>?_);haveI ixn:Bn (val x.n) 10000000000:=Bn.val x.hn hfx.n;haveI ixd:Bn (val x.d) 10000000000:=Bn.val x.hd hfx.d;haveI iyn:Bn (val y.n) 10000000000:=Bn.val y.hn hfy.n;haveI iyd:Bn (val y.d) 10000000000:=Bn.val y.hd hfy.d;haveI ir:Br r 10000000000:=hr ▸ Br.q hfx;haveI is:Br s 10000000000:=hs ▸ Br.q hfy;have hne:s-r≠0:=by grind
 refine zc 12 rfl (tc_ zuV rfl (znZ x r hr (hfx.mono (by omega)) y s hs (hfy.mono (by omega))) (is_ true rfl (zjx ⟨h1,h2⟩) (zl 7 rfl (dr_ 0 [(8,2)] [2] (dz 2 rfl (kc_ zmn rfl (zwq x (r) hr (hfx.mono (by omega)) y (s) hs (hfy.mono (by omega))) (kc_ zCE rfl (zBg (qOf ((r)*(s))) ((r)*(s)) (zaj _) (Br.use (by omega))) (dz 2 rfl ?_))))))));refine kc_ zu0 rfl (zEj y (s) hs (hfy.mono (by omega)) x (r) hr (hfx.mono (by omega))) (kc_ zC0 rfl (zwp (qOf (-((r)*(s)))) (-((r)*(s))) (zaj _) (Br.use (by omega)) (qOf ((s)-(r))) ((s)-(r)) (zaj _) (Br.use (by omega)) (by assumption)) (dz 1 rfl (zae (za 1 rfl ?_))));exact r1_ hq_ rfl rfl
theorem zx3(x:Qr)(r:Rat)(hr:x.q=r)(hfx:Fit 10000000000 x)(y:Qr)(s:Rat)(hs:y.q=s)(hfy:Fit 10000000000 y)(h1:r<0)(h2:0<s):Ctr Tryz.prog 111 [qV x,qV y] (R.tup [V.one (Leaf.val (.int .i64 ((if slp r s=true then 1 else 0)))),qV (qOf (zcE r s)),qV (qOf (zcF r s)),V.one (Leaf.val (.int .i64 0))]):=by
 refine bd_ Tryz.func111 Tryz.ntmps111 rfl (fun w0 A0=>?_);haveI ixn:Bn (val x.n) 10000000000:=Bn.val x.hn hfx.n;haveI ixd:Bn (val x.d) 10000000000:=Bn.val x.hd hfx.d;haveI iyn:Bn (val y.n) 10000000000:=Bn.val y.hn hfy.n;haveI iyd:Bn (val y.d) 10000000000:=Bn.val y.hd hfy.d;haveI ir:Br r 10000000000:=hr ▸ Br.q hfx;haveI is:Br s 10000000000:=hs ▸ Br.q hfy;have hne:s-r≠0:=by grind
 refine zc 15 rfl (tc_ zuV rfl (znZ x r hr (hfx.mono (by omega)) y s hs (hfy.mono (by omega))) (is_ true rfl (zjx ⟨h1,h2⟩) (zl 7 rfl (dr_ 0 [(12,2),(13,3)] [2,3] (dz 2 rfl (kc_ zDg rfl (zqU x r hr (hfx.mono (by omega)) y s hs (hfy.mono (by omega))) (dz 3 rfl (kc_ zu0 rfl (zEj y (s) hs (hfy.mono (by omega)) x (r) hr (hfx.mono (by omega))) ?_))))))));refine kc_ zC0 rfl (zwp y (s) hs (hfy.mono (by omega)) (qOf ((s)-(r))) ((s)-(r)) (zaj _) (Br.use (by omega)) (by assumption)) (dz 2 rfl (kc_ fn179 rfl (gap_p x r hr (hfx.mono (by omega)) y s hs (hfy.mono (by omega)) h1 h2) (dz 4 rfl (zae (za 1 rfl ?_)))));exact ztx hq_ rfl rfl (rA zmV rfl rfl rfl rfl) (rA zmV rfl rfl rfl rfl) rfl rfl
theorem znY(x:Qr)(r:Rat)(hr:x.q=r)(hfx:Fit 10000000000 x)(y:Qr)(s:Rat)(hs:y.q=s)(hfy:Fit 10000000000 y):Ctr Tryz.prog 191 [qV x,qV y] (R.one (V.one (Leaf.val (.bool ((decide (r<0)&&decide (0<s))))))):=by
 refine bd_ Tryz.func191 Tryz.ntmps191 rfl (fun w0 A0=>?_);refine zc 10 rfl (tc_ zg4 rfl (zbH x (r) hr (hfx.mono (by omega))) ?_);by_cases h1:r<0
 .refine tq_ rfl (ltT rfl (zkb.2 h1)) (zl 2 rfl (tc_ zg4 rfl (zbH y (s) hs (hfy.mono (by omega))) ?_));by_cases h2:0<s
  .refine tq_ rfl (gtT rfl (zd3.2 h2)) (zl 4 rfl ?_);exact r1_ hq_ rfl (by rw[decide_eq_true h1,decide_eq_true h2] <;> rfl)
  .refine tq_ rfl (gtF rfl (fun e=>h2 (zd3.1 e))) (zl 4 rfl ?_);exact r1_ hq_ rfl (by rw[decide_eq_false h2,Bool.and_false])
 .refine tq_ rfl (ltF rfl (fun e=>h1 (zkb.1 e))) (zl 8 rfl ?_);exact r1_ hq_ rfl (by rw[decide_eq_false h1] <;> rfl)
theorem zwo(x:Qr)(r:Rat)(hr:x.q=r)(hfx:Fit 1000000000000 x)(y:Qr)(s:Rat)(hs:y.q=s)(hfy:Fit 1000000000000 y)(hs0:s≠0):Ctr Tryz.prog 192 [qV x,qV y] (R.one (qV (qOf (r/s)))):=by
 refine bd_ Tryz.func192 Tryz.ntmps192 rfl (fun w0 A0=>?_);refine zc 11 rfl (tc_ zuZ rfl (zul x (r) hr (hfx.mono (by omega)) y (s) hs (hfy.mono (by omega)) (by assumption)) (zl 14 rfl ?_));exact r1_ hq_ rfl rfl
theorem zqT(x:Qr)(r:Rat)(hr:x.q=r)(hfx:Fit 10000000000 x)(y:Qr)(s:Rat)(hs:y.q=s)(hfy:Fit 10000000000 y):Ctr Tryz.prog 127 [qV x,qV y] (R.one (V.one (Leaf.val (.int .i64 ((if slp r s=true then 1 else 0)))))):=by
 refine bd_ Tryz.func127 Tryz.ntmps127 rfl (fun w0 A0=>?_);haveI ixn:Bn (val x.n) 10000000000:=Bn.val x.hn hfx.n;haveI ixd:Bn (val x.d) 10000000000:=Bn.val x.hd hfx.d;haveI iyn:Bn (val y.n) 10000000000:=Bn.val y.hn hfy.n;haveI iyd:Bn (val y.d) 10000000000:=Bn.val y.hd hfy.d;haveI ir:Br r 10000000000:=hr ▸ Br.q hfx;haveI is:Br s 10000000000:=hs ▸ Br.q hfy;refine zc 9 rfl ?_;by_cases hu:r<0/\0<s
 .refine zc 3 rfl (tc_ zuT rfl (znY x r hr (hfx.mono (by omega)) y s hs (hfy.mono (by omega))) (is_ true rfl (zjx hu) (zl 3 rfl (tc_ zzg rfl (zna x (r) hr (hfx.mono (by omega)) y (s) hs (hfy.mono (by omega))) (tc_ zg4 rfl (zbH (qOf ((r)+(s))) ((r)+(s)) (zaj _) (Br.use (by omega))) ?_)))));by_cases h3:-r<s
  .refine tq_ rfl (gtT rfl (zd3.2 (by grind))) (zl 9 rfl ?_);exact r1_ hq_ rfl (by rw[if_pos (zAV hu h3)])
  .refine tq_ rfl (gtF rfl (fun e=>h3 (by have:=zd3.1 e;grind))) (zl 11 rfl ?_);exact r1_ hq_ rfl (by rw[zAW h3] <;> rfl)
 .refine zc 3 rfl (tc_ zuT rfl (znY x r hr (hfx.mono (by omega)) y s hs (hfy.mono (by omega))) (is_ false rfl (zqG hu) (zl 17 rfl ?_)));exact r1_ hq_ rfl (by rw[zAU hu] <;> rfl)
theorem gap_r(x:Qr)(r:Rat)(hr:x.q=r)(hfx:Fit 10000000000 x)(y:Qr)(s:Rat)(hs:y.q=s)(hfy:Fit 10000000000 y)(h1:r<0)(h2:0<s):Ctr Tryz.prog 193 [qV x,qV y] (R.one (qV (qOf (zcF r s)))):=by
 refine bd_ Tryz.func193 Tryz.ntmps193 rfl (fun w0 A0=>?_);haveI ixn:Bn (val x.n) 10000000000:=Bn.val x.hn hfx.n;haveI ixd:Bn (val x.d) 10000000000:=Bn.val x.hd hfx.d;haveI iyn:Bn (val y.n) 10000000000:=Bn.val y.hn hfy.n;haveI iyd:Bn (val y.d) 10000000000:=Bn.val y.hd hfy.d;haveI ir:Br r 10000000000:=hr ▸ Br.q hfx;haveI is:Br s 10000000000:=hs ▸ Br.q hfy;have hne:s-r≠0:=by grind
 refine zc 12 rfl (tc_ zuT rfl (znY x r hr (hfx.mono (by omega)) y s hs (hfy.mono (by omega))) (is_ true rfl (zjx ⟨h1,h2⟩) (zl 7 rfl (dr_ 0 [(8,2)] [2] (dz 2 rfl (kc_ zwK rfl (zlM x (r) hr (hfx.mono (by omega)) y (s) hs (hfy.mono (by omega))) (kc_ zAx rfl (zpE (qOf ((r)*(s))) ((r)*(s)) (zaj _) (Br.use (by omega))) (dz 2 rfl ?_))))))));refine kc_ zzf rfl (zm9 y (s) hs (hfy.mono (by omega)) x (r) hr (hfx.mono (by omega))) (kc_ zCX rfl (zwo (qOf (-((r)*(s)))) (-((r)*(s))) (zaj _) (Br.use (by omega)) (qOf ((s)-(r))) ((s)-(r)) (zaj _) (Br.use (by omega)) (by assumption)) (dz 1 rfl (zae (za 1 rfl ?_))));exact r1_ hq_ rfl rfl
theorem zx2(x:Qr)(r:Rat)(hr:x.q=r)(hfx:Fit 10000000000 x)(y:Qr)(s:Rat)(hs:y.q=s)(hfy:Fit 10000000000 y)(h1:r<0)(h2:0<s):Ctr Tryz.prog 128 [qV x,qV y] (R.tup [V.one (Leaf.val (.int .i64 ((if slp r s=true then 1 else 0)))),qV (qOf (zcE r s)),qV (qOf (zcF r s)),V.one (Leaf.val (.int .i64 0))]):=by
 refine bd_ Tryz.func128 Tryz.ntmps128 rfl (fun w0 A0=>?_);haveI ixn:Bn (val x.n) 10000000000:=Bn.val x.hn hfx.n;haveI ixd:Bn (val x.d) 10000000000:=Bn.val x.hd hfx.d;haveI iyn:Bn (val y.n) 10000000000:=Bn.val y.hn hfy.n;haveI iyd:Bn (val y.d) 10000000000:=Bn.val y.hd hfy.d;haveI ir:Br r 10000000000:=hr ▸ Br.q hfx;haveI is:Br s 10000000000:=hs ▸ Br.q hfy;have hne:s-r≠0:=by grind
 refine zc 15 rfl (tc_ zuT rfl (znY x r hr (hfx.mono (by omega)) y s hs (hfy.mono (by omega))) (is_ true rfl (zjx ⟨h1,h2⟩) (zl 7 rfl (dr_ 0 [(12,2),(13,3)] [2,3] (dz 2 rfl (kc_ zDc rfl (zqT x r hr (hfx.mono (by omega)) y s hs (hfy.mono (by omega))) (dz 3 rfl (kc_ zzf rfl (zm9 y (s) hs (hfy.mono (by omega)) x (r) hr (hfx.mono (by omega))) ?_))))))));refine kc_ zCX rfl (zwo y (s) hs (hfy.mono (by omega)) (qOf ((s)-(r))) ((s)-(r)) (zaj _) (Br.use (by omega)) (by assumption)) (dz 2 rfl (kc_ fn193 rfl (gap_r x r hr (hfx.mono (by omega)) y s hs (hfy.mono (by omega)) h1 h2) (dz 4 rfl (zae (za 1 rfl ?_)))));exact ztx hq_ rfl rfl (rA zmV rfl rfl rfl rfl) (rA zmV rfl rfl rfl rfl) rfl rfl
theorem zu8(x:Rat){B:Nat}[Br x B](hB:B<=10000000000):Ctr Tryz.prog 105 [V.agg (qL (x))] (R.one (V.agg (qL (x)))):=by
 refine bd_ Tryz.func105 Tryz.ntmps105 rfl (fun w0 A0=>?_);refine zc 7 rfl (dr_ 0 [(9,1)] [1] (dz 4 rfl (kc_ zkA rfl (ziC (zaa (zaw x)) (zab _) (Br.use (r:=x) (by omega)).n (zaw x) (zac _)) (dz 2 rfl (kc_ zkA rfl (ziC (zaa (zaE x)) (zab _) (Br.use (r:=x) (by omega)).d (zaE x) (zac _)) (dz 2 rfl (zae (za 1 rfl ?_))))))));exact r1_ hq_ rfl rfl
theorem zDF(f:Af){B n:Nat}(hf:FL B n f)(hB:B<=10000000000)(hn:n<=400)(v:Nat)(hv:v<=1000000):Ctr Tryz.prog 51 [afV f,V.one (Leaf.val (.int .i64 ((v:Int))))] (R.one (V.agg (qL (co f.ts v)))):=by
 refine bd_ Tryz.func51 Tryz.ntmps51 rfl (fun w0 A0=>?_);haveI:=hf.fm (by omega);haveI:=hf.cb;have hfl:=(hf.fm (by omega)).len;refine zc 11 rfl (tq_ rfl (jln rfl) (zl 4 rfl (fr_ [0] rfl ?_)));refine zbv (fun m Γ H=>∃(i:Nat),f.ts.length-i=m/\Γ=[(1,some (D.val (.int .i64 (v:Int)))),(4,some (D.ptr 1 0)),(8,some (D.v (V.one (El.row tmE f.ts)))),(9,some (D.val (.int .i64 ((f.ts.length:Nat):Int)))),(10,some (D.val (.int .i64 (i:Int))))]/\H=[none,hb_ 36 [Leaf.val (.bool false),zaf ([]),zaf ([])]]/\i<=f.ts.length/\co (f.ts.drop i) v=co f.ts v) ⟨0,rfl,rfl,rfl,zEv _,rfl⟩ rfl ?_;rintro m Γ H ⟨i,rfl,rfl,rfl,hi0,hco⟩;refine zc 2 rfl ?_;by_cases hi:i<f.ts.length
 .refine tq_ rfl (ltT rfl) (zl 9 rfl ?_);obtain⟨x,hx⟩:∃x,f.ts[i]?=some x:=⟨_,zEp hi⟩;haveI hxb:=hf.bd x (zEq hx);refine zc 1 rfl (tq_ rfl (jix i hx rfl) (tq_ rfl (jlr rfl) (zl 9 rfl ?_)));by_cases hv_:x.1=v
  .refine tq_ rfl (eqT rfl) (zl 7 rfl (tc_ fn105 rfl (zu8 x.2 (by omega)) (zl 3 rfl ?_)));exact r1_ hq_ rfl (by rw[<-hco,zw0 hx hv_] <;> rfl)
  .refine tq_ rfl (eqF rfl) (zl 7 rfl (tq_ rfl (jad (i+1) rfl) (zl 2 rfl (zal 2 (zaM 2 rfl ?_)))));exact nx_ ⟨i+1,rfl,rfl,rfl,hi,(by rw[zsH hx hv_];exact hco)⟩ rfl
 .refine tq_ rfl (ltF rfl) (zl 15 rfl ?_);exact r1_ hq_ rfl (by rw[<-hco,zw1 (by omega)];show _=R.one (qV (qOf 0));rw[<-zc8] <;> rfl)
theorem zwZ(f:Af){B n:Nat}(hf:FL B n f)(hB:B<=10000000000)(hn:n<=400)(v:Nat)(hv:v<=1000000):Ctr Tryz.prog 124 [afV f,V.one (Leaf.val (.int .i64 ((v:Int))))] (R.one (V.agg (qL (co f.ts v)))):=by
 refine bd_ Tryz.func124 Tryz.ntmps124 rfl (fun w0 A0=>?_);haveI:=hf.fm (by omega);haveI:=hf.cb;have hfl:=(hf.fm (by omega)).len;refine zc 13 rfl ?_;refine zbv (fun m Γ H=>∃(i:Nat),f.ts.length-i=m/\Γ=[(1,some (D.val (.int .i64 (v:Int)))),(2,some (D.ptr 0 0)),(4,some (D.ptr 1 0)),(5,some (D.val (.int .i64 (i:Int))))]/\H=[hb_ 38 (afL f),hb_ 36 [Leaf.val (.bool false),zaf ([]),zaf ([])]]/\i<=f.ts.length/\co (f.ts.drop i) v=co f.ts v) ⟨0,rfl,rfl,rfl,zEv _,rfl⟩ rfl ?_;rintro m Γ H ⟨i,rfl,rfl,rfl,hi0,hco⟩;refine zc 6 rfl (tq_ rfl (jln rfl) ?_);by_cases hi:i<f.ts.length
 .refine tq_ rfl (ltT rfl) (zl 8 rfl ?_);obtain⟨x,hx⟩:∃x,f.ts[i]?=some x:=⟨_,zEp hi⟩;haveI hxb:=hf.bd x (zEq hx);refine zc 4 rfl (tq_ rfl (jix i hx rfl) (tq_ rfl (jfr rfl) (tq_ rfl (jli rfl) (zl 1 rfl ?_))));by_cases hv_:x.1=v
  .refine tq_ rfl (eqT rfl) (zl 8 rfl (tq_ rfl (jix i hx rfl) (tq_ rfl (jfr rfl) (tq_ rfl (jlr rfl) (zl 3 rfl ?_)))));exact r1_ hq_ rfl (by rw[<-hco,zw0 hx hv_] <;> rfl)
  .refine tq_ rfl (eqF rfl) (zl 8 rfl (tq_ rfl (jad (i+1) rfl) (zl 2 rfl ?_)));exact nx_ ⟨i+1,rfl,rfl,rfl,hi,(by rw[zsH hx hv_];exact hco)⟩ rfl
 .refine tq_ rfl (ltF rfl) (zl 14 rfl ?_);exact r1_ hq_ rfl (by rw[<-hco,zw1 (by omega)];show _=R.one (qV (qOf 0));rw[<-zc8] <;> rfl)
theorem add_p(f g:Af){B C n:Nat}(hf:FL B n f)(hg:FL C n g)(h1:B<=10000000000)(h2:C<=10000000000)(hn:n<=400):Ctr Tryz.prog 112 [afV f,afV g] (R.one (afV (zfz f g))):=by
 refine bd_ Tryz.func112 Tryz.ntmps112 rfl (fun w0 A0=>?_);haveI:Br ((1:Int):Rat) 2:=Br.int2 (by decide) (by decide);refine zc 8 rfl (dr_ 0 [(4,2)] [2] (dz 2 rfl (kc_ zCG rfl (zgf 1 (by decide) (by decide)) (kc_ zzl rfl (znj f g ((1:Int):Rat) hf hg (by omega) (by omega) (by omega) (by omega)) (dz 1 rfl (zae (za 1 rfl ?_)))))));exact r1_ hq_ rfl (by show R.one (afV ⟨mrg _ f.ts g.ts,f.c+g.c*1⟩)=R.one (afV ⟨zgQ f.ts g.ts,f.c+g.c⟩);rw[Rat.mul_one,zrU hf.can hg.can,zAX hg.can])
theorem zxq(f g:Af){B C n:Nat}(hf:FL B n f)(hg:FL C n g)(h1:B<=10000000000)(h2:C<=10000000000)(hn:n<=400)(v:Nat)(hv:v<=1000000):Ctr Tryz.prog 54 [afV f,V.one (Leaf.val (.int .i64 ((v:Int)))),afV g] (R.one (afV (zqR f v g))):=by
 refine bd_ Tryz.func54 Tryz.ntmps54 rfl (fun w0 A0=>?_);haveI:=hf.fm (by omega);haveI:=hf.cb;haveI:=hg.fm (by omega);haveI:=hg.cb;have hfl:=(hf.fm (by omega)).len;haveI hcb:Br (co f.ts v) B:=zqb hf.bd v;have hr:=zwi (v:=v) hf;have hsg:=FL.sc (c:=co f.ts v) hg;haveI:=hsg.fm (by omega);haveI:=hsg.cb;refine zc 11 rfl (tq_ rfl (zeD rfl zAr rfl zEk rfl) (te_ rfl (zdZ (n:=3) rfl zAr rfl) (zl 4 rfl (zcX 3 103 4 (ls':=[Leaf.own 4 0,Leaf.val (.bool (zaQ f.c)),zaf (zaa (zaw f.c)),zaf (zaa (zaE f.c))]) rfl rfl rfl ⟨.inr ⟨rfl,rfl⟩,.inl rfl,.inl rfl,.inl rfl,trivial⟩ (zc 2 rfl (eq_ (D.agg (qL 0)) rfl (zBe) (zl 9 rfl (tq_ rfl (jln rfl) (zl 4 rfl ?_)))))))));refine fr_ [0] rfl ?_;refine zbv (fun m Γ H=>∃(i:Nat) (n_:Nat) (out:List Tm),f.ts.length-i=m/\Γ=[(1,some (D.val (.int .i64 (v:Int)))),(5,some (D.ptr 1 0)),(6,some (D.ptr 2 0)),(7,some (D.ptr 3 0)),(8,some (D.ptr 5 0)),(16,some (D.v (V.one (El.row tmE f.ts)))),(17,some (D.val (.int .i64 ((f.ts.length:Nat):Int)))),(18,some (D.val (.int .i64 (i:Int))))]/\H=[none,hb_ 38 (afL g),hb_ 38 [El.row tmE ([]),Leaf.val (.bool false),zaf ([]),zaf ([])],hb_ 38 [Leaf.own 4 n_,Leaf.val (.bool (zaQ f.c)),zaf (zaa (zaw f.c)),zaf (zaa (zaE f.c))],hgr 103 4 tmE out n_,hb_ 36 (qL (co (f.ts.take i) v))]/\i<=f.ts.length/\out=zik (f.ts.take i) v) ⟨0,0,[],rfl,rfl,rfl,zEv _,rfl⟩ rfl ?_;rintro m Γ H ⟨i,n_,out,rfl,rfl,rfl,hi0,hout⟩;refine zc 2 rfl ?_;by_cases hi:i<f.ts.length
 .refine tq_ rfl (ltT rfl) (zl 9 rfl ?_);obtain⟨x,hx⟩:∃x,f.ts[i]?=some x:=⟨_,zEp hi⟩;haveI hxb:=hf.bd x (zEq hx);have hol:out.length<=400:=by rw[hout];refine zEz (zxG _ _) ?_;rw[zEG];omega
  refine zc 1 rfl (tq_ rfl (jix i hx rfl) (tq_ rfl (jlr rfl) (zl 9 rfl ?_)));by_cases hv_:x.1=v
  .refine tq_ rfl (eqT rfl) (zl 11 rfl (tq_ rfl (jad (i+1) rfl) (zl 2 rfl (zal 6 (zaM 6 rfl ?_)))));exact nx_ ⟨i+1,n_,out,rfl,rfl,(by rw[zvc hf.can hx hv_];rfl),hi,(by rw[hout,zri hx hv_])⟩ rfl
  .refine tq_ rfl (eqF rfl) (zl 7 rfl (te_ rfl (zad rfl zln zfI zlq rfl (by decide) (by decide) rfl (by decide) rfl) (te_ rfl (jap x rfl rfl) (zl 6 rfl (tq_ rfl (jad (i+1) rfl) (zl 2 rfl (zal 6 (zaM 6 rfl ?_))))))));exact nx_ ⟨i+1,(n_+1),(out++[x]),rfl,rfl,(by rw[zvb hx hv_];rfl),hi,(by rw[hout,zrh hx hv_])⟩ rfl
 .refine tq_ rfl (ltF rfl) (zl 10 rfl ?_);have hie:i=f.ts.length:=by omega
  rw[hie,zEM] at hout;subst hout;rw[hie,zEM];refine zc 1 rfl (tq_ rfl (jvl 0 rfl rfl) (zl 2 rfl (tc_ zzl rfl (znj ⟨zik f.ts v,f.c⟩ g (co f.ts v) hr hg (by omega) (by omega) (by omega) (by omega)) (zl 3 rfl ?_))));exact r1_ hq_ rfl (by show R.one (afV ⟨mrg _ (zik f.ts v) g.ts,_⟩)=R.one (afV ⟨zgQ (zik f.ts v) (scT g.ts (co f.ts v)),f.c+g.c*co f.ts v⟩);rw[zrU hr.can hg.can])
theorem zer(f g:Af){B C n:Nat}(hf:FL B n f)(hg:FL C n g)(h1:B<=10000000000)(h2:C<=10000000000)(hn:n<=400)(v:Nat)(hv:v<=1000000):Ctr Tryz.prog 130 [afV f,V.one (Leaf.val (.int .i64 ((v:Int)))),afV g] (R.one (afV (zqR f v g))):=by
 refine bd_ Tryz.func130 Tryz.ntmps130 rfl (fun w0 A0=>?_);haveI:=hf.fm (by omega);haveI:=hf.cb;haveI:=hg.fm (by omega);haveI:=hg.cb;have hfl:=(hf.fm (by omega)).len;haveI hcb:Br (co f.ts v) B:=zqb hf.bd v;have hr:=zwi (v:=v) hf;have hsg:=FL.sc (c:=co f.ts v) hg;haveI:=hsg.fm (by omega);haveI:=hsg.cb;haveI:Fm (zik f.ts v) B n:=hr.fm (by omega);haveI:Br (-(co f.ts v)) B:=hcb.neg;refine zc 11 rfl (tc_ zDf rfl (zwZ f hf (by omega) (by omega) v (by omega)) (zl 5 rfl (dr_ 0 [(9,2)] [2] (dz 3 rfl (kc_ zAx rfl (zpE (qOf ((co f.ts v))) ((co f.ts v)) (zaj _) (Br.use (by omega))) (kc_ zDa rfl (zA7 f v (-(co f.ts v)) (B:=B) (C:=B) hf.can hf.bd (by omega) (by omega) (by omega)) (zjf (D.agg (afL ⟨zik f.ts v,f.c⟩)) rfl (by rw[<-zzV hf.can]) ?_)))))));refine dz 2 rfl (kc_ zpY rfl (zb9 g (co f.ts v) (by omega) (by omega)) (kc_ zCH rfl (zit ⟨(zik f.ts v),f.c⟩ (fSc g (co f.ts v)) (by omega) (by omega) (by omega)) (dz 1 rfl (zae (za 1 rfl ?_)))));exact r1_ hq_ rfl rfl
theorem zwg(s:Sc)(hs:SB 135001 s)(k:Nat)(j:Int):Ctr Tryz.prog 108 [scV s,V.one (Leaf.val (.int .i64 ((k:Int)))),V.one (Leaf.val (.int .i64 (j)))] (R.one (V.one (Leaf.val (.bool (zeM s.path k j))))):=by
 refine bd_ Tryz.func108 Tryz.ntmps108 rfl (fun w0 A0=>?_);have hB:=hs.B;have hq:=hs.q;have hd:=hs.d;have hpl:=hs.pl;have hl:=hs.ll;have hg:=hq.g;have hr:=hq.r;have hlo:=hr.lo;have hhi:=hr.hi;have h1:=hg.i1;have h2:=hg.i3;have h3:=hg.u4;have h4:=hg.o1;have h5:=hg.o3;refine zc 11 rfl (tq_ rfl (jln rfl) (zl 4 rfl ?_));refine zbv (fun m Γ H=>∃(i:Nat),s.path.length-i=m/\Γ=[(1,some (D.val (.int .i64 (k:Int)))),(2,some (D.val (.int .i64 j))),(3,some (D.ptr 0 0)),(10,some (D.v (V.one (El.row dcE s.path)))),(11,some (D.val (.int .i64 ((s.path.length:Nat):Int)))),(12,some (D.val (.int .i64 (i:Int))))]/\H=[hb_ 43 (scL s)]/\i<=s.path.length/\zu7 s.path k j i=false) ⟨0,rfl,rfl,rfl,zEv _,rfl⟩ rfl ?_;rintro m Γ H ⟨i,rfl,rfl,rfl,hi0,hno⟩;refine zc 2 rfl ?_;by_cases hi:i<s.path.length
 .refine tq_ rfl (ltT rfl) (zl 9 rfl ?_);obtain⟨x,hx⟩:∃x,s.path[i]?=some x:=⟨_,zEp hi⟩;have hxd:=hd x (zEq hx);refine zc 1 rfl (tq_ rfl (jix i hx rfl) (tq_ rfl (jlr rfl) (zl 11 rfl ?_)));refine zdM rfl (fun hk1=>?_) (fun hk1=>?_)
  .refine zl 18 rfl (tq_ rfl (jad (i+1) rfl) (zl 2 rfl (zal 1 (zaM 1 rfl ?_))));exact nx_ ⟨i+1,rfl,rfl,rfl,hi,by rw[zc2 hx,hno,hk1];rfl⟩ rfl
  .refine zl 6 rfl ?_;refine zdM rfl (fun hk2=>?_) (fun hk2=>?_)
   .refine zl 12 rfl (tq_ rfl (jad (i+1) rfl) (zl 2 rfl (zal 1 (zaM 1 rfl ?_))));exact nx_ ⟨i+1,rfl,rfl,rfl,hi,by rw[zc2 hx,hno,hk1,hk2];rfl⟩ rfl
   .refine zl 3 rfl (tc_ zC1 rfl (zwO s.q hq x hxd (by omega)) (zl 9 rfl ?_));exact r1_ hq_ rfl (by rw[zoU hx hk1 hk2])
 .refine tq_ rfl (ltF rfl) (zl 14 rfl ?_);exact r1_ hq_ rfl (by rw[<-zh1,<-show i=s.path.length by omega,hno])
set_option maxHeartbeats 2000000 in
theorem rpl_p(s:Sc)(hs:SB 135001 s)(j:Nat)(p:Af)(hp:s.q.g.us[j]?=some p)(c:Rat){C:Nat}[Br c C](hC:C<=1000000000):Ctr Tryz.prog 53 [scV s,V.one (Leaf.val (.int .i64 ((j:Int)))),V.agg (qL (c))] (R.tup [V.agg (rpL (zgb s j p c).1),V.one (Leaf.val (.bool (zgb s j p c).2))]):=by
 refine bd_ Tryz.func53 Tryz.ntmps53 rfl (fun w0 A0=>?_);have hB:=hs.B;have hq:=hs.q;have hd:=hs.d;have hpl:=hs.pl;have hl:=hs.ll;have hg:=hq.g;have hr:=hq.r;have hlo:=hr.lo;have hhi:=hr.hi;have h1:=hg.i1;have h2:=hg.i3;have h3:=hg.u4;have h4:=hg.o1;have h5:=hg.o3;have hj:=(zEr.1 hp).1;have hpf:FL 4 (s.q.g.inp+s.q.g.us.length) p:=((hq.g.us j p hp).fl).mono (by omega) (by omega);haveI:=hpf.fm (by omega);haveI:=hpf.cb;haveI:=zwy hB (bLo s j);haveI:=zwy hB (bHi s j);refine zc 15 rfl (tq_ rfl (jix j hp rfl) (tq_ rfl (jlr rfl) (zl 5 rfl ?_)));refine nz_ [so 1 (D.val (.int .i64 (j:Int))),so 3 (D.ptr 0 0),so 5 (D.ptr 1 0),so 6 (D.ptr 2 0),so 8 (D.ptr 3 0)] [hb_ 43 (scL s),hb_ 36 (qL c),hb_ 118 [El.row tmE ([]),Leaf.val (.bool false),zaf ([]),zaf ([]),Leaf.val (.int .i64 0),Leaf.val (.int .i64 0),Leaf.val (.int .i64 0),Leaf.val (.int .i64 0),Leaf.val (.bool false),zaf ([]),zaf ([])],hb_ 38 (afL p)] rfl rfl ?_;refine zc 3 rfl (tc_ zCF rfl (zmH s (by assumption) (by omega) (by omega) (j:Int)) (zl 8 rfl (nz_ [so 1 _,so 3 _,so 5 _,so 6 _,so 8 _,so 9 (D.val (.int .i64 (((zak s.lems (j:Int)).1:Nat):Int))),so 10 (D.val (.int .i64 (((zak s.lems (j:Int)).2:Nat):Int)))] [_,_,_,_] rfl rfl (zc 5 rfl ?_))));refine mt_ [so 1 (D.val (.int .i64 (j:Int))),so 3 (D.ptr 0 0),so 5 (D.ptr 1 0),so 6 (D.ptr 2 0),so 8 (D.ptr 3 0),so 9 (D.val (.int .i64 (((zak s.lems (j:Int)).1:Nat):Int))),so 10 (D.val (.int .i64 (((zak s.lems (j:Int)).2:Nat):Int))),so 11 (D.ptr 4 0),so 12 (D.ptr 5 0)] [hb_ 43 (scL s),hb_ 36 (qL c),hb_ 118 [El.row tmE ([]),Leaf.val (.bool false),zaf ([]),zaf ([]),Leaf.val (.int .i64 0),Leaf.val (.int .i64 0),Leaf.val (.int .i64 0),Leaf.val (.int .i64 0),Leaf.val (.bool false),zaf ([]),zaf ([])],hb_ 38 (afL p),hb_ 36 [Leaf.val (.bool (lvz s.lems (zak s.lems (j:Int)).1).neg),zaf (lvz s.lems (zak s.lems (j:Int)).1).n,zaf (lvz s.lems (zak s.lems (j:Int)).1).d],hb_ 36 [Leaf.val (.bool false),zaf ([]),zaf ([])]] ?_ ?_
 .refine zc 3 rfl ?_;by_cases h1:(zak s.lems (j:Int)).1≠0
  .refine tq_ rfl (gtT rfl) (zl 3 rfl ?_);obtain⟨y,hy,_,_,hly,hy0,hyl⟩:=zbj h1;haveI:=hB y (zEq hy);refine zc 4 rfl (tq_ rfl (jsb (((zak s.lems (j:Int)).1)-1) rfl) (tq_ rfl (jix ((zak s.lems (j:Int)).1-1) hy rfl) (tq_ rfl (jft rfl) (tq_ rfl (jlr rfl) ?_))));refine eq_ (D.agg [Leaf.val (.bool (lvz s.lems (zak s.lems (j:Int)).1).neg),zaf (lvz s.lems (zak s.lems (j:Int)).1).n,zaf (lvz s.lems (zak s.lems (j:Int)).1).d]) rfl (by rw[zrZ h1 hy];rfl) (zl 2 rfl ?_);exact mx_ rfl
  .refine tq_ rfl (gtF rfl) (zl 4 rfl ?_);exact At_heq (by rw[zBI (by omega)];first|done|rfl) (zeG ⟨rfl,rfl,rfl,rfl,rfl,rfl,rfl,rfl,rfl,trivial⟩)
 .refine mt_ [so 1 (D.val (.int .i64 (j:Int))),so 3 (D.ptr 0 0),so 5 (D.ptr 1 0),so 6 (D.ptr 2 0),so 8 (D.ptr 3 0),so 9 (D.val (.int .i64 (((zak s.lems (j:Int)).1:Nat):Int))),so 10 (D.val (.int .i64 (((zak s.lems (j:Int)).2:Nat):Int))),so 11 (D.ptr 4 0),so 12 (D.ptr 5 0)] [hb_ 43 (scL s),hb_ 36 (qL c),hb_ 118 [El.row tmE ([]),Leaf.val (.bool false),zaf ([]),zaf ([]),Leaf.val (.int .i64 0),Leaf.val (.int .i64 0),Leaf.val (.int .i64 0),Leaf.val (.int .i64 0),Leaf.val (.bool false),zaf ([]),zaf ([])],hb_ 38 (afL p),hb_ 36 [Leaf.val (.bool (lvz s.lems (zak s.lems (j:Int)).1).neg),zaf (lvz s.lems (zak s.lems (j:Int)).1).n,zaf (lvz s.lems (zak s.lems (j:Int)).1).d],hb_ 36 [Leaf.val (.bool (lvz s.lems (zak s.lems (j:Int)).2).neg),zaf (lvz s.lems (zak s.lems (j:Int)).2).n,zaf (lvz s.lems (zak s.lems (j:Int)).2).d]] ?_ ?_
  .refine zc 3 rfl ?_;by_cases h1:(zak s.lems (j:Int)).2≠0
   .refine tq_ rfl (gtT rfl) (zl 3 rfl ?_);obtain⟨z,hz,_,_,hlz,hz0,hzl⟩:=zbu h1;haveI:=hB z (zEq hz);refine zc 4 rfl (tq_ rfl (jsb (((zak s.lems (j:Int)).2)-1) rfl) (tq_ rfl (jix ((zak s.lems (j:Int)).2-1) hz rfl) (tq_ rfl (jft rfl) (tq_ rfl (jlr rfl) ?_))));refine eq_ (D.agg [Leaf.val (.bool (lvz s.lems (zak s.lems (j:Int)).2).neg),zaf (lvz s.lems (zak s.lems (j:Int)).2).n,zaf (lvz s.lems (zak s.lems (j:Int)).2).d]) rfl (by rw[zrZ h1 hz];rfl) (zl 2 rfl ?_);exact mx_ rfl
   .refine tq_ rfl (gtF rfl) (zl 4 rfl ?_);exact At_heq (by rw[zBI (n:=(zak s.lems (j:Int)).2) (by omega)];first|done|rfl) (zeG ⟨rfl,rfl,rfl,rfl,rfl,rfl,rfl,rfl,rfl,trivial⟩)
  .refine zc 1 rfl (dr_ 0 [] [] (dz 2 rfl (kc_ zDi rfl (zwg s (by assumption) 1 (j:Int)) (dz 2 rfl (kc_ zDi rfl (zwg s (by assumption) 2 (j:Int)) (dz 2 rfl (zae (za 2 rfl ?_))))))));refine nf_ [0] [so 1 _,so 5 _,so 6 _,so 8 _,so 9 _,so 10 _,so 11 (D.ptr 4 0),so 12 (D.ptr 5 0),so 13 (D.bool (zeM s.path 1 (j:Int))),so 14 (D.bool (zeM s.path 2 (j:Int)))] [none,_,_,_,hb_ 36 [Leaf.val (.bool (lvz s.lems (zak s.lems (j:Int)).1).neg),zaf (lvz s.lems (zak s.lems (j:Int)).1).n,zaf (lvz s.lems (zak s.lems (j:Int)).1).d],hb_ 36 [Leaf.val (.bool (lvz s.lems (zak s.lems (j:Int)).2).neg),zaf (lvz s.lems (zak s.lems (j:Int)).2).n,zaf (lvz s.lems (zak s.lems (j:Int)).2).d]] rfl rfl rfl ?_;refine zc 2 rfl (tc_ zjp rfl (zd5 (qOf (c)) (c) (zaj _) (Br.use (by omega))) (tq_ rfl (zpm rfl rfl rfl (b:=(decide (0<c))) (decide_eq_decide.2 zd3)) (zl 4 rfl (dr_ 1 [(7,6),(8,6)] [6] (dz 4 rfl (kc_ zCE rfl (zBg (qOf (c)) (c) (zaj _) (Br.use (by omega))) ?_))))));refine kc_ zDh rfl (qmax (qOf (c)) (c) (zaj _) (Br.use (by omega)) (qOf (-(c))) (-(c)) (zaj _) (Br.use (by omega))) (dz 3 rfl (zae (za 3 rfl ?_)));refine mt_ [so 1 (D.val (.int .i64 (j:Int))),so 6 (D.ptr 2 0),so 8 (D.ptr 3 0),so 9 (D.val (.int .i64 (((zak s.lems (j:Int)).1:Nat):Int))),so 10 (D.val (.int .i64 (((zak s.lems (j:Int)).2:Nat):Int))),so 11 (D.ptr 4 0),so 12 (D.ptr 5 0),so 13 (D.bool (zeM s.path 1 (j:Int))),so 14 (D.bool (zeM s.path 2 (j:Int))),so 15 (D.bool (decide (0<c))),so 16 (D.ptr 6 0),so 98 (D.bool (zdH s j))] [none,none,hb_ 118 [El.row tmE ([]),Leaf.val (.bool false),zaf ([]),zaf ([]),Leaf.val (.int .i64 0),Leaf.val (.int .i64 0),Leaf.val (.int .i64 0),Leaf.val (.int .i64 0),Leaf.val (.bool false),zaf ([]),zaf ([])],hb_ 38 (afL p),hb_ 36 [Leaf.val (.bool (lvz s.lems (zak s.lems (j:Int)).1).neg),zaf (lvz s.lems (zak s.lems (j:Int)).1).n,zaf (lvz s.lems (zak s.lems (j:Int)).1).d],hb_ 36 [Leaf.val (.bool (lvz s.lems (zak s.lems (j:Int)).2).neg),zaf (lvz s.lems (zak s.lems (j:Int)).2).n,zaf (lvz s.lems (zak s.lems (j:Int)).2).d],hb_ 118 [El.row tmE ([]),Leaf.val (.bool false),zaf ([]),zaf ([]),Leaf.val (.int .i64 0),Leaf.val (.int .i64 (j:Int)),Leaf.val (.int .i64 0),Leaf.val (.int .i64 0),Leaf.val (.bool (zaQ (mx (c) (-(c))))),zaf (zaa (zaw (mx (c) (-(c))))),zaf (zaa (zaE (mx (c) (-(c)))))]] ?_ ?_
   .refine nf_ [1] [so 1 _,so 6 _,so 8 _,so 9 _,so 10 _,so 11 _,so 12 _,so 13 _,so 14 _,so 15 (D.bool (decide (0<c))),so 16 (D.ptr 6 0)] [none,none,_,_,_,_,hb_ 118 [El.row tmE ([]),Leaf.val (.bool false),zaf ([]),zaf ([]),Leaf.val (.int .i64 0),Leaf.val (.int .i64 (j:Int)),Leaf.val (.int .i64 0),Leaf.val (.int .i64 0),Leaf.val (.bool (zaQ (mx (c) (-(c))))),zaf (zaa (zaw (mx (c) (-(c))))),zaf (zaa (zaE (mx (c) (-(c)))))]] rfl rfl rfl ?_;refine zc 3 rfl ?_;refine zdM rfl (fun hf1=>?_) (fun hf1=>?_)
    .refine zl 1 rfl ?_;by_cases h1:(zak s.lems (j:Int)).1≠0
     .refine tq_ rfl (gtT rfl) (zl 2 rfl (tc_ zjp rfl (zd5 (lvz s.lems (zak s.lems (j:Int)).1) ((lvz s.lems (zak s.lems (j:Int)).1).q) rfl (Fq.use (x:=(lvz s.lems (zak s.lems (j:Int)).1)) (by omega))) ?_));by_cases h2:0<=lv s.lems (zak s.lems (j:Int)).1
      .refine tq_ rfl (geT rfl (by rw[zhA h1];exact zii.2 h2)) (zl 3 rfl (is_ (zdH s j) rfl (by simp[zdH,hf1,h1,h2]) (zl 1 rfl ?_)));exact mx_ rfl
      .refine tq_ rfl (geF rfl (by rw[zhA h1];exact fun e=>h2 (zii.1 e))) (zl 3 rfl (is_ (zdH s j) rfl (by simp[zdH,hf1,h1,h2]) (zl 1 rfl ?_)));exact mx_ rfl
     .refine tq_ rfl (gtF rfl) (zl 7 rfl (is_ (zdH s j) rfl (by simp[zdH,hf1,h1]) (zl 1 rfl ?_)));exact mx_ rfl
    .refine zl 9 rfl (is_ (zdH s j) rfl (by simp[zdH,hf1]) (zl 1 rfl ?_));exact mx_ rfl
   .refine zao rfl (fun hon=>?_) (fun hon=>?_)
    .refine zc 16 rfl ?_;refine zao rfl (fun hps=>?_) (fun hps=>?_)
     .refine zc 1 rfl ?_;refine nf_ [3,4,5] [so 6 _,so 9 _,so 13 _,so 16 (D.ptr 6 0)] [none,none,_,none,none,none,hb_ 118 [El.row tmE p.ts,Leaf.val (.bool (zaQ p.c)),zaf (zaa (zaw p.c)),zaf (zaa (zaE p.c)),Leaf.val (.int .i64 6),Leaf.val (.int .i64 (j:Int)),Leaf.val (.int .i64 0),Leaf.val (.int .i64 0),Leaf.val (.bool (zaQ (mx (c) (-(c))))),zaf (zaa (zaw (mx (c) (-(c))))),zaf (zaa (zaE (mx (c) (-(c)))))]] rfl rfl rfl ?_;refine zc 12 rfl ?_;refine zao rfl (fun hd1=>?_) (fun hd1=>?_)
      .refine zc 9 rfl ?_;refine nz_ [so 6 _,so 16 _] [none,none,_,none,none,none,hb_ 118 [El.row tmE p.ts,Leaf.val (.bool (zaQ p.c)),zaf (zaa (zaw p.c)),zaf (zaa (zaE p.c)),Leaf.val (.int .i64 8),Leaf.val (.int .i64 (j:Int)),Leaf.val (.int .i64 (((zak s.lems (j:Int)).1:Nat):Int)),Leaf.val (.int .i64 0),Leaf.val (.bool (zaQ (mx (c) (-(c))))),zaf (zaa (zaw (mx (c) (-(c))))),zaf (zaa (zaE (mx (c) (-(c)))))]] rfl rfl ?_;refine zc 6 rfl ?_;exact r2_ hq_ rfl (by rw[zbI (zio hon),if_neg (by simpa using hps),zgY (by simpa using hd1)] <;> rfl)
      .refine zc 10 rfl ?_;exact r2_ hq_ rfl (by rw[zbI (zio hon),if_neg (by simpa using hps),zkp (by simpa using hd1)] <;> rfl)
     .refine zc 10 rfl ?_;exact r2_ hq_ rfl (by rw[zbI (zio hon),if_pos (by simpa using hps)] <;> rfl)
    .refine mt_ [so 1 (D.val (.int .i64 (j:Int))),so 6 (D.ptr 2 0),so 8 (D.ptr 3 0),so 9 (D.val (.int .i64 (((zak s.lems (j:Int)).1:Nat):Int))),so 10 (D.val (.int .i64 (((zak s.lems (j:Int)).2:Nat):Int))),so 11 (D.ptr 4 0),so 12 (D.ptr 5 0),so 14 (D.bool (zeM s.path 2 (j:Int))),so 15 (D.bool (decide (0<c))),so 16 (D.ptr 6 0),so 122 (D.bool (zby s j))] [none,none,hb_ 118 [El.row tmE ([]),Leaf.val (.bool false),zaf ([]),zaf ([]),Leaf.val (.int .i64 0),Leaf.val (.int .i64 0),Leaf.val (.int .i64 0),Leaf.val (.int .i64 0),Leaf.val (.bool false),zaf ([]),zaf ([])],hb_ 38 (afL p),hb_ 36 [Leaf.val (.bool (lvz s.lems (zak s.lems (j:Int)).1).neg),zaf (lvz s.lems (zak s.lems (j:Int)).1).n,zaf (lvz s.lems (zak s.lems (j:Int)).1).d],hb_ 36 [Leaf.val (.bool (lvz s.lems (zak s.lems (j:Int)).2).neg),zaf (lvz s.lems (zak s.lems (j:Int)).2).n,zaf (lvz s.lems (zak s.lems (j:Int)).2).d],hb_ 118 [El.row tmE ([]),Leaf.val (.bool false),zaf ([]),zaf ([]),Leaf.val (.int .i64 0),Leaf.val (.int .i64 (j:Int)),Leaf.val (.int .i64 0),Leaf.val (.int .i64 0),Leaf.val (.bool (zaQ (mx (c) (-(c))))),zaf (zaa (zaw (mx (c) (-(c))))),zaf (zaa (zaE (mx (c) (-(c)))))]] ?_ ?_
     .refine nz_ [so 1 _,so 6 _,so 8 _,so 9 _,so 10 _,so 11 _,so 12 _,so 14 _,so 15 (D.bool (decide (0<c))),so 16 (D.ptr 6 0)] [none,none,_,_,_,_,hb_ 118 [El.row tmE ([]),Leaf.val (.bool false),zaf ([]),zaf ([]),Leaf.val (.int .i64 0),Leaf.val (.int .i64 (j:Int)),Leaf.val (.int .i64 0),Leaf.val (.int .i64 0),Leaf.val (.bool (zaQ (mx (c) (-(c))))),zaf (zaa (zaw (mx (c) (-(c))))),zaf (zaa (zaE (mx (c) (-(c)))))]] rfl rfl ?_;refine zc 3 rfl ?_;refine zdM rfl (fun hf1=>?_) (fun hf1=>?_)
      .refine zl 1 rfl ?_;by_cases h1:(zak s.lems (j:Int)).2≠0
       .refine tq_ rfl (gtT rfl) (zl 2 rfl (tc_ zjp rfl (zd5 (lvz s.lems (zak s.lems (j:Int)).2) ((lvz s.lems (zak s.lems (j:Int)).2).q) rfl (Fq.use (x:=(lvz s.lems (zak s.lems (j:Int)).2)) (by omega))) ?_));by_cases h2:lv s.lems (zak s.lems (j:Int)).2<=0
        .refine tq_ rfl (leT rfl (by rw[zhA h1];exact zih.2 h2)) (zl 3 rfl (is_ (zby s j) rfl (by simp[zby,hf1,h1,h2]) (zl 1 rfl ?_)));exact mx_ rfl
        .refine tq_ rfl (leF rfl (by rw[zhA h1];exact fun e=>h2 (zih.1 e))) (zl 3 rfl (is_ (zby s j) rfl (by simp[zby,hf1,h1,h2]) (zl 1 rfl ?_)));exact mx_ rfl
       .refine tq_ rfl (gtF rfl) (zl 7 rfl (is_ (zby s j) rfl (by simp[zby,hf1,h1]) (zl 1 rfl ?_)));exact mx_ rfl
      .refine zl 9 rfl (is_ (zby s j) rfl (by simp[zby,hf1]) (zl 1 rfl ?_));exact mx_ rfl
     .refine zao rfl (fun hoff=>?_) (fun hoff=>?_)
      .refine zc 13 rfl ?_;refine zao rfl (fun hps=>?_) (fun hps=>?_)
       .refine zc 8 rfl ?_;refine nf_ [3,4,5] [so 6 _,so 10 _,so 14 _,so 16 (D.ptr 6 0)] [none,none,_,none,none,none,hb_ 118 [El.row tmE ([]),Leaf.val (.bool false),zaf ([]),zaf ([]),Leaf.val (.int .i64 10),Leaf.val (.int .i64 (j:Int)),Leaf.val (.int .i64 0),Leaf.val (.int .i64 0),Leaf.val (.bool (zaQ (mx (c) (-(c))))),zaf (zaa (zaw (mx (c) (-(c))))),zaf (zaa (zaE (mx (c) (-(c)))))]] rfl rfl rfl ?_;refine zc 5 rfl ?_;refine zao rfl (fun hd1=>?_) (fun hd1=>?_)
        .refine zc 15 rfl ?_;exact r2_ hq_ rfl (by rw[zbI (zgc hon hoff),if_neg (by simpa using hps),zfj (by simpa using hd1)];exact Eq.trans (by rfl) (rp0 _ _))
        .refine zc 4 rfl (nz_ [so 6 _,so 16 _] [none,none,_,none,none,none,_] rfl rfl (zc 6 rfl ?_));exact r2_ hq_ rfl (by rw[zbI (zgc hon hoff),if_neg (by simpa using hps),zhQ (by simpa using hd1)];exact Eq.trans (by rfl) (rp0 _ _))
       .refine zc 10 rfl ?_;exact r2_ hq_ rfl (by rw[zbI (zgc hon hoff),if_pos (by simpa using hps)];exact Eq.trans (by rfl) (rp0 _ _))
      .refine zc 6 rfl ?_;refine zao rfl (fun hps=>?_) (fun hps=>?_)
       .refine zc 1 rfl ?_;have hps1:0<c:=by simpa using hps
        refine nz_ [so 6 _,so 8 _,so 9 _,so 10 _,so 11 _,so 12 _,so 16 (D.ptr 6 0)] [none,none,_,_,_,_,hb_ 118 [El.row tmE ([]),Leaf.val (.bool false),zaf ([]),zaf ([]),Leaf.val (.int .i64 0),Leaf.val (.int .i64 (j:Int)),Leaf.val (.int .i64 0),Leaf.val (.int .i64 0),Leaf.val (.bool (zaQ (mx (c) (-(c))))),zaf (zaa (zaw (mx (c) (-(c))))),zaf (zaa (zaE (mx (c) (-(c)))))]] rfl rfl ?_;refine zc 9 rfl ?_;by_cases h1:(zak s.lems (j:Int)).1≠0
        .refine tq_ rfl (gtT rfl) (zl 2 rfl ?_);by_cases h2:(zak s.lems (j:Int)).2≠0
         .refine tq_ rfl (gtT rfl) (zl 4 rfl ?_);refine tc_ zDg rfl (zqU (lvz s.lems (zak s.lems (j:Int)).1) (lvz s.lems (zak s.lems (j:Int)).1).q rfl (Fq.use (x:=(lvz s.lems (zak s.lems (j:Int)).1)) (by omega)) (lvz s.lems (zak s.lems (j:Int)).2) (lvz s.lems (zak s.lems (j:Int)).2).q rfl (Fq.use (x:=(lvz s.lems (zak s.lems (j:Int)).2)) (by omega))) ?_;by_cases h3:slp (lv s.lems (zak s.lems (j:Int)).1) (lv s.lems (zak s.lems (j:Int)).2)=true
          .refine tq_ rfl (eqT rfl (by rw[zhA h1,zhA h2,if_pos h3])) (zl 4 rfl ?_);refine nf_ [4,5] [so 6 _,so 8 _,so 16 _] [none,none,_,_,none,none,hb_ 118 [El.row tmE ([]),Leaf.val (.bool false),zaf ([]),zaf ([]),Leaf.val (.int .i64 5),Leaf.val (.int .i64 (j:Int)),Leaf.val (.int .i64 0),Leaf.val (.int .i64 0),Leaf.val (.bool (zaQ (mx (c) (-(c))))),zaf (zaa (zaw (mx (c) (-(c))))),zaf (zaa (zaE (mx (c) (-(c)))))]] rfl rfl rfl ?_;refine zc 17 rfl ?_;exact r2_ hq_ rfl (by rw[zbI (zrp hon hoff hps1 ⟨h1,h2,h3⟩)] <;> rfl)
          .refine tq_ rfl (eqF rfl (by rw[zhA h1,zhA h2,if_neg h3];decide)) (zl 8 rfl ?_);refine nf_ [3,4,5] [so 6 _,so 16 _] [none,none,_,none,none,none,hb_ 118 [El.row tmE ([]),Leaf.val (.bool false),zaf ([]),zaf ([]),Leaf.val (.int .i64 5),Leaf.val (.int .i64 (j:Int)),Leaf.val (.int .i64 0),Leaf.val (.int .i64 0),Leaf.val (.bool (zaQ (mx (c) (-(c))))),zaf (zaa (zaw (mx (c) (-(c))))),zaf (zaa (zaE (mx (c) (-(c)))))]] rfl rfl rfl ?_;refine zc 6 rfl ?_;exact r2_ hq_ rfl (by rw[zbI (zgV hon hoff hps1 (fun e=>h3 e.2.2))];exact Eq.trans (by rfl) (rp0 _ _))
         .refine tq_ rfl (gtF rfl) (zl 14 rfl ?_);refine nf_ [3,4,5] [so 6 _,so 16 _] [none,none,_,none,none,none,hb_ 118 [El.row tmE ([]),Leaf.val (.bool false),zaf ([]),zaf ([]),Leaf.val (.int .i64 5),Leaf.val (.int .i64 (j:Int)),Leaf.val (.int .i64 0),Leaf.val (.int .i64 0),Leaf.val (.bool (zaQ (mx (c) (-(c))))),zaf (zaa (zaw (mx (c) (-(c))))),zaf (zaa (zaE (mx (c) (-(c)))))]] rfl rfl rfl ?_;refine zc 6 rfl ?_;exact r2_ hq_ rfl (by rw[zbI (zgV hon hoff hps1 (fun e=>h2 e.2.1))];exact Eq.trans (by rfl) (rp0 _ _))
        .refine tq_ rfl (gtF rfl) (zl 17 rfl ?_);refine nf_ [3,4,5] [so 6 _,so 16 _] [none,none,_,none,none,none,hb_ 118 [El.row tmE ([]),Leaf.val (.bool false),zaf ([]),zaf ([]),Leaf.val (.int .i64 5),Leaf.val (.int .i64 (j:Int)),Leaf.val (.int .i64 0),Leaf.val (.int .i64 0),Leaf.val (.bool (zaQ (mx (c) (-(c))))),zaf (zaa (zaw (mx (c) (-(c))))),zaf (zaa (zaE (mx (c) (-(c)))))]] rfl rfl rfl ?_;refine zc 6 rfl ?_;exact r2_ hq_ rfl (by rw[zbI (zgV hon hoff hps1 (fun e=>h1 e.1))];exact Eq.trans (by rfl) (rp0 _ _))
       .refine zc 1 rfl ?_;have hps1:¬0<c:=by simpa using hps
        refine zc 2 rfl ?_;by_cases h1:(zak s.lems (j:Int)).1=0
        .refine tq_ rfl (eqT rfl) (zl 9 rfl (nf_ [3,4,5,6] [so 6 _] [none,none,_,none,none,none,none] rfl rfl rfl (zc 6 rfl ?_)));exact r2_ hq_ rfl (by rw[zin (zoi hon hoff hps1 (.inl h1))];show R.tup [_,_]=R.tup [V.agg (rpL (fZ,⟨0,0,0,0⟩,0)),_];rw[<-rpZ] <;> rfl)
        .refine tq_ rfl (eqF rfl) (zl 2 rfl ?_);by_cases h2:(zak s.lems (j:Int)).2=0
         .refine tq_ rfl (eqT rfl) (zl 6 rfl (nf_ [3,4,5,6] [so 6 _] [none,none,_,none,none,none,none] rfl rfl rfl (zc 6 rfl ?_)));exact r2_ hq_ rfl (by rw[zin (zoi hon hoff hps1 (.inr h2))];show R.tup [_,_]=R.tup [V.agg (rpL (fZ,⟨0,0,0,0⟩,0)),_];rw[<-rpZ] <;> rfl)
         .refine tq_ rfl (eqF rfl) (zl 6 rfl ?_);have hl0:(lvz s.lems (zak s.lems (j:Int)).1).q<0:=by rw[zhA h1];exact zBm hon h1
          have hu0:0<(lvz s.lems (zak s.lems (j:Int)).2).q:=by rw[zhA h2];exact zwu hoff h2
          obtain⟨ib1,ib2⟩:=zr2 (l:=(lvz s.lems (zak s.lems (j:Int)).1).q) (u:=(lvz s.lems (zak s.lems (j:Int)).2).q) (B:=135001) (by omega);haveI:=ib1;haveI:=ib2;have hne:(lvz s.lems (zak s.lems (j:Int)).2).q-(lvz s.lems (zak s.lems (j:Int)).1).q≠0:=by grind
          have hfs:=FL.sc (c:=zcE (lvz s.lems (zak s.lems (j:Int)).1).q (lvz s.lems (zak s.lems (j:Int)).2).q) hpf;have hfn:FL 100000000 (s.q.g.inp+s.q.g.us.length) (fN (zcF (lvz s.lems (zak s.lems (j:Int)).1).q (lvz s.lems (zak s.lems (j:Int)).2).q)):=FL.n ib2;refine zc 3 rfl ?_;refine tc_ fn111 rfl (zx3 (lvz s.lems (zak s.lems (j:Int)).1) (lvz s.lems (zak s.lems (j:Int)).1).q rfl (Fq.use (x:=(lvz s.lems (zak s.lems (j:Int)).1)) (by omega)) (lvz s.lems (zak s.lems (j:Int)).2) (lvz s.lems (zak s.lems (j:Int)).2).q rfl (Fq.use (x:=(lvz s.lems (zak s.lems (j:Int)).2)) (by omega)) hl0 hu0) ?_;refine zl 14 rfl ?_;refine nz_ [so 1 _,so 6 _,so 8 _,so 9 _,so 10 _,so 11 _,so 12 _,so 16 (D.ptr 6 0),so 18 (D.ptr 7 0),so 19 (D.ptr 8 0)] [none,none,_,_,_,_,hb_ 118 [El.row tmE ([]),Leaf.val (.bool false),zaf ([]),zaf ([]),Leaf.val (.int .i64 0),Leaf.val (.int .i64 (j:Int)),Leaf.val (.int .i64 0),Leaf.val (.int .i64 0),Leaf.val (.bool (zaQ (mx (c) (-(c))))),zaf (zaa (zaw (mx (c) (-(c))))),zaf (zaa (zaE (mx (c) (-(c)))))],hb_ 36 (qL (zcE (lvz s.lems (zak s.lems (j:Int)).1).q (lvz s.lems (zak s.lems (j:Int)).2).q)),hb_ 36 (qL (zcF (lvz s.lems (zak s.lems (j:Int)).1).q (lvz s.lems (zak s.lems (j:Int)).2).q))] rfl rfl ?_;refine dr_ 0 [(7,6)] [6] (dz 2 rfl (kc_ fn85 rfl (zq0 p (zcE (lvz s.lems (zak s.lems (j:Int)).1).q (lvz s.lems (zak s.lems (j:Int)).2).q) (by assumption) (by omega) (by omega) (by omega)) (dz 2 rfl ?_)));refine kc_ fn112 rfl (add_p (fSc p (zcE (lvz s.lems (zak s.lems (j:Int)).1).q (lvz s.lems (zak s.lems (j:Int)).2).q)) (fN (zcF (lvz s.lems (zak s.lems (j:Int)).1).q (lvz s.lems (zak s.lems (j:Int)).2).q)) hfs hfn (by omega) (by omega) (by omega)) (dz 2 rfl (zae (za 2 rfl ?_)));refine nf_ [3,7,8] [so 1 _,so 6 _,so 9 _,so 10 _,so 11 _,so 12 _,so 16 _] [none,none,_,none,_,_,hb_ 118 [El.row tmE ((zfz (fSc p (zcE (lvz s.lems (zak s.lems (j:Int)).1).q (lvz s.lems (zak s.lems (j:Int)).2).q)) (fN (zcF (lvz s.lems (zak s.lems (j:Int)).1).q (lvz s.lems (zak s.lems (j:Int)).2).q))).ts),Leaf.val (.bool (zaQ ((zfz (fSc p (zcE (lvz s.lems (zak s.lems (j:Int)).1).q (lvz s.lems (zak s.lems (j:Int)).2).q)) (fN (zcF (lvz s.lems (zak s.lems (j:Int)).1).q (lvz s.lems (zak s.lems (j:Int)).2).q))).c))),zaf (zaa (zaw ((zfz (fSc p (zcE (lvz s.lems (zak s.lems (j:Int)).1).q (lvz s.lems (zak s.lems (j:Int)).2).q)) (fN (zcF (lvz s.lems (zak s.lems (j:Int)).1).q (lvz s.lems (zak s.lems (j:Int)).2).q))).c))),zaf (zaa (zaE ((zfz (fSc p (zcE (lvz s.lems (zak s.lems (j:Int)).1).q (lvz s.lems (zak s.lems (j:Int)).2).q)) (fN (zcF (lvz s.lems (zak s.lems (j:Int)).1).q (lvz s.lems (zak s.lems (j:Int)).2).q))).c))),Leaf.val (.int .i64 0),Leaf.val (.int .i64 (j:Int)),Leaf.val (.int .i64 0),Leaf.val (.int .i64 0),Leaf.val (.bool (zaQ (mx (c) (-(c))))),zaf (zaa (zaw (mx (c) (-(c))))),zaf (zaa (zaE (mx (c) (-(c)))))],none,none] rfl rfl rfl ?_;refine zc 9 rfl (dr_ 0 [(10,6)] [6] (dz 1 rfl (kp_ [] rfl (zaI rfl rfl rfl (by decide) zmV (by decide) (zEw rfl) rfl) (dz 2 rfl ?_))));refine kc_ zu0 rfl (zEj (lvz s.lems (zak s.lems (j:Int)).2) ((lvz s.lems (zak s.lems (j:Int)).2).q) rfl (Fq.use (x:=(lvz s.lems (zak s.lems (j:Int)).2)) (by omega)) (lvz s.lems (zak s.lems (j:Int)).1) ((lvz s.lems (zak s.lems (j:Int)).1).q) rfl (Fq.use (x:=(lvz s.lems (zak s.lems (j:Int)).1)) (by omega))) ?_;refine kc_ zzm rfl (qdiv (qOf (mx (c) (-(c)))) (mx (c) (-(c))) (zaj _) (Br.use (by omega)) (qOf (((lvz s.lems (zak s.lems (j:Int)).2).q)-((lvz s.lems (zak s.lems (j:Int)).1).q))) (((lvz s.lems (zak s.lems (j:Int)).2).q)-((lvz s.lems (zak s.lems (j:Int)).1).q)) (zaj _) (Br.use (by omega)) (by assumption)) (dz 5 rfl (zae ?_));refine za 3 rfl ?_;refine nf_ [4,5] [so 6 _,so 16 _] [none,none,_,none,none,none,hb_ 118 [El.row tmE ((zfz (fSc p (zcE (lvz s.lems (zak s.lems (j:Int)).1).q (lvz s.lems (zak s.lems (j:Int)).2).q)) (fN (zcF (lvz s.lems (zak s.lems (j:Int)).1).q (lvz s.lems (zak s.lems (j:Int)).2).q))).ts),Leaf.val (.bool (zaQ ((zfz (fSc p (zcE (lvz s.lems (zak s.lems (j:Int)).1).q (lvz s.lems (zak s.lems (j:Int)).2).q)) (fN (zcF (lvz s.lems (zak s.lems (j:Int)).1).q (lvz s.lems (zak s.lems (j:Int)).2).q))).c))),zaf (zaa (zaw ((zfz (fSc p (zcE (lvz s.lems (zak s.lems (j:Int)).1).q (lvz s.lems (zak s.lems (j:Int)).2).q)) (fN (zcF (lvz s.lems (zak s.lems (j:Int)).1).q (lvz s.lems (zak s.lems (j:Int)).2).q))).c))),zaf (zaa (zaE ((zfz (fSc p (zcE (lvz s.lems (zak s.lems (j:Int)).1).q (lvz s.lems (zak s.lems (j:Int)).2).q)) (fN (zcF (lvz s.lems (zak s.lems (j:Int)).1).q (lvz s.lems (zak s.lems (j:Int)).2).q))).c))),Leaf.val (.int .i64 13),Leaf.val (.int .i64 (j:Int)),Leaf.val (.int .i64 (((zak s.lems (j:Int)).1:Nat):Int)),Leaf.val (.int .i64 (((zak s.lems (j:Int)).2:Nat):Int)),Leaf.val (.bool (zaQ ((mx (c) (-(c)))/(((lvz s.lems (zak s.lems (j:Int)).2).q)-((lvz s.lems (zak s.lems (j:Int)).1).q))))),zaf (zaa (zaw ((mx (c) (-(c)))/(((lvz s.lems (zak s.lems (j:Int)).2).q)-((lvz s.lems (zak s.lems (j:Int)).1).q))))),zaf (zaa (zaE ((mx (c) (-(c)))/(((lvz s.lems (zak s.lems (j:Int)).2).q)-((lvz s.lems (zak s.lems (j:Int)).1).q)))))],none,none] rfl rfl rfl ?_;refine zc 6 rfl ?_;exact r2_ hq_ rfl (by rw[zbI (zoh hon hoff hps1 h1 h2),<-zhA h1,<-zhA h2] <;> rfl)
set_option maxHeartbeats 2000000 in
theorem rpl_r(s:Sc)(hs:SB 135001 s)(j:Nat)(p:Af)(hp:s.q.g.us[j]?=some p)(f:Af){F:Nat}(hff:FL F (s.q.g.inp+s.q.g.us.length) f)(hF:F<=1000000000)(l:List Mu){K:Nat}(hMl:MB K l)(hK:K<=100000000000)(hll:l.length<=1000):Ctr Tryz.prog 57 [scV s,afV f,V.one (El.row muE l),V.one (Leaf.val (.int .i64 ((j:Int))))] (R.tup [afV (bkP s f l j).1,V.one (El.row muE (bkP s f l j).2.1),V.one (Leaf.val (.bool (bkP s f l j).2.2))]):=by
 refine bd_ Tryz.func57 Tryz.ntmps57 rfl (fun w0 A0=>?_);have hB:=hs.B;have hq:=hs.q;have hd:=hs.d;have hpl:=hs.pl;have hl:=hs.ll;have hg:=hq.g;have hr:=hq.r;have hlo:=hr.lo;have hhi:=hr.hi;have h1:=hg.i1;have h2:=hg.i3;have h3:=hg.u4;have h4:=hg.o1;have h5:=hg.o3;have hj:=(zEr.1 hp).1;have hpf:FL 4 (s.q.g.inp+s.q.g.us.length) p:=((hq.g.us j p hp).fl).mono (by omega) (by omega);haveI:=hpf.fm (by omega);haveI:=hpf.cb;haveI:=hff.fm (by omega);haveI:=hff.cb;haveI hcb:Br (co f.ts (s.q.g.inp+j)) F:=zqb hff.bd _;haveI:Br (zc6 (co f.ts (s.q.g.inp+j))) (F+1):=znH hcb;refine zc 16 rfl (tq_ rfl (jad (s.q.g.inp+j) rfl) (zl 4 rfl (nz_ [so 2 (D.v (V.one (El.row muE l))),so 3 (D.val (.int .i64 (j:Int))),so 4 (D.ptr 0 0),so 5 (D.ptr 1 0),so 8 (D.ptr 2 0),so 11 (D.val (.int .i64 ((s.q.g.inp+j:Nat):Int)))] [hb_ 43 (scL s),hb_ 38 (afL f),hb_ 38 [El.row tmE ([]),Leaf.val (.bool false),zaf ([]),zaf ([])]] rfl rfl (zc 6 rfl ?_))));refine tq_ rfl (jix j hp rfl) (tq_ rfl (jlr rfl) (zl 5 rfl (nz_ [so 2 _,so 3 _,so 4 _,so 5 _,so 8 _,so 11 _,so 12 (D.ptr 3 0)] [_,_,_,hb_ 38 (afL p)] rfl rfl (zc 3 rfl (tc_ zDf rfl (zwZ f hff (by omega) (by omega) (s.q.g.inp+j) (by omega)) (zl 7 rfl (tc_ zg4 rfl (zbH (qOf ((co f.ts (s.q.g.inp+j)))) ((co f.ts (s.q.g.inp+j))) (zaj _) (Br.use (by omega))) ?_)))))));refine zl 5 rfl (nz_ [so 2 _,so 3 _,so 4 _,so 5 _,so 8 _,so 11 _,so 12 _,so 13 (D.ptr 4 0),so 14 (D.val (.int .i64 (sg ((co f.ts (s.q.g.inp+j))))))] [_,_,_,_,hb_ 36 (qL (co f.ts (s.q.g.inp+j)))] rfl rfl (zc 2 rfl ?_));by_cases h0:(co f.ts (s.q.g.inp+j))=0
 .refine tq_ rfl (eqT rfl (by rw[h0];rfl)) (zl 12 rfl ?_);exact r3_ hq_ rfl (by rw[zcj (zgA hp h0)] <;> rfl)
 .refine tq_ rfl (eqF rfl (zgR h0)) (zl 6 rfl (nz_ [so 2 _,so 3 _,so 4 _,so 5 _,so 8 _,so 11 _,so 12 _,so 13 _,so 14 _] [_,_,_,_,_] rfl rfl (zc 16 rfl (tc_ zwM rfl (zhq s (by assumption) (by omega) (by omega) (j:Int)) (zl 8 rfl ?_)))));refine nf_ [4] [so 2 _,so 3 _,so 4 _,so 5 _,so 8 _,so 11 _,so 12 _,so 14 _,so 15 (D.ptr 5 0),so 16 (D.val (.int .i64 (((zak s.lems (j:Int)).1:Nat):Int))),so 17 (D.val (.int .i64 (((zak s.lems (j:Int)).2:Nat):Int)))] [_,_,_,_,none,hb_ 36 [Leaf.val (.bool false),zaf (zaa (zaw (co f.ts (s.q.g.inp+j)))),zaf (zaa (zaE (co f.ts (s.q.g.inp+j))))]] rfl rfl rfl ?_;refine zc 3 rfl (tc_ zDe rfl (on_r s (by assumption) j (by omega)) (zl 9 rfl ?_));refine nz_ [so 2 _,so 3 _,so 4 _,so 5 _,so 8 _,so 11 _,so 12 _,so 14 _,so 15 _,so 16 _,so 17 _,so 18 (D.ptr 6 0),so 19 (D.bool (zdH s j))] [_,_,_,_,none,_,hb_ 107 [Leaf.val (.int .i64 ((zdi s j).kind)),Leaf.val (.int .i64 ((zdi s j).idx)),Leaf.val (.int .i64 ((zdi s j).lo)),Leaf.val (.int .i64 ((zdi s j).hi))]] rfl rfl (zc 3 rfl ?_);refine tc_ zDd rfl (zBn s (by assumption) j (by omega)) (zl 9 rfl ?_);refine nz_ [so 2 _,so 3 _,so 4 _,so 5 _,so 8 _,so 11 _,so 12 _,so 14 _,so 15 _,so 16 _,so 17 _,so 18 _,so 19 _,so 20 (D.ptr 7 0),so 21 (D.bool (zby s j))] [_,_,_,_,none,_,_,hb_ 107 [Leaf.val (.int .i64 ((zct s j).kind)),Leaf.val (.int .i64 ((zct s j).idx)),Leaf.val (.int .i64 ((zct s j).lo)),Leaf.val (.int .i64 ((zct s j).hi))]] rfl rfl (zc 20 rfl ?_);refine zao rfl (fun hon=>?_) (fun hon=>?_)
  .refine zc 1 rfl (dr_ 0 [(2,8),(3,9)] [8,9] (dz 4 rfl (zae (za 2 rfl ?_))));refine nf_ [0,3,6,7] [so 2 _,so 3 _,so 5 _,so 8 _,so 11 _,so 14 _,so 15 _,so 22 (D.ptr 8 0),so 23 (D.ptr 9 0)] [none,_,_,none,none,_,none,none,hb_ 107 [Leaf.val (.int .i64 ((zdi s j).kind)),Leaf.val (.int .i64 ((zdi s j).idx)),Leaf.val (.int .i64 ((zdi s j).lo)),Leaf.val (.int .i64 ((zdi s j).hi))],hb_ 38 (afL p)] rfl rfl rfl (zc 2 rfl ?_);by_cases hps:0<(co f.ts (s.q.g.inp+j))
   .refine tq_ rfl (gtT rfl (zd3.2 hps)) (zl 11 rfl (dr_ 0 [(8,2)] [2] (dz 3 rfl (kc_ zkE rfl (zer f p hff hpf (by omega) (by omega) (by omega) (s.q.g.inp+j) (by omega)) (dz 3 rfl (zjf (D.agg (qL (zc6 (co f.ts (s.q.g.inp+j))))) rfl (by rw[zdD];exact ze7 _) ?_))))));refine kc_ zsj rfl (zeX l ⟨6,(j:Int),0,0⟩ ((zc6 (co f.ts (s.q.g.inp+j)))) hMl (by omega) (by omega)) (dz 3 rfl (zae (za 1 rfl ?_)));exact r3_ hq_ rfl (by rw[zcj (zci hp h0 (zio hon)),if_pos hps] <;> rfl)
   .refine tq_ rfl (gtF rfl (fun e=>hps (zd3.1 e))) (zl 7 rfl (nz_ [so 2 _,so 5 _,so 8 _,so 11 _,so 15 _,so 22 _,so 23 _] [none,_,_,none,none,_,none,none,_,_] rfl rfl (dr_ 0 [(8,2)] [2] (dz 3 rfl (kc_ zkE rfl (zer f p hff hpf (by omega) (by omega) (by omega) (s.q.g.inp+j) (by omega)) (dz 3 rfl ?_))))));refine zjf (D.agg (qL (zc6 (co f.ts (s.q.g.inp+j))))) rfl (by rw[zdD];exact ze7 _) (kc_ zsj rfl (zeX l (zdi s j) ((zc6 (co f.ts (s.q.g.inp+j)))) hMl (by omega) (by omega)) (dz 3 rfl (zae (za 1 rfl ?_))));exact r3_ hq_ rfl (by rw[zcj (zci hp h0 (zio hon)),if_neg hps] <;> rfl)
  .refine zc 1 rfl ?_;refine nf_ [6] [so 2 _,so 3 _,so 4 _,so 5 _,so 8 _,so 11 _,so 12 _,so 14 _,so 15 _,so 16 _,so 17 _,so 20 _,so 21 _,so 22 (D.ptr 8 0),so 23 (D.ptr 9 0)] [_,_,_,_,none,_,none,_,hb_ 107 [Leaf.val (.int .i64 5),Leaf.val (.int .i64 (j:Int)),Leaf.val (.int .i64 0),Leaf.val (.int .i64 0)],hb_ 38 [El.row tmE ([]),Leaf.val (.bool false),zaf ([]),zaf ([])]] rfl rfl rfl ?_;refine zc 5 rfl ?_;refine zao rfl (fun hoff=>?_) (fun hoff=>?_)
   .refine zc 3 rfl ?_;by_cases hps:(co f.ts (s.q.g.inp+j))<0
    .refine tq_ rfl (ltT rfl (zkb.2 hps)) (zl 10 rfl (dr_ 0 [(8,2)] [2] (dz 3 rfl (zjf (D.agg (afL fZ)) rfl (congrArg D.agg fZ_ls.symm) (kc_ zkE rfl (zer f fZ hff FL.z (by omega) (by omega) (by omega) (s.q.g.inp+j) (by omega)) (dz 3 rfl (zjf (D.agg (qL (zc6 (co f.ts (s.q.g.inp+j))))) rfl (by rw[zdD];exact ze7 _) ?_)))))));refine kc_ zsj rfl (zeX l (zct s j) ((zc6 (co f.ts (s.q.g.inp+j)))) hMl (by omega) (by omega)) (dz 3 rfl (zae (za 1 rfl ?_)));exact r3_ hq_ rfl (by rw[zcj (zci hp h0 (zgc hon hoff)),if_neg (by grind)] <;> rfl)
    .refine tq_ rfl (ltF rfl (fun e=>hps (zkb.1 e))) (zl 7 rfl (nf_ [0,3,7] [so 2 _,so 5 _,so 8 _,so 11 _,so 15 _,so 22 _,so 23 _] [none,_,_,none,none,_,none,none,_,_] rfl rfl rfl (dr_ 0 [(8,2)] [2] (dz 3 rfl (zjf (D.agg (afL fZ)) rfl (congrArg D.agg fZ_ls.symm) (kc_ zkE rfl (zer f fZ hff FL.z (by omega) (by omega) (by omega) (s.q.g.inp+j) (by omega)) ?_))))));refine dz 3 rfl (zjf (D.agg (qL (zc6 (co f.ts (s.q.g.inp+j))))) rfl (by rw[zdD];exact ze7 _) (kc_ zsj rfl (zeX l ⟨5,(j:Int),0,0⟩ ((zc6 (co f.ts (s.q.g.inp+j)))) hMl (by omega) (by omega)) (dz 3 rfl (zae (za 1 rfl ?_)))));exact r3_ hq_ rfl (by rw[zcj (zci hp h0 (zgc hon hoff)),if_pos (by grind)] <;> rfl)
   .refine zc 1 rfl (nf_ [7] [so 2 _,so 3 _,so 4 _,so 5 _,so 8 _,so 11 _,so 12 _,so 14 _,so 15 _,so 16 _,so 17 _,so 22 _,so 23 _] [_,_,_,_,none,_,none,none,_,_] rfl rfl rfl (zc 2 rfl ?_));by_cases hps:0<(co f.ts (s.q.g.inp+j))
    .refine tq_ rfl (gtT rfl (zd3.2 hps)) (zl 5 rfl (dr_ 0 [] [] (dz 1 rfl ?_)));by_cases h1:(zak s.lems (j:Int)).1≠0
     .refine kq_ rfl (gtT rfl) (dz 2 rfl ?_);by_cases h2:(zak s.lems (j:Int)).2≠0
      .refine kq_ rfl (gtT rfl) (dz 2 rfl ?_);obtain⟨y,hy,_,_,hly,hy0,hyl⟩:=zbj h1;haveI:=hB y (zEq hy);obtain⟨z,hz,_,_,hlz,hz0,hzl⟩:=zbu h2;haveI:=hB z (zEq hz);refine dz 3 rfl (kq_ rfl (jsb (((zak s.lems (j:Int)).1)-1) rfl) (kq_ rfl (jix ((zak s.lems (j:Int)).1-1) hy rfl) (kq_ rfl (jft rfl) (kq_ rfl (jlr rfl) (dz 3 rfl (kq_ rfl (jsb (((zak s.lems (j:Int)).2)-1) rfl) (kq_ rfl (jix ((zak s.lems (j:Int)).2-1) hz rfl) (kq_ rfl (jft rfl) (kq_ rfl (jlr rfl) ?_)))))))));refine kc_ zDc rfl (zqT y.v y.v.q rfl (Fq.use (x:=y.v) (by omega)) z.v z.v.q rfl (Fq.use (x:=z.v) (by omega))) ?_;by_cases h3:slp y.v.q z.v.q=true
       .refine kq_ rfl (eqT rfl (by rw[if_pos h3])) (dz 1 rfl (zae (za 2 rfl (nf_ [0] [so 2 _,so 3 _,so 5 _,so 8 _,so 11 _,so 12 _,so 15 _,so 22 _,so 23 _] [none,_,_,_,none,_,none,none,_,_] rfl rfl rfl (dr_ 0 [(3,8),(4,9)] [8,9] (dz 5 rfl (zae (za 3 rfl (dr_ 0 [(8,2)] [2] ?_)))))))));refine dz 3 rfl (kc_ zkE rfl (zer f p hff hpf (by omega) (by omega) (by omega) (s.q.g.inp+j) (by omega)) (dz 3 rfl (zjf (D.agg (qL (zc6 (co f.ts (s.q.g.inp+j))))) rfl (by rw[zdD];exact ze7 _) (kc_ zsj rfl (zeX l ⟨6,(j:Int),0,0⟩ ((zc6 (co f.ts (s.q.g.inp+j)))) hMl (by omega) (by omega)) (dz 3 rfl (zae (za 1 rfl ?_)))))));exact r3_ hq_ rfl (by rw[zcj (zci hp h0 (zrp hon hoff hps ⟨h1,h2,by rw[hly,hlz];exact h3⟩))] <;> rfl)
       .refine kq_ rfl (eqF rfl (by rw[if_neg h3];decide)) (dz 1 rfl (zae (za 6 rfl (nf_ [0,3] [so 2 _,so 5 _,so 8 _,so 11 _,so 15 _,so 22 _,so 23 _] [none,_,_,none,none,_,none,none,_,_] rfl rfl rfl (dr_ 0 [(8,2)] [2] (dz 3 rfl (zjf (D.agg (afL fZ)) rfl (congrArg D.agg fZ_ls.symm) ?_)))))));refine kc_ zkE rfl (zer f fZ hff FL.z (by omega) (by omega) (by omega) (s.q.g.inp+j) (by omega)) (dz 3 rfl (zjf (D.agg (qL (zc6 (co f.ts (s.q.g.inp+j))))) rfl (by rw[zdD];exact ze7 _) (kc_ zsj rfl (zeX l ⟨5,(j:Int),0,0⟩ ((zc6 (co f.ts (s.q.g.inp+j)))) hMl (by omega) (by omega)) (dz 3 rfl (zae (za 1 rfl ?_))))));exact r3_ hq_ rfl (by rw[zcj (zci hp h0 (zgV hon hoff hps (fun e=>h3 (by have:=e.2.2;rwa [hly,hlz] at this))))] <;> rfl)
      .refine kq_ rfl (gtF rfl) (dz 19 rfl (zae (za 6 rfl (nf_ [0,3] [so 2 _,so 5 _,so 8 _,so 11 _,so 15 _,so 22 _,so 23 _] [none,_,_,none,none,_,none,none,_,_] rfl rfl rfl (dr_ 0 [(8,2)] [2] (dz 3 rfl (zjf (D.agg (afL fZ)) rfl (congrArg D.agg fZ_ls.symm) (kc_ zkE rfl (zer f fZ hff FL.z (by omega) (by omega) (by omega) (s.q.g.inp+j) (by omega)) (dz 3 rfl ?_)))))))));refine zjf (D.agg (qL (zc6 (co f.ts (s.q.g.inp+j))))) rfl (by rw[zdD];exact ze7 _) (kc_ zsj rfl (zeX l ⟨5,(j:Int),0,0⟩ ((zc6 (co f.ts (s.q.g.inp+j)))) hMl (by omega) (by omega)) (dz 3 rfl (zae (za 1 rfl ?_))));exact r3_ hq_ rfl (by rw[zcj (zci hp h0 (zgV hon hoff hps (fun e=>h2 e.2.1)))] <;> rfl)
     .refine kq_ rfl (gtF rfl) (dz 22 rfl (zae (za 6 rfl (nf_ [0,3] [so 2 _,so 5 _,so 8 _,so 11 _,so 15 _,so 22 _,so 23 _] [none,_,_,none,none,_,none,none,_,_] rfl rfl rfl (dr_ 0 [(8,2)] [2] (dz 3 rfl (zjf (D.agg (afL fZ)) rfl (congrArg D.agg fZ_ls.symm) (kc_ zkE rfl (zer f fZ hff FL.z (by omega) (by omega) (by omega) (s.q.g.inp+j) (by omega)) (dz 3 rfl ?_)))))))));refine zjf (D.agg (qL (zc6 (co f.ts (s.q.g.inp+j))))) rfl (by rw[zdD];exact ze7 _) (kc_ zsj rfl (zeX l ⟨5,(j:Int),0,0⟩ ((zc6 (co f.ts (s.q.g.inp+j)))) hMl (by omega) (by omega)) (dz 3 rfl (zae (za 1 rfl ?_))));exact r3_ hq_ rfl (by rw[zcj (zci hp h0 (zgV hon hoff hps (fun e=>h1 e.1)))] <;> rfl)
    .refine tq_ rfl (gtF rfl (fun e=>hps (zd3.1 e))) (zl 5 rfl (nz_ [so 2 _,so 3 _,so 4 _,so 5 _,so 8 _,so 11 _,so 12 _,so 15 _,so 16 _,so 17 _,so 22 _,so 23 _] [_,_,_,_,none,_,none,none,_,_] rfl rfl (zc 2 rfl ?_)));by_cases h1:(zak s.lems (j:Int)).1=0
     .refine tq_ rfl (eqT rfl) (zl 9 rfl (nf_ [0,1,3,5,8,9] [so 8 _] [none,none,_,none,none,none,none,none,none,none] rfl rfl rfl (zc 7 rfl ?_)));exact r3_ hq_ rfl (by rw[zk1 (zh3 hp h0 (zoi hon hoff hps (.inl h1)))];show _=R.tup [afV fZ,V.one (El.row muE []),_];rw[afZ] <;> rfl)
     .refine tq_ rfl (eqF rfl) (zl 2 rfl ?_);by_cases h2:(zak s.lems (j:Int)).2=0
      .refine tq_ rfl (eqT rfl) (zl 6 rfl (nf_ [0,1,3,5,8,9] [so 8 _] [none,none,_,none,none,none,none,none,none,none] rfl rfl rfl (zc 7 rfl ?_)));exact r3_ hq_ rfl (by rw[zk1 (zh3 hp h0 (zoi hon hoff hps (.inr h2)))];show _=R.tup [afV fZ,V.one (El.row muE []),_];rw[afZ] <;> rfl)
      .refine tq_ rfl (eqF rfl) (zl 6 rfl ?_);obtain⟨y,hy,_,_,hly,hy0,hyl⟩:=zbj h1;haveI:=hB y (zEq hy);obtain⟨z,hz,_,_,hlz,hz0,hzl⟩:=zbu h2;haveI:=hB z (zEq hz);have hl0:y.v.q<0:=by rw[<-hly];exact zBm hon h1
       have hu0:0<z.v.q:=by rw[<-hlz];exact zwu hoff h2
       obtain⟨ib1,ib2⟩:=zr2 (l:=y.v.q) (u:=z.v.q) (B:=135001) (by omega);haveI:=ib1;haveI:=ib2;have hne:z.v.q-y.v.q≠0:=by grind
       have hfs:=FL.sc (c:=(zcE y.v.q z.v.q)) hpf;have hfn:FL 100000000 (s.q.g.inp+s.q.g.us.length) (fN (zcF y.v.q z.v.q)):=FL.n ib2;have hbf:=hfs.add hfn;haveI:=hfs.fm (by omega);haveI:=hfs.cb;haveI:=hfn.fm (by omega);haveI:=hfn.cb;refine dr_ 2 [(14,10),(15,11),(16,10),(17,11)] [10,11] (dz 3 rfl (kq_ rfl (jsb (((zak s.lems (j:Int)).1)-1) rfl) (kq_ rfl (jix ((zak s.lems (j:Int)).1-1) hy rfl) (kq_ rfl (jft rfl) (kq_ rfl (jlr rfl) (dz 3 rfl (kq_ rfl (jsb (((zak s.lems (j:Int)).2)-1) rfl) (kq_ rfl (jix ((zak s.lems (j:Int)).2-1) hz rfl) ?_))))))));refine kq_ rfl (jft rfl) (kq_ rfl (jlr rfl) (dz 4 rfl (zae (za 2 rfl ?_))));refine nf_ [0] [so 2 _,so 3 _,so 5 _,so 8 _,so 11 _,so 12 _,so 15 _,so 16 _,so 17 _,so 22 _,so 23 _,so 24 (D.ptr 10 0),so 25 (D.ptr 11 0)] [none,_,_,_,none,_,none,none,_,_,hb_ 36 [Leaf.val (.bool y.v.neg),zaf y.v.n,zaf y.v.d],hb_ 36 [Leaf.val (.bool z.v.neg),zaf z.v.n,zaf z.v.d]] rfl rfl rfl (zc 3 rfl ?_);refine tc_ fn128 rfl (zx2 y.v y.v.q rfl (Fq.use (x:=y.v) (by omega)) z.v z.v.q rfl (Fq.use (x:=z.v) (by omega)) hl0 hu0) (zl 14 rfl ?_);refine nz_ [so 2 _,so 3 _,so 5 _,so 8 _,so 11 _,so 12 _,so 15 _,so 16 _,so 17 _,so 22 _,so 23 _,so 24 _,so 25 _,so 27 (D.ptr 12 0),so 28 (D.ptr 13 0)] [none,_,_,_,none,_,none,none,_,_,_,_,hb_ 36 (qL (zcE y.v.q z.v.q)),hb_ 36 (qL (zcF y.v.q z.v.q))] rfl rfl (zc 9 rfl (dr_ 0 [(6,9)] [9] (dz 2 rfl ?_)));refine kc_ zpY rfl (zb9 p (zcE y.v.q z.v.q) (by omega) (by omega)) (dz 1 rfl (kc_ zwN rfl (zeV (zcF y.v.q z.v.q)) (kc_ zCH rfl (zit (fSc p (zcE y.v.q z.v.q)) (fN (zcF y.v.q z.v.q)) (by omega) (by omega) (by omega)) (dz 1 rfl (zae (za 1 rfl ?_))))));refine nf_ [3,12,13] [so 2 _,so 5 _,so 8 _,so 11 _,so 15 _,so 22 _,so 23 _,so 24 _,so 25 _] [none,_,_,none,none,_,none,none,hb_ 107 [Leaf.val (.int .i64 13),Leaf.val (.int .i64 (j:Int)),Leaf.val (.int .i64 (((zak s.lems (j:Int)).1:Nat):Int)),Leaf.val (.int .i64 (((zak s.lems (j:Int)).2:Nat):Int))],hb_ 38 (afL (zfz (fSc p (zcE y.v.q z.v.q)) (fN (zcF y.v.q z.v.q)))),_,_,none,none] rfl rfl rfl ?_;refine dr_ 0 [(8,5)] [5] (kp_ [] rfl (zaI rfl rfl rfl (by decide) zmV (by decide) (zEw rfl) rfl) (zjf (D.agg (qL (zc6 (co f.ts (s.q.g.inp+j))))) rfl (by rw[zdD];exact ze7 _) (dz 2 rfl (kc_ zzf rfl (zm9 z.v (z.v.q) rfl (Fq.use (x:=z.v) (by omega)) y.v (y.v.q) rfl (Fq.use (x:=y.v) (by omega))) ?_))));refine kc_ zuZ rfl (zul (qOf ((zc6 (co f.ts (s.q.g.inp+j))))) ((zc6 (co f.ts (s.q.g.inp+j)))) (zaj _) (Br.use (by omega)) (qOf ((z.v.q)-(y.v.q))) ((z.v.q)-(y.v.q)) (zaj _) (Br.use (by omega)) (by assumption)) (dz 4 rfl (zae (za 3 rfl ?_)));refine nf_ [10,11] [so 2 _,so 5 _,so 8 _,so 11 _,so 15 _,so 22 _,so 23 _] [none,_,_,none,none,hb_ 36 (qL (((zc6 (co f.ts (s.q.g.inp+j))))/((z.v.q)-(y.v.q)))),none,none,_,_,none,none,none,none] rfl rfl rfl (dr_ 0 [(8,2)] [2] (dz 3 rfl ?_));refine kc_ zkE rfl (zer f (zfz (fSc p (zcE y.v.q z.v.q)) (fN (zcF y.v.q z.v.q))) hff hbf (by omega) (by omega) (by omega) (s.q.g.inp+j) (by omega)) (dz 3 rfl (kc_ zsj rfl (zeX l ⟨13,(j:Int),((zak s.lems (j:Int)).1:Int),((zak s.lems (j:Int)).2:Int)⟩ ((zc6 (co f.ts (s.q.g.inp+j)))/(z.v.q-y.v.q)) hMl (by omega) (by omega)) (dz 3 rfl ?_)));refine zae (za 1 rfl ?_);exact r3_ hq_ rfl (by rw[zcj (zci hp h0 (zoh hon hoff hps h1 h2)),hly,hlz] <;> rfl)
end Go.Proofs.YtjeiacoegppoiaaGreatDoor
namespace Rc
open Go Go.RowKit
@[reducible] def vl(x:List Rat)(i:Nat):Rat:=(x[i]?).getD 0
def zcA(a b:Dom):Dom:=fun s f=>
 if (b s f).2.2=true/\((a s f).2.2=false\/(a s f).1<(b s f).1) then((b s f).1,(b s f).2.1,true) else a s f
theorem zha{a b:Dom}{s:Sc}{f:Af}(h:(b s f).2.2=true)(h2:(a s f).2.2=false\/(a s f).1<(b s f).1):zcA a b s f=((b s f).1,(b s f).2.1,true):=if_pos ⟨h,h2⟩
theorem zfY{a b:Dom}{s:Sc}{f:Af}(h:¬((b s f).2.2=true/\((a s f).2.2=false\/(a s f).1<(b s f).1))):zcA a b s f=a s f:=if_neg h
theorem zzQ:∀j,bS KB j+5000<=KB j+15*j
 |0=>by show 0+5000<=5000*3^0+0;decide
 |j+1=>by
  have ih:=zzQ j;have h1:KB (j+1)=3*KB j:=by unfold KB;rw[zEI];omega
  simp only[bS];omega
theorem SOk.kb{s:Sc}(hs:SOk s):∀m∈s.lems,∀j:Nat,m.unit=(j:Int)->Hb m.v.q (KB j):=fun m hm j hj=>by
 have h:=(hs.l m hm).hb;rw[hj] at h;exact h
theorem zw8{n:Nat}(h:n<=4):bS KB n<=400060:=by
 have h1:=ztk KB h;have h2:=zzQ 4;have h3:KB 4=405000:=by decide
 omega
theorem zn3{s:Sc}{f:Af}(h:(zb3 s f).2.2=true):∃g l,bkO s f=some (g,l):=by
 cases hb:bkO s f with
 |none=>rw[zeQ hb] at h;cases h
 |some a=>exact⟨a.1,a.2,rfl⟩
theorem zmX:zf1 zb3:=by
 intro s hs j f hj hf hb;obtain⟨g,l,h⟩:=zn3 hb;obtain⟨x,m,h1,h2⟩:=zqK hs.sb hs.kb (top:=j) (by omega) hf.cq h;rw[zeP h h1];refine h2.hb.mono ?_;have h3:=zzQ j;have:=hs.q.g.u4;omega
theorem zv9{s:Sc}(hs:SOk s){f g:Af}{l:List Mu}(hf:FOk 3 (s.q.g.inp+s.q.g.us.length) f)(h:bkO s f=some (g,l)):∃x m,zlh s g=some (x,m)/\SyOk s 13 135001 KB s.q.g.us.length f x (zaU l m ((1:Int):Rat)):=
 zqK hs.sb hs.kb (zEt _) hf.cq h
theorem zt5{s:Sc}(hs:SOk s){f:Af}(hf:FOk 3 (s.q.g.inp+s.q.g.us.length) f):DerOk s 60000000 14 (zb3 s f).2.1:=by
 cases hb:bkO s f with
 |none=>rw[zeQ hb];exact⟨fun m hm=>by simp at hm,trivial,fun m hm=>by simp at hm,by simp⟩
 |some a=>
  obtain⟨g,l⟩:=a;obtain⟨x,m,h1,h2⟩:=zv9 hs hf hb;rw[zeP hb h1];have hd:=h2.der;have h4:=zw8 hs.q.g.u4;exact⟨hd.ok,hd.can,hd.bd.mono (by unfold bX;omega),zEz hd.len (by decide)⟩
theorem zt4{s:Sc}(hs:SOk s){f:Af}(hf:FOk 3 (s.q.g.inp+s.q.g.us.length) f)(h:(zb3 s f).2.2=true):zqr s f (zb3 s f).1 (zb3 s f).2.1:=by
 obtain⟨g,l,hb⟩:=zn3 h;obtain⟨x,m,h1,h2⟩:=zv9 hs hf hb;rw[zeP hb h1];exact h2.sum
theorem zwb:DomD zb3:=⟨zmX,fun s hs f hf=>zt5 hs hf,fun s hs f hf h=>zt4 hs hf h⟩
theorem zum{s:Sc}{j:Nat}{p:Af}{c:Rat}(h1:bLo s j≠0)(h2:bHi s j≠0):∃b r k,zfM s j p c=some (b,r,k):=by
 unfold zfM
 repeat' split
 all_goals first|exact⟨_,_,_,rfl⟩|(rename_i h;exact(h.elim h1 h2).elim)
theorem zmI{s:Sc}(hs:SOk s){j:Nat}(hj:j<=s.q.g.us.length)(h:Full s s.lems j){f:Af}(hf:FOk 3 (s.q.g.inp+j) f):∀k,k<=j->∃g l,bkN s f (s.q.g.us.length-j+k)=some (g,l)
 |0,_=>⟨f,[],zk0 hj hf.can hf.var _ (zEt _)⟩
 |k+1,hk=>by
  obtain⟨g,l,h1⟩:=zmI hs hj h hf k (by omega);rw[<-Nat.add_assoc,zgB,h1];obtain⟨m,hm⟩:∃m,s.q.g.us.length-1-(s.q.g.us.length-j+k)=m:=⟨_,rfl⟩;rw[hm];obtain⟨p,hp⟩:∃p,s.q.g.us[m]?=some p:=⟨_,zEp (by omega)⟩;by_cases h0:co g.ts (s.q.g.inp+m)=0
  .exact⟨_,_,zgA hp h0⟩
  .obtain⟨b1,b2⟩:=h m (by omega);obtain⟨b,r,c,hr⟩:=zum (s:=s) (j:=m) (p:=p) (c:=co g.ts (s.q.g.inp+m)) b1 b2;exact⟨_,_,zci hp h0 hr⟩
theorem zwa:zAl zb3:=by
 intro s hs j hj h f hf;obtain⟨g,l,h1⟩:=zmI hs hj h hf j (zEt _);rw[show s.q.g.us.length-j+j=s.q.g.us.length by omega] at h1;obtain⟨x,m,h2,_⟩:=zqK hs.sb hs.kb hj hf.cq h1;rw[zeP h1 h2]
section
variable {a b:Dom}{s:Sc}{f:Af}
theorem zg9:(zcA a b s f=a s f)\/((b s f).2.2=true/\zcA a b s f=b s f):=by
 by_cases h:(b s f).2.2=true/\((a s f).2.2=false\/(a s f).1<(b s f).1)
 .refine .inr ⟨h.1,?_⟩;rw[zha h.1 h.2];rcases hb:b s f with⟨x,l,o⟩;rw[hb] at h;show(x,l,true)=(x,l,o);rw[show o=true from h.1]
 .exact .inl (zfY h)
end
theorem zvt{a b:Dom}(ha:zf1 a)(hb:zf1 b):zf1 (zcA a b):=fun s hs j f hj hf h=>by
 rcases zg9 (a:=a) (b:=b) (s:=s) (f:=f) with e|⟨_,e⟩
 .rw[e] at h ⊢;exact ha s hs j f hj hf h
 .rw[e] at h ⊢;exact hb s hs j f hj hf h
theorem zzO{a b:Dom}(ha:DomD a)(hb:DomD b):DomD (zcA a b):=⟨zvt ha.ok hb.ok,fun s hs f hf=>by
 rcases zg9 (a:=a) (b:=b) (s:=s) (f:=f) with e|⟨_,e⟩
 .rw[e];exact ha.der s hs f hf
 .rw[e];exact hb.der s hs f hf,fun s hs f hf h=>by
 rcases zg9 (a:=a) (b:=b) (s:=s) (f:=f) with e|⟨_,e⟩
 .rw[e] at h ⊢;exact ha.sum s hs f hf h
 .rw[e] at h ⊢;exact hb.sum s hs f hf h⟩
theorem zpc{a b:Dom}(ha:zAl a):zAl (zcA a b):=fun s hs j hj h f hf=>by
 rcases zg9 (a:=a) (b:=b) (s:=s) (f:=f) with e|⟨e2,e⟩
 .rw[e];exact ha s hs j hj h f hf
 .rw[e];exact e2
theorem zvu{a b:Dom}{s:Sc}{f:Af}(ha:(a s f).2.2=true)(hb:(b s f).2.2=true):(a s f).1<=(zcA a b s f).1/\(b s f).1<=(zcA a b s f).1:=by
 by_cases h:(a s f).1<(b s f).1
 .rw[zha hb (.inr h)];exact⟨Rat.le_of_lt h,Rat.le_refl⟩
 .rw[zfY (fun e=>e.2.elim (fun e=>by rw[e] at ha;cases ha) h)];exact⟨Rat.le_refl,Rat.not_lt.1 h⟩
def zay(n:Nat):Dom:=if n=0 then zbM else if n=1 then zb3 else zcA zbM zb3
theorem zhk(n:Nat):DomD (zay n):=by
 unfold zay;repeat' split
 .exact zw5
 .exact zwb
 .exact zzO zw5 zwb
theorem zBp(n:Nat):zAl (zay n):=by
 unfold zay;repeat' split
 .exact zo6
 .exact zwa
 .exact zpc zo6
theorem zvG{P:Program}{ops:Array Oper}{Q:Exit->Act->World->Prop}{w0:Frm}{A0:Foot}{N:Nat}{Γ:Gam}{H:Hp}{l:List Oper}(s:Nat){r n q:Nat}{ls:List Leaf}{x x':V}(hs:zbD Γ s=some (D.v x))(hR:RowAt H r n q ls)
  (hx:subV (Leaf.own r n) (Leaf.rep (zar q ls)) x x') (h:Tl P ops Q w0 A0 N ((s,some (D.v x'))::Γ) H l):Tl P ops Q w0 A0 N Γ H l:=
 fun a w hSt=>let ⟨E,g⟩:=hSt;h a w ⟨E,g.viewS hs hR hx⟩
theorem zA8{s:Sc}{j:Nat}{p:Af}{c:Rat}(h:(zgb s j p c).2=true):zfM s j p c=some ((zgb s j p c).1.1,(zgb s j p c).1.2.1,(zgb s j p c).1.2.2):=by
 cases e:zfM s j p c with
 |none=>rw[zin e] at h;cases h
 |some x=>rw[zbI e]
theorem zro{s:Sc}{j:Nat}{p:Af}{c:Rat}(h:(zgb s j p c).2=false):zfM s j p c=none:=by
 cases e:zfM s j p c with
 |none=>rfl
 |some x=>rw[zbI e] at h;cases h
theorem bkP_t{s:Sc}{f:Af}{l:List Mu}{j:Nat}(h:(bkP s f l j).2.2=true):bkS s (some (f,l)) j=some ((bkP s f l j).1,(bkP s f l j).2.1):=by
 cases e:bkS s (some (f,l)) j with
 |none=>rw[zk1 e] at h;cases h
 |some x=>rw[zcj e]
theorem bkP_f{s:Sc}{f:Af}{l:List Mu}{j:Nat}(h:(bkP s f l j).2.2=false):bkS s (some (f,l)) j=none:=by
 cases e:bkS s (some (f,l)) j with
 |none=>rfl
 |some x=>rw[zcj e] at h;cases h
def zdf(s:Sc)(f:Af):Af×List Mu×Bool:=match bkO s f with|some x=>(x.1,x.2,true)|none=>(fZ,[],false)
section
variable {s:Sc}{f g:Af}{l:List Mu}
theorem zh4(h:bkO s f=some (g,l)):zdf s f=(g,l,true):=by unfold zdf;rw[h]
theorem zgF(h:bkO s f=none):zdf s f=(fZ,[],false):=by unfold zdf;rw[h]
theorem zDP(h:(zdf s f).2.2=true):bkO s f=some ((zdf s f).1,(zdf s f).2.1):=by
 cases e:bkO s f with
 |none=>rw[zgF e] at h;cases h
 |some x=>obtain⟨a,b⟩:=x;rw[zh4 e]
theorem zDQ(h:(zdf s f).2.2=false):bkO s f=none:=by
 cases e:bkO s f with
 |none=>rfl
 |some x=>obtain⟨a,b⟩:=x;rw[zh4 e] at h;cases h
end
theorem bS_ge(kf:Nat->Nat){j top:Nat}(h:j<top):2*kf j+15<=bS kf top:=by
 have:=ztk kf (show j+1<=top from h);simp only[bS] at this;omega
theorem zsD(l:List Mu)(r:Rw)(c:Rat):zcy (l++[⟨r,qOf c⟩])=zbZ (zcy l) r c:=by
 rw[zkK];simp only[List.foldl_cons,List.foldl_nil,zaj]
theorem zpQ(a:List Mu):∀b:List Mu,zaU a b ((1:Int):Rat)=b.foldl (fun a m=>zbZ a m.r m.c.q) a:=fun b=>by
 unfold zaU;congr 1;funext a m;show zbZ a m.r (m.c.q*1)=_;rw[Rat.mul_one]
theorem zsE{l:List Mu}(h:CanM l):zcy l=l:=zkS (zoV fun m hm=>⟨(h.pos m hm).2,Rat.le_of_lt (h.pos m hm).1⟩) h fun r=>zwY _ l
theorem zu9{a b:List Mu}(h:CanM a):zcy (a++b)=zaU a b ((1:Int):Rat):=by rw[zkK,zsE h,zpQ]
theorem zzw{a b:List Mu}(ha:CanM a)(hb:CanM b):zje (a++b):=fun m hm=>by
 rcases zEK.1 hm with hm|hm
 .exact⟨(ha.pos m hm).2,Rat.le_of_lt (ha.pos m hm).1⟩
 .exact⟨(hb.pos m hm).2,Rat.le_of_lt (hb.pos m hm).1⟩
theorem zBF{B C D:Nat}{a b:List Mu}(ha:MB B a)(hb:MB C b)(h1:B<=D)(h2:C<=D):MB D (a++b):=fun m hm=>by
 rcases zEK.1 hm with hm|hm
 .exact(ha m hm).mono h1
 .exact(hb m hm).mono h2
structure BkA(s:Sc)(kf:Nat->Nat)(d:Nat)(f:Af):Prop where
 sb:SB 135001 s
 kb:∀m∈s.lems,∀j:Nat,m.unit=(j:Int)->Hb m.v.q (kf j)
 cd:Cd d d (s.q.g.inp+s.q.g.us.length) f
 lim:d+bS kf s.q.g.us.length<=600000000
section
variable {s:Sc}{kf:Nat->Nat}{d n:Nat}{f g:Af}{l out:List Mu}
structure BkQ(s:Sc)(f:Af)(n:Nat)(g:Af)(l:List Mu):Prop where
 le:n<=s.q.g.us.length
 run:bkN s f (s.q.g.us.length-n)=some (g,l)
theorem BkQ.start:BkQ s f s.q.g.us.length f []:=⟨zEt _,by rw[Nat.sub_self];rfl⟩
theorem BkQ.i(h:BkQ s f n g l)(ha:BkA s kf d f):BkI s d 135001 kf s.q.g.us.length f n g l:=by
 have hle:=h.le;have:=znF ha.sb ha.kb (zEt _) ha.cd (s.q.g.us.length-n) (by omega) g l (by rw[Nat.sub_self,Nat.zero_add];exact h.run)
 rwa [show s.q.g.us.length-(s.q.g.us.length-n)=n by omega] at this
theorem BkQ.cb(h:BkQ s f n g l)(ha:BkA s kf d f):∃b,b<=600000000/\Cd b b (s.q.g.inp+n) g:=by
 obtain⟨b,h1,h2⟩:=(h.i ha).cd;have:=ha.lim;exact⟨b,by omega,h2⟩
theorem BkQ.fok(h:BkQ s f n g l)(ha:BkA s kf d f):FOk 600000000 (s.q.g.inp+n) g:=by
 obtain⟨b,h1,h2⟩:=h.cb ha;exact h2.fok.mono (by omega) (zEt _)
theorem BkQ.fl(h:BkQ s f n g l)(ha:BkA s kf d f):FL 600000001 (s.q.g.inp+s.q.g.us.length) g:=((h.fok ha).mono (zEt _) (by have:=h.le;omega)).fl
theorem BkQ.bd(h:BkQ s f n g l)(ha:BkA s kf d f):MB 2500000000 l/\l.length<=4:=by
 have h1:=(h.i ha).bd;have h2:=(h.i ha).len;have h3:=ha.sb.q.g.u4;have h4:=ha.lim;refine⟨h1.mono ?_,by omega⟩;have hX:bX d 135001 kf s.q.g.us.length<=601000000:=by show d+1+bS kf s.q.g.us.length+5*135001+12<=_;omega
 exact zEz (Nat.mul_le_mul (show s.q.g.us.length-n<=4 by omega) hX) (by decide)
theorem BkQ.idx(h:BkQ s f n g l)(h0:0<n):bkN s f (s.q.g.us.length-(n-1))=bkS s (some (g,l)) (n-1):=by
 have hle:=h.le;rw[show s.q.g.us.length-(n-1)=s.q.g.us.length-n+1 by omega,zgB,h.run,show s.q.g.us.length-1-(s.q.g.us.length-n)=n-1 by omega]
theorem BkQ.next(h:BkQ s f n g l)(h0:0<n)(hb:(bkP s g l (n-1)).2.2=true):BkQ s f (n-1) (bkP s g l (n-1)).1 (bkP s g l (n-1)).2.1:=
 ⟨by have:=h.le;omega,by rw[h.idx h0,bkP_t hb]⟩
theorem BkQ.stop(h:BkQ s f n g l)(h0:0<n)(hb:bkS s (some (g,l)) (n-1)=none):bkO s f=none:=
 zvs (n:=s.q.g.us.length-(n-1)) (by omega) (by rw[h.idx h0,hb])
theorem BkQ.fin(h:BkQ s f 0 g l):bkO s f=some (g,l):=h.run
structure BkR(s:Sc)(f:Af)(n:Nat)(g:Af)(out:List Mu):Prop where
 q:BkQ s f n g (zcy out)
 cof:zje out
 mb:MB 700000000 out
 len:out.length+n<=s.q.g.us.length
theorem BkR.start:BkR s f s.q.g.us.length f []:=⟨BkQ.start,fun m hm=>by simp at hm,fun m hm=>by simp at hm,by simp⟩
theorem BkR.zero{p:Af}(h:BkR s f n g out)(h0:0<n)(hp:s.q.g.us[n-1]?=some p)(hc:co g.ts (s.q.g.inp+(n-1))=0):BkR s f (n-1) g out:=
 ⟨⟨by have:=h.q.le;omega,by rw[h.q.idx h0,zgA hp hc]⟩,h.cof,h.mb,by have:=h.len;omega⟩
structure RpB(s:Sc)(b:Af)(k:Rat):Prop where
 fl:FL 700000000 (s.q.g.inp+s.q.g.us.length) b
 pos:0<k
 br:Br k 700000000
theorem BkR.rp{p b:Af}{r:Rw}{k:Rat}(h:BkR s f n g out)(ha:BkA s kf d f)(h0:0<n)(hp:s.q.g.us[n-1]?=some p)(hc:co g.ts (s.q.g.inp+(n-1))≠0)(hr:zfM s (n-1) p (co g.ts (s.q.g.inp+(n-1)))=some (b,r,k)):RpB s b k:=by
 have hle:=h.q.le;have hg:=h.q.fok ha;have hlim:=ha.lim;have hb2:=bS_ge kf (show n-1<s.q.g.us.length by omega);haveI hcb:Br (co g.ts (s.q.g.inp+(n-1))) 600000001:=by
  obtain⟨t,h1,h2⟩:=zjU hc;rw[<-h2,zfE hg.can h1];exact(hg.bd t h1).br
 have hro:=zwk (C:=600000001) ha.sb hp hc hr;have hcd:=(zwl ha.sb.q (fun m hm hu=>ha.kb m hm (n-1) hu) hp hr).fok;exact⟨((hcd.mono (c:=600000000) (by omega) (show _<=s.q.g.inp+s.q.g.us.length by omega)).fl).mono (by omega) (zEt _),hro.pos,hro.br.mono (by omega)⟩
theorem BkR.step{p b:Af}{r:Rw}{k:Rat}(h:BkR s f n g out)(h0:0<n)(hp:s.q.g.us[n-1]?=some p)(hc:co g.ts (s.q.g.inp+(n-1))≠0)(hr:zfM s (n-1) p (co g.ts (s.q.g.inp+(n-1)))=some (b,r,k))(hb:RpB s b k) :
  BkR s f (n-1) (zqR g (s.q.g.inp+(n-1)) b) (out++[⟨r,qOf k⟩]):=by
 refine⟨⟨by have:=h.q.le;omega,by rw[h.q.idx h0,zci hp hc hr,zsD]⟩,fun m hm=>?_,fun m hm=>?_,by have:=h.len;rw[zEF,List.length_singleton];omega⟩
 .rcases zEK.1 hm with hm|hm
  .exact h.cof m hm
  .rw[List.mem_singleton] at hm;rw[hm];exact⟨by rw[zaj],by rw[zaj];exact Rat.le_of_lt hb.pos⟩
 .rcases zEK.1 hm with hm|hm
  .exact h.mb m hm
  .rw[List.mem_singleton] at hm;rw[hm];haveI:=hb.br;exact Fq.of
theorem BkR.stop{p:Af}(h:BkR s f n g out)(h0:0<n)(hp:s.q.g.us[n-1]?=some p)(hc:co g.ts (s.q.g.inp+(n-1))≠0)(hr:zfM s (n-1) p (co g.ts (s.q.g.inp+(n-1)))=none):bkO s f=none:=
 h.q.stop h0 (zh3 hp hc hr)
structure BkF(s:Sc)(f g:Af)(l:List Mu):Prop where
 fok:FOk 600000000 s.q.g.inp g
 can:CanM l
 mb:MB 2500000000 l
 len:l.length<=4
theorem znD(ha:BkA s kf d f)(h:bkO s f=some (g,l)):BkF s f g l:=by
 have hq:BkQ s f 0 g l:=⟨zEv _,h⟩;exact⟨hq.fok ha,(hq.i ha).can,(hq.bd ha).1,(hq.bd ha).2⟩
theorem znE(ha:BkA s kf d f)(h:bkO s f=some (g,l)):(zbM s g).2.2=true/\zb3 s f=((zbM s g).1,zaU l (zbM s g).2.1 ((1:Int):Rat),true):=by
 have hq:BkQ s f 0 g l:=⟨zEv _,h⟩;obtain⟨b,hb,hcd⟩:=hq.cb ha;obtain⟨x,m,h1,_⟩:=zs2 ha.sb (show Cd b b s.q.g.inp g from hcd);rw[zc5 h1];exact⟨rfl,zeP h h1⟩
theorem zkY(ha:BkA s kf d f):Br (zbM s f).1 5000000000:=by
 have h:=ha.lim;have hf:=ha.cd.fok;exact(zs5 ha.sb (hf.mono (c:=600000000) (by omega) (zEt _)).fl).mono (by omega)
theorem ztj(ha:BkA s kf d f)(h:bkO s f=some (g,l)):Br (zbM s g).1 5000000000:=by
 have hf:=(znD ha h).fok;exact(zs5 ha.sb (hf.mono (zEt _) (show _<=s.q.g.inp+s.q.g.us.length by omega)).fl).mono (by omega)
theorem zmY(ha:BkA s kf d f):Br (zb3 s f).1 5000000000:=by
 cases h:bkO s f with
 |none=>rw[zeQ h];exact Br.zero.mono (zEv _)
 |some a=>obtain⟨g,l⟩:=a;rw[(znE ha h).2];exact ztj ha h
theorem zs4(h:(zbM s f).2.2=false):zbM s f=(0,[],false):=by
 unfold zbM at *;split at h
 .cases h
 .rfl
theorem zqL(h:(zb3 s f).2.2=false):zb3 s f=(0,[],false):=by
 unfold zb3 at *;split at h
 .cases h
 .rfl
theorem zDI(h:(zbM s f).2.2=false):zcA zbM zb3 s f=zb3 s f:=by
 cases e:(zb3 s f).2.2 with
 |false=>rw[zfY (fun h=>by rw[e] at h;cases h.1),zs4 h,zqL e]
 |true=>
  rw[zha e (.inl h)];rcases hb:zb3 s f with⟨x,l,o⟩;rw[hb] at e;rw[show o=true from e]
theorem zzM(h2:(zb3 s f).2.2=false):zcA zbM zb3 s f=zbM s f:=zfY (fun e=>by rw[h2] at e;cases e.1)
theorem zzL(h:(zbM s f).2.2=true)(h2:(zb3 s f).1<=(zbM s f).1):zcA zbM zb3 s f=zbM s f:=
 zfY (fun e=>e.2.elim (fun e=>by rw[e] at h;cases h) (fun e=>Rat.not_le.2 e h2))
theorem zzK(h:(zb3 s f).2.2=true)(h2:¬(zb3 s f).1<=(zbM s f).1):zcA zbM zb3 s f=zb3 s f:=by
 rw[zha h (.inr (Rat.not_le.1 h2))];rcases hb:zb3 s f with⟨x,l,o⟩;rw[hb] at h;rw[show o=true from h]
theorem zBt{n:Nat}(h:n=0):zay n=zbM:=if_pos h
theorem zBs{n:Nat}(h:n≠0)(h1:n≠2)(h2:n<=2):zay n=zb3:=by unfold zay;rw[if_neg h,if_pos (by omega)]
theorem zos{n:Nat}(h:n=2):zay n=zcA zbM zb3:=by unfold zay;rw[if_neg (by omega),if_neg (by omega)]
theorem zBr(n:Nat):zay n=zbM\/zay n=zb3\/zay n=zcA zbM zb3:=by
 unfold zay;split
 .exact .inl rfl
 .split
  .exact .inr (.inl rfl)
  .exact .inr (.inr rfl)
theorem zBq(n:Nat)(h:(zay n s f).2.2=false):zay n s f=(0,[],false):=by
 rcases zBr n with e|e|e
 .rw[e] at h ⊢;exact zs4 h
 .rw[e] at h ⊢;exact zqL h
 .rw[e] at h ⊢;rcases zg9 (a:=zbM) (b:=zb3) (s:=s) (f:=f) with e|⟨_,e⟩
  .rw[e] at h ⊢;exact zs4 h
  .rw[e] at h ⊢;exact zqL h
end
theorem zor(n:Nat){s:Sc}(hs:SOk s){f:Af}{j:Nat}(hj:j<s.q.g.us.length)(hf:FOk 3 (s.q.g.inp+j) f):Hb (zay n s f).1 (KB j-4200):=by
 cases h:(zay n s f).2.2 with
 |false=>rw[zBq n h];exact Hb.z
 |true=>exact(zhk n).ok s hs j f hj hf h
theorem zi2{s:Sc}(hs:SOk s){f:Af}(hf:FOk 3 (s.q.g.inp+s.q.g.us.length) f):BkA s KB 13 f:=
 ⟨hs.sb,hs.kb,hf.cq,by have:=zw8 hs.q.g.u4;omega⟩
end Rc
namespace Go.Proofs.YtjeiacoegppoiaaGreatDoor
open Go Go.RowKit Rc
set_option maxHeartbeats 2000000 in
theorem zDS(s:Sc)(f:Af){kf:Nat->Nat}{d:Nat}(ha:BkA s kf d f):CtrT Tryz.prog 15 109 7 (El.all muE ((zdf s f).2.1)) [afV (zdf s f).1] [V.one (Leaf.val (.bool (zdf s f).2.2))] [scV s,afV f]:=by
 refine CtrT.of_body Tryz.func15 rfl Tryz.ntmps15 (zEw rfl) (fun w0 A0 hX=>?_);refine qc_ ?_;have hs:=ha.sb;have hB:=hs.B;have hq:=hs.q;have hd:=hs.d;have hpl:=hs.pl;have hl:=hs.ll;have hg:=hq.g;have hr:=hq.r;have hlo:=hr.lo;have hhi:=hr.hi;have h1:=hg.i1;have h2:=hg.i3;have h3:=hg.u4;have h4:=hg.o1;have h5:=hg.o3;have hfd:=ha.cd.fok;have hlim:=ha.lim;refine zc 5 rfl (tq_ rfl (zcg rfl (rfl)) (zl 5 rfl (dr_ 0 [] [] (dz 2 rfl (kc_ zEm rfl (zhO s.q hq) (dz 6 rfl (kc_ fn50 rfl (zsg s.q.g (by assumption)) (kc_ zAy rfl (zjJ f hfd (by omega) (s.q.g.inp+s.q.g.us.length) (zEt _) (by omega)) (dz 2 rfl ?_)))))))));refine zae (za 5 rfl (nz_ [so 2 (D.ptr 0 0),so 3 (D.ptr 1 0),so 4 (D.ptr 2 0)] [hb_ 43 (scL s),hb_ 38 (afL f),hb_ 38 [El.row tmE ([]),Leaf.val (.bool false),zaf ([]),zaf ([])]] rfl rfl (zc 10 rfl (tq_ rfl (zcg rfl (rfl)) (zl 4 rfl (zgK 8 109 7 rfl rfl (zc 3 rfl (tq_ rfl (jln rfl) ?_))))))));refine tq_ rfl (zaN rfl rfl rfl (r:=(((s.q.g.us.length:Nat):Int)-1)) (w64 (by omega) (by omega) (by omega))) (zl 4 rfl ?_);refine zbv (fun m Γ H=>∃(n:Nat) (v_:Nat) (g:Af) (out:List Mu),n=m/\Γ=[(2,some (D.ptr 0 0)),(3,some (D.ptr 1 0)),(4,some (D.ptr 2 0)),(7,some (D.ptr 3 0)),(8,some (D.v (V.one (Leaf.own 4 v_)))),(9,some (D.val (.int .i64 ((n:Int)-1))))]/\H=[hb_ 43 (scL s),hb_ 38 (afL g),hb_ 38 [El.row tmE ([]),Leaf.val (.bool false),zaf ([]),zaf ([])],hb_ 28 [Leaf.val (.int .i64 ((s.q.g.inp:Nat):Int)),El.row afE s.q.g.us,El.row afE s.q.g.os],hgr 109 7 muE out v_]/\BkR s f n g out) ⟨s.q.g.us.length,0,f,[],rfl,rfl,rfl,BkR.start⟩ rfl ?_;rintro m Γ H ⟨n,v_,g,out,rfl,rfl,rfl,hR⟩;refine zc 2 rfl ?_;refine nz_ [so 2 (D.ptr 0 0),so 3 (D.ptr 1 0),so 4 (D.ptr 2 0),so 7 (D.ptr 3 0),so 8 (D.v (V.one (Leaf.own 4 v_))),so 9 (D.val (.int .i64 ((n:Int)-1)))] [hb_ 43 (scL s),hb_ 38 (afL g),hb_ 38 [El.row tmE ([]),Leaf.val (.bool false),zaf ([]),zaf ([])],hb_ 28 [Leaf.val (.int .i64 ((s.q.g.inp:Nat):Int)),El.row afE s.q.g.us,El.row afE s.q.g.os],hgr 109 7 muE out v_] rfl rfl ?_;refine zc 2 rfl ?_;by_cases h0:0<n
 .refine tq_ rfl (geT rfl) (zl 8 rfl ?_);have hnl:=hR.q.le;obtain⟨p,hp⟩:∃p,s.q.g.us[n-1]?=some p:=⟨_,zEp (by omega)⟩;have hfg:=hR.q.fl ha;haveI:=hfg.fm (by omega);haveI:=hfg.cb;haveI hcb:Br (co g.ts (s.q.g.inp+(n-1))) 600000001:=zqb hfg.bd _;refine zc 4 rfl (tq_ rfl (jad (s.q.g.inp+(n-1)) rfl) (zl 4 rfl (nz_ [so 2 _,so 3 _,so 4 _,so 7 _,so 8 _,so 9 _,so 10 (D.val (.int .i64 ((s.q.g.inp+(n-1):Nat):Int)))] [_,_,_,_,_] rfl rfl (zc 3 rfl (tc_ fn51 rfl (zDF g hfg (by omega) (by omega) (s.q.g.inp+(n-1)) (by omega)) (zl 8 rfl ?_))))));refine tc_ zjp rfl (zd5 (qOf ((co g.ts (s.q.g.inp+(n-1))))) ((co g.ts (s.q.g.inp+(n-1)))) (zaj _) (Br.use (by omega))) ?_;by_cases hc:(co g.ts (s.q.g.inp+(n-1)))=0
  .refine tq_ rfl (eqT rfl (by rw[hc];rfl)) (zl 7 rfl (nf_ [5] [so 2 _,so 3 _,so 4 _,so 7 _,so 8 _,so 9 _] [_,_,_,_,_,none] rfl rfl rfl (zc 2 rfl (tq_ rfl (zaN rfl rfl rfl (r:=(((n-1:Nat):Int)-1)) (w64 (by omega) (by omega) (by omega))) (zl 2 rfl (zaM 5 rfl ?_))))));exact nx_ ⟨n-1,v_,g,out,rfl,rfl,rfl,hR.zero h0 hp hc⟩ rfl
  .refine tq_ rfl (eqF rfl (zgR hc)) (zl 9 rfl (eq_ (D.val (.int .i64 (((n-1):Nat):Int))) rfl (congrArg (fun z=>D.val (.int .i64 z)) (show((n:Int)-1)=(((n-1):Nat):Int) by omega)) (zl 1 rfl (tc_ fn53 rfl (rpl_p s hs (n-1) p hp (co g.ts (s.q.g.inp+(n-1))) (by omega)) (zl 10 rfl ?_)))));refine nf_ [5] [so 2 _,so 3 _,so 4 _,so 7 _,so 8 _,so 9 _,so 10 _,so 12 (D.ptr 6 0),so 13 (D.bool ((zgb s (n-1) p (co g.ts (s.q.g.inp+(n-1)))).2))] [_,_,_,_,_,none,hb_ 118 [El.row tmE ((zgb s (n-1) p (co g.ts (s.q.g.inp+(n-1)))).1.1.ts),Leaf.val (.bool (zaQ ((zgb s (n-1) p (co g.ts (s.q.g.inp+(n-1)))).1.1.c))),zaf (zaa (zaw ((zgb s (n-1) p (co g.ts (s.q.g.inp+(n-1)))).1.1.c))),zaf (zaa (zaE ((zgb s (n-1) p (co g.ts (s.q.g.inp+(n-1)))).1.1.c))),Leaf.val (.int .i64 ((zgb s (n-1) p (co g.ts (s.q.g.inp+(n-1)))).1.2.1.kind)),Leaf.val (.int .i64 ((zgb s (n-1) p (co g.ts (s.q.g.inp+(n-1)))).1.2.1.idx)),Leaf.val (.int .i64 ((zgb s (n-1) p (co g.ts (s.q.g.inp+(n-1)))).1.2.1.lo)),Leaf.val (.int .i64 ((zgb s (n-1) p (co g.ts (s.q.g.inp+(n-1)))).1.2.1.hi)),Leaf.val (.bool (zaQ ((zgb s (n-1) p (co g.ts (s.q.g.inp+(n-1)))).1.2.2))),zaf (zaa (zaw ((zgb s (n-1) p (co g.ts (s.q.g.inp+(n-1)))).1.2.2))),zaf (zaa (zaE ((zgb s (n-1) p (co g.ts (s.q.g.inp+(n-1)))).1.2.2)))]] rfl rfl rfl ?_;refine zc 5 rfl ?_;refine zao rfl (fun hok=>?_) (fun hok=>?_)
   .refine zc 4 rfl (tq_ rfl (zcg rfl (rfl)) (zl 3 rfl ?_));exact zph (fun _ _ h=>h) hX rfl (rA zjz rfl rfl rfl rfl) (rowOk.nil rfl (by rw[zgF (hR.stop h0 hp hc (zro (by simpa using hok)))] <;> rfl)) rfl (by rw[zgF (hR.stop h0 hp hc (zro (by simpa using hok)))];exact afZ.symm) (by rw[zgF (hR.stop h0 hp hc (zro (by simpa using hok)))])
   .refine zc 3 rfl ?_;have hrm:=zA8 (s:=s) (j:=(n-1)) (p:=p) (c:=(co g.ts (s.q.g.inp+(n-1)))) (by simpa using hok);have hrb:=hR.rp ha h0 hp hc hrm;have hol:=hR.len;have hfl2:=hrb.fl;haveI:=hrb.br;refine zc 5 rfl (tc_ fn54 rfl (zxq g (zgb s (n-1) p (co g.ts (s.q.g.inp+(n-1)))).1.1 hfg hfl2 (by omega) (by omega) (by omega) (s.q.g.inp+(n-1)) (by omega)) (zl 3 rfl (nz_ [so 2 _,so 3 _,so 4 _,so 7 _,so 8 _,so 9 _,so 12 _] [_,hb_ 38 (afL (zqR g (s.q.g.inp+(n-1)) (zgb s (n-1) p (co g.ts (s.q.g.inp+(n-1)))).1.1)),_,_,_,none,_] rfl rfl (zc 7 rfl ?_))));refine te_ rfl (zad rfl zcJ zbh zcZ rfl (by decide) (by decide) rfl (by decide) rfl) (te_ rfl (jap (e:=muE) (⟨(zgb s (n-1) p (co g.ts (s.q.g.inp+(n-1)))).1.2.1,qOf (zgb s (n-1) p (co g.ts (s.q.g.inp+(n-1)))).1.2.2⟩) rfl rfl) (zl 4 rfl ?_));refine nf_ [6] [so 2 _,so 3 _,so 4 _,so 7 _,so 8 (D.v (V.one (Leaf.own 4 (v_+1)))),so 9 _] [_,_,_,_,hgr 109 7 muE (out++[⟨(zgb s (n-1) p (co g.ts (s.q.g.inp+(n-1)))).1.2.1,qOf (zgb s (n-1) p (co g.ts (s.q.g.inp+(n-1)))).1.2.2⟩]) (v_+1),none,none] rfl rfl rfl (zc 2 rfl ?_);refine tq_ rfl (zaN rfl rfl rfl (r:=(((n-1:Nat):Int)-1)) (w64 (by omega) (by omega) (by omega))) (zl 2 rfl (zaM 5 rfl ?_));exact nx_ ⟨n-1,_,_,_,rfl,rfl,rfl,hR.step h0 hp hc hrm hrb⟩ rfl
 .refine tq_ rfl (geF rfl) (zl 9 rfl ?_);have hn0:n=0:=by omega
  subst hn0;have hcof:=hR.cof;have hmb:=hR.mb;have hlen:=hR.len;have hbk:=zh4 hR.q.fin;refine zc 1 rfl (tq_ rfl (ze8 (r:=4) (n:=v_) (x:=V.one (Leaf.own 4 v_)) (x':=V.one (El.row muE out)) (zk9 rfl rfl) (RowAt.ofE muE out rfl (by decide)) (by decide) (.inr ⟨rfl,rfl⟩)) (zk5 (te_ rfl (zia (i:=5) rfl fn55 rfl (znw out (by assumption) (by assumption) (by omega) (by omega)) (by decide) rfl) (zl 7 rfl ?_))));refine nf_ [0,3] [so 3 _,so 4 _,so 8 (D.v (V.one (Leaf.own 5 0)))] [none,_,_,none,_,hgr 109 7 muE (zcy out) 0] rfl rfl rfl (zc 8 rfl ?_);exact zph (fun _ _ h=>h) hX rfl (rA zjz rfl rfl rfl rfl) (rowOk.own rfl rfl (by rw[hbk])) rfl (by rw[hbk]) (by rw[hbk])
set_option maxHeartbeats 2000000 in
theorem zDR(s:Sc)(f:Af){kf:Nat->Nat}{d:Nat}(ha:BkA s kf d f):Ctr Tryz.prog 16 [scV s,afV f] (R.tup [afV (zdf s f).1,V.one (El.row muE (zdf s f).2.1),V.one (Leaf.val (.bool (zdf s f).2.2))]):=by
 refine bd_ Tryz.func16 Tryz.ntmps16 rfl (fun w0 A0=>?_);have hs:=ha.sb;have hB:=hs.B;have hq:=hs.q;have hd:=hs.d;have hpl:=hs.pl;have hl:=hs.ll;have hg:=hq.g;have hr:=hq.r;have hlo:=hr.lo;have hhi:=hr.hi;have h1:=hg.i1;have h2:=hg.i3;have h3:=hg.u4;have h4:=hg.o1;have h5:=hg.o3;have hfd:=ha.cd.fok;have hlim:=ha.lim;refine zc 11 rfl (dr_ 0 [] [] (dz 2 rfl (kc_ zwL rfl (zdQ s.q hq) (dz 6 rfl (kc_ zCI rfl (zlm s.q.g (by assumption)) (kc_ zAz rfl (zf9 f hfd (by omega) (s.q.g.inp+s.q.g.us.length) (zEt _) (by omega)) (dz 2 rfl (zae (za 5 rfl ?_)))))))));refine nz_ [so 2 (D.ptr 0 0),so 3 _,so 4 _] [hb_ 43 (scL s),hb_ 38 (afL f),_] rfl rfl (zc 16 rfl (tq_ rfl (jln rfl) (tq_ rfl (zaN rfl rfl rfl (r:=(((s.q.g.us.length:Nat):Int)-1)) (w64 (by omega) (by omega) (by omega))) (zl 4 rfl ?_))));refine zbv (fun m Γ H=>∃(n:Nat) (g:Af) (l:List Mu),n=m/\Γ=[(2,some (D.ptr 0 0)),(3,some (D.ptr 1 0)),(4,some (D.ptr 2 0)),(7,some (D.v (V.one (El.row muE l)))),(9,some (D.val (.int .i64 ((n:Int)-1))))]/\H=[hb_ 43 (scL s),hb_ 38 (afL g),hb_ 38 [El.row tmE ([]),Leaf.val (.bool false),zaf ([]),zaf ([])]]/\BkQ s f n g l) ⟨s.q.g.us.length,f,[],rfl,rfl,rfl,BkQ.start⟩ rfl ?_;rintro m Γ H ⟨n,g,l,rfl,rfl,rfl,hR⟩;refine zc 2 rfl (nz_ [so 2 (D.ptr 0 0),so 3 (D.ptr 1 0),so 4 (D.ptr 2 0),so 7 (D.v (V.one (El.row muE l))),so 9 (D.val (.int .i64 ((n:Int)-1)))] [hb_ 43 (scL s),hb_ 38 (afL g),hb_ 38 [El.row tmE ([]),Leaf.val (.bool false),zaf ([]),zaf ([])]] rfl rfl (zc 2 rfl ?_));by_cases h0:0<n
 .refine tq_ rfl (geT rfl) (zl 8 rfl ?_);have hnl:=hR.le;obtain⟨p,hp⟩:∃p,s.q.g.us[n-1]?=some p:=⟨_,zEp (by omega)⟩;have hfg:=hR.fl ha;haveI:=hfg.fm (by omega);haveI:=hfg.cb;obtain⟨hMl,hll⟩:=hR.bd ha;refine zc 5 rfl (eq_ (D.val (.int .i64 (((n-1):Nat):Int))) rfl (congrArg (fun z=>D.val (.int .i64 z)) (show((n:Int)-1)=(((n-1):Nat):Int) by omega)) (tc_ fn57 rfl (rpl_r s hs (n-1) p hp g hfg (by omega) l hMl (by omega) (by omega)) (zl 10 rfl ?_)));refine nz_ [so 2 _,so 3 _,so 4 _,so 7 (D.v (V.one (El.row muE ((bkP s g l (n-1)).2.1)))),so 8 (D.bool ((bkP s g l (n-1)).2.2)),so 9 _] [_,hb_ 38 (afL ((bkP s g l (n-1)).1)),_] rfl rfl (zc 5 rfl ?_);refine zao rfl (fun hok=>?_) (fun hok=>?_)
  .refine zc 8 rfl ?_;exact r3_ hq_ rfl (by rw[zgF (hR.stop h0 (bkP_f (by simpa using hok)))];show _=R.tup [afV fZ,V.one (El.row muE []),_];rw[afZ] <;> rfl)
  .refine zc 5 rfl (tq_ rfl (zaN rfl rfl rfl (r:=(((n-1:Nat):Int)-1)) (w64 (by omega) (by omega) (by omega))) (zl 2 rfl ?_));exact nx_ ⟨n-1,_,_,rfl,rfl,rfl,hR.next h0 (by simpa using hok)⟩ rfl
 .refine tq_ rfl (geF rfl) (zl 9 rfl ?_);have hn0:n=0:=by omega
  subst hn0;refine nf_ [0] [so 3 _,so 4 _,so 7 _] [none,_,_] rfl rfl rfl (zc 8 rfl ?_);exact r3_ hq_ rfl (by rw[zh4 hR.fin])
set_option maxHeartbeats 2000000 in
theorem zpx(s:Sc)(f:Af){kf:Nat->Nat}{d:Nat}(ha:BkA s kf d f):Ctr Tryz.prog 19 [V.agg [],scV s,afV f] (R.tup [qV (qOf (zb3 s f).1),V.one (El.row muE (zb3 s f).2.1),V.one (Leaf.val (.bool (zb3 s f).2.2))]):=by
 refine bd_ Tryz.func19 Tryz.ntmps19 rfl (fun w0 A0=>?_);have hs:=ha.sb;have hB:=hs.B;have hq:=hs.q;have hd:=hs.d;have hpl:=hs.pl;have hl:=hs.ll;have hg:=hq.g;have hr:=hq.r;have hlo:=hr.lo;have hhi:=hr.hi;have h1:=hg.i1;have h2:=hg.i3;have h3:=hg.u4;have h4:=hg.o1;have h5:=hg.o3;refine zc 14 rfl (zk5 (te_ rfl (zia (i:=4) rfl fn15 rfl (zDS s f ha) (by decide) rfl) (zl 11 rfl ?_)));refine nz_ [so 3 (D.ptr 0 0),so 4 (D.ptr 1 0),so 5 (D.ptr 2 0),so 6 (D.ptr 3 0),so 9 (D.v (V.one (Leaf.own 4 0))),so 10 (D.bool ((zdf s f).2.2))] [hb_ 56 [],hb_ 43 (scL s),hb_ 38 (afL ((zdf s f).1)),hb_ 36 [Leaf.val (.bool false),zaf ([]),zaf ([])],hgr 109 7 muE ((zdf s f).2.1) 0] rfl rfl (zc 5 rfl ?_);refine zao rfl (fun hok=>?_) (fun hok=>?_)
 .refine zc 8 rfl ?_;exact r3_ hq_ rfl (by rw[zeQ (zDQ (by simpa using hok))];show _=R.tup [qV (qOf 0),_,_];rw[<-zc8] <;> rfl)
 .refine zc 3 rfl ?_;have hbk:=zDP (s:=s) (f:=f) (by simpa using hok);have hbf:=znD ha hbk;obtain⟨hbx,hsy⟩:=znE ha hbk;have hgf:FOk 600000000 (s.q.g.inp+s.q.g.us.length) (zdf s f).1:=hbf.fok.mono (zEt _) (by omega);haveI:=ztj ha hbk;have hbd:=zkX hs hgf.fl;have hl1:=hbf.len;have hl2:=hbd.len;have hmA:=hbf.mb;have hmB:=hbd.bd;have hcof:zje ((zdf s f).2.1++(zbM s (zdf s f).1).2.1):=zzw hbf.can hbd.can;have hmb:MB 9000000000 ((zdf s f).2.1++(zbM s (zdf s f).1).2.1):=zBF hmA hmB (by omega) (by omega);have hcl:((zdf s f).2.1++(zbM s (zdf s f).1).2.1).length<=19:=by rw[zEF];omega
  refine zc 1 rfl (tq_ rfl (zlb (i:=0) rfl rfl rfl (by decide) rfl (by kernel_rfl) (by kernel_rfl)) (tq_ rfl (zvQ (i:=0) rfl rfl rfl (by decide) ty54 rfl (zEw rfl) rfl) (zl 2 rfl (tc_ fn58 rfl (zzE s hs (zdf s f).1 hgf (by omega)) (zl 4 rfl (is_ true rfl (hbx) (zl 8 rfl ?_)))))));refine nf_ [0,1,2] [so 6 _,so 9 _,so 10 (D.bool true),so 11 (D.ptr 5 0),so 12 (D.v (V.one (El.row muE ((zbM s ((zdf s f).1)).2.1))))] [none,none,none,_,_,hb_ 36 (qL ((zbM s ((zdf s f).1)).1))] rfl rfl rfl (zc 12 rfl (te_ rfl (jal rfl rfl) ?_));refine zvG 40 (x':=V.one (El.row muE ((zdf s f).2.1++(zbM s ((zdf s f).1)).2.1))) rfl (RowAt.ofE muE ((zdf s f).2.1++(zbM s ((zdf s f).1)).2.1) rfl (by decide)) (.inr ⟨rfl,rfl⟩) (zk5 (te_ rfl (zia (i:=6) rfl fn55 rfl (znw ((zdf s f).2.1++(zbM s ((zdf s f).1)).2.1) (by assumption) (by assumption) (by omega) (by omega)) (by decide) rfl) (zl 8 rfl ?_)));refine nz_ [so 6 _,so 11 _,so 13 (D.v (V.one (Leaf.own 6 0)))] [none,none,none,_,hgr 109 7 muE ((zdf s f).2.1++(zbM s ((zdf s f).1)).2.1) 1,_,hgr 109 7 muE (zcy ((zdf s f).2.1++(zbM s ((zdf s f).1)).2.1)) 0] rfl rfl (zc 8 rfl ?_);refine zgI 7 (x':=V.one (El.row muE (zcy ((zdf s f).2.1++(zbM s ((zdf s f).1)).2.1)))) rfl (RowAt.ofE muE (zcy ((zdf s f).2.1++(zbM s ((zdf s f).1)).2.1)) rfl (by decide)) (.inr ⟨rfl,rfl⟩) ?_;exact r3_ hq_ rfl (by rw[hsy,<-zu9 hbf.can])
set_option maxHeartbeats 2000000 in
theorem symr(s:Sc)(f:Af){kf:Nat->Nat}{d:Nat}(ha:BkA s kf d f):Ctr Tryz.prog 20 [scV s,afV f] (R.tup [qV (qOf (zb3 s f).1),V.one (El.row muE (zb3 s f).2.1),V.one (Leaf.val (.bool (zb3 s f).2.2))]):=by
 refine bd_ Tryz.func20 Tryz.ntmps20 rfl (fun w0 A0=>?_);have hs:=ha.sb;have hB:=hs.B;have hq:=hs.q;have hd:=hs.d;have hpl:=hs.pl;have hl:=hs.ll;have hg:=hq.g;have hr:=hq.r;have hlo:=hr.lo;have hhi:=hr.hi;have h1:=hg.i1;have h2:=hg.i3;have h3:=hg.u4;have h4:=hg.o1;have h5:=hg.o3;refine zc 13 rfl (tc_ fn16 rfl (zDR s f ha) (zl 12 rfl (nf_ [1] [so 2 (D.ptr 0 0),so 4 (D.ptr 2 0),so 7 (D.ptr 3 0),so 8 (D.v (V.one (El.row muE ((zdf s f).2.1)))),so 9 (D.bool ((zdf s f).2.2))] [hb_ 43 (scL s),none,hb_ 36 [Leaf.val (.bool false),zaf ([]),zaf ([])],hb_ 38 (afL ((zdf s f).1))] rfl rfl rfl (zc 5 rfl ?_))));refine zao rfl (fun hok=>?_) (fun hok=>?_)
 .refine zc 8 rfl ?_;exact r3_ hq_ rfl (by rw[zeQ (zDQ (by simpa using hok))];show _=R.tup [qV (qOf 0),_,_];rw[<-zc8] <;> rfl)
 .refine zc 3 rfl ?_;have hbk:=zDP (s:=s) (f:=f) (by simpa using hok);have hbf:=znD ha hbk;obtain⟨hbx,hsy⟩:=znE ha hbk;have hgf:FOk 600000000 (s.q.g.inp+s.q.g.us.length) (zdf s f).1:=hbf.fok.mono (zEt _) (by omega);haveI:=ztj ha hbk;have hbd:=zkX hs hgf.fl;have hl1:=hbf.len;have hl2:=hbd.len;have hmA:=hbf.mb;have hmB:=hbd.bd;refine zc 3 rfl (tc_ fn41 rfl (boxr s hs (zdf s f).1 hgf (by omega)) (zl 11 rfl (nf_ [0,3] [so 4 _,so 8 _,so 10 (D.ptr 4 0),so 11 (D.v (V.one (El.row muE ((zbM s ((zdf s f).1)).2.1))))] [none,none,_,none,hb_ 36 (qL ((zbM s ((zdf s f).1)).1))] rfl rfl rfl (dr_ 0 [(5,2)] [2] (dz 3 rfl (kc_ zmm rfl (zlL 1 (by decide) (by decide)) ?_))))));refine kc_ fn59 rfl (zrW (zdf s f).2.1 (zbM s (zdf s f).1).2.1 ((1:Int):Rat) hmA hmB (by omega) (by omega) (by omega)) (dz 3 rfl (zae (za 1 rfl ?_)));exact r3_ hq_ rfl (by rw[hsy])
theorem zzH(t1 t2:Nat)(c1 c2:List Value):Ctr Tryz.prog 79 [V.one (Leaf.val (ifV t1 c1)),V.one (Leaf.val (ifV t2 c2))] (R.one (V.one (Leaf.val (ifV 193 [ifV t1 c1,ifV t2 c2])))):=by
 refine bd_ Tryz.func79 Tryz.ntmps79 rfl (fun w0 A0=>?_);refine zc 9 rfl (tq_ rfl (zfa rfl rfl rfl (by kernel_rfl)) (zl 2 rfl (tq_ rfl (zfa rfl rfl rfl (by kernel_rfl)) (zl 11 rfl (tq_ rfl (zfw (vs:=[ifV t1 c1,ifV t2 c2]) rfl rfl (by kernel_rfl)) (zl 3 rfl ?_))))));exact r1_ hq_ rfl rfl
theorem zqk (d1 d2:Dom) (t1 f1 t2 f2:Nat) (c1 c2:List Value) (ho1:c1.all Value.oneCell'=true) (ho2:c2.all Value.oneCell'=true) (hm1:zjm Tryz.prog t1 "Lower" = some f1) (hm2:zjm Tryz.prog t2 "Lower" = some f2) (hf1:zaq Tryz.prog f1) (hf2:zaq Tryz.prog f2) (s:Sc) (f:Af) {B C:Nat} [b1:Br (d1 s f).1 B] [b2:Br (d2 s f).1 C] (hB:B<=100000000000) (hC:C<=100000000000) (hL1:Ctr Tryz.prog f1 [V.agg (ztR c1),scV s,afV f] (R.tup [qV (qOf (d1 s f).1),V.one (El.row muE (d1 s f).2.1),V.one (Leaf.val (.bool (d1 s f).2.2))])) (hL2:Ctr Tryz.prog f2 [V.agg (ztR c2),scV s,afV f] (R.tup [qV (qOf (d2 s f).1),V.one (El.row muE (d2 s f).2.1),V.one (Leaf.val (.bool (d2 s f).2.2))])):Ctr Tryz.prog 276 [V.agg [Leaf.val (ifV t1 c1),Leaf.val (ifV t2 c2)],scV s,afV f] (R.tup [qV (qOf (zcA d1 d2 s f).1),V.one (El.row muE (zcA d1 d2 s f).2.1),V.one (Leaf.val (.bool (zcA d1 d2 s f).2.2))]):=by
 refine bd_ Tryz.func276 Tryz.ntmps276 rfl (fun w0 A0=>?_);refine zc 16 rfl (te_ rfl (zfb rfl rfl hm1 hf1 rfl (hL1) ho1) (zl 16 rfl (te_ rfl (zfb rfl rfl hm2 hf2 rfl (hL2) ho2) (zl 15 rfl ?_))));refine zdM rfl (fun hb2=>?_) (fun hb2=>?_)
 .refine zl 24 rfl ?_;exact r3_ hq_ rfl (by rw[zfY (fun h=>by rw[hb2] at h;exact absurd h.1 (by decide))])
 .refine zl 3 rfl ?_;refine zdM rfl (fun hb1=>?_) (fun hb1=>?_)
  .refine zl 2 rfl (tc_ zuQ rfl (zuv (qOf ((d2 s f).1)) ((d2 s f).1) (zaj _) (Br.use (by omega)) (qOf ((d1 s f).1)) ((d1 s f).1) (zaj _) (Br.use (by omega))) ?_);by_cases hlt:(d1 s f).1<(d2 s f).1
   .refine tq_ rfl (gtT rfl (by rw[zdB];exact hlt)) (zl 14 rfl ?_);exact r3_ hq_ rfl (by rw[zha hb2 (.inr hlt)])
   .refine tq_ rfl (gtF rfl (by rw[zdB];exact hlt)) (zl 17 rfl ?_);exact r3_ hq_ rfl (by rw[zfY (fun h=>h.2.elim (fun e=>by rw[e] at hb1;exact absurd hb1 (by decide)) hlt)])
  .refine zl 18 rfl ?_;exact r3_ hq_ rfl (by rw[zha hb2 (.inl (by simpa using hb1))])
set_option maxHeartbeats 2000000 in
theorem zBo(n:Nat)(hn:n<=2)(s:Sc)(f:Af){kf:Nat->Nat}{d:Nat}(ha:BkA s kf d f):Ctr Tryz.prog 43 [V.one (Leaf.val (.int .i64 ((n:Int)))),scV s,afV f] (R.tup [qV (qOf ((zay n) s f).1),V.one (El.row muE ((zay n) s f).2.1),V.one (Leaf.val (.bool ((zay n) s f).2.2))]):=by
 refine bd_ Tryz.func43 Tryz.ntmps43 rfl (fun w0 A0=>?_);have hs:=ha.sb;have hB:=hs.B;have hq:=hs.q;have hd:=hs.d;have hpl:=hs.pl;have hl:=hs.ll;have hg:=hq.g;have hr:=hq.r;have hlo:=hr.lo;have hhi:=hr.hi;have h1:=hg.i1;have h2:=hg.i3;have h3:=hg.u4;have h4:=hg.o1;have h5:=hg.o3;have hlim:=ha.lim;have hfo:=ha.cd.fok;haveI:=zkY ha;haveI:=zmY ha;refine zc 13 rfl (tc_ fn41 rfl (boxr s hs f hfo (by omega)) (zl 11 rfl (nz_ [so 0 (D.val (.int .i64 (n:Int))),so 4 (D.ptr 0 0),so 5 (D.ptr 1 0),so 6 (D.ptr 2 0),so 9 (D.ptr 3 0),so 10 (D.v (V.one (El.row muE ((zbM s f).2.1)))),so 11 (D.bool ((zbM s f).2.2))] [hb_ 43 (scL s),hb_ 38 (afL f),_,hb_ 36 (qL ((zbM s f).1))] rfl rfl (zc 3 rfl ?_))));refine tc_ fn20 rfl (symr s f ha) (zl 12 rfl (nf_ [0,1] [so 0 _,so 6 _,so 9 _,so 10 _,so 11 _,so 12 (D.ptr 4 0),so 13 (D.v (V.one (El.row muE ((zb3 s f).2.1)))),so 14 (D.bool ((zb3 s f).2.2))] [none,none,_,_,hb_ 36 (qL ((zb3 s f).1))] rfl rfl rfl (zc 2 rfl ?_)));by_cases h0:n=0
 .refine tq_ rfl (eqT rfl) (zl 21 rfl (nf_ [4] [so 6 _,so 9 _,so 10 _,so 11 _] [none,none,_,_,none] rfl rfl rfl (zc 9 rfl ?_)));exact r3_ hq_ rfl (by rw[zBt h0])
 .refine tq_ rfl (eqF rfl) (zl 2 rfl ?_);by_cases h2:n=2
  .refine tq_ rfl (eqT rfl) (zl 4 rfl ?_);refine zdM rfl (fun hok=>?_) (fun hok=>?_)
   .refine zl 16 rfl (nf_ [3] [so 6 _,so 12 _,so 13 _,so 14 _] [none,none,_,none,_] rfl rfl rfl (zc 9 rfl ?_));exact r3_ hq_ rfl (by rw[zos h2,zDI hok])
   .refine zl 3 rfl ?_;refine zdM rfl (fun his=>?_) (fun his=>?_)
    .refine zl 2 rfl (tc_ zuR rfl (zkc (qOf ((zbM s f).1)) ((zbM s f).1) (zaj _) (Br.use (by omega)) (qOf ((zb3 s f).1)) ((zb3 s f).1) (zaj _) (Br.use (by omega))) ?_);by_cases hle:(zb3 s f).1<=(zbM s f).1
     .refine tq_ rfl (geT rfl (zg6.2 hle)) (zl 7 rfl (nf_ [4] [so 6 _,so 9 _,so 10 _,so 11 _] [none,none,_,_,none] rfl rfl rfl (zc 9 rfl ?_)));exact r3_ hq_ rfl (by rw[zos h2,zzL hok hle])
     .refine tq_ rfl (geF rfl (fun e=>hle (zg6.1 e))) (zl 9 rfl (nf_ [3] [so 6 _,so 12 _,so 13 _,so 14 _] [none,none,_,none,_] rfl rfl rfl (zc 9 rfl ?_)));exact r3_ hq_ rfl (by rw[zos h2,zzK (by simpa using his) hle])
    .refine zl 11 rfl (nf_ [4] [so 6 _,so 9 _,so 10 _,so 11 _] [none,none,_,_,none] rfl rfl rfl (zc 9 rfl ?_));exact r3_ hq_ rfl (by rw[zos h2,zzM (by simpa using his)])
  .refine tq_ rfl (eqF rfl) (zl 20 rfl (nf_ [3] [so 6 _,so 12 _,so 13 _,so 14 _] [none,none,_,none,_] rfl rfl rfl (zc 9 rfl ?_)));exact r3_ hq_ rfl (by rw[zBs h0 h2 hn])
theorem zxB(l:List Mu)(hl:l.length<=1000000):Ctr Tryz.prog 18 [V.one (El.row muE l),V.one (El.row muE l)] (R.one (V.one (Leaf.val (.bool true)))):=by
 refine bd_ Tryz.func18 Tryz.ntmps18 rfl (fun w0 A0=>?_);refine zc 9 rfl (tq_ rfl (jln rfl) (zl 1 rfl (tq_ rfl (jln rfl) (tq_ rfl (neF rfl) (zl 12 rfl (zbv (fun m Γ H=>∃(i:Nat),l.length-i=m/\Γ=[(0,some (D.v (V.one (El.row muE l)))),(1,some (D.v (V.one (El.row muE l)))),(5,some (D.val (.int .i64 (i:Int))))]/\H=[]/\i<=l.length) ⟨0,rfl,rfl,rfl,zEv _⟩ rfl ?_))))));rintro m Γ H ⟨i,rfl,rfl,rfl,hi0⟩;refine zc 5 rfl (tq_ rfl (jln rfl) ?_);by_cases hi:i<l.length
 .refine tq_ rfl (ltT rfl) (zl 8 rfl ?_);obtain⟨x,hx⟩:∃x,l[i]?=some x:=⟨_,zEp hi⟩;refine dr_ 0 [] [] (dz 2 rfl (kq_ rfl (jix i hx rfl) (kq_ rfl (jft rfl) (kq_ rfl (jlr rfl) (dz 2 rfl (kq_ rfl (jix i hx rfl) (kq_ rfl (jft rfl) (kq_ rfl (jlr rfl) (kq_ rfl (zAh rfl rfl rfl zlO (d:=false) (by rw[zzq rfl];rfl)) ?_)))))))));refine dz 3 rfl (kq_ rfl (jix i hx rfl) (kq_ rfl (jfr rfl) (kq_ rfl (jlr rfl) (dz 2 rfl (kq_ rfl (jix i hx rfl) (kq_ rfl (jfr rfl) (kq_ rfl (jlr rfl) (kc_ zzj rfl (zil x.c x.c) (zg2 true rfl (zfe _) ?_)))))))));refine dz 2 rfl (zae (za 7 rfl (tq_ rfl (jad (i+1) rfl) (zl 2 rfl ?_))));exact nx_ ⟨i+1,rfl,rfl,rfl,hi⟩ rfl
 .refine tq_ rfl (ltF rfl) (zl 13 rfl ?_);exact r1_ hq_ rfl rfl
theorem zxC(l:List Lm)(hl:l.length<=1000000)(hp:∀m∈l,m.pf.length<=1000000):Ctr Tryz.prog 39 [V.one (El.row lmE l),V.one (El.row lmE l)] (R.one (V.one (Leaf.val (.bool true)))):=by
 refine bd_ Tryz.func39 Tryz.ntmps39 rfl (fun w0 A0=>?_);refine zc 9 rfl (tq_ rfl (jln rfl) (zl 1 rfl (tq_ rfl (jln rfl) (tq_ rfl (neF rfl) (zl 12 rfl (zbv (fun m Γ H=>∃(i:Nat),l.length-i=m/\Γ=[(0,some (D.v (V.one (El.row lmE l)))),(1,some (D.v (V.one (El.row lmE l)))),(5,some (D.val (.int .i64 (i:Int))))]/\H=[]/\i<=l.length) ⟨0,rfl,rfl,rfl,zEv _⟩ rfl ?_))))));rintro m Γ H ⟨i,rfl,rfl,rfl,hi0⟩;refine zc 5 rfl (tq_ rfl (jln rfl) ?_);by_cases hi:i<l.length
 .refine tq_ rfl (ltT rfl) (zl 8 rfl ?_);obtain⟨x,hx⟩:∃x,l[i]?=some x:=⟨_,zEp hi⟩;have hpx:=hp x (zEq hx);refine dr_ 0 [] [] (dz 2 rfl (kq_ rfl (jix i hx rfl) (kq_ rfl (jfr rfl) (kq_ rfl (jli rfl) (dz 2 rfl (kq_ rfl (jix i hx rfl) (kq_ rfl (jfr rfl) (kq_ rfl (jli rfl) (kq_ rfl (neF rfl) ?_)))))))));refine dz 3 rfl (kq_ rfl (jix i hx rfl) (kq_ rfl (jfr rfl) (kq_ rfl (jli rfl) (dz 2 rfl (kq_ rfl (jix i hx rfl) (kq_ rfl (jfr rfl) (kq_ rfl (jli rfl) (kq_ rfl (zbC rfl rfl rfl un4 (d:=false) (by simp)) (dz 4 rfl ?_)))))))));refine kq_ rfl (jix i hx rfl) (kq_ rfl (jft rfl) (kq_ rfl (jlr rfl) (dz 2 rfl (kq_ rfl (jix i hx rfl) (kq_ rfl (jft rfl) (kq_ rfl (jlr rfl) (kc_ zzj rfl (zil x.v x.v) (zg2 true rfl (zfe _) (dz 5 rfl ?_)))))))));refine kq_ rfl (jix i hx rfl) (kq_ rfl (jfr rfl) (kq_ rfl (jli rfl) (dz 2 rfl (kq_ rfl (jix i hx rfl) (kq_ rfl (jfr rfl) (kq_ rfl (jli rfl) (kc_ fn18 rfl (zxB x.pf hpx) (dz 2 rfl (zae ?_)))))))));refine za 7 rfl (tq_ rfl (jad (i+1) rfl) (zl 2 rfl ?_));exact nx_ ⟨i+1,rfl,rfl,rfl,hi⟩ rfl
 .refine tq_ rfl (ltF rfl) (zl 13 rfl ?_);exact r1_ hq_ rfl rfl
theorem zn6(s:Sc)(hs:SOk s)(j:Nat)(up:Bool)(x:Rat)(pf:List Mu){B:Nat}[Br x B](hx:B<=100000000):Ctr Tryz.prog 92 [scV s,lmV ⟨(j:Int),up,qOf x,pf⟩] (R.one (V.one (Leaf.val (.bool (zb4 s.lems j up x))))):=by
 refine bd_ Tryz.func92 Tryz.ntmps92 rfl (fun w0 A0=>?_);have hq:=hs.q;have hd:=hs.d;have hpl:=hs.pl;have hB:=hs.B;have hll:=hs.ll;have hg:=hq.g;have hr:=hq.r;have hlo:=hr.lo;have hhi:=hr.hi;have g1:=hg.i1;have g2:=hg.i3;have g3:=hg.u4;have g4:=hg.o1;have g5:=hg.o3;refine zc 12 rfl (tc_ zwM rfl (zhq s (by assumption) (by omega) (by omega) (j:Int)) (zl 14 rfl ?_));refine zao rfl (fun hup=>?_) (fun hup=>?_)
 .refine zc 1 rfl (dr_ 0 [] [] (dz 1 rfl ?_));by_cases hv:(zak s.lems (j:Int)).2=0
  .refine kq_ rfl (eqT rfl) (dz 14 rfl (zae (za 1 rfl ?_)));exact r1_ hq_ rfl (by have hu_:up=true:=hup;rw[hu_,zf4 (.inl hv)])
  .refine kq_ rfl (eqF rfl) (dz 5 rfl ?_);obtain⟨y,hy,_,_,hly,hy0,hyl⟩:=zbu hv;haveI hyB:=hB y (zEq hy);refine dz 1 rfl (kq_ rfl (jsb (((zak s.lems (j:Int)).2)-1) rfl) (kq_ rfl (jix ((zak s.lems (j:Int)).2-1) hy rfl) (kq_ rfl (jft rfl) (kq_ rfl (jlr rfl) (kc_ zuR rfl (zkc (qOf (x)) (x) (zaj _) (Br.use (by omega)) y.v (y.v.q) rfl (Fq.use (x:=y.v) (by omega))) ?_)))));by_cases hc:x<lv s.lems (zak s.lems (j:Int)).2
   .refine kq_ rfl (ltT rfl (by rw[zfV,<-hly];exact hc)) (dz 2 rfl (zae (za 1 rfl ?_)));exact r1_ hq_ rfl (by have hu_:up=true:=hup;rw[hu_,zf4 (.inr hc)])
   .refine kq_ rfl (ltF rfl (by rw[zfV,<-hly];exact hc)) (dz 2 rfl (zae (za 1 rfl ?_)));exact r1_ hq_ rfl (by have hu_:up=true:=hup;rw[hu_,zlv hv hc])
 .refine zc 3 rfl (dr_ 0 [] [] (dz 1 rfl ?_));by_cases hv:(zak s.lems (j:Int)).1=0
  .refine kq_ rfl (eqT rfl) (dz 14 rfl (zae (za 1 rfl ?_)));exact r1_ hq_ rfl (by have hu_:up=false:=hup;rw[hu_,zf5 (.inl hv)])
  .refine kq_ rfl (eqF rfl) (dz 5 rfl ?_);obtain⟨y,hy,_,_,hly,hy0,hyl⟩:=zbj hv;haveI hyB:=hB y (zEq hy);refine dz 1 rfl (kq_ rfl (jsb (((zak s.lems (j:Int)).1)-1) rfl) (kq_ rfl (jix ((zak s.lems (j:Int)).1-1) hy rfl) (kq_ rfl (jft rfl) (kq_ rfl (jlr rfl) (kc_ zuR rfl (zkc (qOf (x)) (x) (zaj _) (Br.use (by omega)) y.v (y.v.q) rfl (Fq.use (x:=y.v) (by omega))) ?_)))));by_cases hc:lv s.lems (zak s.lems (j:Int)).1<x
   .refine kq_ rfl (gtT rfl (by rw[zdB,<-hly];exact hc)) (dz 2 rfl (zae (za 1 rfl ?_)));exact r1_ hq_ rfl (by have hu_:up=false:=hup;rw[hu_,zf5 (.inr hc)])
   .refine kq_ rfl (gtF rfl (by rw[zdB,<-hly];exact hc)) (dz 2 rfl (zae (za 1 rfl ?_)));exact r1_ hq_ rfl (by have hu_:up=false:=hup;rw[hu_,zlw hv hc])
end Go.Proofs.YtjeiacoegppoiaaGreatDoor
namespace Rc
open Go Go.RowKit Go.ChangeShapes Go.WideShapes
section
variable {H:Type}{enc:TypeId×Value->H}{P:Program}{w:World}{base:Nat}{held:Bool}
@[reducible] def here(w:World):Foot:=Foot.of fun k _=>k<w.heap.size
theorem zxi{n:Int}(h:(Lit.int .u8 n).wf=true):0<=n/\n<=255:=by
 simp[Lit.wf,IntKind.min,IntKind.max,IntKind.bits,IntKind.signed] at h;omega
theorem zzC{a:Addr}{v:Value}(h:w.cell? a=some v):a.block<w.heap.size:=by
 unfold World.cell? at h
 cases hb:w.heap[a.block]? with
 |none=>rw[hb] at h;simp at h
 |some o=>exact(zEO.1 hb).1
variable {tb tn tu tr:Nat}
theorem zwm{t:Nat}(ht:P.underlying t=some (.int .u8)){r:Reach}{b0:Nat}{v:Value}{d:DataW H}{p:List MemPlace}(hv:Value.okWide P w r b0 t v)(h:DataW.Trod enc P w base (fun _=>true) held t v d p) :
  ∃n:Nat,n<256/\(V.one (Leaf.val (.int .u8 n))).den (here w) v w:=by
 obtain⟨x,rfl,_,_,hw⟩:=open_int ht hv h;have:=zxi hw;exact⟨x.toNat,by omega,by show _=_;congr 1;omega,rfl⟩
end
theorem zr6{P:Program}{f:Nat}{xs:List V}{w:World}{vs:List Value}(h:Ctr P f xs (R.one (V.one (Leaf.val (.bool true)))))(hg:ztP w)(hd:denVs (here w) xs vs w) :
  Calls P f vs.toArray w fun e w'=>e = .returned (.bool true)/\Below w.heap.size w w':=by
 refine Calls.mono (h w vs (fun k _=>k<w.heap.size) hg (fun _ _ hk=>hk) hd) ?_;rintro e w' ⟨v,rfl,hv,hb⟩;obtain⟨rfl,_⟩:v = .bool true/\_:=hv;exact⟨rfl,hb⟩
theorem zv4:∀l:List Nat,u8E.all l=l.map fun(x:Nat)=>Leaf.val (.int .u8 (x:Int))
 |[]=>rfl
 |x::l=>by show u8E.f x++u8E.all l=_;rw[zv4 l];rfl
section
variable {H:Type}{enc:TypeId×Value->H}{P:Program}{w:World}{base:Nat}{held:Bool}
theorem zlS{t u:Nat}(ht:P.underlying t=some (.slice u))(hu:P.underlying u=some (.int .u8))(hc:P.cellsOf u=1){r:Reach}{b0:Nat}{v:Value}{d:DataW H}{p:List MemPlace}(hv:Value.okWide P w r b0 t v)
  (h:DataW.Trod enc P w base (fun _=>true) held t v d p):∃l:List Nat,l.length<=maxLen/\(∀x∈l,x<256)/\(V.one (u8E.row l)).den (here w) v w:=by
 obtain⟨a0,len0,cap0,rfl⟩:=okWide_slice ht hv;obtain⟨fuel,hf⟩:=h;rcases open_ints ht hu hc hf with⟨hcs,_⟩|⟨a,len,cap,zs,hcs,_,hl,hm,hz,_,hcell,hwf⟩
 .simp[Value.cells] at hcs;obtain⟨rfl,rfl,rfl⟩:=hcs;exact⟨[],zEv _,fun x hx=>by simp at hx,zdu _ _⟩
 .simp[Value.cells] at hcs;obtain⟨rfl,rfl,rfl⟩:=hcs;simp only[if_true] at hz;have hlen:((zs.take len0).map Int.toNat).length=len0:=by simp;omega
  refine⟨(zs.take len0).map Int.toNat,by rw[hlen];omega,?_,?_⟩
  .intro y hy;obtain⟨n,hn,rfl⟩:=List.mem_map.1 hy;have:=zxi (hwf n (List.mem_of_mem_take hn));omega
  .show(zar ((zs.take len0).map Int.toNat).length _).P _ _ _;rw[hlen,zv4];refine⟨some a,cap0,rfl,hl,hm,fun h=>by simp at h,fun ad had=>?_⟩;cases had;refine⟨fun h0=>?_,fun i lf hi=>?_⟩
   .obtain⟨b,off,rfl,_⟩:=ints_at hcell (by first|omega|(simp at h0;omega));rfl
   .rw[List.getElem?_map,List.getElem?_map,List.getElem?_take] at hi;split at hi
    .rename_i hil;have hiz:i<zs.length:=by omega
     obtain⟨b,off,rfl,hc2⟩:=ints_at hcell (by omega);have hci:=hc2 i hiz;rw[zEp hiz] at hi;simp only[Option.map_some,zEs] at hi;subst hi;have hw:=zxi (hwf zs[i] (List.getElem_mem hiz));have hlt:b<w.heap.size:=zzC hci;refine⟨hlt,_,hci,?_,rfl⟩;rw[List.getD_eq_getElem?_getD,zEp hiz];simp only[Option.getD_some];congr 1;omega
    .simp at hi
variable {tb tn tu tr:Nat}
end
structure Tr where
 v:Int
 c:Qr
structure Ar where
 ts:List Tr
 c:Qr
end Rc
namespace Rc
open Go Go.RowKit
theorem zBu{n:Nat}(h:n<=2):n=0\/n=1\/n=2:=by omega
theorem zzN{a b:Dom}{s:Sc}{f:Af}{B:Nat}(ha:Br (a s f).1 B)(hb:Br (b s f).1 B):Br (zcA a b s f).1 B:=by
 rcases zg9 (a:=a) (b:=b) (s:=s) (f:=f) with e|⟨_,e⟩
 .rw[e];exact ha
 .rw[e];exact hb
end Rc
namespace Go.Proofs.YtjeiacoegppoiaaGreatDoor
open Go Go.RowKit Rc
def tyD:Nat->Nat
 |0=>54
 |1=>56
 |_=>193
def csD:Nat->List Value
 |0=>[]
 |1=>[]
 |_=>[ifV 54 [],ifV 56 []]
def loD:Nat->Nat
 |0=>58
 |1=>19
 |_=>276
theorem zDE{n:Nat}(hn:n<=2):(csD n).all Value.oneCell'=true:=by
 rcases zBu hn with e|e|e
 .subst e;exact rfl
 .subst e;exact rfl
 .subst e;exact rfl
theorem zwA:zjm Tryz.prog 54 "Lower" = some 58:=by kernel_rfl
theorem zr0:zjm Tryz.prog 56 "Lower" = some 19:=by kernel_rfl
theorem zwz:zjm Tryz.prog 193 "Lower" = some 276:=by kernel_rfl
theorem low_m {n:Nat} (hn:n<=2):zjm Tryz.prog (tyD n) "Lower" = some (loD n):=by
 rcases zBu hn with e|e|e
 .subst e;exact zwA
 .subst e;exact zr0
 .subst e;exact zwz
theorem low_f{n:Nat}(hn:n<=2):zaq Tryz.prog (loD n):=by
 rcases zBu hn with e|e|e
 .subst e;exact fn58
 .subst e;exact zAA
 .subst e;exact zCK
theorem zo7(s:Sc)(f:Af){kf:Nat->Nat}{d:Nat}(ha:BkA s kf d f):Ctr Tryz.prog 276 [V.agg (ztR [ifV 54 [],ifV 56 []]),scV s,afV f] (R.tup [qV (qOf (zcA zbM zb3 s f).1),V.one (El.row muE (zcA zbM zb3 s f).2.1),V.one (Leaf.val (.bool (zcA zbM zb3 s f).2.2))]):=by
 haveI:=zkY ha;haveI:=zmY ha;have hlim:=ha.lim;exact zqk zbM zb3 54 58 56 19 [] [] rfl rfl zwA zr0 fn58 zAA s f (B:=5000000000) (C:=5000000000) (by omega) (by omega) (zzE s ha.sb f ha.cd.fok (by omega)) (zpx s f ha)
theorem zx0{n:Nat}(hn:n<=2)(s:Sc)(f:Af){kf:Nat->Nat}{d:Nat}(ha:BkA s kf d f):Ctr Tryz.prog (loD n) [V.agg (ztR (csD n)),scV s,afV f] (R.tup [qV (qOf (zay n s f).1),V.one (El.row muE (zay n s f).2.1),V.one (Leaf.val (.bool (zay n s f).2.2))]):=by
 rcases zBu hn with e|e|e
 .subst e;exact zzE s ha.sb f ha.cd.fok (by have:=ha.lim;omega)
 .subst e;exact zpx s f ha
 .subst e;exact zo7 s f ha
theorem zxE{n:Nat}(hn:n<=2)(s:Sc)(hs:SOk s)(h80:s.lems.length<=80)(bits:Int)(h0:0<=bits)(h4:bits<=4096):Ctr Tryz.prog 37 [V.one (Leaf.val (ifV (tyD n) (csD n))),scV s,V.one (Leaf.val (.int .i64 (bits)))] (R.tup [scV (zbl (zay n) s bits),V.one (Leaf.val (.int .i64 0))]):=
 drun (zay n) (zhk n).ok (tyD n) (loD n) (csD n) (zDE hn) (low_m hn) (low_f hn) (fun s f hs hf=>zx0 hn s f (zi2 hs hf)) s hs h80 bits h0 h4
theorem get_0  : Ctr Tryz.prog 35 [V.one (Leaf.val (.int .i64 (((0:Nat):Int))))] (R.tup [V.one (Leaf.val (ifV 54 [])),V.one (Leaf.val (.bool true))]):=by
 refine bd_ Tryz.func35 Tryz.ntmps35 rfl (fun w0 A0=>?_);refine zc 15 rfl (tq_ rfl (eqT rfl) (zl 7 rfl (tq_ rfl (zfw (vs:=[]) rfl rfl (by kernel_rfl)) (zl 4 rfl ?_))));exact r2_ hq_ rfl rfl
theorem get_1  : Ctr Tryz.prog 35 [V.one (Leaf.val (.int .i64 (((1:Nat):Int))))] (R.tup [V.one (Leaf.val (ifV 56 [])),V.one (Leaf.val (.bool true))]):=by
 refine bd_ Tryz.func35 Tryz.ntmps35 rfl (fun w0 A0=>?_);refine zc 15 rfl (tq_ rfl (eqF rfl) (zl 6 rfl (tq_ rfl (eqT rfl) (zl 7 rfl (tq_ rfl (zfw (vs:=[]) rfl rfl (by kernel_rfl)) (zl 4 rfl ?_))))));exact r2_ hq_ rfl rfl
theorem zBT  : Ctr Tryz.prog 35 [V.one (Leaf.val (.int .i64 (((2:Nat):Int))))] (R.tup [V.one (Leaf.val (ifV 193 [ifV 54 [],ifV 56 []])),V.one (Leaf.val (.bool true))]):=by
 refine bd_ Tryz.func35 Tryz.ntmps35 rfl (fun w0 A0=>?_);refine zc 15 rfl (tq_ rfl (eqF rfl) (zl 6 rfl (tq_ rfl (eqF rfl) (zl 6 rfl (tq_ rfl (eqT rfl) (zl 7 rfl (tq_ rfl (zfw (vs:=[]) rfl rfl (by kernel_rfl)) (zl 1 rfl (tq_ rfl (zfw (vs:=[]) rfl rfl (by kernel_rfl)) ?_)))))))));refine tc_ fn79 rfl (zzH 54 56 [] []) (zl 4 rfl ?_);exact r2_ hq_ rfl rfl
theorem get_n{n:Nat}(hn:n<=2):Ctr Tryz.prog 35 [V.one (Leaf.val (.int .i64 ((n:Int))))] (R.tup [V.one (Leaf.val (ifV (tyD n) (csD n))),V.one (Leaf.val (.bool true))]):=by
 rcases zBu hn with e|e|e
 .subst e;exact get_0
 .subst e;exact get_1
 .subst e;exact zBT
end Go.Proofs.YtjeiacoegppoiaaGreatDoor
