/- Parts of the proof, 15: the texts EvU, Ent, EntA, EntB, EntC, EntD, EvAw, WkWholePoints, FwZ, FactsZ, FwX, FactsX, FactsT, Clo, FactsJ, as far as they are used. -/
import Derived.Test.YtakccfmgipajnaaGreatDoorWp14
import Derived.KernelRfl
import Derived.WalkKit
import Derived.ProofKit
import Derived.OpenShut
import Derived.ShutString
import Derived.ChangeOld
import Derived.Below
import Derived.Test.YtakccfmgipajnaaGreatDoorProg
import Derived.Test.YtakccfmgipajnaaGreatDoorRows
import Derived.LaidMore
import Derived.LaidLaws
import Derived.LaidHandle
import Derived.JoinedOf
import Derived.ChangeSame
import Derived.ChangeVars
import Derived.Stop.Joined
import GoSem.ClaimGoes
set_option linter.unusedSimpArgs false
set_option linter.unusedVariables false
set_option maxRecDepth 10000
namespace Rc
abbrev zaV:=@Decidable.not_not
end Rc
namespace Rc.Ev
noncomputable section
open Go
def QE:Bool:=PP.funcs.toList.all fun fn=>!(decide (fn.name = "runtime.NumGoroutine"))
theorem QD:QE=true:=by kernel_rfl
theorem Bh:∀(f:FuncId) (fn:Func),PP.funcs[f]?=some fn->fn.name ≠ "runtime.NumGoroutine":=by
 intro f fn h e;have h2:=Yz.1 QD fn (by
  have:PP.funcs.toList[f]?=some fn:=by simpa using h
  exact XR this)
 rw[e] at h2;simp at h2
def Nl:Bool:=PP.types.toList.all fun i=>match i.desc with | .struct fs=>fs.toList.all fun f=>Nat.blt f.type (len PP.types.toList)|_=>true
theorem Nk:Nl=true:=by kernel_rfl
theorem H7{t:TypeId}{i:TypeInfo}(h:inf t=some i):i∈PP.types.toList:=by
 unfold inf at h;rw[iV] at h;exact XR h
theorem qT:oQ:=by
 intro t fs hu f hf;have key:∀i:TypeInfo,i∈PP.types.toList->i.desc = .struct fs->∃j,PP.info? f.type=some j:=by
  intro i hi hd;have h2:=Yz.1 Nk i hi;rw[hd] at h2;have h3:=Yz.1 h2 f hf;have h4:=jz.1 h3;rw[gu] at h4;refine⟨PP.types.toList[f.type],oz ?_⟩;unfold inf;rw[iV];exact XM h4
 unfold cR at hu;split at hu
 .rename_i i hi;split at hu
  .rename_i nm u hd;split at hu
   .rename_i j hj;exact key j (H7 hj) (by simpa using hu)
   .simp at hu
  .exact key i (H7 hi) (by simpa using hu)
 .simp at hu
theorem Rr:uy PP 341 "Lower" = some 583:=by kernel_rfl
theorem Rq:uy PP 343 "Lower" = some 593:=by kernel_rfl
theorem Rs:uy PP 386 "Lower" = some 603:=by kernel_rfl
theorem QP:∀t m f,CC.mt t m=some f->∀(n:Nat) (v:Value) (w:World),(method (n+Made.depth) t v m).run PP w = .ok (f,v) w:=by
 intro t m f h n v w;have h2:(bif decide (m = "Lower") then ng [(341,583),(343,593),(386,603)] t else none)=some f:=h
 cases hm:decide (m = "Lower")
 .rw[hm] at h2;simp at h2
 .rw[hm] at h2;have hm:=of_decide_eq_true hm;subst hm;simp only[cond_true] at h2;have hmem:=u6 h2;simp only[X9,Y8,or_false,XO] at hmem;have hd:n+Made.depth=(n+99)+1:=rfl;rw[hd];rcases hmem with⟨rfl,rfl⟩|⟨rfl,rfl⟩|⟨rfl,rfl⟩
  .exact Av Rr
  .exact Av Rq
  .exact Av Rs
theorem sH{f:FuncId}{fn:Func}{e:Array Value->Sem Value}{us:Array Value}{w w':World}{u:Value}(h:PP.funcs[f]?=some fn)(hb:fn.body=none)(h1:(PP.funcs[f]?).bind Extern.findNext=none)(h2:(PP.funcs[f]?).bind Extern.find=some e)(he:(e us).run PP w = .ok u w') :
  (callFunc f us).run PP w = .ok (.value u) w':=by
 have hn:¬fn.name = "runtime.NumGoroutine":=Bh f fn h
 rw[h] at h1 h2;have h1:Extern.findNext fn=none:=h1;have h2:Extern.find fn=some e:=h2;simp[callFunc,h,hn,hb,h1,h2,he]
theorem LR:(PP.funcs[240]?).bind Extern.find=some (Extern.Atomic.loadT (.int .i64)):=by kernel_rfl
theorem LQ:(PP.funcs[241]?).bind Extern.find=some (Extern.Atomic.loadT .ptr):=by kernel_rfl
theorem LO:(PP.funcs[305]?).bind Extern.find=some Extern.Atomic.storeT:=by kernel_rfl
theorem LN:(PP.funcs[315]?).bind Extern.find=some Extern.Atomic.storeT:=by kernel_rfl
theorem LS:(PP.funcs[287]?).bind Extern.find=some (Extern.Atomic.update (Op.intArith .add) .i64 true):=by kernel_rfl
theorem LP:(PP.funcs[322]?).bind Extern.find=some Extern.AbiNoEscape.same:=by kernel_rfl
theorem LK:(PP.funcs[240]?).bind Extern.findNext=none:=by kernel_rfl
theorem LJ:(PP.funcs[241]?).bind Extern.findNext=none:=by kernel_rfl
theorem LH:(PP.funcs[305]?).bind Extern.findNext=none:=by kernel_rfl
theorem LG:(PP.funcs[315]?).bind Extern.findNext=none:=by kernel_rfl
theorem LL:(PP.funcs[287]?).bind Extern.findNext=none:=by kernel_rfl
theorem LI:(PP.funcs[322]?).bind Extern.findNext=none:=by kernel_rfl
theorem FW{ad:Addr}{n:Int}{w:World}(h:w.cell? ad=some (.int .i64 n)):(Extern.Atomic.read (.int .i64) ad).run PP w = .ok (.int .i64 n) w:=by
 simp[Extern.Atomic.read,load,XW,Sem.run,h]
theorem FV{ad:Addr}{q:Option Addr}{w:World}(h:w.cell? ad=some (.pointer q)):(Extern.Atomic.read .ptr ad).run PP w = .ok (.pointer q) w:=by
 simp[Extern.Atomic.read,load,XW,Sem.run,h]
theorem BB(t:Extern.Atomic.T)(x:Value):Extern.Atomic.loadT t [x].toArray=(do Extern.Atomic.read t (← asAddr x)):=rfl
theorem EV(x y:Value):Extern.Atomic.storeT [x,y].toArray=(do
  store (← asAddr x) y .atomic
  pure Extern.Atomic.none_):=rfl
theorem Dk(x y:Value):Extern.Atomic.update (Op.intArith .add) .i64 true [x,y].toArray=(do
  let a ← asAddr x
  let bg ← Extern.Atomic.read (.int .i64) a
  let new ← Op.intArith .add .i64 (← asInt bg) (← asInt y)
  store a new .atomic
  pure (if true then new else bg)):=rfl
theorem N2(x:Value):Extern.AbiNoEscape.same [x].toArray=pure x:=rfl
theorem Ad{ad:Addr}{v x:Value}{w w':World}(hc:w.cell? ad=some x)(hv:v.oneCell'=true)(h:(storeCells ad [v]).run PP w = .ok () w'):(store ad v .atomic).run PP w = .ok () w':=by
 have h0:ad.add 0=ad:=by unfold Addr.add;split <;> simp_all
 simp only[storeCells,h0,XW] at h;rw[run_store PP w ad v _ hv,hc] at h;rw[run_store PP w ad v _ hv,hc];cases hf:w.frozen? ad
 .rw[hf] at h;simpa using h
 .rw[hf] at h;simp[Result.andThen] at h
theorem EW{T:Nat->Prop}{M:Mp}{S S':HS}{w:World}{b o:Nat}{x:CV}(hH:Hr T M S w)(hI:In T S')(h:iT S b o [x]=some S'):∃y,w.cell? ⟨M.b b,o,none⟩=some y:=by
 unfold iT at h;split at h
 .rename_i l t ex hb;split at h
  .rename_i l' hr;rw[gz] at h;cases h;have hTb:T b:=hI b (by rw[gW];exact aM.2 (.inr (cn.2 rfl)));obtain⟨_,cs,rest,g1,g2,g3,g4,_⟩:=hH.bO b _ hTb hb;obtain⟨_,h2,_⟩:=AL hr;have hl:=fT g4;simp only[X6,Yg] at h2;have hlt:o<(cs++rest).length:=by simp;omega
   refine⟨(cs++rest)[o],?_⟩;unfold World.cell?;rw[g1];simp only[Option.isSome_none,X8,if_false];rw[Zt,XM hlt]
  .simp at h
 .simp at h
section
variable {T:Nat->Prop}{M:Mp}{S S':HS}{w:World}
theorem Ue{k:Nat}{args:List CV}{v:CV}(hH:Hr T M S w)(hI:In T S')(h:ext k args S=some (v,S')){us:List Value}(hv:aC M w args us) :
  (k=1->∃u,(Extern.Atomic.loadT (.int .i64) us.toArray).run PP w = .ok u w/\vr M w v u/\(S'=S \/ ∃i,S'=S.bD i)) ∧
  (k=5->∃u,(Extern.Atomic.loadT .ptr us.toArray).run PP w = .ok u w/\vr M w v u/\(S'=S \/ ∃i,S'=S.bD i)) ∧
  (k=2->∃w',(Extern.Atomic.storeT us.toArray).run PP w = .ok undef w'/\v = .un/\Hr T M S' w'/\Fr M S w M S' w') ∧
  (k=3->∃u w',(Extern.Atomic.update (Op.intArith .add) .i64 true us.toArray).run PP w = .ok u w'/\vr M w' v u/\Hr T M S' w'/\Fr M S w M S' w') ∧
  (k=4->∃u,(Extern.AbiNoEscape.same us.toArray).run PP w = .ok u w/\vr M w v u/\(S'=S \/ ∃i,S'=S.bD i)):=by
 unfold ext at h;split at h
 .rename_i b o;obtain⟨p,rfl,hp⟩:=ml hv;simp only[vr] at hp;obtain⟨hd,rfl⟩:=hp;refine⟨fun _=>?_,fun e=>by simp at e,fun e=>by simp at e,fun e=>by simp at e,fun e=>by simp at e⟩;split at h
  .rename_i n hc;cases h;have hTb:T b:=hI b (by rw[fA];exact aM.2 (.inr (cn.2 rfl)));obtain⟨vs,g1,g2,g3,g4⟩:=ox hH hTb hc;obtain⟨x,rfl,hx⟩:=ml g1;simp only[vr] at hx;have hcell:=g4 0 x rfl;rw[Yl,hx.1] at hcell;exact⟨.int .i64 n,by rw[BB];simp[asAddr,XW,FW hcell],by simp[vr,Value.oneCell'],.inr ⟨b,rfl⟩⟩
  .simp at h
 .rename_i b o;obtain⟨p,rfl,hp⟩:=ml hv;simp only[vr] at hp;obtain⟨hd,rfl⟩:=hp;refine⟨fun e=>by simp at e,fun _=>?_,fun e=>by simp at e,fun e=>by simp at e,fun e=>by simp at e⟩;split at h
  .rename_i b' o' hc;cases h;have hTb:T b:=hI b (by rw[fA];exact aM.2 (.inr (cn.2 rfl)));obtain⟨vs,g1,g2,g3,g4⟩:=ox hH hTb hc;obtain⟨x,rfl,hx⟩:=ml g1;have hx':=hx;simp only[vr] at hx;have hcell:=g4 0 x rfl;rw[Yl,hx.2] at hcell;exact⟨.pointer (some ⟨M.b b',o',none⟩),by rw[BB];simp[asAddr,XW,FV hcell],by simp[vr,hx.1],.inr ⟨b,rfl⟩⟩
  .rename_i hc;cases h;have hTb:T b:=hI b (by rw[fA];exact aM.2 (.inr (cn.2 rfl)));obtain⟨vs,g1,g2,g3,g4⟩:=ox hH hTb hc;obtain⟨x,rfl,hx⟩:=ml g1;simp only[vr] at hx;have hcell:=g4 0 x rfl;rw[Yl,hx.1] at hcell;exact⟨.pointer none,by rw[BB];simp[asAddr,XW,FV hcell],by simp[vr,Value.oneCell'],.inr ⟨b,rfl⟩⟩
  .simp at h
 .rename_i b o k0;obtain⟨p,q,rfl,hp,hq⟩:=o6 hv;have hq':aC M w [.k k0] [q]:=by simp only[aC];exact⟨hq,trivial⟩
  simp only[vr] at hp;obtain⟨hd,rfl⟩:=hp;refine⟨fun e=>by simp at e,fun e=>by simp at e,fun _=>?_,fun e=>by simp at e,fun e=>by simp at e⟩;split at h
  .rename_i S1 hst;cases h;have h1:∀x∈[q],x.oneCell'=true:=fun x hx=>by
    simp only[X9,Y8,or_false] at hx;subst hx;simp only[vr] at hq;rw[hq.1];exact hq.2
   obtain⟨w',k1,k2,k3⟩:=pb hH hst hI hq' h1;obtain⟨y,hy⟩:=EW hH hI hst;refine⟨w',?_,rfl,k2,k3⟩;rw[EV];simp[asAddr,XW,Ad hy (h1 q (by simp)) k1];rfl
  .simp at h
 .rename_i b o b' o';obtain⟨p,q,rfl,hp,hq⟩:=o6 hv;have hq':aC M w [.p b' o'] [q]:=by simp only[aC];exact⟨hq,trivial⟩
  simp only[vr] at hp;obtain⟨hd,rfl⟩:=hp;refine⟨fun e=>by simp at e,fun e=>by simp at e,fun _=>?_,fun e=>by simp at e,fun e=>by simp at e⟩;split at h
  .rename_i S1 hst;cases h;have h1:∀x∈[q],x.oneCell'=true:=fun x hx=>by
    simp only[X9,Y8,or_false] at hx;subst hx;simp only[vr] at hq;rw[hq.2];rfl
   obtain⟨w',k1,k2,k3⟩:=pb hH hst hI hq' h1;obtain⟨y,hy⟩:=EW hH hI hst;refine⟨w',?_,rfl,k2,k3⟩;rw[EV];simp[asAddr,XW,Ad hy (h1 q (by simp)) k1];rfl
  .simp at h
 .rename_i b o n;obtain⟨p,q,rfl,hp,hq⟩:=o6 hv;simp only[vr] at hp hq;obtain⟨hd,rfl⟩:=hp;obtain⟨rfl,_⟩:=hq;refine⟨fun e=>by simp at e,fun e=>by simp at e,fun e=>by simp at e,fun _=>?_,fun e=>by simp at e⟩;split at h
  .rename_i m hc;split at h
   .rename_i S1 hst;cases h;have hTb:T b:=by
     unfold iT at hst;split at hst
     .split at hst
      .rw[gz] at hst;cases hst;exact hI b (by rw[gW];exact aM.2 (.inr (cn.2 rfl)))
      .simp at hst
     .simp at hst
    obtain⟨vs,g1,g2,g3,g4⟩:=ox hH hTb hc;obtain⟨x,rfl,hx⟩:=ml g1;simp only[vr] at hx;have hcell:=g4 0 x rfl;rw[Yl,hx.1] at hcell;obtain⟨w',k1,k2,k3⟩:=pb (vs:=[.int .i64 (IntKind.i64.wrap (m+n))]) hH hst hI (by simp[aC,vr,Value.oneCell']) (fun x hx=>by
     simp only[X9,Y8,or_false] at hx;subst hx;rfl)
    refine⟨.int .i64 (IntKind.i64.wrap (m+n)),w',?_,by simp[vr,Value.oneCell'],k2,k3⟩;rw[Dk];have ha:(Op.intArith .add .i64 m n).run PP w = .ok (.int .i64 (IntKind.i64.wrap (m+n))) w:=rfl;simp[asAddr,asInt,asIntOf,XW,FW hcell,ha,Ad hcell rfl k1]
   .simp at h
  .simp at h
 .rename_i x;obtain⟨p,rfl,hp⟩:=ml hv;cases h;exact⟨fun e=>by simp at e,fun e=>by simp at e,fun e=>by simp at e,fun e=>by simp at e,fun _=>⟨p,by rw[N2];rfl,hp,.inl rfl⟩⟩
 .simp at h
theorem LM(f:FuncId)(fn:Func)(args:List CV)(S:HS)(v:CV)(S':HS)(hfn:PP.funcs[f]?=some fn)(hb:fn.body=none)(h:ext (CC.xt f) args S=some (v,S')):DW f args S v S':=by
 intro T M w us hH hF hv hI;have fin:∀{u:Value},vr M w v u->(S'=S \/ ∃i,S'=S.bD i)->(callFunc f us.toArray).run PP w = .ok (.value u) w->∃M' u w',(callFunc f us.toArray).run PP w = .ok (.value u) w'/\vr M' w' v u/\Hr T M' S' w'/\Fr M S w M' S' w':=by
  intro u h1 h2 h3;obtain⟨q1,q2⟩:=hH.quiet h2;exact⟨M,u,w,h3,h1,q1,q2⟩
 have hk:=Ue hH hI h hv;have hx:CC.xt f=(ng [(240,1),(241,5),(305,2),(315,2),(287,3),(322,4)] f).getD 0:=rfl
 cases hf:ng [(240,1),(241,5),(305,2),(315,2),(287,3),(322,4)] f with
 |none=>
  rw[hx,hf] at h;have h:(none:ee)=some (v,S'):=h;simp at h
 |some k=>
  rw[hx,hf] at hk;have hm:=u6 hf;simp only[X9,Y8,or_false,XO] at hm;simp only[Yt] at hk;rcases hm with⟨rfl,rfl⟩|⟨rfl,rfl⟩|⟨rfl,rfl⟩|⟨rfl,rfl⟩|⟨rfl,rfl⟩|⟨rfl,rfl⟩
  .obtain⟨u,k1,k2,k3⟩:=hk.1 rfl;exact fin k2 k3 (sH hfn hb LK LR k1)
  .obtain⟨u,k1,k2,k3⟩:=hk.2.1 rfl;exact fin k2 k3 (sH hfn hb LJ LQ k1)
  .obtain⟨w',k1,rfl,k3,k4⟩:=hk.2.2.1 rfl;exact⟨M,undef,w',sH hfn hb LH LO k1,qM,k3,k4⟩
  .obtain⟨w',k1,rfl,k3,k4⟩:=hk.2.2.1 rfl;exact⟨M,undef,w',sH hfn hb LG LN k1,qM,k3,k4⟩
  .obtain⟨u,w',k1,k2,k3,k4⟩:=hk.2.2.2.1 rfl;exact⟨M,u,w',sH hfn hb LL LS k1,k2,k3,k4⟩
  .obtain⟨u,k1,k2,k3⟩:=hk.2.2.2.2 rfl;exact fin k2 k3 (sH hfn hb LI LP k1)
end
end
end Rc.Ev
namespace Rc.Ev
noncomputable section
open Go
def rF:OE:=⟨15,464,[(.a [(I 1),(.s 406 0 2 none),(.s 408 0 1 none)]),(.a [(.s 456 0 1 (some 1)),(.s 457 0 1 (some 1)),nS]),(.a [(I 2),(I 0),(B false),nS,nS,(.s 461 0 1 (some 1))]),(.a [(I 2),(I 0),(B false),(B false),(I 0),(I 65536),(I 0)])],[(260,(.c [(I 0),(B false),(.q [1]),(.q [])] 113 false)),
 (293,(.c [(I 0),(B true),(.q [1]),(.q [])] 113 false)),
 (382,(.c [(I 1),(B false),(.q [1]),(.q []),(I 2),(B false),(.q [1]),(.q [])] 113 false)),
 (406,(.c [(.s 260 0 1 none),(B false),(.q []),(.q []),(.s 293 0 1 none),(B false),(.q []),(.q [])] 37 false)),
 (408,(.c [(.s 382 0 2 none),(B false),(.q []),(.q [])] 37 false)),
 (456,(.c [(B true),(.q [1]),(.q [])] 35 true)),
 (457,(.c [(B false),(.q [2]),(.q [])] 35 true)),
 (460,(.c [(I 0),(B false),(.q [1]),(.q [])] 113 true)),
 (461,(.c [(.s 460 0 1 (some 1)),(B false),nS,nS] 37 true))],(.t [(.a [(I 1),(I 0),nS,(.k (.int .u8 0)),(.k (.int .u8 0)),(.k (.int .u8 0)),(.k (.int .u8 0)),(.k (.int .u8 0)),(.k (.int .u8 0)),(.k (.int .u8 0)),(.k (.int .u8 0)),(.k (.int .u8 0)),(.k (.int .u8 0)),(.k (.int .u8 0)),(.k (.int .u8 0)),(.k (.int .u8 0)),(.k (.int .u8 0)),(.k (.int .u8 0)),(.k (.int .u8 0)),(.k (.int .u8 0)),(.k (.int .u8 0)),(.k (.int .u8 0)),(.k (.int .u8 0)),(.k (.int .u8 0)),(.k (.int .u8 0)),(.k (.int .u8 0)),(.k (.int .u8 0)),(.k (.int .u8 0)),(.k (.int .u8 0)),(.k (.int .u8 0)),(.k (.int .u8 0)),(.k (.int .u8 0)),(.k (.int .u8 0)),(.k (.int .u8 0)),(.k (.int .u8 0)),(.s 1855 0 1 none),(I 1)]),(I 0)]),[(707,some (.c [(I 1),(I 0),(I 0),(I 0),(B false),(.q [1]),(.q [])] 107 false)),
 (924,some (.c [(I 2),(I 0),(I 0),(I 0),(B false),(.q [1]),(.q [])] 107 false)),
 (1131,some (.c [(I 2),(I 0),(I 0),(I 0),(B false),(.q [1]),(.q [])] 107 false)),
 (1350,some (.c [(I 1),(I 0),(I 0),(I 0),(B false),(.q [1]),(.q [])] 107 false)),
 (1486,some (.c [(I 0),(B false),(B true),(.q [1]),(.q []),(.s 707 0 1 none),(I 0),(B true),(B false),(.q [2]),(.q []),(.s 924 0 1 none),(I 1),(B false),(B true),(.q [2]),(.q []),(.s 1131 0 1 none),(I 1),(B true),(B false),(.q [1]),(.q []),(.s 1350 0 1 none)] 97 false)),
 (1594,some (.c [(I 5),(I 0),(I 0),(I 0),(B false),(.q [1]),(.q []),(I 5),(I 1),(I 0),(I 0),(B false),(.q [1]),(.q [])] 107 false)),
 (1855,some (.c [(.s 1486 0 4 none),(I 0),(I 0),(B false),nS,nS,nS,(B false),(.s 1594 0 2 none)] 46 false))],1856⟩
def uk:OE:=⟨368,4063,[(.a [(I 3),(.s 4061 0 12 none),(.s 1967 0 2 none),(B true),(.q [1]),(.q [])])],[(1967,(.c [(I 1),(B false),(.q [1]),(.q []),(I 2),(B false),(.q [1]),(.q [])] 113 false)),
 (3409,(.c [(I 0),(B false),(.q [1]),(.q [])] 113 false)),
 (3458,(.c [(I 0),(B true),(.q [1]),(.q [])] 113 false)),
 (3491,(.c [(I 1),(B false),(.q [1]),(.q [])] 113 true)),
 (3554,(.c [(I 0),(B true),(.q [1]),(.q []),(I 1),(B false),(.q [1]),(.q [])] 113 false)),
 (3607,(.c [(I 0),(B false),(.q [1]),(.q [])] 113 false)),
 (3660,(.c [(I 0),(B true),(.q [1]),(.q [])] 113 false)),
 (3758,(.c [(I 0),(B false),(.q [2]),(.q []),(I 1),(B true),(.q [3]),(.q [])] 113 false)),
 (3791,(.c [(I 2),(B false),(.q [1]),(.q [])] 113 true)),
 (3854,(.c [(I 0),(B false),(.q [1]),(.q []),(I 2),(B false),(.q [1]),(.q [])] 113 false)),
 (3907,(.c [(I 0),(B true),(.q [1]),(.q [])] 113 false)),
 (3960,(.c [(I 0),(B false),(.q [1]),(.q [])] 113 false)),
 (4058,(.c [(I 0),(B true),(.q [1]),(.q []),(I 2),(B true),(.q [3]),(.q [])] 113 false)),
 (4061,(.c [(.s 3409 0 1 none),(B false),(.q [1]),(.q []),(.s 3458 0 1 none),(B false),(.q [2]),(.q []),(.s 3491 0 1 (some 1)),(B false),nS,nS,(.s 3554 0 2 none),(B false),(.q []),(.q []),(.s 3607 0 1 none),(B false),(.q [1]),(.q []),(.s 3660 0 1 none),(B false),(.q [2]),(.q []),(.s 3758 0 2 none),(B false),(.q [2]),(.q []),(.s 3791 0 1 (some 1)),(B false),nS,nS,(.s 3854 0 2 none),(B false),(.q []),(.q []),(.s 3907 0 1 none),(B false),(.q [2]),(.q []),(.s 3960 0 1 none),(B false),(.q [1]),(.q []),(.s 4058 0 2 none),(B false),(.q [2]),(.q [])] 37 false))],(.t [(.a [(I 1),(B true),(.q [1]),(.q []),(.s 4592 0 3 (some 3)),(.s 4596 0 12 (some 12)),nS,(.s 4598 0 12 none),(I 6)]),(I 0)]),[(4592,some (.c [(B false),(.q []),(.q []),(B false),nS,nS,(B false),nS,nS] 35 true)),
 (4596,some (.c [(B false),nS,nS,(B false),nS,nS,(B false),nS,nS,(B false),(.q [1]),(.q []),(B false),nS,nS,(B false),nS,nS,(B false),nS,nS,(B false),(.q []),(.q []),(B false),(.q [1]),(.q []),(B false),nS,nS,(B false),nS,nS,(B false),nS,nS] 35 true)),
 (4598,some (.c [(I 0),(I 4),(I 1),(I 3),(I 7),(I 8),(I 9),(I 2),(I 5),(I 12),(I 13),(I 14)] 3 false))],4599⟩
def xu:OE:=⟨247,3242,[(.p 1998 0),(.a [(I 1),(.s 406 0 2 none),(.s 408 0 1 none),(.s 456 0 1 (some 1)),(.s 457 0 1 (some 1)),nS,(.s 1967 0 2 none),(B true),(.q [1]),(.q []),nS,(.s 2880 0 4 none)])],[(260,(.c [(I 0),(B false),(.q [1]),(.q [])] 113 false)),
 (293,(.c [(I 0),(B true),(.q [1]),(.q [])] 113 false)),
 (382,(.c [(I 1),(B false),(.q [1]),(.q []),(I 2),(B false),(.q [1]),(.q [])] 113 false)),
 (406,(.c [(.s 260 0 1 none),(B false),(.q []),(.q []),(.s 293 0 1 none),(B false),(.q []),(.q [])] 37 false)),
 (408,(.c [(.s 382 0 2 none),(B false),(.q []),(.q [])] 37 false)),
 (456,(.c [(B true),(.q [1]),(.q [])] 35 true)),
 (457,(.c [(B false),(.q [2]),(.q [])] 35 true)),
 (1967,(.c [(I 1),(B false),(.q [1]),(.q []),(I 2),(B false),(.q [1]),(.q [])] 113 false)),
 (1998,(.c [(I 1),(.s 406 0 2 none),(.s 408 0 1 none),(.s 456 0 1 (some 1)),(.s 457 0 1 (some 1)),nS,(.s 1967 0 2 none),(B true),(.q [1]),(.q []),(I 2),(I 0),(B false),(B false),(I 0),(I 65536),(I 0),(.i 386 (.a [(.i 341 (.a [])),(.i 343 (.a []))])),(.p 1997 0),nS,nP,(I 1),(I 0),(I 0),nP] 285 true)),
 (2880,(.c [(I 0),(B false),(B true),(.q [1]),(.q []),(.s 2101 0 1 none),(I 0),(B true),(B false),(.q [2]),(.q []),(.s 2318 0 1 none),(I 1),(B false),(B true),(.q [2]),(.q []),(.s 2525 0 1 none),(I 1),(B true),(B false),(.q [1]),(.q []),(.s 2744 0 1 none)] 97 false))],(.t [(.a [(I 1),(B true),(.q [1]),(.q []),(.s 4592 0 3 (some 3)),(.s 4758 0 2 none)]),(I 0)]),[(4592,some (.c [(B false),(.q []),(.q []),(B false),nS,nS,(B false),nS,nS] 35 true)),
 (4758,some (.c [(I 6),(I 0),(I 0),(I 0),(B false),(.q [1]),(.q []),(I 6),(I 1),(I 0),(I 0),(B false),(.q [1]),(.q [])] 107 false))],4771⟩
def Be:OE:=⟨15,1858,[(.a [(I 1),(.s 406 0 2 none),(.s 408 0 1 none)]),(.a [(.s 456 0 1 (some 1)),(.s 457 0 1 (some 1)),nS]),(.a [(I 2),(I 0),(B false),(.q [1]),(.q []),(.s 461 0 1 (some 1))]),(.a [(I 2),(I 0),(B false),(B false),(I 0),(I 65536),(I 0)])],[(260,(.c [(I 0),(B false),(.q [1]),(.q [])] 113 false)),
 (293,(.c [(I 0),(B true),(.q [1]),(.q [])] 113 false)),
 (382,(.c [(I 1),(B false),(.q [1]),(.q []),(I 2),(B false),(.q [1]),(.q [])] 113 false)),
 (406,(.c [(.s 260 0 1 none),(B false),(.q []),(.q []),(.s 293 0 1 none),(B false),(.q []),(.q [])] 37 false)),
 (408,(.c [(.s 382 0 2 none),(B false),(.q []),(.q [])] 37 false)),
 (456,(.c [(B true),(.q [1]),(.q [])] 35 true)),
 (457,(.c [(B false),(.q [2]),(.q [])] 35 true)),
 (460,(.c [(I 0),(B false),(.q [1]),(.q [])] 113 true)),
 (461,(.c [(.s 460 0 1 (some 1)),(B false),nS,nS] 37 true))],(.t [(.a [(I 2),(I 0),(.s 4773 0 1 none),(.k (.int .u8 0)),(.k (.int .u8 0)),(.k (.int .u8 0)),(.k (.int .u8 0)),(.k (.int .u8 0)),(.k (.int .u8 0)),(.k (.int .u8 0)),(.k (.int .u8 0)),(.k (.int .u8 0)),(.k (.int .u8 0)),(.k (.int .u8 0)),(.k (.int .u8 0)),(.k (.int .u8 0)),(.k (.int .u8 0)),(.k (.int .u8 0)),(.k (.int .u8 0)),(.k (.int .u8 0)),(.k (.int .u8 0)),(.k (.int .u8 0)),(.k (.int .u8 0)),(.k (.int .u8 0)),(.k (.int .u8 0)),(.k (.int .u8 0)),(.k (.int .u8 0)),(.k (.int .u8 0)),(.k (.int .u8 0)),(.k (.int .u8 0)),(.k (.int .u8 0)),(.k (.int .u8 0)),(.k (.int .u8 0)),(.k (.int .u8 0)),(.k (.int .u8 0)),nS,(I 1)]),(I 0)]),[(4773,some (.c [(B false),(.q []),(.q [])] 35 false))],4828⟩
def GB:OE:=⟨15,5295,[(.a [(I 1),(.s 5236 0 2 none),(.s 5238 0 1 none)]),(.a [(.s 5287 0 1 (some 1)),(.s 5288 0 1 (some 1)),nS]),(.a [(I 2),(I 0),(B false),nS,nS,(.s 5292 0 1 (some 1))]),(.a [(I 2),(I 0),(B false),(B false),(I 0),(I 65536),(I 0)])],[(5090,(.c [(I 0),(B false),(.q [1]),(.q [])] 113 false)),
 (5123,(.c [(I 0),(B true),(.q [1]),(.q [])] 113 false)),
 (5212,(.c [(I 1),(B false),(.q [1]),(.q []),(I 2),(B false),(.q [1]),(.q [])] 113 false)),
 (5236,(.c [(.s 5090 0 1 none),(B false),(.q []),(.q []),(.s 5123 0 1 none),(B false),(.q []),(.q [])] 37 false)),
 (5238,(.c [(.s 5212 0 2 none),(B false),(.q []),(.q [])] 37 false)),
 (5287,(.c [(B true),(.q [1]),nS] 35 true)),
 (5288,(.c [(B false),(.q [2]),nS] 35 true)),
 (5290,(.c [(I 0),(B false),(.q [1]),nS] 113 true)),
 (5292,(.c [(.s 5290 0 1 (some 1)),(B false),nS,nS] 37 true))],(.t [(.a [(I 1),(I 0),nS,(.k (.int .u8 0)),(.k (.int .u8 0)),(.k (.int .u8 0)),(.k (.int .u8 0)),(.k (.int .u8 0)),(.k (.int .u8 0)),(.k (.int .u8 0)),(.k (.int .u8 0)),(.k (.int .u8 0)),(.k (.int .u8 0)),(.k (.int .u8 0)),(.k (.int .u8 0)),(.k (.int .u8 0)),(.k (.int .u8 0)),(.k (.int .u8 0)),(.k (.int .u8 0)),(.k (.int .u8 0)),(.k (.int .u8 0)),(.k (.int .u8 0)),(.k (.int .u8 0)),(.k (.int .u8 0)),(.k (.int .u8 0)),(.k (.int .u8 0)),(.k (.int .u8 0)),(.k (.int .u8 0)),(.k (.int .u8 0)),(.k (.int .u8 0)),(.k (.int .u8 0)),(.k (.int .u8 0)),(.k (.int .u8 0)),(.k (.int .u8 0)),(.k (.int .u8 0)),(.s 6686 0 1 none),(I 1)]),(I 0)]),[(5538,some (.c [(I 1),(I 0),(I 0),(I 0),(B false),(.q [1]),(.q [])] 107 false)),
 (5755,some (.c [(I 2),(I 0),(I 0),(I 0),(B false),(.q [1]),(.q [])] 107 false)),
 (5962,some (.c [(I 2),(I 0),(I 0),(I 0),(B false),(.q [1]),(.q [])] 107 false)),
 (6181,some (.c [(I 1),(I 0),(I 0),(I 0),(B false),(.q [1]),(.q [])] 107 false)),
 (6317,some (.c [(I 0),(B false),(B true),(.q [1]),(.q []),(.s 5538 0 1 none),(I 0),(B true),(B false),(.q [2]),(.q []),(.s 5755 0 1 none),(I 1),(B false),(B true),(.q [2]),(.q []),(.s 5962 0 1 none),(I 1),(B true),(B false),(.q [1]),(.q []),(.s 6181 0 1 none)] 97 false)),
 (6425,some (.c [(I 5),(I 0),(I 0),(I 0),(B false),(.q [1]),(.q []),(I 5),(I 1),(I 0),(I 0),(B false),(.q [1]),(.q [])] 107 false)),
 (6686,some (.c [(.s 6317 0 4 none),(I 0),(I 0),(B false),nS,nS,nS,(B false),(.s 6425 0 2 none)] 46 false))],6687⟩
def GA:OE:=⟨4,0,[],[],(B true),[],7777⟩
def EI:List OE:=[]
def EH:List OE:=[rF]
def EG:List OE:=[uk,rF]
def EF:List OE:=[xu,uk,rF]
def EE:List OE:=[Be,xu,uk,rF]
def ED:List OE:=[GB,Be,xu,uk,rF]
end
end Rc.Ev
namespace Rc.Ev
open Go
theorem Qo:kM (gn ED) 1000 GA=true:=by kernel_rfl
theorem Qq:kM (gn EF) 1000 Be=true:=by kernel_rfl
theorem Qt:kM (gn EH) 1000 uk=true:=by kernel_rfl
theorem Qs:kM (gn EG) 1000 xu=true:=by kernel_rfl
theorem Qv:kM (gn EI) 1000 rF=true:=by kernel_rfl
theorem Qp:kM (gn EE) 1000 GB=true:=by kernel_rfl
theorem sT{f:FuncId}(h:hasB f=true):tg f:=by
 unfold hasB at h;split at h
 .rename_i fn hfn;rw[iV] at hfn;have hfn:PP.funcs[f]?=some fn:=by simpa using hfn
  exact⟨fn,hfn,h,Bh f fn hfn⟩
 .simp at h
theorem Pj:(xd.map Prod.fst).all hasB=true:=by kernel_rfl
theorem MV:Told (gn EI):=by
 refine⟨Go.Proofs.YtakccfmgipajnaaGreatDoor.follows,Bh,fun f g args v hf h=>⟨sT ?_,Pk hf h⟩,fun f args S v S' h=>?_,QP,LM⟩
 .exact Yz.1 Pj f (ZE.2 ⟨(f,g),u6 hf,rfl⟩)
 .have h:(none:Option ee)=some (some (v,S')):=h;simp at h
theorem MU:Told (gn EH):=tI MV qT (sT (by kernel_rfl)) Qv
theorem MT:Told (gn EG):=tI MU qT (sT (by kernel_rfl)) Qt
theorem MS:Told (gn EF):=tI MT qT (sT (by kernel_rfl)) Qs
theorem MR:Told (gn EE):=tI MS qT (sT (by kernel_rfl)) Qq
theorem MQ:Told (gn ED):=tI MR qT (sT (by kernel_rfl)) Qp
theorem Vn:hasB GA.f=true:=by kernel_rfl
theorem PE{e:OE}{a:List CV}{h:Tr Bk}{c tm mm:Nat}(hc:(k9 a e.a&&vH ⟨h,c,tm,mm⟩ e.pre)=true):rD e a ⟨h,c,tm,mm⟩=some (e.v,⟨gi e.post h,e.c',Nat.lor tm e.tm,Nat.lor mm e.mm⟩):=by
 unfold rD;rw[hc];simp only[cond_true,zS,cd]
theorem MX{e:OE}(h0:e.c<=e.c')(hp:e.pre=[]){i:Nat}(hi:tb (Nat.lor 0 e.tm) i):i<e.c':=by
 rcases aM.1 hi with hi|hi
 .exact absurd hi iS
 .rcases aM.1 hi with hi|hi
  .rw[hp] at hi;exact absurd hi iS
  .exact((MY h0).1 hi).2
theorem N7{l:List OE}{e:OE}{n:Nat}(hO:Told (gn l))(h:kM (gn l) n e=true)(h0:e.c=0)(ha:e.a=[])(hp:e.pre=[]):zG e.f [] ⟨.e,0,0,0⟩ e.v ⟨gi e.post .e,e.c',Nat.lor 0 e.tm,Nat.lor 0 e.mm⟩:=
 (Gz hO qT h (S:=⟨.e,0,0,0⟩) h0.symm (PE (by rw[ha,hp];rfl))).2
theorem UP{l:List OE}{e:OE}{n:Nat}{c:Value}(hO:Told (gn l))(h:kM (gn l) n e=true)(h0:e.c=0)(ha:e.a=[])(hp:e.pre=[])(hv:e.v = .k c)(hl:e.c'<=1048575)(hb:hasB e.f=true) :
  ar PP e.f [] (R.one (V.one (ab.val c))):=by
 intro w vs A hg hA hden;have hvs:vs=[]:=by
  cases vs with
  |nil=>rfl
  |cons v vs=>exact hden.elim
 subst hvs;rcases N7 hO h h0 ha hp with⟨_,hck⟩|⟨⟨fn,n1,n2⟩,_⟩
 .let M:Mp:=⟨fun _=>False,fun _=>0,fun _=>0,fun _=>0,fun k j=>∃p∈jn,k=p.1/\∃v,p.2[j]?=some v⟩
  have hH:Hr (fun i=>i<Ev.aR) M ⟨.e,0,0,0⟩ w:=by
   refine⟨fun i b _ h=>?_,fun i j b b' _ _ h=>?_,fun i b _ h=>?_,fun k j h=>?_,fun i h=>h⟩
   .have h:(none:Option Bk)=some b:=h;simp at h
   .have h:(none:Option Bk)=some b:=h;simp at h
   .have h:(none:Option Bk)=some b:=h;simp at h
   .obtain⟨p,hp,rfl,_⟩:=h;exact(hg p hp).1
  have hF:Fx (fun i=>i<Ev.aR) M 0 w:=⟨fun _ _ _ h=>h,hg,fun p hp i v hi=>⟨p,hp,rfl,v,hi⟩⟩;refine callsIn_wide.1 (hck 0 _ M w [] _ hH hF (by simp[aC]) ?_ ?_)
  .intro i hi;have:=MX (by rw[h0];exact XS _) hp hi;show i<1048575;omega
  .intro M' u w' hu hH' hF';rw[hv] at hu;simp only[vr] at hu;refine⟨u,rfl,⟨hu.1,hu.2⟩,⟨hF'.os,hF'.tape,hF'.output,hF'.size,fun k hk=>hF'.kh k hk fun i b _ _ hd=>hd.elim⟩⟩
 .exfalso;unfold hasB at hb;rw[iV,show PP.funcs.toList[e.f]?=some fn by simpa using n1] at hb;simp[n2] at hb
theorem VG:ar PP 4 [] (R.one (V.one (ab.val (.bool true)))):=
 UP (c:=.bool true) MQ Qo rfl rfl rfl rfl (by decide) Vn
end Rc.Ev
namespace Go.Proofs.YtakccfmgipajnaaGreatDoor
open Go Go.RowKit Rc
theorem Vd(q:Qu)(t:Tr):l6 q t=0\/l6 q t=12:=by unfold l6;split <;> simp
theorem Vc{q:Qu}{t:Tr}{x:List Rat}(hq:dt q)(h:l6 q t=0)(hx:wi q.r x)(hc:sO q.r x=true):0<=bV q.goal (dh q.g x):=by
 refine zN (t:=t) (p:=[]) (l:=[]) ?_ ⟨hq,fun d hd=>by simp at hd,hx,hc,fun d hd=>by simp at hd,fun m hm=>by simp at hm⟩;cases hv:(bz q t [] []).1
 .unfold l6 at h;rw[hv] at h;simp at h
 .rfl
set_option maxHeartbeats 2000000 in
theorem R9(l:List Nat)(hb:∀x∈l,x<256)(l2:List Nat)(hb2:∀x∈l2,x<256)(n:Nat)(hn:n<65536):ar Tryz.prog 3 [V.one (El.row dP l),V.one (El.row dP l2),V.one (ab.val (.int .u16 (n:Int)))] (R.one (V.one (ab.val (.bool true)))):=by
 refine aF Tryz.func3 Tryz.ntmps3 rfl (fun w0 A0=>?_);refine zc 8 rfl (aj Ty rfl (Ev.VG) (zl 10 rfl (aa rfl (aw rfl) ?_)));by_cases hl3:300<l.length
 .refine aa rfl (dQ rfl) (zl 13 rfl ?_);exact av ai rfl rfl
 .refine aa rfl (cD rfl) (zl 2 rfl (aa rfl (aw rfl) ?_));by_cases hl8:8<l2.length
  .refine aa rfl (dQ rfl) (zl 9 rfl ?_);exact av ai rfl rfl
  .refine aa rfl (cD rfl) (zl 7 rfl ?_);obtain⟨hq,hgl⟩:=AV l;obtain⟨ht,hh⟩:=MP l;have hs:ic 200000 60000000 (bb l) (dj (ek l) n):=ic.mono (by decide) (by decide) (Ah (ek l) n ht);have hh2:(dj (ek l) n).ht<=2:=by rw[Ai];exact hh
   have hsz:(dj (ek l) n).size<=65536:=XY (NC hh2) (by decide);have hg:=hq.g;have hr:=hq.r;have hrl:=hr.lo;have h1:=hg.i1;have h2:=hg.i3;have h3:=hg.u4;have h4:=hg.o1;have h5:=hg.o3;have hx:wi (bb l).r (gx (bb l).r l2 (bb l).r.lo.length):=Sw hr l2;have hxl:(gx (bb l).r l2 (bb l).r.lo.length).length=(bb l).g.ag:=by rw[BJ];exact hrl
   have hal:(dh (bb l).g (gx (bb l).r l2 (bb l).r.lo.length)).length=(bb l).g.ag+(bb l).g.us.length:=by unfold dh;rw[qo _ (XP _),hxl]
   have hvb:VB 500000 (dh (bb l).g (gx (bb l).r l2 (bb l).r.lo.length)):=(Dp hg hx.bd hxl _ (XP _)).mono (Lc (by omega));haveI hev:=yq hq.goal hvb (by omega) (by omega);refine bF [so 0 (D.v (V.one (El.row dP l))),so 1 (D.v (V.one (El.row dP l2))),so 2 (D.val (.int .u16 (n:Int)))] [] rfl rfl (zc 2 rfl (aj Tw rfl (MN l (by omega) hb) (zl 10 rfl ?_)));refine bF [so 1 _,so 2 _,so 7 (D.ptr 0 0),so 8 (D.ptr 1 0)] [au 39 (cO (bb l)),au 46 [(ek l).nn.a0,(ek l).nn.a1,(ek l).nn.a2,(ek l).nn.a3,(ek l).nn.a4,(ek l).nn.a5,(ek l).nn.a6,(ek l).nn.a7,(ek l).nn.a8]] rfl rfl (aE 0 [] [] (dz 3 rfl (ax B0 rfl (Ag (bb l) (ek l) n hn ht) (hcl:=iL (ek l).nn.cl (rfl)) ?_)));refine ax Tu rfl (MO (bb l) hq (dj (ek l) n) hs hh2 hsz) (hcl:=iL rfl (iL (dj (ek l) n).nn.cl (rfl))) (dz 5 rfl (aB (za 2 rfl (bQ [1] [so 1 _,so 7 _,so 10 (D.val (.int .i64 (l6 (bb l) (dj (ek l) n))))] [_,none] rfl rfl rfl (zc 4 rfl (aj Tp rfl (Sv (bb l).r hr (by omega) (by omega) l2 hb2 (by omega)) (zl 7 rfl ?_)))))));by_cases he:l6 (bb l) (dj (ek l) n)≠0
   .refine aa rfl (fG rfl he) (zl 11 rfl (bQ [0] [so 10 _] [none,none] rfl rfl rfl (zc 2 rfl (aa rfl (aU rfl he) (zl 2 rfl (aa rfl (bp rfl (by rcases Vd (bb l) (dj (ek l) n) with e|e;exact absurd e he;exact e)) (zl 4 rfl ?_)))))));exact av ai rfl rfl
   .refine aa rfl (eg rfl (zaV.1 he)) (zl 4 rfl (aj Tk rfl (UR (bb l).r hr (by omega) (by omega) (gx (bb l).r l2 (bb l).r.lo.length) hx) (zl 4 rfl ?_)));refine cV rfl (fun hc51=>?_) (fun hc51=>?_)
    .refine zc 1 rfl (bQ [0] [so 10 _] [none,none] rfl rfl rfl (zc 2 rfl (aa rfl (bp rfl (zaV.1 he)) (zl 7 rfl ?_))));exact av ai rfl rfl
    .refine zc 7 rfl (aj T6 rfl (Mh (bb l).g hg (gx (bb l).r l2 (bb l).r.lo.length) hx.bd hxl) (zl 8 rfl (bF [so 7 _,so 12 (D.v (V.one (El.row bw (dh (bb l).g (gx (bb l).r l2 (bb l).r.lo.length)))))] [_,none] rfl rfl (zc 4 rfl ?_))));refine aj Cg rfl (Cq (bb l).goal hq.goal (dh (bb l).g (gx (bb l).r l2 (bb l).r.lo.length)) hvb (by omega) (by omega) (by omega)) (zl 9 rfl (bQ [0] [so 14 (D.ptr 2 0)] [none,none,au 35 (qL (bV (bb l).goal (dh (bb l).g (gx (bb l).r l2 (bb l).r.lo.length))))] rfl rfl rfl (zc 2 rfl ?_)));refine aj gy rfl (gm (an ((bV (bb l).goal (dh (bb l).g (gx (bb l).r l2 (bb l).r.lo.length))))) ((bV (bb l).goal (dh (bb l).g (gx (bb l).r l2 (bb l).r.lo.length)))) (aG _) (Br.use (by omega))) (aa rfl (dR rfl (lI.2 (Vc hq (zaV.1 he) hx (by simpa using hc51)))) (zl 3 rfl ?_));exact av ai rfl rfl
end Go.Proofs.YtakccfmgipajnaaGreatDoor
namespace Rc
open Go Go.RowKit Go.ChangeShapes Go.WideShapes
section
variable {H:Type}{enc:TypeId×Value->H}{P:Program}{w:World}{base:Nat}{held:Bool}
@[reducible] def here(w:World):ak:=ak.of fun k _=>k<w.heap.size
theorem wf_u16{n:Int}(h:(Lit.int .u16 n).wf=true):0<=n/\n<=65535:=by
 simp[Lit.wf,IntKind.min,IntKind.max,IntKind.bits,IntKind.signed] at h;omega
theorem wf_u8{n:Int}(h:(Lit.int .u8 n).wf=true):0<=n/\n<=255:=by
 simp[Lit.wf,IntKind.min,IntKind.max,IntKind.bits,IntKind.signed] at h;omega
theorem Ve{a:Addr}{v:Value}(h:w.cell? a=some v):a.block<w.heap.size:=by
 unfold World.cell? at h
 cases hb:w.heap[a.block]? with
 |none=>rw[hb] at h;simp at h
 |some o=>exact(X4.1 hb).1
variable {tb tn tu tr:Nat}
theorem OT{t:Nat}(ht:P.underlying t=some (.int .u16)){r:Reach}{b0:Nat}{v:Value}{d:DataW H}{p:List MemPlace}(hv:Value.okWide P w r b0 t v)(h:DataW.Trod enc P w base (fun _=>true) held t v d p) :
  ∃n:Nat,n<65536/\(V.one (ab.val (.int .u16 n))).den (here w) v w:=by
 obtain⟨x,rfl,_,_,hw⟩:=open_int ht hv h;have:=wf_u16 hw;exact⟨x.toNat,by omega,by show _=_;congr 1;omega,rfl⟩
end
theorem Sa{P:Program}{f:Nat}{xs:List V}{w:World}{vs:List Value}(h:ar P f xs (R.one (V.one (ab.val (.bool true)))))(hg:kv w)(hd:c6 (here w) xs vs w) :
  Calls P f vs.toArray w fun e w'=>e = .returned (.bool true)/\Below w.heap.size w w':=by
 refine Zg (h w vs (fun k _=>k<w.heap.size) hg (fun _ _ hk=>hk) hd) ?_;rintro e w' ⟨v,rfl,hv,hb⟩;obtain⟨rfl,_⟩:v = .bool true/\_:=hv;exact⟨rfl,hb⟩
end Rc
namespace Go.Proofs.YtakccfmgipajnaaGreatDoor
open Go Go.RowKit Rc
theorem own:ownKnob Tryz.prog.godebug=none:=by kernel_rfl
theorem Ov{p:Nat->Bool}{n a b c:Nat}(hn:n=a+b+c)(h1:(List.range a).all p=true)(h2:(List.range' a b).all p=true)(h3:(List.range' (a+b) c).all p=true):(List.range n).all p=true:=by
 subst hn;refine Yz.2 fun t ht=>?_;have ht:=Y9.1 ht;by_cases h:t<a
 .exact Yz.1 h1 t (Y9.2 h)
 .by_cases h':t<a+b
  .exact Yz.1 h2 t (List.mem_range'.2 ⟨t-a,by omega,by omega⟩)
  .exact Yz.1 h3 t (List.mem_range'.2 ⟨t-(a+b),by omega,by omega⟩)
theorem MK:Tryz.prog.types.size=222+222+224:=by kernel_rfl
theorem RO:(List.range 222).all (rowFine Tryz.prog)=true:=by kernel_rfl
theorem RN:(List.range' 222 222).all (rowFine Tryz.prog)=true:=by kernel_rfl
theorem RM:(List.range' (222+222) 224).all (rowFine Tryz.prog)=true:=by kernel_rfl
theorem RL:Tryz.prog.globals.all (fun g=>decide (g.type<Tryz.prog.types.size))=true:=by kernel_rfl
theorem RK:Tryz.prog.funcs.all (fun f=>f.params.all fun t=>decide (t<Tryz.prog.types.size))=true:=by kernel_rfl
theorem laidOut:laidOutB Tryz.prog=true:=by
 unfold laidOutB;rw[XQ,XQ];exact⟨⟨Ov MK RO RN RM,RL⟩,RK⟩
theorem Mx:Tryz.prog.underlying 23=some (.int .u16):=by kernel_rfl
end Go.Proofs.YtakccfmgipajnaaGreatDoor
namespace Rc
open Go Go.RowKit Go.ChangeShapes Go.WideShapes
theorem Et:∀l:List Nat,dP.all l=l.map fun(x:Nat)=>ab.val (.int .u8 (x:Int))
 |[]=>rfl
 |x::l=>by show dP.f x++dP.all l=_;rw[Et l];rfl
section
variable {H:Type}{enc:TypeId×Value->H}{P:Program}{w:World}{base:Nat}{held:Bool}
theorem FX{t u:Nat}(ht:P.underlying t=some (.slice u))(hu:P.underlying u=some (.int .u8))(hc:P.cellsOf u=1){r:Reach}{b0:Nat}{v:Value}{d:DataW H}{p:List MemPlace}(hv:Value.okWide P w r b0 t v)
  (h:DataW.Trod enc P w base (fun _=>true) held t v d p):∃l:List Nat,l.length<=maxLen/\(∀x∈l,x<256)/\(V.one (dP.row l)).den (here w) v w:=by
 obtain⟨a0,len0,cap0,rfl⟩:=okWide_slice ht hv;obtain⟨fuel,hf⟩:=h;rcases open_ints ht hu hc hf with⟨hcs,_⟩|⟨a,len,cap,zs,hcs,_,hl,hm,hz,_,hcell,hwf⟩
 .simp[Value.cells] at hcs;obtain⟨rfl,rfl,rfl⟩:=hcs;exact⟨[],XS _,fun x hx=>by simp at hx,oi _ _⟩
 .simp[Value.cells] at hcs;obtain⟨rfl,rfl,rfl⟩:=hcs;simp only[if_true] at hz;have hlen:((zs.take len0).map Int.toNat).length=len0:=by simp;omega
  refine⟨(zs.take len0).map Int.toNat,by rw[hlen];omega,?_,?_⟩
  .intro y hy;obtain⟨n,hn,rfl⟩:=ZE.1 hy;have:=wf_u8 (hwf n (YB hn));omega
  .show(bX ((zs.take len0).map Int.toNat).length _).P _ _ _;rw[hlen,Et];refine⟨some a,cap0,rfl,hl,hm,fun h=>by simp at h,fun ad had=>?_⟩;cases had;refine⟨fun h0=>?_,fun i lf hi=>?_⟩
   .obtain⟨b,off,rfl,_⟩:=ints_at hcell (by first|omega|(simp at h0;omega));rfl
   .rw[YW,YW,YS] at hi;split at hi
    .rename_i hil;have hiz:i<zs.length:=by omega
     obtain⟨b,off,rfl,hc2⟩:=ints_at hcell (by omega);have hci:=hc2 i hiz;rw[XM hiz] at hi;simp only[Y0,XL] at hi;subst hi;have hw:=wf_u8 (hwf zs[i] (List.getElem_mem hiz));have hlt:b<w.heap.size:=Ve hci;refine⟨hlt,_,hci,?_,rfl⟩;rw[Zp,XM hiz];simp only[Yt];congr 1;omega
    .simp at hi
variable {tb tn tu tr:Nat}
end
end Rc
namespace Go.Proofs.YtakccfmgipajnaaGreatDoor
open Go Go.RowKit Rc
theorem Eo:Tryz.prog.underlying 22=some (.slice 5):=by kernel_rfl
theorem En:Tryz.prog.underlying 5=some (.int .u8):=by kernel_rfl
theorem J3:Tryz.prog.cellsOf 5=1:=by kernel_rfl
theorem S3 : Tryz.prog.globalNamed "math/bits.deBruijn32tab" = some 2:=by kernel_rfl
theorem M6:(Tryz.prog.globals[2]?).map (·.type)=some 68:=by kernel_rfl
theorem My:Tryz.prog.underlying 68=some (.array 32 5):=by kernel_rfl
theorem Mz:Tryz.prog.underlying 5=some (.int .u8):=by kernel_rfl
theorem Vk:Tryz.prog.cellsOf 5=1:=by kernel_rfl
theorem Vj:Tryz.prog.cellsOf 68=32:=by kernel_rfl
open Go.ChangeShapes Go.WideShapes
@[reducible] def uH:List (String×DataW Unit):=[("math/bits.deBruijn32tab",Rows.laid_math_bits_deBruijn32tab),("math/bits.deBruijn64tab",Rows.laid_math_bits_deBruijn64tab),("internal/strconv.uint64pow10",Rows.laid_internal_strconv_uint64pow10),("relucert/phase.opposites",Rows.laid_relucert_phase_opposites)]
theorem UB(os:Os)(args:Array Value):laidMetH Tryz.prog uH ((World.doorLaid Tryz.prog 400 os).forCall (fun _ _=>0) ⟨#[],args,[]⟩).memory:=
 laidMetH_of_parts3 (fuel:=8) (laidMet_of_run' 8 (by kernel_rfl) (by kernel_rfl)) (by kernel_rfl) (by kernel_rfl)
theorem M5:(Rows.laid_math_bits_deBruijn32tab:DataW Unit) = .agg (vM.map fun n:Nat=>.lit (.int .u8 (n:Int))):=by kernel_rfl
theorem SW{W:World}(h:laidMetH Tryz.prog uH W):kv W:=by
 rw[MakeChecks.laidMetH_plain _ _ _ (by kernel_rfl)] at h;obtain⟨ps,⟨g0,t0,cs0,f0,p0,q0,bR,ht0,hv0,hd0,_,_⟩,_⟩:=h;obtain rfl:=Z9 (S3.symm.trans bR);obtain rfl:=Z9 (M6.symm.trans ht0);obtain⟨xs,m,_,hx,hlen,hxs,hel⟩:=DataW.trod_array My hd0;rw[M5] at hx;have hd:=congrArg Prod.fst hx;simp only[DataW.agg.injEq] at hd;rw[Vj] at hlen;have key:∀(i:Nat) (k:Nat),vM[i]?=some k->cs0[i]?=some (.int .u8 (k:Int)):=by
  intro i k hk;have hi:i<32:=(XN.1 hk).1;have h1:=hel i hi;rw[XM (by omega)] at h1;obtain⟨n,hc,hxn,_⟩:=DataW.trod_int Mz h1;have h2:=congrArg (fun l=>l[i]?) hd;simp only[YW,hk,XM (show i<xs.length by omega),Y0,hxn] at h2;have h3:n=(k:Int):=by
   have:=Z9 h2;simp only[DataW.lit.injEq,Lit.int.injEq,true_and] at this;exact this.symm
  subst h3;rw[Vk,Y1] at hc;have h4:=congrArg (fun l=>l[0]?) hc;simp only[YS,Yw,Yl,Nat.zero_lt_one,if_true,YD] at h4;rw[<-Z4];exact h4
 intro p hp;have hp':p=(2,vM.map fun n:Nat=>Value.int .u8 (n:Int)):=by simpa[jn,vM] using hp
 subst hp';have hcell:=fun i:Nat=>World.var?_cell bR hv0 i;refine⟨?_,fun i v hv=>?_⟩
 .have h0:=hcell 0;rw[key 0 0 rfl] at h0;unfold World.cell? at h0
  cases hh:W.heap[2]? with
  |none=>simp[hh] at h0
  |some o=>exact(X4.1 hh).1
 .simp only[YW] at hv
  cases hk:vM[i]? with
  |none=>rw[hk] at hv;simp at hv
  |some k=>
   rw[hk] at hv;simp only[Y0,XL] at hv;rw[hcell i,key i k hk,hv]
end Go.Proofs.YtakccfmgipajnaaGreatDoor
namespace Rc.Ev
noncomputable section
open Go
def HI(P:Program)(f:FuncId):List FuncId:=(P.funcs[f]?).elim [] P.leadsTo
def sQ(P:Program)(n:Nat):List FuncId->List FuncId->Nat->List FuncId:=
 Nat.rec (fun _ seen _=>seen.reverse) (fun _ ih todo seen m=>List.rec seen.reverse (fun f todo _=>bif nD m f then ih todo seen m else kp (HI P f) fun l=>fN (Nat.lor m (fM f)) fun m'=>ih (l++todo) (f::seen) m') todo) n
theorem CM(P:Program):∀(n:Nat) (todo seen:List FuncId) (m:Nat),(∀g,seen.contains g=true↔tb m g)->sQ P n todo seen m=P.closureVia n todo seen
 |0,todo,seen,m,_=>by rw[Program.closureVia];rfl
 |n+1,[],seen,m,_=>by rw[Program.closureVia];rfl;simp
 |n+1,f::todo,seen,m,h=>by
  rw[Program.closureVia];show(bif nD m f then sQ P n todo seen m else kp (HI P f) fun l=>fN (Nat.lor m (fM f)) fun m'=>sQ P n (l++todo) (f::seen) m')=_;rw[gz,cd];cases hb:nD m f
  .have hn:¬seen.contains f=true:=fun e=>by rw[h f,<-zh,hb] at e;simp at e
   rw[if_neg hn];refine CM P n _ _ _ fun g=>?_;rw[aM,cn,<-h g];simp[List.contains_cons];exact Or.comm
  .rw[if_pos ((h f).2 (zh.1 hb))];exact CM P n _ _ _ h
theorem U9{P:Program}{n:Nat}(f:FuncId)(hn:1+(P.funcs.toList.map fun g=>(P.leadsTo g).length+1).sum=n):P.closure f=sQ P n [f] [] 0:=by
 unfold Program.closure;rw[hn];exact(CM P _ _ _ _ fun g=>⟨fun h=>by simp at h,fun h=>absurd h iS⟩).symm
def HT(P:Program)(l:List FuncId):List String:=l.filterMap fun g=>(P.funcs[g]?).bind fun fn=>if fn.ours||fn.body.isNone||fn.name == "runtime.NumGoroutine" then some fn.name else none
def Er(P:Program)(l:List FuncId):Bool:=l.any fun g=>(P.funcs[g]?).any fun fn=>match fn.body with|some c=>c.unfollowed|none=>entryCalls fn
def Ef(P:Program)(l:List FuncId):List String:=
 (((l.flatMap fun g=>((P.funcs[g]?).bind (·.body)).elim [] Code.globalsNamed).eraseDups).filterMap (fun g=>(P.globals[g]?).map (·.name)) ++
  l.filterMap fun g=>(P.funcs[g]?).bind fun fn=>if fn.body.isNone then entryReads.lookup fn.name else none).eraseDups
theorem OQ{P:Program}{f:FuncId}(h:P.unfollowed f=true):P.recurses f=true:=by unfold Program.recurses;rw[h];rfl
theorem U8{P:Program}{n:Nat}{f:FuncId}{ip nm:List String}{l:List FuncId}(hn:1+(P.funcs.toList.map fun g=>(P.leadsTo g).length+1).sum=n)(hl:sQ P n [f] [] 0=l)(h1:(ip == HT P l)=true)(h2:Er P l=true)(h3:(nm == Ef P l)=true):P.inPlace f=ip/\P.unfollowed f=true/\P.recurses f=true/\P.varsNamed f=nm:=by
 rw[<-U9 f hn] at hl;subst hl;rw[beq_iff_eq] at h1 h3;have h4:P.unfollowed f=true:=h2;exact⟨h1.symm,h4,OQ h4,h3.symm⟩
end
end Rc.Ev
namespace Go.Proofs.YtakccfmgipajnaaGreatDoor
open Go Go.RowKit Rc
open Rc.Ev
theorem S4:1+(Tryz.prog.funcs.toList.map fun g=>(Tryz.prog.leadsTo g).length+1).sum=2119:=by kernel_rfl
def yK:List FuncId:=[3,4,13,42,43,68,107,109,76,41,77,116,169,171,217,265,266,267,318,377,378,379,268,269,319,270,271,272,273,274,59,98,86,141,157,155,215,205,140,201,252,202,203,204,99,254,208,255,256,258,257,259,253,170,218,275,278,117,276,277,280,321,279,320,219,118,119,120,88,146,145,121,172,220,52,87,143,207,142,100,104,158,156,206,260,261,144,63,103,51,173,221,175,64,174,176,222,281,78,123,49,25,85,139,61,102,177,124,179,60,101,178,223,282,283,125,180,224,225,226,284,322,227,285,323,380,381,447,446,448,382,383,449,450,499,500,228,286,324,384,325,385,451,452,386,453,387,454,501,229,326,327,126,181,182,230,183,231,122,44,16,15,45,24,62,79,127,46,80,128,81,47,82,129,48,83,130,184,232,185,131,133,132,186,233,287,234,288,241,289,328,388,134,187,188,135,189,235,290,291,196,240,190,236,199,191,242,295,332,335,394,395,457,396,351,390,455,502,534,333,348,403,374,444,498,402,398,404,392,456,503,437,413,467,487,419,470,515,516,517,472,520,521,519,549,522,163,391,334,393,317,375,299,445,376,300,296,336,355,297,337,397,339,338,349,340,399,341,342,343,243,298,344,244,301,302,303,304,345,400,458,459,460,401,462,461,504,505,346,347,245,305,246,306,350,405,406,407,409,464,408,438,488,463,466,506,535,541,536,556,537,545,546,538,557,558,563,539,540,542,543,352,410,411,465,507,508,544,509,510,547,548,559,511,512,513,514,412,414,353,354,307,308,356,416,417,469,415,468,309,357,247,310,358,22,418,471,518,359,360,420,421,361,362,248,363,364,368,424,474,425,427,475,496,525,426,476,477,526,527,551,561,478,430,483,484,432,479,480,481,482,428,429,431,365,314,422,473,523,524,550,560,423,366,367,369,433,485,434,435,486,528,529,552,562,436,311,249,312,370,371,313,372,250,315,251,316,373,439,489,490,440,491,441,493,530,553,554,492,442,494,531,532,555,533,495,443,497,292,329,389,330,331,136,192,237,193,195,194,238,294,293,239,137,197,198,84,138,200,14,17,50,6,23,26,27,65,29,66,105,106,159,160,161,162,28,30,31,5,18,54,53,89,147,91,148,32,67,40,72,112,113,165,166,167,110,108,164,111,57,34,69,70,97,12,149,33,71,209,38,90,20,55,92,150,36,21,58,151,93,94,152,210,95,153,115,168,216,154,211,37,74,75,73,114,262,212,263,264,214,96,213,19,56,7,8,9,35,11,10,39]
theorem Va:sQ Tryz.prog 2119 [3] [] 0=yK:=by kernel_rfl
theorem Sq:(Rows.wholePointsRow.inPlace == HT Tryz.prog yK)=true:=by kernel_rfl
theorem Mv:Er Tryz.prog yK=true:=by kernel_rfl
theorem L1:(Rows.wholePointsRow.named == Ef Tryz.prog yK)=true:=by kernel_rfl
theorem yL:Tryz.prog.inPlace 3=Rows.wholePointsRow.inPlace/\Tryz.prog.unfollowed 3=true/\Tryz.prog.recurses 3=true/\Tryz.prog.varsNamed 3=Rows.wholePointsRow.named:=U8 S4 Va Sq Mv L1
theorem QY:mapsRowed Tryz.prog=true:=by kernel_rfl
theorem Pu:(Rows.wholePointsRow.plainKeys == Tryz.prog.plainKeys)=true:=by kernel_rfl
theorem NN:Tryz.prog.stopsHeard=true:=by kernel_rfl
theorem Ry:Tryz.prog.mayEnter=true:=by kernel_rfl
theorem Sp:joinedFacts Tryz.prog 3 Tryz.f3 Rows.wholePointsSpec Rows.wholePointsRow=true:=by
 unfold joinedFacts;rw[yL.1,yL.2.1,yL.2.2.1,yL.2.2.2,laidOut,QY,Pu,NN,Ry]
 kernel_rfl
end Go.Proofs.YtakccfmgipajnaaGreatDoor
