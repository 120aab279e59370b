/- Parts of the proof, 14: the texts EvR, EvO, EvS, EvV, EvX, EvW, EvZ, EvY, as far as they are used. -/
import Derived.Test.YtakccfmgipajnaaGreatDoorWp13
import Derived.Deep.AppendSrc
import Derived.Laws.MakeOwn
import Derived.Lib.UnsafeStr
set_option linter.unusedSimpArgs false
set_option linter.unusedVariables false
set_option maxRecDepth 10000
namespace Rc
abbrev Z0:=@Nat.le_of_lt_succ
abbrev Z5:=@Nat.ble_eq_true_of_le
end Rc
namespace Rc.Ev
open Go
section
variable {r:Option Nat}{n:Nat}{T:Nat->Prop}{M:Mp}{S S':HS}{w w':World}{a:Act}{o:Oper}{v:CV}{u:Value}{F:Tr CV}
theorem NZ(h:Hr T M S w)(hh:w'.heap=w.heap)(h1:w'.os=w.os)(h2:w'.tape=w.tape)(h3:w'.output=w.output):kept M.A w w'/\Hr T M S w'/\Fr M S w M S w':=by
 have hk:kept M.A w w':=fun k j _=>by unfold World.cell?;rw[hh]
 refine⟨hk,⟨fun i b hi hb=>⟨(h.bO i b hi hb).1,l8 (Mp.ext.refl M) hk (h.bO i b hi hb).1 (by rw[hh]) (h.bO i b hi hb).2⟩,h.inj,h.apart,fun k j hA=>by rw[hh];exact h.bc k j hA,h.aR⟩,
  ⟨Mp.ext.refl M,hk,by rw[hh];exact XP _,h1,h2,h3,fun k _ _=>by rw[hh],fun _ _ h=>.inl h,fun i h h'=>absurd h h',fun i b _ h _=>⟨b,h⟩,fun _ _ _=>rfl,fun _ h=>h,fun _ h=>h,fun _ h=>.inl h,XP _⟩⟩
theorem OG{b:Nat}{bk bk':Bk}(h:Hr T M S w)(hT:T b)(hTc:T S.c)(hf:¬M.d S.c)(hb:S.rd b=some bk)
  (hsz:w'.heap.size=w.heap.size) (hoth:∀k,k≠M.b b->w'.heap[k]?=w.heap[k]?) (hos:w'.os=w.os) (htp:w'.tape=w.tape) (hout:w'.output=w.output)
  (hnew:∀M',M.ext M'->kept M.A w w'->M'.d S.c->M'.b S.c=M.b b->M'.z S.c=M.z b->M'.e S.c=M.e b->br M' w' S.c bk') :
  ∃M',Hr T M' ((S.wr b none).new bk') w'/\Fr M S w M' ((S.wr b none).new bk') w'/\M'.d S.c/\M'.b S.c=M.b b/\M'.z S.c=M.z b/\M'.e S.c=M.e b:=by
 have hk:kept M.A w w':=by
  intro k j hk;by_cases hkb:k=M.b b
  .subst hkb;exact absurd hk (h.apart b bk hT hb j)
  .exact Zk (hoth _ hkb)
 have hbl:=h.aR b hT;have hcl:=h.aR _ hTc;have hd:M.d b:=(h.bO b _ hT hb).1;have hcb:S.c≠b:=fun e=>hf (e ▸ hd)
 let M':Mp:=⟨fun i=>M.d i\/i=S.c,fun i=>if i=S.c then M.b b else M.b i,fun i=>if i=S.c then M.z b else M.z i,fun i=>if i=S.c then M.e b else M.e i,M.A⟩
 have hne:∀i,M.d i->i≠S.c:=fun i hi e=>hf (e ▸ hi);have hext:M.ext M':=⟨fun i hi=>.inl hi,fun i hi=>if_neg (hne i hi),fun i hi=>if_neg (hne i hi),fun i hi=>if_neg (hne i hi),fun _ _ hk=>hk⟩;have ec:(S.wr b none).c=S.c:=by rw[gW]
 have e2:((S.wr b none).new bk')=⟨(S.h.eZ (bu b) none).eZ (bu S.c) (some bk'),S.c+1,Nat.lor (Nat.lor S.tm (fM b)) (fM S.c),Nat.lor (Nat.lor S.mm (fM b)) (fM S.c)⟩:=by rw[g9,gW]
 have hrd:∀i bi,i<aR->((S.wr b none).new bk').rd i=some bi->(i=S.c/\bi=bk')\/(i≠S.c/\i≠b/\S.rd i=some bi):=by
  intro i bi hi hr;rcases kF (by rw[ec];exact hcl) hi hr with⟨h1,h2⟩|⟨h1,h2⟩
  .exact .inl ⟨by rw[h1,ec],h2.symm⟩
  .rcases pz hbl hi h2 with⟨_,h3⟩|⟨h3,h4⟩
   .simp at h3
   .exact .inr ⟨by rw[<-ec];exact h1,h3,h4⟩
 have mb:M'.b S.c=M.b b:=if_pos rfl;refine⟨M',⟨?_,?_,?_,?_,h.aR⟩,?_,.inr rfl,if_pos rfl,if_pos rfl,if_pos rfl⟩
 .intro i bi hi hr;rcases hrd i bi (h.aR i hi) hr with⟨rfl,rfl⟩|⟨h1,h2,h3⟩
  .exact⟨.inr rfl,hnew M' hext hk (.inr rfl) (if_pos rfl) (if_pos rfl) (if_pos rfl)⟩
  .obtain⟨hdi,hbi⟩:=h.bO i bi hi h3;exact⟨.inl hdi,l8 hext hk hdi (hoth _ (h.inj i b _ _ hi hT h3 hb h2)) hbi⟩
 .intro i j bi bj hi hj hri hrj hij;rcases hrd i bi (h.aR i hi) hri with⟨rfl,_⟩|⟨h1,h2,h3⟩
  .rcases hrd j bj (h.aR j hj) hrj with⟨rfl,_⟩|⟨k1,k2,k3⟩
   .exact absurd rfl hij
   .rw[mb,show M'.b j=M.b j from if_neg k1];exact h.inj b j _ _ hT hj hb k3 (Ne.symm k2)
  .rcases hrd j bj (h.aR j hj) hrj with⟨rfl,_⟩|⟨k1,k2,k3⟩
   .rw[mb,show M'.b i=M.b i from if_neg h1];exact h.inj i b _ _ hi hT h3 hb h2
   .rw[show M'.b i=M.b i from if_neg h1,show M'.b j=M.b j from if_neg k1];exact h.inj i j _ _ hi hj h3 k3 hij
 .intro i bi hi hr j hA;rcases hrd i bi (h.aR i hi) hr with⟨rfl,_⟩|⟨h1,h2,h3⟩
  .rw[mb] at hA;exact h.apart b bk hT hb j hA
  .rw[show M'.b i=M.b i from if_neg h1] at hA;exact h.apart i bi hi h3 j hA
 .intro k j hA;rw[hsz];exact h.bc k j hA
 .have tmb:tb ((S.wr b none).new bk').mm b:=by rw[e2];exact aM.2 (.inl (aM.2 (.inr (cn.2 rfl))))
  have tmc:tb ((S.wr b none).new bk').mm S.c:=by rw[e2];exact aM.2 (.inr (cn.2 rfl))
  refine⟨hext,hk,by rw[hsz];exact XP _,hos,htp,hout,?_,fun _ _ h=>.inl h,?_,?_,?_,?_,?_,?_,?_⟩
  .intro k hk' hn;exact hoth k fun e'=>hn b _ hbl tmb hd hb e'.symm
  .intro i hdi hn;have hi:i=S.c:=hdi.resolve_left hn;subst hi;refine⟨XP _,by rw[e2];exact Zf _,tmc,.inr ⟨b,bk,hbl,tmb,hd,hb,?_,mb.symm⟩⟩
   cases hr:((S.wr b none).new bk').rd b with
   |none=>rfl
   |some bi=>
    rcases hrd b bi hbl hr with⟨h1,_⟩|⟨_,h2,_⟩
    .exact absurd h1.symm hcb
    .exact absurd rfl h2
  .intro i bi hil hr hdi;rcases hrd i bi hil hr with⟨h1,_⟩|⟨_,_,h3⟩
   .exact absurd h1 (hne i hdi)
   .exact⟨bi,h3⟩
  .intro i hl hi;have h1:i≠S.c:=fun e=>hi (e ▸ tmc);have h2:i≠b:=fun e=>hi (e ▸ tmb);rw[AP (by rw[ec];exact hcl) hl (by rw[ec];exact h1),AO hbl hl h2]
  .intro i hi;rw[e2];exact aM.2 (.inl (aM.2 (.inl hi)))
  .intro i hi;rw[e2];exact aM.2 (.inl (aM.2 (.inl hi)))
  .intro i hi;rw[e2] at hi ⊢;rcases aM.1 hi with hi|hi
   .rcases aM.1 hi with hi|hi
    .exact .inl hi
    .exact .inr (aM.2 (.inl (aM.2 (.inr hi))))
   .exact .inr (aM.2 (.inr hi))
  .rw[e2];exact zaH _
theorem Np{t2 e:TypeId}{zV0:Nat}{y:CV}{new:List CV}{yv:Value}(hk:wP t2=true)(hH:Hr T M S w)(hI:In T S')(hy:vr M w y yv)(h:Ev.src S e zV0 y=some (new,S')) :
  (S'=S \/ ∃i,S'=S.bD i)/\∃n news,aC M w new news/\Go.Src PP zV0 t2 yv n news w:=by
 have hk':(∃e',PP.underlying t2=some (.slice e'))\/PP.underlying t2=some .string:=by
  unfold wP at hk;split at hk
  .rename_i hu;exact .inl ⟨_,cz hu⟩
  .rename_i hu;exact .inr (cz hu)
  .simp at hk
 unfold Ev.src at h;split at h
 .cases h;simp only[vr] at hy;obtain⟨rfl,_⟩:=hy;exact⟨.inl rfl,0,[],by simp[aC],hk',fun _=>rfl,run_firstCells_none w zV0 0 0 0,run_firstCells_none w.drew zV0 0 0 0,by simp,fun _ h=>by cases h⟩
 .cases h;simp only[vr] at hy;obtain⟨ad,c',rfl⟩:=hy;refine⟨.inl rfl,0,[],by simp[aC],hk',fun _=>rfl,?_,?_,by simp,fun _ h=>by cases h⟩
  .cases ad with
   |none=>exact run_firstCells_none w zV0 0 0 c'
   |some ad=>exact run_firstCells_some w zV0 0 ad 0 c' [] (by simp) (fun j u h=>by simp at h)
  .cases ad with
   |none=>exact run_firstCells_none w.drew zV0 0 0 c'
   |some ad=>exact run_firstCells_some w.drew zV0 0 ad 0 c' [] (by simp) (fun j u h=>by simp at h)
 .rename_i b o' n' c;split at h
  .rename_i cs hc;cases h;simp only[vr] at hy;obtain⟨hd,c',rfl,h1,h2,h3⟩:=hy;have hTb:T b:=hI b (by rw[fA];exact aM.2 (.inr (cn.2 rfl)));obtain⟨vs,g1,g2,g3,g4⟩:=ox hH hTb hc;have hcell:∀j u,vs[j]?=some u->w.cell? ((⟨M.b b,o',none⟩:Addr).add j)=some u:=fun j u hj=>by rw[jZ];exact g4 j u hj
   exact⟨.inr ⟨b,rfl⟩,n',vs,g1,hk',fun _=>rfl,run_firstCells_some w zV0 n' _ n' c' vs g2 hcell,run_firstCells_some w.drew zV0 n' _ n' c' vs g2 (by simpa using hcell),g2,g3⟩
  .simp at h
 .rename_i s;cases hz:Nat.beq zV0 1
  .rw[hz] at h;simp at h
  .rw[hz] at h;have hz:=XT hz;subst hz;simp only[cond_true,XL,XO] at h;obtain⟨rfl,rfl⟩:=h;simp only[vr] at hy;obtain⟨rfl,_⟩:=hy;refine⟨.inl rfl,s.size,byteCells s,?_,hk',fun _=>rfl,firstCells_string s w,firstCells_string s w.drew,by rw[byteCells_length,Y1],fun u hu=>?_⟩
   .unfold byteCells;generalize s.data.toList=l
    induction l with
    |nil=>simp[aC]
    |cons b l ih=>simp only[ZP,aC];exact⟨by simp[vr,Value.oneCell'],ih⟩
   .obtain⟨_,_,rfl⟩:=ZE.1 hu;rfl
 .simp at h
theorem wq{t:TypeId}{x:CV}(h:zero t=some x):∃i zv,PP.info? t=some i/\i.zero=some zv/\vr M w x zv/\x.jS=false:=by
 unfold zero at h;split at h
 .rename_i i hi;split at h
  .rename_i zV0 hz;split at h
   .simp at h
   .rename_i r hr;exact⟨i,zV0,oz hi,hz,CF h,by cases x <;> first|rfl|(exact absurd h (by rename_i l;exact fun e=>hr l e))⟩
  .simp at h
 .simp at h
theorem Jb{e:TypeId}{k:Nat}(h:fits e k=true):∃i zv,PP.info? e=some i/\i.zero=some zv/\zv.cells.size=i.size/\k<=1000000/\k*i.bytes<=140737488355328:=by
 unfold fits at h;split at h
 .rename_i i zc hi hz;rw[XQ,XQ] at h;obtain⟨⟨h1,h2⟩,h3⟩:=h;have h1:=XU h1;have h2:=XU h2;have h3:=XT h3;rw[gu] at h3;obtain⟨i',zv,g1,g2,g3,g4⟩:=wq (M:=⟨fun _=>False,fun _=>0,fun _=>0,fun _=>0,fun _ _=>False⟩) (w:=default) hz;rw[oz hi] at g1;cases g1;obtain⟨c1,_⟩:=lq g3 g4;have:=fT c1;simp only[YU] at this;exact⟨i,zv,oz hi,g2,by omega,h1,h2⟩
 .simp at h
theorem zJ(zV0:Array Value)(k:Nat):(Builtin.zeroCells zV0 k).size=k*zV0.size:=by simp[Builtin.zeroCells]
theorem zK{xs:List CV}{us:List Value}(h:aC M w xs us):xs.length=us.length:=(fT h).symm
theorem Ig{t t2 ty e:TypeId}{zV0 k q cp:Nat}{i:TypeInfo}{zv:Value}{new bg:List CV}{news olds:List Value}{yv:Value}{base:Option Addr}(hH:Hr T M S w)(hfx:T S.c->¬M.d S.c)(hTc:T S.c)(hz:dc e=some zV0)
  (hz':i.size=zV0) (hzs:zv.cells.size=i.size) (hm:q+k<=1000000) (hnl:news.length=k*zV0) (hn1:∀x∈news,x.oneCell'=true) (hnew:aC M w new news) (hold:aC M w bg olds) (ho1:∀x∈olds,x.oneCell'=true) (hol:olds.length=q*zV0)
  (hrun:(Builtin.append_ #[t,t2] ty #[.slice base q cp,yv]).run PP w = .ok (.slice (some ⟨w.heap.size,0,none⟩) (q+k) (grownCap w (q+k) cp e))
    (w.drew.alloc (.cells ((olds++news).toArray++Builtin.zeroCells zv.cells (grownCap w (q+k) cp e-(q+k))) e))) :
  ∃M' u w',(Builtin.append_ #[t,t2] ty #[.slice base q cp,yv]).run PP w = .ok u w'/\vr M' w' (.s S.c 0 (q+k) none) u/\Hr T M' (S.new (.c (bg++new) e false)) w'/\Fr M S w M' (S.new (.c (bg++new) e false)) w':=by
 generalize hnc:grownCap w (q+k) cp e=nc at hrun;have hge:q+k<=nc:=by rw[<-hnc];exact grownCap_ge w _ _ _
 have hle:nc<=maxLen:=by rw[<-hnc];exact grownCap_le_maxLen w _ _ _ (by unfold maxLen;omega)
 obtain⟨k1,k2,k3⟩:=NZ (w':=w.drew) hH rfl rfl rfl rfl;have harr:((olds++news).toArray++Builtin.zeroCells zv.cells (nc-(q+k)))=(olds++news++(Builtin.zeroCells zv.cells (nc-(q+k))).toList).toArray:=by
  apply YC.1;simp
 rw[harr] at hrun;have hlen:(olds++news++(Builtin.zeroCells zv.cells (nc-(q+k))).toList).length=nc*zV0:=by
  simp only[XX,YU,zJ,hzs,hol,hnl,hz'];rw[<-Ys,<-Ys,Nat.add_sub_cancel' hge]
 obtain⟨M',g1,g2,g3,g4,g5,g6⟩:=xF (bk:=.c (bg++new) e false) (ob:=.cells (olds++news++(Builtin.zeroCells zv.cells (nc-(q+k))).toList).toArray e) (zV0:=nc*zV0) (e:=zV0) k2 (hfx hTc) hTc
  (fun M' he hk hd hb hz1 he1 hn=>⟨olds++news,(Builtin.zeroCells zv.cells (nc-(q+k))).toList,by rw[hb];exact hn,by rw[hz1];exact hlen,fun h=>by simp at h,jG he hk _ _ (jG (Mp.ext.refl M) k1 _ _ (ky hold hnew)),fun x hx=>by
   rcases Yc.1 hx with hx|hx
   .exact ho1 x hx
   .exact hn1 x hx,by rw[he1];exact hz⟩)
 refine⟨M',_,_,hrun,?_,g1,k3.trans g2⟩;simp only[vr];refine⟨g3,nc,?_,hge,hle,?_⟩
 .rw[g4];rfl
 .rw[g5,g6];simp
theorem pR{t t2 ty e:TypeId}{zV0 k q cp:Nat}{new bg:List CV}{news olds:List Value}{yv:Value}{base:Option Addr}(hH:Hr T M S w)(hfx:T S.c->¬M.d S.c)(hTc:T S.c)(ht:cR t=some (.slice e))(hz:dc e=some zV0)
  (hfit:fits e (q+k)=true) (hs:Go.Src PP zV0 t2 yv k news w) (hnew:aC M w new news) (hold:aC M w bg olds) (ho1:∀x∈olds,x.oneCell'=true) (hol:olds.length=q*zV0) (hqc:q<=cp) (hg:cp<q+k)
  (hfc:(Builtin.firstCells zV0 q (.slice base q cp)).run PP w.drew = .ok olds.toArray w.drew) :
  ∃M' u w',(Builtin.append_ #[t,t2] ty #[.slice base q cp,yv]).run PP w = .ok u w'/\vr M' w' (.s S.c 0 (q+k) none) u/\Hr T M' (S.new (.c (bg++new) e false)) w'/\Fr M S w M' (S.new (.c (bg++new) e false)) w':=by
 obtain⟨i,zv,hi,hzv,hzs,hm,hb⟩:=Jb hfit;obtain⟨i',hi',hz'⟩:=mw hz;rw[hi] at hi';cases hi';have h63:((q+k:Nat):Int)<=9223372036854775807:=by omega
 have hrun:=run_append_grow_src (P:=PP) w t t2 ty e i zv (cz ht) hi hzv base q cp olds (by rw[hz'];exact hfc) yv k news (by rw[hz'];exact hs) hg h63 (growslice_fits hg hb);exact Ig hH hfx hTc hz hz' hzs hm hs.newsLen hs.one hnew hold ho1 hol hrun
theorem N8{t t2 ty e:TypeId}{j:IntKind}{i:TypeInfo}{zv:Value}{k q cp:Nat}{olds:List Value}{base:Option Addr}(ht:cR t=some (.slice e))(ht2:cR t2=some (.int j))(hi:PP.info? e=some i)(hzv:i.zero=some zv)(hzs:zv.cells.size=i.size)
  (hfc:(Builtin.firstCells i.size q (.slice base q cp)).run PP w.drew = .ok olds.toArray w.drew) (hg:cp<q+k) (hm:q+k<=1000000) (hb:(q+k)*i.bytes<=140737488355328) :
  (Builtin.append_ #[t,t2] ty #[.slice base q cp,.int .i64 (k:Int)]).run PP w = .ok (.slice (some ⟨w.heap.size,0,none⟩) (q+k) (grownCap w (q+k) cp e))
    (w.drew.alloc (.cells ((olds++(Builtin.zeroCells zv.cells k).toList).toArray++Builtin.zeroCells zv.cells (grownCap w (q+k) cp e-(q+k))) e)):=by
 have hn:¬(q+k<=cp):=by omega
 have h63':¬(9223372036854775807<((q:Int)+(k:Int))):=by omega
 have h48':¬(281474976710656<Builtin.nextslicecap (q+k) cp*i.bytes):=by have:=growslice_fits hg hb;omega
 have hw:IntKind.i64.wrap (k:Int)=(k:Int):=IntWalk.i64_in _ (by constructor <;> omega);have hneg:¬((k:Int)<0):=by omega
 have hkb:¬(281474976710656<(k:Int)*(i.bytes:Int)):=by
  have h1:k*i.bytes<=(q+k)*i.bytes:=Ya _ (by omega);have:(k:Int)*(i.bytes:Int)=((k*i.bytes:Nat):Int):=by push_cast;rfl
  rw[this];omega
 have hzc:k*i.size=0->(Builtin.zeroCells zv.cells k) = #[]:=by
  intro h;apply Array.eq_empty_of_size_eq_zero;rw[zJ,hzs];exact h
 have e:∀X:Array Value,(olds++(Builtin.zeroCells zv.cells k).toList).toArray++X=olds.toArray++Builtin.zeroCells zv.cells k++X:=by
  intro X;apply YC.1;simp
 rw[e];by_cases h0:k*i.size=0
 .rw[hzc h0];simp[Builtin.append_,run_underlying (cz ht),run_underlying (cz ht2),Go.sizeOf,typeInfo,zeroValue,hi,hzv,asInt,asIntOf,hw,hneg,hkb,hn,h63',h48',Question.forced,hfc,newRow,grownCap,h0]
 .simp[Builtin.append_,run_underlying (cz ht),run_underlying (cz ht2),Go.sizeOf,typeInfo,zeroValue,hi,hzv,asInt,asIntOf,hw,hneg,hkb,hn,h63',h48',Question.forced,hfc,newRow,grownCap,h0]
theorem FI{t t2 ty e:TypeId}{i:TypeInfo}{k q cp:Nat}{news:List Value}{yv:Value}{ad:Addr}(ht:cR t=some (.slice e))(hi:PP.info? e=some i)(hs:Go.Src PP i.size t2 yv k news w)(hroom:q+k<=cp)
  (hst:(storeCells (ad.add (q*i.size)) news).run PP w = .ok () w'):(Builtin.append_ #[t,t2] ty #[.slice (some ad) q cp,yv]).run PP w = .ok (.slice (some ad) (q+k) cp) w':=by
 rcases hs.kind with⟨e',hk⟩|hk <;> simp[Builtin.append_,run_underlying (cz ht),run_underlying hk,Go.sizeOf,typeInfo,hi,hs.len,hroom,hs.cells,hst]
theorem Bg{t t2 ty e:TypeId}{i:TypeInfo}{q cp:Nat}{yv:Value}{base:Option Addr}(ht:cR t=some (.slice e))(hi:PP.info? e=some i)(hle:q<=cp)(hs:Go.Src PP i.size t2 yv 0 [] w) :
  (Builtin.append_ #[t,t2] ty #[.slice base q cp,yv]).run PP w = .ok (.slice base q cp) w:=by
 rcases hs.kind with⟨e',hk⟩|hk <;> cases base <;> simp[Builtin.append_,run_underlying (cz ht),run_underlying hk,Go.sizeOf,typeInfo,hi,hs.len,hle,hs.cells,storeCells]
theorem VL{t t2 ty:TypeId}{x y:CV}{xv yv:Value}(hH:Hr T M S w)(hfx:Fx T M S.c w)(hI:In T S')(hx:vr M w x xv)(hy:vr M w y yv)(h:sY S t t2 x y=some (v,S')) :
  ∃M' u w',(Builtin.append_ #[t,t2] ty #[xv,yv]).run PP w = .ok u w'/\vr M' w' v u/\Hr T M' S' w'/\Fr M S w M' S' w':=by
 have hmn:=G4 h;unfold sY at h;split at h
 .rename_i e hel;split at h
  .rename_i zV0 hz;cases hc:(Nat.ble 1 zV0&&wP t2)
   .rw[hc] at h;simp at h
   .rw[hc] at h;rw[XQ] at hc;have hz1:=XU hc.1;simp only[cond_true] at h;split at h
    .rename_i new S1 hs1;have hut:=nv hel;obtain⟨i,hi,hiz⟩:=mw hz;have hmono:ij S1 S':=by
      cases hl:Nat.beq (len new) 0
      .rw[hl] at h;simp only[cond_false,cd] at h;split at h
       .exact(G6 h).mono
       .exact(G5 h).mono
       .simp at h
      .rw[hl] at h;simp only[cond_true] at h;split at h <;> first|(cases h;exact ij.refl _)|simp at h
     obtain⟨hq,n,news,hnew,hsrc⟩:=Np hc.2 hH (In.back hI hmono) hy hs1;obtain⟨hH1,hF1⟩:=hH.quiet hq;have hsc:S1.c=S.c:=by rcases hq with rfl|⟨i,rfl⟩;rfl;rw[fA]
     have hfx1:Fx T M S1.c w:=by rw[hsc];exact hfx
     have hln:len new=n*zV0:=by rw[gu,zK hnew,hsrc.newsLen]
     cases hl:Nat.beq (len new) 0
     .rw[hl] at h;simp only[cond_false,cd] at h;have hk:Nat.div (len new) zV0=n:=by
       show len new/zV0=n;rw[hln,Y4 _ (by omega)]
      rw[hk] at h;have hn0:0<n:=by
       rcases Yr n with h0|h0
       .subst h0;rw[hln,Zm] at hl;simp at hl
       .exact h0
      split at h
      .unfold zn at h;cases hf:fits e n
       .rw[hf] at h;simp at h
       .rw[hf] at h;simp only[cond_true,cd,gz,XL,XO] at h;obtain⟨rfl,rfl⟩:=h;simp only[vr] at hx;obtain⟨rfl,_⟩:=hx;have hTc:T S1.c:=hI _ (by rw[g9];exact aM.2 (.inr (cn.2 rfl)));obtain⟨M',u,w',g1,g2,g3,g4⟩:=pR (ty:=ty) (bg:=[]) (olds:=[]) (q:=0) (cp:=0) (base:=none) hH1 (fun h=>hfx1.here h) hTc hut hz (by simpa using hf) hsrc hnew (by simp[aC]) (fun x h=>by simp at h) (by simp) (XP _) (by omega) (run_firstCells_none w.drew zV0 0 0 0);rw[Yk] at g2;exact⟨M',u,w',g1,g2,g3,hF1.trans g4⟩
      .rename_i b o' q c;unfold zm at h;split at h
       .rename_i l t' ex hb;cases ht':Nat.beq t' e
        .rw[ht'] at h;simp at h
        .rw[ht'] at h;have ht':=XT ht';subst ht';simp only[cond_true,cd] at h;simp only[vr] at hx;obtain⟨hdb,cp,rfl,x1,x2,x3⟩:=hx;have hze:∀{Tb:T b},zV0=M.e b/\∃cs rest:List Value,w.heap[M.b b]?=some (.cells (cs++rest).toArray t' (0,0))/\(cs++rest).length=M.z b/\aC M w l cs/\(∀v∈cs,v.oneCell'=true)/\(ex=true->rest=[]):=by
          intro Tb;obtain⟨_,cs,rest,h1,h2,h3,h4,h5,h6⟩:=hH1.bO b _ Tb hb;rw[hz] at h6;exact⟨by simpa using h6,cs,rest,h1,h2,h4,h5,h3⟩
         generalize hroom:Ib c (Nat.add q n) (Nat.add o' (Nat.mul (Nat.add q n) zV0)) l=room at h
         cases room with
         |true=>
          simp only[cond_true] at h;split at h
          .rename_i S2 hst;cases h;have hTb:T b:=by
            unfold iT at hst;split at hst
            .split at hst
             .rw[gz] at hst;cases hst;exact hI b (by rw[gW];exact aM.2 (.inr (cn.2 rfl)))
             .simp at hst
            .simp at hst
           obtain⟨e1,cs,rest,h1,h2,h4,h5,h6⟩:=hze (Tb:=hTb);obtain⟨w',k1,k2,k3⟩:=pb hH1 hst hI hnew hsrc.one;have hr:q+n<=cp:=by
            cases c with
            |some c=>simp only at x3 hroom;have:=XU hroom;rw[x3];exact this
            |none=>
             simp only at x3;have hb1:o'+(q+n)*zV0<=len l:=XU hroom;rw[gu,zK h4] at hb1;have:(q+n)*zV0<=cp*zV0:=by
              rw[<-e1] at x3;have:cs.length<=M.z b:=by rw[<-h2];simp
              omega
             exact YV this (by omega)
           refine⟨M,_,w',FI (ty:=ty) hut hi (by rw[hiz];exact hsrc) hr (by rw[hiz,jZ];exact k1),?_,k2,hF1.trans k3⟩;simp only[vr];exact⟨hdb,cp,rfl,hr,x2,x3⟩
          .simp at h
         |false=>
          simp only[cond_false] at h;cases hf:fits t' (Nat.add q n)
          .rw[hf] at h;simp at h
          .rw[hf] at h;simp only[cond_true] at h;split at h
           .rename_i c0;split at h
            .rename_i bg hp;simp only[cd,gz,XL,XO,jd] at h;obtain⟨rfl,rfl⟩:=h;have hI1:In T (S1.bD b):=In.back hI (ij.new _ _);have hTb:T b:=hI1 b (by rw[fA];exact aM.2 (.inr (cn.2 rfl)));have htc:(S1.bD b).c=S1.c:=by rw[fA]
             have hTc:T (S1.bD b).c:=hI _ (by rw[g9];exact aM.2 (.inr (cn.2 rfl)));obtain⟨e1,cs,rest,h1,h2,h4,h5,h6⟩:=hze (Tb:=hTb);obtain⟨p1,p2,p3⟩:=A7 h4 h5 hp;have hcell:∀j u,((cs.drop o').take (Nat.mul q zV0))[j]?=some u->w.cell? ((⟨M.b b,o',none⟩:Addr).add j)=some u:=by
              intro j u hj;rw[jZ];rw[YS] at hj;split at hj
              .rw[Yw] at hj;have hlt:=(XN.1 hj).1;unfold World.cell?;rw[h1];simp[XV hlt,hj]
              .simp at hj
             simp only at x3;have dO:cp<q+n:=by
              rw[x3];rcases zaz c0 (q+n) with hlt|hge
              .exact hlt
              .have:Nat.ble (Nat.add q n) c0=true:=Z5 hge;have hroom:Nat.ble (Nat.add q n) c0=false:=hroom;rw[this] at hroom;simp at hroom
             obtain⟨M',u,w',g1,g2,g3,g4⟩:=pR (ty:=ty) (S:=S1.bD b) (bg:=bg) (olds:=(cs.drop o').take (Nat.mul q zV0)) (q:=q) (cp:=cp) (base:=some ⟨M.b b,o',none⟩) (hH1.bD b) (fun h=>by rw[htc];exact hfx1.here (by rw[htc] at h;exact h)) hTc hut hz hf hsrc hnew p1 p3 p2 x1 dO
              (run_firstCells_some w.drew zV0 q _ q cp _ p2 (by simpa using hcell))
             rw[htc] at g2;exact⟨M',u,w',g1,g2,g3,(hF1.trans (Fr.bD b)).trans g4⟩
            .simp at h
           .cases hcc:(Nat.beq o' 0&&Nat.beq (Nat.mul q zV0) (len l))
            .rw[hcc] at h;simp at h
            .rw[hcc] at h;rw[XQ] at hcc;have ho0:=XT hcc.1;have hql:q*zV0=len l:=XT hcc.2;subst ho0;simp only[cond_true,cd,gz,XL,XO,jd] at h;obtain⟨rfl,rfl⟩:=h;have hI1:In T (S1.wr b none):=In.back hI (ij.new _ _);have hTb:T b:=hI1 b (by rw[gW];exact aM.2 (.inr (cn.2 rfl)));have htc:(S1.wr b none).c=S1.c:=by rw[gW]
             have hTc:T S1.c:=by rw[<-htc];exact hI _ (by rw[g9];exact aM.2 (.inr (cn.2 rfl)))
             obtain⟨e1,cs,rest,h1,h2,h4,h5,h6⟩:=hze (Tb:=hTb);simp only at x3;rw[gu,zK h4] at hql;have hcell:∀j u,cs[j]?=some u->w.cell? ((⟨M.b b,0,none⟩:Addr).add j)=some u:=by
              intro j u hj;rw[jZ,Yk];have hlt:=(XN.1 hj).1;unfold World.cell?;rw[h1];simp[XV hlt,hj]
             by_cases hr:q+n<=cp
             ·
              have hcz:cp*zV0=(cs++rest).length:=by rw[h2,<-x3,e1];simp
              have hfitc:q*zV0+news.length<=(cs++rest).length:=by
               rw[hsrc.newsLen,<-Ys,<-hcz];exact Ya _ hr
              have hrun:=run_storeCells_at PP (M.b b) (q*zV0) t' news 0 (cs++rest).toArray w h1 (by simpa using hfitc) hsrc.one;have ea:((cs++rest).toArray.toList.take (q*zV0+0)++news++(cs++rest).toArray.toList.drop (q*zV0+0+news.length))=(cs++news)++rest.drop news.length:=by
               simp only[Yl];rw[hql,zaI,zaX,List.drop_eq_nil_of_le (by omega:cs.length<=cs.length+news.length)];simp
              rw[ea] at hrun;have hnewh:=setRow_heap w (M.b b) (cs++rest).toArray ((cs++news)++rest.drop news.length).toArray t' (0,0) h1;obtain⟨M',g1,g2,g3,g4,g5,g6⟩:=OG (bk':=.c (l++new) t' false) (w':=w.setRow (M.b b) ((cs++news)++rest.drop news.length).toArray) hH1 hTb hTc (hfx1.here hTc) hb (by rw[setRow_size]) (fun k hk=>setRow_other w _ k _ hk) rfl rfl rfl
               (fun M' he hk hd hb' hz' he'=>⟨cs++news,rest.drop news.length,by rw[hb'];exact hnewh,by
                rw[hz',<-h2];simp only[XX,X1] at hfitc ⊢;omega,fun h=>by simp at h,jG he hk _ _ (ky h4 hnew),fun x hx=>by
                 rcases Yc.1 hx with hx|hx
                 .exact h5 x hx
                 .exact hsrc.one x hx,by rw[he',hz,e1]⟩)
              refine⟨M',_,_,FI (ty:=ty) (ad:=⟨M.b b,0,none⟩) hut hi (by rw[hiz];exact hsrc) hr (by rw[hiz,jZ,Yk];exact hrun),?_,g1,hF1.trans g2⟩;simp only[vr];refine⟨g3,cp,by rw[g4];rfl,hr,x2,?_⟩;rw[g5,g6];exact x3
             ·
              obtain⟨kw1,kw2⟩:=tw (w':=w) (ob:=none) hH1 hTb hb rfl (fun _ _=>rfl) rfl rfl rfl (fun bk' e _=>by simp at e);obtain⟨M',u,w',g1,g2,g3,g4⟩:=pR (ty:=ty) (S:=S1.wr b none) (bg:=l) (olds:=cs) (q:=q) (cp:=cp) (base:=some ⟨M.b b,0,none⟩) kw1 (fun h=>by rw[htc];exact hfx1.here hTc) (by rw[htc];exact hTc) hut hz hf hsrc hnew h4 h5 hql.symm x1 (by omega)
               (run_firstCells_some w.drew zV0 q _ q cp _ hql.symm (by simpa using hcell))
              rw[htc] at g2;exact⟨M',u,w',g1,g2,g3,(hF1.trans kw2).trans g4⟩
       .simp at h
      .simp at h
     .rw[hl] at h;have hl:=XT hl;have hn0:n=0:=by
       rw[hln] at hl;rcases Zl.1 hl with h0|h0
       .exact h0
       .omega
      subst hn0;have hnn:news=[]:=by have:=hsrc.newsLen;rw[Zm] at this;exact ZB.1 this
      subst hnn;simp only[cond_true] at h;split at h
      .cases h;have hx':=hx;simp only[vr] at hx;obtain⟨rfl,_⟩:=hx;exact⟨M,_,w,Bg (ty:=ty) hut hi (XP _) (by rw[hiz];exact hsrc),hx',hH1,hF1⟩
      .cases h;have hx':=hx;simp only[vr] at hx;obtain⟨_,cp,rfl,x1,_⟩:=hx;exact⟨M,_,w,Bg (ty:=ty) hut hi x1 (by rw[hiz];exact hsrc),hx',hH1,hF1⟩
      .cases h;have hx':=hx;simp only[vr] at hx;obtain⟨_,cp,rfl⟩:=hx;exact⟨M,_,w,Bg (ty:=ty) hut hi (XS _) (by rw[hiz];exact hsrc),hx',hH1,hF1⟩
      .simp at h
    .simp at h
  .simp at h
 .simp at h
end
section
variable {r:Option Nat}{n:Nat}{T:Nat->Prop}{M:Mp}{S S':HS}{w w':World}{a:Act}{o:Oper}{v:CV}{u:Value}{F:Tr CV}
theorem ym{pl places:Nat->Option (Nat×Nat)}(hpl:∀i p,pl i=some p->places i=some p)(hT:sr M w F a.tmps):∀(ps:List (Nat×Operand)) {cs out:List CV} {us:List Value},aC M w cs us->(∀u∈us,u.oneCell'=true)->fill F pl cs ps=some out →
  ∃us',Instr.fill places us.toArray (ps.map fun p=>(p.1,a.eval p.2))=some us'.toArray/\aC M w out us'/\∀u∈us',u.oneCell'=true
 |[],cs,out,us,hv,h1,h=>by
  have h:some cs=some out:=h;cases h;exact⟨us,rfl,hv,h1⟩
 |p::ps,cs,out,us,hv,h1,h=>by
  have h:(match pl p.1,bM F p.2 with
   |some (o,zV0),some v=>bif v.jS then none else bif Nat.beq (len v.cl) zV0 then(match rn cs o v.cl with|some cs'=>fill F pl cs' ps|none=>none) else none
   |_,_=>none)=some out:=h
  split at h
  .rename_i off zV0 x hp hx;cases ht:x.jS
   .rw[ht] at h;simp only[cond_false] at h;cases hl:Nat.beq (len x.cl) zV0
    .rw[hl] at h;simp at h
    .rw[hl] at h;have hl:=XT hl;rw[gu] at hl;simp only[cond_true] at h;split at h
     .rename_i cs1 hr;obtain⟨c1,c2⟩:=lq (cQ hT hx) ht;obtain⟨e1,e2,e3⟩:=AL hr;have hlu:=fT hv;have hlx:=fT c1;simp only[YU] at hlx;have hv1:aC M w cs1 (splice us off (a.eval p.2).cells.toList):=by
       rw[e1];unfold splice;have:(a.eval p.2).cells.toList.length=x.cl.length:=by simp[hlx]
       rw[this,Yf];exact ky (tB off hv) (ky c1 (tC _ hv))
      have h11:∀u∈splice us off (a.eval p.2).cells.toList,u.oneCell'=true:=by
       intro u hu;unfold splice at hu;rcases Yc.1 hu with hu|hu
       .rcases Yc.1 hu with hu|hu
        .exact h1 u (YB hu)
        .exact c2 u hu
       .exact h1 u (Zy hu)
      obtain⟨us',k1,k2,k3⟩:=ym hpl hT ps hv1 h11 h;refine⟨us',?_,k2,k3⟩;simp only[ZP];unfold Instr.fill;rw[hpl _ _ hp];have hsz:(a.eval p.2).cells.size=zV0:=by omega
      have hfit:¬off+(a.eval p.2).cells.size > us.toArray.size:=by simp;omega
      have hfold:((a.eval p.2).cells.zipIdx.foldl (fun cs (p:Value×Nat)=>cs.setIfInBounds (off+p.2) p.1) us.toArray)=(splice us off (a.eval p.2).cells.toList).toArray:=by
       rw[<-zaQ,Array.toList_zipIdx];exact Iz off (a.eval p.2).cells.toList 0 us.toArray (by simp;omega)
      simp only[hsz,ne_eq,not_true_eq_false,hsz ▸ hfit,ZA,decide_false,X8,if_false];rw[<-k1,<-hfold]
     .simp at h
   .rw[ht] at h;simp at h
  .simp at h
def oQ:Prop:=∀t fs,cR t=some (.struct fs)->∀f∈fs.toList,∃i,PP.info? f.type=some i
theorem Pr{fs:List Field}(h:∀f∈fs,∃i,PP.info? f.type=some i):∃ps:List (Nat×Nat),(fs.mapM fun(f:Field)=>(PP.info? f.type).map fun i=>(f.offset,i.size))=some ps/\∀(i:Nat) (f:Field) (zV0:Nat),fs[i]?=some f->dc f.type=some zV0->ps[i]?=some (f.offset,zV0):=by
 induction fs with
 |nil=>exact⟨[],rfl,fun i f zV0 h=>by simp at h⟩
 |cons f fs ih=>
  obtain⟨i,hi⟩:=h f (by simp);obtain⟨ps,h1,h2⟩:=ih fun g hg=>h g (by simp[hg]);refine⟨(f.offset,i.size)::ps,?_,?_⟩
  .rw[zae,hi,h1];rfl
  .intro k g zV0 hk hz
   cases k with
   |zero=>
    simp at hk;subst hk;obtain⟨i',h3,h4⟩:=mw hz;rw[hi] at h3;cases h3;simp[h4]
   |succ k=>exact h2 k g zV0 (by simpa using hk) hz
theorem Vr(hst:oQ){t:TypeId}{ps:Array (Nat×Operand)}(hT:sr M w F a.tmps)(h:zf F t ps.toList=some v) :
  ∃u,(Instr.build t (ps.map fun(i,x)=>(i,a.eval x))).run PP w = .ok u w/\vr M w v u:=by
 have hmap:(ps.map fun(i,x)=>(i,a.eval x)).toList=ps.toList.map fun p=>(p.1,a.eval p.2):=by simp
 unfold zf at h;split at h
 .rename_i zV0 fs hz hu;obtain⟨zu,g1,g2,g3⟩:=qC (M:=M) (w:=w) hz;obtain⟨c1,c2⟩:=lq g2 g3;split at h
  .rename_i cs hf;cases h;obtain⟨pls,p1,p2⟩:=Pr (hst t fs hu);obtain⟨us,k1,k2,k3⟩:=ym (places:=fun i=>pls[i]?) (a:=a) (fun i p hp=>by
    unfold Iq at hp;split at hp
    .rename_i f hf';rw[iV] at hf';split at hp
     .rename_i z' hz';cases hp;exact p2 i f z' hf' hz'
     .simp at hp
    .simp at hp) hT ps.toList c1 c2 hf
   refine⟨.agg us.toArray,?_,by simp only[vr];exact⟨us,rfl,k2,k3⟩⟩;have hm:=Hk p1 w;have hmA:∀(g:Field->Sem (Nat×Nat)),fs.mapM g=(do pure (List.toArray (← fs.toList.mapM g)):Sem _):=by
    intro g;rw[zah];simp
   rw[Y5] at k1;simp only[Instr.build];simp[g1,run_underlying (cz hu),hmA,hm,hmap,k1]
  .simp at h
 .rename_i zV0 len e hz hu;obtain⟨zu,g1,g2,g3⟩:=qC (M:=M) (w:=w) hz;obtain⟨c1,c2⟩:=lq g2 g3;split at h
  .rename_i m hm;split at h
   .rename_i cs hf;cases h;obtain⟨us,k1,k2,k3⟩:=ym (places:=fun i=>some (i*m,m)) (a:=a) (fun i p hp=>hp) hT ps.toList c1 c2 hf;refine⟨.agg us.toArray,?_,by simp only[vr];exact⟨us,rfl,k2,k3⟩⟩;rw[Y5] at k1;simp only[Instr.build];simp[g1,run_underlying (cz hu),gk w hm,hmap,k1]
   .simp at h
  .simp at h
 .simp at h
theorem Qi{t:TypeId}{ps:Array (Nat×Operand)}(hst:oQ)(ho:o.op = .build t ps)(hH:Hr T M S w)(hT:sr M w F a.tmps)(ih:Rec)(he:pP t ps ih F S=some (v,S')):dg r n T M S w a o v S':=by
 unfold pP at he;have hd:∀c,o.op≠.defer c:=fun c hc=>by rw[ho] at hc;simp at hc
 split at he
 .rename_i x hx;cases he;obtain⟨u,k1,k2⟩:=Vr hst hT hx;refine dV hH hd (u:=u) ?_ k2 (.inl rfl);unfold execOp;rw[ho];simp[XW,k1]
 .simp at he
theorem LY{xs:List CV}{us:List Value}:us.length=xs.length->(∀(i:Nat) (x:CV) (u:Value),xs[i]?=some x->us[i]?=some u->vr M w x u)->aC M w xs us:=by
 induction xs generalizing us with
 |nil=>intro h _;simp at h;subst h;simp[aC]
 |cons x xs ih=>
  intro h hp
  cases us with
  |nil=>simp at h
  |cons u us=>
   simp only[aC];exact⟨hp 0 x u rfl rfl,ih (by simpa using h) fun i y zV0 h1 h2=>hp (i+1) y zV0 (by simpa using h1) (by simpa using h2)⟩
theorem FQ{α:Type}(l:List α):∀(n i:Nat) {x:α},(rep l n)[i]?=some x->l[i%l.length]?=some x
 |0,i,x,h=>by
  have:rep l 0=[]:=rfl;rw[this] at h;simp at h
 |n+1,i,x,h=>by
  have e:rep l (n+1)=l++rep l n:=by show app l (rep l n)=_;rw[jd]
  rw[e] at h;by_cases hi:i<l.length
  .rw[XV hi] at h;rw[Y7 hi];exact h
  .rw[YL (by omega)] at h;have:=FQ l n (i-l.length) h;rw[Nat.mod_eq_sub_mod (by omega)];exact this
theorem wu{l:List CV}{zs:Array Value}(h:aC M w l zs.toList)(n:Nat):aC M w (rep l n) ((Array.range (n*zs.size)).map fun i=>zs[i%zs.size]!).toList:=by
 have hl:=fT h;simp only[YU] at hl;refine LY (by simp[OD,hl]) fun i x u hx hu=>?_;have h1:=FQ l n i hx;obtain⟨y,h2,h3⟩:=wA h h1;have hlt:i%l.length<zs.size:=by rw[hl];exact(XN.1 h1).1
 have hu':u=zs[i%zs.size]!:=by
  rw[Z4,Array.getElem?_map] at hu;have:(Array.range (n*zs.size))[i]?=some i\/(Array.range (n*zs.size))[i]?=none:=by
   rw[Array.getElem?_range];split <;> simp
  rcases this with h|h <;> rw[h] at hu <;> simp at hu;exact hu.symm
 have h2:zs[i%l.length]?=some y:=by simpa using h2
 rw[hu',hl,getElem!_pos zs (i%l.length) (by omega)];rw[Yd (by omega)] at h2;cases h2;exact h3
theorem wv{zs:Array Value}(h:∀u∈zs.toList,u.oneCell'=true)(n:Nat):∀u∈((Array.range (n*zs.size)).map fun i=>zs[i%zs.size]!).toList,u.oneCell'=true:=by
 intro u hu;simp only[zau,ZE,Array.toList_range,Y9] at hu;obtain⟨i,hi,rfl⟩:=hu;have hp:0<zs.size:=by rcases Yr zs.size with h0|h0;rw[h0] at hi;simp at hi;exact h0
 have hlt:=YE i hp;rw[getElem!_pos zs _ hlt];exact h _ (by simp)
theorem D4{e:TypeId}{k m:Nat}{zV0:CV}(h:qB e k m zV0=true):zV0.cl.length=m/\k*m<=16777216/\k<=1000000/\∃i,PP.info? e=some i/\k*i.bytes<=140737488355328:=by
 unfold qB at h;rw[XQ,XQ] at h;obtain⟨⟨h1,h2⟩,h3⟩:=h;have h1:=XT h1;have h2:k*m<=16777216:=XU h2;rw[gu] at h1;split at h3
 .rename_i i hi;rw[XQ] at h3;exact⟨h1,h2,XU h3.1,i,oz hi,XU h3.2⟩
 .simp at h3
theorem FG{e:TypeId}{m:Nat}{cs:List CV}{us:List Value}(hH:Hr T M S w)(hF:Fx T M S.c w)(hTc:T S.c)(hm:dc e=some m)(hv:aC M w cs us)(h1:∀u∈us,u.oneCell'=true)(k c:Nat)(hkc:k<=c)(hc:c<=1000000) :
  ∃M',(newRow e us.toArray).run PP w = .ok ⟨w.heap.size,0,none⟩ (w.alloc (.cells us.toArray e))/\vr M' (w.alloc (.cells us.toArray e)) (.s S.c 0 k (some c)) (.slice (some ⟨w.heap.size,0,none⟩) k c)/\Hr T M' (S.new (.c cs e true)) (w.alloc (.cells us.toArray e))/\Fr M S w M' (S.new (.c cs e true)) (w.alloc (.cells us.toArray e)):=by
 obtain⟨M',k1,k2,k3,k4,_,_⟩:=Kw (rest:=[]) (x:=true) hH (hF.here hTc) hTc hv h1 (fun _=>rfl) hm;rw[YF] at k1 k2;refine⟨M',by simp[newRow],?_,k1,k2⟩;simp only[vr];exact⟨k3,c,by rw[k4],hkc,by unfold maxLen;omega,rfl⟩
theorem PW{t:TypeId}{x y:Operand}(ho:o.op = .makeSlice t x y)(hH:Hr T M S w)(hF:Fx T M S.c w)(hT:sr M w F a.tmps)(ih:Rec)(he:r9 t x y ih F S=some (v,S'))(hI:In T S'):dg r n T M S w a o v S':=by
 unfold r9 at he;have hd:∀c,o.op≠.defer c:=fun c hc=>by rw[ho] at hc;simp at hc
 split at he
 .rename_i p q hp hq;unfold xC at he;split at he
  .rename_i e k c hel;split at he
   .rename_i zV0 m hz hm;cases hc:(qB e c m zV0&&Nat.ble k c)
    .rw[hc] at he;simp at he
    .rw[hc] at he;rw[XQ] at hc;have hkc:=XU hc.2;obtain⟨z1,z2,z3,i,z4,z5⟩:=D4 hc.1;simp only[cond_true,cd,gz,XL,XO] at he;obtain⟨rfl,rfl⟩:=he;have hTc:T S.c:=hI _ (by rw[g9];exact aM.2 (.inr (cn.2 rfl)));obtain⟨zu,g1,g2,g3⟩:=qC (M:=M) (w:=w) hz;obtain⟨c1,c2⟩:=lq g2 g3;have hzs:zu.cells.size=m:=by have:=fT c1;simp only[YU] at this;omega
     have hv1:=cQ hT hp;have hv2:=cQ hT hq;simp only[vr] at hv1 hv2;have hrow:=wu c1 c;have hone:=wv c2 c;obtain⟨M',k1,k2,k3,k4⟩:=FG hH hF hTc hm hrow hone k c hkc z3;rw[Y5] at k1 k2 k3 k4;intro K Q hK;refine cT hd ?_ (hK M' _ _ k2 k3 k4);obtain⟨i',zv,y1,y2,y3,y4⟩:=wq (M:=M) (w:=w) hz;rw[z4] at y1;cases y1;have hzz:zv=zu:=by
      have:(zeroValue e).run PP w = .ok zv w:=by simp[zeroValue,XW,run_typeInfo w z4,y2]
      rw[g1] at this;cases this;rfl
     subst hzz;obtain⟨im,y5,y6⟩:=mw hm;rw[z4] at y5;cases y5;have hb4:(i.bytes:Int)*(c:Int)<=281474976710656:=by
      have:(i.bytes:Int)*(c:Int)=((c*i.bytes:Nat):Int):=by push_cast;rw[Int.mul_comm]
      rw[this];omega
     have hrun:=run_make (P:=PP) w t e i zv (cz (nv hel)) z4 y2 .i64 .i64 (k:Int) (c:Int) (by omega) (by omega) hb4 (by omega);have hmc:madeCells zv.cells (c*i.size)=(Array.range (c*zv.cells.size)).map fun i=>zv.cells[i%zv.cells.size]!:=by
      rw[y6,<-hzs];rfl
     simp only[Int.toNat_natCast] at hrun;rw[hmc] at hrun;unfold execOp;rw[ho];have hv1:a.eval x = .int .i64 (k:Int):=hv1.1;have hv2:a.eval y = .int .i64 (c:Int):=hv2.1;simp[XW,hv1,hv2,hrun]
   .simp at he
  .simp at he
 .simp at he
end
section
variable {r:Option Nat}{n:Nat}{T:Nat->Prop}{M:Mp}{S S':HS}{w w':World}{a:Act}{o:Oper}{v:CV}{u:Value}{F:Tr CV}
theorem Eu:∀{cs:List CV} {l:List Nat} {us:List Value},zY cs=some l->aC M w cs us->us=l.map fun(x:Nat)=>Value.int .u32 (x:Int)
 |[],l,us,h,hv=>by
  have h:some ([]:List Nat)=some l:=h;cases h
  cases us with
  |nil=>rfl
  |cons u us=>simp[aC] at hv
 |x::cs,l,us,h,hv=>by
  have h2:(match (generalizing:=false) x,zY cs with | .k (.int .u32 (.ofNat m)),some ms=>some (m::ms)|_,_=>none)=some l:=h;split at h2
  .rename_i m ms h1;cases h2
   cases us with
   |nil=>simp[aC] at hv
   |cons u us=>
    simp only[aC,vr] at hv;rw[Eu h1 hv.2,hv.1.1];rfl
  .simp at h2
theorem RR{l:List Nat}{e:TypeId}(hH:Hr T M S w)(hl:l.length<=1000000) :
  ∃M',vr M' (w.alloc (.cells (l.map fun(x:Nat)=>Value.int .u32 (x:Int)).toArray e)) (.q l) (.slice (some ⟨w.heap.size,0,none⟩) l.length l.length)/\Hr T M' S (w.alloc (.cells (l.map fun(x:Nat)=>Value.int .u32 (x:Int)).toArray e))/\Fr M S w M' S (w.alloc (.cells (l.map fun(x:Nat)=>Value.int .u32 (x:Int)).toArray e)):=by
 generalize hob:Obj.cells (l.map fun(x:Nat)=>Value.int .u32 (x:Int)).toArray e=ob;have hb:=ma w ob;have hk:kept M.A w (w.alloc ob):=ju fun k j hk=>hb.block k (hH.bc k j hk);have hsz:(w.alloc ob).heap.size=w.heap.size+1:=by simp
 have hnw:(w.alloc ob).heap[w.heap.size]?=some ob:=heap_alloc_new w _
 let M':Mp:={ M with A:=fun k j=>M.A k j\/k=w.heap.size }
 have hext:M.ext M':=⟨fun _ h=>h,fun _ _=>rfl,fun _ _=>rfl,fun _ _=>rfl,fun _ _ h=>.inl h⟩;refine⟨M',?_,⟨?_,hH.inj,?_,?_,hH.aR⟩,⟨hext,hk,by rw[hsz];omega,hb.os,hb.tape,hb.output,fun k hk' _=>hb.block k hk',fun k j h=>?_,fun i h h'=>absurd h h',fun i b _ h _=>⟨b,h⟩,fun _ _ _=>rfl,fun _ h=>h,fun _ h=>h,fun _ h=>.inl h,XP _⟩⟩
 .simp only[vr];refine⟨some ⟨w.heap.size,0,none⟩,l.length,rfl,XP _,by unfold maxLen;omega,fun h=>by simp at h,fun ad had=>?_⟩;cases had;refine⟨fun _=>rfl,fun i x hi=>⟨.inr rfl,?_⟩⟩;rw[YW] at hi
  cases hli:l[i]? with
  |none=>rw[hli] at hi;simp at hi
  |some y=>
   rw[hli] at hi;cases hi;refine⟨.int .u32 (y:Int),?_,rfl,rfl⟩;unfold World.cell?;rw[hnw,<-hob];simp[hli]
 .intro i b hi hr;obtain⟨hd,hbr⟩:=hH.bO i b hi hr;exact⟨hd,l8 hext hk hd (hb.block _ (jY hbr)) hbr⟩
 .intro i b hi hr j hA;rcases hA with hA|hA
  .exact hH.apart i b hi hr j hA
  .have:=jY (hH.bO i b hi hr).2;have hA:M.b i=w.heap.size:=hA;omega
 .intro k j hA;rcases hA with hA|hA
  .have:=hH.bc k j hA;omega
  .omega
 .rcases h with h|h
  .exact .inl h
  .exact .inr (by omega)
theorem Qh{t:TypeId}{k:Nat}{ps:Array (Nat×Operand)}(ho:o.op = .buildSlice t k ps)(hH:Hr T M S w)(hF:Fx T M S.c w)(hT:sr M w F a.tmps)(ih:Rec)(he:sj t k ps ih F S=some (v,S'))(hI:In T S'):dg r n T M S w a o v S':=by
 unfold sj at he;have hd:∀c,o.op≠.defer c:=fun c hc=>by rw[ho] at hc;simp at hc
 unfold vP at he;split at he
 .rename_i e hel;split at he
  .rename_i zV0 m hz hm;cases hc:qB e k m zV0
   .rw[hc] at he;simp at he
   .rw[hc] at he;obtain⟨z1,z2,z3,i,z4,z5⟩:=D4 hc;simp only[cond_true] at he;split at he
    .rename_i cs hfl;obtain⟨i',zv,y1,y2,y3,y4⟩:=wq (M:=M) (w:=w) hz;rw[z4] at y1;cases y1;obtain⟨c1,c2⟩:=lq y3 y4;have hzs:zv.cells.size=m:=by have:=fT c1;simp only[YU] at this;omega
     have hzr:(zeroValue e).run PP w = .ok zv w:=by simp[zeroValue,XW,run_typeInfo w z4,y2]
     obtain⟨us,k1,k2,k3⟩:=ym (places:=fun i=>some (i*m,m)) (a:=a) (fun i p hp=>hp) hT ps.toList (wu c1 k) (wv c2 k) hfl;rw[Y5] at k1;have hmap:(ps.map fun(i,x)=>(i,a.eval x)).toList=ps.toList.map fun p=>(p.1,a.eval p.2):=by simp
     have hcells:(Array.range (k*m)).map (fun i=>(if k*m=0 then(#[]:Array Value) else zv.cells)[i%(if k*m=0 then(#[]:Array Value) else zv.cells).size]!)=(Array.range (k*zv.cells.size)).map fun i=>zv.cells[i%zv.cells.size]!:=by
      rw[hzs];by_cases h0:k*m=0
      .simp[h0]
      .simp[h0,hzs]
     have hrun:(Instr.buildSlice t k (ps.map fun(i,x)=>(i,a.eval x))).run PP w = .ok (.slice (some ⟨w.heap.size,0,none⟩) k k) (w.alloc (.cells us.toArray e)):=by
      have hn:¬(16777216<k*m):=by omega
      unfold Instr.buildSlice;by_cases h0:k*m=0
      .have r0:Array.range 0 = #[]:=rfl;rw[hzs,h0,r0,Array.map_empty] at k1;simp[XW,run_underlying (cz (nv hel)),gk w hm,h0,hmap,r0,k1,newRow]
      .simp[XW,run_underlying (cz (nv hel)),gk w hm,h0,hn,hzr,hmap];rw[hzs] at k1;rw[show zv.cells.size=m from hzs];simp[k1,newRow]
     intro K Q hK;cases hu:HP e
     .rw[hu] at he;simp only[cond_false,cd,gz,XL,XO] at he;obtain⟨rfl,rfl⟩:=he;have hTc:T S.c:=hI _ (by rw[g9];exact aM.2 (.inr (cn.2 rfl)));obtain⟨M',q1,q2,q3,q4⟩:=FG hH hF hTc hm k2 k3 k k (XP _) z3;refine cT hd ?_ (hK M' _ _ q2 q3 q4);unfold execOp;rw[ho];simp only[XW,hrun];rfl
     .rw[hu] at he;simp only[cond_true] at he;split at he
      .rename_i l hl;cases hln:Nat.beq (len l) k
       .rw[hln] at he;simp at he
       .rw[hln] at he;have hln:=XT hln;rw[gu] at hln;cases he;have:=Eu hl k2;subst this;obtain⟨M',q2,q3,q4⟩:=RR (l:=l) (e:=e) hH (by omega);rw[hln] at q2;refine cT hd ?_ (hK M' _ _ q2 q3 q4);unfold execOp;rw[ho];simp only[XW,hrun];rfl
      .simp at he
    .simp at he
  .simp at he
 .simp at he
theorem PX{t:TypeId}{x:Option Operand}(ho:o.op = .makeMap t x)(hH:Hr T M S w)(hF:Fx T M S.c w)(hT:sr M w F a.tmps)(ih:Rec)(he:oB t x ih F S=some (v,S'))(hI:In T S'):dg r n T M S w a o v S':=by
 have hd:∀c,o.op≠.defer c:=fun c hc=>by rw[ho] at hc;simp at hc
 have key:(Instr.makeMap t (x.map a.eval)).run PP w = .ok (.map (some w.heap.size)) (w.alloc (.map #[] 0))/\v = .m S.c/\S'=S.new (.m [] 0):=by
  unfold oB at he;split at he
  .rw[cd] at he;cases he;refine⟨?_,rfl,rfl⟩;simp[Instr.makeMap,XW,run_newObj_alloc]
  .rename_i y;split at he
   .rename_i j k kt et hy hu;rw[cd] at he;cases he;refine⟨?_,rfl,rfl⟩;have hv:=cQ hT hy;simp only[vr] at hv;simp[Instr.makeMap,XW,run_newObj_alloc,run_underlying (cz hu),hv.1,asInt,asIntOf]
   .simp at he
 obtain⟨hrun,rfl,rfl⟩:=key;have hTc:T S.c:=hI _ (by rw[g9];exact aM.2 (.inr (cn.2 rfl)));obtain⟨M',q1,q2,q3,q4,_,_⟩:=xF (bk:=.m [] 0) (ob:=.map #[] 0) (zV0:=0) (e:=0) hH (hF.here hTc) hTc (fun M' _ _ _ hb _ _ hn=>⟨[],by rw[hb];exact hn,trivial⟩);intro K Q hK;refine cT hd (w':=w.alloc (.map #[] 0)) (u:=.map (some w.heap.size)) ?_ (hK M' _ _ (by simp only[vr];exact⟨q3,by rw[q4]⟩) q1 q2);unfold execOp;rw[ho];simp only[XW,hrun];rfl
theorem GX{x:Value×CV×Nat}{y:MapEntry}(h:y.key=x.1/\x.1.oneCell'=true/\vr M w x.2.1 y.val/\y.born=x.2.2):∀{xs:List (Value×CV×Nat)} {ys:List MapEntry},mr M w xs ys->mr M w (xs++[x]) (ys++[y])
 |[],[],_=>⟨h,trivial⟩
 |_::_,_::_,hm=>⟨hm.1,GX h hm.2⟩
 |[],_::_,hm=>hm.elim
 |_::_,[],hm=>hm.elim
theorem Gv{t:TypeId}{x i y:Operand}(ho:o.op = .insert t x i y\/o.op = .mapUpdate t x i y)(hH:Hr T M S w)(hT:sr M w F a.tmps)(ih:Rec)(he:pO t x i y ih F S=some (v,S'))(hI:In T S'):dg r n T M S w a o v S':=by
 unfold pO at he;have hd:∀c,o.op≠.defer c:=fun c hc=>by rcases ho with ho|ho <;> rw[ho] at hc <;> simp at hc
 split at he
 .rename_i b k y' hx hi hy;split at he
  .rename_i kt et es ck hu hb;split at he
   .rename_i hk hz;cases he;have hTb:T b:=hI b (by rw[gW];exact aM.2 (.inr (cn.2 rfl)));obtain⟨hdb,ms,h1,h2⟩:=hH.bO b _ hTb hb;have hv1:=cQ hT hx;have hv2:=cQ hT hi;have hv3:=cQ hT hy;simp only[vr] at hv1 hv2
    cases hd':cR kt with
    |none=>unfold lR at hk;rw[hd'] at hk;simp at hk
    |some d=>
     have hf:=(Bq hk hd' 0 h2 hz).1 rfl;have hck:(Instr.checkKey false 10000 kt k).run PP w = .ok () w:=J2 hk hd' false 9999;have hlt:M.b b<w.heap.size:=(X4.1 h1).1;have hrun:(Instr.mapUpdate t (.map (some (M.b b))) k (a.eval y)).run PP w = .ok () (w.putObj (M.b b) (.map (ms.toArray.push { key:=k,val:=a.eval y,born:=ck }) (ck+1))):=by
      have hg:(getObj (M.b b)).run PP w = .ok (.map ms.toArray ck) w:=by simp[getObj,Sem.run,h1]
      have hst:∀ob,(setObj (M.b b) ob).run PP w = .ok () (w.putObj (M.b b) ob):=fun ob=>by
       simp[setObj,Sem.run,h1,World.putObj]
      simp[Instr.mapUpdate,XW,run_underlying (cz hu),hg,hck,Instr.findKey,run_underlying (cz hd'),hf,hst]
     obtain⟨q1,q2⟩:=tw (ob:=some (.m (app es [(k,y',ck)]) (Nat.succ ck))) (w':=w.putObj (M.b b) (.map (ms.toArray.push { key:=k,val:=a.eval y,born:=ck }) (ck+1))) hH hTb hb (by simp) (fun k hk=>zaD hk) rfl rfl rfl
      (fun bk' e hk'=>by
       cases e;refine⟨ms++[{ key:=k,val:=a.eval y,born:=ck }],?_,?_⟩
       .rw[zaF hlt];simp
       .rw[jd];refine Bm (Mp.ext.refl M) hk' (GX ⟨rfl,hv2.2,hv3,rfl⟩ h2))
     intro K Q hK;refine Gn hd (w':=w.putObj (M.b b) (.map (ms.toArray.push { key:=k,val:=a.eval y,born:=ck }) (ck+1))) ?_ (hK M undef _ qM q1 q2);unfold execOp;rcases ho with ho|ho <;> rw[ho] <;> simp only[XW,hv1.2,hv2.1,hrun] <;> rfl
   .simp at he
  .simp at he
 .simp at he
theorem ok_slice{t:TypeId}{x:Operand}{lo hi mx:Option Operand}(ho:o.op = .slice t x lo hi mx)(hH:Hr T M S w)(hT:sr M w F a.tmps)(ih:Rec)(he:oA t x lo hi mx ih F S=some (v,S'))(hI:In T S'):dg r n T M S w a o v S':=by
 unfold oA at he;have hd:∀c,o.op≠.defer c:=fun c hc=>by rw[ho] at hc;simp at hc
 split at he
 .rename_i y hy;obtain⟨hS,u,k1,k2⟩:=Nz hH hT (cQ hT hy) hI he;refine dV hH hd (u:=u) ?_ k2 hS;unfold execOp;rw[ho];simp[XW,k1]
 .simp at he
theorem o6{x y:CV}{us:List Value}(h:aC M w [x,y] us):∃p q,us=[p,q]/\vr M w x p/\vr M w y q:=by
 match us,h with
 |[p,q],h=>simp only[aC] at h;exact⟨p,q,rfl,h.1,h.2.1⟩
 |[],h=>simp[aC] at h
 |[_],h=>simp[aC] at h
 |_::_::_::_,h=>simp[aC] at h
theorem ml{x:CV}{us:List Value}(h:aC M w [x] us):∃p,us=[p]/\vr M w x p:=by
 match us,h with
 |[p],h=>simp only[aC] at h;exact⟨p,rfl,h.1⟩
 |[],h=>simp[aC] at h
 |_::_::_,h=>simp[aC] at h
theorem Ql{c:Call}{t t2:TypeId}{x y:CV}(ho:o.op = .call c)(hb:c.callee = .builtin .append)(hts:c.argTypes.toList=[t,t2])(hH:Hr T M S w)(hF:Fx T M S.c w)(hT:sr M w F a.tmps)(hx:dU F c.args.toList=some [x,y])
  (he:sY S t t2 x y=some (v,S')) (hI:In T S'):dg r n T M S w a o v S':=by
 have hd:∀c,o.op≠.defer c:=fun c hc=>by rw[ho] at hc;simp at hc
 obtain⟨us,h1,h2⟩:=kJ hT hx;obtain⟨cs,hop⟩:=od (a:=a) ho hb;obtain⟨p,q,rfl,hp,hq⟩:=o6 h2;obtain⟨M',u,w',k1,k2,k3,k4⟩:=VL (ty:=o.type) hH hF hI hp hq he;intro K Q hK;refine cT hd ?_ (hK M' u w' k2 k3 k4);have ht:c.argTypes = #[t,t2]:=YC.1 (by rw[hts]);rw[hop,h1,ht];simp only[builtin,XW];have e:(#[p,q]:Array Value)=[p,q].toArray:=rfl;rw[<-e,k1];rfl
theorem UQ{t t2 ty:TypeId}{x y:CV}{xv yv:Value}(hH:Hr T M S w)(hI:In T S')(hx:vr M w x xv)(hy:vr M w y yv)(h:sN S t x y=some (v,S')) :
  ∃u w',(Builtin.copy_ #[t,t2] ty #[xv,yv]).run PP w = .ok u w'/\vr M w' v u/\Hr T M S' w'/\Fr M S w M S' w':=by
 unfold sN at h;split at h
 .rename_i e hel;have hu:=cz (nv hel);split at h
  .rename_i zV0 b o' q c b' o2 q' c' hz;simp only at h;split at h
   .rename_i cs hcs;split at h
    .rename_i S1 hst;cases h;have hTb':T b':=by
      have:=In.back hI (rK hst).mono;exact this b' (by rw[fA];exact aM.2 (.inr (cn.2 rfl)))
     simp only[vr] at hx hy;obtain⟨_,cp,rfl,x1,x2,_⟩:=hx;obtain⟨_,cp',rfl,y1,y2,_⟩:=hy;have hk:(bif Nat.ble q q' then q else q')=Nat.min q' q:=by
      cases hb:Nat.ble q q'
      .have:¬q<=q':=fun h=>by rw[Z5 h] at hb;simp at hb
       simp only[cond_false];show q'=min q' q;omega
      .have:=XU hb;simp only[cond_true];show q=min q' q;omega
     rw[hk] at hcs ⊢;obtain⟨vs,g1,g2,g3,g4⟩:=ox hH hTb' hcs;have hcell:∀j u,vs[j]?=some u->w.cell? ((⟨M.b b',o2,none⟩:Addr).add j)=some u:=fun j u hj=>by rw[jZ];exact g4 j u hj
     have hfc:=run_firstCells_some (P:=PP) w zV0 (Nat.min q' q) ⟨M.b b',o2,none⟩ q' cp' vs g2 hcell;obtain⟨w',k1,k2,k3⟩:=pb (hH.bD b') hst hI g1 g3;refine⟨goInt (Nat.min q' q),w',?_,by simp[vr,Value.oneCell',goInt],k2,(Fr.bD b').trans k3⟩;simp[Builtin.copy_,XW,run_underlying hu,Builtin.lenOf,gk w hz,hfc,k1]
    .simp at h
   .simp at h
  .rename_i zV0 b o' q c hz;cases h;simp only[vr] at hx hy;obtain⟨_,cp,rfl,x1,x2,_⟩:=hx;obtain⟨rfl,_⟩:=hy;refine⟨goInt 0,w,?_,by simp[vr,Value.oneCell',goInt],hH,Fr.refl _ _ _⟩;simp[Builtin.copy_,XW,run_underlying hu,Builtin.lenOf,gk w hz,Builtin.firstCells,storeCells]
  .rename_i zV0 b o' q c hz;cases h;simp only[vr] at hx hy;obtain⟨_,cp,rfl,x1,x2,_⟩:=hx;obtain⟨ad,cp',rfl⟩:=hy;refine⟨goInt 0,w,?_,by simp[vr,Value.oneCell',goInt],hH,Fr.refl _ _ _⟩
   cases ad with
   |none=>simp[Builtin.copy_,XW,run_underlying hu,Builtin.lenOf,gk w hz,Builtin.firstCells,storeCells]
   |some ad=>simp[Builtin.copy_,XW,run_underlying hu,Builtin.lenOf,gk w hz,Builtin.firstCells,loadCells,loadCellsFrom,storeCells]
  .simp at h
 .simp at h
theorem Qb{c:Call}{t t2:TypeId}{x y:CV}(ho:o.op = .call c)(hb:c.callee = .builtin .copy)(hts:c.argTypes.toList=[t,t2])(hH:Hr T M S w)(hT:sr M w F a.tmps)(hx:dU F c.args.toList=some [x,y])
  (he:sN S t x y=some (v,S')) (hI:In T S'):dg r n T M S w a o v S':=by
 have hd:∀c,o.op≠.defer c:=fun c hc=>by rw[ho] at hc;simp at hc
 obtain⟨us,h1,h2⟩:=kJ hT hx;obtain⟨cs,hop⟩:=od (a:=a) ho hb;obtain⟨p,q,rfl,hp,hq⟩:=o6 h2;obtain⟨u,w',k1,k2,k3,k4⟩:=UQ (t2:=t2) (ty:=o.type) hH hI hp hq he;intro K Q hK;refine cT hd ?_ (hK M u w' k2 k3 k4);have ht:c.argTypes = #[t,t2]:=YC.1 (by rw[hts]);rw[hop,h1,ht];simp only[builtin,XW];have e:(#[p,q]:Array Value)=[p,q].toArray:=rfl;rw[<-e,k1];rfl
theorem Qd{c:Call}{t:TypeId}{x:CV}(ho:o.op = .call c)(hb:c.callee = .builtin .clear)(hts:c.argTypes.toList=[t])(hH:Hr T M S w)(hT:sr M w F a.tmps)(hx:dU F c.args.toList=some [x])
  (he:vE S t x=some (v,S')) (hI:In T S'):dg r n T M S w a o v S':=by
 have hd:∀c,o.op≠.defer c:=fun c hc=>by rw[ho] at hc;simp at hc
 obtain⟨us,h1,h2⟩:=kJ hT hx;obtain⟨cs,hop⟩:=od (a:=a) ho hb;obtain⟨p,rfl,hp⟩:=ml h2;have ht:c.argTypes = #[t]:=YC.1 (by rw[hts]);have key:v = .un/\∃w',(Builtin.clear_ #[t] o.type #[p]).run PP w = .ok (.tuple #[]) w'/\Hr T M S' w'/\Fr M S w M S' w':=by
  unfold vE at he;split at he
  .rename_i e hel;have hu:=cz (nv hel);split at he
   .rename_i zc b o' q c hz;simp only[vr] at hp;obtain⟨_,cp,rfl,x1,x2,_⟩:=hp;cases hq:Nat.beq q 0
    .rw[hq] at he;simp only[cond_false] at he;split at he
     .rename_i S1 hst;cases he;have hq0:q≠0:=fun e=>by rw[e] at hq;simp at hq
      obtain⟨zu,g1,g2,g3⟩:=qC (M:=M) (w:=w) hz;obtain⟨c1,c2⟩:=lq g2 g3;obtain⟨w',k1,k2,k3⟩:=pb hH hst hI (wu c1 q) (wv c2 q);refine⟨rfl,w',?_,k2,k3⟩;have k1':(storeCells ⟨M.b b,o',none⟩ (Builtin.zeroCells zu.cells q).toList).run PP w = .ok () w':=k1
      cases q with
      |zero=>exact absurd rfl hq0
      |succ q=>simp[Builtin.clear_,XW,run_underlying hu,g1,k1']
     .simp at he
    .rw[hq] at he;cases he;have hq:=XT hq;subst hq;exact⟨rfl,w,by simp[Builtin.clear_,XW,run_underlying hu],hH,Fr.refl _ _ _⟩
   .cases he;simp only[vr] at hp;obtain⟨rfl,_⟩:=hp;exact⟨rfl,w,by simp[Builtin.clear_,XW,run_underlying hu],hH,Fr.refl _ _ _⟩
   .cases he;simp only[vr] at hp;obtain⟨ad,cp,rfl⟩:=hp;refine⟨rfl,w,?_,hH,Fr.refl _ _ _⟩;cases ad <;> simp[Builtin.clear_,XW,run_underlying hu]
   .simp at he
  .simp at he
 obtain⟨rfl,w',k1,k2,k3⟩:=key;intro K Q hK;refine cT hd ?_ (hK M (.tuple #[]) w' qM k2 k3);rw[hop,h1,ht];simp only[builtin,XW];have e:(#[p]:Array Value)=[p].toArray:=rfl;rw[<-e,k1];rfl
theorem PS{c:Call}{b o' q:Nat}{cp:Option Nat}(ho:o.op = .call c)(hb:c.callee = .builtin .unsafeSliceData)(hq:1<=q)(hH:Hr T M S w)(hT:sr M w F a.tmps)(hx:dU F c.args.toList=some [.s b o' q cp]) :
  dg r n T M S w a o (.p b o') S:=by
 have hd:∀c,o.op≠.defer c:=fun c hc=>by rw[ho] at hc;simp at hc
 obtain⟨us,h1,h2⟩:=kJ hT hx;obtain⟨cs,hop⟩:=od (a:=a) ho hb;obtain⟨p,rfl,hp⟩:=ml h2;simp only[vr] at hp;obtain⟨hdb,c',rfl,x1,x2,_⟩:=hp;refine dV hH hd (u:=.pointer (some ⟨M.b b,o',none⟩)) ?_ (by simp[vr,hdb]) (.inl rfl);have hr:=Go.Lib.run_unsafeSliceData_row (P:=PP) (w:=w) c.argTypes o.type ⟨M.b b,o',none⟩ q c' (by omega);rw[hop,h1];simp only[builtin,XW];have e:(#[Value.slice (some ⟨M.b b,o',none⟩) q c']:Array Value)=[Value.slice (some ⟨M.b b,o',none⟩) q c'].toArray:=rfl;rw[<-e,hr];rfl
theorem Ka:∀{cs:List CV} {l:List UInt8} {us:List Value},bytesOf cs=some l->aC M w cs us->us=l.map (fun x=>Value.int .u8 (x.toNat:Int))/\l.length=cs.length
 |[],l,us,h,hv=>by
  have h:some ([]:List UInt8)=some l:=h;cases h
  cases us with
  |nil=>exact⟨rfl,rfl⟩
  |cons u us=>simp[aC] at hv
 |x::cs,l,us,h,hv=>by
  have h2:(match (generalizing:=false) x,bytesOf cs with | .k (.int .u8 (.ofNat n)),some bs=>bif Nat.blt n 256 then some (UInt8.ofNat n::bs) else none|_,_=>none)=some l:=h;split at h2
  .rename_i m bs h1;cases hb:Nat.blt m 256
   .rw[hb] at h2;simp at h2
   .rw[hb] at h2;have hb:=jz.1 hb;cases h2
    cases us with
    |nil=>simp[aC] at hv
    |cons u us=>
     simp only[aC,vr] at hv;obtain⟨e1,e2⟩:=Ka h1 hv.2;refine⟨?_,by simp[e2]⟩;rw[e1,hv.1.1];simp only[ZP];congr 2;show(m:Int)=_;rw[UInt8.toNat_ofNat_of_lt' hb]
  .simp at h2
theorem S5(w:World)(p:Addr)(q:Nat):(w.freeze p q).heap.size=w.heap.size/\(∀k,k≠p.block->(w.freeze p q).heap[k]?=w.heap[k]?)/\(w.freeze p q).os=w.os/\(w.freeze p q).tape=w.tape/\(w.freeze p q).output=w.output:=by
 unfold World.freeze;split
 .exact⟨rfl,fun _ _=>rfl,rfl,rfl,rfl⟩
 .refine⟨by simp,fun k hk=>?_,rfl,rfl,rfl⟩;simp only[Array.getElem?_modify];rw[if_neg (Ne.symm hk)]
theorem PO{c:Call}{t t2:TypeId}{b q:Nat}(ho:o.op = .call c)(hb:c.callee = .builtin .unsafeString)(hts:c.argTypes.toList=[t,t2])(hH:Hr T M S w)(hT:sr M w F a.tmps)(hx:dU F c.args.toList=some [.p b 0,.k (.int .i64 (.ofNat q))])
  (he:tE S t b q=some (v,S')) (hI:In T S'):dg r n T M S w a o v S':=by
 have hd:∀c,o.op≠.defer c:=fun c hc=>by rw[ho] at hc;simp at hc
 obtain⟨us,h1,h2⟩:=kJ hT hx;obtain⟨cs,hop⟩:=od (a:=a) ho hb;obtain⟨p,p',rfl,hp,hp'⟩:=o6 h2;have ht:c.argTypes = #[t,t2]:=YC.1 (by rw[hts]);simp only[vr] at hp hp';obtain⟨hdb,rfl⟩:=hp;obtain⟨rfl,_⟩:=hp';unfold tE at he;split at he
 .rename_i cl e x hbk;cases hc:(ptrTo t e&&Nat.ble 1 q&&Nat.ble q 1000000)
  .rw[hc] at he;simp at he
  .rw[hc] at he;rw[XQ,XQ] at hc;obtain⟨⟨c1,c2⟩,c3⟩:=hc;have c2:=XU c2;have c3:=XU c3;simp only[cond_true] at he;split at he
   .rename_i cs2 hcs;split at he
    .rename_i l hl;cases he;have hTb:T b:=hI b (by rw[gW];exact aM.2 (.inr (cn.2 rfl)));obtain⟨_,cc,rest,g1,g2,g3,g4,g5,g6⟩:=hH.bO b _ hTb hbk;obtain⟨vs,q1,q2,q3,q4⟩:=ox hH hTb hcs;obtain⟨e1,e2⟩:=Ka hl q1;have hlen:l.length=q:=by rw[<-q2,e1];simp
     have hpt:PP.underlying t=some (.pointer e)/\PP.cellsOf e=1:=by
      unfold ptrTo at c1;split at c1
      .rename_i e' hu;rw[XQ] at c1;have:=XT c1.1;subst this;refine⟨cz hu,?_⟩;have c12:=c1.2;split at c12
       .rename_i hs;obtain⟨i,i1,i2⟩:=mw hs;simp[Program.cellsOf,i1,i2]
       .simp at c12
      .simp at c1
     have hcells:l.length<=(cc++rest).toArray.size:=by
      have hll:=fT g4;unfold lQ at hcs;rw[hbk] at hcs;obtain⟨_,_,h3⟩:=A6 hcs;simp only[zan,XX];omega
     have hrun:=Go.Lib.run_unsafeString_row (P:=PP) (w:=w) t t2 o.type e hpt.1 hpt.2 (M.b b) _ (Al g1) l (by intro e0;rw[e0] at hlen;simp at hlen;omega) hcells (by omega) (fun j x hj=>by
      rw[jZ];exact q4 j _ (by rw[e1];simp[hj]))
     obtain⟨f1,f2,f3,f4,f5⟩:=S5 w ⟨M.b b,0,none⟩ l.length;obtain⟨k1,k2⟩:=tw (ob:=none) (w':=w.freeze ⟨M.b b,0,none⟩ l.length) hH hTb hbk f1 f2 f3 f4 f5 (fun bk' e _=>by simp at e);intro K Q hK;refine cT hd (u:=.string ⟨l.toArray⟩) (w':=w.freeze ⟨M.b b,0,none⟩ l.length) ?_ (hK M _ _ (by simp[vr,Value.oneCell']) k1 k2);rw[hop,h1,ht];simp only[builtin,XW];have e:(#[Value.pointer (some ⟨M.b b,0,none⟩),Value.int .i64 (Int.ofNat q)]:Array Value)=[Value.pointer (some ⟨M.b b,0,none⟩),Value.int .i64 (Int.ofNat q)].toArray:=rfl;rw[<-e];have hr2:(Builtin.unsafeString_ #[t,t2] o.type #[Value.pointer (some ⟨M.b b,0,none⟩),Value.int .i64 (Int.ofNat q)]).run PP w = .ok (.string ⟨l.toArray⟩) (w.freeze ⟨M.b b,0,none⟩ l.length):=by
      rw[<-hrun,hlen];rfl
     rw[hr2];rfl
    .simp at he
   .simp at he
 .simp at he
theorem Qm{c:Call}{t t2:TypeId}{b o' q cp k:Nat}(ho:o.op = .call c)(hb:c.callee = .builtin .append)(hts:c.argTypes.toList=[t,t2])(hi2:isInt t2=true)(hH:Hr T M S w)(hF:Fx T M S.c w)(hT:sr M w F a.tmps)(hx:dU F c.args.toList=some [.s b o' q (some cp),.k (.int .i64 (.ofNat k))])
  (he:vU S t b o' q cp k=some (v,S')) (hI:In T S'):dg r n T M S w a o v S':=by
 have hd:∀c,o.op≠.defer c:=fun c hc=>by rw[ho] at hc;simp at hc
 obtain⟨us,h1,h2⟩:=kJ hT hx;obtain⟨cs,hop⟩:=od (a:=a) ho hb;obtain⟨p,p',rfl,hp,hp'⟩:=o6 h2;have ht:c.argTypes = #[t,t2]:=YC.1 (by rw[hts]);simp only[vr] at hp hp';obtain⟨hdb,cp',rfl,x1,x2,x3⟩:=hp;subst x3;obtain⟨rfl,_⟩:=hp';have hj:∃j,cR t2=some (.int j):=by
  unfold isInt at hi2;split at hi2
  .rename_i j hu;exact⟨j,hu⟩
  .simp at hi2
 obtain⟨j,hj⟩:=hj;unfold vU at he;split at he
 .rename_i e hel;split at he
  .rename_i zV0 zc l t' x hz hzc hbk;cases hc:(Nat.beq t' e&&Nat.ble 1 zV0&&Nat.blt cp' (Nat.add q k)&&fits e (Nat.add q k))
   .rw[hc] at he;simp at he
   .rw[hc] at he;rw[XQ,XQ,XQ] at hc;obtain⟨⟨⟨c1,c2⟩,c3⟩,c4⟩:=hc;have c1:=XT c1;subst c1;have c3:cp'<q+k:=jz.1 c3;simp only[cond_true] at he;split at he
    .rename_i bg hpo;simp only[cd,gz,jd,XL,XO] at he;obtain⟨rfl,rfl⟩:=he;have hI1:In T (S.bD b):=In.back hI (ij.new _ _);have hTb:T b:=hI1 b (by rw[fA];exact aM.2 (.inr (cn.2 rfl)));have htc:(S.bD b).c=S.c:=by rw[fA]
     have hTc:T (S.bD b).c:=hI _ (by rw[g9];exact aM.2 (.inr (cn.2 rfl)));obtain⟨_,cc,rest,g1,g2,g3,g4,g5,g6⟩:=hH.bO b _ hTb hbk;obtain⟨p1,p2,p3⟩:=A7 g4 g5 hpo;have hcell:∀j u,((cc.drop o').take (Nat.mul q zV0))[j]?=some u->w.cell? ((⟨M.b b,o',none⟩:Addr).add j)=some u:=by
      intro j u hj;rw[jZ];rw[YS] at hj;split at hj
      .rw[Yw] at hj;have hlt:=(XN.1 hj).1;unfold World.cell?;rw[g1];simp[XV hlt,hj]
      .simp at hj
     obtain⟨i,zv,hi,hzv,hzs,hm,hbb⟩:=Jb c4;obtain⟨i',hi',hz'⟩:=mw hz;rw[hi] at hi';cases hi';obtain⟨i2,zv2,y1,y2,y3,y4⟩:=wq (M:=M) (w:=w) hzc;rw[hi] at y1;cases y1;rw[hzv] at y2;cases y2;obtain⟨z1,z2⟩:=lq y3 y4;have hfc:=run_firstCells_some (P:=PP) w.drew zV0 q ⟨M.b b,o',none⟩ q cp' _ p2 (by simpa using hcell);have hrun:=N8 (ty:=o.type) (k:=k) (q:=q) (cp:=cp') (base:=some ⟨M.b b,o',none⟩) (nv hel) hj hi hzv hzs (by rw[hz'];exact hfc) c3 hm hbb;obtain⟨M',u,w',k1,k2,k3,k4⟩:=Ig (S:=S.bD b) (ty:=o.type) (hH.bD b) (fun h=>by rw[htc];exact hF.here (by rw[htc] at h;exact h)) hTc hz hz' hzs hm (by rw[YU];show(Builtin.zeroCells zv.cells k).size=_;rw[zJ,hzs,hz']) (wv z2 k) (wu z1 k) p1 p3 p2 hrun;rw[htc] at k2;intro K Q hK;refine cT hd ?_ (hK M' u w' k2 k3 ((Fr.bD b).trans k4));rw[hop,h1,ht];simp only[builtin,XW];have e:(#[Value.slice (some ⟨M.b b,o',none⟩) q cp',Value.int .i64 (Int.ofNat k)]:Array Value)=[Value.slice (some ⟨M.b b,o',none⟩) q cp',Value.int .i64 (Int.ofNat k)].toArray:=rfl;rw[<-e];have k1':(Builtin.append_ #[t,t2] o.type #[Value.slice (some ⟨M.b b,o',none⟩) q cp',Value.int .i64 (Int.ofNat k)]).run PP w = .ok u w':=k1;rw[k1'];rfl
    .simp at he
  .simp at he
 .simp at he
end
section
variable {O:dI}{ih:Rec}{m:Nat}
theorem Vi(hO:Told O)(hst:oQ)(hi:kx m ih){r:Option Nat}{n:Nat}{o:Oper}{F:Tr CV}{S S':HS}{v:CV}{T:Nat->Prop}{M:Mp}{w:World}{a:Act}{c:Call}(ho:o.op = .call c)
  (he:lS O c ih F S=some (v,S')) (hH:Hr T M S w) (hF:Fx T M S.c w) (hT:sr M w F a.tmps) (hI:In T S'):dg r n T M S w a o v S':=by
 unfold lS at he;split at he
 .rename_i b args hb hx;unfold yr at he;split at he
  .rename_i t ts x hts;exact P5 ho hb hts hH hT hx he
  .rename_i t ts x hts;exact Qe ho hb hts hH hT hx he
  .rename_i t t2 x y hts;cases hi2:isInt t2
   .rw[hi2] at he;exact Ql ho hb hts hH hF hT hx he hI
   .rw[hi2] at he;simp only[cond_true] at he;split at he
    .exact Qm ho hb hts hi2 hH hF hT hx he hI
    .simp at he
  .rename_i t t2 x y hts;exact Qb ho hb hts hH hT hx he hI
  .rename_i t x hts;exact Qd ho hb hts hH hT hx he hI
  .rename_i b o' q cp;cases hq:Nat.ble 1 q
   .rw[hq] at he;simp at he
   .rw[hq] at he;cases he;exact PS ho hb (XU hq) hH hT hx
  .rename_i t t2 b q hts;exact PO ho hb hts hH hT hx he hI
  .simp at he
 .rename_i g args hc hx;split at he
  .rename_i fv hg;unfold yM at he;split at he
   .exact Qg ho hc hO hi hH hF hT hg hx he hI
   .exact PL ho hc hi hH hF hT hg hx he hI
   .simp at he
  .simp at he
 .rename_i g mn args hc hx;split at he
  .rename_i t x hg;split at he
   .rename_i f hm;exact Qf ho hc hO hi hH hF hT hg hx hm he hI
   .simp at he
  .simp at he
 .simp at he
theorem PH(hO:Told O)(hst:oQ)(hi:kx m ih):j4 O ih:=by
 intro r n o F S v S' T M w a he hH hF hT hI
 cases ho:o.op with
 |move x=>rw[ho] at he;exact Gu (.inl ho) hH hT ih he
 |assign x=>rw[ho] at he;exact Gu (.inr ho) hH hT ih he
 |pick c x y=>rw[ho] at he;exact PT ho hH hT ih he
 |alloc t=>rw[ho] at he;exact Qn (F:=F) ho hH ih he hI (fun h=>hF.here h)
 |box t x=>rw[ho] at he;exact Qj ho hH hT ih he hI (fun h=>hF.here h)
 |build t ps=>rw[ho] at he;exact Qi hst ho hH hT ih he
 |buildSlice t k ps=>rw[ho] at he;exact Qh ho hH hF hT ih he hI
 |insert t x i y=>rw[ho] at he;exact Gv (.inl ho) hH hT ih he hI
 |mapUpdate t x i y=>rw[ho] at he;exact Gv (.inr ho) hH hT ih he hI
 |load t x=>rw[ho] at he;exact P3 ho hH hT ih he hI
 |store t x y=>rw[ho] at he;exact PR ho hH hT ih he hI
 |nilCheck x=>rw[ho] at he;exact PU ho hH hT ih he
 |binOp op t x y t'=>rw[ho] at he;exact Qk ho hH hT ih he
 |unOp op t x=>rw[ho] at he;exact PQ ho hH hT ih he
 |convert s t x=>rw[ho] at he;exact Qc ho hH hT ih he hI
 |makeInterface t x=>rw[ho] at he;exact PY ho hH hT ih he
 |makeFunc fn fs cs=>rw[ho] at he;exact PZ ho hH hT ih he
 |makeMap t x=>rw[ho] at he;exact PX ho hH hF hT ih he hI
 |makeSlice t x y=>rw[ho] at he;exact PW ho hH hF hT ih he hI
 |slice t x lo hi mx=>rw[ho] at he;exact ok_slice ho hH hT ih he hI
 |fieldAddr t x f=>rw[ho] at he;exact P8 ho hH hT ih he hI
 |field t x f=>rw[ho] at he;exact P9 ho hH hT ih he
 |indexAddr t x i=>rw[ho] at he;exact P6 ho hH hT ih he
 |index t x i=>rw[ho] at he;exact P7 ho hH hT ih he
 |lookup t x i ok=>rw[ho] at he;exact P0 ho hH hT ih he hI
 |extract x i=>rw[ho] at he;exact Qa ho hH hT ih he
 |call c=>rw[ho] at he;exact Vi hO hst hi ho he hH hF hT hI
 |_=>rw[ho] at he;exact absurd he (by intro h;have h:(none:ee)=some (v,S'):=h;simp at h)
end
theorem yo{O:dI}(hO:Told O)(hst:oQ):∀m,kx m (ev O m)
 |0=>fun ri c F x F' h=>by
  have h:(none:Option (Ex×FS))=some (x,F'):=h;simp at h
 |m+1=>Uf hO (PH hO hst (yo hO hst m)) (yo hO hst m)
end Rc.Ev
namespace Rc.Ev
noncomputable section
open Go
def Us(j k:IntKind):Bool:=decide (j=k)
def vo(x y:Value):Bool:=match x with
 |.bool a=>(match y with | .bool b=>decide (a=b)|_=>false)
 |.int j a=>(match y with | .int k b=>Us j k&&rZ a b|_=>false)
 |.string a=>(match y with | .string b=>decide (a=b)|_=>false)
 |.pointer none=>(match y with | .pointer none=>true|_=>false)
 |.slice none 0 0=>(match y with | .slice none 0 0=>true|_=>false)
 |.map none=>(match y with | .map none=>true|_=>false)
 |.nilFunc=>(match y with | .nilFunc=>true|_=>false)
 |.nilIface=>(match y with | .nilIface=>true|_=>false)
 |_=>false
def aU(x y:Fn):Bool:=match x,y with
 |.func a,.func b=>Nat.beq a b
 |_,_=>false
def Cw(x y:Option Nat):Bool:=match x,y with
 |none,none=>true
 |some a,some b=>Nat.beq a b
 |_,_=>false
def yX(v:Value)(y:CV):Bool:=match y with | .k v'=>vo v v'|_=>false
def yU(b o:Nat)(y:CV):Bool:=match y with | .p b' o'=>Nat.beq b b'&&Nat.beq o o'|_=>false
def yR(b o n:Nat)(c:Option Nat)(y:CV):Bool:=match y with | .s b' o' n' c'=>Nat.beq b b'&&Nat.beq o o'&&Nat.beq n n'&&Cw c c'|_=>false
def y0(y:CV):Bool:=match y with | .e=>true|_=>false
def yS(l:List Nat)(y:CV):Bool:=match y with | .q l'=>iZ l l'|_=>false
def yT(l:List Nat)(i:Nat)(y:CV):Bool:=match y with | .pq l' i'=>iZ l l'&&Nat.beq i i'|_=>false
def yZ(fn:Fn)(fs cs:List CV)(ifs ics:List CV->Bool)(y:CV):Bool:=match y with | .f fn' fs' cs'=>aU fn fn'&&ifs fs'&&ics cs'|_=>false
def yY(t:TypeId)(v:CV)(iv:CV->Bool)(y:CV):Bool:=match y with | .i t' v'=>Nat.beq t t'&&iv v'|_=>false
def vJ(l:List CV)(il:List CV->Bool)(y:CV):Bool:=match y with | .a l'=>il l'|_=>false
def yQ(l:List CV)(il:List CV->Bool)(y:CV):Bool:=match y with | .t l'=>il l'|_=>false
def yW(b:Nat)(y:CV):Bool:=match y with | .m b'=>Nat.beq b b'|_=>false
def yP(b:Nat)(y:CV):Bool:=match y with | .y b'=>Nat.beq b b'|_=>false
def yO(y:CV):Bool:=match y with | .z=>true|_=>false
def yV(l:List CV):Bool:=match l with | []=>true|_=>false
def y7(x:CV)(xs:List CV)(ix:CV->Bool)(ixs:List CV->Bool)(l:List CV):Bool:=match l with|y::ys=>ix y&&ixs ys | []=>false
def qb(x:CV):CV->Bool:=CV.rec (motive_1:=fun _=>CV->Bool) (motive_2:=fun _=>List CV->Bool) yX yU yR y0 yS yT yZ yY vJ yQ yW yP yO yV y7 x
def k9(l:List CV):List CV->Bool:=CV.rec_1 (motive_1:=fun _=>CV->Bool) (motive_2:=fun _=>List CV->Bool) yX yU yR y0 yS yT yZ yY vJ yQ yW yP yO yV y7 l
def vp(l:List (Value×CV×Nat)):List (Value×CV×Nat)->Bool:=
 List.rec (fun m=>match m with | []=>true|_=>false) (fun x _ ih m=>match m with|y::ys=>vo x.1 y.1&&qb x.2.1 y.2.1&&Nat.beq x.2.2 y.2.2&&ih ys | []=>false) l
def oM(x y:Bk):Bool:=match x with
 |.c l t b=>(match y with | .c l' t' b'=>k9 l l'&&Nat.beq t t'&&decide (b=b')|_=>false)
 |.m es ck=>(match y with | .m es' ck'=>vp es es'&&Nat.beq ck ck'|_=>false)
 |_=>false
structure OE where
 f:Nat
 c:Nat
 a:List CV
 pre:List (Nat×Bk)
 v:CV
 post:List (Nat×Option Bk)
 c':Nat
def vH(S:HS)(l:List (Nat×Bk)):Bool:=List.rec true (fun p _ ih=>match S.rd p.1 with|some b=>bif oM b p.2 then ih else false|none=>false) l
def tF{α:Type}(l:List (Nat×Option Bk)):Tr Bk->(Tr Bk->α)->α:=List.rec (fun h k=>k h) (fun p _ ih h k=>h.fb (bu p.1) p.2 fun h=>ih h k) l
def gi(l:List (Nat×Option Bk))(h:Tr Bk):Tr Bk:=tF l h fun h=>h
def kr{α:Type}(l:List (Nat×α)):Nat:=List.rec 0 (fun p _ ih=>Nat.lor (fM p.1) ih) l
def w6(c c':Nat):Nat:=Nat.sub (Nat.pow 2 c') (Nat.pow 2 c)
def OE.tm(e:OE):Nat:=Nat.lor (kr e.pre) (w6 e.c e.c')
def OE.mm(e:OE):Nat:=Nat.lor (kr e.post) (w6 e.c e.c')
def rD(e:OE)(a:List CV)(S:HS):ee:=bif k9 a e.a&&vH S e.pre then
 (match S with|⟨h,c,tm,mm⟩=>tF e.post h fun h=>fN (Nat.lor tm e.tm) fun tm=>fN (Nat.lor mm e.mm) fun mm=>some (e.v,⟨h,e.c',tm,mm⟩)) else none
def gn(l:List OE):dI:=fun f a S=>List.rec none (fun e _ ih=>bif Nat.beq e.f f&&Nat.beq e.c S.c then some (rD e a S) else ih) l
def OE.s0(e:OE):HS:=⟨gi (e.pre.map fun p=>(p.1,some p.2)) (Tr.full 14),e.c,0,0⟩
def xe(S:HS)(l:List (Nat×Option Bk)):Bool:=List.rec true (fun p _ ih=>match p.2 with|none=>ih|some b=>(match S.rd p.1 with|some b'=>bif oM b' b then ih else false|none=>false)) l
def kM(O:dI)(n:Nat)(e:OE):Bool:=match l7 O (ev O n) e.f e.a e.s0 with
 |some (v,S)=>qb v e.v&&Nat.beq S.c e.c'&&Nat.beq (Nat.lor S.tm e.tm) e.tm&&Nat.beq (Nat.lor (kr e.post) S.mm) S.mm&&Nat.beq (Nat.mod S.mm (Nat.pow 2 e.c)) (Nat.mod (kr e.post) (Nat.pow 2 e.c))&&xe S e.post&&Nat.blt (kr e.pre) (Nat.pow 2 e.c)
 |none=>false
abbrev I(n:Int):CV:=.k (.int .i64 n)
abbrev B(b:Bool):CV:=.k (.bool b)
abbrev nS:CV:=.k (.slice none 0 0)
abbrev nP:CV:=.k (.pointer none)
end
end Rc.Ev
namespace Rc.Ev
open Go
noncomputable section
theorem Jw{x y:Value}(h:vo x y=true):x=y:=by
 unfold vo at h;split at h <;> first
  |(simp at h;done)
  |(split at h <;> first
    |(simp at h;done)
    |rfl
    |(have:=of_decide_eq_true h;rw[this])
    |(rw[XQ,xX] at h
      have h1:=of_decide_eq_true h.1;have h2:=eq_of_beq h.2;rw[h1,h2]))
theorem Ut{x y:Fn}(h:aU x y=true):x=y:=by
 unfold aU at h;split at h
 .rw[XT h]
 .simp at h
theorem Ur{x y:Option Nat}(h:Cw x y=true):x=y:=by
 unfold Cw at h;split at h
 .rfl
 .rw[XT h]
 .simp at h
theorem Cx:∀{l m:List Nat},iZ l m=true->l=m
 |[],[],_=>rfl
 |[],_::_,h=>by simp[iZ] at h
 |x::l,[],h=>by simp[iZ] at h
 |x::l,y::m,h=>by
  have h:(bif Nat.beq x y then iZ l m else false)=true:=h;cases hb:Nat.beq x y
  .rw[hb] at h;simp at h
  .rw[hb] at h;rw[XT hb,Cx h]
theorem yw:(∀x y,qb x y=true->x=y)/\∀l m,k9 l m=true->l=m:=by
 have key:∀(P1:CV->Prop) (P2:List CV->Prop),(∀v,P1 (.k v))->(∀b o,P1 (.p b o))->(∀b o n c,P1 (.s b o n c))->P1 .e->(∀l,P1 (.q l))->(∀l i,P1 (.pq l i))->(∀fn fs cs,P2 fs->P2 cs->P1 (.f fn fs cs))->(∀t v,P1 v->P1 (.i t v))->(∀l,P2 l->P1 (.a l))->(∀l,P2 l->P1 (.t l))->(∀b,P1 (.m b))->(∀b,P1 (.y b))->P1 .z->P2 []->(∀x xs,P1 x->P2 xs->P2 (x::xs))->(∀x,P1 x)/\∀l,P2 l:=by
  intro P1 P2 h1 h2 h3 h4 h5 h6 h7 h8 h9 h10 h11 h12 h13 h14 h15;exact⟨fun x=>CV.rec (motive_1:=P1) (motive_2:=P2) h1 h2 h3 h4 h5 h6 h7 h8 h9 h10 h11 h12 h13 h14 h15 x,fun l=>CV.rec_1 (motive_1:=P1) (motive_2:=P2) h1 h2 h3 h4 h5 h6 h7 h8 h9 h10 h11 h12 h13 h14 h15 l⟩
 refine key (fun x=>∀y,qb x y=true->x=y) (fun l=>∀m,k9 l m=true->l=m) ?_ ?_ ?_ ?_ ?_ ?_ ?_ ?_ ?_ ?_ ?_ ?_ ?_ ?_ ?_
 .intro v y h;have h:yX v y=true:=h;unfold yX at h;split at h
  .rw[Jw h]
  .simp at h
 .intro b o y h;have h:yU b o y=true:=h;unfold yU at h;split at h
  .rw[XQ] at h;rw[XT h.1,XT h.2]
  .simp at h
 .intro b o n c y h;have h:yR b o n c y=true:=h;unfold yR at h;split at h
  .rw[XQ,XQ,XQ] at h;rw[XT h.1.1.1,XT h.1.1.2,XT h.1.2,Ur h.2]
  .simp at h
 .intro y h;have h:y0 y=true:=h;unfold y0 at h;split at h
  .rfl
  .simp at h
 .intro l y h;have h:yS l y=true:=h;unfold yS at h;split at h
  .rw[Cx h]
  .simp at h
 .intro l i y h;have h:yT l i y=true:=h;unfold yT at h;split at h
  .rw[XQ] at h;rw[Cx h.1,XT h.2]
  .simp at h
 .intro fn fs cs i1 i2 y h;have h:yZ fn fs cs (k9 fs) (k9 cs) y=true:=h;unfold yZ at h;split at h
  .rw[XQ,XQ] at h;rw[Ut h.1.1,i1 _ h.1.2,i2 _ h.2]
  .simp at h
 .intro t v iv y h;have h:yY t v (qb v) y=true:=h;unfold yY at h;split at h
  .rw[XQ] at h;rw[XT h.1,iv _ h.2]
  .simp at h
 .intro l il y h;have h:vJ l (k9 l) y=true:=h;unfold vJ at h;split at h
  .rw[il _ h]
  .simp at h
 .intro l il y h;have h:yQ l (k9 l) y=true:=h;unfold yQ at h;split at h
  .rw[il _ h]
  .simp at h
 .intro b y h;have h:yW b y=true:=h;unfold yW at h;split at h
  .rw[XT h]
  .simp at h
 .intro b y h;have h:yP b y=true:=h;unfold yP at h;split at h
  .rw[XT h]
  .simp at h
 .intro y h;have h:yO y=true:=h;unfold yO at h;split at h
  .rfl
  .simp at h
 .intro m h;have h:yV m=true:=h;unfold yV at h;split at h
  .rfl
  .simp at h
 .intro x xs ix ixs m h;have h:y7 x xs (qb x) (k9 xs) m=true:=h;unfold y7 at h;split at h
  .rw[XQ] at h;rw[ix _ h.1,ixs _ h.2]
  .simp at h
theorem Jx:∀{l m:List (Value×CV×Nat)},vp l m=true->l=m
 |[],[],_=>rfl
 |[],_::_,h=>by simp[vp] at h
 |x::l,[],h=>by simp[vp] at h
 |(a,b,c)::l,(a',b',c')::m,h=>by
  have h:(vo a a'&&qb b b'&&Nat.beq c c'&&vp l m)=true:=h;rw[XQ,XQ,XQ] at h;rw[Jw h.1.1.1,yw.1 _ _ h.1.1.2,XT h.1.2,Jx h.2]
theorem Jy{x y:Bk}(h:oM x y=true):x=y:=by
 unfold oM at h;split at h
 .split at h
  .rw[XQ,XQ] at h;rw[yw.2 _ _ h.1.1,XT h.1.2,of_decide_eq_true h.2]
  .simp at h
 .split at h
  .rw[XQ] at h;rw[Jx h.1,XT h.2]
  .simp at h
 .simp at h
theorem qP{α:Type}{i:Nat}:∀{l:List (Nat×α)},tb (kr l) i↔∃p∈l,p.1=i
 |[]=>by constructor;exact fun h=>absurd h iS;rintro⟨p,h,_⟩;simp at h
 |p::l=>by
  have e:kr (p::l)=Nat.lor (fM p.1) (kr l):=rfl;rw[e,aM,cn,qP (l:=l)];constructor
  .rintro(h|⟨q,h1,h2⟩)
   .exact⟨p,by simp,h.symm⟩
   .exact⟨q,by simp[h1],h2⟩
  .rintro⟨q,h1,h2⟩;rcases X9.1 h1 with rfl|h1
   .exact .inl h2.symm
   .exact .inr ⟨q,h1,h2⟩
theorem MY{c c' i:Nat}(h:c<=c'):tb (w6 c c') i↔c<=i/\i<c':=by
 unfold tb w6;have e:Nat.sub (Nat.pow 2 c') (Nat.pow 2 c)=2^c*(2^(c'-c)-1):=by
  show 2^c'-2^c=_;rw[Nat.mul_sub,<-Yv,Y1,Nat.add_sub_cancel' h]
 rw[e,Nat.testBit_two_pow_mul,Nat.testBit_two_pow_sub_one];simp only[XQ,decide_eq_true_eq];omega
theorem zS{α:Type}:∀(l:List (Nat×Option Bk)) (h:Tr Bk) (k:Tr Bk->α),tF l h k=k (gi l h)
 |[],_,_=>rfl
 |p::l,h,k=>by
  have e1:tF (p::l) h k=h.fb (bu p.1) p.2 fun h=>tF l h k:=rfl;have e2:gi (p::l) h=h.fb (bu p.1) p.2 fun h=>gi l h:=rfl;rw[e1,e2,gM,gM,zS l]
theorem zU:∀{l:List (Nat×Option Bk)} {h:Tr Bk} {p:List Bool} {b:Bk},(gi l h).dX p=some b->(∃q∈l,bu q.1=p/\q.2=some b)\/((∀q∈l,bu q.1≠p)/\h.dX p=some b)
 |[],_,_,_,h=>.inr ⟨fun q hq=>by simp at hq,h⟩
 |q::l,t,p,b,h=>by
  have e2:gi (q::l) t=gi l (t.eZ (bu q.1) q.2):=by
   show t.fb (bu q.1) q.2 (fun h=>gi l h)=_;rw[gM]
  rw[e2] at h;rcases zU h with⟨x,h1,h2⟩|⟨h1,h2⟩
  .exact .inl ⟨x,by simp[h1],h2⟩
  .rcases BS t (bu q.1) p q.2 h2 with⟨e,hx⟩|⟨e,hx⟩
   .exact .inl ⟨q,by simp,e.symm,hx⟩
   .refine .inr ⟨fun x hx'=>?_,hx⟩;rcases X9.1 hx' with rfl|hx'
    .exact fun h=>e h.symm
    .exact h1 x hx'
theorem zT:∀{l:List (Nat×Option Bk)} {h:Tr Bk} {p:List Bool},(∀q∈l,bu q.1≠p)->(gi l h).dX p=h.dX p
 |[],_,_,_=>rfl
 |q::l,t,p,h=>by
  have e2:gi (q::l) t=gi l (t.eZ (bu q.1) q.2):=by
   show t.fb (bu q.1) q.2 (fun h=>gi l h)=_;rw[gM]
  rw[e2,zT fun x hx=>h x (by simp[hx]),lU t q.2 (fun e=>h q (by simp) e.symm)]
theorem Ip:∀(d:Nat) (p:List Bool),(Tr.full (α:=Bk) d).dX p=none
 |0,_=>rfl
 |d+1,[]=>rfl
 |d+1,b::p=>by cases b <;> exact Ip d p
theorem J1{S:HS}:∀{l:List (Nat×Bk)},vH S l=true->∀p∈l,S.rd p.1=some p.2
 |[],_,p,hp=>by simp at hp
 |q::l,h,p,hp=>by
  have h:(match S.rd q.1 with|some b=>bif oM b q.2 then vH S l else false|none=>false)=true:=h;split at h
  .rename_i b hb;cases he:oM b q.2
   .rw[he] at h;simp at h
   .rw[he] at h;rcases X9.1 hp with rfl|hp
    .rw[hb,Jy he]
    .exact J1 h p hp
  .simp at h
theorem A4{S:HS}:∀{l:List (Nat×Option Bk)},xe S l=true->∀p∈l,∀b,p.2=some b->S.rd p.1=some b
 |[],_,p,hp=>by simp at hp
 |q::l,h,p,hp=>by
  intro b hb;have h:(match q.2 with|none=>xe S l|some b=>(match S.rd q.1 with|some b'=>bif oM b' b then xe S l else false|none=>false))=true:=h;split at h
  .rename_i hq;rcases X9.1 hp with rfl|hp
   .rw[hq] at hb;simp at hb
   .exact A4 h p hp b hb
  .rename_i b1 hq;split at h
   .rename_i b2 hb2;cases he:oM b2 b1
    .rw[he] at h;simp at h
    .rw[he] at h;rcases X9.1 hp with rfl|hp
     .rw[hq] at hb;cases hb;rw[hb2,Jy he]
     .exact A4 h p hp b hb
   .simp at h
theorem Hn{a b:Nat}(h:Nat.beq (Nat.lor a b) b=true){i:Nat}(hi:tb a i):tb b i:=by
 have:=XT h;rw[<-this];exact aM.2 (.inl hi)
theorem Gz{O:dI}(hO:Told O)(hst:oQ){n:Nat}{e:OE}(h:kM O n e=true){a:List CV}{S S':HS}{v:CV}(hc:S.c=e.c)(ho:rD e a S=some (v,S')):Mn S S'/\zG e.f a S v S':=by
 unfold kM at h;split at h
 .rename_i v1 S1 hcall;simp only[XQ] at h;obtain⟨⟨⟨⟨⟨⟨h1,h2⟩,h3⟩,h4⟩,h5⟩,h6⟩,h7⟩:=h;have h7:kr e.pre<2^e.c:=jz.1 h7;have h1:=yw.1 _ _ h1;have h2:=XT h2;have h5:S1.mm%2^e.c=kr e.post%2^e.c:=XT h5;subst h1;unfold rD at ho;cases hq:(k9 a e.a&&vH S e.pre)
  .rw[hq] at ho;simp at ho
  .rw[hq] at ho;rw[XQ] at hq;have ha:=yw.2 _ _ hq.1;subst ha;have hpre:=J1 hq.2;obtain⟨h,c,tm,mm⟩:=S;have hc:c=e.c:=hc;subst hc;simp only[cond_true,zS,cd,XL,XO] at ho;obtain⟨rfl,rfl⟩:=ho;have hmnc:Mn e.s0 S1:=xB hO.mn (yo hO hst n).mn hcall;have hcc:e.c<=e.c':=by rw[<-h2];exact hmnc.c
   have hmt1:∀i,tb S1.mm i->tb S1.tm i:=fun i hi=>by
    rcases hmnc.mt i hi with h|h
    .exact absurd h iS
    .exact h
   have htm1:∀i,tb S1.tm i->tb e.tm i:=fun i hi=>Hn h3 hi;have hpm:∀p∈e.post,tb S1.mm p.1:=fun p hp=>Hn h4 (qP.2 ⟨p,hp,rfl⟩);have hold:∀i,tb S1.mm i->i<e.c->∃p∈e.post,p.1=i:=by
    intro i hi hlt;refine qP.1 ?_;have:(S1.mm%2^e.c).testBit i=true:=by rw[Nat.testBit_mod_two_pow];simp[hlt];exact hi
    rw[h5,Nat.testBit_mod_two_pow] at this;simp at this;exact this.2
   have hmm':∀i,tb e.mm i->tb e.tm i:=by
    intro i hi;rcases aM.1 hi with hi|hi
    .obtain⟨p,hp,rfl⟩:=qP.1 hi;exact htm1 _ (hmt1 _ (hpm p hp))
    .exact aM.2 (.inr hi)
   have hm1:∀i,tb S1.mm i->tb e.mm i:=by
    intro i hi;rcases aM.1 (htm1 i (hmt1 i hi)) with h|h
    .by_cases hlt:i<e.c
     .obtain⟨p,hp,rfl⟩:=hold i hi hlt;exact aM.2 (.inl (qP.2 ⟨p,hp,rfl⟩))
     .have:(kr e.pre).testBit i=false:=Nat.testBit_lt_two_pow (XZ h7 (X3 (by decide) (by omega)));rw[show(kr e.pre).testBit i=true from h] at this;simp at this
    .exact aM.2 (.inr h)
   have hpo:=A4 h6;refine⟨⟨hcc,fun i hi=>aM.2 (.inl hi),fun i hi=>aM.2 (.inl hi),fun i hi=>?_,fun j hj=>?_⟩,?_⟩
   .rcases aM.1 hi with hi|hi
    .exact .inl hi
    .exact .inr (aM.2 (.inr (hmm' i hi)))
   .exact zT fun q hq=>hj q.1 (aM.2 (.inr (hm1 _ (hpm q hq))))
   .have lift:∀(T:Nat->Prop) (M:Mp) (w:World),Hr T M ⟨h,e.c,tm,mm⟩ w->Fx T M e.c w->In T ⟨gi e.post h,e.c',Nat.lor tm e.tm,Nat.lor mm e.mm⟩ →
      (Hr (tb S1.tm) M e.s0 w/\Fx (tb S1.tm) M e.s0.c w/\In (tb S1.tm) S1)/\∀M' w',Hr (tb S1.tm) M' S1 w'->Fr M e.s0 w M' S1 w'->Hr T M' ⟨gi e.post h,e.c',Nat.lor tm e.tm,Nat.lor mm e.mm⟩ w'/\Fr M ⟨h,e.c,tm,mm⟩ w M' ⟨gi e.post h,e.c',Nat.lor tm e.tm,Nat.lor mm e.mm⟩ w':=by
     intro T M w hH hF hI;have hTe:∀i,tb e.tm i->T i:=fun i hi=>hI i (aM.2 (.inr hi));have hT1:∀i,tb S1.tm i->T i:=fun i hi=>hTe i (htm1 i hi);have hrd0:∀i b,T i->e.s0.rd i=some b->(⟨h,e.c,tm,mm⟩:HS).rd i=some b:=by
      intro i b hTi hb;have hb:(gi (e.pre.map fun p=>(p.1,some p.2)) (Tr.full 14)).dX (bu i)=some b:=hb;rcases zU hb with⟨q,h1,h2,h3⟩|⟨_,h1⟩
      .obtain⟨p,hp,rfl⟩:=ZE.1 h1;simp only[XL] at h2 h3;have hTp:T p.1:=hTe _ (aM.2 (.inl (qP.2 ⟨p,hp,rfl⟩)));have:=kH (hH.aR _ hTp) (hH.aR _ hTi) h2;rw[<-this,<-h3];exact hpre p hp
      .rw[Ip] at h1;simp at h1
     refine⟨⟨(hH.hv.less hT1 fun i b hi hb=>hrd0 i b (hT1 i hi) hb).hr,⟨fun k hk hck=>hF.nw k (hT1 k hk) hck,hF.gl,hF.ga⟩,fun _ h=>h⟩,fun M' w' hH' hF'=>?_⟩;have hqi:∀q∈e.post,∀i,T i->bu q.1=bu i->q.1=i:=fun q hq i hi he=>kH (hH.aR _ (hT1 _ (hmt1 _ (hpm q hq)))) (hH.aR _ hi) he;obtain⟨g1,g2⟩:=Hw (G':=(⟨gi e.post h,e.c',Nat.lor tm e.tm,Nat.lor mm e.mm⟩:HS).rd) hH.hv hH'.hv hF'.fv hT1 hmt1 (fun i b hi hb=>hrd0 i b (hT1 i hi) hb)
      (fun i b hi hb=>by
       have hTi:=hT1 i (hmt1 i hi);rcases zU (show(gi e.post h).dX (bu i)=some b from hb) with⟨q,h1,h2,h3⟩|⟨h1,h2⟩
       .have:=hqi q h1 i hTi h2;rw[<-this];exact hpo q h1 b h3
       .by_cases hlt:i<e.c
        .obtain⟨q,hq,rfl⟩:=hold i hi hlt;exact absurd rfl (h1 q hq)
        .exact absurd (hH.bO i b hTi h2).1 (hF.nw i hTi (by omega)))
      (fun i hl hi=>zT fun q hq he=>by
       have:q.1=i:=kH (hH.aR _ (hT1 _ (hmt1 _ (hpm q hq)))) hl he;exact hi (this ▸ hpm q hq))
     refine⟨g1.hr,Fv.fr (g2.mono (fun i hi=>⟨hi.1,by rw[<-h2];exact hi.2⟩) fun i hi=>aM.2 (.inr (hm1 i hi))) (fun i hi=>aM.2 (.inl hi)) (fun i hi=>aM.2 (.inl hi)) (fun i hi=>?_) hcc⟩;rcases aM.1 hi with hi|hi
     .exact .inl hi
     .exact .inr (aM.2 (.inr (hmm' i hi)))
    rcases yN hO (yo hO hst n) hcall with⟨hb,hck⟩|⟨hnb,hx⟩
    .refine .inl ⟨hb,fun n' T M w us R hH hF hv hI hR=>?_⟩;obtain⟨⟨a1,a2,a3⟩,k⟩:=lift T M w hH hF hI;exact hck n' _ M w us R a1 a2 hv a3 fun M' u w' q1 q2 q3=>hR M' u w' q1 (k M' w' q2 q3).1 (k M' w' q2 q3).2
    .refine .inr ⟨hnb,fun T M w us hH hF hv hI=>?_⟩;obtain⟨⟨a1,a2,a3⟩,k⟩:=lift T M w hH hF hI;obtain⟨M',u,w',q0,q1,q2,q3⟩:=hx _ M w us a1 a2 hv a3;exact⟨M',u,w',q0,q1,(k M' w' q2 q3).1,(k M' w' q2 q3).2⟩
 .simp at h
theorem tI{l:List OE}{e:OE}{n:Nat}(hO:Told (gn l))(hst:oQ)(hb:tg e.f)(h:kM (gn l) n e=true):Told (gn (e::l)):=by
 refine⟨hO.mo,hO.nm,hO.pr,?_,hO.mt,hO.xt⟩;intro f args S v S' ho;have ho2:(bif Nat.beq e.f f&&Nat.beq e.c S.c then some (rD e args S) else gn l f args S)=some (some (v,S')):=ho;cases hc:(Nat.beq e.f f&&Nat.beq e.c S.c)
 .rw[hc] at ho2;exact hO.oc f args S v S' ho2
 .rw[hc] at ho2;rw[XQ] at hc;simp only[cond_true,XL] at ho2;have h1:=XT hc.1;have h2:=XT hc.2;subst h1;obtain⟨m,hi⟩:=Gz hO hst h h2.symm ho2;rcases hi with⟨b,k⟩|⟨⟨fn,n1,n2⟩,_⟩
  .exact⟨m,b,k⟩
  .obtain⟨fn',n3,n4,_⟩:=hb;rw[n1] at n3;cases n3;rw[n2] at n4;simp at n4
end
theorem qJ(l:List Nat):vN l=val l:=by
 have h:∀l:List Nat,(List.rec (motive:=fun _=>Nat) 0 (fun x _ ih=>Nat.add x (Nat.mul 4294967296 ih)) l:Nat)=val l:=by
  intro l
  induction l with
  |nil=>rfl
  |cons x l ih=>show x+4294967296*_=_;rw[ih];rfl
 unfold vN;split
 .rfl
 .simp
 .exact h _
theorem Sb:∀(f n:Nat),n<4294967296^f->lN f n=ah n:=by
 intro f
 induction f with
 |zero=>
      intro n h;have:n=0:=by simpa using h
      subst this;rw[cJ];rfl
 |succ f ih=>
  intro n h;have e:lN (f+1) n=bif Nat.beq n 0 then[] else Nat.mod n 4294967296::lN f (Nat.div n 4294967296):=rfl;rw[e]
  cases n with
  |zero=>rw[cJ];rfl
  |succ n=>
   have e0:Nat.beq (n+1) 0=false:=rfl;rw[e0,ow (by omega)];simp only[cond_false];show(n+1)%4294967296::lN f ((n+1)/4294967296)=_;rw[ih];rw[Yb] at h;exact Nat.div_lt_of_lt_mul (by rw[Yu];exact h)
def jh(n:Nat):Prop:=n<4294967296^100
theorem xI{n:Nat}(h:jh n):pK n=ah n:=Sb 100 n h
theorem Cn{α:Type}{n:Nat}(h:jh n)(k:List Nat->α):fL n k=k (ah n):=by
 unfold fL;rw[cd]
 cases n with
 |zero=>rw[cJ];rfl
 |succ n=>
  have e0:Nat.beq (n+1) 0=false:=rfl;rw[e0];simp only[cond_false];cases hb:Nat.blt (n+1) 4294967296
  .simp only[cond_false];rw[xI h]
  .simp only[cond_true];have hb:n+1<4294967296:=by simpa[Nat.blt,ZH] using hb
   rw[ow (by omega),Y7 hb,YQ hb,cJ]
def cq(r:Rat):CV:=.a [.k (.bool (bx r)),.q (ah (aN r)),.q (ah (aQ r))]
theorem mk_eq{s:Bool}{n d:Nat}(hn:jh n)(hd:jh d)(h0:d≠0):Ev.mk s n d=cq (rq s n d):=by
 unfold Ev.mk cq;simp only[cd];have hdn:dn d=d:=dZ h0;have hg:0<Nat.gcd n d:=ZR _ (by omega);have hq:aN (rq s n d)=n/Nat.gcd n d:=by rw[sP,hdn]
 have hden:(rq s n d).den=d/Nat.gcd n d:=by rw[sL,hdn]
 have hl1:jh (n/Nat.gcd n d):=Ye (Yy _ _) hn;have hl2:jh (d/Nat.gcd n d):=Ye (Yy _ _) hd;show(bif Nat.beq (n/Nat.gcd n d) 0 then CV.a [.bool false,.q [],.q []] else fL (n/Nat.gcd n d) fun ln=>fL (bif Nat.beq (d/Nat.gcd n d) 1 then 0 else d/Nat.gcd n d) fun ld=>.a [.bool s,.q ln,.q ld])=_;cases hb:Nat.beq (n/Nat.gcd n d) 0
 .have hne:n/Nat.gcd n d≠0:=fun e=>by rw[e] at hb;simp at hb
  have hn0:n≠0:=fun e=>hne (by rw[e,zaT]);have hcn:bx (rq s n d)=s:=by rw[yI,decide_eq_true hn0,Bool.and_true]
  simp only[cond_false];rw[Cn hl1,hq,hcn];unfold aQ;rw[hden];cases h1:Nat.beq (d/Nat.gcd n d) 1
  .have:d/Nat.gcd n d≠1:=fun e=>by rw[e] at h1;simp at h1
   simp only[cond_false];rw[Cn hl2,if_neg this]
  .have:=XT h1;simp only[cond_true];rw[Cn (by unfold jh;exact Yp (by decide)),if_pos this]
 .have hz:=XT hb;have hn0:n=0:=by
   rcases Yr n with h|h
   .exact h
   .have:=Nat.div_pos (zaM h (zar n d)) hg;omega
  subst hn0;simp only[cond_true];rw[rh];simp[cJ]
theorem V1{s s':Bool}{n n':Nat}:Rc.aH (fw s n s' n').1 (fw s n s' n').2=Rc.aH s n+Rc.aH s' n':=by
 cases s <;> cases s' <;> simp only[fw]
 .show((n+n':Nat):Int)=_;simp
 .cases h:Nat.ble n' n
  .have:¬n'<=n:=fun e=>by rw[Z5 e] at h;simp at h
   simp only[cond_false,Rc.lH,Rc.mC];show -((n'-n:Nat):Int)=_;omega
  .have:=XU h;simp only[cond_true,Rc.lH,Rc.mC];show((n-n':Nat):Int)=_;omega
 .cases h:Nat.ble n n'
  .have:¬n<=n':=fun e=>by rw[Z5 e] at h;simp at h
   simp only[cond_false,Rc.lH,Rc.mC];show -((n-n':Nat):Int)=_;omega
  .have:=XU h;simp only[cond_true,Rc.lH,Rc.mC];show((n'-n:Nat):Int)=_;omega
 .show -((n+n':Nat):Int)=_;simp;omega
theorem V0{s s':Bool}{n n':Nat}:(fw s n s' n').2<=n+n':=by
 cases s <;> cases s' <;> simp only[fw]
 .exact XP _
 .cases Nat.ble n' n
  .show n'-n<=_;omega
  .show n-n'<=_;omega
 .cases Nat.ble n n'
  .show n-n'<=_;omega
  .show n'-n<=_;omega
 .exact XP _
theorem FF{s s':Bool}{n n' d d':Nat}(h0:d≠0)(h0':d'≠0):rq (fw s (n*d') s' (n'*d)).1 (fw s (n*d') s' (n'*d)).2 (d*d')=rq s n d+rq s' n' d':=by
 have h:=tU s s' n n' d d' (Rc.aH s (n*dn d')+Rc.aH s' (n'*dn d)) rfl;rw[<-h];rw[dZ h0,dZ h0'];have e:=V1 (s:=s) (s':=s') (n:=n*d') (n':=n'*d);unfold rq;rw[e,Rc.qY]
theorem Ao{s:Bool}{n d:Nat}(h0:d≠0):Ev.aH s n=sg (rq s n d):=by
 unfold Ev.aH sg;have h1:rq s n d<0↔Rc.aH s n<0:=by
  have:=AB s false n 0 d 0;rw[rh] at this;simpa[dn] using this
 have h2:rq s n d=0↔n=0:=tS;cases hb:Nat.beq n 0
 .have hn:n≠0:=fun e=>by rw[e] at hb;simp at hb
  have hn2:¬rq s n d=0:=fun e=>hn (h2.1 e);cases s
  .have:¬rq false n d<0:=fun e=>by have:=h1.1 e;simp at this;omega
   simp[this,hn2]
  .have:rq true n d<0:=h1.2 (by simp;omega);simp[this]
 .have hn:=XT hb;subst hn;simp[rh]
theorem E0:∀{l:List Nat},wT l=true->Small l
 |[],_=>Small.nil
 |x::l,h=>by
  have h:(bif Nat.blt x 4294967296 then wT l else false)=true:=h;cases hb:Nat.blt x 4294967296
  .rw[hb] at h;simp at h
  .rw[hb] at h;have hb:x<4294967296:=by simpa[Nat.blt,ZH] using hb
   exact Small.cons hb (E0 h)
theorem pA{x:CV}{l:List Nat}(h:qs x=some l):Small l/\l.length<=40/\∀M w u,vr M w x u->(ae l).den (ak.of M.A) u w:=by
 unfold qs at h;split at h
 .rename_i l';cases hc:(wT l'&&Nat.ble (len l') 40)
  .rw[hc] at h;simp at h
  .rw[hc] at h;cases h;rw[XQ] at hc;have h2:=XU hc.2;rw[gu] at h2;exact⟨E0 hc.1,h2,fun M w u hu=>by simpa only[vr] using hu⟩
 .cases h;refine⟨Small.nil,by simp,fun M w u hu=>?_⟩;simp only[vr] at hu;rw[hu.1];exact oi _ _
 .simp at h
theorem tO{x:CV}{s:Bool}{n d:Nat}(h:rt x=some (s,n,d)):∃X:Qr,X.neg=s/\val X.n=n/\dn (val X.d)=d/\X.q=rq s n d/\Fit 40 X/\d≠0/\n<4294967296^40/\d<4294967296^40+1/\∀M w u,vr M w x u->(qV X).den (ak.of M.A) u w:=by
 unfold rt at h;split at h
 .rename_i b p q;split at h
  .rename_i l l' hl hl';simp only[cd,XL,XO,qJ] at h;obtain⟨rfl,rfl,h3⟩:=h;obtain⟨a1,a2,a3⟩:=pA hl;obtain⟨b1,b2,b3⟩:=pA hl';have hd:dn (val l')=d:=by
    rw[<-h3];unfold dn;cases hb:Nat.beq (val l') 0
    .have:val l'≠0:=fun e=>by rw[e] at hb;simp at hb
     simp[this]
    .simp[XT hb]
   have p1:val l<4294967296^40:=XZ (dy a1) (X3 (by decide) a2);have p2:val l'<4294967296^40:=XZ (dy b1) (X3 (by decide) b2);refine⟨⟨b,l,l',a1,b1⟩,rfl,rfl,hd,?_,⟨a2,b2⟩,by rw[<-hd];exact fp _,p1,?_,fun M w u hu=>?_⟩
   .show rq b (val l) (val l')=_;rw[<-hd,tT]
   .rw[<-hd];unfold dn;have:(1:Nat)<4294967296^40+1:=by
     have:0<4294967296^40:=Yp (by decide);omega
    split <;> omega
   .simp only[vr] at hu;obtain⟨us,rfl,g1,_⟩:=hu
    match us,g1 with
    |[u1,u2,u3],g1=>
     simp only[aC,vr] at g1;exact⟨[u1,u2,u3],rfl,⟨g1.1.1,rfl⟩,a3 M w u2 g1.2.1,b3 M w u3 g1.2.2.1,trivial⟩
    |[],g1=>simp[aC] at g1
    |[_],g1=>simp[aC] at g1
    |[_,_],g1=>simp[aC] at g1
    |_::_::_::_::_,g1=>simp[aC] at g1
  .simp at h
 .simp at h
theorem nA{r:Rat}{M:Mp}{w:World}{u:Value}(h:(qV (an r)).den (ak.of M.A) u w):vr M w (cq r) u:=by
 obtain⟨us,rfl,g1⟩:=h
 match us,g1 with
 |[u1,u2,u3],g1=>
  obtain⟨⟨h1,h1'⟩,h2,h3,_⟩:=g1;unfold cq;simp only[vr];refine⟨[u1,u2,u3],rfl,?_,fun x hx=>?_⟩
  .simp only[aC,vr];exact⟨⟨h1,rfl⟩,h2,h3,trivial⟩
  .simp only[X9,Y8,or_false] at hx;rcases hx with rfl|rfl|rfl
   .rw[h1];rfl
   .exact ab.vu h2
   .exact ab.vu h3
 |[],g1=>exact g1.elim
 |[_],g1=>exact g1.2.elim
 |[_,_],g1=>exact g1.2.2.elim
 |_::_::_::_::_,g1=>exact g1.2.2.2.elim
theorem n9{f:Nat}{xs:List V}{y:R}{args:List CV}{v:CV}(hc:ar PP f xs y)(ha:∀M w us,aC M w args us->c6 (ak.of M.A) xs us w)(hv:∀(M:Mp) (w:World) (u:Value),y.den (ak.of M.A) u w->vr M w v u):∀S,qA f args S v S:=by
 intro S n T M w us R hH hF hvs hI hR;have h:=hc w us M.A hF.gl hH.bc (ha M w us hvs);refine callsIn_wide.2 (Zg h ?_);rintro e w' ⟨u,rfl,hy,hb⟩
 let M':Mp:={ M with A:=(grown (ak.of M.A) w w').c }
 have hext:M.ext M':=⟨fun _ h=>h,fun _ _=>rfl,fun _ _=>rfl,fun _ _=>rfl,fun _ _ h=>.inl h⟩;have hk:kept M.A w w':=ju fun k j hk=>hb.block k (hH.bc k j hk);refine hR M' u w' (hv M' w' u hy) ⟨?_,hH.inj,?_,?_,hH.aR⟩ ⟨hext,hk,hb.size,hb.os,hb.tape,hb.output,fun k hk' _=>hb.block k hk',fun k j h=>?_,fun i h h'=>absurd h h',fun i b _ h _=>⟨b,h⟩,fun _ _ _=>rfl,fun _ h=>h,fun _ h=>h,fun _ h=>.inl h,XP _⟩
 .intro i b hi hr;obtain⟨hd,hbr⟩:=hH.bO i b hi hr;exact⟨hd,l8 hext hk hd (hb.block _ (jY hbr)) hbr⟩
 .intro i b hi hr j hA;rcases hA with hA|⟨hA,_⟩
  .exact hH.apart i b hi hr j hA
  .have:=jY (hH.bO i b hi hr).2;have hA:w.heap.size<=M.b i:=hA;omega
 .intro k j hA;rcases hA with hA|⟨_,hA⟩
  .have:=hH.bc k j hA;have:=hb.size;omega
  .exact hA
 .rcases h with h|⟨h,_⟩
  .exact .inl h
  .exact .inr h
theorem vT{x:CV}{X:V}(h:∀(M:Mp) (w:World) (u:Value),vr M w x u->X.den (ak.of M.A) u w):∀(M:Mp) (w:World) (us:List Value),aC M w [x] us->c6 (ak.of M.A) [X] us w:=by
 intro M w us hv
 match us,hv with
 |[u],hv=>simp only[aC] at hv;exact⟨h M w u hv.1,trivial⟩
 |[],hv=>simp[aC] at hv
 |_::_::_,hv=>simp[aC] at hv
theorem Dd{x y:CV}{X Y:V}(h:∀(M:Mp) (w:World) (u:Value),vr M w x u->X.den (ak.of M.A) u w)(h':∀(M:Mp) (w:World) (u:Value),vr M w y u->Y.den (ak.of M.A) u w):∀(M:Mp) (w:World) (us:List Value),aC M w [x,y] us->c6 (ak.of M.A) [X,Y] us w:=by
 intro M w us hv
 match us,hv with
 |[u,v],hv=>simp only[aC] at hv;exact⟨h M w u hv.1,h' M w v hv.2.1,trivial⟩
 |[],hv=>simp[aC] at hv
 |[_],hv=>simp[aC] at hv
 |_::_::_::_,hv=>simp[aC] at hv
theorem tW{c:Value}{M:Mp}{w:World}{u:Value}(h:(V.one (ab.val c)).den (ak.of M.A) u w):vr M w (.k c) u:=by
 simp only[vr];exact⟨h.1,h.2⟩
theorem AK{l:List Nat}{M:Mp}{w:World}{u:Value}(h:(V.one (ae l)).den (ak.of M.A) u w):vr M w (.q l) u:=by
 simp only[vr];exact h
theorem Py{g:Bool×Nat×Nat->Bool×Nat×Nat->CV}{args:List CV}{v:CV}(h:p2 g args=some v) :
  ∃x y s n d s' n' d',args=[x,y]/\rt x=some (s,n,d)/\rt y=some (s',n',d')/\v=g (s,n,d) (s',n',d'):=by
 unfold p2 at h;split at h
 .rename_i x y;split at h
  .rename_i a b ha hb;obtain⟨s,n,d⟩:=a;obtain⟨s',n',d'⟩:=b;cases h;exact⟨x,y,s,n,d,s',n',d',rfl,ha,hb,rfl⟩
  .simp at h
 .simp at h
theorem Pz{g:Bool×Nat×Nat->CV}{args:List CV}{v:CV}(h:p1 g args=some v) :
  ∃x s n d,args=[x]/\rt x=some (s,n,d)/\v=g (s,n,d):=by
 unfold p1 at h;split at h
 .rename_i x;split at h
  .rename_i a ha;obtain⟨s,n,d⟩:=a;cases h;exact⟨x,s,n,d,rfl,ha,rfl⟩
  .simp at h
 .simp at h
def KK:Nat:=4294967296^40
theorem Ld:4*(KK+1)*(KK+1)<4294967296^100:=by
 unfold KK;decide
theorem rR{a b:Nat}(ha:a<=KK)(hb:b<=KK):jh (a*b):=by
 have h1:a*b<=KK*KK:=YZ ha hb;have h2:=Ld;have h3:KK*KK<=4*(KK+1)*(KK+1):=by
  rw[ZQ];have:KK*KK<=(KK+1)*(KK+1):=YZ (by omega) (by omega);omega
 unfold jh;omega
theorem jP{a:Nat}(ha:a<=KK):jh a:=by
 have:=rR ha (show 1<=KK by unfold KK;decide)
 rwa [Y1] at this
theorem RS{a b c d:Nat}(ha:a<=KK)(hb:b<=KK)(hc:c<=KK)(hd:d<=KK){zV0 w:Bool}:jh (fw zV0 (a*b) w (c*d)).2:=by
 have h0:=V0 (s:=zV0) (s':=w) (n:=a*b) (n':=c*d);have h1:a*b<=KK*KK:=YZ ha hb;have h1':c*d<=KK*KK:=YZ hc hd;have h2:=Ld;have h3:2*(KK*KK)<=4*(KK+1)*(KK+1):=by
  rw[ZQ];have:KK*KK<=(KK+1)*(KK+1):=YZ (by omega) (by omega);omega
 unfold jh;omega
theorem u6{α:Type}{n:Nat}{a:α}:∀{l:List (Nat×α)},ng l n=some a->(n,a)∈l
 |[],h=>by simp[ng] at h
 |p::l,h=>by
  have h:(bif Nat.beq p.1 n then some p.2 else ng l n)=some a:=h;cases hb:Nat.beq p.1 n
  .rw[hb] at h;exact ZK _ (u6 h)
  .rw[hb] at h;cases h;have:=XT hb;subst this;exact zag ..
theorem iY{k:Nat}{X:Qr}(h:Fit 40 X)(hk:40<=k):Fit k X:=h.mono hk
theorem FY(s:Bool)(m:Nat):rq s m 1=((Rc.aH s m:Int):Rat):=by
 unfold rq;rw[show dn 1=1 from rfl,Rat.mkRat_one]
theorem Gy{n:Int}{v:CV}(h:xr n=some v):-9223372036854775808<=n/\n<=9223372036854775807/\v=cq ((n:Int):Rat):=by
 have h1:jh 1:=by unfold jh;decide
 have hL:∀m:Nat,m<=9223372036854775808->jh m:=fun m hm=>Ye hm (by decide);unfold xr at h;split at h
 .rename_i m;cases hb:Nat.blt m 9223372036854775808
  .rw[hb] at h;simp at h
  .rw[hb] at h;have hb:m<9223372036854775808:=by simpa[Nat.blt,ZH] using hb
   simp only[cond_true,XL] at h;rw[mk_eq (hL m (by omega)) h1 (by decide),FY] at h;refine⟨?_,?_,h.symm⟩
   .have:(0:Int)<=Int.ofNat m:=Int.natCast_nonneg m;omega
   .have:Int.ofNat m=(m:Int):=rfl;omega
 .rename_i m;cases hb:Nat.blt m 9223372036854775808
  .rw[hb] at h;simp at h
  .rw[hb] at h;have hb:m<9223372036854775808:=by simpa[Nat.blt,ZH] using hb
   simp only[cond_true,XL] at h;rw[mk_eq (hL (m+1) (by omega)) h1 (by decide),FY] at h;have e:Int.negSucc m = -((m:Int)+1):=rfl;refine⟨by omega,by omega,?_⟩;rw[<-h];congr 2
theorem L2{s:Bool}{n d:List Nat}{r:Rat}:zL s n d (cq r)=((s == bx r)&&decide (n=ah (aN r))&&decide (d=ah (aQ r))):=by
 have eqd:∀l m:List Nat,iZ l m=decide (m=l):=by
  intro l
  induction l with
  |nil=>intro m;cases m <;> simp[iZ]
  |cons x l ih=>
   intro m
   cases m with
   |nil=>simp[iZ]
   |cons y m=>
    have e:iZ (x::l) (y::m)=bif Nat.beq x y then iZ l m else false:=rfl;rw[e];cases hb:Nat.beq x y
    .have:y≠x:=fun e=>by rw[e] at hb;simp at hb
     simp[this]
    .have:=XT hb;subst this;simp[ih]
 unfold zL cq;simp only[eqd];cases hc:bx r <;> cases s <;> simp
section
variable {f:Nat}{args:List CV}{v:CV}
theorem ug(g:Bool×Nat×Nat->Bool×Nat×Nat->CV)(Y:Rat->Rat->R)
  (hc:∀(X:Qr) (r:Rat),X.q=r->Fit 40 X->∀(Z:Qr) (s:Rat),Z.q=s->Fit 40 Z->ar PP f [qV X,qV Z] (Y r s))
  (hv:∀s n d s' n' d',n<=KK->d<=KK->n'<=KK->d'<=KK->d≠0->d'≠0->∀(M:Mp) (w:World) (u:Value),(Y (rq s n d) (rq s' n' d')).den (ak.of M.A) u w->vr M w (g (s,n,d) (s',n',d')) u)
  (h:p2 g args=some v):∀S,qA f args S v S:=by
 obtain⟨x,y,s,n,d,s',n',d',rfl,hx,hy,rfl⟩:=Py h;obtain⟨X,_,_,_,hXq,hXf,hd0,hn1,hd1,hX⟩:=tO hx;obtain⟨Z,_,_,_,hZq,hZf,hd0',hn1',hd1',hZ⟩:=tO hy;exact n9 (hc X _ hXq hXf Z _ hZq hZf) (Dd hX hZ) (hv s n d s' n' d' (Yn hn1) (Z0 hd1) (Yn hn1') (Z0 hd1') hd0 hd0')
theorem A9(g:Bool×Nat×Nat->CV)(Y:Rat->R)
  (hc:∀(X:Qr) (r:Rat),X.q=r->Fit 40 X->ar PP f [qV X] (Y r))
  (hv:∀s n d,n<=KK->d<=KK->d≠0->∀(M:Mp) (w:World) (u:Value),(Y (rq s n d)).den (ak.of M.A) u w->vr M w (g (s,n,d)) u)
  (h:p1 g args=some v):∀S,qA f args S v S:=by
 obtain⟨x,s,n,d,rfl,hx,rfl⟩:=Pz h;obtain⟨X,_,_,_,hXq,hXf,hd0,hn1,hd1,hX⟩:=tO hx;exact n9 (hc X _ hXq hXf) (vT hX) (hv s n d (Yn hn1) (Z0 hd1) hd0)
end
theorem KA{s s':Bool}{n d n' d':Nat}(h1:n<=KK)(h2:d<=KK)(h3:n'<=KK)(h4:d'<=KK)(h5:d≠0)(h6:d'≠0):tY (s,n,d) (s',n',d')=cq (rq s n d+rq s' n' d'):=by
 unfold tY;show Ev.mk (fw s (n*d') s' (n'*d)).1 (fw s (n*d') s' (n'*d)).2 (d*d')=_;rw[mk_eq (RS h1 h4 h3 h2) (rR h2 h4) (YP h5 h6),FF h5 h6]
theorem EP{s s':Bool}{n d n' d':Nat}(h5:d≠0)(h6:d'≠0):rq (fw s (n*d') (!s') (n'*d)).1 (fw s (n*d') (!s') (n'*d)).2 (d*d')=rq s n d-rq s' n' d':=by
 rw[FF h5 h6,tR,ZF]
theorem MI{l m:List Nat}{zV0:Int}{M:Mp}{w:World}{u:Value}(h:(R.aW [V.one (ae l),V.one (ae m),V.one (ab.val (.int .i64 zV0))]).den (ak.of M.A) u w):vr M w (.t [.q l,.q m,.int zV0]) u:=by
 obtain⟨us,rfl,hv⟩:=h
 match us,hv with
 |[a,b,c],hv=>
  simp only[vr];refine⟨[a,b,c],rfl,?_⟩;simp only[aC];exact⟨AK hv.1,AK hv.2.1,tW hv.2.2.1,trivial⟩
 |[],hv=>exact hv.elim
 |[_],hv=>exact hv.2.elim
 |[_,_],hv=>exact hv.2.2.elim
 |_::_::_::_::_,hv=>exact hv.2.2.2.elim
theorem MJ{r:Rat}{zV0:Int}{M:Mp}{w:World}{u:Value}(h:(R.aW [qV (an r),V.one (ab.val (.int .i64 zV0))]).den (ak.of M.A) u w):vr M w (.t [cq r,.int zV0]) u:=by
 obtain⟨us,rfl,hv⟩:=h
 match us,hv with
 |[a,c],hv=>
  simp only[vr];refine⟨[a,c],rfl,?_⟩;simp only[aC];exact⟨nA hv.1,tW hv.2.1,trivial⟩
 |[],hv=>exact hv.elim
 |[_],hv=>exact hv.2.elim
 |_::_::_::_,hv=>exact hv.2.2.elim
open Go.Proofs.YtakccfmgipajnaaGreatDoor in
theorem Pk{f:Nat}{g:List CV->Option CV}{args:List CV}{v:CV}(hf:CC.pr f=some g)(h:g args=some v):∀S,qA f args S v S:=by
 have hm:(f,g)∈xd:=u6 hf;simp only[xd,X9,Y8,or_false,XO] at hm;rcases hm with⟨rfl,rfl⟩|⟨rfl,rfl⟩|⟨rfl,rfl⟩|⟨rfl,rfl⟩|⟨rfl,rfl⟩|⟨rfl,rfl⟩|⟨rfl,rfl⟩|⟨rfl,rfl⟩|⟨rfl,rfl⟩|⟨rfl,rfl⟩|⟨rfl,rfl⟩|⟨rfl,rfl⟩|⟨rfl,rfl⟩|⟨rfl,rfl⟩
 ·
  dsimp only at h;split at h
  .rename_i n;obtain⟨h1,h2,rfl⟩:=Gy h;exact n9 (xb n h1 h2) (vT fun M w u hu=>by simp only[vr] at hu;exact⟨hu.1,hu.2⟩) (fun M w u hu=>nA hu)
  .simp at h
 .dsimp only at h;split at h
  .rename_i n;obtain⟨h1,h2,rfl⟩:=Gy h;exact n9 (mP n h1 h2) (vT fun M w u hu=>by simp only[vr] at hu;exact⟨hu.1,hu.2⟩) (fun M w u hu=>nA hu)
  .simp at h
 ·
  exact ug _ (fun r s=>R.one (qV (an (r+s)))) (fun X r hr hX Z s hs hZ=>xc X r hr (iY hX (by decide)) Z s hs (iY hZ (by decide)))
   (fun s n d s' n' d' h1 h2 h3 h4 h5 h6 M w u hu=>by rw[KA h1 h2 h3 h4 h5 h6];exact nA hu) h
 ·
  exact ug _ (fun r s=>R.one (qV (an (r-s)))) (fun X r hr hX Z s hs hZ=>F0 X r hr (iY hX (by decide)) Z s hs (iY hZ (by decide)))
   (fun s n d s' n' d' h1 h2 h3 h4 h5 h6 M w u hu=>by
    show vr M w (tY (s,n,d) (!s',n',d')) u;rw[KA h1 h2 h3 h4 h5 h6,tR,<-ZF];exact nA hu) h
 ·
  exact ug _ (fun r s=>R.one (qV (an (r*s)))) (fun X r hr hX Z s hs hZ=>uc X r hr (iY hX (by decide)) Z s hs (iY hZ (by decide)))
   (fun s n d s' n' d' h1 h2 h3 h4 h5 h6 M w u hu=>by
    show vr M w (Ev.mk (s != s') (n*n') (d*d')) u;rw[mk_eq (rR h1 h3) (rR h2 h4) (YP h5 h6)];have e:=px s s' n n' d d';rw[dZ h5,dZ h6] at e;rw[e];exact nA hu) h
 ·
  dsimp only at h;split at h
  .rename_i x y;split at h
   .rename_i s n d s' n' d' hx hy;obtain⟨X,_,_,_,hXq,hXf,hd0,hn1,hd1,hX⟩:=tO hx;obtain⟨Z,_,_,_,hZq,hZf,hd0',hn1',hd1',hZ⟩:=tO hy;cases hb:Nat.beq n' 0
    .rw[hb] at h;have hn0:n'≠0:=fun e=>by rw[e] at hb;simp at hb
     simp only[cond_false,XL] at h;subst h;refine n9 (O6 X _ hXq (iY hXf (by decide)) Z _ hZq (iY hZf (by decide)) (fun e=>hn0 (tS.1 e))) (Dd hX hZ) (fun M w u hu=>?_);show vr M w (.t [Ev.mk (s != s') (n*d') (d*n'),.int 0]) u;rw[mk_eq (rR (Yn hn1) (Z0 hd1')) (rR (Z0 hd1) (Yn hn1')) (YP hd0 hn0)];have e:=AA s s' n n' d d' hn0;rw[dZ hd0,dZ hd0'] at e;rw[e];exact MJ hu
    .rw[hb] at h;simp at h
   .simp at h
  .simp at h
 ·
  exact A9 _ (fun r=>R.one (qV (an (-r)))) (fun X r hr hX=>O4 X r hr (iY hX (by decide)))
   (fun s n d h1 h2 h5 M w u hu=>by
    show vr M w (Ev.mk (!s) n d) u;rw[mk_eq (jP h1) (jP h2) h5,tR];exact nA hu) h
 ·
  exact A9 _ (fun r=>R.one (qV (an r))) (fun X r hr hX=>pB X r hr (iY hX (by decide)))
   (fun s n d h1 h2 h5 M w u hu=>by
    show vr M w (Ev.mk s n d) u;rw[mk_eq (jP h1) (jP h2) h5];exact nA hu) h
 ·
  exact A9 _ (fun r=>R.one (V.one (ab.val (.int .i64 (sg r))))) (fun X r hr hX=>iU X r hr (iY hX (by decide)))
   (fun s n d h1 h2 h5 M w u hu=>by
    show vr M w (.k (.int .i64 (Ev.aH s n))) u;rw[Ao h5];exact tW hu) h
 ·
  exact ug _ (fun r s=>R.one (V.one (ab.val (.int .i64 (ei r s))))) (fun X r hr hX Z s hs hZ=>ud X r hr (iY hX (by decide)) Z s hs (iY hZ (by decide)))
   (fun s n d s' n' d' h1 h2 h3 h4 h5 h6 M w u hu=>by
    show vr M w (.k (.int .i64 (Ev.aH (fw s (n*d') (!s') (n'*d)).1 (fw s (n*d') (!s') (n'*d)).2))) u;rw[Ao (YP h5 h6),EP h5 h6,<-JV];exact tW hu) h
 ·
  exact ug _ (fun r s=>R.one (qV (an (mx r s)))) (fun X r hr hX Z s hs hZ=>O5 X r hr (iY hX (by decide)) Z s hs (iY hZ (by decide)))
   (fun s n d s' n' d' h1 h2 h3 h4 h5 h6 M w u hu=>by
    show vr M w (bif Nat.beq (fw s (n*d') (!s') (n'*d)).2 0||(fw s (n*d') (!s') (n'*d)).1 then Ev.mk s' n' d' else Ev.mk s n d) u;have hsub:=EP (s:=s) (s':=s') (n:=n) (n':=n') h5 h6;rw[mk_eq (jP h1) (jP h2) h5,mk_eq (jP h3) (jP h4) h6];have hsg:=Ao (s:=(fw s (n*d') (!s') (n'*d)).1) (n:=(fw s (n*d') (!s') (n'*d)).2) (YP h5 h6);rw[hsub] at hsg;generalize (fw s (n*d') (!s') (n'*d)).1=t at hsg ⊢;generalize (fw s (n*d') (!s') (n'*d)).2=m at hsg ⊢;generalize rq s n d=a at *;generalize rq s' n' d'=b at *;have hmx:(bif Nat.beq m 0||t then cq b else cq a)=cq (mx a b):=by
     unfold Ev.aH at hsg;unfold sg at hsg;unfold mx;cases hb:Nat.beq m 0
     .rw[hb] at hsg;cases t
      .simp only[cond_false,Bool.or_self,ZA] at hsg ⊢;have:¬(a-b<0):=by intro e;rw[if_pos e] at hsg;simp at hsg
       rw[if_pos (by grind)]
      .simp only[cond_true,cond_false,ZA] at hsg ⊢;have:a-b<0:=by
        by_cases e:a-b<0
        .exact e
        .rw[if_neg e] at hsg;split at hsg <;> simp at hsg
       rw[if_neg (by grind)]
     .rw[hb] at hsg;simp only[cond_true,Bool.true_or] at hsg ⊢;have:a-b=0:=by
       by_cases e:a-b<0
       .rw[if_pos e] at hsg;simp at hsg
       .rw[if_neg e] at hsg;by_cases e2:a-b=0
        .exact e2
        .rw[if_neg e2] at hsg;simp at hsg
      have hab:a=b:=by grind
      rw[hab];split <;> rfl
    rw[hmx];exact nA hu) h
 ·
  dsimp only at h;split at h
  .rename_i s n d;split at h
   .rename_i ln ld hn hd;cases h;obtain⟨a1,a2,a3⟩:=pA hn;obtain⟨b1,b2,b3⟩:=pA hd;have p1:val ln<=KK:=Yn (XZ (dy a1) (X3 (by decide) a2));have p2:val ld<KK:=XZ (dy b1) (X3 (by decide) b2);have hdz:dz (vN ld)=dn (val ld):=by
     unfold dz dn;rw[cd,qJ];cases hb:Nat.beq (val ld) 0
     .have:val ld≠0:=fun e=>by rw[e] at hb;simp at hb
      simp[this]
     .simp[XT hb]
    have hdl:dn (val ld)<=KK:=by
     unfold dn;have:1<=KK:=by unfold KK;decide
     split <;> omega
    refine n9 (n6 ⟨s,ln,ld,a1,b1⟩ _ rfl ⟨XY a2 (by decide),XY b2 (by decide)⟩) (vT fun M w u hu=>?_) (fun M w u hu=>?_)
    .simp only[vr] at hu;obtain⟨us,rfl,g1,_⟩:=hu
     match us,g1 with
     |[u1,u2,u3],g1=>
      simp only[aC,vr] at g1;exact⟨[u1,u2,u3],rfl,⟨g1.1.1,rfl⟩,a3 M w u2 g1.2.1,b3 M w u3 g1.2.2.1,trivial⟩
     |[],g1=>simp[aC] at g1
     |[_],g1=>simp[aC] at g1
     |[_,_],g1=>simp[aC] at g1
     |_::_::_::_::_,g1=>simp[aC] at g1
    .rw[hdz,qJ,mk_eq (jP p1) (jP hdl) (fp _),L2,tT];exact tW hu
   .simp at h
  .simp at h
 ·
  dsimp only at h;split at h
  .rename_i x y;split at h
   .rename_i lx ly hx hy;obtain⟨a1,a2,a3⟩:=pA hx;obtain⟨b1,b2,b3⟩:=pA hy;cases hb:Nat.beq (vN ly) 0
    .rw[hb] at h;have h0:vN ly≠0:=fun e=>by rw[e] at hb;simp at hb
     rw[qJ] at h0;simp only[cond_false,XL,qJ] at h;subst h;have p1:val lx<=KK:=Yn (XZ (dy a1) (X3 (by decide) a2));have e1:pK (Nat.div (val lx) (val ly))=ah (val lx/val ly):=xI (Ye (Yy _ _) (jP p1));have e2:pK (Nat.mod (val lx) (val ly))=ah (val lx%val ly):=xI (Ye (Nat.mod_le _ _) (jP p1));rw[e1,e2];exact n9 (CA lx ly a1 b1 (XY a2 (by decide)) (XY b2 (by decide)) (by omega)) (Dd a3 b3) (fun M w u hu=>MI hu)
    .rw[hb] at h;simp at h
   .simp at h
  .simp at h
 ·
  dsimp only at h;split at h
  .rename_i x;split at h
   .rename_i lx hx;obtain⟨a1,a2,a3⟩:=pA hx;simp only[XL,qJ] at h;subst h;have p1:val lx<=KK:=Yn (XZ (dy a1) (X3 (by decide) a2));rw[xI (jP p1)];exact n9 (xE lx a1 (XY a2 (by decide))) (vT a3) (fun M w u hu=>AK hu)
   .simp at h
  .simp at h
end Rc.Ev
