/- Parts of the proof, 12: the texts WlX, WkBoxMember, FwZ, FactsZ, FwX, FactsX, FactsT, BoxI, WlH2, WkBoxInputs, WlV, WkBoxGrows, FactsK, Fw3, FactsL, as far as they are used. -/
import Derived.Test.YtmpkandbccallaaGreatDoorBb11
import Derived.WalkKit
import Derived.ProofKit
import Derived.OpenShut
import Derived.ShutString
import Derived.ChangeOld
import Derived.Below
import Derived.Test.YtmpkandbccallaaGreatDoorProg
import Derived.KernelRfl
import Derived.Test.YtmpkandbccallaaGreatDoorRows
import Derived.LaidMore
import Derived.LaidLaws
import Derived.LaidHandle
import Derived.JoinedOf
import Derived.ChangeSame
import Derived.ChangeVars
import Derived.Stop.Joined
set_option linter.unusedSimpArgs false
set_option linter.unusedVariables false
namespace Go.Proofs.YtmpkandbccallaaGreatDoor
open Go Go.RowKit Rc
set_option maxRecDepth 10000 in
theorem eval_r (f:Af) {m:Nat} (hf:FOk 3 m f) (v:List Rat) {K:Nat} (hv:VB K v) (hK:K≤1000000) (hm:m≤v.length) (h7:m≤7):Ctr Tryz.prog 25 [afV f,V.one (El.row ratE v)] (R.tup [qV (qOf (evM f v)),V.one (Leaf.val (.int .i64 0))]):=by
 refine bd_ Tryz.func25 Tryz.ntmps25 rfl (fun w0 A0=>?_)
 have hfl:=hf.len
 refine zc 22 rfl ?_
 refine lpR_ (fun m Γ H=>∃ (i:Nat) (c:Rat),f.ts.length - i = m∧Γ = [(1,some (D.v (V.one (El.row ratE v)))),(2,some (D.ptr 0 0)),(4,some (D.ptr 1 0)),(6,some (D.ptr 2 0)),(7,some (D.val (.int .i64 ((i:Nat):Int))))]∧H = [hb_ 29 (afL f),hb_ 27 [Leaf.val (.bool false),natL ([]),natL ([])],hb_ 27 (qL c)]∧i≤f.ts.length∧c = evN f v i) ⟨0,f.c,rfl,rfl,rfl,Nat.zero_le _,rfl⟩ rfl ?_
 rintro m Γ H ⟨i,c,rfl,rfl,rfl,hi0,hc⟩
 refine zc 6 rfl (tq_ rfl (jln rfl) ?_)
 by_cases hi:i < f.ts.length
 ·refine tq_ rfl (ltT rfl) (zl 8 rfl ?_)
  obtain ⟨x,hx⟩:∃ x,f.ts[i]? = some x:=⟨_,List.getElem?_eq_getElem hi⟩
  have hxm:=List.mem_of_getElem? hx
  have hxv:=hf.var x hxm
  obtain ⟨y,hy⟩:∃ y,v[x.1]? = some y:=⟨_,List.getElem?_eq_getElem (by omega)⟩
  haveI hyb:=hv y (List.mem_of_getElem? hy)
  haveI hxb:Br x.2 4:=(hf.bd x hxm).br
  have hfl:=hf.len
  haveI hcb:Br c 8000000:=by rw [hc];exact (evN_br hf hv hm i (by omega)).mono (by have:=Nat.mul_le_mul_right (K + 6) (show i≤7 by omega);omega)
  refine zc 4 rfl (tq_ rfl (jix i hx rfl) (tq_ rfl (jlr rfl) (zl 9 rfl (tq_ rfl (ltF rfl) (zl 4 rfl (tq_ rfl (jln rfl) (tq_ rfl (geF rfl) (zl 6 rfl (dr_ 0 [(10,2)] [2] ?_)))))))))
  refine kp_ [] rfl (Jq_load_agg rfl rfl rfl (by decide) ty27 (by decide) (Nat.le_of_ble_eq_true rfl) rfl) (dz 5 rfl (kq_ rfl (jix x.1 hy rfl) (kq_ rfl (jlr rfl) (kc_ fn55 rfl (rqmul (qOf (x.2)) (x.2) (qOf_q _) (Br.use (by omega)) (qOf (y)) (y) (qOf_q _) (Br.use (by omega))) ?_))))
  refine kc_ fn54 rfl (rqadd (qOf (c)) (c) (qOf_q _) (Br.use (by omega)) (qOf ((x.2) * (y))) ((x.2) * (y)) (qOf_q _) (Br.use (by omega))) (dz 1 rfl (DK_nil (za 4 rfl (tq_ rfl (jad (i + 1) rfl) (zl 2 rfl (At_free 3 (trim_ 3 rfl ?_)))))))
  exact nx_ ⟨i + 1,_,rfl,rfl,rfl,hi,by rw [hc,evN_succ hx hy]⟩ rfl
 ·refine tq_ rfl (ltF rfl) (zl 9 rfl ?_)
  have hie:i = f.ts.length:=by omega
  rw [hie] at hc
  refine zc 6 rfl ?_
  exact r2_ hq_ rfl (by rw [hc] <;> rfl)
set_option maxRecDepth 10000 in
theorem values_r (g:Gr) (hg:GOk g) (x:List Rat) (hx:VB 100 x) (hl:x.length = g.inp):Ctr Tryz.prog 24 [grV g,V.one (El.row ratE x)] (R.tup [V.one (El.row ratE (actM g x)),V.one (Leaf.val (.int .i64 0))]):=by
 refine bd_ Tryz.func24 Tryz.ntmps24 rfl (fun w0 A0=>?_)
 have h1:=hg.i1;have h2:=hg.i3;have h3:=hg.u4;have h4:=hg.o1;have h5:=hg.o3
 refine zc 11 rfl (tc_ fn69 rfl (gvalid_r g hg) (zl 3 rfl (tq_ rfl (jln rfl) (zl 2 rfl (tq_ rfl (neF rfl) (zl 7 rfl (nz_ [so 1 (D.v (V.one (El.row ratE x))),so 2 (D.ptr 0 0)] [hb_ 33 [Leaf.val (.int .i64 ((g.inp:Nat):Int)),El.row afE g.us,El.row afE g.os]] rfl rfl (zc 1 rfl (tq_ rfl (Jq_assign rfl (rfl)) ?_)))))))))
 refine zl 4 rfl (Tc_growS 6 27 3 rfl rfl (zc 5 rfl ?_))
 refine lpR_ (fun m Γ H=>∃ (i:Nat) (n:Nat) (out:List Rat),x.length - i = m∧Γ = [(1,some (D.v (V.one (El.row ratE x)))),(2,some (D.ptr 0 0)),(6,some (D.v (V.one (Leaf.own 1 n)))),(7,some (D.val (.int .i64 ((i:Nat):Int))))]∧H = [hb_ 33 [Leaf.val (.int .i64 ((g.inp:Nat):Int)),El.row afE g.us,El.row afE g.os],hgr 27 3 ratE out n]∧i≤x.length∧out = x.take i) ⟨0,0,[],rfl,rfl,rfl,Nat.zero_le _,rfl⟩ rfl ?_
 rintro m Γ H ⟨i,n,out,rfl,rfl,rfl,hi0,hout⟩
 refine zc 5 rfl (tq_ rfl (jln rfl) ?_)
 by_cases hi:i < x.length
 ·refine tq_ rfl (ltT rfl) (zl 7 rfl ?_)
  obtain ⟨y,hy⟩:∃ y,x[i]? = some y:=⟨_,List.getElem?_eq_getElem hi⟩
  haveI hyb:=hx y (List.mem_of_getElem? hy)
  have hol:out.length≤7:=by rw [hout,List.length_take];omega
  refine zc 4 rfl (tq_ rfl (jix i hy rfl) (tq_ rfl (jlr rfl) (tc_ fn57 rfl (rqcanon (qOf (y)) (y) (qOf_q _) (Br.use (by omega))) (te_ rfl (Je_buildSlice rfl un34 ty27 tz27 rfl (by decide) (by decide) rfl (by decide) rfl) (te_ rfl (jap y rfl rfl) (zl 4 rfl ?_))))))
  refine nz_ [so 1 (D.v (V.one (El.row ratE x))),so 2 (D.ptr 0 0),so 6 (D.v (V.one (Leaf.own 1 (n + 1)))),so 7 (D.val (.int .i64 ((i:Nat):Int)))] [hb_ 33 [Leaf.val (.int .i64 ((g.inp:Nat):Int)),El.row afE g.us,El.row afE g.os],hgr 27 3 ratE (out ++ [y]) (n + 1)] rfl rfl (zc 2 rfl (tq_ rfl (jad (i + 1) rfl) (zl 2 rfl ?_)))
  exact nx_ ⟨i + 1,_,_,rfl,rfl,rfl,hi,by rw [hout,take_snoc hy]⟩ rfl
 ·refine tq_ rfl (ltF rfl) (zl 10 rfl ?_)
  have hie:i = x.length:=by omega
  rw [hie,List.take_length] at hout
  refine zc 5 rfl ?_
  refine lpR_ (fun m Γ H=>∃ (j:Nat) (n2:Nat) (out2:List Rat),g.us.length - j = m∧Γ = [(2,some (D.ptr 0 0)),(6,some (D.v (V.one (Leaf.own 1 n2)))),(8,some (D.val (.int .i64 ((j:Nat):Int))))]∧H = [hb_ 33 [Leaf.val (.int .i64 ((g.inp:Nat):Int)),El.row afE g.us,El.row afE g.os],hgr 27 3 ratE out2 n2]∧j≤g.us.length∧out2 = actN g.us x j) ⟨0,n,out,rfl,rfl,rfl,Nat.zero_le _,hout⟩ rfl ?_
  rintro m Γ H ⟨j,n2,out2,rfl,rfl,rfl,hj0,hout2⟩
  refine zc 6 rfl (tq_ rfl (jln rfl) ?_)
  by_cases hj:j < g.us.length
  ·refine tq_ rfl (ltT rfl) (zl 8 rfl ?_)
   obtain ⟨p,hp⟩:∃ p,g.us[j]? = some p:=⟨_,List.getElem?_eq_getElem hj⟩
   have hol:out2.length = g.inp + j:=by rw [hout2,actN_len j (by omega),hl]
   have hvb:VB (KV j) out2:=by rw [hout2];exact actN_br hg hx hl j (by omega)
   have hkv:=KV_le (n:=j) (by omega)
   have hpo:=hg.us j p hp
   haveI hev:=evM_br hpo hvb (by omega) (by omega)
   haveI hmb:=mx_br hev
   refine nz_ [so 2 (D.ptr 0 0),so 6 (D.v (V.one (Leaf.own 1 n2))),so 8 (D.val (.int .i64 ((j:Nat):Int)))] [hb_ 33 [Leaf.val (.int .i64 ((g.inp:Nat):Int)),El.row afE g.us,El.row afE g.os],hgr 27 3 ratE out2 n2] rfl rfl (zc 4 rfl (tq_ rfl (jix j hp rfl) (tq_ rfl (jlr rfl) ?_)))
   refine tq_ rfl (Jq_view (r:=1) (n:=n2) (x:=V.one (Leaf.own 1 n2)) (x':=V.one (El.row ratE out2)) (Jq_move rfl rfl) (RowAt.ofE ratE out2 rfl (by decide)) (by decide) (.inr ⟨rfl,rfl⟩)) (tc_ fn25 rfl (eval_r p hpo out2 hvb (by omega) (by omega) (by omega)) (zl 8 rfl (nz_ [so 2 _,so 6 _,so 8 _,so 9 (D.ptr 2 0)] [_,_,hb_ 27 (qL (evM p out2))] rfl rfl (zc 4 rfl ?_))))
   refine tc_ fn70 rfl (rqmax (qOf ((evM p out2))) ((evM p out2)) (qOf_q _) (Br.use (by omega)) qZero (0) qZero_q qZero_fit) (te_ rfl (Je_buildSlice rfl un34 ty27 tz27 rfl (by decide) (by decide) rfl (by decide) rfl) (te_ rfl (jap (mx ((evM p out2)) (0)) rfl rfl) (zl 6 rfl (tq_ rfl (jad (j + 1) rfl) (zl 2 rfl (At_free 2 (trim_ 2 rfl ?_)))))))
   exact nx_ ⟨j + 1,_,_,rfl,rfl,rfl,hj,by rw [hout2,actN_succ hp]⟩ rfl
  ·refine tq_ rfl (ltF rfl) (zl 9 rfl ?_)
   have hje:j = g.us.length:=by omega
   rw [hje] at hout2
   refine nf_ [0] [so 6 (D.v (V.one (Leaf.own 1 n2)))] [none,hgr 27 3 ratE out2 n2] rfl rfl rfl (zc 6 rfl (Tc_viewS 4 (x':=V.one (El.row ratE out2)) rfl (RowAt.ofE ratE out2 rfl (by decide)) (.inr ⟨rfl,rfl⟩) ?_))
   exact r2_ hq_ rfl (by rw [hout2] <;> rfl)
set_option maxRecDepth 10000 in
theorem forms_r (g:Gr) (hg:GOk g) (x:List Rat) (hx:VB 100 x) (hl:x.length = g.inp):Ctr Tryz.prog 179 [grV g,V.one (El.row afE g.us),V.one (El.row ratE x)] (R.tup [V.one (El.row ratE (preM g x)),V.one (Leaf.val (.int .i64 0))]):=by
 refine bd_ Tryz.func179 Tryz.ntmps179 rfl (fun w0 A0=>?_)
 have h1:=hg.i1;have h2:=hg.i3;have h3:=hg.u4;have h4:=hg.o1;have h5:=hg.o3
 refine zc 11 rfl (tc_ fn24 rfl (values_r g hg x hx hl) (zl 9 rfl (nf_ [0] [so 1 (D.v (V.one (El.row afE g.us))),so 8 (D.v (V.one (El.row ratE (actM g x)))),so 9 (D.val (.int .i64 0))] [none] rfl rfl rfl (zc 10 rfl (tq_ rfl (Jq_assign rfl (rfl)) (zl 4 rfl (Tc_growS 10 27 3 rfl rfl (zc 5 rfl ?_))))))))
 refine lpR_ (fun m Γ H=>∃ (i:Nat) (n:Nat) (out:List Rat),g.us.length - i = m∧Γ = [(1,some (D.v (V.one (El.row afE g.us)))),(8,some (D.v (V.one (El.row ratE (actM g x))))),(10,some (D.v (V.one (Leaf.own 1 n)))),(11,some (D.val (.int .i64 ((i:Nat):Int))))]∧H = [none,hgr 27 3 ratE out n]∧i≤g.us.length∧out = (g.us.take i).map (fun p=>evM p (actM g x))) ⟨0,0,[],rfl,rfl,rfl,Nat.zero_le _,rfl⟩ rfl ?_
 rintro m Γ H ⟨i,n,out,rfl,rfl,rfl,hi0,hout⟩
 refine zc 5 rfl (tq_ rfl (jln rfl) ?_)
 by_cases hi:i < g.us.length
 ·refine tq_ rfl (ltT rfl) (zl 8 rfl ?_)
  obtain ⟨p,hp⟩:∃ p,g.us[i]? = some p:=⟨_,List.getElem?_eq_getElem hi⟩
  have hpo:=(hg.us i p hp).mono (Nat.le_refl 3) (show g.inp + i≤g.inp + g.us.length by omega)
  have hol:out.length≤7:=by rw [hout];simp;omega
  have hal:(actM g x).length = g.inp + g.us.length:=by unfold actM;rw [actN_len _ (Nat.le_refl _),hl]
  have hvb:VB 500000 (actM g x):=(actN_br hg hx hl _ (Nat.le_refl _)).mono (KV_le (by omega))
  haveI hev:=evM_br hpo hvb (by omega) (by omega)
  refine nz_ [so 1 (D.v (V.one (El.row afE g.us))),so 8 (D.v (V.one (El.row ratE (actM g x)))),so 10 (D.v (V.one (Leaf.own 1 n))),so 11 (D.val (.int .i64 ((i:Nat):Int)))] [none,hgr 27 3 ratE out n] rfl rfl (zc 3 rfl (tq_ rfl (jix i hp rfl) (tq_ rfl (jlr rfl) (zl 1 rfl (tc_ fn25 rfl (eval_r p hpo (actM g x) hvb (by omega) (by omega) (by omega)) (zl 8 rfl ?_))))))
  refine nz_ [so 1 _,so 8 _,so 10 _,so 11 _,so 12 (D.ptr 2 0)] [none,_,hb_ 27 (qL (evM p (actM g x)))] rfl rfl (zc 3 rfl (te_ rfl (Je_buildSlice rfl un34 ty27 tz27 rfl (by decide) (by decide) rfl (by decide) rfl) (te_ rfl (jap (evM p (actM g x)) rfl rfl) (zl 6 rfl (tq_ rfl (jad (i + 1) rfl) (zl 2 rfl (At_free 2 (trim_ 2 rfl ?_))))))))
  exact nx_ ⟨i + 1,_,_,rfl,rfl,rfl,hi,by rw [hout,take_snoc hp,List.map_append];rfl⟩ rfl
 ·refine tq_ rfl (ltF rfl) (zl 9 rfl ?_)
  have hie:i = g.us.length:=by omega
  rw [hie,List.take_length] at hout
  refine nz_ [so 10 (D.v (V.one (Leaf.own 1 n)))] [none,hgr 27 3 ratE out n] rfl rfl (zc 6 rfl (Tc_viewS 6 (x':=V.one (El.row ratE out)) rfl (RowAt.ofE ratE out rfl (by decide)) (.inr ⟨rfl,rfl⟩) ?_))
  exact r2_ hq_ rfl (by rw [hout] <;> rfl)
set_option maxRecDepth 10000 in
theorem pre_r (g:Gr) (hg:GOk g) (x:List Rat) (hx:VB 100 x) (hl:x.length = g.inp):Ctr Tryz.prog 127 [grV g,V.one (El.row ratE x)] (R.tup [V.one (El.row ratE (preM g x)),V.one (Leaf.val (.int .i64 0))]):=by
 refine bd_ Tryz.func127 Tryz.ntmps127 rfl (fun w0 A0=>?_)
 refine zc 13 rfl (tc_ fn179 rfl (forms_r g hg x hx hl) (zl 6 rfl ?_))
 exact r2_ hq_ rfl rfl
set_option maxRecDepth 10000 in
theorem own_r (r:Rg) {n:Nat} (hr:ROk n r) (hn1:1≤n) (hn3:n≤3):Ctr Tryz.prog 73 [rgV r] (R.one (V.one (Leaf.val (.bool true)))):=by
 refine bd_ Tryz.func73 Tryz.ntmps73 rfl (fun w0 A0=>?_)
 have h1:=hr.lo;have h2:=hr.hi;have h3:=hr.r2
 refine zc 11 rfl (tq_ rfl (jln rfl) (tc_ fn109 rfl (rgvalid_r r r.lo.length (by rw [hr.lo];exact hr) (by omega) (by omega)) (zl 3 rfl ?_)))
 exact r1_ hq_ rfl rfl
set_option maxRecDepth 10000 in
theorem cont_r (r:Rg) {n:Nat} (hr:ROk n r) (hn1:1≤n) (hn3:n≤3) (x:List Rat) (hx:InB r x):Ctr Tryz.prog 67 [rgV r,V.one (El.row ratE x)] (R.one (V.one (Leaf.val (.bool (contB r x))))):=by
 refine bd_ Tryz.func67 Tryz.ntmps67 rfl (fun w0 A0=>?_)
 have h1:=hr.lo;have h2:=hr.hi;have h3:=hr.r2
 have hxl:=hx.len
 refine zc 10 rfl (tc_ fn73 rfl (own_r r hr hn1 hn3) (zl 3 rfl (tq_ rfl (jln rfl) (zl 2 rfl (tq_ rfl (jln rfl) (tq_ rfl (neF rfl) (zl 8 rfl (nz_ [so 1 (D.v (V.one (El.row ratE x))),so 2 (D.ptr 0 0)] [hb_ 36 [El.row ratE r.lo,El.row ratE r.hi,El.row afE r.rows]] rfl rfl (zc 5 rfl ?_)))))))))
 refine lpR_ (fun m Γ H=>∃ (i:Nat),x.length - i = m∧Γ = [(1,some (D.v (V.one (El.row ratE x)))),(2,some (D.ptr 0 0)),(5,some (D.val (.int .i64 ((i:Nat):Int))))]∧H = [hb_ 36 [El.row ratE r.lo,El.row ratE r.hi,El.row afE r.rows]]∧i≤x.length) ⟨0,rfl,rfl,rfl,Nat.zero_le _⟩ rfl ?_
 rintro m Γ H ⟨i,rfl,rfl,rfl,hi0⟩
 refine zc 5 rfl (tq_ rfl (jln rfl) ?_)
 by_cases hi:i < x.length
 ·refine tq_ rfl (ltT rfl) (zl 8 rfl ?_)
  obtain ⟨y,hy⟩:∃ y,x[i]? = some y:=⟨_,List.getElem?_eq_getElem hi⟩
  obtain ⟨a,ha⟩:∃ a,r.lo[i]? = some a:=⟨_,List.getElem?_eq_getElem (by omega)⟩
  obtain ⟨b,hb⟩:∃ b,r.hi[i]? = some b:=⟨_,List.getElem?_eq_getElem (by omega)⟩
  obtain ⟨hay,hyb⟩:=hx.in_ i y a b hy ha hb
  haveI hb0:=hx.bd y (List.mem_of_getElem? hy)
  haveI hb1:=(hr.bd i a b ha hb).1.br
  haveI hb2:=(hr.bd i a b ha hb).2.1.br
  refine dr_ 0 [] [] (dz 2 rfl (kq_ rfl (jix i hy rfl) (kq_ rfl (jlr rfl) (dz 3 rfl (kq_ rfl (jix i ha rfl) (kq_ rfl (jlr rfl) (kc_ fn26 rfl (rqcmp (qOf (y)) (y) (qOf_q _) (Br.use (by omega)) (qOf (a)) (a) (qOf_q _) (Br.use (by omega))) (kq_ rfl (ltF rfl (by have:=cmpq_ge.2 hay;omega)) (dz 3 rfl ?_)))))))))
  refine kq_ rfl (jix i hy rfl) (kq_ rfl (jlr rfl) (dz 3 rfl (kq_ rfl (jix i hb rfl) (kq_ rfl (jlr rfl) (kc_ fn26 rfl (rqcmp (qOf (y)) (y) (qOf_q _) (Br.use (by omega)) (qOf (b)) (b) (qOf_q _) (Br.use (by omega))) (kq_ rfl (gtF rfl (by have:=cmpq_le.2 hyb;omega)) (dz 1 rfl (DK_nil (za 5 rfl ?_)))))))))
  refine nz_ [so 1 (D.v (V.one (El.row ratE x))),so 2 (D.ptr 0 0),so 5 (D.val (.int .i64 ((i:Nat):Int)))] [hb_ 36 [El.row ratE r.lo,El.row ratE r.hi,El.row afE r.rows]] rfl rfl (zc 2 rfl (tq_ rfl (jad (i + 1) rfl) (zl 2 rfl ?_)))
  exact nx_ ⟨i + 1,rfl,rfl,rfl,hi⟩ rfl
 ·refine tq_ rfl (ltF rfl) (zl 15 rfl ?_)
  refine lpR_ (fun m Γ H=>∃ (k:Nat),r.rows.length - k = m∧Γ = [(1,some (D.v (V.one (El.row ratE x)))),(2,some (D.ptr 0 0)),(6,some (D.val (.int .i64 ((k:Nat):Int))))]∧H = [hb_ 36 [El.row ratE r.lo,El.row ratE r.hi,El.row afE r.rows]]∧k≤r.rows.length∧(r.rows.take k).all (fun f=>decide (0≤sg (evM f x))) = true) ⟨0,rfl,rfl,rfl,Nat.zero_le _,rfl⟩ rfl ?_
  rintro m Γ H ⟨k,rfl,rfl,rfl,hk0,hall⟩
  refine zc 6 rfl (tq_ rfl (jln rfl) ?_)
  by_cases hk:k < r.rows.length
  ·refine tq_ rfl (ltT rfl) (zl 8 rfl ?_)
   obtain ⟨f,hf⟩:∃ f,r.rows[k]? = some f:=⟨_,List.getElem?_eq_getElem hk⟩
   have hfo:=hr.rows f (List.mem_of_getElem? hf)
   haveI hev:=evM_br hfo hx.bd (by omega) (by omega)
   refine nz_ [so 1 (D.v (V.one (El.row ratE x))),so 2 (D.ptr 0 0),so 6 (D.val (.int .i64 ((k:Nat):Int)))] [hb_ 36 [El.row ratE r.lo,El.row ratE r.hi,El.row afE r.rows]] rfl rfl (zc 4 rfl (tq_ rfl (jix k hf rfl) (tq_ rfl (jlr rfl) (zl 1 rfl (tc_ fn25 rfl (eval_r f hfo x hx.bd (by omega) (by omega) (by omega)) (zl 9 rfl ?_))))))
   refine nz_ [so 1 _,so 2 _,so 6 _,so 7 (D.ptr 1 0)] [_,hb_ 27 (qL (evM f x))] rfl rfl (zc 2 rfl (tc_ fn37 rfl (rqsign (qOf ((evM f x))) ((evM f x)) (qOf_q _) (Br.use (by omega))) ?_))
   by_cases hneg:sg (evM f x) < 0
   ·refine tq_ rfl (ltT rfl) (zl 8 rfl ?_)
    exact r1_ hq_ rfl (by unfold contB;rw [all_no hf (decide_eq_false (by omega))])
   ·refine tq_ rfl (ltF rfl) (zl 8 rfl (tq_ rfl (jad (k + 1) rfl) (zl 2 rfl (At_free 1 (trim_ 1 rfl ?_)))))
    exact nx_ ⟨k + 1,rfl,rfl,rfl,hk,all_take hf hall (decide_eq_true (by omega))⟩ rfl
  ·refine tq_ rfl (ltF rfl) (zl 9 rfl ?_)
   have hke:k = r.rows.length:=by omega
   rw [hke,List.take_length] at hall
   refine zc 4 rfl ?_
   exact r1_ hq_ rfl (by unfold contB;rw [hall])
set_option maxRecDepth 10000 in
theorem fits_ok (q:Qu) (hq:QOk q) (d:Dc) {b:Nat} (hd:DOk b q d) (hb:b≤1000000):Ctr Tryz.prog 30 [quV q,dcV d] (R.one (V.one (Leaf.val (.bool true)))):=by
 refine bd_ Tryz.func30 Tryz.ntmps30 rfl (fun w0 A0=>?_)
 refine zc 10 rfl (tc_ fn50 rfl (qvalid_r q hq) (zl 3 rfl (tc_ fn74 rfl (fits_r q d hd hb) (zl 4 rfl ?_))))
 exact r1_ hq_ rfl rfl
set_option maxRecDepth 10000 in
set_option maxHeartbeats 2000000 in
theorem hold_r (q:Qu) (hq:QOk q) (d:Dc) (hd:DOk 200 q d) (x:List Rat) (hx:InB q.r x):Ctr Tryz.prog 68 [quV q,dcV d,V.one (El.row ratE x)] (R.one (V.one (Leaf.val (.bool (holdB q d x))))):=by
 refine bd_ Tryz.func68 Tryz.ntmps68 rfl (fun w0 A0=>?_)
 have hg:=hq.g;have hr:=hq.r;have hxl:=hx.len;have hrl:=hr.lo
 have h1:=hg.i1;have h2:=hg.i3;have h3:=hg.u4;have h4:=hg.o1;have h5:=hg.o3
 obtain ⟨hkk,hdb⟩:=hd
 have hd:DOk 200 q d:=⟨hkk,hdb⟩
 haveI hdbr:=hdb.br
 refine zc 12 rfl (tc_ fn30 rfl (fits_ok q hq d hd (by omega)) (zl 3 rfl (tq_ rfl (jln rfl) (zl 3 rfl (tq_ rfl (neF rfl) (zl 8 rfl ?_))))))
 refine nz_ [so 2 (D.v (V.one (El.row ratE x))),so 3 (D.ptr 0 0),so 4 (D.ptr 1 0)] [hb_ 38 (quL q),hb_ 78 [Leaf.val (.int .i64 ((d.kind:Nat):Int)),Leaf.val (.int .i64 ((d.idx:Nat):Int)),Leaf.val (.bool (cneg d.pt)),natL (limbs (cnum d.pt)),natL (limbs (cden d.pt))]] rfl rfl (zc 8 rfl ?_)
 by_cases hk3:d.kind = 3
 ·refine tq_ rfl (eqT rfl) (zl 5 rfl ?_)
  obtain ⟨y,hy⟩:∃ y,x[d.idx]? = some y:=⟨_,List.getElem?_eq_getElem (by omega)⟩
  haveI hyb:=hx.bd y (List.mem_of_getElem? hy)
  refine dr_ 0 [] [] (dz 3 rfl (kq_ rfl (jix d.idx hy rfl) (kq_ rfl (jlr rfl) (dz 2 rfl (kc_ fn26 rfl (rqcmp (qOf (y)) (y) (qOf_q _) (Br.use (by omega)) (qOf (d.pt)) (d.pt) (qOf_q _) (Br.use (by omega))) (dz 2 rfl (DK_nil (za 1 rfl ?_))))))))
  exact r1_ hq_ rfl (by unfold holdB;rw [if_pos hk3,hy] <;> rfl)
 ·refine tq_ rfl (eqF rfl) (zl 5 rfl (nz_ [so 2 _,so 3 _,so 4 _,so 22 (D.val (.int .i64 ((d.kind:Nat):Int)))] [_,_] rfl rfl (zc 1 rfl ?_)))
  by_cases hk4:d.kind = 4
  ·refine tq_ rfl (eqT rfl) (zl 5 rfl ?_)
   obtain ⟨y,hy⟩:∃ y,x[d.idx]? = some y:=⟨_,List.getElem?_eq_getElem (by omega)⟩
   haveI hyb:=hx.bd y (List.mem_of_getElem? hy)
   refine dr_ 0 [] [] (dz 3 rfl (kq_ rfl (jix d.idx hy rfl) (kq_ rfl (jlr rfl) (dz 2 rfl (kc_ fn26 rfl (rqcmp (qOf (y)) (y) (qOf_q _) (Br.use (by omega)) (qOf (d.pt)) (d.pt) (qOf_q _) (Br.use (by omega))) (dz 2 rfl (DK_nil (za 1 rfl ?_))))))))
   exact r1_ hq_ rfl (by unfold holdB;rw [if_neg hk3,if_pos hk4,hy] <;> rfl)
  ·refine tq_ rfl (eqF rfl) (zl 8 rfl ?_)
   obtain ⟨p,hp⟩:∃ p,q.g.us[d.idx]? = some p:=⟨_,List.getElem?_eq_getElem (by omega)⟩
   have hpp:(preM q.g x)[d.idx]? = some (evM p (actM q.g x)):=by unfold preM;rw [List.getElem?_map,hp];rfl
   have hl:x.length = q.g.inp:=by omega
   have hal:(actM q.g x).length = q.g.inp + q.g.us.length:=by unfold actM;rw [actN_len _ (Nat.le_refl _),hl]
   have hvb:VB 500000 (actM q.g x):=(actN_br hg hx.bd hl _ (Nat.le_refl _)).mono (KV_le (by omega))
   haveI hev:=evM_br ((hg.us _ p hp).mono (Nat.le_refl 3) (show q.g.inp + d.idx≤q.g.inp + q.g.us.length by omega)) hvb (by omega) (by omega)
   refine nz_ [so 2 _,so 3 _,so 4 _] [_,_] rfl rfl (zc 4 rfl (tc_ fn127 rfl (pre_r q.g hg x hx.bd hl) (zl 9 rfl (nf_ [0] [so 4 _,so 7 (D.v (V.one (El.row ratE (preM q.g x))))] [none,_] rfl rfl rfl (zc 3 rfl ?_)))))
   by_cases hk1:d.kind = 1
   ·refine tq_ rfl (eqT rfl) (zl 8 rfl (tq_ rfl (jix d.idx hpp rfl) (tq_ rfl (jlr rfl) (tc_ fn37 rfl (rqsign (qOf ((evM p (actM q.g x)))) ((evM p (actM q.g x))) (qOf_q _) (Br.use (by omega))) (zl 4 rfl ?_)))))
    exact r1_ hq_ rfl (by unfold holdB;rw [if_neg hk3,if_neg hk4,if_pos hk1,hpp] <;> rfl)
   ·refine tq_ rfl (eqF rfl) (zl 6 rfl (nz_ [so 4 _,so 7 _] [none,_] rfl rfl (zc 4 rfl (tq_ rfl (jix d.idx hpp rfl) (tq_ rfl (jlr rfl) (tc_ fn37 rfl (rqsign (qOf ((evM p (actM q.g x)))) ((evM p (actM q.g x))) (qOf_q _) (Br.use (by omega))) (zl 4 rfl ?_)))))))
    exact r1_ hq_ rfl (by unfold holdB;rw [if_neg hk3,if_neg hk4,if_neg hk1,hpp] <;> rfl)
set_option maxRecDepth 10000 in
theorem mem_r (s:Sc) (hs:SOk s) (x:List Rat) (hx:InB s.q.r x):Ctr Tryz.prog 23 [scV s,V.one (El.row ratE x)] (R.one (V.one (Leaf.val (.bool (memB s x))))):=by
 refine bd_ Tryz.func23 Tryz.ntmps23 rfl (fun w0 A0=>?_)
 have hq:=hs.q;have hd:=hs.d;have hpl:=hs.pl;have hB:=hs.B;have hll:=hs.ll
 have hg:=hq.g;have hr:=hq.r;have hlo:=hr.lo;have hhi:=hr.hi
 have g1:=hg.i1;have g2:=hg.i3;have g3:=hg.u4;have g4:=hg.o1;have g5:=hg.o3
 have hxl:=hx.len;have hrl:=hr.lo
 refine zc 11 rfl (tc_ fn50 rfl (qvalid_r s.q hq) (zl 3 rfl (tq_ rfl (jln rfl) (zl 4 rfl (tq_ rfl (neF rfl) (zl 6 rfl (tc_ fn67 rfl (cont_r s.q.r hr (by omega) (by omega) x hx) (zl 4 rfl ?_))))))))
 refine Tc_cond rfl (fun hct=>?_) (fun hct=>?_)
 ·refine zc 5 rfl ?_
  exact r1_ hq_ rfl (by unfold memB;rw [show contB s.q.r x = false by simpa using hct] <;> rfl)
 ·refine zc 9 rfl (lpR_ (fun m Γ H=>∃ (i:Nat),s.path.length - i = m∧Γ = [(1,some (D.v (V.one (El.row ratE x)))),(2,some (D.ptr 0 0)),(5,some (D.val (.int .i64 ((i:Nat):Int))))]∧H = [hb_ 42 (scL s)]∧i≤s.path.length∧(s.path.take i).all (fun d=>holdB s.q d x) = true) ⟨0,rfl,rfl,rfl,Nat.zero_le _,rfl⟩ rfl ?_)
  rintro m Γ H ⟨i,rfl,rfl,rfl,hi0,hall⟩
  refine zc 6 rfl (tq_ rfl (jln rfl) ?_)
  by_cases hi:i < s.path.length
  ·refine tq_ rfl (ltT rfl) (zl 8 rfl ?_)
   obtain ⟨d,hd_⟩:∃ d,s.path[i]? = some d:=⟨_,List.getElem?_eq_getElem hi⟩
   have hdo:=hs.d d (List.mem_of_getElem? hd_)
   refine dr_ 0 [] [] (dz 5 rfl (kq_ rfl (jix i hd_ rfl) (kq_ rfl (jlr rfl) (dz 1 rfl (kc_ fn68 rfl (hold_r s.q hq d hdo x hx) (dz 1 rfl (DK_nil (za 1 rfl ?_))))))))
   refine Tc_cond rfl (fun hc43=>?_) (fun hc43=>?_)
   ·refine zc 5 rfl ?_
    exact r1_ hq_ rfl (by unfold memB;rw [all_no hd_ (by simpa using hc43),Bool.and_false])
   ·refine zc 5 rfl (tq_ rfl (jad (i + 1) rfl) (zl 2 rfl ?_))
    exact nx_ ⟨i + 1,rfl,rfl,rfl,hi,all_take hd_ hall (by simpa using hc43)⟩ rfl
  ·refine tq_ rfl (ltF rfl) (zl 9 rfl ?_)
   have hie:i = s.path.length:=by omega
   rw [hie,List.take_length] at hall
   refine zc 4 rfl ?_
   exact r1_ hq_ rfl (by unfold memB;rw [hall,show contB s.q.r x = true by simpa using hct] <;> rfl)
set_option maxRecDepth 10000 in
theorem inside_r (r:Rg) {n:Nat} (hr:ROk n r) (hn1:1≤n) (hn3:n≤3) (l:List Nat) (hb:∀ x∈l,x < 256) (hll:l.length≤1000):Ctr Tryz.prog 22 [rgV r,V.one (El.row u8E l)] (R.one (V.one (El.row ratE (insN r l r.lo.length)))):=by
 refine bd_ Tryz.func22 Tryz.ntmps22 rfl (fun w0 A0=>?_)
 have h1:=hr.lo;have h2:=hr.hi;have h3:=hr.r2
 refine zc 8 rfl (tq_ rfl (Jq_assign rfl (rfl)) (zl 4 rfl (Tc_growS 5 27 3 rfl rfl (zc 5 rfl ?_))))
 refine lpR_ (fun m Γ H=>∃ (i:Nat) (n2:Nat) (out:List Rat),r.lo.length - i = m∧Γ = [(1,some (D.v (V.one (El.row u8E l)))),(2,some (D.ptr 0 0)),(5,some (D.v (V.one (Leaf.own 1 n2)))),(6,some (D.val (.int .i64 ((i:Nat):Int))))]∧H = [hb_ 36 [El.row ratE r.lo,El.row ratE r.hi,El.row afE r.rows],hgr 27 3 ratE out n2]∧i≤r.lo.length∧out = insN r l i) ⟨0,0,[],rfl,rfl,rfl,Nat.zero_le _,rfl⟩ rfl ?_
 rintro m Γ H ⟨i,n2,out,rfl,rfl,rfl,hi0,hout⟩
 refine zc 6 rfl (tq_ rfl (jln rfl) ?_)
 by_cases hi:i < r.lo.length
 ·refine tq_ rfl (ltT rfl) (zl 8 rfl ?_)
  obtain ⟨a,ha⟩:∃ a,r.lo[i]? = some a:=⟨_,List.getElem?_eq_getElem hi⟩
  obtain ⟨b,hb2⟩:∃ b,r.hi[i]? = some b:=⟨_,List.getElem?_eq_getElem (by omega)⟩
  haveI hb1:=(hr.bd i a b ha hb2).1.br
  haveI hb3:=(hr.bd i a b ha hb2).2.1.br
  have hol:out.length≤7:=by rw [hout,insN_len];omega
  have hk9:((l[i]?).getD 0 % 9)≤8:=by omega
  haveI h8:=(eighth_hb hk9).1.br
  refine nz_ [so 1 (D.v (V.one (El.row u8E l))),so 2 (D.ptr 0 0),so 5 (D.v (V.one (Leaf.own 1 n2))),so 6 (D.val (.int .i64 ((i:Nat):Int)))] [hb_ 36 [El.row ratE r.lo,El.row ratE r.hi,El.row afE r.rows],hgr 27 3 ratE out n2] rfl rfl (zc 9 rfl (tq_ rfl (jln rfl) ?_))
  by_cases hil:i < l.length
  ·refine tq_ rfl (ltT rfl) (zl 3 rfl ?_)
   obtain ⟨z,hz⟩:∃ z,l[i]? = some z:=⟨_,List.getElem?_eq_getElem hil⟩
   have hzb:=hb z (List.mem_of_getElem? hz)
   refine zc 3 rfl (tq_ rfl (jix i hz rfl) (tq_ rfl (jli rfl) (tq_ rfl (Jq_rem rfl rfl rfl (by decide) (r:=((z % 9:Nat):Int)) (tmodN _ _)) (tq_ rfl (jci (z % 9) rfl) (zl 4 rfl (nz_ [so 1 _,so 2 _,so 5 _,so 6 _,so 7 (D.val (.int .i64 ((z % 9:Nat):Int)))] [_,_] rfl rfl (zc 2 rfl ?_)))))))
   refine eq_ (D.val (.int .i64 ((((l[i]?).getD 0 % 9):Nat):Int))) rfl (by first | (simp only [hz,Option.getD_some];done) | (rw [List.getElem?_eq_none (by omega)];rfl)) ?_
   refine tc_ fn65 rfl (rqfrac ((((l[i]?).getD 0 % 9):Nat):Int) 8 (by omega) (by omega) (by decide) (by decide) (by decide)) (zl 8 rfl (nz_ [so 1 _,so 2 _,so 5 _,so 6 _,so 8 (D.ptr 2 0)] [_,_,hb_ 27 (qL (((((((l[i]?).getD 0 % 9):Nat):Int):Int):Rat) / ((8:Int):Rat)))] rfl rfl (dr_ 0 [(21,1)] [1] (dz 4 rfl (kq_ rfl (jix i ha rfl) (kq_ rfl (jlr rfl) (dz 4 rfl ?_)))))))
   refine kq_ rfl (jix i hb2 rfl) (kq_ rfl (jlr rfl) (dz 3 rfl (kq_ rfl (jix i ha rfl) (kq_ rfl (jlr rfl) (kc_ fn66 rfl (rqsub (qOf (b)) (b) (qOf_q _) (Br.use (by omega)) (qOf (a)) (a) (qOf_q _) (Br.use (by omega))) ?_)))))
   refine kc_ fn55 rfl (rqmul (qOf (((((((l[i]?).getD 0 % 9):Nat):Int):Int):Rat) / ((8:Int):Rat))) (((((((l[i]?).getD 0 % 9):Nat):Int):Int):Rat) / ((8:Int):Rat)) (qOf_q _) (Br.use (by omega)) (qOf ((b) - (a))) ((b) - (a)) (qOf_q _) (Br.use (by omega))) ?_
   refine kc_ fn54 rfl (rqadd (qOf (a)) (a) (qOf_q _) (Br.use (by omega)) (qOf ((((((((l[i]?).getD 0 % 9):Nat):Int):Int):Rat) / ((8:Int):Rat)) * ((b) - (a)))) ((((((((l[i]?).getD 0 % 9):Nat):Int):Int):Rat) / ((8:Int):Rat)) * ((b) - (a))) (qOf_q _) (Br.use (by omega))) ?_
   refine ke_ rfl (fun _=>Je_buildSlice rfl un34 ty27 tz27 rfl (by decide) (by decide) rfl (by decide) rfl) (ki_ 1 rfl (dap ((a) + ((((((((l[i]?).getD 0 % 9):Nat):Int):Int):Rat) / ((8:Int):Rat)) * ((b) - (a)))) rfl rfl) (dz 1 rfl (DK_nil (za 2 rfl ?_))))
   refine nf_ [2] [so 1 _,so 2 _,so 5 (D.v (V.one (Leaf.own 1 (n2 + 1)))),so 6 _] [_,hgr 27 3 ratE (out ++ [(a) + ((((((((l[i]?).getD 0 % 9):Nat):Int):Int):Rat) / ((8:Int):Rat)) * ((b) - (a)))]) (n2 + 1),none] rfl rfl rfl (zc 2 rfl (tq_ rfl (jad (i + 1) rfl) (zl 2 rfl (trim_ 2 rfl ?_))))
   exact nx_ ⟨i + 1,_,_,rfl,rfl,rfl,hi,by rw [hout,insN_succ];unfold insQ;rw [ha,hb2];rfl⟩ rfl
  ·refine tq_ rfl (ltF rfl) (zl 8 rfl ?_)
   refine eq_ (D.val (.int .i64 ((((l[i]?).getD 0 % 9):Nat):Int))) rfl (by first | (simp only [hz,Option.getD_some];done) | (rw [List.getElem?_eq_none (by omega)];rfl)) ?_
   refine tc_ fn65 rfl (rqfrac ((((l[i]?).getD 0 % 9):Nat):Int) 8 (by omega) (by omega) (by decide) (by decide) (by decide)) (zl 8 rfl (nz_ [so 1 _,so 2 _,so 5 _,so 6 _,so 8 (D.ptr 2 0)] [_,_,hb_ 27 (qL (((((((l[i]?).getD 0 % 9):Nat):Int):Int):Rat) / ((8:Int):Rat)))] rfl rfl (dr_ 0 [(21,1)] [1] (dz 4 rfl (kq_ rfl (jix i ha rfl) (kq_ rfl (jlr rfl) (dz 4 rfl ?_)))))))
   refine kq_ rfl (jix i hb2 rfl) (kq_ rfl (jlr rfl) (dz 3 rfl (kq_ rfl (jix i ha rfl) (kq_ rfl (jlr rfl) (kc_ fn66 rfl (rqsub (qOf (b)) (b) (qOf_q _) (Br.use (by omega)) (qOf (a)) (a) (qOf_q _) (Br.use (by omega))) ?_)))))
   refine kc_ fn55 rfl (rqmul (qOf (((((((l[i]?).getD 0 % 9):Nat):Int):Int):Rat) / ((8:Int):Rat))) (((((((l[i]?).getD 0 % 9):Nat):Int):Int):Rat) / ((8:Int):Rat)) (qOf_q _) (Br.use (by omega)) (qOf ((b) - (a))) ((b) - (a)) (qOf_q _) (Br.use (by omega))) ?_
   refine kc_ fn54 rfl (rqadd (qOf (a)) (a) (qOf_q _) (Br.use (by omega)) (qOf ((((((((l[i]?).getD 0 % 9):Nat):Int):Int):Rat) / ((8:Int):Rat)) * ((b) - (a)))) ((((((((l[i]?).getD 0 % 9):Nat):Int):Int):Rat) / ((8:Int):Rat)) * ((b) - (a))) (qOf_q _) (Br.use (by omega))) ?_
   refine ke_ rfl (fun _=>Je_buildSlice rfl un34 ty27 tz27 rfl (by decide) (by decide) rfl (by decide) rfl) (ki_ 1 rfl (dap ((a) + ((((((((l[i]?).getD 0 % 9):Nat):Int):Int):Rat) / ((8:Int):Rat)) * ((b) - (a)))) rfl rfl) (dz 1 rfl (DK_nil (za 2 rfl ?_))))
   refine nf_ [2] [so 1 _,so 2 _,so 5 (D.v (V.one (Leaf.own 1 (n2 + 1)))),so 6 _] [_,hgr 27 3 ratE (out ++ [(a) + ((((((((l[i]?).getD 0 % 9):Nat):Int):Int):Rat) / ((8:Int):Rat)) * ((b) - (a)))]) (n2 + 1),none] rfl rfl rfl (zc 2 rfl (tq_ rfl (jad (i + 1) rfl) (zl 2 rfl (trim_ 2 rfl ?_))))
   exact nx_ ⟨i + 1,_,_,rfl,rfl,rfl,hi,by rw [hout,insN_succ];unfold insQ;rw [ha,hb2];rfl⟩ rfl
 ·refine tq_ rfl (ltF rfl) (zl 9 rfl ?_)
  have hie:i = r.lo.length:=by omega
  rw [hie] at hout
  refine zc 5 rfl (Tc_viewS 4 (x':=V.one (El.row ratE out)) rfl (RowAt.ofE ratE out rfl (by decide)) (.inr ⟨rfl,rfl⟩) ?_)
  exact r1_ hq_ rfl (by rw [hout])
end Go.Proofs.YtmpkandbccallaaGreatDoor
set_option linter.unusedSimpArgs false
set_option linter.unusedVariables false
namespace Go.Proofs.YtmpkandbccallaaGreatDoor
open Go Go.RowKit Rc
set_option maxRecDepth 10000 in
set_option maxHeartbeats 2000000 in
theorem law_bmember (l:List Nat) (hb:∀ x∈l,x < 256) (l2:List Nat) (hb2:∀ x∈l2,x < 256) (l3:List Nat) (hb3:∀ x∈l3,x < 256):Ctr Tryz.prog 5 [V.one (El.row u8E l),V.one (El.row u8E l2),V.one (El.row u8E l3)] (R.one (V.one (Leaf.val (.bool true)))):=by
 refine bd_ Tryz.func5 Tryz.ntmps5 rfl (fun w0 A0=>?_)
 refine zc 8 rfl (tc_ fn10 rfl (awake24) (zl 10 rfl (tq_ rfl (jln rfl) ?_)))
 by_cases hl3:300 < l.length
 ·refine tq_ rfl (gtT rfl) (zl 18 rfl ?_)
  exact r1_ hq_ rfl rfl
 ·refine tq_ rfl (gtF rfl) (zl 2 rfl (tq_ rfl (jln rfl) ?_))
  by_cases hl40:100 < l2.length
  ·refine tq_ rfl (gtT rfl) (zl 14 rfl ?_)
   exact r1_ hq_ rfl rfl
  ·refine tq_ rfl (gtF rfl) (zl 3 rfl (tq_ rfl (jln rfl) ?_))
   by_cases hl50:40 < l3.length
   ·refine tq_ rfl (gtT rfl) (zl 9 rfl ?_)
    exact r1_ hq_ rfl rfl
   ·refine tq_ rfl (gtF rfl) (zl 7 rfl ?_)
    have hl:l.length≤1000000:=by omega
    obtain ⟨hs,h8⟩:=extM_ok l
    have hg_:=hs.q.g
    have hi1:=hg_.i1;have hi3:=hg_.i3;have hu4:=hg_.u4
    have hF:FOk 3 ((extM l).q.g.inp + (extM l).q.g.us.length) (formq l2 0 ((extM l).q.g.inp + (extM l).q.g.us.length)).1:=formq_fok l2 0 _
    have hr:=hs.q.r;have hrl:=hr.lo
    have hx:InB (extM l).q.r (insN (extM l).q.r l3 (extM l).q.r.lo.length):=insN_in hr l3
    have hxl:(insN (extM l).q.r l3 (extM l).q.r.lo.length).length = (extM l).q.g.inp:=by rw [insN_len];exact hrl
    have hH:=extM_holds l hx
    have hal:(actM (extM l).q.g (insN (extM l).q.r l3 (extM l).q.r.lo.length)).length = (extM l).q.g.inp + (extM l).q.g.us.length:=by unfold actM;rw [actN_len _ (Nat.le_refl _),hxl]
    have hvb:VB 500000 (actM (extM l).q.g (insN (extM l).q.r l3 (extM l).q.r.lo.length)):=(actN_br hg_ hx.bd hxl _ (Nat.le_refl _)).mono (KV_le (by omega))
    haveI hev:=evM_br hF hvb (by omega) (by omega)
    haveI hbq:Br (boxD (extM l) (formq l2 0 ((extM l).q.g.inp + (extM l).q.g.us.length)).1).1 500000:=(boxD_br hs.sb hF.fl).mono (by omega)
    refine nz_ [so 0 (D.v (V.one (El.row u8E l))),so 1 (D.v (V.one (El.row u8E l2))),so 2 (D.v (V.one (El.row u8E l3)))] [] rfl rfl (zc 2 rfl (tc_ fn11 rfl (scope24 l hl hb) (zl 10 rfl (tc_ fn17 rfl (form23 l2 (by omega) (by assumption) (extM l).q.g (by assumption)) (zl 5 rfl ?_)))))
    refine nz_ [so 2 _,so 7 (D.ptr 0 0),so 8 (D.ptr 1 0)] [hb_ 42 (scL (extM l)),hb_ 29 (afL ((formq l2 0 ((extM l).q.g.inp + ((extM l).q.g.us).length)).1))] rfl rfl (zc 5 rfl (tc_ fn22 rfl (inside_r (extM l).q.r hr (by omega) (by omega) l3 hb3 (by omega)) (zl 8 rfl (tc_ fn12 rfl (box_p (extM l) hs.sb (formq l2 0 ((extM l).q.g.inp + (extM l).q.g.us.length)).1 hF (by omega)) ?_))))
    refine zl 12 rfl (nz_ [so 7 _,so 8 _,so 9 (D.v (V.one (El.row ratE (insN (extM l).q.r l3 (extM l).q.r.lo.length)))),so 10 (D.ptr 2 0),so 12 (D.bool ((boxD (extM l) ((formq l2 0 ((extM l).q.g.inp + (extM l).q.g.us.length)).1)).2.2))] [_,_,hb_ 27 (qL ((boxD (extM l) ((formq l2 0 ((extM l).q.g.inp + (extM l).q.g.us.length)).1)).1))] rfl rfl (zc 4 rfl ?_))
    refine two_ rfl (fun hok=>?_) (fun hok=>?_)
    ·refine zl 2 rfl (tc_ fn23 rfl (mem_r (extM l) hs (insN (extM l).q.r l3 (extM l).q.r.lo.length) hx) (zl 4 rfl ?_))
     refine Tc_cond rfl (fun hmem=>?_) (fun hmem=>?_)
     ·refine zc 5 rfl ?_
      exact r1_ hq_ rfl rfl
     ·have hle:=boxD_le hs hx (mem_path (by simpa using hmem)) hH hF.var (by simpa using hok)
      refine zc 3 rfl (nz_ [so 7 _,so 8 _,so 9 _,so 10 _] [_,_,_] rfl rfl (zc 5 rfl (tc_ fn24 rfl (values_r (extM l).q.g hg_ (insN (extM l).q.r l3 (extM l).q.r.lo.length) hx.bd hxl) (zl 8 rfl (nf_ [0] [so 8 _,so 10 _,so 13 (D.v (V.one (El.row ratE (actM (extM l).q.g (insN (extM l).q.r l3 (extM l).q.r.lo.length)))))] [none,_,_] rfl rfl rfl (zc 3 rfl ?_))))))
      refine tc_ fn25 rfl (eval_r (formq l2 0 ((extM l).q.g.inp + (extM l).q.g.us.length)).1 hF (actM (extM l).q.g (insN (extM l).q.r l3 (extM l).q.r.lo.length)) hvb (by omega) (by omega) (by omega)) (zl 9 rfl ?_)
      refine nf_ [1] [so 10 _,so 15 (D.ptr 3 0)] [none,none,_,hb_ 27 (qL (evM (formq l2 0 ((extM l).q.g.inp + (extM l).q.g.us.length)).1 (actM (extM l).q.g (insN (extM l).q.r l3 (extM l).q.r.lo.length))))] rfl rfl rfl (zc 3 rfl ?_)
      refine tc_ fn26 rfl (rqcmp (qOf ((evM (formq l2 0 ((extM l).q.g.inp + (extM l).q.g.us.length)).1 (actM (extM l).q.g (insN (extM l).q.r l3 (extM l).q.r.lo.length))))) ((evM (formq l2 0 ((extM l).q.g.inp + (extM l).q.g.us.length)).1 (actM (extM l).q.g (insN (extM l).q.r l3 (extM l).q.r.lo.length)))) (qOf_q _) (Br.use (by omega)) (qOf ((boxD (extM l) ((formq l2 0 ((extM l).q.g.inp + (extM l).q.g.us.length)).1)).1)) ((boxD (extM l) ((formq l2 0 ((extM l).q.g.inp + (extM l).q.g.us.length)).1)).1) (qOf_q _) (Br.use (by omega))) ?_
      refine tq_ rfl (geT rfl (by have:=cmpq_ge.2 hle;omega)) (zl 3 rfl ?_)
      exact r1_ hq_ rfl rfl
    ·refine zl 13 rfl ?_
     exact r1_ hq_ rfl rfl
end Go.Proofs.YtmpkandbccallaaGreatDoor
namespace Rc
open Go Go.RowKit Go.ChangeShapes Go.WideShapes
def fldL (P:Program) (t:Nat):Option (List (Nat × Nat)):=
 match P.underlying t with
 | some (.struct fs)=>some (fs.toList.map fun f=>(f.offset,f.type))
 | _=>none
theorem fldL_spec {P:Program} {t:Nat} {l:List (Nat × Nat)} (h:fldL P t = some l):∃ fs,P.underlying t = some (.struct fs)∧fs.toList.map (fun f=>(f.offset,f.type)) = l:=by
 unfold fldL at h
 cases hu:P.underlying t with
 | none=>rw [hu] at h;simp at h
 | some d=>
  rw [hu] at h
  cases d <;> simp only [reduceCtorEq] at h
  exact ⟨_,rfl,by simpa using h⟩
section
variable {H:Type} {enc:TypeId × Value→H} {P:Program} {w:World} {base:Nat} {held:Bool}
@[reducible] def here (w:World):Foot:=Foot.of fun k _=>k < w.heap.size
theorem rd_fields {t:Nat} {l:List (Nat × Nat)} {cs:List Value} {fuel:Nat} {x:DataW H × List MemPlace} {spare:Nat→Bool} (hf:fldL P t = some l) (h:DataW.trod enc P w base spare held fuel t cs = some x) :
  cs.length = P.cellsOf t∧∃ n,∀ (i off ty:Nat),l[i]? = some (off,ty)→∃ y,DataW.trod enc P w base spare held n ty ((cs.drop off).take (P.cellsOf ty)) = some y:=by
 obtain ⟨fs,hu,hl⟩:=fldL_spec hf
 obtain ⟨xs,n,_,_,hlen,hxs,hall⟩:=DataW.trod_struct hu h
 refine ⟨hlen,n,fun i off ty hi=>?_⟩
 rw [← hl,List.getElem?_map] at hi
 cases hfi:fs.toList[i]? with
 | none=>rw [hfi] at hi;simp at hi
 | some f=>
  rw [hfi] at hi
  simp only [Option.map_some,Option.some.injEq,Prod.mk.injEq] at hi
  obtain ⟨rfl,rfl⟩:=hi
  have hfi':fs[i]? = some f:=by simpa using hfi
  have:=hall i f hfi'
  have hlt:i < xs.length:=by rw [hxs];exact (Array.getElem?_eq_some_iff.1 hfi').1
  exact ⟨xs[i],by rw [this,List.getElem?_eq_getElem hlt]⟩
theorem rd_bool {t:Nat} {cs:List Value} {fuel:Nat} {x:DataW H × List MemPlace} {spare:Nat→Bool} (ht:P.underlying t = some .bool) (h:DataW.trod enc P w base spare held fuel t cs = some x):∃ b,cs = [.bool b]:=by
 cases fuel with
 | zero=>simp [DataW.trod] at h
 | succ n=>
  unfold DataW.trod at h
  rw [ht] at h
  split at h <;> simp_all
theorem rd_int {t:Nat} {k:IntKind} {cs:List Value} {fuel:Nat} {x:DataW H × List MemPlace} {spare:Nat→Bool} (ht:P.underlying t = some (.int k)) (h:DataW.trod enc P w base spare held fuel t cs = some x) :
  ∃ n,cs = [.int k n]∧(Lit.int k n).wf = true:=by
 obtain ⟨n,rfl,_,hw⟩:=DataW.trod_int ht h
 exact ⟨n,rfl,hw⟩
theorem wf_u32 {n:Int} (h:(Lit.int .u32 n).wf = true):0≤n∧n≤4294967295:=by
 simp [Lit.wf,IntKind.min,IntKind.max,IntKind.bits,IntKind.signed] at h
 omega
theorem wf_u8 {n:Int} (h:(Lit.int .u8 n).wf = true):0≤n∧n≤255:=by
 simp [Lit.wf,IntKind.min,IntKind.max,IntKind.bits,IntKind.signed] at h
 omega
theorem cell_lt {a:Addr} {v:Value} (h:w.cell? a = some v):a.block < w.heap.size:=by
 unfold World.cell? at h
 cases hb:w.heap[a.block]? with
 | none=>rw [hb] at h;simp at h
 | some o=>exact (Array.getElem?_eq_some_iff.1 hb).1
theorem rd_nat {t u:Nat} {cs:List Value} {fuel:Nat} {x:DataW H × List MemPlace} (ht:P.underlying t = some (.slice u)) (hu:P.underlying u = some (.int .u32)) (hc:P.cellsOf u = 1)
  (h:DataW.trod enc P w base (fun _=>true) held fuel t cs = some x):∃ c l,cs = [c]∧Small l∧(natL l).den (here w) c w:=by
 rcases open_ints ht hu hc h with ⟨rfl,_⟩ | ⟨a,len,cap,zs,rfl,_,hl,hm,hz,_,hcell,hwf⟩
 ·exact ⟨_,[],rfl,Small.nil,nil_slice _ _⟩
 ·simp only [if_true] at hz
  refine ⟨_,(zs.take len).map Int.toNat,rfl,?_,?_⟩
  ·intro y hy
   obtain ⟨n,hn,rfl⟩:=List.mem_map.1 hy
   have:=wf_u32 (hwf n (List.mem_of_mem_take hn))
   omega
  ·have hlen:((zs.take len).map Int.toNat).length = len:=by simp;omega
   show (sliceRep ((zs.take len).map Int.toNat).length _).P _ _ _
   rw [hlen]
   refine ⟨some a,cap,rfl,hl,hm,fun h=>by simp at h,fun ad had=>?_⟩
   cases had
   refine ⟨fun h0=>?_,fun i lf hi=>?_⟩
   ·obtain ⟨b,off,rfl,_⟩:=ints_at hcell (by omega)
    rfl
   ·rw [List.getElem?_map,List.getElem?_map,List.getElem?_take] at hi
    split at hi
    ·rename_i hil
     have hiz:i < zs.length:=by omega
     obtain ⟨b,off,rfl,hc2⟩:=ints_at hcell (by omega)
     have hci:=hc2 i hiz
     rw [List.getElem?_eq_getElem hiz] at hi
     simp only [Option.map_some,Option.some.injEq] at hi
     subst hi
     have hw:=wf_u32 (hwf zs[i] (List.getElem_mem hiz))
     have hlt:b < w.heap.size:=cell_lt hci
     refine ⟨hlt,_,hci,?_,rfl⟩
     rw [List.getD_eq_getElem?_getD,List.getElem?_eq_getElem hiz]
     simp only [Option.getD_some]
     congr 1
     omega
    ·simp at hi
structure NumTy (P:Program) (tb tn tu tr:Nat):Prop where
 b:P.underlying tb = some .bool
 u:P.underlying tu = some (.int .u32)
 n:P.underlying tn = some (.slice tu)
 cb:P.cellsOf tb = 1
 cu:P.cellsOf tu = 1
 cn:P.cellsOf tn = 1
 r:fldL P tr = some [(0,tb),(1,tn),(2,tn)]
 cr:P.cellsOf tr = 3
variable {tb tn tu tr:Nat}
theorem rd_rat (hT:NumTy P tb tn tu tr) {cs:List Value} {fuel:Nat} {x:DataW H × List MemPlace} (h:DataW.trod enc P w base (fun _=>true) held fuel tr cs = some x) :
  ∃ q:Qr,denL (here w) (qV q).leaves cs w:=by
 obtain ⟨hlen,n,hall⟩:=rd_fields hT.r h
 rw [hT.cr] at hlen
 match cs,hlen with
 | [c0,c1,c2],_=>
  obtain ⟨y0,h0⟩:=hall 0 _ _ rfl
  obtain ⟨y1,h1⟩:=hall 1 _ _ rfl
  obtain ⟨y2,h2⟩:=hall 2 _ _ rfl
  rw [hT.cb] at h0
  rw [hT.cn] at h1 h2
  obtain ⟨b,e0⟩:=rd_bool hT.b h0
  obtain ⟨k1,l1,e1,s1,d1⟩:=rd_nat hT.n hT.u hT.cu h1
  obtain ⟨k2,l2,e2,s2,d2⟩:=rd_nat hT.n hT.u hT.cu h2
  simp at e0 e1 e2
  subst e0;subst e1;subst e2
  exact ⟨⟨b,l1,l2,s1,s2⟩,⟨rfl,rfl⟩,d1,d2,trivial⟩
end
theorem law_calls {P:Program} {f:Nat} {xs:List V} {w:World} {vs:List Value} (h:Ctr P f xs (R.one (V.one (Leaf.val (.bool true))))) (hg:Glob w) (hd:denVs (here w) xs vs w) :
  Calls P f vs.toArray w fun e w'=>e = .returned (.bool true)∧Below w.heap.size w w':=by
 refine Calls.mono (h w vs (fun k _=>k < w.heap.size) hg (fun _ _ hk=>hk) hd) ?_
 rintro e w' ⟨v,rfl,hv,hb⟩
 obtain ⟨rfl,_⟩:v = .bool true∧_:=hv
 exact ⟨rfl,hb⟩
end Rc
set_option linter.unusedSimpArgs false
set_option linter.unusedVariables false
namespace Go.Proofs.YtmpkandbccallaaGreatDoor
open Go Go.RowKit Rc
theorem own:ownKnob Tryz.prog.godebug = none:=by kernel_rfl
theorem laidOut:laidOutB Tryz.prog = true:=by kernel_rfl
theorem numTy:NumTy Tryz.prog 4 25 164 27:=⟨by kernel_rfl,by kernel_rfl,by kernel_rfl,by kernel_rfl,by kernel_rfl,by kernel_rfl,by kernel_rfl,by kernel_rfl⟩
end Go.Proofs.YtmpkandbccallaaGreatDoor
namespace Rc
open Go Go.RowKit Go.ChangeShapes Go.WideShapes
theorem u8_all:∀ l:List Nat,u8E.all l = l.map fun (x:Nat)=>Leaf.val (.int .u8 (x:Int))
 | []=>rfl
 | x :: l=>by show u8E.f x ++ u8E.all l = _;rw [u8_all l];rfl
section
variable {H:Type} {enc:TypeId × Value→H} {P:Program} {w:World} {base:Nat} {held:Bool}
theorem rdv_bytes {t u:Nat} (ht:P.underlying t = some (.slice u)) (hu:P.underlying u = some (.int .u8)) (hc:P.cellsOf u = 1) {r:Reach} {b0:Nat} {v:Value} {d:DataW H} {p:List MemPlace} (hv:Value.okWide P w r b0 t v)
  (h:DataW.Trod enc P w base (fun _=>true) held t v d p):∃ l:List Nat,l.length≤maxLen∧(∀ x∈l,x < 256)∧(V.one (u8E.row l)).den (here w) v w:=by
 obtain ⟨a0,len0,cap0,rfl⟩:=okWide_slice ht hv
 obtain ⟨fuel,hf⟩:=h
 rcases open_ints ht hu hc hf with ⟨hcs,_⟩ | ⟨a,len,cap,zs,hcs,_,hl,hm,hz,_,hcell,hwf⟩
 ·simp [Value.cells] at hcs
  obtain ⟨rfl,rfl,rfl⟩:=hcs
  exact ⟨[],Nat.zero_le _,fun x hx=>by simp at hx,nil_slice _ _⟩
 ·simp [Value.cells] at hcs
  obtain ⟨rfl,rfl,rfl⟩:=hcs
  simp only [if_true] at hz
  have hlen:((zs.take len0).map Int.toNat).length = len0:=by simp;omega
  refine ⟨(zs.take len0).map Int.toNat,by rw [hlen];omega,?_,?_⟩
  ·intro y hy
   obtain ⟨n,hn,rfl⟩:=List.mem_map.1 hy
   have:=wf_u8 (hwf n (List.mem_of_mem_take hn))
   omega
  ·show (sliceRep ((zs.take len0).map Int.toNat).length _).P _ _ _
   rw [hlen,u8_all]
   refine ⟨some a,cap0,rfl,hl,hm,fun h=>by simp at h,fun ad had=>?_⟩
   cases had
   refine ⟨fun h0=>?_,fun i lf hi=>?_⟩
   ·obtain ⟨b,off,rfl,_⟩:=ints_at hcell (by first | omega | (simp at h0;omega))
    rfl
   ·rw [List.getElem?_map,List.getElem?_map,List.getElem?_take] at hi
    split at hi
    ·rename_i hil
     have hiz:i < zs.length:=by omega
     obtain ⟨b,off,rfl,hc2⟩:=ints_at hcell (by omega)
     have hci:=hc2 i hiz
     rw [List.getElem?_eq_getElem hiz] at hi
     simp only [Option.map_some,Option.some.injEq] at hi
     subst hi
     have hw:=wf_u8 (hwf zs[i] (List.getElem_mem hiz))
     have hlt:b < w.heap.size:=cell_lt hci
     refine ⟨hlt,_,hci,?_,rfl⟩
     rw [List.getD_eq_getElem?_getD,List.getElem?_eq_getElem hiz]
     simp only [Option.getD_some]
     congr 1
     omega
    ·simp at hi
variable {tb tn tu tr:Nat}
end
end Rc
set_option linter.unusedSimpArgs false
set_option linter.unusedVariables false
namespace Go.Proofs.YtmpkandbccallaaGreatDoor
open Go Go.RowKit Rc
theorem undBs:Tryz.prog.underlying 22 = some (.slice 5):=by kernel_rfl
theorem undU8:Tryz.prog.underlying 5 = some (.int .u8):=by kernel_rfl
theorem cellsU8:Tryz.prog.cellsOf 5 = 1:=by kernel_rfl
end Go.Proofs.YtmpkandbccallaaGreatDoor
set_option linter.unusedSimpArgs false
set_option linter.unusedVariables false
namespace Go.Proofs.YtmpkandbccallaaGreatDoor
open Go Go.RowKit Rc
theorem gTab : Tryz.prog.globalNamed "math/bits.deBruijn32tab" = some 0:=by kernel_rfl
theorem tTab:(Tryz.prog.globals[0]?).map (·.type) = some 238:=by kernel_rfl
theorem uTab:Tryz.prog.underlying 238 = some (.array 32 5):=by kernel_rfl
theorem uEl:Tryz.prog.underlying 5 = some (.int .u8):=by kernel_rfl
theorem cEl:Tryz.prog.cellsOf 5 = 1:=by kernel_rfl
theorem cTab:Tryz.prog.cellsOf 238 = 32:=by kernel_rfl
theorem undI:Tryz.prog.underlying 3 = some (.int .i64):=by kernel_rfl
theorem cellsI64:Tryz.prog.cellsOf 3 = 1:=by kernel_rfl
open Go.ChangeShapes Go.WideShapes
@[reducible] def laidL:List (String × DataW Unit):=[("math/bits.deBruijn32tab",Rows.laid_math_bits_deBruijn32tab)]
theorem door_met (os:Os) (args:Array Value):laidMetH Tryz.prog laidL ((World.doorLaid Tryz.prog 400 os).forCall (fun _ _=>0) ⟨#[],args,[]⟩).memory:=
 laidMetH_of_parts3 (fuel:=8) (laidMet_of_run' 8 (by kernel_rfl) (by kernel_rfl)) (by kernel_rfl) (by kernel_rfl)
theorem tab_data:(Rows.laid_math_bits_deBruijn32tab:DataW Unit) = .agg (bruijn.map fun n:Nat=>.lit (.int .u8 (n:Int))):=by kernel_rfl
theorem glob_of_laid {W:World} (h:laidMetH Tryz.prog laidL W):Glob W:=by
 rw [MakeChecks.laidMetH_plain _ _ _ (by kernel_rfl)] at h
 obtain ⟨ps,⟨g0,t0,cs0,f0,p0,q0,hg0,ht0,hv0,hd0,_,_⟩,_⟩:=h
 obtain rfl:=Option.some.inj (gTab.symm.trans hg0)
 obtain rfl:=Option.some.inj (tTab.symm.trans ht0)
 obtain ⟨xs,m,_,hx,hlen,hxs,hel⟩:=DataW.trod_array uTab hd0
 rw [tab_data] at hx
 have hd:=congrArg Prod.fst hx
 simp only [DataW.agg.injEq] at hd
 rw [cTab] at hlen
 have key:∀ (i:Nat) (k:Nat),bruijn[i]? = some k→cs0[i]? = some (.int .u8 (k:Int)):=by
  intro i k hk
  have hi:i < 32:=(List.getElem?_eq_some_iff.1 hk).1
  have h1:=hel i hi
  rw [List.getElem?_eq_getElem (by omega)] at h1
  obtain ⟨n,hc,hxn,_⟩:=DataW.trod_int uEl h1
  have h2:=congrArg (fun l=>l[i]?) hd
  simp only [List.getElem?_map,hk,List.getElem?_eq_getElem (show i < xs.length by omega),Option.map_some,hxn] at h2
  have h3:n = (k:Int):=by
   have:=Option.some.inj h2
   simp only [DataW.lit.injEq,Lit.int.injEq,true_and] at this
   exact this.symm
  subst h3
  rw [cEl,Nat.mul_one] at hc
  have h4:=congrArg (fun l=>l[0]?) hc
  simp only [List.getElem?_take,List.getElem?_drop,Nat.add_zero,Nat.zero_lt_one,if_true,List.getElem?_cons_zero] at h4
  rw [← Array.getElem?_toList]
  exact h4
 intro p hp
 have hp':p = (0,bruijn.map fun n:Nat=>Value.int .u8 (n:Int)):=by simpa [tab,bruijn] using hp
 subst hp'
 have hcell:=fun i:Nat=>World.var?_cell hg0 hv0 i
 refine ⟨?_,fun i v hv=>?_⟩
 ·have h0:=hcell 0
  rw [key 0 0 rfl] at h0
  unfold World.cell? at h0
  cases hh:W.heap[0]? with
  | none=>simp [hh] at h0
  | some o=>exact (Array.getElem?_eq_some_iff.1 hh).1
 ·simp only [List.getElem?_map] at hv
  cases hk:bruijn[i]? with
  | none=>rw [hk] at hv;simp at hv
  | some k=>
   rw [hk] at hv
   simp only [Option.map_some,Option.some.injEq] at hv
   rw [hcell i,key i k hk,hv]
end Go.Proofs.YtmpkandbccallaaGreatDoor
set_option linter.unusedSimpArgs false
set_option linter.unusedVariables false
namespace Rc
open Go Go.RowKit
def ivE:El (Rat × Rat):=⟨fun p=>[Leaf.val (.bool (cneg p.1)),natL (limbs (cnum p.1)),natL (limbs (cden p.1)),Leaf.val (.bool (cneg p.2)),natL (limbs (cnum p.2)),natL (limbs (cden p.2))],6,fun _=>rfl,fun _=>rfl⟩
def rngS (bx:List (Rat × Rat)) (a:Rat × Rat) (t:Tm):Rat × Rat:=match bx[t.1]? with | some p=>(a.1 + mn (t.2 * p.1) (t.2 * p.2),a.2 + mx (t.2 * p.1) (t.2 * p.2)) | none=>a
def rngN (bx:List (Rat × Rat)) (f:Af) (n:Nat):Rat × Rat:=(f.ts.take n).foldl (rngS bx) (f.c,f.c)
theorem rngN_succ {bx:List (Rat × Rat)} {f:Af} {n:Nat} {t:Tm} {p:Rat × Rat} (h:f.ts[n]? = some t) (hp:bx[t.1]? = some p) :
  rngN bx f (n + 1) = ((rngN bx f n).1 + mn (t.2 * p.1) (t.2 * p.2),(rngN bx f n).2 + mx (t.2 * p.1) (t.2 * p.2)):=by
 unfold rngN;rw [take_snoc h,List.foldl_append]
 show rngS bx _ t = _
 unfold rngS;rw [hp]
theorem rngN_br {bx:List (Rat × Rat)} {f:Af} {m:Nat} (hf:FOk 3 m f) (hm:m≤bx.length) (hb:∀ p∈bx,Br p.1 10∧Br p.2 10):∀ n,n≤f.ts.length→Br (rngN bx f n).1 (10 + n * 60)∧Br (rngN bx f n).2 (10 + n * 60)
 | 0,_=>⟨hf.cb.br.mono (by omega),hf.cb.br.mono (by omega)⟩
 | n + 1,hn=>by
  obtain ⟨t,ht⟩:∃ t,f.ts[n]? = some t:=⟨_,List.getElem?_eq_getElem (by omega)⟩
  have htm:=List.mem_of_getElem? ht
  have htv:=hf.var t htm
  obtain ⟨p,hp⟩:∃ p,bx[t.1]? = some p:=⟨_,List.getElem?_eq_getElem (by omega)⟩
  obtain ⟨i1,i2⟩:=rngN_br hf hm hb n (by omega)
  obtain ⟨b1,b2⟩:=hb p (List.mem_of_getElem? hp)
  haveI:=i1;haveI:=i2;haveI:=b1;haveI:=b2;haveI:=(hf.bd t htm).br
  rw [rngN_succ ht hp]
  exact ⟨(inferInstance:Br ((rngN bx f n).1 + mn (t.2 * p.1) (t.2 * p.2)) _).mono (by omega),(inferInstance:Br ((rngN bx f n).2 + mx (t.2 * p.1) (t.2 * p.2)) _).mono (by omega)⟩
theorem zip_get {α β:Type} {a:List α} {b:List β} {i:Nat} {x:α} {y:β} (h1:a[i]? = some x) (h2:b[i]? = some y):(a.zip b)[i]? = some (x,y):=by
 rw [List.getElem?_zip_eq_some];exact ⟨h1,h2⟩
theorem mn_iv {c a b:Rat} (h:a≤b):mn (c * a) (c * b) = c * (if c < 0 then b else a):=by
 by_cases hc:c < 0
 ·rw [if_pos hc]
  have:0≤(-c) * (b - a):=Rat.mul_nonneg (by grind) (by grind)
  unfold mn;split <;> grind
 ·rw [if_neg hc]
  have:0≤c * (b - a):=Rat.mul_nonneg (by grind) (by grind)
  unfold mn;split <;> grind
def ivM (r:Rg):List (Rat × Rat):=r.lo.zip r.hi
theorem ivM_len {n:Nat} {r:Rg} (hr:ROk n r):(ivM r).length = n:=by unfold ivM;rw [List.length_zip,hr.lo,hr.hi];exact Nat.min_self n
theorem ivM_br {n:Nat} {r:Rg} (hr:ROk n r):∀ p∈ivM r,Br p.1 10∧Br p.2 10:=fun p hp=>by
 obtain ⟨i,hi⟩:=mem_get hp
 have hi:(r.lo.zip r.hi)[i]? = some p:=hi
 obtain ⟨x,y⟩:=p
 rw [List.getElem?_zip_eq_some] at hi
 obtain ⟨b1,b2,_⟩:=hr.bd i x y hi.1 hi.2
 exact ⟨b1.br.mono (by omega),b2.br.mono (by omega)⟩
theorem inpM_nil {s:Sc} (hp:s.path = []) {i:Nat} {up:Bool}:inpM s i up = inp0 s i up:=by unfold inpM;rw [hp];rfl
theorem boxN_rng {B:Nat} {s:Sc} (hs:SB B s) (hp:s.path = []) {f:Af} (hv:∀ t∈f.ts,t.1 < s.q.g.inp):∀ n,n≤f.ts.length→∃ l,boxN s f n = some ((rngN (ivM s.q.r) f n).1,l)
 | 0,_=>⟨[],rfl⟩
 | n + 1,hn=>by
  obtain ⟨t,ht⟩:∃ t,f.ts[n]? = some t:=⟨_,List.getElem?_eq_getElem (by omega)⟩
  have htv:=hv t (List.mem_of_getElem? ht)
  obtain ⟨l,h1⟩:=boxN_rng hs hp hv n (by omega)
  have hlo:=hs.q.r.lo;have hhi:=hs.q.r.hi
  obtain ⟨a,ha⟩:∃ a,s.q.r.lo[t.1]? = some a:=⟨_,List.getElem?_eq_getElem (by omega)⟩
  obtain ⟨b,hb⟩:∃ a,s.q.r.hi[t.1]? = some a:=⟨_,List.getElem?_eq_getElem (by omega)⟩
  obtain ⟨_,_,hab⟩:=hs.q.r.bd t.1 a b ha hb
  rw [boxN_succ ht,h1,rngN_succ ht (show (ivM s.q.r)[t.1]? = some (a,b) from zip_get ha hb),mn_iv hab]
  unfold boxT bndM
  simp only
  rw [if_pos htv]
  refine ⟨mergeM l (one1 (inpM s t.1 (decide (t.2 < 0))).2) (rq false (cnum t.2) (cden t.2)),?_⟩
  refine congrArg some (Prod.ext ?_ rfl)
  dsimp only
  rw [qOf_q,inpM_nil hp]
  unfold inp0
  by_cases hc:t.2 < 0
  ·rw [decide_eq_true hc,if_pos rfl,hb,if_pos hc];rfl
  ·rw [decide_eq_false hc,if_neg (by decide),ha,if_neg hc];rfl
theorem boxD_rng {B:Nat} {s:Sc} (hs:SB B s) (hp:s.path = []) {f:Af} (hv:∀ t∈f.ts,t.1 < s.q.g.inp):(boxD s f).1 = (rngN (ivM s.q.r) f f.ts.length).1∧(boxD s f).2.2 = true:=by
 obtain ⟨l,h⟩:=boxN_rng hs hp hv f.ts.length (Nat.le_refl _)
 rw [boxD_some (show boxO s f = _ from h)]
 exact ⟨rfl,rfl⟩
def nvM (inp:Nat) (us os:List Af):Nat:=if ∀ f∈os,∀ t∈f.ts,t.1 < inp + us.length then inp + us.length else 0
theorem nvM_le {inp:Nat} {us os:List Af}:nvM inp us os≤inp + us.length:=by unfold nvM;split <;> omega
structure Dr where
 k:Int
 j:Int
 q:Qr
def drE:El Dr:=⟨fun d=>[Leaf.val (.int .i64 d.k),Leaf.val (.int .i64 d.j),Leaf.val (.bool d.q.neg),natL d.q.n,natL d.q.d],5,fun _=>rfl,fun _=>rfl⟩
theorem fit10' {a:Qr} (h1:a.n.length≤4) (h2:a.d.length≤4):Fit 10 a:=⟨by omega,by omega⟩
theorem sok_path {s:Sc} (hs:SOk s) (h4:s.path.length≤4) {e:List Dc} (he:∀ d∈e,DOk 200 s.q d) (hl:e.length≤6):SOk ⟨s.q,s.path ++ e,s.lems⟩:=by
 refine ⟨hs.q,fun d hd=>?_,?_,hs.l,hs.ll⟩
 ·rcases List.mem_append.1 hd with h | h
  ·exact hs.d d h
  ·exact he d h
 ·show (s.path ++ e).length≤100
  rw [List.length_append];omega
theorem run_moreS {s:Sc} {e:List Dc} (bits:Int):∃ r,runM boxD ⟨s.q,s.path ++ e,s.lems⟩ bits = moreS s e r:=by
 obtain ⟨r,hr⟩:=runM_app boxD ⟨s.q,s.path ++ e,s.lems⟩ bits
 refine ⟨r,?_⟩
 have h:runM boxD ⟨s.q,s.path ++ e,s.lems⟩ bits = ⟨s.q,s.path ++ e,(runM boxD ⟨s.q,s.path ++ e,s.lems⟩ bits).lems⟩:=rfl
 rw [h,hr]
theorem memD_snoc {q:Qu} {e:List Dc} {d:Dc} (h:∀ x∈e,DOk 200 q x) (hd:DOk 200 q d):∀ x∈e ++ [d],DOk 200 q x:=fun x hx=>by
 rcases List.mem_append.1 hx with h1 | h1
 ·exact h x h1
 ·rw [List.mem_singleton] at h1;subst h1;exact hd
end Rc
set_option linter.unusedSimpArgs false
set_option linter.unusedVariables false
namespace Go.Proofs.YtmpkandbccallaaGreatDoor
open Go Go.RowKit Rc
set_option maxRecDepth 10000 in
theorem gvalid_n (inp:Nat) (us os:List Af) (hu:us.length = 0) (h1:1≤inp) (h3:inp≤3) (ho1:1≤os.length) (ho3:os.length≤3) {n:Nat} (ho:∀ f∈os,FOk 3 n f) (hn:n≤7):Ctr Tryz.prog 69 [V.agg [Leaf.val (.int .i64 (inp:Int)),El.row afE us,El.row afE os]] (R.one (V.one (Leaf.val (.bool (decide (∀ f∈os,∀ t∈f.ts,t.1 < inp + us.length)))))):=by
 refine bd_ Tryz.func69 Tryz.ntmps69 rfl (fun w0 A0=>?_)
 refine zc 11 rfl (tq_ rfl (ltF rfl) (zl 3 rfl (tq_ rfl (gtF rfl) (zl 4 rfl (tq_ rfl (jln rfl) (tq_ rfl (gtF rfl) (zl 4 rfl (tq_ rfl (jln rfl) (tq_ rfl (ltF rfl) ?_)))))))))
 refine zl 4 rfl (tq_ rfl (jln rfl) (tq_ rfl (gtF rfl) (zl 13 rfl (Tc_unroll 1 (rn_ (zc 6 rfl (tq_ rfl (jln rfl) (tq_ rfl (ltF rfl) (zl 16 rfl ?_)))))))))
 refine tq_ rfl (jln rfl) (tq_ rfl (jad (inp + us.length) rfl) (tc_ fn128 rfl (rvalidall os (inp + us.length) (B:=4) (n:=n) (fun f hf=>⟨(ho f hf).fm (by omega),(ho f hf).br⟩) (by omega) (by omega) (by omega) (by omega)) (zl 3 rfl ?_)))
 exact r1_ hq_ rfl rfl
set_option maxRecDepth 10000 in
theorem vars_n (inp:Nat) (us os:List Af) (hu:us.length = 0) (h1:1≤inp) (h3:inp≤3) (ho1:1≤os.length) (ho3:os.length≤3) {n:Nat} (ho:∀ f∈os,FOk 3 n f) (hn:n≤7):Ctr Tryz.prog 52 [V.agg [Leaf.val (.int .i64 (inp:Int)),El.row afE us,El.row afE os]] (R.one (V.one (Leaf.val (.int .i64 (((nvM inp us os:Nat):Int)))))):=by
 refine bd_ Tryz.func52 Tryz.ntmps52 rfl (fun w0 A0=>?_)
 refine zc 10 rfl (tc_ fn69 rfl (gvalid_n inp us os hu h1 h3 ho1 ho3 ho hn) (zl 3 rfl ?_))
 refine Tc_cond rfl (fun hv=>?_) (fun hv=>?_)
 ·refine zc 5 rfl ?_
  exact r1_ hq_ rfl (by unfold nvM;rw [if_neg (by simpa using hv)] <;> rfl)
 ·refine zc 8 rfl (tq_ rfl (jln rfl) (tq_ rfl (jad (inp + us.length) rfl) (zl 3 rfl ?_)))
  exact r1_ hq_ rfl (by unfold nvM;rw [if_pos (by simpa using hv)])
set_option maxRecDepth 10000 in
theorem form_n (l:List Nat) (hl:l.length≤1000000) (hb:∀ x∈l,x < 256) (inp:Nat) (us os:List Af) (hu:us.length = 0) (h1:1≤inp) (h3:inp≤3) (ho1:1≤os.length) (ho3:os.length≤3) {n:Nat} (ho:∀ f∈os,FOk 3 n f) (hn:n≤7):Ctr Tryz.prog 17 [V.one (El.row u8E l),V.agg [Leaf.val (.int .i64 (inp:Int)),El.row afE us,El.row afE os]] (R.one (afV (formq l 0 (nvM inp us os)).1)):=by
 refine bd_ Tryz.func17 Tryz.ntmps17 rfl (fun w0 A0=>?_)
 have hk0:0≤l.length:=Nat.zero_le _
 have hnv:=nvM_le (inp:=inp) (us:=us) (os:=os)
 refine zc 9 rfl ?_
 refine Tl_inline rfl rfl Tryz.func59 rfl rfl Tryz.ntmps59 (Nat.le_of_ble_eq_true rfl) rfl (fun a1 d1 s1=>?_)
 refine qc_ (zc 7 rfl (te_ rfl (Je_build0F rfl un22 ty5 _) (zl 1 rfl ?_)))
 obtain ⟨ti2,hi2,hz2,hs2,hb2⟩:=in5
 refine te_ rfl (Je_append0F u8E l rfl rfl rfl (by decide) un22 un22 hi2 hz2 hs2 rfl (by simp only [maxLen];omega) (by rw [hb2];omega) (H2:=_)) (zl 5 rfl (Tc_retI1 [(3,some (D.ptr 0 0)),(4,some (D.ptr 1 0))] (fun _ _ h=>h) d1 s1 rfl rfl rfl ⟨rfl,rfl,trivial⟩ (zl 7 rfl (tc_ fn52 rfl (vars_n inp us os hu h1 h3 ho1 ho3 ho hn) ?_))))
 refine te_ rfl (Je_call_ptr rfl fn60 rfl rfl rfl rfl (form_spec l 0 (nvM inp us os) (by omega) hl (by assumption) hb)) (zl 3 rfl ?_)
 exact r1_ hq_ rfl rfl
set_option maxRecDepth 10000 in
theorem ivals_r (r:Rg) {n:Nat} (hr:ROk n r) (hn1:1≤n) (hn3:n≤3):Ctr Tryz.prog 29 [rgV r] (R.one (V.one (El.row ivE (ivM r)))):=by
 refine bd_ Tryz.func29 Tryz.ntmps29 rfl (fun w0 A0=>?_)
 have h1:=hr.lo;have h2:=hr.hi;have h3:=hr.r2
 refine zc 10 rfl (tc_ fn73 rfl (own_r r hr hn1 hn3) (zl 8 rfl (tq_ rfl (Jq_assign rfl (rfl)) (zl 4 rfl (Tc_growS 3 72 6 rfl rfl (zc 5 rfl ?_))))))
 refine lpR_ (fun m Γ H=>∃ (i:Nat) (n2:Nat) (out:List (Rat × Rat)),r.lo.length - i = m∧Γ = [(1,some (D.ptr 0 0)),(3,some (D.v (V.one (Leaf.own 1 n2)))),(4,some (D.val (.int .i64 ((i:Nat):Int))))]∧H = [hb_ 36 [El.row ratE r.lo,El.row ratE r.hi,El.row afE r.rows],hgr 72 6 ivE out n2]∧i≤r.lo.length∧out = (ivM r).take i) ⟨0,0,[],rfl,rfl,rfl,Nat.zero_le _,rfl⟩ rfl ?_
 rintro m Γ H ⟨i,n2,out,rfl,rfl,rfl,hi0,hout⟩
 refine zc 6 rfl (tq_ rfl (jln rfl) ?_)
 by_cases hi:i < r.lo.length
 ·refine tq_ rfl (ltT rfl) (zl 7 rfl ?_)
  obtain ⟨a,ha⟩:∃ a,r.lo[i]? = some a:=⟨_,List.getElem?_eq_getElem hi⟩
  obtain ⟨b,hb⟩:∃ b,r.hi[i]? = some b:=⟨_,List.getElem?_eq_getElem (by omega)⟩
  have hol:out.length≤3:=by rw [hout,List.length_take];omega
  refine nz_ [so 1 (D.ptr 0 0),so 3 (D.v (V.one (Leaf.own 1 n2))),so 4 (D.val (.int .i64 ((i:Nat):Int)))] [hb_ 36 [El.row ratE r.lo,El.row ratE r.hi,El.row afE r.rows],hgr 72 6 ivE out n2] rfl rfl (dr_ 0 [(13,1)] [1] (dz 4 rfl (kq_ rfl (jix i ha rfl) (kq_ rfl (jlr rfl) (dz 3 rfl (kq_ rfl (jix i hb rfl) (kq_ rfl (jlr rfl) (dz 1 rfl ?_))))))))
  refine ke_ rfl (fun _=>Je_buildSlice rfl un75 ty72 tz72 rfl (by decide) (by decide) rfl (by decide) rfl) (ki_ 1 rfl (dap (a,b) rfl rfl) (dz 1 rfl (DK_nil (za 2 rfl (nz_ [so 1 _,so 3 (D.v (V.one (Leaf.own 1 (n2 + 1)))),so 4 _] [_,hgr 72 6 ivE (out ++ [(a,b)]) (n2 + 1)] rfl rfl (zc 2 rfl (tq_ rfl (jad (i + 1) rfl) (zl 2 rfl ?_))))))))
  exact nx_ ⟨i + 1,_,_,rfl,rfl,rfl,hi,by rw [hout];exact (take_snoc (zip_get ha hb)).symm⟩ rfl
 ·refine tq_ rfl (ltF rfl) (zl 9 rfl ?_)
  have hie:i = n:=by omega
  rw [List.take_of_length_le (by rw [ivM_len hr];omega)] at hout
  refine zc 1 rfl (tq_ rfl (Jq_view (r:=1) (n:=n2) (x:=V.one (Leaf.own 1 n2)) (x':=V.one (El.row ivE out)) (Jq_move rfl rfl) (RowAt.ofE ivE out rfl (by decide)) (by decide) (.inr ⟨rfl,rfl⟩)) (zl 3 rfl ?_))
  exact r1_ hq_ rfl (by rw [hout])
set_option maxRecDepth 10000 in
theorem range_r (f:Af) {m:Nat} (hf:FOk 3 m f) (bx:List (Rat × Rat)) (hbx:∀ p∈bx,Br p.1 10∧Br p.2 10) (hm:m≤bx.length) (h7:m≤7):Ctr Tryz.prog 28 [afV f,V.one (El.row ivE bx)] (R.tup [V.agg (ivE.f (rngN bx f f.ts.length)),V.one (Leaf.val (.int .i64 0))]):=by
 refine bd_ Tryz.func28 Tryz.ntmps28 rfl (fun w0 A0=>?_)
 have hfl:=hf.len
 refine zc 20 rfl ?_
 refine nz_ [so 1 (D.v (V.one (El.row ivE bx))),so 2 (D.ptr 0 0),so 4 (D.ptr 1 0),so 6 (D.ptr 2 0)] [hb_ 29 (afL f),hb_ 72 [Leaf.val (.bool false),natL ([]),natL ([]),Leaf.val (.bool false),natL ([]),natL ([])],hb_ 72 [Leaf.val (.bool (cneg f.c)),natL (limbs (cnum f.c)),natL (limbs (cden f.c)),Leaf.val (.bool (cneg f.c)),natL (limbs (cnum f.c)),natL (limbs (cden f.c))]] rfl rfl ?_
 refine zc 5 rfl ?_
 refine lpR_ (fun m Γ H=>∃ (i:Nat) (p:Rat × Rat),f.ts.length - i = m∧Γ = [(1,some (D.v (V.one (El.row ivE bx)))),(2,some (D.ptr 0 0)),(4,some (D.ptr 1 0)),(6,some (D.ptr 2 0)),(7,some (D.val (.int .i64 ((i:Nat):Int))))]∧H = [hb_ 29 (afL f),hb_ 72 [Leaf.val (.bool false),natL ([]),natL ([]),Leaf.val (.bool false),natL ([]),natL ([])],hb_ 72 [Leaf.val (.bool (cneg p.1)),natL (limbs (cnum p.1)),natL (limbs (cden p.1)),Leaf.val (.bool (cneg p.2)),natL (limbs (cnum p.2)),natL (limbs (cden p.2))]]∧i≤f.ts.length∧p = rngN bx f i) ⟨0,(f.c,f.c),rfl,rfl,rfl,Nat.zero_le _,rfl⟩ rfl ?_
 rintro m Γ H ⟨i,p,rfl,rfl,rfl,hi0,hp⟩
 refine zc 6 rfl (tq_ rfl (jln rfl) ?_)
 by_cases hi:i < f.ts.length
 ·refine tq_ rfl (ltT rfl) (zl 8 rfl ?_)
  obtain ⟨x,hx⟩:∃ x,f.ts[i]? = some x:=⟨_,List.getElem?_eq_getElem hi⟩
  have hxm:=List.mem_of_getElem? hx
  have hxv:=hf.var x hxm
  obtain ⟨y,hy⟩:∃ y,bx[x.1]? = some y:=⟨_,List.getElem?_eq_getElem (by omega)⟩
  obtain ⟨hy1,hy2⟩:=hbx y (List.mem_of_getElem? hy)
  haveI:=hy1;haveI:=hy2
  haveI hxb:Br x.2 4:=(hf.bd x hxm).br
  have hfl:=hf.len
  obtain ⟨hp1,hp2⟩:=rngN_br hf hm hbx i (by omega)
  rw [← hp] at hp1 hp2
  haveI:Br p.1 500:=hp1.mono (by omega)
  haveI:Br p.2 500:=hp2.mono (by omega)
  refine zc 4 rfl (tq_ rfl (jix i hx rfl) (tq_ rfl (jlr rfl) (zl 6 rfl ?_)))
  refine nz_ [so 1 (D.v (V.one (El.row ivE bx))),so 2 (D.ptr 0 0),so 4 (D.ptr 1 0),so 6 (D.ptr 2 0),so 7 (D.val (.int .i64 ((i:Nat):Int))),so 8 (D.ptr 3 0)] [hb_ 29 (afL f),hb_ 72 [Leaf.val (.bool false),natL ([]),natL ([]),Leaf.val (.bool false),natL ([]),natL ([])],hb_ 72 [Leaf.val (.bool (cneg p.1)),natL (limbs (cnum p.1)),natL (limbs (cden p.1)),Leaf.val (.bool (cneg p.2)),natL (limbs (cnum p.2)),natL (limbs (cden p.2))],hb_ 92 [Leaf.val (.int .i64 ((x.1:Nat):Int)),Leaf.val (.bool (cneg x.2)),natL (limbs (cnum x.2)),natL (limbs (cden x.2))]] rfl rfl ?_
  refine zc 3 rfl (tq_ rfl (ltF rfl) (zl 4 rfl (tq_ rfl (jln rfl) (tq_ rfl (geF rfl) (zl 7 rfl (nz_ [so 1 _,so 2 _,so 4 _,so 6 _,so 7 _,so 8 _] [_,_,_,_] rfl rfl (dr_ 2 [(18,4),(19,5),(20,4),(21,5)] [4,5] (dz 5 rfl (kq_ rfl (jix x.1 hy rfl) ?_)))))))))
  refine kq_ rfl (jft rfl) (kq_ rfl (jlr rfl) (kc_ fn55 rfl (rqmul (qOf (x.2)) (x.2) (qOf_q _) (Br.use (by omega)) (qOf (y.1)) (y.1) (qOf_q _) (Br.use (by omega))) (dz 5 rfl (kq_ rfl (jix x.1 hy rfl) (kq_ rfl (jfr rfl) (kq_ rfl (jlr rfl) (kc_ fn55 rfl (rqmul (qOf (x.2)) (x.2) (qOf_q _) (Br.use (by omega)) (qOf (y.2)) (y.2) (qOf_q _) (Br.use (by omega))) (dz 4 rfl (DK_nil ?_)))))))))
  refine za 2 rfl (nf_ [3] [so 1 _,so 2 _,so 4 _,so 6 _,so 7 _,so 9 (D.ptr 4 0),so 10 (D.ptr 5 0)] [_,_,_,none,hb_ 27 (qL ((x.2) * (y.1))),hb_ 27 (qL ((x.2) * (y.2)))] rfl rfl rfl (dr_ 0 [(7,2)] [2] (dz 1 rfl (kp_ [] rfl (Jq_load_agg rfl rfl rfl (by decide) ty27 (by decide) (Nat.le_of_ble_eq_true rfl) rfl) (dz 2 rfl ?_)))))
  refine kc_ fn72 rfl (rqmin (qOf ((x.2) * (y.1))) ((x.2) * (y.1)) (qOf_q _) (Br.use (by omega)) (qOf ((x.2) * (y.2))) ((x.2) * (y.2)) (qOf_q _) (Br.use (by omega))) (kc_ fn54 rfl (rqadd (qOf (p.1)) (p.1) (qOf_q _) (Br.use (by omega)) (qOf (mn ((x.2) * (y.1)) ((x.2) * (y.2)))) (mn ((x.2) * (y.1)) ((x.2) * (y.2))) (qOf_q _) (Br.use (by omega))) (dz 2 rfl (DK_nil (za 1 rfl ?_))))
  refine nz_ [so 1 _,so 2 _,so 4 _,so 6 _,so 7 _,so 9 _,so 10 _] [_,_,hb_ 72 [Leaf.val (.bool (cneg ((p.1) + (mn ((x.2) * (y.1)) ((x.2) * (y.2)))))),natL (limbs (cnum ((p.1) + (mn ((x.2) * (y.1)) ((x.2) * (y.2)))))),natL (limbs (cden ((p.1) + (mn ((x.2) * (y.1)) ((x.2) * (y.2)))))),Leaf.val (.bool (cneg p.2)),natL (limbs (cnum p.2)),natL (limbs (cden p.2))],none,_,_] rfl rfl ?_
  refine dr_ 0 [(7,2)] [2] (dz 1 rfl (kp_ [] rfl (Jq_load_agg rfl rfl rfl (by decide) ty27 (by decide) (Nat.le_of_ble_eq_true rfl) rfl) (dz 2 rfl (kc_ fn70 rfl (rqmax (qOf ((x.2) * (y.1))) ((x.2) * (y.1)) (qOf_q _) (Br.use (by omega)) (qOf ((x.2) * (y.2))) ((x.2) * (y.2)) (qOf_q _) (Br.use (by omega))) ?_))))
  refine kc_ fn54 rfl (rqadd (qOf (p.2)) (p.2) (qOf_q _) (Br.use (by omega)) (qOf (mx ((x.2) * (y.1)) ((x.2) * (y.2)))) (mx ((x.2) * (y.1)) ((x.2) * (y.2))) (qOf_q _) (Br.use (by omega))) (dz 2 rfl (DK_nil (za 2 rfl ?_)))
  refine nf_ [4,5] [so 1 _,so 2 _,so 4 _,so 6 _,so 7 _] [_,_,hb_ 72 [Leaf.val (.bool (cneg ((p.1) + (mn ((x.2) * (y.1)) ((x.2) * (y.2)))))),natL (limbs (cnum ((p.1) + (mn ((x.2) * (y.1)) ((x.2) * (y.2)))))),natL (limbs (cden ((p.1) + (mn ((x.2) * (y.1)) ((x.2) * (y.2)))))),Leaf.val (.bool (cneg ((p.2) + (mx ((x.2) * (y.1)) ((x.2) * (y.2)))))),natL (limbs (cnum ((p.2) + (mx ((x.2) * (y.1)) ((x.2) * (y.2)))))),natL (limbs (cden ((p.2) + (mx ((x.2) * (y.1)) ((x.2) * (y.2))))))],none,none,none] rfl rfl rfl ?_
  refine zc 2 rfl (tq_ rfl (jad (i + 1) rfl) (zl 2 rfl (trim_ 3 rfl ?_)))
  exact nx_ ⟨i + 1,(p.1 + mn (x.2 * y.1) (x.2 * y.2),p.2 + mx (x.2 * y.1) (x.2 * y.2)),rfl,rfl,rfl,hi,by rw [hp,rngN_succ hx hy]⟩ rfl
 ·refine tq_ rfl (ltF rfl) (zl 9 rfl ?_)
  have hie:i = f.ts.length:=by omega
  rw [hie] at hp
  refine zc 6 rfl ?_
  exact r2_ hq_ rfl (by rw [← hp] <;> rfl)
end Go.Proofs.YtmpkandbccallaaGreatDoor
set_option linter.unusedSimpArgs false
set_option linter.unusedVariables false
namespace Go.Proofs.YtmpkandbccallaaGreatDoor
open Go Go.RowKit Rc
set_option maxRecDepth 10000 in
set_option maxHeartbeats 2000000 in
theorem law_binputs (l:List Nat) (hb:∀ x∈l,x < 256) (l2:List Nat) (hb2:∀ x∈l2,x < 256):Ctr Tryz.prog 6 [V.one (El.row u8E l),V.one (El.row u8E l2)] (R.one (V.one (Leaf.val (.bool true)))):=by
 refine bd_ Tryz.func6 Tryz.ntmps6 rfl (fun w0 A0=>?_)
 refine zc 8 rfl (tc_ fn10 rfl (awake24) (zl 10 rfl (tq_ rfl (jln rfl) ?_)))
 by_cases hl3:300 < l.length
 ·refine tq_ rfl (gtT rfl) (zl 13 rfl ?_)
  exact r1_ hq_ rfl rfl
 ·refine tq_ rfl (gtF rfl) (zl 2 rfl (tq_ rfl (jln rfl) ?_))
  by_cases hl40:100 < l2.length
  ·refine tq_ rfl (gtT rfl) (zl 9 rfl ?_)
   exact r1_ hq_ rfl rfl
  ·refine tq_ rfl (gtF rfl) (zl 7 rfl ?_)
   have hl:l.length≤1000000:=by omega
   have hs:=insS_ok l
   have hg_:=hs.q.g
   have g1:=hg_.i1;have hi3:=hg_.i3;have hu4:=hg_.u4;have g4:=hg_.o1;have g5:=hg_.o3
   have hnv:(nvM (insS l).q.g.inp [] (insS l).q.g.os)≤(insS l).q.g.inp:=by have h:=nvM_le (inp:=(insS l).q.g.inp) (us:=[]) (os:=(insS l).q.g.os);simpa using h
   have hF0:FOk 3 (nvM (insS l).q.g.inp [] (insS l).q.g.os) (formq l2 0 (nvM (insS l).q.g.inp [] (insS l).q.g.os)).1:=formq_fok l2 0 _
   have hF:FOk 3 ((insS l).q.g.inp + (insS l).q.g.us.length) (formq l2 0 (nvM (insS l).q.g.inp [] (insS l).q.g.os)).1:=hF0.mono (Nat.le_refl _) (by omega)
   obtain ⟨hb1,hb2_⟩:=boxD_rng hs.sb (show (insS l).path = [] from rfl) (f:=(formq l2 0 (nvM (insS l).q.g.inp [] (insS l).q.g.os)).1) (fun t ht=>by have:=hF0.var t ht;omega)
   have hivl:=ivM_len hs.q.r
   refine nz_ [so 0 (D.v (V.one (El.row u8E l))),so 1 (D.v (V.one (El.row u8E l2)))] [] rfl rfl (zc 2 rfl (tc_ fn27 rfl (instance_spec l (by omega) hb) (zl 15 rfl ?_)))
   refine nz_ [so 1 _,so 5 (D.ptr 0 0),so 6 (D.ptr 1 0)] [hb_ 42 (quL ((insS l).q) ++ [El.row dcE ([]),El.row lmE ([])]),hb_ 33 [Leaf.val (.int .i64 (((insS l).q.g.inp:Nat):Int)),El.row afE ((insS l).q.g.us),El.row afE ((insS l).q.g.os)]] rfl rfl (zc 8 rfl ?_)
   refine tq_ rfl (Jq_viewN (x:=V.agg [Leaf.val (.int .i64 (((insS l).q.g.inp:Nat):Int)),Leaf.val (.slice none 0 0),El.row afE ((insS l).q.g.os)]) (x':=V.agg [Leaf.val (.int .i64 (((insS l).q.g.inp:Nat):Int)),El.row afE ([]),El.row afE ((insS l).q.g.os)]) (Jq_load_agg rfl rfl rfl (by decide) ty33 (by decide) (Nat.le_of_ble_eq_true rfl) rfl) ⟨.inl rfl,.inr ⟨rfl,rfl⟩,.inl rfl,trivial⟩) ?_
   refine tc_ fn17 rfl (form_n l2 (by omega) hb2 (insS l).q.g.inp [] (insS l).q.g.os rfl g1 hi3 g4 g5 (n:=((insS l).q.g.inp + (insS l).q.g.us.length)) hg_.os (by omega)) (zl 9 rfl (tc_ fn12 rfl (box_p (insS l) hs.sb (formq l2 0 (nvM (insS l).q.g.inp [] (insS l).q.g.os)).1 hF (by omega)) (zl 4 rfl (is_ true rfl (hb2_) (zl 7 rfl ?_)))))
   refine nf_ [1] [so 5 _,so 7 (D.ptr 2 0),so 8 (D.ptr 3 0),so 10 (D.bool true)] [_,none,hb_ 29 (afL ((formq l2 0 (nvM (insS l).q.g.inp [] (insS l).q.g.os)).1)),hb_ 27 (qL ((boxD (insS l) ((formq l2 0 (nvM (insS l).q.g.inp [] (insS l).q.g.os)).1)).1))] rfl rfl rfl (dr_ 1 [(9,4),(10,4)] [4] (dz 4 rfl (kc_ fn29 rfl (ivals_r (insS l).q.r hs.q.r (by omega) (by omega)) ?_)))
   refine kc_ fn28 rfl (range_r (formq l2 0 (nvM (insS l).q.g.inp [] (insS l).q.g.os)).1 hF0 (ivM (insS l).q.r) (ivM_br hs.q.r) (by omega) (by omega)) (dz 6 rfl (DK_nil (za 2 rfl ?_)))
   refine nf_ [0,2] [so 8 _,so 10 _,so 11 (D.ptr 4 0),so 12 (D.val (.int .i64 0))] [none,none,none,_,hb_ 72 [Leaf.val (.bool (cneg ((rngN (ivM (insS l).q.r) (formq l2 0 (nvM (insS l).q.g.inp [] (insS l).q.g.os)).1 (formq l2 0 (nvM (insS l).q.g.inp [] (insS l).q.g.os)).1.ts.length).1))),natL (limbs (cnum ((rngN (ivM (insS l).q.r) (formq l2 0 (nvM (insS l).q.g.inp [] (insS l).q.g.os)).1 (formq l2 0 (nvM (insS l).q.g.inp [] (insS l).q.g.os)).1.ts.length).1))),natL (limbs (cden ((rngN (ivM (insS l).q.r) (formq l2 0 (nvM (insS l).q.g.inp [] (insS l).q.g.os)).1 (formq l2 0 (nvM (insS l).q.g.inp [] (insS l).q.g.os)).1.ts.length).1))),Leaf.val (.bool (cneg ((rngN (ivM (insS l).q.r) (formq l2 0 (nvM (insS l).q.g.inp [] (insS l).q.g.os)).1 (formq l2 0 (nvM (insS l).q.g.inp [] (insS l).q.g.os)).1.ts.length).2))),natL (limbs (cnum ((rngN (ivM (insS l).q.r) (formq l2 0 (nvM (insS l).q.g.inp [] (insS l).q.g.os)).1 (formq l2 0 (nvM (insS l).q.g.inp [] (insS l).q.g.os)).1.ts.length).2))),natL (limbs (cden ((rngN (ivM (insS l).q.r) (formq l2 0 (nvM (insS l).q.g.inp [] (insS l).q.g.os)).1 (formq l2 0 (nvM (insS l).q.g.inp [] (insS l).q.g.os)).1.ts.length).2)))]] rfl rfl rfl ?_
   refine zc 10 rfl (tc_ fn15 rfl (rqsame (qOf (boxD (insS l) (formq l2 0 (nvM (insS l).q.g.inp [] (insS l).q.g.os)).1).1) (qOf (rngN (ivM (insS l).q.r) (formq l2 0 (nvM (insS l).q.g.inp [] (insS l).q.g.os)).1 (formq l2 0 (nvM (insS l).q.g.inp [] (insS l).q.g.os)).1.ts.length).1)) (is_ true rfl (by rw [hb1];exact sameQ_self _) (zl 4 rfl ?_)))
   exact r1_ hq_ rfl rfl
end Go.Proofs.YtmpkandbccallaaGreatDoor
set_option linter.unusedSimpArgs false
set_option linter.unusedVariables false
namespace Go.Proofs.YtmpkandbccallaaGreatDoor
open Go Go.RowKit Rc
set_option maxRecDepth 10000 in
set_option maxHeartbeats 2000000 in
theorem fits_raw (q:Qu) (hq:QOk q) (k j:Int) (a:Qr) (ha:Fit 10 a):Ctr Tryz.prog 74 [quV q,V.agg [Leaf.val (.int .i64 k),Leaf.val (.int .i64 j),Leaf.val (.bool a.neg),natL a.n,natL a.d]] (R.one (V.one (Leaf.val (.bool (fitsB q k j a))))):=by
 refine bd_ Tryz.func74 Tryz.ntmps74 rfl (fun w0 A0=>?_)
 have hg:=hq.g
 have h1:=hg.i1;have h2:=hg.i3;have h3:=hg.u4;have h4:=hg.o1;have h5:=hg.o3
 refine zc 18 rfl ?_
 by_cases h1:k = 1
 ·refine tq_ rfl (eqT rfl) (zl 11 rfl ?_)
  by_cases hj0:0≤j
  ·refine tq_ rfl (geT rfl) (zl 6 rfl (tq_ rfl (jln rfl) ?_))
   by_cases hj1:j < (q.g.us.length:Int)
   ·refine tq_ rfl (ltT rfl) (zl 5 rfl (tc_ fn15 rfl (rqsame a qZero) (zl 4 rfl ?_)))
    exact r1_ hq_ rfl (by rw [show fitsB q k j a = sameQ a qZero from by unfold fitsB;simp [h1,hj0,hj1]])
   ·refine tq_ rfl (ltF rfl) (zl 10 rfl ?_)
    exact r1_ hq_ rfl (by rw [show fitsB q k j a = false from by unfold fitsB;simp [h1,hj1]])
  ·refine tq_ rfl (geF rfl) (zl 18 rfl ?_)
   exact r1_ hq_ rfl (by rw [show fitsB q k j a = false from by unfold fitsB;simp [h1,hj0]])
 ·refine tq_ rfl (eqF rfl) (zl 5 rfl ?_)
  by_cases h2:k = 2
  ·refine tq_ rfl (eqT rfl) (zl 8 rfl ?_)
   by_cases hj0:0≤j
   ·refine tq_ rfl (geT rfl) (zl 6 rfl (tq_ rfl (jln rfl) ?_))
    by_cases hj1:j < (q.g.us.length:Int)
    ·refine tq_ rfl (ltT rfl) (zl 5 rfl (tc_ fn15 rfl (rqsame a qZero) (zl 4 rfl ?_)))
     exact r1_ hq_ rfl (by rw [show fitsB q k j a = sameQ a qZero from by unfold fitsB;simp [h2,hj0,hj1]])
    ·refine tq_ rfl (ltF rfl) (zl 10 rfl ?_)
     exact r1_ hq_ rfl (by rw [show fitsB q k j a = false from by unfold fitsB;simp [h2,hj1]])
   ·refine tq_ rfl (geF rfl) (zl 18 rfl ?_)
    exact r1_ hq_ rfl (by rw [show fitsB q k j a = false from by unfold fitsB;simp [h2,hj0]])
  ·refine tq_ rfl (eqF rfl) (zl 7 rfl ?_)
   by_cases h3:k = 3
   ·refine tq_ rfl (eqT rfl) (zl 11 rfl ?_)
    by_cases hj0:0≤j
    ·refine tq_ rfl (geT rfl) (zl 6 rfl ?_)
     by_cases hj1:j < (q.g.inp:Int)
     ·refine tq_ rfl (ltT rfl) (zl 4 rfl (tc_ fn110 rfl (rqvalid a a.q rfl (ha.mono (by omega))) (zl 4 rfl ?_)))
      exact r1_ hq_ rfl (by rw [show fitsB q k j a = isC a from by unfold fitsB;simp [h3,hj0,hj1]])
     ·refine tq_ rfl (ltF rfl) (zl 9 rfl ?_)
      exact r1_ hq_ rfl (by rw [show fitsB q k j a = false from by unfold fitsB;simp [h3,hj1]])
    ·refine tq_ rfl (geF rfl) (zl 16 rfl ?_)
     exact r1_ hq_ rfl (by rw [show fitsB q k j a = false from by unfold fitsB;simp [h3,hj0]])
   ·refine tq_ rfl (eqF rfl) (zl 5 rfl ?_)
    by_cases h4:k = 4
    ·refine tq_ rfl (eqT rfl) (zl 8 rfl ?_)
     by_cases hj0:0≤j
     ·refine tq_ rfl (geT rfl) (zl 6 rfl ?_)
      by_cases hj1:j < (q.g.inp:Int)
      ·refine tq_ rfl (ltT rfl) (zl 4 rfl (tc_ fn110 rfl (rqvalid a a.q rfl (ha.mono (by omega))) (zl 4 rfl ?_)))
       exact r1_ hq_ rfl (by rw [show fitsB q k j a = isC a from by unfold fitsB;simp [h4,hj0,hj1]])
      ·refine tq_ rfl (ltF rfl) (zl 9 rfl ?_)
       exact r1_ hq_ rfl (by rw [show fitsB q k j a = false from by unfold fitsB;simp [h4,hj1]])
     ·refine tq_ rfl (geF rfl) (zl 16 rfl ?_)
      exact r1_ hq_ rfl (by rw [show fitsB q k j a = false from by unfold fitsB;simp [h4,hj0]])
    ·refine tq_ rfl (eqF rfl) (zl 12 rfl ?_)
     exact r1_ hq_ rfl (by rw [show fitsB q k j a = false from by unfold fitsB;simp [h1,h2,h3,h4]])
set_option maxRecDepth 10000 in
theorem fits_top (q:Qu) (hq:QOk q) (k j:Int) (a:Qr) (ha:Fit 10 a):Ctr Tryz.prog 30 [quV q,V.agg [Leaf.val (.int .i64 k),Leaf.val (.int .i64 j),Leaf.val (.bool a.neg),natL a.n,natL a.d]] (R.one (V.one (Leaf.val (.bool (fitsB q k j a))))):=by
 refine bd_ Tryz.func30 Tryz.ntmps30 rfl (fun w0 A0=>?_)
 refine zc 10 rfl (tc_ fn50 rfl (qvalid_r q hq) (zl 3 rfl (tc_ fn74 rfl (fits_raw q hq k j a ha) (zl 4 rfl ?_))))
 exact r1_ hq_ rfl rfl
end Go.Proofs.YtmpkandbccallaaGreatDoor
set_option linter.unusedSimpArgs false
set_option linter.unusedVariables false
namespace Go.Proofs.YtmpkandbccallaaGreatDoor
open Go Go.RowKit Rc
set_option maxRecDepth 10000 in
set_option maxHeartbeats 2000000 in
theorem law_bgrows (l:List Nat) (hb:∀ x∈l,x < 256) (l2:List Nat) (hb2:∀ x∈l2,x < 256) (l3:List Dr):Ctr Tryz.prog 7 [V.one (El.row u8E l),V.one (El.row u8E l2),V.one (El.row drE l3)] (R.one (V.one (Leaf.val (.bool true)))):=by
 refine bd_ Tryz.func7 Tryz.ntmps7 rfl (fun w0 A0=>?_)
 refine zc 8 rfl (tc_ fn10 rfl (awake24) (zl 10 rfl (tq_ rfl (jln rfl) ?_)))
 by_cases hl3:300 < l.length
 ·refine tq_ rfl (gtT rfl) (zl 18 rfl ?_)
  exact r1_ hq_ rfl rfl
 ·refine tq_ rfl (gtF rfl) (zl 2 rfl (tq_ rfl (jln rfl) ?_))
  by_cases hl40:100 < l2.length
  ·refine tq_ rfl (gtT rfl) (zl 14 rfl ?_)
   exact r1_ hq_ rfl rfl
  ·refine tq_ rfl (gtF rfl) (zl 3 rfl (tq_ rfl (jln rfl) ?_))
   by_cases hl50:6 < l3.length
   ·refine tq_ rfl (gtT rfl) (zl 9 rfl ?_)
    exact r1_ hq_ rfl rfl
   ·refine tq_ rfl (gtF rfl) (zl 7 rfl ?_)
    have hl:l.length≤1000000:=by omega
    obtain ⟨hs,h8⟩:=extM_ok l
    have hg_:=hs.q.g
    have hi1:=hg_.i1;have hi3:=hg_.i3;have hu4:=hg_.u4
    have hF:FOk 3 ((extM l).q.g.inp + (extM l).q.g.us.length) (formq l2 0 ((extM l).q.g.inp + (extM l).q.g.us.length)).1:=formq_fok l2 0 _
    have h4:=extM_path l
    haveI hbq:Br (boxD (extM l) (formq l2 0 ((extM l).q.g.inp + (extM l).q.g.us.length)).1).1 500000:=(boxD_br hs.sb hF.fl).mono (by omega)
    refine nz_ [so 0 (D.v (V.one (El.row u8E l))),so 1 (D.v (V.one (El.row u8E l2))),so 2 (D.v (V.one (El.row drE l3)))] [] rfl rfl (zc 2 rfl (tc_ fn11 rfl (scope24 l hl hb) (zl 10 rfl (tc_ fn17 rfl (form23 l2 (by omega) (by assumption) (extM l).q.g (by assumption)) (zl 5 rfl ?_)))))
    refine nz_ [so 2 _,so 7 (D.ptr 0 0),so 8 (D.ptr 1 0)] [hb_ 42 (scL (extM l)),hb_ 29 (afL ((formq l2 0 ((extM l).q.g.inp + ((extM l).q.g.us).length)).1))] rfl rfl (zc 4 rfl (tc_ fn12 rfl (box_p (extM l) hs.sb (formq l2 0 ((extM l).q.g.inp + (extM l).q.g.us.length)).1 hF (by omega)) (zl 11 rfl ?_)))
    refine nz_ [so 2 _,so 7 _,so 8 _,so 9 (D.ptr 2 0),so 11 (D.bool ((boxD (extM l) ((formq l2 0 ((extM l).q.g.inp + (extM l).q.g.us.length)).1)).2.2))] [_,_,hb_ 27 (qL ((boxD (extM l) ((formq l2 0 ((extM l).q.g.inp + (extM l).q.g.us.length)).1)).1))] rfl rfl (dr_ 2 [(2,3),(5,3),(9,4),(10,4)] [3,4] (dz 2 rfl (ki_ 3 rfl (Jd_build0G (i:=3) rfl un39 ty78 rfl) (dz 2 rfl ?_))))
    refine ki_ 3 rfl (dal (e:=dcE) (l:=[]) rfl rfl) (dz 5 rfl (DK_nil (za 3 rfl (nz_ [so 2 _,so 7 _,so 8 _,so 9 _,so 11 _,so 12 (D.ptr 4 0)] [_,_,_,hgr 78 5 dcE ([] ++ (extM l).path) 1,hb_ 42 (quL ((extM l).q) ++ [Leaf.own 3 1,El.row lmE ((extM l).lems)])] rfl rfl (zc 2 rfl (tq_ rfl (jln rfl) (zl 4 rfl ?_)))))))
    refine lpR_ (fun m Γ H=>∃ (i:Nat) (n:Nat) (out:List Dc),l3.length - i = m∧Γ = [(7,some (D.ptr 0 0)),(8,some (D.ptr 1 0)),(9,some (D.ptr 2 0)),(11,some (D.bool ((boxD (extM l) ((formq l2 0 ((extM l).q.g.inp + (extM l).q.g.us.length)).1)).2.2))),(12,some (D.ptr 4 0)),(59,some (D.v (V.one (El.row drE l3)))),(60,some (D.val (.int .i64 ((l3.length:Nat):Int)))),(61,some (D.val (.int .i64 ((i:Nat):Int))))]∧H = [hb_ 42 (scL (extM l)),hb_ 29 (afL ((formq l2 0 ((extM l).q.g.inp + ((extM l).q.g.us).length)).1)),hb_ 27 (qL ((boxD (extM l) ((formq l2 0 ((extM l).q.g.inp + (extM l).q.g.us.length)).1)).1)),hgr 78 5 dcE out n,hb_ 42 (quL ((extM l).q) ++ [Leaf.own 3 n,El.row lmE ((extM l).lems)])]∧i≤l3.length∧∃ e,out = (extM l).path ++ e∧(∀ d∈e,DOk 200 (extM l).q d)∧e.length≤i) ⟨0,1,(extM l).path,rfl,rfl,rfl,Nat.zero_le _,[],(List.append_nil _).symm,fun d hd=>by simp at hd,Nat.le_refl _⟩ rfl ?_
    rintro m Γ H ⟨i,n,out,rfl,rfl,rfl,hi0,hout⟩
    refine zc 2 rfl ?_
    by_cases hi:i < l3.length
    ·refine tq_ rfl (ltT rfl) (zl 9 rfl ?_)
     obtain ⟨x,hx⟩:∃ x,l3[i]? = some x:=⟨_,List.getElem?_eq_getElem hi⟩
     obtain ⟨e,he,hed,hel⟩:=hout
     have hol:out.length≤20:=by rw [he,List.length_append];omega
     refine zc 1 rfl (tq_ rfl (jix i hx rfl) (tq_ rfl (jlr rfl) (zl 5 rfl ?_)))
     refine nz_ [so 7 (D.ptr 0 0),so 8 (D.ptr 1 0),so 9 (D.ptr 2 0),so 11 (D.bool ((boxD (extM l) ((formq l2 0 ((extM l).q.g.inp + (extM l).q.g.us.length)).1)).2.2)),so 12 (D.ptr 4 0),so 14 (D.ptr 5 0),so 59 (D.v (V.one (El.row drE l3))),so 60 (D.val (.int .i64 ((l3.length:Nat):Int))),so 61 (D.val (.int .i64 ((i:Nat):Int)))] [hb_ 42 (scL (extM l)),hb_ 29 (afL ((formq l2 0 ((extM l).q.g.inp + ((extM l).q.g.us).length)).1)),hb_ 27 (qL ((boxD (extM l) ((formq l2 0 ((extM l).q.g.inp + (extM l).q.g.us.length)).1)).1)),hgr 78 5 dcE out n,hb_ 42 (quL ((extM l).q) ++ [Leaf.own 3 n,El.row lmE ((extM l).lems)]),hb_ 78 [Leaf.val (.int .i64 x.k),Leaf.val (.int .i64 x.j),Leaf.val (.bool x.q.neg),natL x.q.n,natL x.q.d]] rfl rfl ?_
     refine zc 4 rfl (tq_ rfl (jln rfl) ?_)
     by_cases hn4:x.q.n.length≤4
     ·refine tq_ rfl (leT rfl) (zl 4 rfl (tq_ rfl (jln rfl) ?_))
      by_cases hd4:x.q.d.length≤4
      ·refine tq_ rfl (leT rfl) (zl 5 rfl (tc_ fn30 rfl (fits_top (extM l).q hs.q x.k x.j x.q (fit10' hn4 hd4)) (zl 3 rfl ?_)))
       refine Tc_cond rfl (fun hfit=>?_) (fun hfit=>?_)
       ·obtain ⟨d,hdk,hdj,hda,hdo⟩:=fits_inv hfit hn4 hd4
        refine nz_ [so 7 _,so 8 _,so 9 _,so 11 _,so 12 _,so 14 _,so 59 _,so 60 _,so 61 _] [_,_,_,_,_,_] rfl rfl (zc 4 rfl (eq_ (D.agg (dcE.f d)) rfl (by rw [hdk,hdj,hda];rfl) (te_ rfl (Je_buildSlice rfl un39 ty78 tz78 rfl (by decide) (by decide) rfl (by decide) rfl) (te_ rfl (jap (e:=dcE) (⟨d.kind,d.idx,d.pt⟩) rfl rfl) (zl 6 rfl (tq_ rfl (jad (i + 1) rfl) (zl 2 rfl ?_)))))))
        refine At_free 5 (trim_ 5 rfl ?_)
        exact nx_ ⟨i + 1,_,_,rfl,rfl,rfl,hi,e ++ [d],by rw [he,List.append_assoc],memD_snoc hed hdo,by rw [List.length_append,List.length_singleton];omega⟩ rfl
       ·refine zc 3 rfl (nf_ [5] [so 7 _,so 8 _,so 9 _,so 11 _,so 12 _,so 59 _,so 60 _,so 61 _] [_,_,_,_,_,none] rfl rfl rfl (zc 1 rfl (tq_ rfl (jad (i + 1) rfl) (zl 2 rfl (trim_ 5 rfl ?_)))))
        exact nx_ ⟨i + 1,_,_,rfl,rfl,rfl,hi,e,he,hed,by omega⟩ rfl
      ·refine tq_ rfl (leF rfl) (zl 13 rfl (nf_ [5] [so 7 _,so 8 _,so 9 _,so 11 _,so 12 _,so 59 _,so 60 _,so 61 _] [_,_,_,_,_,none] rfl rfl rfl (zc 1 rfl (tq_ rfl (jad (i + 1) rfl) (zl 2 rfl (trim_ 5 rfl ?_))))))
       exact nx_ ⟨i + 1,_,_,rfl,rfl,rfl,hi,e,he,hed,by omega⟩ rfl
     ·refine tq_ rfl (leF rfl) (zl 19 rfl (nf_ [5] [so 7 _,so 8 _,so 9 _,so 11 _,so 12 _,so 59 _,so 60 _,so 61 _] [_,_,_,_,_,none] rfl rfl rfl (zc 1 rfl (tq_ rfl (jad (i + 1) rfl) (zl 2 rfl (trim_ 5 rfl ?_))))))
      exact nx_ ⟨i + 1,_,_,rfl,rfl,rfl,hi,e,he,hed,by omega⟩ rfl
    ·refine tq_ rfl (ltF rfl) (zl 10 rfl ?_)
     obtain ⟨e,he,hed,hel⟩:=hout
     have hsT:SOk (⟨(extM l).q,out,(extM l).lems⟩:Sc):=by rw [he];exact sok_path hs h4 hed (by omega)
     obtain ⟨r,hrun⟩:∃ r,runM boxD ⟨(extM l).q,out,(extM l).lems⟩ 0 = moreS (extM l) e r:=by rw [he];exact run_moreS 0
     have hsM:SOk (runM boxD (⟨(extM l).q,out,(extM l).lems⟩:Sc) 0):=(runM_ok boxD_ok hsT (by show (extM l).lems.length≤80;omega) 0).1
     haveI hbM:Br (boxD (runM boxD (⟨(extM l).q,out,(extM l).lems⟩:Sc) 0) (formq l2 0 ((extM l).q.g.inp + (extM l).q.g.us.length)).1).1 500000:=(boxD_br hsM.sb (show FL 4 _ (formq l2 0 ((extM l).q.g.inp + (extM l).q.g.us.length)).1 from hF.fl)).mono (by omega)
     have hmore:(boxD (extM l) (formq l2 0 ((extM l).q.g.inp + (extM l).q.g.us.length)).1).2.2 = true→(boxD (runM boxD (⟨(extM l).q,out,(extM l).lems⟩:Sc) 0) (formq l2 0 ((extM l).q.g.inp + (extM l).q.g.us.length)).1).2.2 = true∧(boxD (extM l) (formq l2 0 ((extM l).q.g.inp + (extM l).q.g.us.length)).1).1≤(boxD (runM boxD (⟨(extM l).q,out,(extM l).lems⟩:Sc) 0) (formq l2 0 ((extM l).q.g.inp + (extM l).q.g.us.length)).1).1:=fun h=>by rw [hrun];exact boxD_more h
     refine zc 2 rfl (tq_ rfl (Jq_iface (vs:=[]) rfl rfl (by kernel_rfl)) (tq_ rfl (jvl 10 rfl rfl) (tc_ fn31 rfl (run_box (⟨(extM l).q,out,(extM l).lems⟩:Sc) hsT (by show (extM l).lems.length≤80;omega) 0 (by decide) (by decide)) (zl 10 rfl ?_))))
     refine nf_ [0,4] [so 8 (D.ptr 1 0),so 9 (D.ptr 2 0),so 11 (D.bool ((boxD (extM l) ((formq l2 0 ((extM l).q.g.inp + (extM l).q.g.us.length)).1)).2.2)),so 15 (D.ptr 5 0),so 16 (D.val (.int .i64 0))] [none,hb_ 29 (afL ((formq l2 0 ((extM l).q.g.inp + ((extM l).q.g.us).length)).1)),hb_ 27 (qL ((boxD (extM l) ((formq l2 0 ((extM l).q.g.inp + (extM l).q.g.us.length)).1)).1)),hgr 78 5 dcE out n,none,hb_ 42 (scL (runM boxD (⟨(extM l).q,out,(extM l).lems⟩:Sc) 0))] rfl rfl rfl ?_
     refine zc 2 rfl (tq_ rfl (neF rfl rfl) (zl 10 rfl (tc_ fn12 rfl (box_p (runM boxD (⟨(extM l).q,out,(extM l).lems⟩:Sc) 0) hsM.sb (formq l2 0 ((extM l).q.g.inp + (extM l).q.g.us.length)).1 (show FOk 3 _ (formq l2 0 ((extM l).q.g.inp + (extM l).q.g.us.length)).1 from hF) (by omega)) (zl 11 rfl ?_))))
     refine nf_ [1,5] [so 9 _,so 11 _,so 17 (D.ptr 6 0),so 19 (D.bool ((boxD (runM boxD (⟨(extM l).q,out,(extM l).lems⟩:Sc) 0) ((formq l2 0 ((extM l).q.g.inp + (extM l).q.g.us.length)).1)).2.2))] [none,none,_,_,none,none,hb_ 27 (qL ((boxD (runM boxD (⟨(extM l).q,out,(extM l).lems⟩:Sc) 0) ((formq l2 0 ((extM l).q.g.inp + (extM l).q.g.us.length)).1)).1))] rfl rfl rfl ?_
     refine zc 4 rfl ?_
     refine two_ rfl (fun hok=>?_) (fun hok=>?_)
     ·obtain ⟨hm1,hm2⟩:=hmore (by simpa using hok)
      refine zl 2 rfl (is_ true rfl (hm1) (zl 2 rfl ?_))
      refine tc_ fn26 rfl (rqcmp (qOf ((boxD (runM boxD (⟨(extM l).q,out,(extM l).lems⟩:Sc) 0) ((formq l2 0 ((extM l).q.g.inp + (extM l).q.g.us.length)).1)).1)) ((boxD (runM boxD (⟨(extM l).q,out,(extM l).lems⟩:Sc) 0) ((formq l2 0 ((extM l).q.g.inp + (extM l).q.g.us.length)).1)).1) (qOf_q _) (Br.use (by omega)) (qOf ((boxD (extM l) ((formq l2 0 ((extM l).q.g.inp + (extM l).q.g.us.length)).1)).1)) ((boxD (extM l) ((formq l2 0 ((extM l).q.g.inp + (extM l).q.g.us.length)).1)).1) (qOf_q _) (Br.use (by omega))) ?_
      refine tq_ rfl (geT rfl (by have:=cmpq_ge.2 hm2;omega)) (zl 5 rfl ?_)
      exact r1_ hq_ rfl rfl
     ·refine zl 11 rfl ?_
      exact r1_ hq_ rfl rfl
end Go.Proofs.YtmpkandbccallaaGreatDoor
set_option linter.unusedSimpArgs false
set_option linter.unusedVariables false
namespace Go.Proofs.YtmpkandbccallaaGreatDoor
open Go Go.RowKit Rc
theorem fldDc:fldL Tryz.prog 78 = some [(0,3),(1,3),(2,27)]:=by kernel_rfl
theorem cellsDc:Tryz.prog.cellsOf 78 = 5:=by kernel_rfl
end Go.Proofs.YtmpkandbccallaaGreatDoor
set_option linter.unusedSimpArgs false
set_option linter.unusedVariables false
namespace Rc
open Go Go.RowKit Go.ChangeShapes Go.WideShapes
theorem pick_list {α:Type} {p:Nat→α→Prop}:∀ n:Nat,(∀ i,i < n→∃ a,p i a)→∃ l:List α,l.length = n∧∀ i a,l[i]? = some a→p i a
 | 0,_=>⟨[],rfl,fun i a h=>by simp at h⟩
 | n + 1,h=>by
  obtain ⟨l,hl,hp⟩:=pick_list n (fun i hi=>h i (by omega))
  obtain ⟨a,ha⟩:=h n (by omega)
  refine ⟨l ++ [a],by simp [hl],fun i b hb=>?_⟩
  by_cases e:i < n
  ·rw [List.getElem?_append_left (by omega)] at hb;exact hp i b hb
  ·rw [List.getElem?_append_right (by omega)] at hb
   have h1:=(List.getElem?_eq_some_iff.1 hb).1
   have h2:i = n:=by simp at h1;omega
   subst h2
   simp [hl] at hb;subst hb;exact ha
section
variable {H:Type} {enc:TypeId × Value→H} {P:Program} {w:World} {base:Nat} {held:Bool}
theorem rd_row {α:Type} (E:El α) (Pr:α→Prop) {t e:Nat} (ht:P.underlying t = some (.slice e)) (hc:P.cellsOf e = E.sz) (hsz:0 < E.sz)
  (hel:∀ (cs:List Value) (fuel:Nat) (x:DataW H × List MemPlace),DataW.trod enc P w base (fun _=>true) held fuel e cs = some x→∃ a,denL (here w) (E.f a) cs w∧Pr a)
  {cs:List Value} {fuel:Nat} {x:DataW H × List MemPlace} (h:DataW.trod enc P w base (fun _=>true) held fuel t cs = some x) :
  ∃ c l,cs = [c]∧l.length≤maxLen∧(∀ a∈l,Pr a)∧(E.row l).den (here w) c w:=by
 rcases DataW.trod_slice ht h with ⟨rfl,_⟩ | ⟨a,len,cap,elems,rest,n,_,rfl,_,_,hl,hm,hlen,hget,hsp,_⟩
 ·exact ⟨_,[],rfl,Nat.zero_le _,fun a h=>by simp at h,nil_slice _ _⟩
 obtain ⟨hrl,hrest⟩:=hsp rfl
 have each:∀ i,i < cap→∃ cs' m y,w.cells? base (a.add (i * E.sz)) E.sz = some cs'∧DataW.trod enc P w base (fun _=>true) held m e cs' = some y:=by
  intro i hi
  have hb:∃ y,(w.cells? base (a.add (i * P.cellsOf e)) (P.cellsOf e)).bind (DataW.trod enc P w base (fun _=>true) held n e) = some y:=by
   by_cases hil:i < len
   ·exact ⟨_,(hget i hil).trans (List.getElem?_eq_getElem (by omega))⟩
   ·have h1:=hrest (i - len) (by omega)
    rw [show len + (i - len) = i by omega] at h1
    exact ⟨_,h1.trans (List.getElem?_eq_getElem (by omega))⟩
  obtain ⟨y,hy⟩:=hb
  rw [hc,Option.bind_eq_some_iff] at hy
  obtain ⟨cs',h1,h2⟩:=hy
  exact ⟨cs',n,y,h1,h2⟩
 obtain ⟨l,hll,hlp⟩:=pick_list (p:=fun i b=>∃ cs',w.cells? base (a.add (i * E.sz)) E.sz = some cs'∧denL (here w) (E.f b) cs' w∧Pr b) len (fun i hi=>by
  obtain ⟨cs',m,y,h1,h2⟩:=each i (by omega)
  obtain ⟨b,h3,h4⟩:=hel cs' m y h2
  exact ⟨b,cs',h1,h3,h4⟩)
 refine ⟨_,l,rfl,by omega,fun b hb=>?_,?_⟩
 ·obtain ⟨i,hi⟩:=List.mem_iff_getElem?.1 hb
  obtain ⟨_,_,_,h4⟩:=hlp i b hi
  exact h4
 show (sliceRep l.length (E.all l)).P _ _ _
 rw [hll]
 have hspot:0 < cap→a.spot = none:=fun h0=>by
  obtain ⟨cs',m,y,h1,h2⟩:=each 0 h0
  have h3:=(World.cells?_some h1).2.2 0 hsz
  have hcl:=(World.cells?_some h1).2.1
  rw [List.getElem?_eq_getElem (by omega)] at h3
  simpa [Addr.add] using World.cell?_spot h3
 refine ⟨some a,cap,rfl,hl,hm,fun h=>by simp at h,fun ad had=>?_⟩
 cases had
 refine ⟨hspot,fun i lf hi=>?_⟩
 have hi0:i < l.length * E.sz:=by have:=(List.getElem?_eq_some_iff.1 hi).1;rwa [El.all_length] at this
 have hq:i / E.sz < l.length:=(Nat.div_lt_iff_lt_mul hsz).2 hi0
 have hr:i % E.sz < E.sz:=Nat.mod_lt _ hsz
 have hqr:i / E.sz * E.sz + i % E.sz = i:=by rw [Nat.mul_comm];exact Nat.div_add_mod i E.sz
 obtain ⟨cs',h1,h2,_⟩:=hlp (i / E.sz) _ (List.getElem?_eq_getElem hq)
 have hlf:(E.f l[i / E.sz])[i % E.sz]? = some lf:=by
  rw [← El.all_get E hq,List.getElem?_take,if_pos hr,List.getElem?_drop,hqr];exact hi
 obtain ⟨v,hv,hd⟩:=h2.get hlf
 have h3:=(World.cells?_some h1).2.2 (i % E.sz) hr
 rw [hv] at h3
 have hsp0:=hspot (Nat.lt_of_lt_of_le (Nat.lt_of_le_of_lt (Nat.zero_le _) hq) (by omega))
 obtain ⟨b,off,spot⟩:=a
 subst hsp0
 rw [Go.WideShapes.add_plain,Go.WideShapes.add_plain,Nat.add_assoc,hqr] at h3
 have hlt:b < w.heap.size:=cell_lt h3
 exact ⟨hlt,v,h3,hd⟩
variable {tb tn tu tr ti:Nat}
theorem rdv_decis {td tk:Nat} (hT:NumTy P tb tn tu tr) (hi:P.underlying ti = some (.int .i64)) (hci:P.cellsOf ti = 1) (hf:fldL P td = some [(0,ti),(1,ti),(2,tr)]) (hc:P.cellsOf td = 5) (hk:P.underlying tk = some (.slice td))
  {α:Type} (E:El α) (hE:E.sz = 5) (hr:∀ (k j:Int) (q:Qr),∃ a,E.f a = [Leaf.val (.int .i64 k),Leaf.val (.int .i64 j),Leaf.val (.bool q.neg),natL q.n,natL q.d]) {r:Reach} {b0:Nat} {v:Value} {d:DataW H} {p:List MemPlace} (hv:Value.okWide P w r b0 tk v) (h:DataW.Trod enc P w base (fun _=>true) held tk v d p) :
  ∃ l:List α,l.length≤maxLen∧(V.one (E.row l)).den (here w) v w:=by
 obtain ⟨a0,len0,cap0,rfl⟩:=okWide_slice hk hv
 obtain ⟨fuel,hf'⟩:=h
 obtain ⟨c,l,hc',hl,_,hd⟩:=rd_row E (fun _=>True) hk (by rw [hc,hE]) (by omega) (fun cs fuel' x' h'=>by
  obtain ⟨hlen,n,hall⟩:=rd_fields hf h'
  rw [hc] at hlen
  match cs,hlen with
  | [c0,c1,c2,c3,c4],_=>
   obtain ⟨y0,h0⟩:=hall 0 _ _ rfl
   obtain ⟨y1,h1⟩:=hall 1 _ _ rfl
   obtain ⟨y2,h2⟩:=hall 2 _ _ rfl
   rw [hci] at h0 h1
   rw [hT.cr] at h2
   obtain ⟨k,e0,_⟩:=rd_int hi h0
   obtain ⟨j,e1,_⟩:=rd_int hi h1
   obtain ⟨q,hq⟩:=rd_rat hT h2
   simp at e0 e1
   subst e0;subst e1
   obtain ⟨a,ha⟩:=hr k j q
   refine ⟨a,?_⟩
   rw [ha]
   exact ⟨⟨⟨rfl,rfl⟩,⟨rfl,rfl⟩,hq⟩,trivial⟩) hf'
 simp [Value.cells] at hc'
 subst hc'
 exact ⟨l,hl,hd⟩
end
end Rc
set_option linter.unusedSimpArgs false
set_option linter.unusedVariables false
namespace Go.Proofs.YtmpkandbccallaaGreatDoor
open Go Go.RowKit Rc
theorem undDcs:Tryz.prog.underlying 39 = some (.slice 78):=by kernel_rfl
end Go.Proofs.YtmpkandbccallaaGreatDoor
