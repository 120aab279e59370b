/- Parts of the proof, 11: the texts WkDomainBoth, FwZ, FactsZ, FwX, FactsX, FactsT, as far as they are used. -/
import Derived.Test.YtjdbopkbfkgpdaaGreatDoorBo10
import Derived.WalkKit
import Derived.ProofKit
import Derived.OpenShut
import Derived.ShutString
import Derived.ChangeOld
import Derived.Below
import Derived.Test.YtjdbopkbfkgpdaaGreatDoorProg
import Derived.KernelRfl
import Derived.Test.YtjdbopkbfkgpdaaGreatDoorRows
import Derived.LaidMore
import Derived.LaidLaws
import Derived.LaidHandle
import Derived.JoinedOf
import Derived.ChangeSame
import Derived.ChangeVars
import Derived.Stop.Joined
set_option linter.unusedSimpArgs false
set_option linter.unusedVariables false
namespace Go.Proofs.YtjdbopkbfkgpdaaGreatDoor
open Go Go.RowKit Rc
set_option maxRecDepth 10000 in
set_option maxHeartbeats 2000000 in
theorem law_both (l:List Nat) (hb:∀ x∈l,x < 256) (l2:List Nat) (hb2:∀ x∈l2,x < 256) (n:Nat) (hn:n < 256):Ctr Tryz.prog 9 [V.one (El.row u8E l),V.one (El.row u8E l2),V.one (Leaf.val (.int .u8 ((n:Nat):Int)))] (R.one (V.one (Leaf.val (.bool true)))):=by
 refine bd_ Tryz.func9 Tryz.ntmps9 rfl (fun w0 A0=>?_)
 refine zc 8 rfl (tc_ fn10 rfl (awake_t) (zl 10 rfl (tq_ rfl (jln rfl) ?_)))
 by_cases hl3:300 < l.length
 ·refine tq_ rfl (gtT rfl) (zl 13 rfl ?_)
  exact r1_ hq_ rfl rfl
 ·refine tq_ rfl (gtF rfl) (zl 2 rfl (tq_ rfl (jln rfl) ?_))
  by_cases hl40:100 < l2.length
  ·refine tq_ rfl (gtT rfl) (zl 9 rfl ?_)
   exact r1_ hq_ rfl rfl
  ·refine tq_ rfl (gtF rfl) (zl 7 rfl ?_)
   have hl:l.length≤1000000:=by omega
   obtain ⟨hs,h8⟩:=extM_ok l
   have hg_:=hs.q.g
   have hF:FOk 3 ((extM l).q.g.inp + (extM l).q.g.us.length) (formq l2 0 ((extM l).q.g.inp + (extM l).q.g.us.length)).1:=formq_fok l2 0 _
   have hk5:n % 5≤4:=by omega
   have hsl:=simD_len (k:=n % 5) hs hF
   have hll:=looD_len hs hF
   haveI hsb:=simD_br (k:=n % 5) hs hF
   haveI hlb:=looD_br hs hF
   refine nz_ [so 0 (D.v (V.one (El.row u8E l))),so 1 (D.v (V.one (El.row u8E l2))),so 2 (D.val (.int .u8 ((n:Nat):Int)))] [] rfl rfl (zc 2 rfl (tc_ fn11 rfl (extend_r l hl hb) (zl 10 rfl (tc_ fn29 rfl (form23 l2 (by omega) (by assumption) (extM l).q.g (by assumption)) (zl 5 rfl ?_)))))
   refine nz_ [so 2 _,so 7 (D.ptr 0 0),so 8 (D.ptr 1 0)] [hb_ 42 (scL (extM l)),hb_ 36 (afL ((formq l2 0 ((extM l).q.g.inp + ((extM l).q.g.us).length)).1))] rfl rfl (zc 2 rfl (tq_ rfl (Jq_rem rfl rfl rfl (by decide) (r:=((n % 5:Nat):Int)) (tmodN _ _)) (tq_ rfl (jci (n % 5) rfl) (zl 5 rfl (te_ rfl (Je_store0 rfl rfl rfl rfl ty81 rfl rfl (Nat.le_of_ble_eq_true rfl) rfl) ?_)))))
   refine zl 4 rfl (nz_ [so 7 _,so 8 _,so 9 (D.ptr 2 0),so 10 (D.ptr 3 0)] [_,_,hb_ 48 [Leaf.val (.string ⟨#[97]⟩),Leaf.val (.int .i64 ((n % 5:Nat):Int))],hb_ 81 []] rfl rfl (dr_ 0 [] [] (dz 1 rfl (kq_ rfl (Jq_iface (vs:=[.string ⟨#[97]⟩,.int .i64 ((n % 5:Nat):Int)]) rfl rfl (by kernel_rfl)) ?_))))
   refine kq_ rfl (Jq_load0 rfl rfl rfl (by decide) ty81 rfl (Nat.le_of_ble_eq_true rfl) rfl) (kq_ rfl (Jq_iface (vs:=[]) rfl rfl (by kernel_rfl)) (kc_ fn30 rfl (both_ok 48 81 [.string ⟨#[97]⟩,.int .i64 ((n % 5:Nat):Int)] []) (kq_ rfl (Jq_load0 rfl rfl rfl (by decide) ty81 rfl (Nat.le_of_ble_eq_true rfl) rfl) (kq_ rfl (Jq_iface (vs:=[]) rfl rfl (by kernel_rfl)) (dz 1 rfl ?_)))))
   refine kq_ rfl (Jq_iface (vs:=[.string ⟨#[97]⟩,.int .i64 ((n % 5:Nat):Int)]) rfl rfl (by kernel_rfl)) (kc_ fn30 rfl (both_ok 81 48 [] [.string ⟨#[97]⟩,.int .i64 ((n % 5:Nat):Int)]) (ke_ rfl (fun _=>Je_buildSlice rfl un85 ty83 tz83 rfl (by decide) (by decide) rfl (by decide) rfl) (kq_ rfl (jln rfl) (keq_ (D.val (.int .i64 2)) rfl (rfl) (dz 1 rfl (DK_nil (za 2 rfl ?_)))))))
   refine lpR_ (fun m Γ H=>∃ (i:Nat),2 - i = m∧Γ = [(7,some (D.ptr 0 0)),(8,some (D.ptr 1 0)),(9,some (D.ptr 2 0)),(10,some (D.ptr 3 0)),(56,some (D.v (V.one (El.row vlE ([(ifV 124 [ifV 48 [.string ⟨#[97]⟩,.int .i64 ((n % 5:Nat):Int)],ifV 81 []]:Value),(ifV 124 [ifV 81 [],ifV 48 [.string ⟨#[97]⟩,.int .i64 ((n % 5:Nat):Int)]]:Value)]))))),(57,some (D.val (.int .i64 2))),(58,some (D.val (.int .i64 ((i:Nat):Int))))]∧H = [hb_ 42 (scL (extM l)),hb_ 36 (afL ((formq l2 0 ((extM l).q.g.inp + ((extM l).q.g.us).length)).1)),hb_ 48 [Leaf.val (.string ⟨#[97]⟩),Leaf.val (.int .i64 ((n % 5:Nat):Int))],hb_ 81 []]∧i≤2) ⟨0,rfl,rfl,rfl,by omega⟩ rfl ?_
   rintro m Γ H ⟨i,rfl,rfl,rfl,hi0⟩
   refine zc 1 rfl ?_
   refine nz_ [so 7 (D.ptr 0 0),so 8 (D.ptr 1 0),so 9 (D.ptr 2 0),so 10 (D.ptr 3 0),so 56 (D.v (V.one (El.row vlE ([(ifV 124 [ifV 48 [.string ⟨#[97]⟩,.int .i64 ((n % 5:Nat):Int)],ifV 81 []]:Value),(ifV 124 [ifV 81 [],ifV 48 [.string ⟨#[97]⟩,.int .i64 ((n % 5:Nat):Int)]]:Value)])))),so 57 (D.val (.int .i64 2)),so 58 (D.val (.int .i64 ((i:Nat):Int)))] [hb_ 42 (scL (extM l)),hb_ 36 (afL ((formq l2 0 ((extM l).q.g.inp + ((extM l).q.g.us).length)).1)),hb_ 48 [Leaf.val (.string ⟨#[97]⟩),Leaf.val (.int .i64 ((n % 5:Nat):Int))],hb_ 81 []] rfl rfl ?_
   refine zc 1 rfl ?_
   by_cases hi:i < 2
   ·refine tq_ rfl (ltT rfl) (zl 10 rfl (tq_ rfl (jix i (csI_get hi) rfl) (tq_ rfl (jli rfl) (zl 7 rfl (tq_ rfl (Jq_eql_if rfl rfl rfl (by kernel_rfl)) (zl 10 rfl (te_ rfl (Je_invoke rfl rfl (by kernel_rfl) fn206 rfl (lower_i (n % 5) hk5 i (extM l) hs (formq l2 0 ((extM l).q.g.inp + (extM l).q.g.us.length)).1 hF) (csI_one _ _ _ _)) (zl 11 rfl ?_))))))))
    refine nz_ [so 7 _,so 8 _,so 9 _,so 10 _,so 12 (D.val ((ifV 124 (csI 48 81 (n % 5) i)))),so 13 (D.ptr 4 0),so 14 (D.v (V.one (El.row muE ((bothD (n % 5) i (extM l) (formq l2 0 ((extM l).q.g.inp + (extM l).q.g.us.length)).1).2.1)))),so 15 (D.bool ((bothD (n % 5) i (extM l) (formq l2 0 ((extM l).q.g.inp + (extM l).q.g.us.length)).1).2.2)),so 56 _,so 57 _,so 58 _] [_,_,_,_,hb_ 34 (qL ((bothD (n % 5) i (extM l) (formq l2 0 ((extM l).q.g.inp + (extM l).q.g.us.length)).1).1))] rfl rfl ?_
    refine zc 4 rfl (tc_ fn31 rfl (simple_k (n % 5) hk5 (extM l) hs (formq l2 0 ((extM l).q.g.inp + (extM l).q.g.us.length)).1 hF) (zl 11 rfl ?_))
    refine nz_ [so 7 _,so 8 _,so 9 _,so 10 _,so 12 _,so 13 _,so 14 _,so 15 _,so 16 (D.ptr 5 0),so 17 (D.v (V.one (El.row muE ((simD (n % 5) (extM l) (formq l2 0 ((extM l).q.g.inp + (extM l).q.g.us.length)).1).2.1)))),so 18 (D.bool ((simD (n % 5) (extM l) (formq l2 0 ((extM l).q.g.inp + (extM l).q.g.us.length)).1).2.2)),so 56 _,so 57 _,so 58 _] [_,_,_,_,_,hb_ 34 (qL ((simD (n % 5) (extM l) (formq l2 0 ((extM l).q.g.inp + (extM l).q.g.us.length)).1).1))] rfl rfl ?_
    refine zc 1 rfl (tq_ rfl (Jq_load0 rfl rfl rfl (by decide) ty81 rfl (Nat.le_of_ble_eq_true rfl) rfl) (zl 2 rfl (tc_ fn32 rfl (loose_t (extM l) hs (formq l2 0 ((extM l).q.g.inp + (extM l).q.g.us.length)).1 hF) (zl 12 rfl ?_))))
    refine nz_ [so 7 _,so 8 _,so 9 _,so 10 _,so 12 _,so 13 _,so 14 _,so 15 _,so 16 _,so 17 _,so 18 _,so 19 (D.ptr 6 0),so 20 (D.v (V.one (El.row muE ((looD (extM l) (formq l2 0 ((extM l).q.g.inp + (extM l).q.g.us.length)).1).2.1)))),so 21 (D.bool ((looD (extM l) (formq l2 0 ((extM l).q.g.inp + (extM l).q.g.us.length)).1).2.2)),so 56 _,so 57 _,so 58 _] [_,_,_,_,_,_,hb_ 34 (qL ((looD (extM l) (formq l2 0 ((extM l).q.g.inp + (extM l).q.g.us.length)).1).1))] rfl rfl ?_
    refine zc 4 rfl ?_
    refine two_ rfl (fun hp=>?_) (fun hp=>?_)
    ·refine zl 2 rfl (tq_ rfl (Jq_neq_bool rfl rfl rfl un4 (d:=_) (rfl)) (is_ false rfl (by rw [bothD_b,hp];simp) (zl 12 rfl ?_)))
     refine Tc_cond rfl (fun hok=>?_) (fun hok=>?_)
     ·refine zc 4 rfl (nf_ [4,5,6] [so 7 _,so 8 _,so 9 _,so 10 _,so 56 _,so 57 _,so 58 _] [_,_,_,_,none,none,none] rfl rfl rfl (zc 1 rfl (tq_ rfl (jad (i + 1) rfl) (zl 2 rfl (trim_ 4 rfl ?_)))))
      exact nx_ ⟨i + 1,rfl,rfl,rfl,hi⟩ rfl
     ·refine zc 5 rfl (te_ rfl (Je_invoke rfl rfl (by kernel_rfl) fn207 rfl (name_i (n % 5) i) (csI_one _ _ _ _)) (tq_ rfl (Jq_str_eq rfl rfl rfl (d:=(decide (i = 0))) (nm_eq)) (zl 9 rfl ?_)))
      refine two_ rfl (fun hn_=>?_) (fun hn_=>?_)
      ·refine zl 10 rfl (nz_ [so 7 _,so 8 _,so 9 _,so 10 _,so 13 _,so 14 _,so 16 _,so 17 _,so 18 _,so 19 _,so 20 _,so 21 _,so 22 (D.bool (decide (i = 0))),so 56 _,so 57 _,so 58 _] [_,_,_,_,_,_,_] rfl rfl (zc 3 rfl ?_))
       refine tc_ fn22 rfl (rqcmp (qOf ((simD (n % 5) (extM l) (formq l2 0 ((extM l).q.g.inp + (extM l).q.g.us.length)).1).1)) ((simD (n % 5) (extM l) (formq l2 0 ((extM l).q.g.inp + (extM l).q.g.us.length)).1).1) (qOf_q _) (Br.use (by omega)) (qOf ((looD (extM l) (formq l2 0 ((extM l).q.g.inp + (extM l).q.g.us.length)).1).1)) ((looD (extM l) (formq l2 0 ((extM l).q.g.inp + (extM l).q.g.us.length)).1).1) (qOf_q _) (Br.use (by omega))) ?_
       refine zl 7 rfl ?_
       refine two_ rfl (fun ha=>?_) (fun ha=>?_)
       ·refine zl 18 rfl ?_
        have hA:=bothD_f hok (show ¬ fstP (n % 5) i (extM l) (formq l2 0 ((extM l).q.g.inp + (extM l).q.g.us.length)).1 from fun e=>by have e1:=e.1;rw [ha] at e1;exact absurd e1 (by decide))
        refine nf_ [5] [so 7 _,so 8 _,so 9 _,so 10 _,so 13 _,so 14 _,so 19 _,so 20 _,so 56 _,so 57 _,so 58 _] [_,_,_,_,_,none,_] rfl rfl rfl (zc 2 rfl (eq_ (D.agg (qL (looD (extM l) (formq l2 0 ((extM l).q.g.inp + (extM l).q.g.us.length)).1).1)) rfl (congrArg (fun x=>D.agg (qL x)) hA.1) (zl 1 rfl ?_)))
        refine tc_ fn24 rfl (rqsame (qOf (looD (extM l) (formq l2 0 ((extM l).q.g.inp + (extM l).q.g.us.length)).1).1) (qOf (looD (extM l) (formq l2 0 ((extM l).q.g.inp + (extM l).q.g.us.length)).1).1)) (is_ true rfl (sameQ_self _) (zl 3 rfl ?_))
        refine eq_ (D.v (V.one (El.row muE (looD (extM l) (formq l2 0 ((extM l).q.g.inp + (extM l).q.g.us.length)).1).2.1))) rfl (congrArg (fun x=>D.v (V.one (El.row muE x))) hA.2) (zl 1 rfl (tc_ fn23 rfl (samem_r (looD (extM l) (formq l2 0 ((extM l).q.g.inp + (extM l).q.g.us.length)).1).2.1 (by omega)) (zl 8 rfl ?_)))
        refine nf_ [4,6] [so 7 _,so 8 _,so 9 _,so 10 _,so 56 _,so 57 _,so 58 _] [_,_,_,_,none,none,none] rfl rfl rfl (zc 1 rfl (tq_ rfl (jad (i + 1) rfl) (zl 2 rfl (trim_ 4 rfl ?_))))
        exact nx_ ⟨i + 1,rfl,rfl,rfl,hi⟩ rfl
       ·refine zl 3 rfl ?_
        refine two_ rfl (fun hz=>?_) (fun hz=>?_)
        ·refine zl 1 rfl ?_
         by_cases hg:(looD (extM l) (formq l2 0 ((extM l).q.g.inp + (extM l).q.g.us.length)).1).1 < (simD (n % 5) (extM l) (formq l2 0 ((extM l).q.g.inp + (extM l).q.g.us.length)).1).1
         ·refine tq_ rfl (gtT rfl (by have:=cmpq_gt.2 hg;omega)) (zl 13 rfl ?_)
          have hA:=bothD_t (show fstP (n % 5) i (extM l) (formq l2 0 ((extM l).q.g.inp + (extM l).q.g.us.length)).1 from ⟨ha,.inr (.inl hg)⟩)
          refine nf_ [6] [so 7 _,so 8 _,so 9 _,so 10 _,so 13 _,so 14 _,so 16 _,so 17 _,so 56 _,so 57 _,so 58 _] [_,_,_,_,_,_,none] rfl rfl rfl (zc 2 rfl (eq_ (D.agg (qL (simD (n % 5) (extM l) (formq l2 0 ((extM l).q.g.inp + (extM l).q.g.us.length)).1).1)) rfl (congrArg (fun x=>D.agg (qL x)) hA.1) (zl 1 rfl ?_)))
          refine tc_ fn24 rfl (rqsame (qOf (simD (n % 5) (extM l) (formq l2 0 ((extM l).q.g.inp + (extM l).q.g.us.length)).1).1) (qOf (simD (n % 5) (extM l) (formq l2 0 ((extM l).q.g.inp + (extM l).q.g.us.length)).1).1)) (is_ true rfl (sameQ_self _) (zl 3 rfl ?_))
          refine eq_ (D.v (V.one (El.row muE (simD (n % 5) (extM l) (formq l2 0 ((extM l).q.g.inp + (extM l).q.g.us.length)).1).2.1))) rfl (congrArg (fun x=>D.v (V.one (El.row muE x))) hA.2) (zl 1 rfl (tc_ fn23 rfl (samem_r (simD (n % 5) (extM l) (formq l2 0 ((extM l).q.g.inp + (extM l).q.g.us.length)).1).2.1 (by omega)) (zl 8 rfl ?_)))
          refine nf_ [4,5] [so 7 _,so 8 _,so 9 _,so 10 _,so 56 _,so 57 _,so 58 _] [_,_,_,_,none,none,none] rfl rfl rfl (zc 1 rfl (tq_ rfl (jad (i + 1) rfl) (zl 2 rfl (trim_ 4 rfl ?_))))
          exact nx_ ⟨i + 1,rfl,rfl,rfl,hi⟩ rfl
         ·refine tq_ rfl (gtF rfl (fun e=>hg (cmpq_gt.1 e))) (zl 3 rfl ?_)
          by_cases he:(simD (n % 5) (extM l) (formq l2 0 ((extM l).q.g.inp + (extM l).q.g.us.length)).1).1 = (looD (extM l) (formq l2 0 ((extM l).q.g.inp + (extM l).q.g.us.length)).1).1
          ·refine tq_ rfl (eqT rfl (cmpq_eq0.2 he)) (zl 7 rfl ?_)
           refine Tc_cond rfl (fun h0=>?_) (fun h0=>?_)
           ·refine zc 1 rfl ?_
            have hA:=bothD_t (show fstP (n % 5) i (extM l) (formq l2 0 ((extM l).q.g.inp + (extM l).q.g.us.length)).1 from ⟨ha,.inr (.inr ⟨he,by simpa using h0⟩)⟩)
            refine nf_ [6] [so 7 _,so 8 _,so 9 _,so 10 _,so 13 _,so 14 _,so 16 _,so 17 _,so 56 _,so 57 _,so 58 _] [_,_,_,_,_,_,none] rfl rfl rfl (zc 2 rfl (eq_ (D.agg (qL (simD (n % 5) (extM l) (formq l2 0 ((extM l).q.g.inp + (extM l).q.g.us.length)).1).1)) rfl (congrArg (fun x=>D.agg (qL x)) hA.1) (zl 1 rfl ?_)))
            refine tc_ fn24 rfl (rqsame (qOf (simD (n % 5) (extM l) (formq l2 0 ((extM l).q.g.inp + (extM l).q.g.us.length)).1).1) (qOf (simD (n % 5) (extM l) (formq l2 0 ((extM l).q.g.inp + (extM l).q.g.us.length)).1).1)) (is_ true rfl (sameQ_self _) (zl 3 rfl ?_))
            refine eq_ (D.v (V.one (El.row muE (simD (n % 5) (extM l) (formq l2 0 ((extM l).q.g.inp + (extM l).q.g.us.length)).1).2.1))) rfl (congrArg (fun x=>D.v (V.one (El.row muE x))) hA.2) (zl 1 rfl (tc_ fn23 rfl (samem_r (simD (n % 5) (extM l) (formq l2 0 ((extM l).q.g.inp + (extM l).q.g.us.length)).1).2.1 (by omega)) (zl 8 rfl ?_)))
            refine nf_ [4,5] [so 7 _,so 8 _,so 9 _,so 10 _,so 56 _,so 57 _,so 58 _] [_,_,_,_,none,none,none] rfl rfl rfl (zc 1 rfl (tq_ rfl (jad (i + 1) rfl) (zl 2 rfl (trim_ 4 rfl ?_))))
            exact nx_ ⟨i + 1,rfl,rfl,rfl,hi⟩ rfl
           ·refine zc 1 rfl ?_
            have hA:=bothD_f hok (show ¬ fstP (n % 5) i (extM l) (formq l2 0 ((extM l).q.g.inp + (extM l).q.g.us.length)).1 from fun e=>by rcases e.2 with e | e | e <;> first | (exact hg e) | (rw [e] at hz;exact absurd hz (by decide)) | (have:=e.2;simp [this] at h0))
            refine zc 2 rfl (eq_ (D.agg (qL (looD (extM l) (formq l2 0 ((extM l).q.g.inp + (extM l).q.g.us.length)).1).1)) rfl (congrArg (fun x=>D.agg (qL x)) hA.1) (zl 1 rfl (tc_ fn24 rfl (rqsame (qOf (looD (extM l) (formq l2 0 ((extM l).q.g.inp + (extM l).q.g.us.length)).1).1) (qOf (looD (extM l) (formq l2 0 ((extM l).q.g.inp + (extM l).q.g.us.length)).1).1)) (is_ true rfl (sameQ_self _) ?_))))
            refine zl 3 rfl (eq_ (D.v (V.one (El.row muE (looD (extM l) (formq l2 0 ((extM l).q.g.inp + (extM l).q.g.us.length)).1).2.1))) rfl (congrArg (fun x=>D.v (V.one (El.row muE x))) hA.2) (zl 1 rfl (tc_ fn23 rfl (samem_r (looD (extM l) (formq l2 0 ((extM l).q.g.inp + (extM l).q.g.us.length)).1).2.1 (by omega)) (zl 8 rfl ?_))))
            refine nf_ [4,5,6] [so 7 _,so 8 _,so 9 _,so 10 _,so 56 _,so 57 _,so 58 _] [_,_,_,_,none,none,none] rfl rfl rfl (zc 1 rfl (tq_ rfl (jad (i + 1) rfl) (zl 2 rfl (trim_ 4 rfl ?_))))
            exact nx_ ⟨i + 1,rfl,rfl,rfl,hi⟩ rfl
          ·refine tq_ rfl (eqF rfl (fun e=>he (cmpq_eq0.1 e))) (zl 9 rfl ?_)
           have hA:=bothD_f hok (show ¬ fstP (n % 5) i (extM l) (formq l2 0 ((extM l).q.g.inp + (extM l).q.g.us.length)).1 from fun e=>by rcases e.2 with e | e | e <;> first | (exact hg e) | (rw [e] at hz;exact absurd hz (by decide)) | (exact he e.1))
           refine nf_ [5] [so 7 _,so 8 _,so 9 _,so 10 _,so 13 _,so 14 _,so 19 _,so 20 _,so 56 _,so 57 _,so 58 _] [_,_,_,_,_,none,_] rfl rfl rfl (zc 2 rfl (eq_ (D.agg (qL (looD (extM l) (formq l2 0 ((extM l).q.g.inp + (extM l).q.g.us.length)).1).1)) rfl (congrArg (fun x=>D.agg (qL x)) hA.1) (zl 1 rfl ?_)))
           refine tc_ fn24 rfl (rqsame (qOf (looD (extM l) (formq l2 0 ((extM l).q.g.inp + (extM l).q.g.us.length)).1).1) (qOf (looD (extM l) (formq l2 0 ((extM l).q.g.inp + (extM l).q.g.us.length)).1).1)) (is_ true rfl (sameQ_self _) (zl 3 rfl ?_))
           refine eq_ (D.v (V.one (El.row muE (looD (extM l) (formq l2 0 ((extM l).q.g.inp + (extM l).q.g.us.length)).1).2.1))) rfl (congrArg (fun x=>D.v (V.one (El.row muE x))) hA.2) (zl 1 rfl (tc_ fn23 rfl (samem_r (looD (extM l) (formq l2 0 ((extM l).q.g.inp + (extM l).q.g.us.length)).1).2.1 (by omega)) (zl 8 rfl ?_)))
           refine nf_ [4,6] [so 7 _,so 8 _,so 9 _,so 10 _,so 56 _,so 57 _,so 58 _] [_,_,_,_,none,none,none] rfl rfl rfl (zc 1 rfl (tq_ rfl (jad (i + 1) rfl) (zl 2 rfl (trim_ 4 rfl ?_))))
           exact nx_ ⟨i + 1,rfl,rfl,rfl,hi⟩ rfl
        ·refine zl 15 rfl ?_
         have hA:=bothD_t (show fstP (n % 5) i (extM l) (formq l2 0 ((extM l).q.g.inp + (extM l).q.g.us.length)).1 from ⟨ha,.inl (by simpa using hz)⟩)
         refine nf_ [6] [so 7 _,so 8 _,so 9 _,so 10 _,so 13 _,so 14 _,so 16 _,so 17 _,so 56 _,so 57 _,so 58 _] [_,_,_,_,_,_,none] rfl rfl rfl (zc 2 rfl (eq_ (D.agg (qL (simD (n % 5) (extM l) (formq l2 0 ((extM l).q.g.inp + (extM l).q.g.us.length)).1).1)) rfl (congrArg (fun x=>D.agg (qL x)) hA.1) (zl 1 rfl ?_)))
         refine tc_ fn24 rfl (rqsame (qOf (simD (n % 5) (extM l) (formq l2 0 ((extM l).q.g.inp + (extM l).q.g.us.length)).1).1) (qOf (simD (n % 5) (extM l) (formq l2 0 ((extM l).q.g.inp + (extM l).q.g.us.length)).1).1)) (is_ true rfl (sameQ_self _) (zl 3 rfl ?_))
         refine eq_ (D.v (V.one (El.row muE (simD (n % 5) (extM l) (formq l2 0 ((extM l).q.g.inp + (extM l).q.g.us.length)).1).2.1))) rfl (congrArg (fun x=>D.v (V.one (El.row muE x))) hA.2) (zl 1 rfl (tc_ fn23 rfl (samem_r (simD (n % 5) (extM l) (formq l2 0 ((extM l).q.g.inp + (extM l).q.g.us.length)).1).2.1 (by omega)) (zl 8 rfl ?_)))
         refine nf_ [4,5] [so 7 _,so 8 _,so 9 _,so 10 _,so 56 _,so 57 _,so 58 _] [_,_,_,_,none,none,none] rfl rfl rfl (zc 1 rfl (tq_ rfl (jad (i + 1) rfl) (zl 2 rfl (trim_ 4 rfl ?_))))
         exact nx_ ⟨i + 1,rfl,rfl,rfl,hi⟩ rfl
      ·refine zl 1 rfl (te_ rfl (Je_invoke rfl rfl (by kernel_rfl) fn207 rfl (name_i (n % 5) i) (csI_one _ _ _ _)) (tq_ rfl (Jq_str_ne rfl rfl rfl (d:=false) (nm_ne hn_)) (zl 10 rfl ?_)))
       refine tc_ fn22 rfl (rqcmp (qOf ((simD (n % 5) (extM l) (formq l2 0 ((extM l).q.g.inp + (extM l).q.g.us.length)).1).1)) ((simD (n % 5) (extM l) (formq l2 0 ((extM l).q.g.inp + (extM l).q.g.us.length)).1).1) (qOf_q _) (Br.use (by omega)) (qOf ((looD (extM l) (formq l2 0 ((extM l).q.g.inp + (extM l).q.g.us.length)).1).1)) ((looD (extM l) (formq l2 0 ((extM l).q.g.inp + (extM l).q.g.us.length)).1).1) (qOf_q _) (Br.use (by omega))) ?_
       refine zl 4 rfl ?_
       refine nz_ [so 7 _,so 8 _,so 9 _,so 10 _,so 13 _,so 14 _,so 16 _,so 17 _,so 18 _,so 19 _,so 20 _,so 21 _,so 22 (D.bool (decide (i = 0))),so 23 (D.val (.int .i64 (cmpq ((simD (n % 5) (extM l) (formq l2 0 ((extM l).q.g.inp + (extM l).q.g.us.length)).1).1) ((looD (extM l) (formq l2 0 ((extM l).q.g.inp + (extM l).q.g.us.length)).1).1)))),so 56 _,so 57 _,so 58 _] [_,_,_,_,_,_,_] rfl rfl ?_
       refine zc 3 rfl ?_
       refine two_ rfl (fun ha=>?_) (fun ha=>?_)
       ·refine zl 18 rfl ?_
        have hA:=bothD_f hok (show ¬ fstP (n % 5) i (extM l) (formq l2 0 ((extM l).q.g.inp + (extM l).q.g.us.length)).1 from fun e=>by have e1:=e.1;rw [ha] at e1;exact absurd e1 (by decide))
        refine nf_ [5] [so 7 _,so 8 _,so 9 _,so 10 _,so 13 _,so 14 _,so 19 _,so 20 _,so 56 _,so 57 _,so 58 _] [_,_,_,_,_,none,_] rfl rfl rfl (zc 2 rfl (eq_ (D.agg (qL (looD (extM l) (formq l2 0 ((extM l).q.g.inp + (extM l).q.g.us.length)).1).1)) rfl (congrArg (fun x=>D.agg (qL x)) hA.1) (zl 1 rfl ?_)))
        refine tc_ fn24 rfl (rqsame (qOf (looD (extM l) (formq l2 0 ((extM l).q.g.inp + (extM l).q.g.us.length)).1).1) (qOf (looD (extM l) (formq l2 0 ((extM l).q.g.inp + (extM l).q.g.us.length)).1).1)) (is_ true rfl (sameQ_self _) (zl 3 rfl ?_))
        refine eq_ (D.v (V.one (El.row muE (looD (extM l) (formq l2 0 ((extM l).q.g.inp + (extM l).q.g.us.length)).1).2.1))) rfl (congrArg (fun x=>D.v (V.one (El.row muE x))) hA.2) (zl 1 rfl (tc_ fn23 rfl (samem_r (looD (extM l) (formq l2 0 ((extM l).q.g.inp + (extM l).q.g.us.length)).1).2.1 (by omega)) (zl 8 rfl ?_)))
        refine nf_ [4,6] [so 7 _,so 8 _,so 9 _,so 10 _,so 56 _,so 57 _,so 58 _] [_,_,_,_,none,none,none] rfl rfl rfl (zc 1 rfl (tq_ rfl (jad (i + 1) rfl) (zl 2 rfl (trim_ 4 rfl ?_))))
        exact nx_ ⟨i + 1,rfl,rfl,rfl,hi⟩ rfl
       ·refine zl 3 rfl ?_
        refine two_ rfl (fun hz=>?_) (fun hz=>?_)
        ·refine zl 1 rfl ?_
         by_cases hg:(looD (extM l) (formq l2 0 ((extM l).q.g.inp + (extM l).q.g.us.length)).1).1 < (simD (n % 5) (extM l) (formq l2 0 ((extM l).q.g.inp + (extM l).q.g.us.length)).1).1
         ·refine tq_ rfl (gtT rfl (by have:=cmpq_gt.2 hg;omega)) (zl 13 rfl ?_)
          have hA:=bothD_t (show fstP (n % 5) i (extM l) (formq l2 0 ((extM l).q.g.inp + (extM l).q.g.us.length)).1 from ⟨ha,.inr (.inl hg)⟩)
          refine nf_ [6] [so 7 _,so 8 _,so 9 _,so 10 _,so 13 _,so 14 _,so 16 _,so 17 _,so 56 _,so 57 _,so 58 _] [_,_,_,_,_,_,none] rfl rfl rfl (zc 2 rfl (eq_ (D.agg (qL (simD (n % 5) (extM l) (formq l2 0 ((extM l).q.g.inp + (extM l).q.g.us.length)).1).1)) rfl (congrArg (fun x=>D.agg (qL x)) hA.1) (zl 1 rfl ?_)))
          refine tc_ fn24 rfl (rqsame (qOf (simD (n % 5) (extM l) (formq l2 0 ((extM l).q.g.inp + (extM l).q.g.us.length)).1).1) (qOf (simD (n % 5) (extM l) (formq l2 0 ((extM l).q.g.inp + (extM l).q.g.us.length)).1).1)) (is_ true rfl (sameQ_self _) (zl 3 rfl ?_))
          refine eq_ (D.v (V.one (El.row muE (simD (n % 5) (extM l) (formq l2 0 ((extM l).q.g.inp + (extM l).q.g.us.length)).1).2.1))) rfl (congrArg (fun x=>D.v (V.one (El.row muE x))) hA.2) (zl 1 rfl (tc_ fn23 rfl (samem_r (simD (n % 5) (extM l) (formq l2 0 ((extM l).q.g.inp + (extM l).q.g.us.length)).1).2.1 (by omega)) (zl 8 rfl ?_)))
          refine nf_ [4,5] [so 7 _,so 8 _,so 9 _,so 10 _,so 56 _,so 57 _,so 58 _] [_,_,_,_,none,none,none] rfl rfl rfl (zc 1 rfl (tq_ rfl (jad (i + 1) rfl) (zl 2 rfl (trim_ 4 rfl ?_))))
          exact nx_ ⟨i + 1,rfl,rfl,rfl,hi⟩ rfl
         ·refine tq_ rfl (gtF rfl (fun e=>hg (cmpq_gt.1 e))) (zl 3 rfl ?_)
          by_cases he:(simD (n % 5) (extM l) (formq l2 0 ((extM l).q.g.inp + (extM l).q.g.us.length)).1).1 = (looD (extM l) (formq l2 0 ((extM l).q.g.inp + (extM l).q.g.us.length)).1).1
          ·refine tq_ rfl (eqT rfl (cmpq_eq0.2 he)) (zl 7 rfl ?_)
           refine Tc_cond rfl (fun h0=>?_) (fun h0=>?_)
           ·refine zc 1 rfl ?_
            have hA:=bothD_t (show fstP (n % 5) i (extM l) (formq l2 0 ((extM l).q.g.inp + (extM l).q.g.us.length)).1 from ⟨ha,.inr (.inr ⟨he,by simpa using h0⟩)⟩)
            refine nf_ [6] [so 7 _,so 8 _,so 9 _,so 10 _,so 13 _,so 14 _,so 16 _,so 17 _,so 56 _,so 57 _,so 58 _] [_,_,_,_,_,_,none] rfl rfl rfl (zc 2 rfl (eq_ (D.agg (qL (simD (n % 5) (extM l) (formq l2 0 ((extM l).q.g.inp + (extM l).q.g.us.length)).1).1)) rfl (congrArg (fun x=>D.agg (qL x)) hA.1) (zl 1 rfl ?_)))
            refine tc_ fn24 rfl (rqsame (qOf (simD (n % 5) (extM l) (formq l2 0 ((extM l).q.g.inp + (extM l).q.g.us.length)).1).1) (qOf (simD (n % 5) (extM l) (formq l2 0 ((extM l).q.g.inp + (extM l).q.g.us.length)).1).1)) (is_ true rfl (sameQ_self _) (zl 3 rfl ?_))
            refine eq_ (D.v (V.one (El.row muE (simD (n % 5) (extM l) (formq l2 0 ((extM l).q.g.inp + (extM l).q.g.us.length)).1).2.1))) rfl (congrArg (fun x=>D.v (V.one (El.row muE x))) hA.2) (zl 1 rfl (tc_ fn23 rfl (samem_r (simD (n % 5) (extM l) (formq l2 0 ((extM l).q.g.inp + (extM l).q.g.us.length)).1).2.1 (by omega)) (zl 8 rfl ?_)))
            refine nf_ [4,5] [so 7 _,so 8 _,so 9 _,so 10 _,so 56 _,so 57 _,so 58 _] [_,_,_,_,none,none,none] rfl rfl rfl (zc 1 rfl (tq_ rfl (jad (i + 1) rfl) (zl 2 rfl (trim_ 4 rfl ?_))))
            exact nx_ ⟨i + 1,rfl,rfl,rfl,hi⟩ rfl
           ·refine zc 1 rfl ?_
            have hA:=bothD_f hok (show ¬ fstP (n % 5) i (extM l) (formq l2 0 ((extM l).q.g.inp + (extM l).q.g.us.length)).1 from fun e=>by rcases e.2 with e | e | e <;> first | (exact hg e) | (rw [e] at hz;exact absurd hz (by decide)) | (have:=e.2;simp [this] at h0))
            refine zc 2 rfl (eq_ (D.agg (qL (looD (extM l) (formq l2 0 ((extM l).q.g.inp + (extM l).q.g.us.length)).1).1)) rfl (congrArg (fun x=>D.agg (qL x)) hA.1) (zl 1 rfl (tc_ fn24 rfl (rqsame (qOf (looD (extM l) (formq l2 0 ((extM l).q.g.inp + (extM l).q.g.us.length)).1).1) (qOf (looD (extM l) (formq l2 0 ((extM l).q.g.inp + (extM l).q.g.us.length)).1).1)) (is_ true rfl (sameQ_self _) ?_))))
            refine zl 3 rfl (eq_ (D.v (V.one (El.row muE (looD (extM l) (formq l2 0 ((extM l).q.g.inp + (extM l).q.g.us.length)).1).2.1))) rfl (congrArg (fun x=>D.v (V.one (El.row muE x))) hA.2) (zl 1 rfl (tc_ fn23 rfl (samem_r (looD (extM l) (formq l2 0 ((extM l).q.g.inp + (extM l).q.g.us.length)).1).2.1 (by omega)) (zl 8 rfl ?_))))
            refine nf_ [4,5,6] [so 7 _,so 8 _,so 9 _,so 10 _,so 56 _,so 57 _,so 58 _] [_,_,_,_,none,none,none] rfl rfl rfl (zc 1 rfl (tq_ rfl (jad (i + 1) rfl) (zl 2 rfl (trim_ 4 rfl ?_))))
            exact nx_ ⟨i + 1,rfl,rfl,rfl,hi⟩ rfl
          ·refine tq_ rfl (eqF rfl (fun e=>he (cmpq_eq0.1 e))) (zl 9 rfl ?_)
           have hA:=bothD_f hok (show ¬ fstP (n % 5) i (extM l) (formq l2 0 ((extM l).q.g.inp + (extM l).q.g.us.length)).1 from fun e=>by rcases e.2 with e | e | e <;> first | (exact hg e) | (rw [e] at hz;exact absurd hz (by decide)) | (exact he e.1))
           refine nf_ [5] [so 7 _,so 8 _,so 9 _,so 10 _,so 13 _,so 14 _,so 19 _,so 20 _,so 56 _,so 57 _,so 58 _] [_,_,_,_,_,none,_] rfl rfl rfl (zc 2 rfl (eq_ (D.agg (qL (looD (extM l) (formq l2 0 ((extM l).q.g.inp + (extM l).q.g.us.length)).1).1)) rfl (congrArg (fun x=>D.agg (qL x)) hA.1) (zl 1 rfl ?_)))
           refine tc_ fn24 rfl (rqsame (qOf (looD (extM l) (formq l2 0 ((extM l).q.g.inp + (extM l).q.g.us.length)).1).1) (qOf (looD (extM l) (formq l2 0 ((extM l).q.g.inp + (extM l).q.g.us.length)).1).1)) (is_ true rfl (sameQ_self _) (zl 3 rfl ?_))
           refine eq_ (D.v (V.one (El.row muE (looD (extM l) (formq l2 0 ((extM l).q.g.inp + (extM l).q.g.us.length)).1).2.1))) rfl (congrArg (fun x=>D.v (V.one (El.row muE x))) hA.2) (zl 1 rfl (tc_ fn23 rfl (samem_r (looD (extM l) (formq l2 0 ((extM l).q.g.inp + (extM l).q.g.us.length)).1).2.1 (by omega)) (zl 8 rfl ?_)))
           refine nf_ [4,6] [so 7 _,so 8 _,so 9 _,so 10 _,so 56 _,so 57 _,so 58 _] [_,_,_,_,none,none,none] rfl rfl rfl (zc 1 rfl (tq_ rfl (jad (i + 1) rfl) (zl 2 rfl (trim_ 4 rfl ?_))))
           exact nx_ ⟨i + 1,rfl,rfl,rfl,hi⟩ rfl
        ·refine zl 15 rfl ?_
         have hA:=bothD_t (show fstP (n % 5) i (extM l) (formq l2 0 ((extM l).q.g.inp + (extM l).q.g.us.length)).1 from ⟨ha,.inl (by simpa using hz)⟩)
         refine nf_ [6] [so 7 _,so 8 _,so 9 _,so 10 _,so 13 _,so 14 _,so 16 _,so 17 _,so 56 _,so 57 _,so 58 _] [_,_,_,_,_,_,none] rfl rfl rfl (zc 2 rfl (eq_ (D.agg (qL (simD (n % 5) (extM l) (formq l2 0 ((extM l).q.g.inp + (extM l).q.g.us.length)).1).1)) rfl (congrArg (fun x=>D.agg (qL x)) hA.1) (zl 1 rfl ?_)))
         refine tc_ fn24 rfl (rqsame (qOf (simD (n % 5) (extM l) (formq l2 0 ((extM l).q.g.inp + (extM l).q.g.us.length)).1).1) (qOf (simD (n % 5) (extM l) (formq l2 0 ((extM l).q.g.inp + (extM l).q.g.us.length)).1).1)) (is_ true rfl (sameQ_self _) (zl 3 rfl ?_))
         refine eq_ (D.v (V.one (El.row muE (simD (n % 5) (extM l) (formq l2 0 ((extM l).q.g.inp + (extM l).q.g.us.length)).1).2.1))) rfl (congrArg (fun x=>D.v (V.one (El.row muE x))) hA.2) (zl 1 rfl (tc_ fn23 rfl (samem_r (simD (n % 5) (extM l) (formq l2 0 ((extM l).q.g.inp + (extM l).q.g.us.length)).1).2.1 (by omega)) (zl 8 rfl ?_)))
         refine nf_ [4,5] [so 7 _,so 8 _,so 9 _,so 10 _,so 56 _,so 57 _,so 58 _] [_,_,_,_,none,none,none] rfl rfl rfl (zc 1 rfl (tq_ rfl (jad (i + 1) rfl) (zl 2 rfl (trim_ 4 rfl ?_))))
         exact nx_ ⟨i + 1,rfl,rfl,rfl,hi⟩ rfl
    ·refine zl 2 rfl (tq_ rfl (Jq_neq_bool rfl rfl rfl un4 (d:=_) (rfl)) (is_ false rfl (by rw [bothD_b,hp];rfl) (zl 12 rfl ?_)))
     refine Tc_cond rfl (fun hok=>?_) (fun hok=>?_)
     ·refine zc 5 rfl (tq_ rfl (jad (i + 1) rfl) (zl 2 rfl (At_free 4 (At_free 5 (At_free 6 (trim_ 4 rfl ?_))))))
      exact nx_ ⟨i + 1,rfl,rfl,rfl,hi⟩ rfl
     ·refine zc 3 rfl (nz_ [so 7 _,so 8 _,so 9 _,so 10 _,so 12 _,so 13 _,so 14 _,so 16 _,so 17 _,so 18 _,so 19 _,so 20 _,so 21 _,so 56 _,so 57 _,so 58 _] [_,_,_,_,_,_,_] rfl rfl (zc 2 rfl (te_ rfl (Je_invoke rfl rfl (by kernel_rfl) fn207 rfl (name_i (n % 5) i) (csI_one _ _ _ _)) (tq_ rfl (Jq_str_eq rfl rfl rfl (d:=(decide (i = 0))) (nm_eq)) (zl 9 rfl ?_)))))
      refine two_ rfl (fun hn_=>?_) (fun hn_=>?_)
      ·refine zl 10 rfl (nz_ [so 7 _,so 8 _,so 9 _,so 10 _,so 13 _,so 14 _,so 16 _,so 17 _,so 18 _,so 19 _,so 20 _,so 21 _,so 22 (D.bool (decide (i = 0))),so 56 _,so 57 _,so 58 _] [_,_,_,_,_,_,_] rfl rfl (zc 3 rfl ?_))
       refine tc_ fn22 rfl (rqcmp (qOf ((simD (n % 5) (extM l) (formq l2 0 ((extM l).q.g.inp + (extM l).q.g.us.length)).1).1)) ((simD (n % 5) (extM l) (formq l2 0 ((extM l).q.g.inp + (extM l).q.g.us.length)).1).1) (qOf_q _) (Br.use (by omega)) (qOf ((looD (extM l) (formq l2 0 ((extM l).q.g.inp + (extM l).q.g.us.length)).1).1)) ((looD (extM l) (formq l2 0 ((extM l).q.g.inp + (extM l).q.g.us.length)).1).1) (qOf_q _) (Br.use (by omega))) ?_
       refine zl 7 rfl ?_
       refine two_ rfl (fun ha=>?_) (fun ha=>?_)
       ·refine zl 18 rfl ?_
        have hA:=bothD_f hok (show ¬ fstP (n % 5) i (extM l) (formq l2 0 ((extM l).q.g.inp + (extM l).q.g.us.length)).1 from fun e=>by have e1:=e.1;rw [ha] at e1;exact absurd e1 (by decide))
        refine nf_ [5] [so 7 _,so 8 _,so 9 _,so 10 _,so 13 _,so 14 _,so 19 _,so 20 _,so 56 _,so 57 _,so 58 _] [_,_,_,_,_,none,_] rfl rfl rfl (zc 2 rfl (eq_ (D.agg (qL (looD (extM l) (formq l2 0 ((extM l).q.g.inp + (extM l).q.g.us.length)).1).1)) rfl (congrArg (fun x=>D.agg (qL x)) hA.1) (zl 1 rfl ?_)))
        refine tc_ fn24 rfl (rqsame (qOf (looD (extM l) (formq l2 0 ((extM l).q.g.inp + (extM l).q.g.us.length)).1).1) (qOf (looD (extM l) (formq l2 0 ((extM l).q.g.inp + (extM l).q.g.us.length)).1).1)) (is_ true rfl (sameQ_self _) (zl 3 rfl ?_))
        refine eq_ (D.v (V.one (El.row muE (looD (extM l) (formq l2 0 ((extM l).q.g.inp + (extM l).q.g.us.length)).1).2.1))) rfl (congrArg (fun x=>D.v (V.one (El.row muE x))) hA.2) (zl 1 rfl (tc_ fn23 rfl (samem_r (looD (extM l) (formq l2 0 ((extM l).q.g.inp + (extM l).q.g.us.length)).1).2.1 (by omega)) (zl 8 rfl ?_)))
        refine nf_ [4,6] [so 7 _,so 8 _,so 9 _,so 10 _,so 56 _,so 57 _,so 58 _] [_,_,_,_,none,none,none] rfl rfl rfl (zc 1 rfl (tq_ rfl (jad (i + 1) rfl) (zl 2 rfl (trim_ 4 rfl ?_))))
        exact nx_ ⟨i + 1,rfl,rfl,rfl,hi⟩ rfl
       ·refine zl 3 rfl ?_
        refine two_ rfl (fun hz=>?_) (fun hz=>?_)
        ·refine zl 1 rfl ?_
         by_cases hg:(looD (extM l) (formq l2 0 ((extM l).q.g.inp + (extM l).q.g.us.length)).1).1 < (simD (n % 5) (extM l) (formq l2 0 ((extM l).q.g.inp + (extM l).q.g.us.length)).1).1
         ·refine tq_ rfl (gtT rfl (by have:=cmpq_gt.2 hg;omega)) (zl 13 rfl ?_)
          have hA:=bothD_t (show fstP (n % 5) i (extM l) (formq l2 0 ((extM l).q.g.inp + (extM l).q.g.us.length)).1 from ⟨ha,.inr (.inl hg)⟩)
          refine nf_ [6] [so 7 _,so 8 _,so 9 _,so 10 _,so 13 _,so 14 _,so 16 _,so 17 _,so 56 _,so 57 _,so 58 _] [_,_,_,_,_,_,none] rfl rfl rfl (zc 2 rfl (eq_ (D.agg (qL (simD (n % 5) (extM l) (formq l2 0 ((extM l).q.g.inp + (extM l).q.g.us.length)).1).1)) rfl (congrArg (fun x=>D.agg (qL x)) hA.1) (zl 1 rfl ?_)))
          refine tc_ fn24 rfl (rqsame (qOf (simD (n % 5) (extM l) (formq l2 0 ((extM l).q.g.inp + (extM l).q.g.us.length)).1).1) (qOf (simD (n % 5) (extM l) (formq l2 0 ((extM l).q.g.inp + (extM l).q.g.us.length)).1).1)) (is_ true rfl (sameQ_self _) (zl 3 rfl ?_))
          refine eq_ (D.v (V.one (El.row muE (simD (n % 5) (extM l) (formq l2 0 ((extM l).q.g.inp + (extM l).q.g.us.length)).1).2.1))) rfl (congrArg (fun x=>D.v (V.one (El.row muE x))) hA.2) (zl 1 rfl (tc_ fn23 rfl (samem_r (simD (n % 5) (extM l) (formq l2 0 ((extM l).q.g.inp + (extM l).q.g.us.length)).1).2.1 (by omega)) (zl 8 rfl ?_)))
          refine nf_ [4,5] [so 7 _,so 8 _,so 9 _,so 10 _,so 56 _,so 57 _,so 58 _] [_,_,_,_,none,none,none] rfl rfl rfl (zc 1 rfl (tq_ rfl (jad (i + 1) rfl) (zl 2 rfl (trim_ 4 rfl ?_))))
          exact nx_ ⟨i + 1,rfl,rfl,rfl,hi⟩ rfl
         ·refine tq_ rfl (gtF rfl (fun e=>hg (cmpq_gt.1 e))) (zl 3 rfl ?_)
          by_cases he:(simD (n % 5) (extM l) (formq l2 0 ((extM l).q.g.inp + (extM l).q.g.us.length)).1).1 = (looD (extM l) (formq l2 0 ((extM l).q.g.inp + (extM l).q.g.us.length)).1).1
          ·refine tq_ rfl (eqT rfl (cmpq_eq0.2 he)) (zl 7 rfl ?_)
           refine Tc_cond rfl (fun h0=>?_) (fun h0=>?_)
           ·refine zc 1 rfl ?_
            have hA:=bothD_t (show fstP (n % 5) i (extM l) (formq l2 0 ((extM l).q.g.inp + (extM l).q.g.us.length)).1 from ⟨ha,.inr (.inr ⟨he,by simpa using h0⟩)⟩)
            refine nf_ [6] [so 7 _,so 8 _,so 9 _,so 10 _,so 13 _,so 14 _,so 16 _,so 17 _,so 56 _,so 57 _,so 58 _] [_,_,_,_,_,_,none] rfl rfl rfl (zc 2 rfl (eq_ (D.agg (qL (simD (n % 5) (extM l) (formq l2 0 ((extM l).q.g.inp + (extM l).q.g.us.length)).1).1)) rfl (congrArg (fun x=>D.agg (qL x)) hA.1) (zl 1 rfl ?_)))
            refine tc_ fn24 rfl (rqsame (qOf (simD (n % 5) (extM l) (formq l2 0 ((extM l).q.g.inp + (extM l).q.g.us.length)).1).1) (qOf (simD (n % 5) (extM l) (formq l2 0 ((extM l).q.g.inp + (extM l).q.g.us.length)).1).1)) (is_ true rfl (sameQ_self _) (zl 3 rfl ?_))
            refine eq_ (D.v (V.one (El.row muE (simD (n % 5) (extM l) (formq l2 0 ((extM l).q.g.inp + (extM l).q.g.us.length)).1).2.1))) rfl (congrArg (fun x=>D.v (V.one (El.row muE x))) hA.2) (zl 1 rfl (tc_ fn23 rfl (samem_r (simD (n % 5) (extM l) (formq l2 0 ((extM l).q.g.inp + (extM l).q.g.us.length)).1).2.1 (by omega)) (zl 8 rfl ?_)))
            refine nf_ [4,5] [so 7 _,so 8 _,so 9 _,so 10 _,so 56 _,so 57 _,so 58 _] [_,_,_,_,none,none,none] rfl rfl rfl (zc 1 rfl (tq_ rfl (jad (i + 1) rfl) (zl 2 rfl (trim_ 4 rfl ?_))))
            exact nx_ ⟨i + 1,rfl,rfl,rfl,hi⟩ rfl
           ·refine zc 1 rfl ?_
            have hA:=bothD_f hok (show ¬ fstP (n % 5) i (extM l) (formq l2 0 ((extM l).q.g.inp + (extM l).q.g.us.length)).1 from fun e=>by rcases e.2 with e | e | e <;> first | (exact hg e) | (rw [e] at hz;exact absurd hz (by decide)) | (have:=e.2;simp [this] at h0))
            refine zc 2 rfl (eq_ (D.agg (qL (looD (extM l) (formq l2 0 ((extM l).q.g.inp + (extM l).q.g.us.length)).1).1)) rfl (congrArg (fun x=>D.agg (qL x)) hA.1) (zl 1 rfl (tc_ fn24 rfl (rqsame (qOf (looD (extM l) (formq l2 0 ((extM l).q.g.inp + (extM l).q.g.us.length)).1).1) (qOf (looD (extM l) (formq l2 0 ((extM l).q.g.inp + (extM l).q.g.us.length)).1).1)) (is_ true rfl (sameQ_self _) ?_))))
            refine zl 3 rfl (eq_ (D.v (V.one (El.row muE (looD (extM l) (formq l2 0 ((extM l).q.g.inp + (extM l).q.g.us.length)).1).2.1))) rfl (congrArg (fun x=>D.v (V.one (El.row muE x))) hA.2) (zl 1 rfl (tc_ fn23 rfl (samem_r (looD (extM l) (formq l2 0 ((extM l).q.g.inp + (extM l).q.g.us.length)).1).2.1 (by omega)) (zl 8 rfl ?_))))
            refine nf_ [4,5,6] [so 7 _,so 8 _,so 9 _,so 10 _,so 56 _,so 57 _,so 58 _] [_,_,_,_,none,none,none] rfl rfl rfl (zc 1 rfl (tq_ rfl (jad (i + 1) rfl) (zl 2 rfl (trim_ 4 rfl ?_))))
            exact nx_ ⟨i + 1,rfl,rfl,rfl,hi⟩ rfl
          ·refine tq_ rfl (eqF rfl (fun e=>he (cmpq_eq0.1 e))) (zl 9 rfl ?_)
           have hA:=bothD_f hok (show ¬ fstP (n % 5) i (extM l) (formq l2 0 ((extM l).q.g.inp + (extM l).q.g.us.length)).1 from fun e=>by rcases e.2 with e | e | e <;> first | (exact hg e) | (rw [e] at hz;exact absurd hz (by decide)) | (exact he e.1))
           refine nf_ [5] [so 7 _,so 8 _,so 9 _,so 10 _,so 13 _,so 14 _,so 19 _,so 20 _,so 56 _,so 57 _,so 58 _] [_,_,_,_,_,none,_] rfl rfl rfl (zc 2 rfl (eq_ (D.agg (qL (looD (extM l) (formq l2 0 ((extM l).q.g.inp + (extM l).q.g.us.length)).1).1)) rfl (congrArg (fun x=>D.agg (qL x)) hA.1) (zl 1 rfl ?_)))
           refine tc_ fn24 rfl (rqsame (qOf (looD (extM l) (formq l2 0 ((extM l).q.g.inp + (extM l).q.g.us.length)).1).1) (qOf (looD (extM l) (formq l2 0 ((extM l).q.g.inp + (extM l).q.g.us.length)).1).1)) (is_ true rfl (sameQ_self _) (zl 3 rfl ?_))
           refine eq_ (D.v (V.one (El.row muE (looD (extM l) (formq l2 0 ((extM l).q.g.inp + (extM l).q.g.us.length)).1).2.1))) rfl (congrArg (fun x=>D.v (V.one (El.row muE x))) hA.2) (zl 1 rfl (tc_ fn23 rfl (samem_r (looD (extM l) (formq l2 0 ((extM l).q.g.inp + (extM l).q.g.us.length)).1).2.1 (by omega)) (zl 8 rfl ?_)))
           refine nf_ [4,6] [so 7 _,so 8 _,so 9 _,so 10 _,so 56 _,so 57 _,so 58 _] [_,_,_,_,none,none,none] rfl rfl rfl (zc 1 rfl (tq_ rfl (jad (i + 1) rfl) (zl 2 rfl (trim_ 4 rfl ?_))))
           exact nx_ ⟨i + 1,rfl,rfl,rfl,hi⟩ rfl
        ·refine zl 15 rfl ?_
         have hA:=bothD_t (show fstP (n % 5) i (extM l) (formq l2 0 ((extM l).q.g.inp + (extM l).q.g.us.length)).1 from ⟨ha,.inl (by simpa using hz)⟩)
         refine nf_ [6] [so 7 _,so 8 _,so 9 _,so 10 _,so 13 _,so 14 _,so 16 _,so 17 _,so 56 _,so 57 _,so 58 _] [_,_,_,_,_,_,none] rfl rfl rfl (zc 2 rfl (eq_ (D.agg (qL (simD (n % 5) (extM l) (formq l2 0 ((extM l).q.g.inp + (extM l).q.g.us.length)).1).1)) rfl (congrArg (fun x=>D.agg (qL x)) hA.1) (zl 1 rfl ?_)))
         refine tc_ fn24 rfl (rqsame (qOf (simD (n % 5) (extM l) (formq l2 0 ((extM l).q.g.inp + (extM l).q.g.us.length)).1).1) (qOf (simD (n % 5) (extM l) (formq l2 0 ((extM l).q.g.inp + (extM l).q.g.us.length)).1).1)) (is_ true rfl (sameQ_self _) (zl 3 rfl ?_))
         refine eq_ (D.v (V.one (El.row muE (simD (n % 5) (extM l) (formq l2 0 ((extM l).q.g.inp + (extM l).q.g.us.length)).1).2.1))) rfl (congrArg (fun x=>D.v (V.one (El.row muE x))) hA.2) (zl 1 rfl (tc_ fn23 rfl (samem_r (simD (n % 5) (extM l) (formq l2 0 ((extM l).q.g.inp + (extM l).q.g.us.length)).1).2.1 (by omega)) (zl 8 rfl ?_)))
         refine nf_ [4,5] [so 7 _,so 8 _,so 9 _,so 10 _,so 56 _,so 57 _,so 58 _] [_,_,_,_,none,none,none] rfl rfl rfl (zc 1 rfl (tq_ rfl (jad (i + 1) rfl) (zl 2 rfl (trim_ 4 rfl ?_))))
         exact nx_ ⟨i + 1,rfl,rfl,rfl,hi⟩ rfl
      ·refine zl 1 rfl (te_ rfl (Je_invoke rfl rfl (by kernel_rfl) fn207 rfl (name_i (n % 5) i) (csI_one _ _ _ _)) (tq_ rfl (Jq_str_ne rfl rfl rfl (d:=false) (nm_ne hn_)) (zl 10 rfl ?_)))
       refine tc_ fn22 rfl (rqcmp (qOf ((simD (n % 5) (extM l) (formq l2 0 ((extM l).q.g.inp + (extM l).q.g.us.length)).1).1)) ((simD (n % 5) (extM l) (formq l2 0 ((extM l).q.g.inp + (extM l).q.g.us.length)).1).1) (qOf_q _) (Br.use (by omega)) (qOf ((looD (extM l) (formq l2 0 ((extM l).q.g.inp + (extM l).q.g.us.length)).1).1)) ((looD (extM l) (formq l2 0 ((extM l).q.g.inp + (extM l).q.g.us.length)).1).1) (qOf_q _) (Br.use (by omega))) ?_
       refine zl 4 rfl ?_
       refine nz_ [so 7 _,so 8 _,so 9 _,so 10 _,so 13 _,so 14 _,so 16 _,so 17 _,so 18 _,so 19 _,so 20 _,so 21 _,so 22 (D.bool (decide (i = 0))),so 23 (D.val (.int .i64 (cmpq ((simD (n % 5) (extM l) (formq l2 0 ((extM l).q.g.inp + (extM l).q.g.us.length)).1).1) ((looD (extM l) (formq l2 0 ((extM l).q.g.inp + (extM l).q.g.us.length)).1).1)))),so 56 _,so 57 _,so 58 _] [_,_,_,_,_,_,_] rfl rfl ?_
       refine zc 3 rfl ?_
       refine two_ rfl (fun ha=>?_) (fun ha=>?_)
       ·refine zl 18 rfl ?_
        have hA:=bothD_f hok (show ¬ fstP (n % 5) i (extM l) (formq l2 0 ((extM l).q.g.inp + (extM l).q.g.us.length)).1 from fun e=>by have e1:=e.1;rw [ha] at e1;exact absurd e1 (by decide))
        refine nf_ [5] [so 7 _,so 8 _,so 9 _,so 10 _,so 13 _,so 14 _,so 19 _,so 20 _,so 56 _,so 57 _,so 58 _] [_,_,_,_,_,none,_] rfl rfl rfl (zc 2 rfl (eq_ (D.agg (qL (looD (extM l) (formq l2 0 ((extM l).q.g.inp + (extM l).q.g.us.length)).1).1)) rfl (congrArg (fun x=>D.agg (qL x)) hA.1) (zl 1 rfl ?_)))
        refine tc_ fn24 rfl (rqsame (qOf (looD (extM l) (formq l2 0 ((extM l).q.g.inp + (extM l).q.g.us.length)).1).1) (qOf (looD (extM l) (formq l2 0 ((extM l).q.g.inp + (extM l).q.g.us.length)).1).1)) (is_ true rfl (sameQ_self _) (zl 3 rfl ?_))
        refine eq_ (D.v (V.one (El.row muE (looD (extM l) (formq l2 0 ((extM l).q.g.inp + (extM l).q.g.us.length)).1).2.1))) rfl (congrArg (fun x=>D.v (V.one (El.row muE x))) hA.2) (zl 1 rfl (tc_ fn23 rfl (samem_r (looD (extM l) (formq l2 0 ((extM l).q.g.inp + (extM l).q.g.us.length)).1).2.1 (by omega)) (zl 8 rfl ?_)))
        refine nf_ [4,6] [so 7 _,so 8 _,so 9 _,so 10 _,so 56 _,so 57 _,so 58 _] [_,_,_,_,none,none,none] rfl rfl rfl (zc 1 rfl (tq_ rfl (jad (i + 1) rfl) (zl 2 rfl (trim_ 4 rfl ?_))))
        exact nx_ ⟨i + 1,rfl,rfl,rfl,hi⟩ rfl
       ·refine zl 3 rfl ?_
        refine two_ rfl (fun hz=>?_) (fun hz=>?_)
        ·refine zl 1 rfl ?_
         by_cases hg:(looD (extM l) (formq l2 0 ((extM l).q.g.inp + (extM l).q.g.us.length)).1).1 < (simD (n % 5) (extM l) (formq l2 0 ((extM l).q.g.inp + (extM l).q.g.us.length)).1).1
         ·refine tq_ rfl (gtT rfl (by have:=cmpq_gt.2 hg;omega)) (zl 13 rfl ?_)
          have hA:=bothD_t (show fstP (n % 5) i (extM l) (formq l2 0 ((extM l).q.g.inp + (extM l).q.g.us.length)).1 from ⟨ha,.inr (.inl hg)⟩)
          refine nf_ [6] [so 7 _,so 8 _,so 9 _,so 10 _,so 13 _,so 14 _,so 16 _,so 17 _,so 56 _,so 57 _,so 58 _] [_,_,_,_,_,_,none] rfl rfl rfl (zc 2 rfl (eq_ (D.agg (qL (simD (n % 5) (extM l) (formq l2 0 ((extM l).q.g.inp + (extM l).q.g.us.length)).1).1)) rfl (congrArg (fun x=>D.agg (qL x)) hA.1) (zl 1 rfl ?_)))
          refine tc_ fn24 rfl (rqsame (qOf (simD (n % 5) (extM l) (formq l2 0 ((extM l).q.g.inp + (extM l).q.g.us.length)).1).1) (qOf (simD (n % 5) (extM l) (formq l2 0 ((extM l).q.g.inp + (extM l).q.g.us.length)).1).1)) (is_ true rfl (sameQ_self _) (zl 3 rfl ?_))
          refine eq_ (D.v (V.one (El.row muE (simD (n % 5) (extM l) (formq l2 0 ((extM l).q.g.inp + (extM l).q.g.us.length)).1).2.1))) rfl (congrArg (fun x=>D.v (V.one (El.row muE x))) hA.2) (zl 1 rfl (tc_ fn23 rfl (samem_r (simD (n % 5) (extM l) (formq l2 0 ((extM l).q.g.inp + (extM l).q.g.us.length)).1).2.1 (by omega)) (zl 8 rfl ?_)))
          refine nf_ [4,5] [so 7 _,so 8 _,so 9 _,so 10 _,so 56 _,so 57 _,so 58 _] [_,_,_,_,none,none,none] rfl rfl rfl (zc 1 rfl (tq_ rfl (jad (i + 1) rfl) (zl 2 rfl (trim_ 4 rfl ?_))))
          exact nx_ ⟨i + 1,rfl,rfl,rfl,hi⟩ rfl
         ·refine tq_ rfl (gtF rfl (fun e=>hg (cmpq_gt.1 e))) (zl 3 rfl ?_)
          by_cases he:(simD (n % 5) (extM l) (formq l2 0 ((extM l).q.g.inp + (extM l).q.g.us.length)).1).1 = (looD (extM l) (formq l2 0 ((extM l).q.g.inp + (extM l).q.g.us.length)).1).1
          ·refine tq_ rfl (eqT rfl (cmpq_eq0.2 he)) (zl 7 rfl ?_)
           refine Tc_cond rfl (fun h0=>?_) (fun h0=>?_)
           ·refine zc 1 rfl ?_
            have hA:=bothD_t (show fstP (n % 5) i (extM l) (formq l2 0 ((extM l).q.g.inp + (extM l).q.g.us.length)).1 from ⟨ha,.inr (.inr ⟨he,by simpa using h0⟩)⟩)
            refine nf_ [6] [so 7 _,so 8 _,so 9 _,so 10 _,so 13 _,so 14 _,so 16 _,so 17 _,so 56 _,so 57 _,so 58 _] [_,_,_,_,_,_,none] rfl rfl rfl (zc 2 rfl (eq_ (D.agg (qL (simD (n % 5) (extM l) (formq l2 0 ((extM l).q.g.inp + (extM l).q.g.us.length)).1).1)) rfl (congrArg (fun x=>D.agg (qL x)) hA.1) (zl 1 rfl ?_)))
            refine tc_ fn24 rfl (rqsame (qOf (simD (n % 5) (extM l) (formq l2 0 ((extM l).q.g.inp + (extM l).q.g.us.length)).1).1) (qOf (simD (n % 5) (extM l) (formq l2 0 ((extM l).q.g.inp + (extM l).q.g.us.length)).1).1)) (is_ true rfl (sameQ_self _) (zl 3 rfl ?_))
            refine eq_ (D.v (V.one (El.row muE (simD (n % 5) (extM l) (formq l2 0 ((extM l).q.g.inp + (extM l).q.g.us.length)).1).2.1))) rfl (congrArg (fun x=>D.v (V.one (El.row muE x))) hA.2) (zl 1 rfl (tc_ fn23 rfl (samem_r (simD (n % 5) (extM l) (formq l2 0 ((extM l).q.g.inp + (extM l).q.g.us.length)).1).2.1 (by omega)) (zl 8 rfl ?_)))
            refine nf_ [4,5] [so 7 _,so 8 _,so 9 _,so 10 _,so 56 _,so 57 _,so 58 _] [_,_,_,_,none,none,none] rfl rfl rfl (zc 1 rfl (tq_ rfl (jad (i + 1) rfl) (zl 2 rfl (trim_ 4 rfl ?_))))
            exact nx_ ⟨i + 1,rfl,rfl,rfl,hi⟩ rfl
           ·refine zc 1 rfl ?_
            have hA:=bothD_f hok (show ¬ fstP (n % 5) i (extM l) (formq l2 0 ((extM l).q.g.inp + (extM l).q.g.us.length)).1 from fun e=>by rcases e.2 with e | e | e <;> first | (exact hg e) | (rw [e] at hz;exact absurd hz (by decide)) | (have:=e.2;simp [this] at h0))
            refine zc 2 rfl (eq_ (D.agg (qL (looD (extM l) (formq l2 0 ((extM l).q.g.inp + (extM l).q.g.us.length)).1).1)) rfl (congrArg (fun x=>D.agg (qL x)) hA.1) (zl 1 rfl (tc_ fn24 rfl (rqsame (qOf (looD (extM l) (formq l2 0 ((extM l).q.g.inp + (extM l).q.g.us.length)).1).1) (qOf (looD (extM l) (formq l2 0 ((extM l).q.g.inp + (extM l).q.g.us.length)).1).1)) (is_ true rfl (sameQ_self _) ?_))))
            refine zl 3 rfl (eq_ (D.v (V.one (El.row muE (looD (extM l) (formq l2 0 ((extM l).q.g.inp + (extM l).q.g.us.length)).1).2.1))) rfl (congrArg (fun x=>D.v (V.one (El.row muE x))) hA.2) (zl 1 rfl (tc_ fn23 rfl (samem_r (looD (extM l) (formq l2 0 ((extM l).q.g.inp + (extM l).q.g.us.length)).1).2.1 (by omega)) (zl 8 rfl ?_))))
            refine nf_ [4,5,6] [so 7 _,so 8 _,so 9 _,so 10 _,so 56 _,so 57 _,so 58 _] [_,_,_,_,none,none,none] rfl rfl rfl (zc 1 rfl (tq_ rfl (jad (i + 1) rfl) (zl 2 rfl (trim_ 4 rfl ?_))))
            exact nx_ ⟨i + 1,rfl,rfl,rfl,hi⟩ rfl
          ·refine tq_ rfl (eqF rfl (fun e=>he (cmpq_eq0.1 e))) (zl 9 rfl ?_)
           have hA:=bothD_f hok (show ¬ fstP (n % 5) i (extM l) (formq l2 0 ((extM l).q.g.inp + (extM l).q.g.us.length)).1 from fun e=>by rcases e.2 with e | e | e <;> first | (exact hg e) | (rw [e] at hz;exact absurd hz (by decide)) | (exact he e.1))
           refine nf_ [5] [so 7 _,so 8 _,so 9 _,so 10 _,so 13 _,so 14 _,so 19 _,so 20 _,so 56 _,so 57 _,so 58 _] [_,_,_,_,_,none,_] rfl rfl rfl (zc 2 rfl (eq_ (D.agg (qL (looD (extM l) (formq l2 0 ((extM l).q.g.inp + (extM l).q.g.us.length)).1).1)) rfl (congrArg (fun x=>D.agg (qL x)) hA.1) (zl 1 rfl ?_)))
           refine tc_ fn24 rfl (rqsame (qOf (looD (extM l) (formq l2 0 ((extM l).q.g.inp + (extM l).q.g.us.length)).1).1) (qOf (looD (extM l) (formq l2 0 ((extM l).q.g.inp + (extM l).q.g.us.length)).1).1)) (is_ true rfl (sameQ_self _) (zl 3 rfl ?_))
           refine eq_ (D.v (V.one (El.row muE (looD (extM l) (formq l2 0 ((extM l).q.g.inp + (extM l).q.g.us.length)).1).2.1))) rfl (congrArg (fun x=>D.v (V.one (El.row muE x))) hA.2) (zl 1 rfl (tc_ fn23 rfl (samem_r (looD (extM l) (formq l2 0 ((extM l).q.g.inp + (extM l).q.g.us.length)).1).2.1 (by omega)) (zl 8 rfl ?_)))
           refine nf_ [4,6] [so 7 _,so 8 _,so 9 _,so 10 _,so 56 _,so 57 _,so 58 _] [_,_,_,_,none,none,none] rfl rfl rfl (zc 1 rfl (tq_ rfl (jad (i + 1) rfl) (zl 2 rfl (trim_ 4 rfl ?_))))
           exact nx_ ⟨i + 1,rfl,rfl,rfl,hi⟩ rfl
        ·refine zl 15 rfl ?_
         have hA:=bothD_t (show fstP (n % 5) i (extM l) (formq l2 0 ((extM l).q.g.inp + (extM l).q.g.us.length)).1 from ⟨ha,.inl (by simpa using hz)⟩)
         refine nf_ [6] [so 7 _,so 8 _,so 9 _,so 10 _,so 13 _,so 14 _,so 16 _,so 17 _,so 56 _,so 57 _,so 58 _] [_,_,_,_,_,_,none] rfl rfl rfl (zc 2 rfl (eq_ (D.agg (qL (simD (n % 5) (extM l) (formq l2 0 ((extM l).q.g.inp + (extM l).q.g.us.length)).1).1)) rfl (congrArg (fun x=>D.agg (qL x)) hA.1) (zl 1 rfl ?_)))
         refine tc_ fn24 rfl (rqsame (qOf (simD (n % 5) (extM l) (formq l2 0 ((extM l).q.g.inp + (extM l).q.g.us.length)).1).1) (qOf (simD (n % 5) (extM l) (formq l2 0 ((extM l).q.g.inp + (extM l).q.g.us.length)).1).1)) (is_ true rfl (sameQ_self _) (zl 3 rfl ?_))
         refine eq_ (D.v (V.one (El.row muE (simD (n % 5) (extM l) (formq l2 0 ((extM l).q.g.inp + (extM l).q.g.us.length)).1).2.1))) rfl (congrArg (fun x=>D.v (V.one (El.row muE x))) hA.2) (zl 1 rfl (tc_ fn23 rfl (samem_r (simD (n % 5) (extM l) (formq l2 0 ((extM l).q.g.inp + (extM l).q.g.us.length)).1).2.1 (by omega)) (zl 8 rfl ?_)))
         refine nf_ [4,5] [so 7 _,so 8 _,so 9 _,so 10 _,so 56 _,so 57 _,so 58 _] [_,_,_,_,none,none,none] rfl rfl rfl (zc 1 rfl (tq_ rfl (jad (i + 1) rfl) (zl 2 rfl (trim_ 4 rfl ?_))))
         exact nx_ ⟨i + 1,rfl,rfl,rfl,hi⟩ rfl
   ·refine tq_ rfl (ltF rfl) (zl 12 rfl (tq_ rfl (Jq_iface (vs:=[.string ⟨#[97]⟩,.int .i64 ((n % 5:Nat):Int)]) rfl rfl (by kernel_rfl)) (tc_ fn30 rfl (both_n1 48 [.string ⟨#[97]⟩,.int .i64 ((n % 5:Nat):Int)]) (tq_ rfl (Jq_eql_nil rfl rfl rfl (by kernel_rfl)) (zl 2 rfl (tq_ rfl (Jq_iface (vs:=[.string ⟨#[97]⟩,.int .i64 ((n % 5:Nat):Int)]) rfl rfl (by kernel_rfl)) ?_))))))
    refine tc_ fn30 rfl (both_n2 48 [.string ⟨#[97]⟩,.int .i64 ((n % 5:Nat):Int)]) (tq_ rfl (Jq_eql_nil rfl rfl rfl (by kernel_rfl)) (zl 4 rfl ?_))
    exact r1_ hq_ rfl rfl
end Go.Proofs.YtjdbopkbfkgpdaaGreatDoor
namespace Rc
open Go Go.RowKit Go.ChangeShapes Go.WideShapes
section
variable {H:Type} {enc:TypeId × Value→H} {P:Program} {w:World} {base:Nat} {held:Bool}
@[reducible] def here (w:World):Foot:=Foot.of fun k _=>k < w.heap.size
theorem wf_u8 {n:Int} (h:(Lit.int .u8 n).wf = true):0≤n∧n≤255:=by
 simp [Lit.wf,IntKind.min,IntKind.max,IntKind.bits,IntKind.signed] at h
 omega
theorem cell_lt {a:Addr} {v:Value} (h:w.cell? a = some v):a.block < w.heap.size:=by
 unfold World.cell? at h
 cases hb:w.heap[a.block]? with
 | none=>rw [hb] at h;simp at h
 | some o=>exact (Array.getElem?_eq_some_iff.1 hb).1
variable {tb tn tu tr:Nat}
theorem rdv_u8 {t:Nat} (ht:P.underlying t = some (.int .u8)) {r:Reach} {b0:Nat} {v:Value} {d:DataW H} {p:List MemPlace} (hv:Value.okWide P w r b0 t v) (h:DataW.Trod enc P w base (fun _=>true) held t v d p) :
  ∃ n:Nat,n < 256∧(V.one (Leaf.val (.int .u8 n))).den (here w) v w:=by
 obtain ⟨x,rfl,_,_,hw⟩:=open_int ht hv h
 have:=wf_u8 hw
 exact ⟨x.toNat,by omega,by show _ = _;congr 1;omega,rfl⟩
end
theorem law_calls {P:Program} {f:Nat} {xs:List V} {w:World} {vs:List Value} (h:Ctr P f xs (R.one (V.one (Leaf.val (.bool true))))) (hg:Glob w) (hd:denVs (here w) xs vs w) :
  Calls P f vs.toArray w fun e w'=>e = .returned (.bool true)∧Below w.heap.size w w':=by
 refine Calls.mono (h w vs (fun k _=>k < w.heap.size) hg (fun _ _ hk=>hk) hd) ?_
 rintro e w' ⟨v,rfl,hv,hb⟩
 obtain ⟨rfl,_⟩:v = .bool true∧_:=hv
 exact ⟨rfl,hb⟩
end Rc
set_option linter.unusedSimpArgs false
set_option linter.unusedVariables false
namespace Go.Proofs.YtjdbopkbfkgpdaaGreatDoor
open Go Go.RowKit Rc
theorem own:ownKnob Tryz.prog.godebug = none:=by kernel_rfl
theorem laidOut:laidOutB Tryz.prog = true:=by kernel_rfl
theorem und5:Tryz.prog.underlying 5 = some (.int .u8):=by kernel_rfl
end Go.Proofs.YtjdbopkbfkgpdaaGreatDoor
namespace Rc
open Go Go.RowKit Go.ChangeShapes Go.WideShapes
theorem u8_all:∀ l:List Nat,u8E.all l = l.map fun (x:Nat)=>Leaf.val (.int .u8 (x:Int))
 | []=>rfl
 | x :: l=>by show u8E.f x ++ u8E.all l = _;rw [u8_all l];rfl
section
variable {H:Type} {enc:TypeId × Value→H} {P:Program} {w:World} {base:Nat} {held:Bool}
theorem rdv_bytes {t u:Nat} (ht:P.underlying t = some (.slice u)) (hu:P.underlying u = some (.int .u8)) (hc:P.cellsOf u = 1) {r:Reach} {b0:Nat} {v:Value} {d:DataW H} {p:List MemPlace} (hv:Value.okWide P w r b0 t v)
  (h:DataW.Trod enc P w base (fun _=>true) held t v d p):∃ l:List Nat,l.length≤maxLen∧(∀ x∈l,x < 256)∧(V.one (u8E.row l)).den (here w) v w:=by
 obtain ⟨a0,len0,cap0,rfl⟩:=okWide_slice ht hv
 obtain ⟨fuel,hf⟩:=h
 rcases open_ints ht hu hc hf with ⟨hcs,_⟩ | ⟨a,len,cap,zs,hcs,_,hl,hm,hz,_,hcell,hwf⟩
 ·simp [Value.cells] at hcs
  obtain ⟨rfl,rfl,rfl⟩:=hcs
  exact ⟨[],Nat.zero_le _,fun x hx=>by simp at hx,nil_slice _ _⟩
 ·simp [Value.cells] at hcs
  obtain ⟨rfl,rfl,rfl⟩:=hcs
  simp only [if_true] at hz
  have hlen:((zs.take len0).map Int.toNat).length = len0:=by simp;omega
  refine ⟨(zs.take len0).map Int.toNat,by rw [hlen];omega,?_,?_⟩
  ·intro y hy
   obtain ⟨n,hn,rfl⟩:=List.mem_map.1 hy
   have:=wf_u8 (hwf n (List.mem_of_mem_take hn))
   omega
  ·show (sliceRep ((zs.take len0).map Int.toNat).length _).P _ _ _
   rw [hlen,u8_all]
   refine ⟨some a,cap0,rfl,hl,hm,fun h=>by simp at h,fun ad had=>?_⟩
   cases had
   refine ⟨fun h0=>?_,fun i lf hi=>?_⟩
   ·obtain ⟨b,off,rfl,_⟩:=ints_at hcell (by first | omega | (simp at h0;omega))
    rfl
   ·rw [List.getElem?_map,List.getElem?_map,List.getElem?_take] at hi
    split at hi
    ·rename_i hil
     have hiz:i < zs.length:=by omega
     obtain ⟨b,off,rfl,hc2⟩:=ints_at hcell (by omega)
     have hci:=hc2 i hiz
     rw [List.getElem?_eq_getElem hiz] at hi
     simp only [Option.map_some,Option.some.injEq] at hi
     subst hi
     have hw:=wf_u8 (hwf zs[i] (List.getElem_mem hiz))
     have hlt:b < w.heap.size:=cell_lt hci
     refine ⟨hlt,_,hci,?_,rfl⟩
     rw [List.getD_eq_getElem?_getD,List.getElem?_eq_getElem hiz]
     simp only [Option.getD_some]
     congr 1
     omega
    ·simp at hi
variable {tb tn tu tr:Nat}
end
end Rc
set_option linter.unusedSimpArgs false
set_option linter.unusedVariables false
namespace Go.Proofs.YtjdbopkbfkgpdaaGreatDoor
open Go Go.RowKit Rc
theorem undBs:Tryz.prog.underlying 22 = some (.slice 5):=by kernel_rfl
theorem undU8:Tryz.prog.underlying 5 = some (.int .u8):=by kernel_rfl
theorem cellsU8:Tryz.prog.cellsOf 5 = 1:=by kernel_rfl
end Go.Proofs.YtjdbopkbfkgpdaaGreatDoor
set_option linter.unusedSimpArgs false
set_option linter.unusedVariables false
namespace Go.Proofs.YtjdbopkbfkgpdaaGreatDoor
open Go Go.RowKit Rc
theorem gTab : Tryz.prog.globalNamed "math/bits.deBruijn32tab" = some 0:=by kernel_rfl
theorem tTab:(Tryz.prog.globals[0]?).map (·.type) = some 206:=by kernel_rfl
theorem uTab:Tryz.prog.underlying 206 = some (.array 32 5):=by kernel_rfl
theorem uEl:Tryz.prog.underlying 5 = some (.int .u8):=by kernel_rfl
theorem cEl:Tryz.prog.cellsOf 5 = 1:=by kernel_rfl
theorem cTab:Tryz.prog.cellsOf 206 = 32:=by kernel_rfl
open Go.ChangeShapes Go.WideShapes
@[reducible] def laidL:List (String × DataW Unit):=[("math/bits.deBruijn32tab",Rows.laid_math_bits_deBruijn32tab)]
theorem door_met (os:Os) (args:Array Value):laidMetH Tryz.prog laidL ((World.doorLaid Tryz.prog 400 os).forCall (fun _ _=>0) ⟨#[],args,[]⟩).memory:=
 laidMetH_of_parts3 (fuel:=8) (laidMet_of_run' 8 (by kernel_rfl) (by kernel_rfl)) (by kernel_rfl) (by kernel_rfl)
theorem tab_data:(Rows.laid_math_bits_deBruijn32tab:DataW Unit) = .agg (bruijn.map fun n:Nat=>.lit (.int .u8 (n:Int))):=by kernel_rfl
theorem glob_of_laid {W:World} (h:laidMetH Tryz.prog laidL W):Glob W:=by
 rw [MakeChecks.laidMetH_plain _ _ _ (by kernel_rfl)] at h
 obtain ⟨ps,⟨g0,t0,cs0,f0,p0,q0,hg0,ht0,hv0,hd0,_,_⟩,_⟩:=h
 obtain rfl:=Option.some.inj (gTab.symm.trans hg0)
 obtain rfl:=Option.some.inj (tTab.symm.trans ht0)
 obtain ⟨xs,m,_,hx,hlen,hxs,hel⟩:=DataW.trod_array uTab hd0
 rw [tab_data] at hx
 have hd:=congrArg Prod.fst hx
 simp only [DataW.agg.injEq] at hd
 rw [cTab] at hlen
 have key:∀ (i:Nat) (k:Nat),bruijn[i]? = some k→cs0[i]? = some (.int .u8 (k:Int)):=by
  intro i k hk
  have hi:i < 32:=(List.getElem?_eq_some_iff.1 hk).1
  have h1:=hel i hi
  rw [List.getElem?_eq_getElem (by omega)] at h1
  obtain ⟨n,hc,hxn,_⟩:=DataW.trod_int uEl h1
  have h2:=congrArg (fun l=>l[i]?) hd
  simp only [List.getElem?_map,hk,List.getElem?_eq_getElem (show i < xs.length by omega),Option.map_some,hxn] at h2
  have h3:n = (k:Int):=by
   have:=Option.some.inj h2
   simp only [DataW.lit.injEq,Lit.int.injEq,true_and] at this
   exact this.symm
  subst h3
  rw [cEl,Nat.mul_one] at hc
  have h4:=congrArg (fun l=>l[0]?) hc
  simp only [List.getElem?_take,List.getElem?_drop,Nat.add_zero,Nat.zero_lt_one,if_true,List.getElem?_cons_zero] at h4
  rw [← Array.getElem?_toList]
  exact h4
 intro p hp
 have hp':p = (0,bruijn.map fun n:Nat=>Value.int .u8 (n:Int)):=by simpa [tab,bruijn] using hp
 subst hp'
 have hcell:=fun i:Nat=>World.var?_cell hg0 hv0 i
 refine ⟨?_,fun i v hv=>?_⟩
 ·have h0:=hcell 0
  rw [key 0 0 rfl] at h0
  unfold World.cell? at h0
  cases hh:W.heap[0]? with
  | none=>simp [hh] at h0
  | some o=>exact (Array.getElem?_eq_some_iff.1 hh).1
 ·simp only [List.getElem?_map] at hv
  cases hk:bruijn[i]? with
  | none=>rw [hk] at hv;simp at hv
  | some k=>
   rw [hk] at hv
   simp only [Option.map_some,Option.some.injEq] at hv
   rw [hcell i,key i k hk,hv]
end Go.Proofs.YtjdbopkbfkgpdaaGreatDoor
