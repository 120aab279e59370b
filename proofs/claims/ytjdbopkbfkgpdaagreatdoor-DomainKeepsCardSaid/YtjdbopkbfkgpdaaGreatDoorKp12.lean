/- Parts of the proof, 12: the texts WkDomainKeeps, FwZ, FactsZ, FwX, FactsX, FactsT, FactsK, as far as they are used. -/
import Derived.Test.YtjdbopkbfkgpdaaGreatDoorKp11
import Derived.WalkKit
import Derived.ProofKit
import Derived.OpenShut
import Derived.ShutString
import Derived.ChangeOld
import Derived.Below
import Derived.Test.YtjdbopkbfkgpdaaGreatDoorProg
import Derived.KernelRfl
import Derived.Test.YtjdbopkbfkgpdaaGreatDoorRows
import Derived.LaidMore
import Derived.LaidLaws
import Derived.LaidHandle
import Derived.JoinedOf
import Derived.ChangeSame
import Derived.ChangeVars
import Derived.Stop.Joined
set_option linter.unusedSimpArgs false
set_option linter.unusedVariables false
namespace Go.Proofs.YtjdbopkbfkgpdaaGreatDoor
open Go Go.RowKit Rc
theorem fit10 {a:Qr} (h1:a.n.length≤4) (h2:a.d.length≤4):Fit 10 a:=⟨by omega,by omega⟩
set_option maxRecDepth 10000 in
set_option maxHeartbeats 2000000 in
theorem law_keeps (l:List Nat) (hb:∀ x∈l,x < 256) (k j:Int) (a:Qr):Ctr Tryz.prog 8 [V.one (El.row u8E l),V.agg [Leaf.val (.int .i64 k),Leaf.val (.int .i64 j),Leaf.val (.bool a.neg),natL a.n,natL a.d]] (R.one (V.one (Leaf.val (.bool true)))):=by
 refine Ctr.of_body Tryz.func8 rfl Tryz.ntmps8 (Nat.le_of_ble_eq_true rfl) (fun w0 A0=>?_)
 refine c_a (t_f rfl (Je_box (n:=0) rfl rfl rfl) (a_ FT 1 rfl (cns (c_a (t_f rfl (Je_call rfl fn10 rfl (awake_t)) (a_ FT 1 rfl (c_n (Tc_f rfl (c_b ?_)))))))))
 refine Tc_seq (c_a (a_ FT 1 rfl (t_q rfl (Jq_len rfl rfl un22) ?_)))
 by_cases hl3:300 < l.length
 ·refine t_q rfl (Jq_gtr rfl rfl rfl (b:=true) (dT (by omega))) (a_ FT 14 rfl (c_n (Tc_t rfl (c_a (a_ FT 1 rfl (c_n ?_))))))
  exact Tc_ret1 hq_ rfl rfl rfl
 ·refine t_q rfl (Jq_gtr rfl rfl rfl (b:=false) (dF (by omega))) (a_ FT 4 rfl (t_g rfl rfl rfl rfl (Jq_len rfl rfl un32) ?_))
  by_cases hn:4 < a.n.length
  ·refine t_g rfl rfl rfl rfl (Jq_gtr rfl rfl rfl (b:=true) (dT (by omega))) (a_ FT 8 rfl (c_n (Tc_t rfl (c_a (a_ FT 1 rfl (c_n ?_))))))
   exact Tc_ret1 hq_ rfl rfl rfl
  ·refine t_g rfl rfl rfl rfl (Jq_gtr rfl rfl rfl (b:=false) (dF (by omega))) (a_ FT 5 rfl (t_g rfl rfl rfl rfl (Jq_len rfl rfl un32) ?_))
   by_cases hd:4 < a.d.length
   ·refine t_g rfl rfl rfl rfl (Jq_gtr rfl rfl rfl (b:=true) (dT (by omega))) (a_ FT 1 rfl (c_n (Tc_t rfl (c_a (a_ FT 1 rfl (c_n ?_))))))
    exact Tc_ret1 hq_ rfl rfl rfl
   ·refine t_g rfl rfl rfl rfl (Jq_gtr rfl rfl rfl (b:=false) (dF (by omega))) (a_ FT 1 rfl (c_n (Tc_f rfl (c_b (Tc_seq ?_)))))
    have hl:l.length≤1000000:=by omega
    obtain ⟨hs,h8⟩:=extM_ok l
    have hq:=hs.q
    have hn4:a.n.length≤4:=by omega
    have hd4:a.d.length≤4:=by omega
    have hg:=hq.g
    have g1:=hg.i1;have g2:=hg.i3;have g3:=hg.u4;have g4:=hg.o1;have g5:=hg.o3
    refine Tc_norm [(0,some (D.v (V.one (El.row u8E l)))),(3,some (D.ptr 0 0))] [hb_ 73 [Leaf.val (.int .i64 k),Leaf.val (.int .i64 j),Leaf.val (.bool a.neg),natL a.n,natL a.d]] ⟨rfl,rfl,trivial⟩ rfl (Tc_region (a_ FT 1 rfl (t_f rfl (Je_call rfl fn11 rfl (extend_r l hl hb)) (t_f rfl (Je_alloc (n:=1) rfl tz42 rfl) (a_ FT 1 rfl (cns (c_a (a_ FT 3 rfl ?_))))))))
    refine t_f rfl (Je_call rfl fn26 rfl (fits_top (extM l).q hq k j a (fit10 hn4 hd4))) (a_ FT 1 rfl (c_n ?_))
    refine Tc_cond rfl (fun hfit=>?_) (fun hfit=>?_)
    ·refine c_a (a_ FT 1 rfl (c_n ?_))
     exact Tc_ret1 hq_ rfl rfl rfl
    ·obtain ⟨d,hdk,hdj,hda,hdo⟩:=fits_inv (by simpa using hfit) hn4 hd4
     have hA:=runM_ok absD_ok hs (by omega) 0
     have hsA:=hA.1
     have hp4:=extM_path l
     have hsD:SOk (decS (runM absD (extM l) 0) d):=decS_ok hsA (by have h:(runM absD (extM l) 0).path = (extM l).path:=rfl;rw [h];omega) hdo
     have hB:=runM_ok absD_ok hsD (by show (runM absD (extM l) 0).lems.length≤80;omega) 0
     have hsB:=hB.1
     obtain ⟨r,hr⟩:=runM_more (decS (runM absD (extM l) 0) d) 0
     have hr:(runM absD (decS (runM absD (extM l) 0) d) 0).lems = (runM absD (extM l) 0).lems ++ r:=hr
     have hpA:(runM absD (extM l) 0).path.length≤4:=hp4
     have hDl:(decS (runM absD (extM l) 0) d).lems.length = (runM absD (extM l) 0).lems.length:=rfl
     refine c_b (Tc_seq (Tc_norm [(3,some (D.ptr 0 0)),(5,some (D.ptr 1 0))] [hb_ 73 [Leaf.val (.int .i64 k),Leaf.val (.int .i64 j),Leaf.val (.bool a.neg),natL a.n,natL a.d],hb_ 42 (scL (extM l))] ⟨rfl,rfl,trivial⟩ rfl (Tc_region (t_q rfl (Jq_build rfl tz48 rfl pl48 rfl) (t_q rfl (Jq_iface (vs:=[.string ⟨#[]⟩,.int .i64 0]) rfl rfl (by kernel_rfl)) (a_ FT 1 rfl ?_))))))
     refine t_f rfl (Je_call rfl fn12 rfl (run_simple (extM l) hs (by omega) 0 (by decide) (by decide))) (a_ FT 3 rfl (t_f rfl (Je_alloc (n:=2) rfl tz42 rfl) (a_ FT 2 rfl (cns ?_))))
     refine Tc_norm [(3,some (D.ptr 0 0)),(5,some (D.ptr 1 0)),(6,some (D.ptr 2 0)),(7,some (D.val (.int .i64 0)))] [hb_ 73 [Leaf.val (.int .i64 k),Leaf.val (.int .i64 j),Leaf.val (.bool a.neg),natL a.n,natL a.d],hb_ 42 (scL (extM l)),hb_ 42 (scL (runM absD (extM l) 0))] ⟨rfl,rfl,rfl,rfl,trivial⟩ rfl ?_
     refine Tc_drawK 1 [some 3,none,none,some 3,none,none,some 3,none,some 2] [3,2] follows (by kernel_rfl) (DK_s 3 rfl rfl rfl (Jd_build0G (i:=3) rfl un39 ty73 rfl) (d_ FT 1 rfl (DK_qp [3] (JO_q rfl rfl (Jq_load rfl rfl rfl (by decide) ty39 rfl)) (by kernel_rfl) ?_)))
     obtain ⟨ti4,hi4,hz4,hs4,hb4⟩:=in73
     refine DK_s 3 rfl rfl rfl (Jd_appendRL dcE ([]) ((runM absD (extM l) 0).path) rfl rfl rfl rfl (by decide) un39 un39 hi4 hz4 hs4 rfl (by first | (simp only [maxLen];omega) | (simp only [maxLen,List.length_append,List.length_take,List.length_drop,List.length_cons,List.length_nil];omega)) (by rw [hb4];first | omega | (simp only [List.length_append,List.length_take,List.length_drop,List.length_cons,List.length_nil];omega))) ?_
     refine d_ FT 1 rfl (DK_eq (D.agg (dcE.f d)) (by rw [hdk,hdj,hda];rfl) (DK_c rfl rfl (fun _=>Je_buildSlice rfl un39 ty73 tz73 rfl (by decide) (by decide) rfl (by decide) rfl) ?_))
     obtain ⟨ti5,hi5,hz5,hs5,hb5⟩:=in73
     refine DK_s 3 rfl rfl rfl (Jd_appendR dcE ([] ++ (runM absD (extM l) 0).path) (⟨d.kind,d.idx,d.pt⟩) rfl rfl rfl rfl (by decide) un39 un39 hi5 hz5 hs5 rfl (by first | (simp only [maxLen];omega) | (simp only [maxLen,List.length_append,List.length_take,List.length_drop,List.length_cons,List.length_nil];omega)) (by rw [hb5];first | omega | (simp only [List.length_append,List.length_take,List.length_drop,List.length_cons,List.length_nil];omega))) ?_
     refine d_ FT 1 rfl (DK_s 2 rfl rfl rfl (Jd_store rfl rfl rfl rfl ty39 rfl (by decide) (Nat.le_of_ble_eq_true rfl) rfl) (DK_nil (At_then (Tc_seq (Tc_free 0 ?_)))))
     refine Tc_norm [(5,some (D.ptr 1 0)),(6,some (D.ptr 2 0)),(7,some (D.val (.int .i64 0)))] [none,hb_ 42 (scL (extM l)),hb_ 42 (quL ((runM absD (extM l) 0).q) ++ [Leaf.own 3 2,El.row lmE ((runM absD (extM l) 0).lems)]),hgr 73 5 dcE ([] ++ (runM absD (extM l) 0).path ++ [⟨d.kind,d.idx,d.pt⟩]) 2] ⟨rfl,rfl,rfl,trivial⟩ rfl (Tc_region (t_q rfl (Jq_build rfl tz48 rfl pl48 rfl) ?_))
     refine t_q rfl (Jq_iface (vs:=[.string ⟨#[]⟩,.int .i64 0]) rfl rfl (by kernel_rfl)) ?_
     refine t_q rfl (Jq_view (r:=3) (n:=2) (x:=V.agg (quL ((runM absD (extM l) 0).q) ++ [Leaf.own 3 2,El.row lmE ((runM absD (extM l) 0).lems)])) (x':=V.agg (quL ((runM absD (extM l) 0).q) ++ [El.row dcE ([] ++ (runM absD (extM l) 0).path ++ [⟨d.kind,d.idx,d.pt⟩]),El.row lmE ((runM absD (extM l) 0).lems)])) (Jq_load_agg rfl rfl rfl (by decide) ty42 (by decide) (Nat.le_of_ble_eq_true rfl) rfl) (RowAt.ofE dcE ([] ++ (runM absD (extM l) 0).path ++ [⟨d.kind,d.idx,d.pt⟩]) rfl (by decide)) (by decide) ⟨.inl rfl,.inl rfl,.inl rfl,.inl rfl,.inl rfl,.inl rfl,.inl rfl,.inl rfl,.inl rfl,.inl rfl,.inr ⟨rfl,rfl⟩,.inl rfl,trivial⟩) ?_
     refine t_f rfl (Je_call rfl fn12 rfl (run_simple (decS (runM absD (extM l) 0) d) hsD (by show (runM absD (extM l) 0).lems.length≤80;omega) 0 (by decide) (by decide))) (a_ FT 3 rfl (t_f rfl (Je_alloc (n:=4) rfl tz42 rfl) (a_ FT 2 rfl (cns (Tc_seq ?_)))))
     refine Tc_norm [(5,some (D.ptr 1 0)),(6,some (D.ptr 2 0)),(7,some (D.val (.int .i64 0))),(8,some (D.ptr 4 0)),(9,some (D.val (.int .i64 0)))] [none,hb_ 42 (scL (extM l)),hb_ 42 (quL ((runM absD (extM l) 0).q) ++ [Leaf.own 3 2,El.row lmE ((runM absD (extM l) 0).lems)]),hgr 73 5 dcE ([] ++ (runM absD (extM l) 0).path ++ [⟨d.kind,d.idx,d.pt⟩]) 2,hb_ 42 (scL (runM absD (decS (runM absD (extM l) 0) d) 0))] ⟨rfl,rfl,rfl,rfl,rfl,trivial⟩ rfl ?_
     refine Tc_region (a_ FT 1 rfl (t_q rfl (Jq_neq rfl rfl rfl (b:=false) (rfl)) (a_ FT 2 rfl (t_g rfl rfl rfl rfl (Jq_neq rfl rfl rfl (b:=false) (rfl)) (a_ FT 1 rfl (c_n (Tc_f rfl (c_b (Tc_seq ?_)))))))))
     refine c_a (a_ FT 4 rfl (t_q rfl (Jq_len rfl rfl un24) (a_ FT 1 rfl (c_n (Tc_block ?_)))))
     refine Tc_loopR (fun m Γ H=>∃ (i:Nat),(extM l).q.g.us.length - i = m∧Γ = [(5,some (D.ptr 1 0)),(6,some (D.ptr 2 0)),(8,some (D.ptr 4 0)),(73,some (D.val (.int .i64 ((((extM l).q.g.us).length:Nat):Int)))),(74,some (D.val (.int .i64 ((i:Nat):Int))))]∧H = [none,hb_ 42 (scL (extM l)),hb_ 42 (quL ((runM absD (extM l) 0).q) ++ [Leaf.own 3 2,El.row lmE ((runM absD (extM l) 0).lems)]),hgr 73 5 dcE ([] ++ (runM absD (extM l) 0).path ++ [⟨d.kind,d.idx,d.pt⟩]) 2,hb_ 42 (scL (runM absD (decS (runM absD (extM l) 0) d) 0))]∧i≤(extM l).q.g.us.length) ⟨0,rfl,rfl,rfl,Nat.zero_le _⟩ ⟨rfl,rfl,rfl,rfl,rfl,trivial⟩ ?_
     rintro m Γ H ⟨i,rfl,rfl,rfl,hi0⟩
     refine Tc_seq ?_
     refine Tc_norm [(5,some (D.ptr 1 0)),(6,some (D.ptr 2 0)),(8,some (D.ptr 4 0)),(73,some (D.val (.int .i64 ((((extM l).q.g.us).length:Nat):Int)))),(74,some (D.val (.int .i64 ((i:Nat):Int))))] [none,hb_ 42 (scL (extM l)),hb_ 42 (quL ((runM absD (extM l) 0).q) ++ [Leaf.own 3 2,El.row lmE ((runM absD (extM l) 0).lems)]),hgr 73 5 dcE ([] ++ (runM absD (extM l) 0).path ++ [⟨d.kind,d.idx,d.pt⟩]) 2,hb_ 42 (scL (runM absD (decS (runM absD (extM l) 0) d) 0))] ⟨rfl,rfl,rfl,rfl,rfl,trivial⟩ rfl ?_
     refine Tc_region ?_
     by_cases hi:i < (extM l).q.g.us.length
     ·refine t_q rfl (Jq_lss rfl rfl rfl (b:=true) (dT (by omega))) (cns (Tc_t rfl (c_b (Tc_seq (Tc_block (c_a (a_ FT 2 rfl (cns ?_))))))))
      have hbm:=best_more (l:=(runM absD (extM l) 0).lems) (r:=r) (u:=((i:Nat):Int))
      rw [← hr] at hbm
      refine Tc_region ?_
      refine t_q rfl (Jq_view (r:=3) (n:=2) (x:=V.agg (quL ((runM absD (extM l) 0).q) ++ [Leaf.own 3 2,El.row lmE ((runM absD (extM l) 0).lems)])) (x':=V.agg (quL ((runM absD (extM l) 0).q) ++ [El.row dcE ([] ++ (runM absD (extM l) 0).path ++ [⟨d.kind,d.idx,d.pt⟩]),El.row lmE ((runM absD (extM l) 0).lems)])) (Jq_load_agg rfl rfl rfl (by decide) ty42 (by decide) (Nat.le_of_ble_eq_true rfl) rfl) (RowAt.ofE dcE ([] ++ (runM absD (extM l) 0).path ++ [⟨d.kind,d.idx,d.pt⟩]) rfl (by decide)) (by decide) ⟨.inl rfl,.inl rfl,.inl rfl,.inl rfl,.inl rfl,.inl rfl,.inl rfl,.inl rfl,.inl rfl,.inl rfl,.inr ⟨rfl,rfl⟩,.inl rfl,trivial⟩) ?_
      refine a_ FT 1 rfl (t_f rfl (Je_call rfl fn27 rfl (best_r (decS (runM absD (extM l) 0) d) hsD.B (by omega) (by have:=hsD.ll;omega) ((i:Nat):Int))) (a_ FT 5 rfl (cns ?_)))
      refine Tc_norm [(5,some (D.ptr 1 0)),(6,some (D.ptr 2 0)),(8,some (D.ptr 4 0)),(10,some (D.val (.int .i64 ((i:Nat):Int)))),(11,some (D.val (.int .i64 (((best (runM absD (extM l) 0).lems ((i:Nat):Int)).1:Nat):Int)))),(12,some (D.val (.int .i64 (((best (runM absD (extM l) 0).lems ((i:Nat):Int)).2:Nat):Int)))),(73,some (D.val (.int .i64 ((((extM l).q.g.us).length:Nat):Int)))),(74,some (D.val (.int .i64 ((i:Nat):Int))))] [none,hb_ 42 (scL (extM l)),hb_ 42 (quL ((runM absD (extM l) 0).q) ++ [Leaf.own 3 2,El.row lmE ((runM absD (extM l) 0).lems)]),hgr 73 5 dcE ([] ++ (runM absD (extM l) 0).path ++ [⟨d.kind,d.idx,d.pt⟩]) 2,hb_ 42 (scL (runM absD (decS (runM absD (extM l) 0) d) 0))] ⟨rfl,rfl,rfl,rfl,rfl,rfl,rfl,rfl,trivial⟩ rfl ?_
      refine Tc_region (a_ FT 2 rfl (t_f rfl (Je_call rfl fn27 rfl (best_r (runM absD (decS (runM absD (extM l) 0) d) 0) hsB.B (by omega) (by have:=hsB.ll;omega) ((i:Nat):Int))) (a_ FT 5 rfl (cns (Tc_seq ?_)))))
      refine Tc_norm [(5,some (D.ptr 1 0)),(6,some (D.ptr 2 0)),(8,some (D.ptr 4 0)),(11,some (D.val (.int .i64 (((best (runM absD (extM l) 0).lems ((i:Nat):Int)).1:Nat):Int)))),(12,some (D.val (.int .i64 (((best (runM absD (extM l) 0).lems ((i:Nat):Int)).2:Nat):Int)))),(13,some (D.val (.int .i64 (((best (runM absD (decS (runM absD (extM l) 0) d) 0).lems ((i:Nat):Int)).1:Nat):Int)))),(14,some (D.val (.int .i64 (((best (runM absD (decS (runM absD (extM l) 0) d) 0).lems ((i:Nat):Int)).2:Nat):Int)))),(73,some (D.val (.int .i64 ((((extM l).q.g.us).length:Nat):Int)))),(74,some (D.val (.int .i64 ((i:Nat):Int))))] [none,hb_ 42 (scL (extM l)),hb_ 42 (quL ((runM absD (extM l) 0).q) ++ [Leaf.own 3 2,El.row lmE ((runM absD (extM l) 0).lems)]),hgr 73 5 dcE ([] ++ (runM absD (extM l) 0).path ++ [⟨d.kind,d.idx,d.pt⟩]) 2,hb_ 42 (scL (runM absD (decS (runM absD (extM l) 0) d) 0))] ⟨rfl,rfl,rfl,rfl,rfl,rfl,rfl,rfl,rfl,trivial⟩ rfl ?_
      refine Tc_drawK 0 [none,none,none,none,none,none,none,none,none,none,none,none,none,none,none,none,none,none,none,none,none,none,none,none] [] follows (by kernel_rfl) (d_ FT 1 rfl ?_)
      by_cases hg1:0 < (best (runM absD (extM l) 0).lems ((i:Nat):Int)).1
      ·refine dq_ rfl rfl (Jq_gtr rfl rfl rfl (b:=true) (dT (by omega))) (d_ FT 2 rfl ?_)
       obtain ⟨hm0,hml⟩:=hbm.1 (by omega)
       obtain ⟨x,hx,_,_,hlx,_⟩:=best_lo (show (best (runM absD (extM l) 0).lems ((i:Nat):Int)).1≠0 by omega)
       obtain ⟨y,hy,_,_,hly,_⟩:=best_lo hm0
       rw [hlx,hly] at hml
       haveI hxB:=hsA.B x (List.mem_of_getElem? hx)
       haveI hyB:=hsB.B y (List.mem_of_getElem? hy)
       refine DK_q (JO_qg rfl rfl rfl rfl (Jq_eql rfl rfl rfl (b:=false) (eF (by omega)))) (d_ FT 4 rfl (DK_q (JO_qg rfl rfl rfl rfl (Jq_sub rfl rfl rfl (r:=(((best (runM absD (decS (runM absD (extM l) 0) d) 0).lems ((i:Nat):Int)).1 - 1:Nat):Int)) (w64 (by omega) (by omega) (by omega)))) ?_))
       refine DK_q (JO_qg rfl rfl rfl rfl (Jq_indexX lmE ((runM absD (decS (runM absD (extM l) 0) d) 0).lems) ((best (runM absD (decS (runM absD (extM l) 0) d) 0).lems ((i:Nat):Int)).1 - 1) rfl rfl rfl un40 ty64 hy)) (DK_q (JO_qg rfl rfl rfl rfl (Jq_fieldAddr_refT rfl rfl fo64_2 rfl rfl)) (DK_q (JO_qg rfl rfl rfl rfl (Jq_load_ref_agg rfl rfl ty34 rfl)) (d_ FT 3 rfl ?_)))
       refine DK_q (JO_qg rfl rfl rfl rfl (Jq_sub rfl rfl rfl (r:=(((best (runM absD (extM l) 0).lems ((i:Nat):Int)).1 - 1:Nat):Int)) (w64 (by omega) (by omega) (by omega)))) (DK_q (JO_qg rfl rfl rfl rfl (Jq_indexX lmE ((runM absD (extM l) 0).lems) ((best (runM absD (extM l) 0).lems ((i:Nat):Int)).1 - 1) rfl rfl rfl un40 ty64 hx)) ?_)
       refine DK_q (JO_qg rfl rfl rfl rfl (Jq_fieldAddr_refT rfl rfl fo64_2 rfl rfl)) (DK_q (JO_qg rfl rfl rfl rfl (Jq_load_ref_agg rfl rfl ty34 rfl)) (DK_cg rfl rfl rfl rfl (Jd_call rfl fn22 rfl (rqcmp y.v (y.v.q) rfl (Fq.use (x:=y.v) (by omega)) x.v (x.v.q) rfl (Fq.use (x:=x.v) (by omega)))) ?_))
       refine DK_q (JO_qg rfl rfl rfl rfl (Jq_lss rfl rfl rfl (b:=false) (dF (by have:=cmpq_ge.2 hml;omega)))) (d_ FT 2 rfl (DK_nil (At_then (Tc_f rfl (c_b (Tc_seq ?_))))))
       refine Tc_norm [(5,some (D.ptr 1 0)),(6,some (D.ptr 2 0)),(8,some (D.ptr 4 0)),(12,some (D.val (.int .i64 (((best (runM absD (extM l) 0).lems ((i:Nat):Int)).2:Nat):Int)))),(14,some (D.val (.int .i64 (((best (runM absD (decS (runM absD (extM l) 0) d) 0).lems ((i:Nat):Int)).2:Nat):Int)))),(73,some (D.val (.int .i64 ((((extM l).q.g.us).length:Nat):Int)))),(74,some (D.val (.int .i64 ((i:Nat):Int))))] [none,hb_ 42 (scL (extM l)),hb_ 42 (quL ((runM absD (extM l) 0).q) ++ [Leaf.own 3 2,El.row lmE ((runM absD (extM l) 0).lems)]),hgr 73 5 dcE ([] ++ (runM absD (extM l) 0).path ++ [⟨d.kind,d.idx,d.pt⟩]) 2,hb_ 42 (scL (runM absD (decS (runM absD (extM l) 0) d) 0))] ⟨rfl,rfl,rfl,rfl,rfl,rfl,rfl,trivial⟩ rfl ?_
       refine Tc_drawK 0 [none,none,none,none,none,none,none,none,none,none,none,none,none,none,none,none,none,none,none,none,none,none,none,none] [] follows (by kernel_rfl) (d_ FT 1 rfl ?_)
       by_cases hg2:0 < (best (runM absD (extM l) 0).lems ((i:Nat):Int)).2
       ·refine dq_ rfl rfl (Jq_gtr rfl rfl rfl (b:=true) (dT (by omega))) (d_ FT 2 rfl ?_)
        obtain ⟨hm0,hml⟩:=hbm.2 (by omega)
        obtain ⟨x,hx,_,_,hlx,_⟩:=best_hi (show (best (runM absD (extM l) 0).lems ((i:Nat):Int)).2≠0 by omega)
        obtain ⟨y,hy,_,_,hly,_⟩:=best_hi hm0
        rw [hlx,hly] at hml
        haveI hxB:=hsA.B x (List.mem_of_getElem? hx)
        haveI hyB:=hsB.B y (List.mem_of_getElem? hy)
        refine DK_q (JO_qg rfl rfl rfl rfl (Jq_eql rfl rfl rfl (b:=false) (eF (by omega)))) (d_ FT 4 rfl (DK_q (JO_qg rfl rfl rfl rfl (Jq_sub rfl rfl rfl (r:=(((best (runM absD (decS (runM absD (extM l) 0) d) 0).lems ((i:Nat):Int)).2 - 1:Nat):Int)) (w64 (by omega) (by omega) (by omega)))) ?_))
        refine DK_q (JO_qg rfl rfl rfl rfl (Jq_indexX lmE ((runM absD (decS (runM absD (extM l) 0) d) 0).lems) ((best (runM absD (decS (runM absD (extM l) 0) d) 0).lems ((i:Nat):Int)).2 - 1) rfl rfl rfl un40 ty64 hy)) (DK_q (JO_qg rfl rfl rfl rfl (Jq_fieldAddr_refT rfl rfl fo64_2 rfl rfl)) (DK_q (JO_qg rfl rfl rfl rfl (Jq_load_ref_agg rfl rfl ty34 rfl)) (d_ FT 3 rfl ?_)))
        refine DK_q (JO_qg rfl rfl rfl rfl (Jq_sub rfl rfl rfl (r:=(((best (runM absD (extM l) 0).lems ((i:Nat):Int)).2 - 1:Nat):Int)) (w64 (by omega) (by omega) (by omega)))) (DK_q (JO_qg rfl rfl rfl rfl (Jq_indexX lmE ((runM absD (extM l) 0).lems) ((best (runM absD (extM l) 0).lems ((i:Nat):Int)).2 - 1) rfl rfl rfl un40 ty64 hx)) ?_)
        refine DK_q (JO_qg rfl rfl rfl rfl (Jq_fieldAddr_refT rfl rfl fo64_2 rfl rfl)) (DK_q (JO_qg rfl rfl rfl rfl (Jq_load_ref_agg rfl rfl ty34 rfl)) (DK_cg rfl rfl rfl rfl (Jd_call rfl fn22 rfl (rqcmp y.v (y.v.q) rfl (Fq.use (x:=y.v) (by omega)) x.v (x.v.q) rfl (Fq.use (x:=x.v) (by omega)))) ?_))
        refine DK_q (JO_qg rfl rfl rfl rfl (Jq_gtr rfl rfl rfl (b:=false) (dF (by have:=cmpq_le.2 hml;omega)))) (d_ FT 2 rfl (DK_nil (At_then (Tc_f rfl (Tc_skipA (At_block (At_then ?_)))))))
        refine Tc_norm [(5,some (D.ptr 1 0)),(6,some (D.ptr 2 0)),(8,some (D.ptr 4 0)),(73,some (D.val (.int .i64 ((((extM l).q.g.us).length:Nat):Int)))),(74,some (D.val (.int .i64 ((i:Nat):Int))))] [none,hb_ 42 (scL (extM l)),hb_ 42 (quL ((runM absD (extM l) 0).q) ++ [Leaf.own 3 2,El.row lmE ((runM absD (extM l) 0).lems)]),hgr 73 5 dcE ([] ++ (runM absD (extM l) 0).path ++ [⟨d.kind,d.idx,d.pt⟩]) 2,hb_ 42 (scL (runM absD (decS (runM absD (extM l) 0) d) 0))] ⟨rfl,rfl,rfl,rfl,rfl,trivial⟩ rfl ?_
        refine Tc_region (t_q rfl (Jq_add rfl rfl rfl (r:=((i + 1:Nat):Int)) (w64 (by omega) (by omega) (by omega))) (a_ FT 1 rfl (Tl_end ?_)))
        exact At_next (m':=(extM l).q.g.us.length - (i + 1)) (by omega) ⟨i + 1,rfl,rfl,rfl,hi⟩ ⟨rfl,rfl,rfl,rfl,rfl,trivial⟩
       ·refine dq_ rfl rfl (Jq_gtr rfl rfl rfl (b:=false) (dF (by omega))) (d_ FT 22 rfl (DK_nil (At_then (Tc_f rfl (Tc_skipA (At_block (At_then ?_)))))))
        refine Tc_norm [(5,some (D.ptr 1 0)),(6,some (D.ptr 2 0)),(8,some (D.ptr 4 0)),(73,some (D.val (.int .i64 ((((extM l).q.g.us).length:Nat):Int)))),(74,some (D.val (.int .i64 ((i:Nat):Int))))] [none,hb_ 42 (scL (extM l)),hb_ 42 (quL ((runM absD (extM l) 0).q) ++ [Leaf.own 3 2,El.row lmE ((runM absD (extM l) 0).lems)]),hgr 73 5 dcE ([] ++ (runM absD (extM l) 0).path ++ [⟨d.kind,d.idx,d.pt⟩]) 2,hb_ 42 (scL (runM absD (decS (runM absD (extM l) 0) d) 0))] ⟨rfl,rfl,rfl,rfl,rfl,trivial⟩ rfl ?_
        refine Tc_region (t_q rfl (Jq_add rfl rfl rfl (r:=((i + 1:Nat):Int)) (w64 (by omega) (by omega) (by omega))) (a_ FT 1 rfl (Tl_end ?_)))
        exact At_next (m':=(extM l).q.g.us.length - (i + 1)) (by omega) ⟨i + 1,rfl,rfl,rfl,hi⟩ ⟨rfl,rfl,rfl,rfl,rfl,trivial⟩
      ·refine dq_ rfl rfl (Jq_gtr rfl rfl rfl (b:=false) (dF (by omega))) (d_ FT 22 rfl (DK_nil (At_then (Tc_f rfl (c_b (Tc_seq ?_))))))
       refine Tc_norm [(5,some (D.ptr 1 0)),(6,some (D.ptr 2 0)),(8,some (D.ptr 4 0)),(12,some (D.val (.int .i64 (((best (runM absD (extM l) 0).lems ((i:Nat):Int)).2:Nat):Int)))),(14,some (D.val (.int .i64 (((best (runM absD (decS (runM absD (extM l) 0) d) 0).lems ((i:Nat):Int)).2:Nat):Int)))),(73,some (D.val (.int .i64 ((((extM l).q.g.us).length:Nat):Int)))),(74,some (D.val (.int .i64 ((i:Nat):Int))))] [none,hb_ 42 (scL (extM l)),hb_ 42 (quL ((runM absD (extM l) 0).q) ++ [Leaf.own 3 2,El.row lmE ((runM absD (extM l) 0).lems)]),hgr 73 5 dcE ([] ++ (runM absD (extM l) 0).path ++ [⟨d.kind,d.idx,d.pt⟩]) 2,hb_ 42 (scL (runM absD (decS (runM absD (extM l) 0) d) 0))] ⟨rfl,rfl,rfl,rfl,rfl,rfl,rfl,trivial⟩ rfl ?_
       refine Tc_drawK 0 [none,none,none,none,none,none,none,none,none,none,none,none,none,none,none,none,none,none,none,none,none,none,none,none] [] follows (by kernel_rfl) (d_ FT 1 rfl ?_)
       by_cases hg2:0 < (best (runM absD (extM l) 0).lems ((i:Nat):Int)).2
       ·refine dq_ rfl rfl (Jq_gtr rfl rfl rfl (b:=true) (dT (by omega))) (d_ FT 2 rfl ?_)
        obtain ⟨hm0,hml⟩:=hbm.2 (by omega)
        obtain ⟨x,hx,_,_,hlx,_⟩:=best_hi (show (best (runM absD (extM l) 0).lems ((i:Nat):Int)).2≠0 by omega)
        obtain ⟨y,hy,_,_,hly,_⟩:=best_hi hm0
        rw [hlx,hly] at hml
        haveI hxB:=hsA.B x (List.mem_of_getElem? hx)
        haveI hyB:=hsB.B y (List.mem_of_getElem? hy)
        refine DK_q (JO_qg rfl rfl rfl rfl (Jq_eql rfl rfl rfl (b:=false) (eF (by omega)))) (d_ FT 4 rfl (DK_q (JO_qg rfl rfl rfl rfl (Jq_sub rfl rfl rfl (r:=(((best (runM absD (decS (runM absD (extM l) 0) d) 0).lems ((i:Nat):Int)).2 - 1:Nat):Int)) (w64 (by omega) (by omega) (by omega)))) ?_))
        refine DK_q (JO_qg rfl rfl rfl rfl (Jq_indexX lmE ((runM absD (decS (runM absD (extM l) 0) d) 0).lems) ((best (runM absD (decS (runM absD (extM l) 0) d) 0).lems ((i:Nat):Int)).2 - 1) rfl rfl rfl un40 ty64 hy)) (DK_q (JO_qg rfl rfl rfl rfl (Jq_fieldAddr_refT rfl rfl fo64_2 rfl rfl)) (DK_q (JO_qg rfl rfl rfl rfl (Jq_load_ref_agg rfl rfl ty34 rfl)) (d_ FT 3 rfl ?_)))
        refine DK_q (JO_qg rfl rfl rfl rfl (Jq_sub rfl rfl rfl (r:=(((best (runM absD (extM l) 0).lems ((i:Nat):Int)).2 - 1:Nat):Int)) (w64 (by omega) (by omega) (by omega)))) (DK_q (JO_qg rfl rfl rfl rfl (Jq_indexX lmE ((runM absD (extM l) 0).lems) ((best (runM absD (extM l) 0).lems ((i:Nat):Int)).2 - 1) rfl rfl rfl un40 ty64 hx)) ?_)
        refine DK_q (JO_qg rfl rfl rfl rfl (Jq_fieldAddr_refT rfl rfl fo64_2 rfl rfl)) (DK_q (JO_qg rfl rfl rfl rfl (Jq_load_ref_agg rfl rfl ty34 rfl)) (DK_cg rfl rfl rfl rfl (Jd_call rfl fn22 rfl (rqcmp y.v (y.v.q) rfl (Fq.use (x:=y.v) (by omega)) x.v (x.v.q) rfl (Fq.use (x:=x.v) (by omega)))) ?_))
        refine DK_q (JO_qg rfl rfl rfl rfl (Jq_gtr rfl rfl rfl (b:=false) (dF (by have:=cmpq_le.2 hml;omega)))) (d_ FT 2 rfl (DK_nil (At_then (Tc_f rfl (Tc_skipA (At_block (At_then ?_)))))))
        refine Tc_norm [(5,some (D.ptr 1 0)),(6,some (D.ptr 2 0)),(8,some (D.ptr 4 0)),(73,some (D.val (.int .i64 ((((extM l).q.g.us).length:Nat):Int)))),(74,some (D.val (.int .i64 ((i:Nat):Int))))] [none,hb_ 42 (scL (extM l)),hb_ 42 (quL ((runM absD (extM l) 0).q) ++ [Leaf.own 3 2,El.row lmE ((runM absD (extM l) 0).lems)]),hgr 73 5 dcE ([] ++ (runM absD (extM l) 0).path ++ [⟨d.kind,d.idx,d.pt⟩]) 2,hb_ 42 (scL (runM absD (decS (runM absD (extM l) 0) d) 0))] ⟨rfl,rfl,rfl,rfl,rfl,trivial⟩ rfl ?_
        refine Tc_region (t_q rfl (Jq_add rfl rfl rfl (r:=((i + 1:Nat):Int)) (w64 (by omega) (by omega) (by omega))) (a_ FT 1 rfl (Tl_end ?_)))
        exact At_next (m':=(extM l).q.g.us.length - (i + 1)) (by omega) ⟨i + 1,rfl,rfl,rfl,hi⟩ ⟨rfl,rfl,rfl,rfl,rfl,trivial⟩
       ·refine dq_ rfl rfl (Jq_gtr rfl rfl rfl (b:=false) (dF (by omega))) (d_ FT 22 rfl (DK_nil (At_then (Tc_f rfl (Tc_skipA (At_block (At_then ?_)))))))
        refine Tc_norm [(5,some (D.ptr 1 0)),(6,some (D.ptr 2 0)),(8,some (D.ptr 4 0)),(73,some (D.val (.int .i64 ((((extM l).q.g.us).length:Nat):Int)))),(74,some (D.val (.int .i64 ((i:Nat):Int))))] [none,hb_ 42 (scL (extM l)),hb_ 42 (quL ((runM absD (extM l) 0).q) ++ [Leaf.own 3 2,El.row lmE ((runM absD (extM l) 0).lems)]),hgr 73 5 dcE ([] ++ (runM absD (extM l) 0).path ++ [⟨d.kind,d.idx,d.pt⟩]) 2,hb_ 42 (scL (runM absD (decS (runM absD (extM l) 0) d) 0))] ⟨rfl,rfl,rfl,rfl,rfl,trivial⟩ rfl ?_
        refine Tc_region (t_q rfl (Jq_add rfl rfl rfl (r:=((i + 1:Nat):Int)) (w64 (by omega) (by omega) (by omega))) (a_ FT 1 rfl (Tl_end ?_)))
        exact At_next (m':=(extM l).q.g.us.length - (i + 1)) (by omega) ⟨i + 1,rfl,rfl,rfl,hi⟩ ⟨rfl,rfl,rfl,rfl,rfl,trivial⟩
     ·refine t_q rfl (Jq_lss rfl rfl rfl (b:=false) (dF (by omega))) (cns (Tc_f rfl (Tc_exitA (At_then_exit (At_then_exit (At_block_exit (At_then (c_a (a_ FT 3 rfl ?_)))))))))
      refine t_f rfl (Je_call rfl fn28 rfl (rvalid_fok (extM l).q.goal hq.goal (by omega) 1000 (by omega) (by omega))) (a_ FT 1 rfl (c_n ?_))
      exact Tc_ret1 hq_ rfl rfl rfl
end Go.Proofs.YtjdbopkbfkgpdaaGreatDoor
namespace Rc
open Go Go.RowKit Go.ChangeShapes Go.WideShapes
def fldL (P:Program) (t:Nat):Option (List (Nat × Nat)):=
 match P.underlying t with
 | some (.struct fs)=>some (fs.toList.map fun f=>(f.offset,f.type))
 | _=>none
theorem fldL_spec {P:Program} {t:Nat} {l:List (Nat × Nat)} (h:fldL P t = some l):∃ fs,P.underlying t = some (.struct fs)∧fs.toList.map (fun f=>(f.offset,f.type)) = l:=by
 unfold fldL at h
 cases hu:P.underlying t with
 | none=>rw [hu] at h;simp at h
 | some d=>
  rw [hu] at h
  cases d <;> simp only [reduceCtorEq] at h
  exact ⟨_,rfl,by simpa using h⟩
section
variable {H:Type} {enc:TypeId × Value→H} {P:Program} {w:World} {base:Nat} {held:Bool}
@[reducible] def here (w:World):Foot:=Foot.of fun k _=>k < w.heap.size
theorem rd_fields {t:Nat} {l:List (Nat × Nat)} {cs:List Value} {fuel:Nat} {x:DataW H × List MemPlace} {spare:Nat→Bool} (hf:fldL P t = some l) (h:DataW.trod enc P w base spare held fuel t cs = some x) :
  cs.length = P.cellsOf t∧∃ n,∀ (i off ty:Nat),l[i]? = some (off,ty)→∃ y,DataW.trod enc P w base spare held n ty ((cs.drop off).take (P.cellsOf ty)) = some y:=by
 obtain ⟨fs,hu,hl⟩:=fldL_spec hf
 obtain ⟨xs,n,_,_,hlen,hxs,hall⟩:=DataW.trod_struct hu h
 refine ⟨hlen,n,fun i off ty hi=>?_⟩
 rw [← hl,List.getElem?_map] at hi
 cases hfi:fs.toList[i]? with
 | none=>rw [hfi] at hi;simp at hi
 | some f=>
  rw [hfi] at hi
  simp only [Option.map_some,Option.some.injEq,Prod.mk.injEq] at hi
  obtain ⟨rfl,rfl⟩:=hi
  have hfi':fs[i]? = some f:=by simpa using hfi
  have:=hall i f hfi'
  have hlt:i < xs.length:=by rw [hxs];exact (Array.getElem?_eq_some_iff.1 hfi').1
  exact ⟨xs[i],by rw [this,List.getElem?_eq_getElem hlt]⟩
theorem rd_bool {t:Nat} {cs:List Value} {fuel:Nat} {x:DataW H × List MemPlace} {spare:Nat→Bool} (ht:P.underlying t = some .bool) (h:DataW.trod enc P w base spare held fuel t cs = some x):∃ b,cs = [.bool b]:=by
 cases fuel with
 | zero=>simp [DataW.trod] at h
 | succ n=>
  unfold DataW.trod at h
  rw [ht] at h
  split at h <;> simp_all
theorem rd_int {t:Nat} {k:IntKind} {cs:List Value} {fuel:Nat} {x:DataW H × List MemPlace} {spare:Nat→Bool} (ht:P.underlying t = some (.int k)) (h:DataW.trod enc P w base spare held fuel t cs = some x) :
  ∃ n,cs = [.int k n]∧(Lit.int k n).wf = true:=by
 obtain ⟨n,rfl,_,hw⟩:=DataW.trod_int ht h
 exact ⟨n,rfl,hw⟩
theorem wf_u32 {n:Int} (h:(Lit.int .u32 n).wf = true):0≤n∧n≤4294967295:=by
 simp [Lit.wf,IntKind.min,IntKind.max,IntKind.bits,IntKind.signed] at h
 omega
theorem wf_u8 {n:Int} (h:(Lit.int .u8 n).wf = true):0≤n∧n≤255:=by
 simp [Lit.wf,IntKind.min,IntKind.max,IntKind.bits,IntKind.signed] at h
 omega
theorem wf_i64 {n:Int} (h:(Lit.int .i64 n).wf = true):-9223372036854775808≤n∧n≤9223372036854775807:=by
 simp [Lit.wf,IntKind.min,IntKind.max,IntKind.bits,IntKind.signed] at h
 omega
theorem cell_lt {a:Addr} {v:Value} (h:w.cell? a = some v):a.block < w.heap.size:=by
 unfold World.cell? at h
 cases hb:w.heap[a.block]? with
 | none=>rw [hb] at h;simp at h
 | some o=>exact (Array.getElem?_eq_some_iff.1 hb).1
theorem rd_nat {t u:Nat} {cs:List Value} {fuel:Nat} {x:DataW H × List MemPlace} (ht:P.underlying t = some (.slice u)) (hu:P.underlying u = some (.int .u32)) (hc:P.cellsOf u = 1)
  (h:DataW.trod enc P w base (fun _=>true) held fuel t cs = some x):∃ c l,cs = [c]∧Small l∧(natL l).den (here w) c w:=by
 rcases open_ints ht hu hc h with ⟨rfl,_⟩ | ⟨a,len,cap,zs,rfl,_,hl,hm,hz,_,hcell,hwf⟩
 ·exact ⟨_,[],rfl,Small.nil,nil_slice _ _⟩
 ·simp only [if_true] at hz
  refine ⟨_,(zs.take len).map Int.toNat,rfl,?_,?_⟩
  ·intro y hy
   obtain ⟨n,hn,rfl⟩:=List.mem_map.1 hy
   have:=wf_u32 (hwf n (List.mem_of_mem_take hn))
   omega
  ·have hlen:((zs.take len).map Int.toNat).length = len:=by simp;omega
   show (sliceRep ((zs.take len).map Int.toNat).length _).P _ _ _
   rw [hlen]
   refine ⟨some a,cap,rfl,hl,hm,fun h=>by simp at h,fun ad had=>?_⟩
   cases had
   refine ⟨fun h0=>?_,fun i lf hi=>?_⟩
   ·obtain ⟨b,off,rfl,_⟩:=ints_at hcell (by omega)
    rfl
   ·rw [List.getElem?_map,List.getElem?_map,List.getElem?_take] at hi
    split at hi
    ·rename_i hil
     have hiz:i < zs.length:=by omega
     obtain ⟨b,off,rfl,hc2⟩:=ints_at hcell (by omega)
     have hci:=hc2 i hiz
     rw [List.getElem?_eq_getElem hiz] at hi
     simp only [Option.map_some,Option.some.injEq] at hi
     subst hi
     have hw:=wf_u32 (hwf zs[i] (List.getElem_mem hiz))
     have hlt:b < w.heap.size:=cell_lt hci
     refine ⟨hlt,_,hci,?_,rfl⟩
     rw [List.getD_eq_getElem?_getD,List.getElem?_eq_getElem hiz]
     simp only [Option.getD_some]
     congr 1
     omega
    ·simp at hi
structure NumTy (P:Program) (tb tn tu tr:Nat):Prop where
 b:P.underlying tb = some .bool
 u:P.underlying tu = some (.int .u32)
 n:P.underlying tn = some (.slice tu)
 cb:P.cellsOf tb = 1
 cu:P.cellsOf tu = 1
 cn:P.cellsOf tn = 1
 r:fldL P tr = some [(0,tb),(1,tn),(2,tn)]
 cr:P.cellsOf tr = 3
variable {tb tn tu tr:Nat}
theorem rd_rat (hT:NumTy P tb tn tu tr) {cs:List Value} {fuel:Nat} {x:DataW H × List MemPlace} (h:DataW.trod enc P w base (fun _=>true) held fuel tr cs = some x) :
  ∃ q:Qr,denL (here w) (qV q).leaves cs w:=by
 obtain ⟨hlen,n,hall⟩:=rd_fields hT.r h
 rw [hT.cr] at hlen
 match cs,hlen with
 | [c0,c1,c2],_=>
  obtain ⟨y0,h0⟩:=hall 0 _ _ rfl
  obtain ⟨y1,h1⟩:=hall 1 _ _ rfl
  obtain ⟨y2,h2⟩:=hall 2 _ _ rfl
  rw [hT.cb] at h0
  rw [hT.cn] at h1 h2
  obtain ⟨b,e0⟩:=rd_bool hT.b h0
  obtain ⟨k1,l1,e1,s1,d1⟩:=rd_nat hT.n hT.u hT.cu h1
  obtain ⟨k2,l2,e2,s2,d2⟩:=rd_nat hT.n hT.u hT.cu h2
  simp at e0 e1 e2
  subst e0;subst e1;subst e2
  exact ⟨⟨b,l1,l2,s1,s2⟩,⟨rfl,rfl⟩,d1,d2,trivial⟩
theorem rd_agg {t:Nat} {fs:List (Nat × Nat)} (hf:fldL P t = some fs) {r:Reach} {b0:Nat} {v:Value} {d:DataW H} {p:List MemPlace} {spare:Nat→Bool} (hv:Value.okWide P w r b0 t v) (h:DataW.Trod enc P w base spare held t v d p) :
  ∃ (cs:List Value) (fuel:Nat) (x:DataW H × List MemPlace),v = .agg cs.toArray∧DataW.trod enc P w base spare held fuel t cs = some x:=by
 obtain ⟨f,hu,_⟩:=fldL_spec hf
 obtain ⟨cs,rfl,_⟩:=okWide_struct hu hv
 obtain ⟨fuel,hf⟩:=h
 exact ⟨cs.toList,fuel,_,by simp,by simpa [Value.cells] using hf⟩
end
theorem law_calls {P:Program} {f:Nat} {xs:List V} {w:World} {vs:List Value} (h:Ctr P f xs (R.one (V.one (Leaf.val (.bool true))))) (hg:Glob w) (hd:denVs (here w) xs vs w) :
  Calls P f vs.toArray w fun e w'=>e = .returned (.bool true)∧Below w.heap.size w w':=by
 refine Calls.mono (h w vs (fun k _=>k < w.heap.size) hg (fun _ _ hk=>hk) hd) ?_
 rintro e w' ⟨v,rfl,hv,hb⟩
 obtain ⟨rfl,_⟩:v = .bool true∧_:=hv
 exact ⟨rfl,hb⟩
end Rc
set_option linter.unusedSimpArgs false
set_option linter.unusedVariables false
namespace Go.Proofs.YtjdbopkbfkgpdaaGreatDoor
open Go Go.RowKit Rc
theorem own:ownKnob Tryz.prog.godebug = none:=by kernel_rfl
theorem laidOut:laidOutB Tryz.prog = true:=by kernel_rfl
theorem numTy:NumTy Tryz.prog 4 32 157 34:=⟨by kernel_rfl,by kernel_rfl,by kernel_rfl,by kernel_rfl,by kernel_rfl,by kernel_rfl,by kernel_rfl,by kernel_rfl⟩
end Go.Proofs.YtjdbopkbfkgpdaaGreatDoor
namespace Rc
open Go Go.RowKit Go.ChangeShapes Go.WideShapes
theorem u8_all:∀ l:List Nat,u8E.all l = l.map fun (x:Nat)=>Leaf.val (.int .u8 (x:Int))
 | []=>rfl
 | x :: l=>by show u8E.f x ++ u8E.all l = _;rw [u8_all l];rfl
section
variable {H:Type} {enc:TypeId × Value→H} {P:Program} {w:World} {base:Nat} {held:Bool}
theorem rdv_bytes {t u:Nat} (ht:P.underlying t = some (.slice u)) (hu:P.underlying u = some (.int .u8)) (hc:P.cellsOf u = 1) {r:Reach} {b0:Nat} {v:Value} {d:DataW H} {p:List MemPlace} (hv:Value.okWide P w r b0 t v)
  (h:DataW.Trod enc P w base (fun _=>true) held t v d p):∃ l:List Nat,l.length≤maxLen∧(∀ x∈l,x < 256)∧(V.one (u8E.row l)).den (here w) v w:=by
 obtain ⟨a0,len0,cap0,rfl⟩:=okWide_slice ht hv
 obtain ⟨fuel,hf⟩:=h
 rcases open_ints ht hu hc hf with ⟨hcs,_⟩ | ⟨a,len,cap,zs,hcs,_,hl,hm,hz,_,hcell,hwf⟩
 ·simp [Value.cells] at hcs
  obtain ⟨rfl,rfl,rfl⟩:=hcs
  exact ⟨[],Nat.zero_le _,fun x hx=>by simp at hx,nil_slice _ _⟩
 ·simp [Value.cells] at hcs
  obtain ⟨rfl,rfl,rfl⟩:=hcs
  simp only [if_true] at hz
  have hlen:((zs.take len0).map Int.toNat).length = len0:=by simp;omega
  refine ⟨(zs.take len0).map Int.toNat,by rw [hlen];omega,?_,?_⟩
  ·intro y hy
   obtain ⟨n,hn,rfl⟩:=List.mem_map.1 hy
   have:=wf_u8 (hwf n (List.mem_of_mem_take hn))
   omega
  ·show (sliceRep ((zs.take len0).map Int.toNat).length _).P _ _ _
   rw [hlen,u8_all]
   refine ⟨some a,cap0,rfl,hl,hm,fun h=>by simp at h,fun ad had=>?_⟩
   cases had
   refine ⟨fun h0=>?_,fun i lf hi=>?_⟩
   ·obtain ⟨b,off,rfl,_⟩:=ints_at hcell (by first | omega | (simp at h0;omega))
    rfl
   ·rw [List.getElem?_map,List.getElem?_map,List.getElem?_take] at hi
    split at hi
    ·rename_i hil
     have hiz:i < zs.length:=by omega
     obtain ⟨b,off,rfl,hc2⟩:=ints_at hcell (by omega)
     have hci:=hc2 i hiz
     rw [List.getElem?_eq_getElem hiz] at hi
     simp only [Option.map_some,Option.some.injEq] at hi
     subst hi
     have hw:=wf_u8 (hwf zs[i] (List.getElem_mem hiz))
     have hlt:b < w.heap.size:=cell_lt hci
     refine ⟨hlt,_,hci,?_,rfl⟩
     rw [List.getD_eq_getElem?_getD,List.getElem?_eq_getElem hiz]
     simp only [Option.getD_some]
     congr 1
     omega
    ·simp at hi
variable {tb tn tu tr:Nat}
theorem rdv_deci (hT:NumTy P tb tn tu tr) {td ti:Nat} (hf:fldL P td = some [(0,ti),(1,ti),(2,tr)]) (hc:P.cellsOf td = 5) (hi:P.underlying ti = some (.int .i64)) (hci:P.cellsOf ti = 1)
  {r:Reach} {b0:Nat} {v:Value} {d:DataW H} {p:List MemPlace} (hv:Value.okWide P w r b0 td v) (h:DataW.Trod enc P w base (fun _=>true) held td v d p) :
  ∃ (k j:Int) (q:Qr),-9223372036854775808≤k∧(V.agg [Leaf.val (.int .i64 k),Leaf.val (.int .i64 j),Leaf.val (.bool q.neg),natL q.n,natL q.d]).den (here w) v w:=by
 obtain ⟨cs,fuel,x,rfl,hx⟩:=rd_agg hf hv h
 obtain ⟨hlen,n,hall⟩:=rd_fields hf hx
 rw [hc] at hlen
 match cs,hlen with
 | [c0,c1,c2,c3,c4],_=>
  obtain ⟨y0,h0⟩:=hall 0 _ _ rfl
  obtain ⟨y1,h1⟩:=hall 1 _ _ rfl
  obtain ⟨y2,h2⟩:=hall 2 _ _ rfl
  rw [hci] at h0 h1
  rw [hT.cr] at h2
  obtain ⟨k,e0,w0⟩:=rd_int hi h0
  obtain ⟨j,e1,w1⟩:=rd_int hi h1
  obtain ⟨q,hq⟩:=rd_rat hT h2
  simp at e0 e1
  subst e0;subst e1
  exact ⟨k,j,q,(wf_i64 w0).1,_,rfl,⟨rfl,rfl⟩,⟨rfl,rfl⟩,hq⟩
end
end Rc
set_option linter.unusedSimpArgs false
set_option linter.unusedVariables false
namespace Go.Proofs.YtjdbopkbfkgpdaaGreatDoor
open Go Go.RowKit Rc
theorem undBs:Tryz.prog.underlying 22 = some (.slice 5):=by kernel_rfl
theorem undU8:Tryz.prog.underlying 5 = some (.int .u8):=by kernel_rfl
theorem cellsU8:Tryz.prog.cellsOf 5 = 1:=by kernel_rfl
end Go.Proofs.YtjdbopkbfkgpdaaGreatDoor
set_option linter.unusedSimpArgs false
set_option linter.unusedVariables false
namespace Go.Proofs.YtjdbopkbfkgpdaaGreatDoor
open Go Go.RowKit Rc
theorem gTab : Tryz.prog.globalNamed "math/bits.deBruijn32tab" = some 0:=by kernel_rfl
theorem tTab:(Tryz.prog.globals[0]?).map (·.type) = some 206:=by kernel_rfl
theorem uTab:Tryz.prog.underlying 206 = some (.array 32 5):=by kernel_rfl
theorem uEl:Tryz.prog.underlying 5 = some (.int .u8):=by kernel_rfl
theorem cEl:Tryz.prog.cellsOf 5 = 1:=by kernel_rfl
theorem cTab:Tryz.prog.cellsOf 206 = 32:=by kernel_rfl
theorem undI:Tryz.prog.underlying 3 = some (.int .i64):=by kernel_rfl
theorem cellsI64:Tryz.prog.cellsOf 3 = 1:=by kernel_rfl
open Go.ChangeShapes Go.WideShapes
@[reducible] def laidL:List (String × DataW Unit):=[("math/bits.deBruijn32tab",Rows.laid_math_bits_deBruijn32tab)]
theorem door_met (os:Os) (args:Array Value):laidMetH Tryz.prog laidL ((World.doorLaid Tryz.prog 400 os).forCall (fun _ _=>0) ⟨#[],args,[]⟩).memory:=
 laidMetH_of_parts3 (fuel:=8) (laidMet_of_run' 8 (by kernel_rfl) (by kernel_rfl)) (by kernel_rfl) (by kernel_rfl)
theorem tab_data:(Rows.laid_math_bits_deBruijn32tab:DataW Unit) = .agg (bruijn.map fun n:Nat=>.lit (.int .u8 (n:Int))):=by kernel_rfl
theorem glob_of_laid {W:World} (h:laidMetH Tryz.prog laidL W):Glob W:=by
 rw [MakeChecks.laidMetH_plain _ _ _ (by kernel_rfl)] at h
 obtain ⟨ps,⟨g0,t0,cs0,f0,p0,q0,hg0,ht0,hv0,hd0,_,_⟩,_⟩:=h
 obtain rfl:=Option.some.inj (gTab.symm.trans hg0)
 obtain rfl:=Option.some.inj (tTab.symm.trans ht0)
 obtain ⟨xs,m,_,hx,hlen,hxs,hel⟩:=DataW.trod_array uTab hd0
 rw [tab_data] at hx
 have hd:=congrArg Prod.fst hx
 simp only [DataW.agg.injEq] at hd
 rw [cTab] at hlen
 have key:∀ (i:Nat) (k:Nat),bruijn[i]? = some k→cs0[i]? = some (.int .u8 (k:Int)):=by
  intro i k hk
  have hi:i < 32:=(List.getElem?_eq_some_iff.1 hk).1
  have h1:=hel i hi
  rw [List.getElem?_eq_getElem (by omega)] at h1
  obtain ⟨n,hc,hxn,_⟩:=DataW.trod_int uEl h1
  have h2:=congrArg (fun l=>l[i]?) hd
  simp only [List.getElem?_map,hk,List.getElem?_eq_getElem (show i < xs.length by omega),Option.map_some,hxn] at h2
  have h3:n = (k:Int):=by
   have:=Option.some.inj h2
   simp only [DataW.lit.injEq,Lit.int.injEq,true_and] at this
   exact this.symm
  subst h3
  rw [cEl,Nat.mul_one] at hc
  have h4:=congrArg (fun l=>l[0]?) hc
  simp only [List.getElem?_take,List.getElem?_drop,Nat.add_zero,Nat.zero_lt_one,if_true,List.getElem?_cons_zero] at h4
  rw [← Array.getElem?_toList]
  exact h4
 intro p hp
 have hp':p = (0,bruijn.map fun n:Nat=>Value.int .u8 (n:Int)):=by simpa [tab,bruijn] using hp
 subst hp'
 have hcell:=fun i:Nat=>World.var?_cell hg0 hv0 i
 refine ⟨?_,fun i v hv=>?_⟩
 ·have h0:=hcell 0
  rw [key 0 0 rfl] at h0
  unfold World.cell? at h0
  cases hh:W.heap[0]? with
  | none=>simp [hh] at h0
  | some o=>exact (Array.getElem?_eq_some_iff.1 hh).1
 ·simp only [List.getElem?_map] at hv
  cases hk:bruijn[i]? with
  | none=>rw [hk] at hv;simp at hv
  | some k=>
   rw [hk] at hv
   simp only [Option.map_some,Option.some.injEq] at hv
   rw [hcell i,key i k hk,hv]
end Go.Proofs.YtjdbopkbfkgpdaaGreatDoor
set_option linter.unusedSimpArgs false
set_option linter.unusedVariables false
namespace Go.Proofs.YtjdbopkbfkgpdaaGreatDoor
open Go Go.RowKit Rc
theorem fldDc:fldL Tryz.prog 73 = some [(0,3),(1,3),(2,34)]:=by kernel_rfl
theorem cellsDc:Tryz.prog.cellsOf 73 = 5:=by kernel_rfl
end Go.Proofs.YtjdbopkbfkgpdaaGreatDoor
