/- Parts of the proof, 8: the texts WlA, WlB, WlC, WlD, WkX, WlE, WlF, Row, WlG, WlH, WlI, as far as they are used. -/
import Derived.Test.YtjdbopkbfkgpdaaGreatDoorMb07
set_option linter.unusedSimpArgs false
set_option linter.unusedVariables false
namespace Go.Proofs.YtjdbopkbfkgpdaaGreatDoor
open Go Go.RowKit Rc
set_option maxRecDepth 10000 in
theorem graph_spec (l:List Nat) (k:Nat) (hl:l.length≤1000000) (hk:k≤l.length) (hb:∀ x∈l,x < 256):CtrP Tryz.prog 96 146 [El.row u8E l,Leaf.val (.int .i64 ((k:Nat):Int))] [El.row u8E l,Leaf.val (.int .i64 (((graphq l k).2:Nat):Int))] [] (R.one (grV (graphq l k).1)):=by
 refine CtrP.of_body Tryz.func96 rfl Tryz.ntmps96 (Nat.le_of_ble_eq_true rfl) (fun w0 A0 bk hX=>?_)
 have h1:nx l k 3 < 3:=nx_lt (by decide)
 have h2:nx l (nk l k) 5 < 5:=nx_lt (by decide)
 have h3:nx l (nk l (nk l k)) 3 < 3:=nx_lt (by decide)
 have hk1:=nk_le hk
 have hk2:=nk_le hk1
 have hk3:=nk_le hk2
 refine c_a (t_f rfl (Je_alloc (n:=1) rfl tx26 rfl) (cna (a_ FT 1 rfl (t_f rfl (Je_call_ptr rfl fn76 rfl rfl rfl rfl (next_spec l k 3 (by first | decide | omega) (by first | decide | omega) hl (by first | assumption | exact nk_le (by assumption)) hb)) (t_q rfl (Jq_add rfl rfl rfl (r:=((1 + nx l k 3:Nat):Int)) (w64 (by omega) (by omega) (by omega))) ?_)))))
 refine t_q rfl (Jq_build rfl tx26 rfl pl26 rfl) (t_f rfl (Je_alloc (n:=2) rfl tx26 rfl) (a_ FT 1 rfl (cna (a_ FT 1 rfl (t_f rfl (Je_call_ptr rfl fn76 rfl rfl rfl rfl (next_spec l (nk l k) 5 (by first | decide | omega) (by first | decide | omega) hl (by first | assumption | exact nk_le (by assumption)) hb)) (a_ FT 1 rfl ?_))))))
 refine t_f rfl (Je_call_ptr rfl fn76 rfl rfl rfl rfl (next_spec l (nk l (nk l k)) 3 (by first | decide | omega) (by first | decide | omega) hl (by first | assumption | exact nk_le (by assumption)) hb)) (t_q rfl (Jq_add rfl rfl rfl (r:=((1 + nx l (nk l (nk l k)) 3:Nat):Int)) (w64 (by omega) (by omega) (by omega))) (a_ FT 2 rfl (cns (Tc_seq ?_))))
 refine Tc_growB 2 36 4 (ls':=[Leaf.val (.int .i64 ((1 + nx l k 3:Nat):Int)),Leaf.own 3 0,Leaf.val (.slice none 0 0)]) rfl rfl rfl ⟨.inl rfl,.inr ⟨rfl,rfl⟩,.inl rfl,trivial⟩ (Tc_region (a_ FT 1 rfl (c_n (Tc_block ?_))))
 refine Tc_loopR (fun m Γ H=>∃ (i:Nat) (n:Nat) (out:List Af) (q:Nat),(nx l (nk l k) 5) - i = m∧Γ = [(0,some (D.ptr 0 0)),(2,some (D.ptr 1 0)),(3,some (D.ptr 2 0)),(4,some (D.val (.int .i64 ((nx l (nk l k) 5:Nat):Int)))),(5,some (D.val (.int .i64 ((1 + nx l (nk l (nk l k)) 3:Nat):Int)))),(6,some (D.val (.int .i64 ((i:Nat):Int))))]∧H = [hbq 146 [El.row u8E l,Leaf.val (.int .i64 ((q:Nat):Int))] bk,hb_ 26 [Leaf.val (.int .i64 0),Leaf.val (.slice none 0 0),Leaf.val (.slice none 0 0)],hb_ 26 [Leaf.val (.int .i64 (((1 + nx l k 3):Nat):Int)),Leaf.own 3 n,Leaf.val (.slice none 0 0)],hgr 36 4 afE out n]∧i≤(nx l (nk l k) 5)∧(out,q) = formsq l (fun j=>1 + nx l k 3 + j) (nk l (nk l (nk l k))) i) ⟨0,0,[],_,rfl,rfl,rfl,Nat.zero_le _,rfl⟩ ⟨rfl,rfl,rfl,rfl,rfl,rfl,trivial⟩ ?_
 rintro m Γ H ⟨i,n,out,q,rfl,rfl,rfl,hi0,hs⟩
 refine Tc_seq (c_a (a_ FT 2 rfl ?_))
 by_cases hi:i < (nx l (nk l k) 5)
 ·refine t_q rfl (Jq_lss rfl rfl rfl (b:=true) (dT (by omega))) (c_n (Tc_t rfl (c_b (Tc_seq (Tc_block ?_)))))
  have hol:=congrArg (fun p=>p.1.length) hs
  simp only [formsq_len] at hol
  have hq:q≤l.length:=by have:=formsq_le (l:=l) (f:=(fun j=>1 + nx l k 3 + j)) (k:=(nk l (nk l (nk l k)))) (nk_le (nk_le (nk_le hk))) (fun _=>.inr trivial) (fun j hj=>by omega) i (by omega);rw [← hs] at this;exact this
  refine Tc_drawK 0 [none,none,none,none,none,none,none,some 0,none,some 3,none,some 2] [0,3,2] follows (by kernel_rfl) (d_ FT 1 rfl (DK_qp [0,3] (JO_q rfl rfl (Jq_load rfl rfl rfl (by decide) ty24 rfl)) (by kernel_rfl) (d_ FT 2 rfl (DK_qp [0,3] (JO_q rfl rfl (Jq_load rfl rfl rfl (by decide) ty3 rfl)) (by kernel_rfl) (d_ FT 1 rfl ?_)))))
  refine dq_ rfl rfl (Jq_add rfl rfl rfl (r:=((1 + nx l k 3 + i:Nat):Int)) (w64 (by omega) (by omega) (by omega))) (DK_s 0 rfl rfl rfl (Jd_call_ptr rfl fn71 rfl rfl rfl rfl (form_spec l q (1 + nx l k 3 + i) (by omega) hl (by assumption) hb)) (DK_c rfl rfl (fun _=>Je_buildSlice rfl un24 ty36 tz36 rfl (by decide) (by decide) rfl (by decide) rfl) ?_))
  obtain ⟨ti3,hi3,hz3,hs3,hb3⟩:=in36
  refine DK_s 3 rfl rfl rfl (Jd_appendR afE out (⟨(formq l q (1 + nx l k 3 + i)).1.ts,(formq l q (1 + nx l k 3 + i)).1.c⟩) rfl rfl rfl rfl (by decide) un24 un24 hi3 hz3 hs3 rfl (by first | (simp only [maxLen];omega) | (simp only [maxLen,List.length_append,List.length_take,List.length_drop,List.length_cons,List.length_nil];omega)) (by rw [hb3];first | omega | (simp only [List.length_append,List.length_take,List.length_drop,List.length_cons,List.length_nil];omega))) ?_
  refine d_ FT 1 rfl (DK_s 2 rfl rfl rfl (Jd_store rfl rfl rfl rfl ty24 rfl (by decide) (Nat.le_of_ble_eq_true rfl) rfl) (DK_nil (At_block (At_then (Tc_region (a_ FT 1 rfl (t_q rfl (Jq_add rfl rfl rfl (r:=((i + 1:Nat):Int)) (w64 (by omega) (by omega) (by omega))) (a_ FT 1 rfl (Tl_end ?_)))))))))
  exact At_next (m':=(nx l (nk l k) 5) - (i + 1)) (by omega) ⟨i + 1,_,_,_,rfl,rfl,rfl,hi,by rw [formsq_succ,← hs]⟩ ⟨rfl,rfl,rfl,rfl,rfl,rfl,trivial⟩
 ·refine t_q rfl (Jq_lss rfl rfl rfl (b:=false) (dF (by omega))) (c_n (Tc_f rfl (Tc_exitA (At_then_exit (At_then_exit (At_block_exit (At_then (Tc_seq (Tc_seq ?_)))))))))
  have hie:i = (nx l (nk l k) 5):=by omega
  subst hie
  refine Tc_growB 2 36 4 (ls':=[Leaf.val (.int .i64 (((1 + nx l k 3):Nat):Int)),Leaf.own 3 n,Leaf.own 4 0]) rfl rfl rfl ⟨.inl rfl,.inl rfl,.inr ⟨rfl,rfl⟩,trivial⟩ (Tc_region (a_ FT 1 rfl (c_n (Tc_block ?_))))
  refine Tc_loopR (fun m Γ H=>∃ (i:Nat) (n2:Nat) (out2:List Af) (q2:Nat),(1 + nx l (nk l (nk l k)) 3) - i = m∧Γ = [(0,some (D.ptr 0 0)),(2,some (D.ptr 1 0)),(3,some (D.ptr 2 0)),(4,some (D.val (.int .i64 ((nx l (nk l k) 5:Nat):Int)))),(5,some (D.val (.int .i64 ((1 + nx l (nk l (nk l k)) 3:Nat):Int)))),(7,some (D.val (.int .i64 ((i:Nat):Int))))]∧H = [hbq 146 [El.row u8E l,Leaf.val (.int .i64 ((q2:Nat):Int))] bk,hb_ 26 [Leaf.val (.int .i64 0),Leaf.val (.slice none 0 0),Leaf.val (.slice none 0 0)],hb_ 26 [Leaf.val (.int .i64 (((1 + nx l k 3):Nat):Int)),Leaf.own 3 n,Leaf.own 4 n2],hgr 36 4 afE out n,hgr 36 4 afE out2 n2]∧i≤(1 + nx l (nk l (nk l k)) 3)∧(out2,q2) = formsq l (fun _=>1 + nx l k 3 + (nx l (nk l k) 5)) (formsq l (fun j=>1 + nx l k 3 + j) (nk l (nk l (nk l k))) (nx l (nk l k) 5)).2 i) ⟨0,0,[],_,rfl,rfl,rfl,Nat.zero_le _,(by rw [← hs];rfl)⟩ ⟨rfl,rfl,rfl,rfl,rfl,rfl,trivial⟩ ?_
  rintro m Γ H ⟨i,n2,out2,q2,rfl,rfl,rfl,hj0,hs2⟩
  refine Tc_seq (c_a (a_ FT 2 rfl ?_))
  by_cases hj:i < (1 + nx l (nk l (nk l k)) 3)
  ·refine t_q rfl (Jq_lss rfl rfl rfl (b:=true) (dT (by omega))) (c_n (Tc_t rfl (c_b (Tc_seq (Tc_block ?_)))))
   have hol2:=congrArg (fun p=>p.1.length) hs2
   simp only [formsq_len] at hol2
   have hq2:q2≤l.length:=by have:=formsq_le (l:=l) (f:=(fun _=>1 + nx l k 3 + (nx l (nk l k) 5))) (k:=(formsq l (fun j=>1 + nx l k 3 + j) (nk l (nk l (nk l k))) (nx l (nk l k) 5)).2) (formsq_le (nk_le (nk_le (nk_le hk))) (fun _=>.inr trivial) (fun j hj=>by omega) _ (by omega)) (fun _=>.inr trivial) (fun j hj=>by omega) i (by omega);rw [← hs2] at this;exact this
   refine Tc_drawK 0 [none,none,none,none,none,none,none,some 0,none,some 4,none,some 2] [0,4,2] follows (by kernel_rfl) (d_ FT 1 rfl (DK_qp [0,4] (JO_q rfl rfl (Jq_load rfl rfl rfl (by decide) ty24 rfl)) (by kernel_rfl) (d_ FT 2 rfl (DK_qp [0,4] (JO_q rfl rfl (Jq_load rfl rfl rfl (by decide) ty3 rfl)) (by kernel_rfl) (d_ FT 1 rfl ?_)))))
   refine dq_ rfl rfl (Jq_add rfl rfl rfl (r:=(((1 + nx l k 3) + (nx l (nk l k) 5):Nat):Int)) (w64 (by omega) (by omega) (by omega))) (DK_s 0 rfl rfl rfl (Jd_call_ptr rfl fn71 rfl rfl rfl rfl (form_spec l q2 ((1 + nx l k 3) + (nx l (nk l k) 5)) (by omega) hl (by assumption) hb)) ?_)
   refine DK_c rfl rfl (fun _=>Je_buildSlice rfl un24 ty36 tz36 rfl (by decide) (by decide) rfl (by decide) rfl) ?_
   obtain ⟨ti6,hi6,hz6,hs6,hb6⟩:=in36
   refine DK_s 4 rfl rfl rfl (Jd_appendR afE out2 (⟨(formq l q2 ((1 + nx l k 3) + (nx l (nk l k) 5))).1.ts,(formq l q2 ((1 + nx l k 3) + (nx l (nk l k) 5))).1.c⟩) rfl rfl rfl rfl (by decide) un24 un24 hi6 hz6 hs6 rfl (by first | (simp only [maxLen];omega) | (simp only [maxLen,List.length_append,List.length_take,List.length_drop,List.length_cons,List.length_nil];omega)) (by rw [hb6];first | omega | (simp only [List.length_append,List.length_take,List.length_drop,List.length_cons,List.length_nil];omega))) ?_
   refine d_ FT 1 rfl (DK_s 2 rfl rfl rfl (Jd_store rfl rfl rfl rfl ty24 rfl (by decide) (Nat.le_of_ble_eq_true rfl) rfl) (DK_nil (At_block (At_then (Tc_region (a_ FT 1 rfl (t_q rfl (Jq_add rfl rfl rfl (r:=((i + 1:Nat):Int)) (w64 (by omega) (by omega) (by omega))) (a_ FT 1 rfl (Tl_end ?_)))))))))
   exact At_next (m':=(1 + nx l (nk l (nk l k)) 3) - (i + 1)) (by omega) ⟨i + 1,_,_,_,rfl,rfl,rfl,hj,by rw [formsq_succ,← hs2]⟩ ⟨rfl,rfl,rfl,rfl,rfl,rfl,trivial⟩
  ·refine t_q rfl (Jq_lss rfl rfl rfl (b:=false) (dF (by omega))) (c_n (Tc_f rfl (Tc_exitA (At_then_exit (At_then_exit (At_block_exit (At_then (Tc_seq ?_))))))))
   have hie:i = (1 + nx l (nk l (nk l k)) 3):=by omega
   subst hie
   refine Tc_region (a_ FT 2 rfl (c_n (Tc_viewB 1 (ls':=[Leaf.val (.int .i64 (((1 + nx l k 3):Nat):Int)),El.row afE out,Leaf.own 4 n2]) rfl rfl (RowAt.ofE afE out rfl (by decide)) ⟨.inl rfl,.inr ⟨rfl,rfl⟩,.inl rfl,trivial⟩ ?_)))
   refine Tc_viewB 1 (ls':=[Leaf.val (.int .i64 (((1 + nx l k 3):Nat):Int)),El.row afE out,El.row afE out2]) rfl rfl (RowAt.ofE afE out2 rfl (by decide)) ⟨.inl rfl,.inl rfl,.inr ⟨rfl,rfl⟩,trivial⟩ ?_
   exact Tc_retP (fun _ _ h=>h) rfl (⟨_,_,rfl,rfl,.inl ⟨ty26,Nat.le_of_ble_eq_true rfl,rfl⟩⟩) (by unfold graphq;rw [← hs2,← hs]) rfl (by unfold graphq;rw [← hs2]) hX
end Go.Proofs.YtjdbopkbfkgpdaaGreatDoor
set_option linter.unusedSimpArgs false
set_option linter.unusedVariables false
namespace Go.Proofs.YtjdbopkbfkgpdaaGreatDoor
open Go Go.RowKit Rc
set_option maxRecDepth 10000 in
theorem small_spec (l:List Nat) (k inp:Nat) (hn:inp≤100) (hl:l.length≤1000000) (hk:k≤l.length) (hb:∀ x∈l,x < 256):CtrP Tryz.prog 97 146 [El.row u8E l,Leaf.val (.int .i64 ((k:Nat):Int))] [El.row u8E l,Leaf.val (.int .i64 (((regq l k inp).2:Nat):Int))] [V.one (Leaf.val (.int .i64 ((inp:Int))))] (R.one (rgV (regq l k inp).1)):=by
 refine CtrP.of_body Tryz.func97 rfl Tryz.ntmps97 (Nat.le_of_ble_eq_true rfl) (fun w0 A0 bk hX=>?_)
 refine c_a (t_f rfl (Je_alloc (n:=1) rfl tx29 rfl) (cna (t_f rfl (Je_alloc (n:=2) rfl tx29 rfl) (cns (Tc_seq (Tc_growB 2 34 3 (ls':=[Leaf.own 3 0,Leaf.val (.slice none 0 0),Leaf.val (.slice none 0 0)]) rfl rfl rfl ⟨.inr ⟨rfl,rfl⟩,.inl rfl,.inl rfl,trivial⟩ ?_))))))
 refine Tc_growB 2 34 3 (ls':=[Leaf.own 3 0,Leaf.own 4 0,Leaf.val (.slice none 0 0)]) rfl rfl rfl ⟨.inl rfl,.inr ⟨rfl,rfl⟩,.inl rfl,trivial⟩ (Tc_region (a_ FT 1 rfl (c_n (Tc_block ?_))))
 refine Tc_loopR (fun m Γ H=>∃ (i:Nat) (n1 n2:Nat) (lo up:List Rat) (q:Nat),inp - i = m∧Γ = [(0,some (D.ptr 0 0)),(1,some (D.val (.int .i64 ((inp:Nat):Int)))),(4,some (D.ptr 1 0)),(5,some (D.ptr 2 0)),(6,some (D.val (.int .i64 ((i:Nat):Int))))]∧H = [hbq 146 [El.row u8E l,Leaf.val (.int .i64 ((q:Nat):Int))] bk,hb_ 29 [Leaf.val (.slice none 0 0),Leaf.val (.slice none 0 0),Leaf.val (.slice none 0 0)],hb_ 29 [Leaf.own 3 n1,Leaf.own 4 n2,Leaf.val (.slice none 0 0)],hgr 34 3 ratE lo n1,hgr 34 3 ratE up n2]∧i≤inp∧((lo,up),q) = boxq l k i) ⟨0,0,0,[],[],_,rfl,rfl,rfl,Nat.zero_le _,rfl⟩ ⟨rfl,rfl,rfl,rfl,rfl,trivial⟩ ?_
 rintro m Γ H ⟨i,n1,n2,lo,up,q,rfl,rfl,rfl,hi0,hs⟩
 refine Tc_seq (c_a (a_ FT 2 rfl ?_))
 by_cases hi:i < inp
 ·refine t_q rfl (Jq_lss rfl rfl rfl (b:=true) (dT (by omega))) (c_n (Tc_t rfl (c_b (Tc_seq (Tc_block (Tc_seq ?_))))))
  obtain ⟨e1,e2⟩:=boxq_len l k i
  have hq:=boxq_le hk i
  rw [← hs] at e1 e2 hq
  simp only [] at e1 e2 hq
  have hq1:=nk_le hq
  have hq2:=nk_le hq1
  haveI:=numq_bd l q
  haveI:=numq_bd l (nk l (nk l q))
  refine Tc_region (a_ FT 1 rfl (t_f rfl (Je_call_ptr rfl fn77 rfl rfl rfl rfl (number_spec l q hl (by first | assumption | exact nk_le (by assumption)) hb)) (a_ FT 1 rfl (t_f rfl (Je_call_ptr rfl fn77 rfl rfl rfl rfl (number_spec l (nk l (nk l q)) hl (by first | assumption | exact nk_le (by assumption)) hb)) (t_f rfl (Je_alloc (n:=5) rfl tz34 rfl) ?_)))))
  refine t_f rfl (Je_alloc (n:=6) rfl tz34 rfl) (a_ FT 2 rfl (cna (a_ FT 2 rfl (c_n (Tc_drawK 0 [none,none,none,none,some 3,none,none,none,none,none,none,some 4,none,some 2,none,some 2] [3,4,2] follows (by kernel_rfl) (d_ FT 1 rfl (DK_qp [3,4] (JO_q rfl rfl (Jq_load rfl rfl rfl (by decide) ty27 rfl)) (by kernel_rfl) (d_ FT 1 rfl ?_))))))))
  refine DK_c rfl rfl (fun _=>Je_buildSlice rfl un27 ty34 tz34 rfl (by decide) (by decide) rfl (by decide) rfl) ?_
  obtain ⟨ti3,hi3,hz3,hs3,hb3⟩:=in34
  refine DK_s 3 rfl rfl rfl (Jd_appendR ratE lo (numq l q) rfl rfl rfl rfl (by decide) un27 un27 hi3 hz3 hs3 rfl (by first | (simp only [maxLen];omega) | (simp only [maxLen,List.length_append,List.length_take,List.length_drop,List.length_cons,List.length_nil];omega)) (by rw [hb3];first | omega | (simp only [List.length_append,List.length_take,List.length_drop,List.length_cons,List.length_nil];omega))) ?_
  refine d_ FT 1 rfl (DK_qp [3,4] (JO_q rfl rfl (Jq_load rfl rfl rfl (by decide) ty27 rfl)) (by kernel_rfl) (d_ FT 2 rfl ?_))
  refine DK_c rfl rfl (Jd_call rfl fn57 rfl (rqadd (qOf (numq l q)) (numq l q) (qOf_q _) (Br.use (by omega)) (Qr.mk false (limbs (cnum (numq l (nk l (nk l q))))) (limbs (cden (numq l (nk l (nk l q))))) (small_limbs _) (small_limbs _)) (rq false (cnum (numq l (nk l (nk l q)))) (cden (numq l (nk l (nk l q))))) (qr_eq (val_limbs _) (val_limbs _)) (Fit.mk (Br.use (r:=numq l (nk l (nk l q))) (by omega)).n (Br.use (r:=numq l (nk l (nk l q))) (by omega)).d))) ?_
  refine DK_c rfl rfl (fun _=>Je_buildSlice rfl un27 ty34 tz34 rfl (by decide) (by decide) rfl (by decide) rfl) ?_
  obtain ⟨ti4,hi4,hz4,hs4,hb4⟩:=in34
  refine DK_s 4 rfl rfl rfl (Jd_appendR ratE up ((numq l q) + (rq false (cnum (numq l (nk l (nk l q)))) (cden (numq l (nk l (nk l q)))))) rfl rfl rfl rfl (by decide) un27 un27 hi4 hz4 hs4 rfl (by first | (simp only [maxLen];omega) | (simp only [maxLen,List.length_append,List.length_take,List.length_drop,List.length_cons,List.length_nil];omega)) (by rw [hb4];first | omega | (simp only [List.length_append,List.length_take,List.length_drop,List.length_cons,List.length_nil];omega))) ?_
  refine d_ FT 1 rfl (DK_s 2 rfl rfl rfl (Jd_store rfl rfl rfl rfl ty27 rfl (by decide) (Nat.le_of_ble_eq_true rfl) rfl) (d_ FT 1 rfl (DK_s 2 rfl rfl rfl (Jd_store rfl rfl rfl rfl ty27 rfl (by decide) (Nat.le_of_ble_eq_true rfl) rfl) (DK_nil (At_block (At_then (Tc_region (a_ FT 1 rfl (t_q rfl (Jq_add rfl rfl rfl (r:=((i + 1:Nat):Int)) (w64 (by omega) (by omega) (by omega))) ?_)))))))))
  refine a_ FT 1 rfl (Tl_end (At_free 5 (At_free 6 (trim_ 5 rfl ?_))))
  exact At_next (m':=inp - (i + 1)) (by omega) ⟨i + 1,_,_,_,_,_,rfl,rfl,rfl,hi,by rw [boxq_succ,← hs];rfl⟩ ⟨rfl,rfl,rfl,rfl,rfl,trivial⟩
 ·refine t_q rfl (Jq_lss rfl rfl rfl (b:=false) (dF (by omega))) (c_n (Tc_f rfl (Tc_exitA (At_then_exit (At_then_exit (At_block_exit (At_then (Tc_seq (Tc_seq ?_)))))))))
  have hie:inp = i:=by omega
  subst hie
  have hq:=boxq_le hk inp
  rw [← hs] at hq
  have hq:q≤l.length:=hq
  have hm3:nx l q 3 < 3:=nx_lt (by decide)
  have hqk:=nk_le hq
  refine Tc_growB 2 36 4 (ls':=[Leaf.own 3 n1,Leaf.own 4 n2,Leaf.own 5 0]) rfl rfl rfl ⟨.inl rfl,.inl rfl,.inr ⟨rfl,rfl⟩,trivial⟩ (Tc_region (a_ FT 1 rfl (t_f rfl (Je_call_ptr rfl fn76 rfl rfl rfl rfl (next_spec l q 3 (by first | decide | omega) (by first | decide | omega) hl (by first | assumption | exact nk_le (by assumption)) hb)) (a_ FT 1 rfl (c_n (Tc_block ?_))))))
  refine Tc_loopR (fun m Γ H=>∃ (i:Nat) (n3:Nat) (out:List Af) (q2:Nat),(nx l q 3) - i = m∧Γ = [(0,some (D.ptr 0 0)),(1,some (D.val (.int .i64 ((inp:Nat):Int)))),(4,some (D.ptr 1 0)),(5,some (D.ptr 2 0)),(9,some (D.val (.int .i64 ((((nx l q 3) - i):Nat):Int))))]∧H = [hbq 146 [El.row u8E l,Leaf.val (.int .i64 ((q2:Nat):Int))] bk,hb_ 29 [Leaf.val (.slice none 0 0),Leaf.val (.slice none 0 0),Leaf.val (.slice none 0 0)],hb_ 29 [Leaf.own 3 n1,Leaf.own 4 n2,Leaf.own 5 n3],hgr 34 3 ratE lo n1,hgr 34 3 ratE up n2,hgr 36 4 afE out n3]∧i≤(nx l q 3)∧(out,q2) = formsq l (fun _=>inp) (nk l q) i) ⟨0,0,[],_,rfl,rfl,rfl,Nat.zero_le _,rfl⟩ ⟨rfl,rfl,rfl,rfl,rfl,trivial⟩ ?_
  rintro m Γ H ⟨i,n3,out,q2,rfl,rfl,rfl,hj0,hs2⟩
  refine Tc_seq (c_a (a_ FT 1 rfl ?_))
  by_cases hj:i < (nx l q 3)
  ·refine t_q rfl (Jq_gtr rfl rfl rfl (b:=true) (dT (by omega))) (c_n (Tc_t rfl (c_b (Tc_seq (Tc_block ?_)))))
   have hol:=congrArg (fun p=>p.1.length) hs2
   simp only [formsq_len] at hol
   have hq2:q2≤l.length:=by have:=formsq_le (l:=l) (f:=(fun _=>inp)) (k:=(nk l q)) hqk (fun _=>.inr trivial) (fun j hj=>by omega) i (by omega);rw [← hs2] at this;exact this
   refine Tc_drawK 0 [none,none,none,none,some 0,none,some 5,none,some 2] [0,5,2] follows (by kernel_rfl) (d_ FT 1 rfl (DK_qp [0,5] (JO_q rfl rfl (Jq_load rfl rfl rfl (by decide) ty24 rfl)) (by kernel_rfl) (d_ FT 2 rfl (DK_s 0 rfl rfl rfl (Jd_call_ptr rfl fn71 rfl rfl rfl rfl (form_spec l q2 inp (by omega) hl (by assumption) hb)) ?_))))
   refine DK_c rfl rfl (fun _=>Je_buildSlice rfl un24 ty36 tz36 rfl (by decide) (by decide) rfl (by decide) rfl) ?_
   obtain ⟨ti7,hi7,hz7,hs7,hb7⟩:=in36
   refine DK_s 5 rfl rfl rfl (Jd_appendR afE out (⟨(formq l q2 inp).1.ts,(formq l q2 inp).1.c⟩) rfl rfl rfl rfl (by decide) un24 un24 hi7 hz7 hs7 rfl (by first | (simp only [maxLen];omega) | (simp only [maxLen,List.length_append,List.length_take,List.length_drop,List.length_cons,List.length_nil];omega)) (by rw [hb7];first | omega | (simp only [List.length_append,List.length_take,List.length_drop,List.length_cons,List.length_nil];omega))) ?_
   refine d_ FT 1 rfl (DK_s 2 rfl rfl rfl (Jd_store rfl rfl rfl rfl ty24 rfl (by decide) (Nat.le_of_ble_eq_true rfl) rfl) (DK_nil (At_block (At_then (Tc_region (a_ FT 1 rfl (t_q rfl (Jq_sub rfl rfl rfl (r:=(((nx l q 3) - (i + 1):Nat):Int)) (w64 (by omega) (by omega) (by omega))) (a_ FT 1 rfl (Tl_end ?_)))))))))
   exact At_next (m':=(nx l q 3) - (i + 1)) (by omega) ⟨i + 1,_,_,_,rfl,rfl,rfl,(by omega),by rw [formsq_succ,← hs2]⟩ ⟨rfl,rfl,rfl,rfl,rfl,trivial⟩
  ·refine t_q rfl (Jq_gtr rfl rfl rfl (b:=false) (dF (by omega))) (c_n (Tc_f rfl (Tc_exitA (At_then_exit (At_then_exit (At_block_exit (At_then (Tc_seq ?_))))))))
   have hie:i = (nx l q 3):=by omega
   subst hie
   refine Tc_region (a_ FT 2 rfl (c_n (Tc_viewB 1 (ls':=[El.row ratE lo,Leaf.own 4 n2,Leaf.own 5 n3]) rfl rfl (RowAt.ofE ratE lo rfl (by decide)) ⟨.inr ⟨rfl,rfl⟩,.inl rfl,.inl rfl,trivial⟩ (Tc_viewB 1 (ls':=[El.row ratE lo,El.row ratE up,Leaf.own 5 n3]) rfl rfl (RowAt.ofE ratE up rfl (by decide)) ⟨.inl rfl,.inr ⟨rfl,rfl⟩,.inl rfl,trivial⟩ ?_))))
   refine Tc_viewB 1 (ls':=[El.row ratE lo,El.row ratE up,El.row afE out]) rfl rfl (RowAt.ofE afE out rfl (by decide)) ⟨.inl rfl,.inl rfl,.inr ⟨rfl,rfl⟩,trivial⟩ ?_
   exact Tc_retP (fun _ _ h=>h) rfl (⟨_,_,rfl,rfl,.inl ⟨ty29,Nat.le_of_ble_eq_true rfl,rfl⟩⟩) (by unfold regq;rw [← hs,← hs2]) rfl (by unfold regq;rw [← hs,← hs2]) hX
end Go.Proofs.YtjdbopkbfkgpdaaGreatDoor
set_option linter.unusedSimpArgs false
set_option linter.unusedVariables false
namespace Go.Proofs.YtjdbopkbfkgpdaaGreatDoor
open Go Go.RowKit Rc
set_option maxRecDepth 10000 in
theorem query_spec (l:List Nat) (k:Nat) (hl:l.length≤1000000) (hk:k≤l.length) (hb:∀ x∈l,x < 256):CtrP Tryz.prog 53 146 [El.row u8E l,Leaf.val (.int .i64 ((k:Nat):Int))] [El.row u8E l,Leaf.val (.int .i64 (((queryq l k).2:Nat):Int))] [] (R.one (quV (queryq l k).1)):=by
 refine CtrP.of_body Tryz.func53 rfl Tryz.ntmps53 (Nat.le_of_ble_eq_true rfl) (fun w0 A0 bk hX=>?_)
 have hg:=graphq_ok l k
 have h1:=hg.i1;have h2:=hg.i3;have h3:=hg.u4
 have hk1:=graphq_le hk
 have hk2:=regq_le (n:=(graphq l k).1.inp) hk1 (by omega)
 refine c_a (t_f rfl (Je_alloc (n:=1) rfl tz38 rfl) (cna (a_ FT 1 rfl (t_f rfl (Je_call_ptr rfl fn96 rfl rfl rfl rfl (graph_spec l k hl (by assumption) hb)) (t_f rfl (Je_alloc (n:=2) rfl tz26 rfl) (a_ FT 1 rfl (cna (a_ FT 3 rfl (t_f rfl (Je_call_ptr rfl fn97 rfl rfl rfl rfl (small_spec l ((graphq l k).2) ((graphq l k).1.inp) (by omega) hl (by assumption) hb)) ?_)))))))))
 refine t_f rfl (Je_alloc (n:=3) rfl tz29 rfl) (a_ FT 1 rfl (cns (Tc_drawK 0 [none,none,none,none,none,none,none,none,none,some 0,none,some 1] [0,1] follows (by kernel_rfl) (d_ FT 7 rfl (dq_ rfl rfl (Jq_len rfl rfl un24) (dq_ rfl rfl (Jq_add rfl rfl rfl (r:=((((graphq l k).1.inp) + (((graphq l k).1.us).length):Nat):Int)) (w64 (by omega) (by omega) (by omega))) ?_))))))
 refine DK_s 0 rfl rfl rfl (Jd_call_ptr rfl fn71 rfl rfl rfl rfl (form_spec l ((regq l ((graphq l k).2) ((graphq l k).1.inp)).2) (((graphq l k).1.inp) + (((graphq l k).1.us).length)) (by omega) hl (by assumption) hb)) (dq_ rfl rfl (Jq_build rfl tz38 rfl pl38 rfl) (DK_s 1 rfl rfl rfl (Jd_store rfl rfl rfl rfl ty38 rfl (by decide) (Nat.le_of_ble_eq_true rfl) rfl) (DK_nil (At_then ?_))))
 exact Tc_retP (fun _ _ h=>h) rfl (⟨_,_,rfl,rfl,.inl ⟨ty38,Nat.le_of_ble_eq_true rfl,rfl⟩⟩) rfl rfl rfl hX
end Go.Proofs.YtjdbopkbfkgpdaaGreatDoor
set_option linter.unusedSimpArgs false
set_option linter.unusedVariables false
namespace Go.Proofs.YtjdbopkbfkgpdaaGreatDoor
open Go Go.RowKit Rc
end Go.Proofs.YtjdbopkbfkgpdaaGreatDoor
set_option linter.unusedSimpArgs false
set_option linter.unusedVariables false
namespace Go.Proofs.YtjdbopkbfkgpdaaGreatDoor
open Go Go.RowKit Rc
set_option maxRecDepth 10000 in
theorem rvalidall (l:List Af) (vars:Nat) {B n:Nat} (hA:∀ f∈l,Fm f.ts B n∧Br f.c B) (hB:B≤300000000000) (hn:n≤1000) (hl:l.length≤1000) (hv:vars≤1000000):Ctr Tryz.prog 94 [V.one (El.row afE l),V.one (Leaf.val (.int .i64 ((vars:Int))))] (R.one (V.one (Leaf.val (.bool (decide (∀ f∈l,∀ t∈f.ts,t.1 < vars)))))):=by
 refine Ctr.of_body Tryz.func94 rfl Tryz.ntmps94 (Nat.le_of_ble_eq_true rfl) (fun w0 A0=>?_)
 refine c_a (a_ FT 1 rfl (cns (c_a (a_ FT 1 rfl (c_n (Tc_block ?_))))))
 refine Tc_loopR (fun m Γ H=>∃ (i:Nat),l.length - i = m∧Γ = [(0,some (D.v (V.one (El.row afE l)))),(1,some (D.val (.int .i64 ((vars:Nat):Int)))),(5,some (D.val (.int .i64 ((i:Nat):Int))))]∧H = []∧i≤l.length∧∀ f∈l.take i,∀ t∈f.ts,t.1 < vars) ⟨0,rfl,rfl,rfl,Nat.zero_le _,by simp⟩ ⟨rfl,rfl,rfl,trivial⟩ ?_
 rintro m Γ H ⟨i,rfl,rfl,rfl,hi0,hall⟩
 refine Tc_seq (c_a (a_ FT 2 rfl (t_q rfl (Jq_len rfl rfl un24) ?_)))
 by_cases hi:i < l.length
 ·refine t_q rfl (Jq_lss rfl rfl rfl (b:=true) (dT (by omega))) (c_n (Tc_t rfl (c_b (Tc_seq (Tc_block (Tc_seq ?_))))))
  obtain ⟨x,hx⟩:∃ x,l[i]? = some x:=⟨_,List.getElem?_eq_getElem hi⟩
  obtain ⟨hxm,hxc⟩:=hA x (List.mem_of_getElem? hx)
  refine Tc_region (a_ FT 2 rfl (t_q rfl (Jq_indexX afE l (i) rfl rfl rfl un24 ty36 hx) (t_q rfl (Jq_load_ref_agg rfl rfl ty36 rfl) (a_ FT 1 rfl (t_f rfl (Je_call rfl fn28 rfl (rvalid7 x vars hxm.can hxm.bd hB (Nat.le_trans hxm.len hn) hv)) (a_ FT 1 rfl (c_n ?_)))))))
  refine Tc_cond rfl (fun hc18=>?_) (fun hc18=>?_)
  ·refine c_a (a_ FT 1 rfl (c_n ?_))
   exact Tc_ret1 hq_ rfl rfl (by rw [badA hx (by simpa using hc18)])
  ·refine Tc_skipA (At_block (At_then (Tc_region (a_ FT 1 rfl (t_q rfl (Jq_add rfl rfl rfl (r:=((i + 1:Nat):Int)) (w64 (by omega) (by omega) (by omega))) (a_ FT 1 rfl (Tl_end ?_)))))))
   exact At_next (m':=l.length - (i + 1)) (by omega) ⟨i + 1,rfl,rfl,rfl,hi,takeA hx hall (by simpa using hc18)⟩ ⟨rfl,rfl,rfl,trivial⟩
 ·refine t_q rfl (Jq_lss rfl rfl rfl (b:=false) (dF (by omega))) (c_n (Tc_f rfl (Tc_exitA (At_then_exit (At_then_exit (At_block_exit (At_then (c_a (a_ FT 1 rfl ?_)))))))))
  refine c_n ?_
  exact Tc_ret1 hq_ rfl rfl (by rw [decide_eq_true (show ∀ f∈l,∀ t∈f.ts,t.1 < vars from by rw [show i = l.length by omega,List.take_length] at hall;exact hall)])
end Go.Proofs.YtjdbopkbfkgpdaaGreatDoor
set_option linter.unusedSimpArgs false
set_option linter.unusedVariables false
namespace Go.Proofs.YtjdbopkbfkgpdaaGreatDoor
open Go Go.RowKit Rc
theorem rvalid_ok (f:Af) {b n:Nat} (h:FOk b n f) (hb:b≤100000) (vars:Nat) (hv:n≤vars) (hv2:vars≤1000):Ctr Tryz.prog 28 [afV f,V.one (Leaf.val (.int .i64 ((vars:Int))))] (R.one (V.one (Leaf.val (.bool true)))):=by
 haveI:=h.br
 have e:=rvalid7 f vars (B:=b + 1) h.can (fun t ht=>(h.bd t ht).br) (by omega) (Nat.le_trans h.len (by omega)) (by omega)
 rwa [decide_eq_true (fun t ht=>Nat.lt_of_lt_of_le (h.var t ht) hv)] at e
theorem rvalidall_ok (l:List Af) {b n:Nat} (h:∀ f∈l,FOk b n f) (hb:b≤100000) (hl:l.length≤1000) (vars:Nat) (hv:n≤vars) (hv2:vars≤1000):Ctr Tryz.prog 94 [V.one (El.row afE l),V.one (Leaf.val (.int .i64 ((vars:Int))))] (R.one (V.one (Leaf.val (.bool true)))):=by
 have e:=rvalidall l vars (B:=b + 1) (n:=n) (fun f hf=>⟨(h f hf).fm (by omega),(h f hf).br⟩) (by omega) (by omega) hl (by omega)
 rwa [decide_eq_true (fun f hf t ht=>Nat.lt_of_lt_of_le ((h f hf).var t ht) hv)] at e
set_option maxRecDepth 10000 in
theorem rqvalidall (l:List Rat) {B:Nat} (h:∀ x∈l,Br x B) (hB:B≤100000) (hl:l.length≤1000):Ctr Tryz.prog 95 [V.one (El.row ratE l)] (R.one (V.one (Leaf.val (.bool true)))):=by
 refine Ctr.of_body Tryz.func95 rfl Tryz.ntmps95 (Nat.le_of_ble_eq_true rfl) (fun w0 A0=>?_)
 refine c_a (a_ FT 1 rfl (cns (c_a (a_ FT 1 rfl (c_n (Tc_block (Tc_loopR (fun m Γ H=>∃ (i:Nat),l.length - i = m∧Γ = [(0,some (D.v (V.one (El.row ratE l)))),(3,some (D.val (.int .i64 ((i:Nat):Int))))]∧H = []∧i≤l.length) ⟨0,rfl,rfl,rfl,Nat.zero_le _⟩ ⟨rfl,rfl,trivial⟩ ?_)))))))
 rintro m Γ H ⟨i,rfl,rfl,rfl,hi0⟩
 refine Tc_seq (c_a (a_ FT 2 rfl (t_q rfl (Jq_len rfl rfl un27) ?_)))
 by_cases hi:i < l.length
 ·refine t_q rfl (Jq_lss rfl rfl rfl (b:=true) (dT (by omega))) (c_n (Tc_t rfl (c_b (Tc_seq (Tc_block (Tc_seq ?_))))))
  obtain ⟨x,hx⟩:∃ x,l[i]? = some x:=⟨_,List.getElem?_eq_getElem hi⟩
  haveI hbx:=h x (List.mem_of_getElem? hx)
  refine Tc_region (a_ FT 2 rfl (t_q rfl (Jq_indexX ratE l (i) rfl rfl rfl un27 ty34 hx) (t_q rfl (Jq_load_ref_agg rfl rfl ty34 rfl) (t_f rfl (Je_call rfl fn70 rfl (rqvalid (qOf x) x (qOf_q _) (Br.use (by omega)))) (Tl_is true (isC_of _) (a_ FT 1 rfl (c_n (Tc_f rfl (Tc_skipA ?_)))))))))
  refine At_block (At_then (Tc_region (a_ FT 1 rfl (t_q rfl (Jq_add rfl rfl rfl (r:=((i + 1:Nat):Int)) (w64 (by omega) (by omega) (by omega))) (a_ FT 1 rfl (Tl_end ?_))))))
  exact At_next (m':=l.length - (i + 1)) (by omega) ⟨i + 1,rfl,rfl,rfl,hi⟩ ⟨rfl,rfl,trivial⟩
 ·refine t_q rfl (Jq_lss rfl rfl rfl (b:=false) (dF (by omega))) (c_n (Tc_f rfl (Tc_exitA (At_then_exit (At_then_exit (At_block_exit (At_then (c_a (a_ FT 1 rfl ?_)))))))))
  refine c_n ?_
  exact Tc_ret1 hq_ rfl rfl rfl
set_option maxRecDepth 10000 in
theorem gvalid_r (g:Gr) (hg:GOk g):Ctr Tryz.prog 50 [grV g] (R.one (V.one (Leaf.val (.bool true)))):=by
 refine Ctr.of_body Tryz.func50 rfl Tryz.ntmps50 (Nat.le_of_ble_eq_true rfl) (fun w0 A0=>?_)
 have h1:=hg.i1;have h2:=hg.i3;have h3:=hg.u4;have h4:=hg.o1;have h5:=hg.o3
 refine c_a (t_f rfl (Je_box (n:=0) rfl rfl rfl) (a_ FT 1 rfl (cns (c_a (a_ FT 2 rfl (t_q rfl (Jq_lss rfl rfl rfl (b:=false) (dF (by omega))) (a_ FT 3 rfl (t_g rfl rfl rfl rfl (Jq_gtr rfl rfl rfl (b:=false) (dF (by omega))) (a_ FT 4 rfl ?_)))))))))
 refine t_g rfl rfl rfl rfl (Jq_len rfl rfl un24) (t_g rfl rfl rfl rfl (Jq_gtr rfl rfl rfl (b:=false) (dF (by omega))) (a_ FT 4 rfl (t_g rfl rfl rfl rfl (Jq_len rfl rfl un24) (t_g rfl rfl rfl rfl (Jq_lss rfl rfl rfl (b:=false) (dF (by omega))) (a_ FT 4 rfl (t_g rfl rfl rfl rfl (Jq_len rfl rfl un24) (t_g rfl rfl rfl rfl (Jq_gtr rfl rfl rfl (b:=false) (dF (by omega))) ?_)))))))
 refine a_ FT 1 rfl (c_n (Tc_f rfl (c_b (Tc_seq (c_a (a_ FT 1 rfl (c_n (Tc_block ?_))))))))
 refine Tc_loopR (fun m Γ H=>∃ (i:Nat),g.us.length - i = m∧Γ = [(1,some (D.ptr 0 0)),(3,some (D.val (.int .i64 ((i:Nat):Int))))]∧H = [hb_ 26 [Leaf.val (.int .i64 ((g.inp:Nat):Int)),El.row afE g.us,El.row afE g.os]]∧i≤g.us.length) ⟨0,rfl,rfl,rfl,Nat.zero_le _⟩ ⟨rfl,rfl,trivial⟩ ?_
 rintro m Γ H ⟨i,rfl,rfl,rfl,hi0⟩
 refine Tc_seq (c_a (a_ FT 3 rfl (t_q rfl (Jq_len rfl rfl un24) ?_)))
 by_cases hi:i < g.us.length
 ·refine t_q rfl (Jq_lss rfl rfl rfl (b:=true) (dT (by omega))) (c_n (Tc_t rfl (c_b (Tc_seq (Tc_block (Tc_seq ?_))))))
  obtain ⟨x,hx⟩:∃ x,g.us[i]? = some x:=⟨_,List.getElem?_eq_getElem hi⟩
  have hxo:=hg.us i x hx
  refine Tc_drawK 0 [none,none,none,none,none,none,none,none,none,none,none] [] follows (by kernel_rfl) (d_ FT 3 rfl (dq_ rfl rfl (Jq_indexX afE g.us (i) rfl rfl rfl un24 ty36 hx) (dq_ rfl rfl (Jq_load_ref_agg rfl rfl ty36 rfl) (d_ FT 3 rfl (dq_ rfl rfl (Jq_add rfl rfl rfl (r:=((g.inp + i:Nat):Int)) (w64 (by omega) (by omega) (by omega))) ?_)))))
  refine DK_c rfl rfl (Jd_call rfl fn28 rfl (rvalid_ok x hxo (by omega) (g.inp + i) (Nat.le_refl _) (by omega))) (d_ FT 1 rfl (DK_nil (At_then (Tc_f rfl (Tc_skipA (At_block (At_then (Tc_region (a_ FT 1 rfl ?_)))))))))
  refine t_q rfl (Jq_add rfl rfl rfl (r:=((i + 1:Nat):Int)) (w64 (by omega) (by omega) (by omega))) (a_ FT 1 rfl (Tl_end ?_))
  exact At_next (m':=g.us.length - (i + 1)) (by omega) ⟨i + 1,rfl,rfl,rfl,hi⟩ ⟨rfl,rfl,trivial⟩
 ·refine t_q rfl (Jq_lss rfl rfl rfl (b:=false) (dF (by omega))) (c_n (Tc_f rfl (Tc_exitA (At_then_exit (At_then_exit (At_block_exit (At_then (c_a (a_ FT 6 rfl ?_)))))))))
  refine t_q rfl (Jq_len rfl rfl un24) (t_q rfl (Jq_add rfl rfl rfl (r:=((g.inp + g.us.length:Nat):Int)) (w64 (by omega) (by omega) (by omega))) (t_f rfl (Je_call rfl fn94 rfl (rvalidall_ok g.os hg.os (by omega) (by omega) (g.inp + g.us.length) (Nat.le_refl _) (by omega))) (a_ FT 1 rfl (c_n ?_))))
  exact Tc_ret1 hq_ rfl rfl rfl
set_option maxRecDepth 10000 in
theorem vars_r (g:Gr) (hg:GOk g):Ctr Tryz.prog 52 [grV g] (R.one (V.one (Leaf.val (.int .i64 (((g.inp + g.us.length:Nat):Int)))))):=by
 refine Ctr.of_body Tryz.func52 rfl Tryz.ntmps52 (Nat.le_of_ble_eq_true rfl) (fun w0 A0=>?_)
 have h1:=hg.i1;have h2:=hg.i3;have h3:=hg.u4;have h4:=hg.o1;have h5:=hg.o3
 refine c_a (t_f rfl (Je_box (n:=0) rfl rfl rfl) (a_ FT 1 rfl (cns (c_a (a_ FT 1 rfl (t_f rfl (Je_call rfl fn50 rfl (gvalid_r g (by assumption))) (a_ FT 1 rfl (c_n (Tc_f rfl ?_)))))))))
 refine c_b (c_a (a_ FT 4 rfl (t_q rfl (Jq_len rfl rfl un24) (t_q rfl (Jq_add rfl rfl rfl (r:=((g.inp + g.us.length:Nat):Int)) (w64 (by omega) (by omega) (by omega))) (a_ FT 1 rfl (c_n ?_))))))
 exact Tc_ret1 hq_ rfl rfl rfl
set_option maxRecDepth 10000 in
theorem rgvalid_r (r:Rg) (n:Nat) (hr:ROk n r) (hn1:1≤n) (hn3:n≤3):Ctr Tryz.prog 51 [rgV r,V.one (Leaf.val (.int .i64 ((n:Int))))] (R.one (V.one (Leaf.val (.bool true)))):=by
 refine Ctr.of_body Tryz.func51 rfl Tryz.ntmps51 (Nat.le_of_ble_eq_true rfl) (fun w0 A0=>?_)
 have h1:=hr.lo;have h2:=hr.hi;have h3:=hr.r2
 refine c_a (t_f rfl (Je_box (n:=0) rfl rfl rfl) (a_ FT 1 rfl (cns (c_a (a_ FT 1 rfl (t_q rfl (Jq_lss rfl rfl rfl (b:=false) (dF (by omega))) (a_ FT 2 rfl (t_g rfl rfl rfl rfl (Jq_gtr rfl rfl rfl (b:=false) (dF (by omega))) (a_ FT 4 rfl ?_)))))))))
 refine t_g rfl rfl rfl rfl (Jq_len rfl rfl un27) (a_ FT 1 rfl (t_g rfl rfl rfl rfl (Jq_neq rfl rfl rfl (b:=false) (nF (by omega))) (a_ FT 4 rfl (t_g rfl rfl rfl rfl (Jq_len rfl rfl un27) (a_ FT 1 rfl (t_g rfl rfl rfl rfl (Jq_neq rfl rfl rfl (b:=false) (nF (by omega))) (a_ FT 4 rfl (t_g rfl rfl rfl rfl (Jq_len rfl rfl un24) ?_))))))))
 refine t_g rfl rfl rfl rfl (Jq_gtr rfl rfl rfl (b:=false) (dF (by omega))) (a_ FT 1 rfl (c_n (Tc_f rfl (c_b (Tc_seq (c_a (a_ FT 2 rfl ?_)))))))
 refine t_f rfl (Je_call rfl fn95 rfl (rqvalidall r.lo (B:=4) (fun x hx=>by obtain ⟨j,hj⟩:=mem_get hx;obtain ⟨y,hy⟩:∃ y,r.hi[j]? = some y:=⟨_,List.getElem?_eq_getElem (by have:=(List.getElem?_eq_some_iff.1 hj).1;omega)⟩;exact (hr.bd j _ _ hj hy).1.br) (by omega) (by omega))) ?_
 refine a_ FT 4 rfl ?_
 refine Tl_e (JO_eg rfl rfl rfl rfl (Je_call rfl fn95 rfl (rqvalidall r.hi (B:=8) (fun x hx=>by obtain ⟨j,hj⟩:=mem_get hx;obtain ⟨y,hy⟩:∃ y,r.lo[j]? = some y:=⟨_,List.getElem?_eq_getElem (by have:=(List.getElem?_eq_some_iff.1 hj).1;omega)⟩;exact (hr.bd j _ _ hy hj).2.1.br) (by omega) (by omega)))) rfl rfl ?_
 refine a_ FT 6 rfl (Tl_e (JO_eg rfl rfl rfl rfl (Je_call rfl fn94 rfl (rvalidall_ok r.rows hr.rows (by omega) (by omega) n (Nat.le_refl _) (by omega)))) rfl rfl (a_ FT 2 rfl (c_n (Tc_f rfl (c_b (Tc_seq (c_a (a_ FT 1 rfl (c_n ?_)))))))))
 refine Tc_block (Tc_loopR (fun m Γ H=>∃ (i:Nat),n - i = m∧Γ = [(1,some (D.val (.int .i64 ((n:Nat):Int)))),(2,some (D.ptr 0 0)),(5,some (D.val (.int .i64 ((i:Nat):Int))))]∧H = [hb_ 29 [El.row ratE r.lo,El.row ratE r.hi,El.row afE r.rows]]∧i≤n) ⟨0,rfl,rfl,rfl,Nat.zero_le _⟩ ⟨rfl,rfl,rfl,trivial⟩ ?_)
 rintro m Γ H ⟨i,rfl,rfl,rfl,hi0⟩
 refine Tc_seq (c_a (a_ FT 2 rfl ?_))
 by_cases hi:i < n
 ·refine t_q rfl (Jq_lss rfl rfl rfl (b:=true) (dT (by omega))) (c_n (Tc_t rfl (c_b (Tc_seq (Tc_block (Tc_seq ?_))))))
  obtain ⟨x,hx⟩:∃ x,r.lo[i]? = some x:=⟨_,List.getElem?_eq_getElem (by omega)⟩
  obtain ⟨y,hy⟩:∃ y,r.hi[i]? = some y:=⟨_,List.getElem?_eq_getElem (by omega)⟩
  obtain ⟨hb1,hb2,hxy⟩:=hr.bd i x y hx hy
  haveI:=hb1.br;haveI:=hb2.br
  refine Tc_drawK 0 [none,none,none,none,none,none,none,none,none,none,none,none] [] follows (by kernel_rfl) (d_ FT 3 rfl (dq_ rfl rfl (Jq_indexX ratE r.lo (i) rfl rfl rfl un27 ty34 hx) (dq_ rfl rfl (Jq_load_ref_agg rfl rfl ty34 rfl) (d_ FT 3 rfl (dq_ rfl rfl (Jq_indexX ratE r.hi (i) rfl rfl rfl un27 ty34 hy) (dq_ rfl rfl (Jq_load_ref_agg rfl rfl ty34 rfl) ?_))))))
  refine DK_c rfl rfl (Jd_call rfl fn22 rfl (rqcmp (qOf (x)) (x) (qOf_q _) (Br.use (by omega)) (qOf (y)) (y) (qOf_q _) (Br.use (by omega)))) (dq_ rfl rfl (Jq_gtr rfl rfl rfl (b:=false) (dF (by have:=cmpq_le.2 hxy;omega))) (DK_nil (At_then (Tc_f rfl (Tc_skipA (At_block (At_then (Tc_region (a_ FT 1 rfl ?_)))))))))
  refine t_q rfl (Jq_add rfl rfl rfl (r:=((i + 1:Nat):Int)) (w64 (by omega) (by omega) (by omega))) (a_ FT 1 rfl (Tl_end ?_))
  exact At_next (m':=n - (i + 1)) (by omega) ⟨i + 1,rfl,rfl,rfl,hi⟩ ⟨rfl,rfl,rfl,trivial⟩
 ·refine t_q rfl (Jq_lss rfl rfl rfl (b:=false) (dF (by omega))) (c_n (Tc_f rfl (Tc_exitA (At_then_exit (At_then_exit (At_block_exit (At_then (c_a (a_ FT 1 rfl ?_)))))))))
  refine c_n ?_
  exact Tc_ret1 hq_ rfl rfl rfl
set_option maxRecDepth 10000 in
theorem qvalid_r (q:Qu) (hq:QOk q):Ctr Tryz.prog 14 [quV q] (R.one (V.one (Leaf.val (.bool true)))):=by
 refine Ctr.of_body Tryz.func14 rfl Tryz.ntmps14 (Nat.le_of_ble_eq_true rfl) (fun w0 A0=>?_)
 have hg:=hq.g;have hr:=hq.r
 have h1:=hg.i1;have h2:=hg.i3;have h3:=hg.u4;have h4:=hg.o1;have h5:=hg.o3
 refine c_a (t_f rfl (Je_box (n:=0) rfl rfl rfl) (a_ FT 1 rfl (cns (Tc_drawK 0 [none,none,none,none,none,none,none,none,none,none,none,none,none,none,none,none,none,none,none,none] [] follows (by kernel_rfl) (d_ FT 2 rfl (DK_c rfl rfl (Jd_call rfl fn50 rfl (gvalid_r q.g (by assumption))) (d_ FT 6 rfl ?_)))))))
 refine DK_cg rfl rfl rfl rfl (Jd_call rfl fn51 rfl (rgvalid_r q.r q.g.inp (by assumption) (by omega) (by omega))) (d_ FT 6 rfl (DK_cg rfl rfl rfl rfl (Jd_call rfl fn52 rfl (vars_r q.g (by assumption))) (DK_cg rfl rfl rfl rfl (Jd_call rfl fn28 rfl (rvalid_ok q.goal hq.goal (by omega) (q.g.inp + q.g.us.length) (Nat.le_refl _) (by omega))) (d_ FT 2 rfl (DK_nil (At_then ?_))))))
 exact Tc_ret1 hq_ rfl rfl rfl
end Go.Proofs.YtjdbopkbfkgpdaaGreatDoor
set_option linter.unusedSimpArgs false
set_option linter.unusedVariables false
namespace Go.Proofs.YtjdbopkbfkgpdaaGreatDoor
open Go Go.RowKit Rc
set_option maxRecDepth 10000 in
theorem iof_z (z:Int) (h1:-9223372036854775808≤z) (h2:z≤9223372036854775807):Ctr Tryz.prog 85 [V.one (Leaf.val (.int .i64 z))] (R.one (zV (zOf z))):=by
 refine Ctr.of_body Tryz.func85 rfl Tryz.ntmps85 (Nat.le_of_ble_eq_true rfl) (fun w0 A0=>?_)
 refine c_a (t_f rfl (Je_alloc (n:=0) rfl tz130 rfl) (cns (c_a (a_ FT 1 rfl ?_))))
 by_cases hz0:z < 0
 ·refine t_q rfl (Jq_lss rfl rfl rfl (b:=true) (dT (by omega))) (c_n (Tc_t rfl (c_a (a_ FT 1 rfl (t_q rfl (Jq_convert rfl rfl un164 us3 (r:=((18446744073709551616 - z.natAbs:Nat):Int)) (wu64 (by omega))) (t_q rfl (Jq_neg rfl rfl (r:=((z.natAbs:Nat):Int)) (wu64 (by omega))) (t_f rfl (Je_call rfl fn130 rfl (of_spec z.natAbs (by omega))) ?_)))))))
  refine t_q rfl (Jq_build rfl tz130 rfl pl130 rfl) (a_ FT 1 rfl (c_n ?_))
  exact Tc_ret1 hq_ rfl (rA ty130 rfl rfl rfl rfl) (by show R.one (V.agg [Leaf.val (.bool true),natL (limbs z.natAbs)]) = R.one (V.agg [Leaf.val (.bool (decide (z < 0))),natL (limbs z.natAbs)]);rw [decide_eq_true hz0])
 ·refine t_q rfl (Jq_lss rfl rfl rfl (b:=false) (dF (by omega))) (c_n (Tc_f rfl (c_b (c_a (a_ FT 1 rfl (t_q rfl (Jq_convert rfl rfl un164 us3 (r:=((z.natAbs:Nat):Int)) (wu64 (by omega))) (t_f rfl (Je_call rfl fn130 rfl (of_spec z.natAbs (by omega))) (t_q rfl (Jq_build rfl tz130 rfl pl130 rfl) (a_ FT 1 rfl ?_)))))))))
  refine c_n ?_
  exact Tc_ret1 hq_ rfl (rA ty130 rfl rfl rfl rfl) (by show R.one (V.agg [Leaf.val (.bool false),natL (limbs z.natAbs)]) = R.one (V.agg [Leaf.val (.bool (decide (z < 0))),natL (limbs z.natAbs)]);rw [decide_eq_false hz0])
set_option maxRecDepth 10000 in
theorem qwhole (z:Int) {B:Nat} [Bz z B] (hB:B≤1000):Ctr Tryz.prog 84 [zV (zOf z)] (R.one (qV (qOf (z:Rat)))):=by
 refine Ctr.of_body Tryz.func84 rfl Tryz.ntmps84 (Nat.le_of_ble_eq_true rfl) (fun w0 A0=>?_)
 refine c_a (t_f rfl (Je_box (n:=0) rfl rfl rfl) (t_f rfl (Je_alloc (n:=1) rfl tz34 rfl) (cns (Tc_drawK 0 [none,none,none,none,none,none,some 1] [1] follows (by kernel_rfl) (d_ FT 4 rfl (DK_c rfl rfl (Jd_call rfl fn129 rfl (qone)) ?_))))))
 refine DK_c rfl rfl (Jd_call rfl fn128 rfl (qquot (decide (z < 0)) (limbs (Int.natAbs (z))) [1] (small_limbs _) (Small.cons (by decide) Small.nil) (Bz.use (z:=z) (by omega)) (by simp) (Int.natAbs (z)) (1) (val_limbs _) rfl (by decide))) (DK_s 1 rfl rfl rfl (Jd_store rfl rfl rfl rfl ty34 rfl (by decide) (Nat.le_of_ble_eq_true rfl) rfl) (DK_nil (At_then ?_)))
 exact Tc_ret1 hq_ rfl (rA ty34 rfl rfl rfl rfl) (by rw [rq_intz];rfl)
set_option maxRecDepth 10000 in
theorem qof_spec (z:Int) (h1:-9223372036854775808≤z) (h2:z≤9223372036854775807):Ctr Tryz.prog 41 [V.one (Leaf.val (.int .i64 z))] (R.one (qV (qOf (z:Rat)))):=by
 refine Ctr.of_body Tryz.func41 rfl Tryz.ntmps41 (Nat.le_of_ble_eq_true rfl) (fun w0 A0=>?_)
 haveI:Bz z 2:=⟨Bn.of_lt (by omega) (by omega)⟩
 refine c_a (t_f rfl (Je_alloc (n:=0) rfl tz34 rfl) (cna (a_ FT 1 rfl (t_f rfl (Je_call rfl fn85 rfl (iof_z z (by omega) (by omega))) (t_f rfl (Je_call rfl fn84 rfl (qwhole z (by omega))) (a_ FT 1 rfl (c_n ?_)))))))
 exact Tc_ret1 hq_ rfl (rA ty34 rfl rfl rfl rfl) rfl
set_option maxRecDepth 10000 in
theorem lvalid (f:Af) {b n:Nat} (h:FOk b n f) (hb:b≤100000) (vars:Nat) (hv:n≤vars) (hv2:vars≤1000):Ctr Tryz.prog 82 [afV f,V.one (Leaf.val (.int .i64 ((vars:Int))))] (R.one (V.one (Leaf.val (.bool true)))):=by
 refine Ctr.of_body Tryz.func82 rfl Tryz.ntmps82 (Nat.le_of_ble_eq_true rfl) (fun w0 A0=>?_)
 haveI:=h.br
 have hln:=h.len
 refine c_a (t_f rfl (Je_box (n:=0) rfl rfl rfl) (a_ FT 1 rfl (cns (c_a (a_ FT 2 rfl (t_q rfl (Jq_len rfl rfl un30) (a_ FT 1 rfl (c_n (Tc_block ?_)))))))))
 refine Tc_loopR (fun m Γ H=>∃ (i:Nat),f.ts.length - i = m∧Γ = [(1,some (D.val (.int .i64 ((vars:Nat):Int)))),(2,some (D.ptr 0 0)),(8,some (D.v (V.one (El.row tmE f.ts)))),(9,some (D.val (.int .i64 ((f.ts.length:Nat):Int)))),(10,some (D.val (.int .i64 ((i:Nat):Int))))]∧H = [hb_ 36 (afL f)]∧i≤f.ts.length) ⟨0,rfl,rfl,rfl,Nat.zero_le _⟩ ⟨rfl,rfl,rfl,rfl,rfl,trivial⟩ ?_
 rintro m Γ H ⟨i,rfl,rfl,rfl,hi0⟩
 refine c_a ?_
 by_cases hi:i < f.ts.length
 ·refine t_q rfl (Jq_lss rfl rfl rfl (b:=true) (dT (by omega))) (cns (Tc_t rfl (c_b (Tc_seq (Tc_block (Tc_seq ?_))))))
  obtain ⟨x,hx⟩:∃ x,f.ts[i]? = some x:=⟨_,List.getElem?_eq_getElem hi⟩
  have hxm:=List.mem_of_getElem? hx
  haveI hbx:=(h.bd x hxm).br
  obtain ⟨hn0,hgt,hlt⟩:=h.can.get hx
  have hxv:=h.var x hxm
  refine Tc_region (a_ FT 1 rfl (t_q rfl (Jq_indexX tmE f.ts (i) rfl rfl rfl un30 ty68 hx) (t_q rfl (Jq_load_ref_agg rfl rfl ty68 rfl) (t_f rfl (Je_alloc (n:=1) rfl tz68 rfl) (a_ FT 2 rfl (cns ?_))))))
  refine Tc_drawK 0 [none,none,none,none,none,none,none,none,none,none,none,none,none,none,none,none,none,none,none,none,none,none,none,none,none,none,none,none,none,none,none,none,none,none,none,none,none] [] follows (by kernel_rfl) (d_ FT 2 rfl (dq_ rfl rfl (Jq_lss rfl rfl rfl (b:=false) (dF (by omega))) (d_ FT 4 rfl ?_)))
  refine DK_q (JO_qg rfl rfl rfl rfl (Jq_geq rfl rfl rfl (b:=false) (dF (by omega)))) (d_ FT 3 rfl ?_)
  by_cases hi1:0 < i
  ·refine DK_q (JO_qg rfl rfl rfl rfl (Jq_gtr rfl rfl rfl (b:=true) (dT (by omega)))) (d_ FT 4 rfl ?_)
   obtain ⟨y,hy⟩:∃ y,f.ts[i - 1]? = some y:=⟨_,List.getElem?_eq_getElem (by omega)⟩
   have hyx:=h.can.prev hi1 hx hy
   refine DK_q (JO_qg rfl rfl rfl rfl (Jq_sub rfl rfl rfl (r:=((i - 1:Nat):Int)) (w64 (by omega) (by omega) (by omega)))) (DK_q (JO_qg rfl rfl rfl rfl (Jq_indexX tmE f.ts (i - 1) rfl rfl rfl un30 ty68 hy)) (DK_q (JO_qg rfl rfl rfl rfl (Jq_fieldAddr_ref rfl rfl fo68_0 rfl)) (DK_q (JO_qg rfl rfl rfl rfl (Jq_load_ref rfl rfl ty3)) (d_ FT 2 rfl ?_))))
   refine DK_q (JO_qg rfl rfl rfl rfl (Jq_geq rfl rfl rfl (b:=false) (dF (by omega)))) (d_ FT 5 rfl (DK_cg rfl rfl rfl rfl (Jd_call rfl fn90 rfl (qsign (qOf (x.2)) (x.2) (qOf_q _) (Br.use (by omega)))) (DK_q (JO_qg rfl rfl rfl rfl (Jq_eql rfl rfl rfl (b:=false) (eF (sg_ne hn0)))) (d_ FT 4 rfl ?_))))
   refine DK_cg rfl rfl rfl rfl (Jd_call rfl fn122 rfl (qvalid (qOf (x.2)) (x.2) (qOf_q _) (Br.use (by omega)))) (DK_is true (isC_of _) (d_ FT 2 rfl (DK_nil (At_then (Tc_f rfl (Tc_skipA (At_block (At_then (Tc_region ?_)))))))))
   refine t_q rfl (Jq_add rfl rfl rfl (r:=((i + 1:Nat):Int)) (w64 (by omega) (by omega) (by omega))) (a_ FT 1 rfl (Tl_end (At_free 1 (trim_ 1 rfl ?_))))
   exact At_next (m':=f.ts.length - (i + 1)) (by omega) ⟨i + 1,rfl,rfl,rfl,hi⟩ ⟨rfl,rfl,rfl,rfl,rfl,trivial⟩
  ·refine DK_q (JO_qg rfl rfl rfl rfl (Jq_gtr rfl rfl rfl (b:=false) (dF (by omega)))) (d_ FT 16 rfl (DK_cg rfl rfl rfl rfl (Jd_call rfl fn90 rfl (qsign (qOf (x.2)) (x.2) (qOf_q _) (Br.use (by omega)))) (DK_q (JO_qg rfl rfl rfl rfl (Jq_eql rfl rfl rfl (b:=false) (eF (sg_ne hn0)))) (d_ FT 4 rfl ?_))))
   refine DK_cg rfl rfl rfl rfl (Jd_call rfl fn122 rfl (qvalid (qOf (x.2)) (x.2) (qOf_q _) (Br.use (by omega)))) (DK_is true (isC_of _) (d_ FT 2 rfl (DK_nil (At_then (Tc_f rfl (Tc_skipA (At_block (At_then (Tc_region ?_)))))))))
   refine t_q rfl (Jq_add rfl rfl rfl (r:=((i + 1:Nat):Int)) (w64 (by omega) (by omega) (by omega))) (a_ FT 1 rfl (Tl_end (At_free 1 (trim_ 1 rfl ?_))))
   exact At_next (m':=f.ts.length - (i + 1)) (by omega) ⟨i + 1,rfl,rfl,rfl,hi⟩ ⟨rfl,rfl,rfl,rfl,rfl,trivial⟩
 ·refine t_q rfl (Jq_lss rfl rfl rfl (b:=false) (dF (by omega))) (cns (Tc_f rfl (Tc_exitA (At_then_exit (At_then_exit (At_block_exit (At_then (c_a (a_ FT 2 rfl ?_)))))))))
  refine t_f rfl (Je_call rfl fn122 rfl (qvalid (qOf (f.c)) (f.c) (qOf_q _) (Br.use (by omega)))) (Tl_is true (isC_of _) (a_ FT 1 rfl (c_n ?_)))
  exact Tc_ret1 hq_ rfl rfl rfl
set_option maxRecDepth 10000 in
theorem idxfunc (l:List Af) (f:Nat) (ls:List Leaf) (hl:l.length≤1000000) (hf:FnOk Tryz.prog f) (hp:∀ x∈l,Ctr Tryz.prog f ([afV x] ++ ones ls) (R.one (V.one (Leaf.val (.bool false))))):Ctr Tryz.prog 156 [V.one (El.row afE l),V.one (Leaf.rep (funcRep f ls))] (R.one (V.one (Leaf.val (.int .i64 (-1))))):=by
 refine Ctr.of_body Tryz.func156 rfl Tryz.ntmps156 (Nat.le_of_ble_eq_true rfl) (fun w0 A0=>?_)
 refine c_a (a_ FT 1 rfl (cns (c_a (a_ FT 1 rfl (t_q rfl (Jq_len rfl rfl un24) (a_ FT 1 rfl (c_n (Tc_block ?_))))))))
 refine Tc_loopR (fun m Γ H=>∃ (i:Nat),l.length - i = m∧Γ = [(0,some (D.v (V.one (El.row afE l)))),(1,some (D.rep (funcRep f ls))),(7,some (D.val (.int .i64 ((l.length:Nat):Int)))),(8,some (D.val (.int .i64 ((i:Nat):Int))))]∧H = []∧i≤l.length) ⟨0,rfl,rfl,rfl,Nat.zero_le _⟩ ⟨rfl,rfl,rfl,rfl,trivial⟩ ?_
 rintro m Γ H ⟨i,rfl,rfl,rfl,hi0⟩
 refine c_a ?_
 by_cases hi:i < l.length
 ·refine t_q rfl (Jq_lss rfl rfl rfl (b:=true) (dT (by omega))) (cns (Tc_t rfl (c_b (Tc_seq (Tc_block (c_a (a_ FT 2 rfl (cns ?_))))))))
  obtain ⟨x,hx⟩:∃ x,l[i]? = some x:=⟨_,List.getElem?_eq_getElem hi⟩
  refine Tc_region (a_ FT 3 rfl (t_q rfl (Jq_indexX afE l (i) rfl rfl rfl un24 ty36 hx) (t_q rfl (Jq_load_ref_agg rfl rfl ty36 rfl) (t_f rfl (Je_callVR rfl rfl hf rfl (hp x (List.mem_of_getElem? hx))) (c_n (Tc_f rfl (Tc_skipA (At_block (At_then ?_)))))))))
  refine Tc_region (t_q rfl (Jq_add rfl rfl rfl (r:=((i + 1:Nat):Int)) (w64 (by omega) (by omega) (by omega))) (a_ FT 1 rfl (Tl_end ?_)))
  exact At_next (m':=l.length - (i + 1)) (by omega) ⟨i + 1,rfl,rfl,rfl,hi⟩ ⟨rfl,rfl,rfl,rfl,trivial⟩
 ·refine t_q rfl (Jq_lss rfl rfl rfl (b:=false) (dF (by omega))) (cns (Tc_f rfl (Tc_exitA (At_then_exit (At_then_exit (At_block_exit (At_then (c_a (a_ FT 1 rfl ?_)))))))))
  refine c_n ?_
  exact Tc_ret1 hq_ rfl rfl rfl
set_option maxRecDepth 10000 in
theorem hasfunc (l:List Af) (f:Nat) (ls:List Leaf) (hl:l.length≤1000000) (hf:FnOk Tryz.prog f) (hp:∀ x∈l,Ctr Tryz.prog f ([afV x] ++ ones ls) (R.one (V.one (Leaf.val (.bool false))))):Ctr Tryz.prog 123 [V.one (El.row afE l),V.one (Leaf.rep (funcRep f ls))] (R.one (V.one (Leaf.val (.bool false)))):=by
 refine Ctr.of_body Tryz.func123 rfl Tryz.ntmps123 (Nat.le_of_ble_eq_true rfl) (fun w0 A0=>?_)
 refine c_a (a_ FT 1 rfl (cna (a_ FT 2 rfl (t_f rfl (Je_call rfl fn156 rfl (idxfunc l f ls hl hf hp)) (t_q rfl (Jq_geq rfl rfl rfl (b:=false) (rfl)) (a_ FT 1 rfl (c_n ?_)))))))
 exact Tc_ret1 hq_ rfl rfl rfl
set_option maxRecDepth 10000 in
theorem gvalid1 (f:Af) {b n:Nat} (h:FOk b n f) (hb:b≤100000) (vars:Nat) (hv:n≤vars) (hv2:vars≤1000):Ctr Tryz.prog 154 [afV f,V.one (Leaf.rep (ptrRep [Leaf.val (.int .i64 ((vars:Nat):Int))]))] (R.one (V.one (Leaf.val (.bool false)))):=by
 refine Ctr.of_body Tryz.func154 rfl Tryz.ntmps154 (Nat.le_of_ble_eq_true rfl) (fun w0 A0=>?_)
 refine c_a (t_f rfl (Je_box (n:=0) rfl rfl rfl) (a_ FT 1 rfl (cna (a_ FT 1 rfl (t_q rfl (Jq_load_ref rfl rfl ty3) (t_f rfl (Je_call rfl fn82 rfl (lvalid f h hb vars hv hv2)) (a_ FT 2 rfl (c_n ?_))))))))
 exact Tc_ret1 hq_ rfl rfl rfl
set_option maxRecDepth 10000 in
theorem rvalid1 (f:Af) {b n:Nat} (h:FOk b n f) (hb:b≤100000) (vars:Nat) (hv:n≤vars) (hv2:vars≤1000):Ctr Tryz.prog 124 [afV f,V.one (Leaf.rep (ptrRep [Leaf.val (.int .i64 ((vars:Nat):Int))]))] (R.one (V.one (Leaf.val (.bool false)))):=by
 refine Ctr.of_body Tryz.func124 rfl Tryz.ntmps124 (Nat.le_of_ble_eq_true rfl) (fun w0 A0=>?_)
 refine c_a (t_f rfl (Je_box (n:=0) rfl rfl rfl) (a_ FT 1 rfl (cna (a_ FT 1 rfl (t_q rfl (Jq_load_ref rfl rfl ty3) (t_f rfl (Je_call rfl fn82 rfl (lvalid f h hb vars hv hv2)) (a_ FT 2 rfl (c_n ?_))))))))
 exact Tc_ret1 hq_ rfl rfl rfl
set_option maxRecDepth 10000 in
theorem gvall (l:List Af) {b n:Nat} (h:∀ f∈l,FOk b n f) (hb:b≤100000) (hl:l.length≤1000) (vars:Nat) (hv:n≤vars) (hv2:vars≤1000):Ctr Tryz.prog 121 [V.one (El.row afE l),V.one (Leaf.val (.int .i64 ((vars:Int))))] (R.one (V.one (Leaf.val (.bool true)))):=by
 refine Ctr.of_body Tryz.func121 rfl Tryz.ntmps121 (Nat.le_of_ble_eq_true rfl) (fun w0 A0=>?_)
 refine c_a (t_f rfl (Je_box (n:=0) rfl rfl rfl) (a_ FT 1 rfl (cna (a_ FT 1 rfl (Tl_freeze 3 rfl rfl rfl (t_f rfl (Je_makeFuncR [Leaf.rep (ptrRep [Leaf.val (.int .i64 ((vars:Nat):Int))])] rfl rfl) (t_f rfl (Je_call rfl fn123 rfl (hasfunc l 154 _ (by omega) fn154 (fun x hx=>gvalid1 x (h x hx) hb vars hv hv2))) (a_ FT 2 rfl (c_n ?_)))))))))
 exact Tc_ret1 hq_ rfl rfl rfl
set_option maxRecDepth 10000 in
theorem gvalid_p (g:Gr) (hg:GOk g):Ctr Tryz.prog 80 [grV g] (R.one (V.one (Leaf.val (.bool true)))):=by
 refine Ctr.of_body Tryz.func80 rfl Tryz.ntmps80 (Nat.le_of_ble_eq_true rfl) (fun w0 A0=>?_)
 have h1:=hg.i1;have h2:=hg.i3;have h3:=hg.u4;have h4:=hg.o1;have h5:=hg.o3
 refine c_a (t_f rfl (Je_box (n:=0) rfl rfl rfl) (a_ FT 1 rfl (cns (c_a (a_ FT 2 rfl (t_q rfl (Jq_lss rfl rfl rfl (b:=false) (dF (by omega))) (a_ FT 3 rfl (t_g rfl rfl rfl rfl (Jq_gtr rfl rfl rfl (b:=false) (dF (by omega))) (a_ FT 4 rfl ?_)))))))))
 refine t_g rfl rfl rfl rfl (Jq_len rfl rfl un24) (t_g rfl rfl rfl rfl (Jq_gtr rfl rfl rfl (b:=false) (dF (by omega))) (a_ FT 4 rfl (t_g rfl rfl rfl rfl (Jq_len rfl rfl un24) (t_g rfl rfl rfl rfl (Jq_lss rfl rfl rfl (b:=false) (dF (by omega))) (a_ FT 4 rfl (t_g rfl rfl rfl rfl (Jq_len rfl rfl un24) (t_g rfl rfl rfl rfl (Jq_gtr rfl rfl rfl (b:=false) (dF (by omega))) ?_)))))))
 refine a_ FT 1 rfl (c_n (Tc_f rfl (c_b (Tc_seq (c_a (a_ FT 2 rfl (t_q rfl (Jq_len rfl rfl un24) (a_ FT 1 rfl (c_n ?_)))))))))
 refine Tc_block ?_
 refine Tc_loopR (fun m Γ H=>∃ (i:Nat),g.us.length - i = m∧Γ = [(1,some (D.ptr 0 0)),(32,some (D.v (V.one (El.row afE g.us)))),(33,some (D.val (.int .i64 ((g.us.length:Nat):Int)))),(34,some (D.val (.int .i64 ((i:Nat):Int))))]∧H = [hb_ 26 [Leaf.val (.int .i64 ((g.inp:Nat):Int)),El.row afE g.us,El.row afE g.os]]∧i≤g.us.length) ⟨0,rfl,rfl,rfl,Nat.zero_le _⟩ ⟨rfl,rfl,rfl,rfl,trivial⟩ ?_
 rintro m Γ H ⟨i,rfl,rfl,rfl,hi0⟩
 refine c_a ?_
 by_cases hi:i < g.us.length
 ·refine t_q rfl (Jq_lss rfl rfl rfl (b:=true) (dT (by omega))) (cns (Tc_t rfl (c_b (Tc_seq (Tc_block (Tc_seq ?_))))))
  obtain ⟨x,hx⟩:∃ x,g.us[i]? = some x:=⟨_,List.getElem?_eq_getElem hi⟩
  have hxo:=hg.us i x hx
  refine Tc_region (a_ FT 1 rfl (t_q rfl (Jq_indexX afE g.us (i) rfl rfl rfl un24 ty36 hx) (t_q rfl (Jq_load_ref_agg rfl rfl ty36 rfl) (t_f rfl (Je_alloc (n:=1) rfl tz36 rfl) (a_ FT 2 rfl (cna (a_ FT 4 rfl (t_q rfl (Jq_add rfl rfl rfl (r:=((g.inp + i:Nat):Int)) (w64 (by omega) (by omega) (by omega))) ?_))))))))
  refine t_f rfl (Je_call rfl fn82 rfl (lvalid x hxo (by omega) (g.inp + i) (Nat.le_refl _) (by omega))) (a_ FT 1 rfl (c_n (Tc_f rfl (Tc_skipA (At_block (At_then (Tc_region (t_q rfl (Jq_add rfl rfl rfl (r:=((i + 1:Nat):Int)) (w64 (by omega) (by omega) (by omega))) (a_ FT 1 rfl ?_)))))))))
  refine Tl_end (At_free 1 (trim_ 1 rfl ?_))
  exact At_next (m':=g.us.length - (i + 1)) (by omega) ⟨i + 1,rfl,rfl,rfl,hi⟩ ⟨rfl,rfl,rfl,rfl,trivial⟩
 ·refine t_q rfl (Jq_lss rfl rfl rfl (b:=false) (dF (by omega))) (cns (Tc_f rfl (Tc_exitA (At_then_exit (At_then_exit (At_block_exit (At_then (c_a (a_ FT 6 rfl ?_)))))))))
  refine t_q rfl (Jq_len rfl rfl un24) (t_q rfl (Jq_add rfl rfl rfl (r:=((g.inp + g.us.length:Nat):Int)) (w64 (by omega) (by omega) (by omega))) (t_f rfl (Je_call rfl fn121 rfl (gvall g.os hg.os (by omega) (by omega) (g.inp + g.us.length) (Nat.le_refl _) (by omega))) (a_ FT 1 rfl (c_n ?_))))
  exact Tc_ret1 hq_ rfl rfl rfl
set_option maxRecDepth 10000 in
theorem rgvalid_p (r:Rg) (n:Nat) (hr:ROk n r) (hn1:1≤n) (hn3:n≤3):Ctr Tryz.prog 81 [rgV r,V.one (Leaf.val (.int .i64 ((n:Int))))] (R.one (V.one (Leaf.val (.bool true)))):=by
 refine Ctr.of_body Tryz.func81 rfl Tryz.ntmps81 (Nat.le_of_ble_eq_true rfl) (fun w0 A0=>?_)
 have h1:=hr.lo;have h2:=hr.hi;have h3:=hr.r2
 refine c_a (t_f rfl (Je_box (n:=0) rfl rfl rfl) (t_f rfl (Je_box (n:=1) rfl rfl rfl) (a_ FT 1 rfl (cns (c_a (a_ FT 1 rfl (t_q rfl (Jq_lss rfl rfl rfl (b:=false) (dF (by omega))) (a_ FT 2 rfl (t_g rfl rfl rfl rfl (Jq_gtr rfl rfl rfl (b:=false) (dF (by omega))) ?_)))))))))
 refine a_ FT 4 rfl (t_g rfl rfl rfl rfl (Jq_len rfl rfl un27) (a_ FT 1 rfl (t_g rfl rfl rfl rfl (Jq_neq rfl rfl rfl (b:=false) (nF (by omega))) (a_ FT 4 rfl (t_g rfl rfl rfl rfl (Jq_len rfl rfl un27) (a_ FT 1 rfl (t_g rfl rfl rfl rfl (Jq_neq rfl rfl rfl (b:=false) (nF (by omega))) (a_ FT 4 rfl (t_g rfl rfl rfl rfl (Jq_len rfl rfl un24) ?_)))))))))
 refine t_g rfl rfl rfl rfl (Jq_gtr rfl rfl rfl (b:=false) (dF (by omega))) (a_ FT 1 rfl (c_n (Tc_f rfl (c_b (Tc_seq (c_a (a_ FT 2 rfl (t_q rfl (Jq_len rfl rfl un27) (a_ FT 1 rfl ?_)))))))))
 refine c_n (Tc_block ?_)
 refine Tc_loopR (fun m Γ H=>∃ (i:Nat),n - i = m∧Γ = [(2,some (D.ptr 0 0)),(3,some (D.ptr 1 0)),(34,some (D.v (V.one (El.row ratE r.lo)))),(35,some (D.val (.int .i64 ((r.lo.length:Nat):Int)))),(36,some (D.val (.int .i64 ((i:Nat):Int))))]∧H = [hb_ 29 [El.row ratE r.lo,El.row ratE r.hi,El.row afE r.rows],hb_ 3 [Leaf.val (.int .i64 ((n:Nat):Int))]]∧i≤n) ⟨0,rfl,rfl,rfl,Nat.zero_le _⟩ ⟨rfl,rfl,rfl,rfl,rfl,trivial⟩ ?_
 rintro m Γ H ⟨i,rfl,rfl,rfl,hi0⟩
 refine c_a ?_
 by_cases hi:i < r.lo.length
 ·refine t_q rfl (Jq_lss rfl rfl rfl (b:=true) (dT (by omega))) (cns (Tc_t rfl (c_b (Tc_seq (Tc_block (Tc_seq ?_))))))
  obtain ⟨x,hx⟩:∃ x,r.lo[i]? = some x:=⟨_,List.getElem?_eq_getElem (by omega)⟩
  obtain ⟨y,hy⟩:∃ y,r.hi[i]? = some y:=⟨_,List.getElem?_eq_getElem (by omega)⟩
  obtain ⟨hb1,hb2,hxy⟩:=hr.bd i x y hx hy
  haveI:=hb1.br;haveI:=hb2.br
  refine Tc_region (a_ FT 1 rfl (t_q rfl (Jq_indexX ratE r.lo (i) rfl rfl rfl un27 ty34 hx) (t_q rfl (Jq_load_ref_agg rfl rfl ty34 rfl) (t_f rfl (Je_alloc (n:=2) rfl tz34 rfl) (a_ FT 2 rfl (cns (Tc_drawK 0 [none,none,none,none,none,none,none,none,none,none,none,none,none,none,none,none,none,none,none,none,none,none] [] follows (by kernel_rfl) (d_ FT 1 rfl ?_))))))))
  refine DK_c rfl rfl (Jd_call rfl fn122 rfl (qvalid (qOf (x)) (x) (qOf_q _) (Br.use (by omega)))) (DK_is true (isC_of _) (d_ FT 5 rfl (DK_q (JO_qg rfl rfl rfl rfl (Jq_indexX ratE r.hi (i) rfl rfl rfl un27 ty34 hy)) (DK_q (JO_qg rfl rfl rfl rfl (Jq_load_ref_agg rfl rfl ty34 rfl)) (DK_cg rfl rfl rfl rfl (Jd_call rfl fn122 rfl (qvalid (qOf (y)) (y) (qOf_q _) (Br.use (by omega)))) ?_)))))
  refine DK_is true (isC_of _) (d_ FT 7 rfl (DK_q (JO_qg rfl rfl rfl rfl (Jq_indexX ratE r.hi (i) rfl rfl rfl un27 ty34 hy)) (DK_q (JO_qg rfl rfl rfl rfl (Jq_load_ref_agg rfl rfl ty34 rfl)) (DK_cg rfl rfl rfl rfl (Jd_call rfl fn45 rfl (qcmp (qOf (x)) (x) (qOf_q _) (Br.use (by omega)) (qOf (y)) (y) (qOf_q _) (Br.use (by omega)))) ?_))))
  refine DK_q (JO_qg rfl rfl rfl rfl (Jq_gtr rfl rfl rfl (b:=false) (dF (by have:=cmpq_le.2 hxy;omega)))) (d_ FT 1 rfl (DK_nil (At_then (Tc_f rfl (Tc_skipA (At_block (At_then (Tc_region (t_q rfl (Jq_add rfl rfl rfl (r:=((i + 1:Nat):Int)) (w64 (by omega) (by omega) (by omega))) ?_)))))))))
  refine a_ FT 1 rfl (Tl_end (At_free 2 (trim_ 2 rfl ?_)))
  exact At_next (m':=n - (i + 1)) (by omega) ⟨i + 1,rfl,rfl,rfl,(by omega)⟩ ⟨rfl,rfl,rfl,rfl,rfl,trivial⟩
 ·refine t_q rfl (Jq_lss rfl rfl rfl (b:=false) (dF (by omega))) (cns (Tc_f rfl (Tc_exitA (At_then_exit (At_then_exit (At_block_exit (At_then (c_a (a_ FT 2 rfl ?_)))))))))
  refine Tl_freeze 3 rfl rfl rfl (t_f rfl (Je_makeFuncR [Leaf.rep (ptrRep [Leaf.val (.int .i64 ((n:Nat):Int))])] rfl rfl) (t_f rfl (Je_call rfl fn123 rfl (hasfunc r.rows 124 _ (by omega) fn124 (fun x hx=>rvalid1 x (hr.rows x hx) (by omega) n (Nat.le_refl _) (by omega)))) (a_ FT 2 rfl (c_n ?_))))
  exact Tc_ret1 hq_ rfl rfl rfl
set_option maxRecDepth 10000 in
theorem qvalid_p (q:Qu) (hq:QOk q):Ctr Tryz.prog 36 [quV q] (R.one (V.one (Leaf.val (.bool true)))):=by
 refine Ctr.of_body Tryz.func36 rfl Tryz.ntmps36 (Nat.le_of_ble_eq_true rfl) (fun w0 A0=>?_)
 have hg:=hq.g;have hr:=hq.r
 have h1:=hg.i1;have h2:=hg.i3;have h3:=hg.u4;have h4:=hg.o1;have h5:=hg.o3
 refine c_a (t_f rfl (Je_box (n:=0) rfl rfl rfl) (a_ FT 1 rfl (cna (a_ FT 2 rfl (t_f rfl (Je_call rfl fn80 rfl (gvalid_p q.g (by assumption))) (a_ FT 6 rfl (Tl_e (JO_eg rfl rfl rfl rfl (Je_call rfl fn81 rfl (rgvalid_p q.r q.g.inp (by assumption) (by omega) (by omega)))) rfl rfl (a_ FT 10 rfl (t_g rfl rfl rfl rfl (Jq_len rfl rfl un24) ?_)))))))))
 refine t_g rfl rfl rfl rfl (Jq_add rfl rfl rfl (r:=((q.g.inp + q.g.us.length:Nat):Int)) (w64 (by omega) (by omega) (by omega))) (Tl_e (JO_eg rfl rfl rfl rfl (Je_call rfl fn82 rfl (lvalid q.goal hq.goal (by omega) (q.g.inp + q.g.us.length) (Nat.le_refl _) (by omega)))) rfl rfl (a_ FT 2 rfl (c_n ?_)))
 exact Tc_ret1 hq_ rfl rfl rfl
end Go.Proofs.YtjdbopkbfkgpdaaGreatDoor
set_option linter.unusedSimpArgs false
set_option linter.unusedVariables false
namespace Rc
open Go Go.RowKit
class Fq (x:Qr) (k:outParam Nat):Prop where
 fit:Fit k x
theorem Fq.use {x:Qr} {k k':Nat} [h:Fq x k] (hk:k≤k'):Fit k' x:=h.fit.mono hk
instance Fq.of {r:Rat} {k:Nat} [h:Br r k]:Fq (qOf r) k:=⟨h.fit⟩
instance Fq.br {x:Qr} {k:Nat} [h:Fq x k]:Br x.q k:=Br.q h.fit
theorem Fq.mono {x:Qr} {k k':Nat} (h:Fq x k) (hk:k≤k'):Fq x k':=⟨h.fit.mono hk⟩
instance Br.one:Br ((1:Int):Rat) 2:=Br.int2 (by decide) (by decide)
instance Br.mone:Br ((-1:Int):Rat) 2:=Br.int2 (by decide) (by decide)
def lv (l:List Lm) (n:Nat):Rat:=match l[n - 1]? with | some m=>m.v.q | none=>0
theorem lv_get {l:List Lm} {n:Nat} {m:Lm} (h:l[n - 1]? = some m):lv l n = m.v.q:=by unfold lv;rw [h]
def bstp (l:List Lm) (u:Int) (s:Nat × Nat) (n:Nat):Nat × Nat:=
 match l[n]? with
 | none=>s
 | some m=>if m.unit = u then (if m.up = true then (if s.2 = 0 ∨ m.v.q < lv l s.2 then (s.1,n + 1) else s) else (if s.1 = 0 ∨ lv l s.1 < m.v.q then (n + 1,s.2) else s)) else s
def bestn (l:List Lm) (u:Int) (n:Nat):Nat × Nat:=(List.range n).foldl (bstp l u) (0,0)
def best (l:List Lm) (u:Int):Nat × Nat:=bestn l u l.length
theorem bestn_succ (l:List Lm) (u:Int) (n:Nat):bestn l u (n + 1) = bstp l u (bestn l u n) n:=by
 unfold bestn;rw [List.range_succ,List.foldl_append];rfl
section
variable {l:List Lm} {u:Int} {s:Nat × Nat} {n:Nat} {x:Lm} (hx:l[n]? = some x)
include hx
theorem bstp_ne (h:x.unit≠u):bstp l u s n = s:=by unfold bstp;simp only [hx];rw [if_neg h]
theorem bstp_ut (h:x.unit = u) (hu:x.up = true) (hc:s.2 = 0 ∨ x.v.q < lv l s.2):bstp l u s n = (s.1,n + 1):=by unfold bstp;simp only [hx];rw [if_pos h,if_pos hu,if_pos hc]
theorem bstp_uf (h:x.unit = u) (hu:x.up = true) (hc:¬ (s.2 = 0 ∨ x.v.q < lv l s.2)):bstp l u s n = s:=by unfold bstp;simp only [hx];rw [if_pos h,if_pos hu,if_neg hc]
theorem bstp_lt (h:x.unit = u) (hu:x.up = false) (hc:s.1 = 0 ∨ lv l s.1 < x.v.q):bstp l u s n = (n + 1,s.2):=by unfold bstp;simp only [hx];rw [if_pos h,if_neg (by rw [hu];decide),if_pos hc]
theorem bstp_lf (h:x.unit = u) (hu:x.up = false) (hc:¬ (s.1 = 0 ∨ lv l s.1 < x.v.q)):bstp l u s n = s:=by unfold bstp;simp only [hx];rw [if_pos h,if_neg (by rw [hu];decide),if_neg hc]
end
def isLm (l:List Lm) (u:Int) (up:Bool) (n:Nat):Prop:=n = 0 ∨ ∃ m,l[n - 1]? = some m∧0 < n∧m.unit = u∧m.up = up
theorem bestn_ok (l:List Lm) (u:Int):∀ n,(bestn l u n).1≤n∧(bestn l u n).2≤n∧isLm l u false (bestn l u n).1∧isLm l u true (bestn l u n).2
 | 0=>⟨Nat.le_refl _,Nat.le_refl _,.inl rfl,.inl rfl⟩
 | n + 1=>by
  obtain ⟨h1,h2,h3,h4⟩:=bestn_ok l u n
  rw [bestn_succ]
  cases hx:l[n]? with
  | none=>unfold bstp;simp only [hx];exact ⟨by omega,by omega,h3,h4⟩
  | some x=>
   by_cases hu:x.unit = u
   ·cases hup:x.up
    ·by_cases hc:(bestn l u n).1 = 0 ∨ lv l (bestn l u n).1 < x.v.q
     ·rw [bstp_lt hx hu hup hc];exact ⟨Nat.le_refl _,by show (bestn l u n).2≤n + 1;omega,.inr ⟨x,by simpa using hx,by simp,hu,hup⟩,h4⟩
     ·rw [bstp_lf hx hu hup hc];exact ⟨by omega,by omega,h3,h4⟩
    ·by_cases hc:(bestn l u n).2 = 0 ∨ x.v.q < lv l (bestn l u n).2
     ·rw [bstp_ut hx hu hup hc];exact ⟨by show (bestn l u n).1≤n + 1;omega,Nat.le_refl _,h3,.inr ⟨x,by simpa using hx,by simp,hu,hup⟩⟩
     ·rw [bstp_uf hx hu hup hc];exact ⟨by omega,by omega,h3,h4⟩
   ·rw [bstp_ne hx hu];exact ⟨by omega,by omega,h3,h4⟩
theorem best_lo {l:List Lm} {u:Int} (h:(best l u).1≠0):∃ m,l[(best l u).1 - 1]? = some m∧m.unit = u∧m.up = false∧lv l (best l u).1 = m.v.q∧0 < (best l u).1∧(best l u).1≤l.length:=by
 obtain ⟨h1,h2,h3,h4⟩:=bestn_ok l u l.length
 rcases h3 with h3 | ⟨m,q1,q2,q3,q4⟩
 ·exact absurd h3 h
 ·exact ⟨m,q1,q3,q4,lv_get q1,q2,h1⟩
theorem best_hi {l:List Lm} {u:Int} (h:(best l u).2≠0):∃ m,l[(best l u).2 - 1]? = some m∧m.unit = u∧m.up = true∧lv l (best l u).2 = m.v.q∧0 < (best l u).2∧(best l u).2≤l.length:=by
 obtain ⟨h1,h2,h3,h4⟩:=bestn_ok l u l.length
 rcases h4 with h3 | ⟨m,q1,q2,q3,q4⟩
 ·exact absurd h3 h
 ·exact ⟨m,q1,q3,q4,lv_get q1,q2,h2⟩
theorem best_le (l:List Lm) (u:Int):(best l u).1≤l.length∧(best l u).2≤l.length:=⟨(bestn_ok l u l.length).1,(bestn_ok l u l.length).2.1⟩
def lessR (a b:Rw):Bool:=if a.kind≠b.kind then decide (a.kind < b.kind) else if a.idx≠b.idx then decide (a.idx < b.idx) else if a.lo≠b.lo then decide (a.lo < b.lo) else decide (a.hi < b.hi)
theorem lessR_iff {a b:Rw}:lessR a b = true↔a.kind < b.kind ∨ (a.kind = b.kind∧(a.idx < b.idx ∨ (a.idx = b.idx∧(a.lo < b.lo ∨ (a.lo = b.lo∧a.hi < b.hi))))):=by
 unfold lessR
 split
 ·simp;omega
 ·split
  ·simp;omega
  ·split <;> simp <;> omega
theorem lessR_trans {a b c:Rw} (h:lessR a b = true) (h':lessR b c = true):lessR a c = true:=by
 rw [lessR_iff] at *;omega
theorem lessR_irrefl (a:Rw):lessR a a = false:=by
 cases h:lessR a a
 ·rfl
 ·rw [lessR_iff] at h;omega
theorem lessR_total {a b:Rw} (h:lessR a b = false) (hne:a≠b):lessR b a = true:=by
 cases h':lessR b a
 ·exfalso
  have h1:¬ lessR a b = true:=by rw [h];decide
  have h2:¬ lessR b a = true:=by rw [h'];decide
  rw [lessR_iff] at h1 h2
  exact hne (Rw.ext' (by omega) (by omega) (by omega) (by omega))
 ·rfl
theorem eq4_t {a b:Rw} (h:a = b):eq4 a.kind a.idx a.lo a.hi b.kind b.idx b.lo b.hi = true:=by subst h;simp [eq4]
theorem eq4_f {a b:Rw} (h:a≠b):eq4 a.kind a.idx a.lo a.hi b.kind b.idx b.lo b.hi = false:=by
 cases h':eq4 a.kind a.idx a.lo a.hi b.kind b.idx b.lo b.hi
 ·rfl
 ·exfalso
  simp [eq4] at h'
  exact h (Rw.ext' h'.1 h'.2.1 h'.2.2.1 h'.2.2.2)
def insM:List Mu→Rw→Rat→List Mu
 | [],r,c=>[⟨r,qOf c⟩]
 | m :: l,r,c=>if lessR m.r r = true then m :: insM l r c else if m.r = r then ⟨r,qOf (m.c.q + c)⟩ :: l else ⟨r,qOf c⟩ :: m :: l
def plusM (l:List Mu) (r:Rw) (c:Rat):List Mu:=if c = 0 then l else insM l r c
def mergeM (a b:List Mu) (c:Rat):List Mu:=b.foldl (fun a m=>plusM a m.r (m.c.q * c)) a
theorem insM_at:∀ {l:List Mu} {r:Rw} {c:Rat} {k:Nat},(∀ (i:Nat) (m:Mu),i < k→l[i]? = some m→lessR m.r r = true)→k≤l.length→insM l r c = l.take k ++ insM (l.drop k) r c
 | l,r,c,0,_,_=>by simp
 | [],r,c,k + 1,_,h=>by simp at h
 | m :: l,r,c,k + 1,h,hk=>by
  have h0:=h 0 m (by omega) rfl
  have ih:=insM_at (l:=l) (r:=r) (c:=c) (k:=k) (fun i m' hi hm=>h (i + 1) m' (by omega) (by simpa using hm)) (by simpa using hk)
  show (if lessR m.r r = true then m :: insM l r c else _) = _
  rw [if_pos h0,ih]
  rfl
theorem insM_end {l:List Mu} {r:Rw} {c:Rat} (h:∀ (i:Nat) (m:Mu),i < l.length→l[i]? = some m→lessR m.r r = true):insM l r c = l ++ [⟨r,qOf c⟩]:=by
 rw [insM_at h (Nat.le_refl _),List.take_length,List.drop_length];rfl
theorem drop_get' {α:Type} {l:List α} {k:Nat} {x:α} (h:l[k]? = some x):l.drop k = x :: l.drop (k + 1):=drop_get h
theorem insM_eq {l:List Mu} {r:Rw} {c:Rat} {k:Nat} {x:Mu} (h:∀ (i:Nat) (m:Mu),i < k→l[i]? = some m→lessR m.r r = true) (hx:l[k]? = some x) (hr:x.r = r):insM l r c = l.take k ++ [⟨r,qOf (x.c.q + c)⟩] ++ l.drop (k + 1):=by
 rw [insM_at h (Nat.le_of_lt (List.getElem?_eq_some_iff.1 hx).1),drop_get' hx]
 show _ ++ (if lessR x.r r = true then _ else if x.r = r then _ else _) = _
 rw [if_neg (by rw [hr,lessR_irrefl];decide),if_pos hr,List.append_assoc];rfl
theorem insM_ne {l:List Mu} {r:Rw} {c:Rat} {k:Nat} {x:Mu} (h:∀ (i:Nat) (m:Mu),i < k→l[i]? = some m→lessR m.r r = true) (hx:l[k]? = some x) (hl:lessR x.r r = false) (hr:x.r≠r):insM l r c = l.take k ++ [⟨r,qOf c⟩] ++ l.drop k:=by
 rw [insM_at h (Nat.le_of_lt (List.getElem?_eq_some_iff.1 hx).1),drop_get' hx]
 show _ ++ (if lessR x.r r = true then _ else if x.r = r then _ else _) = _
 rw [if_neg (by rw [hl];decide),if_neg hr,List.append_assoc];rfl
theorem insM_len:∀ (l:List Mu) (r:Rw) (c:Rat),(insM l r c).length≤l.length + 1
 | [],_,_=>by simp [insM]
 | m :: l,r,c=>by
  have:=insM_len l r c
  unfold insM
  split
  ·simp;omega
  ·split <;> simp
theorem plusM_len (l:List Mu) (r:Rw) (c:Rat):(plusM l r c).length≤l.length + 1:=by
 unfold plusM;split
 ·omega
 ·exact insM_len l r c
theorem mergeM_len:∀ (b a:List Mu) (c:Rat),(mergeM a b c).length≤a.length + b.length
 | [],a,c=>by simp [mergeM]
 | m :: b,a,c=>by
  have h1:=plusM_len a m.r (m.c.q * c)
  have h2:=mergeM_len b (plusM a m.r (m.c.q * c)) c
  have:mergeM a (m :: b) c = mergeM (plusM a m.r (m.c.q * c)) b c:=rfl
  rw [this];simp;omega
theorem mergeM_snoc (a b:List Mu) (m:Mu) (c:Rat):mergeM a (b ++ [m]) c = plusM (mergeM a b c) m.r (m.c.q * c):=by unfold mergeM;rw [List.foldl_append];rfl
theorem mergeM_take {a b:List Mu} {i:Nat} {m:Mu} {c:Rat} (h:b[i]? = some m):mergeM a (b.take (i + 1)) c = plusM (mergeM a (b.take i) c) m.r (m.c.q * c):=by rw [take_snoc h,mergeM_snoc]
def MB (B:Nat) (l:List Mu):Prop:=∀ m∈l,Fq m.c B
theorem MB.mono {B C:Nat} {l:List Mu} (h:MB B l) (hBC:B≤C):MB C l:=fun m hm=>(h m hm).mono hBC
theorem insM_bd {B C:Nat} {r:Rw} {c:Rat} [hc:Br c C]:∀ {l:List Mu},MB B l→MB (B + C + 1) (insM l r c)
 | [],_=>fun m hm=>by
  simp [insM] at hm;subst hm
  exact (Fq.of (r:=c)).mono (by omega)
 | x :: l,h=>by
  have hx:=h x (by simp)
  intro m hm
  unfold insM at hm
  split at hm
  ·rcases List.mem_cons.1 hm with rfl | hm
   ·exact hx.mono (by omega)
   ·exact insM_bd (l:=l) (fun m hm=>h m (by simp [hm])) m hm
  ·split at hm
   ·rcases List.mem_cons.1 hm with rfl | hm
    ·exact Fq.of (r:=x.c.q + c)
    ·exact (h m (by simp [hm])).mono (by omega)
   ·rcases List.mem_cons.1 hm with rfl | hm
    ·exact (Fq.of (r:=c)).mono (by omega)
    ·exact (h m hm).mono (by omega)
theorem plusM_bd {B C:Nat} {l:List Mu} {r:Rw} {c:Rat} [hc:Br c C] (h:MB B l):MB (B + C + 1) (plusM l r c):=by
 unfold plusM;split
 ·exact h.mono (by omega)
 ·exact insM_bd h
theorem mergeM_bd {B C D:Nat} {c:Rat} [hc:Br c D]:∀ {b a:List Mu},MB B a→MB C b→MB (B + b.length * (C + D + 2)) (mergeM a b c)
 | [],a,h,_=>h.mono (by omega)
 | m :: b,a,h,hb=>by
  haveI:=hb m (by simp)
  have h1:=plusM_bd (r:=m.r) (c:=m.c.q * c) h
  have h2:=mergeM_bd (b:=b) h1 (fun m hm=>hb m (by simp [hm])) (c:=c)
  have e:mergeM a (m :: b) c = mergeM (plusM a m.r (m.c.q * c)) b c:=rfl
  rw [e]
  refine h2.mono ?_
  simp only [List.length_cons,Nat.add_mul]
  omega
def CanM:List Mu→Prop
 | []=>True
 | m :: l=>(m.c = qOf m.c.q∧0 < m.c.q)∧(∀ x∈l,lessR m.r x.r = true)∧CanM l
theorem insM_mem {r:Rw} {c:Rat}:∀ {l:List Mu} {x:Mu},x∈insM l r c→x.r = r ∨ x∈l
 | [],x,h=>by simp [insM] at h;subst h;exact .inl rfl
 | m :: l,x,h=>by
  unfold insM at h
  split at h
  ·rcases List.mem_cons.1 h with rfl | h
   ·exact .inr (by simp)
   ·rcases insM_mem h with h | h
    ·exact .inl h
    ·exact .inr (by simp [h])
  ·split at h
   ·rcases List.mem_cons.1 h with rfl | h
    ·exact .inl rfl
    ·exact .inr (by simp [h])
   ·rcases List.mem_cons.1 h with rfl | h
    ·exact .inl rfl
    ·exact .inr h
theorem insM_can {r:Rw} {c:Rat} (hc:0 < c):∀ {l:List Mu},CanM l→CanM (insM l r c)
 | [],_=>⟨⟨by rw [qOf_q],by rw [qOf_q];exact hc⟩,fun x hx=>by simp at hx,trivial⟩
 | m :: l,h=>by
  obtain ⟨h1,h2,h3⟩:=h
  unfold insM
  split
  ·rename_i hlt
   refine ⟨h1,fun x hx=>?_,insM_can hc h3⟩
   rcases insM_mem hx with e | hx
   ·rw [e];exact hlt
   ·exact h2 x hx
  ·rename_i hlt
   split
   ·rename_i he
    refine ⟨⟨by rw [qOf_q],?_⟩,fun x hx=>?_,h3⟩
    ·rw [qOf_q];have:=h1.2;grind
    ·rw [← he];exact h2 x hx
   ·rename_i hne
    have hl:=lessR_total (by simpa using hlt) hne
    refine ⟨⟨by rw [qOf_q],by rw [qOf_q];exact hc⟩,fun x hx=>?_,h1,h2,h3⟩
    rcases List.mem_cons.1 hx with rfl | hx
    ·exact hl
    ·exact lessR_trans hl (h2 x hx)
theorem plusM_can {r:Rw} {c:Rat} (hc:0≤c) {l:List Mu} (h:CanM l):CanM (plusM l r c):=by
 unfold plusM;split
 ·exact h
 ·rename_i h0;exact insM_can (by grind) h
theorem CanM.pos:∀ {l:List Mu},CanM l→∀ m∈l,0 < m.c.q∧m.c = qOf m.c.q
 | x :: l,h,m,hm=>by
  rcases List.mem_cons.1 hm with rfl | hm
  ·exact ⟨h.1.2,h.1.1⟩
  ·exact CanM.pos h.2.2 m hm
theorem CanM.lt {l:List Mu} (h:CanM l):∀ {i j:Nat} {x y:Mu},i < j→l[i]? = some y→l[j]? = some x→lessR y.r x.r = true:=by
 induction l with
 | nil=>intro i j x y _ hy;simp at hy
 | cons m l ih=>
  intro i j x y hij hy hx
  obtain ⟨j,rfl⟩:∃ j',j = j' + 1:=⟨j - 1,by omega⟩
  rw [List.getElem?_cons_succ] at hx
  cases i with
  | zero=>simp at hy;subst hy;exact h.2.1 x (List.mem_of_getElem? hx)
  | succ i=>rw [List.getElem?_cons_succ] at hy;exact ih h.2.2 (by omega) hy hx
theorem CanM.prev {l:List Mu} {i:Nat} {x y:Mu} (h:CanM l) (hi:0 < i) (hx:l[i]? = some x) (hy:l[i - 1]? = some y):lessR y.r x.r = true:=h.lt (by omega) hy hx
theorem mergeM_can {c:Rat} (hc:0≤c):∀ {b a:List Mu},CanM a→(∀ m∈b,0 < m.c.q)→CanM (mergeM a b c)
 | [],a,h,_=>h
 | m :: b,a,h,hb=>mergeM_can (b:=b) hc (plusM_can (Rat.mul_nonneg (Rat.le_of_lt (hb m (by simp))) hc) h) (fun m hm=>hb m (by simp [hm]))
theorem rq_one1:rq false 1 1 = 1:=by decide +kernel
theorem rq_quo (a b:Bool) (m n d e:Nat) (hn:n≠0):rq (a != b) (m * dn e) (dn d * n) = rq a m d / rq b n e:=by
 have h1:=rq_mul a b m (dn e) d n
 have h2:=rq_mul b b n (dn e) e n
 rw [dn_of hn] at h1 h2
 rw [h1]
 have h3:rq (b != b) (n * dn e) (dn e * n) = 1:=by
  rw [← rq_one1,rq_eq,dn_of (Nat.mul_ne_zero (dn_ne e) hn)]
  simp [sgn,dn,Nat.mul_comm]
 rw [h3] at h2
 have h4:rq b n e≠0:=fun h=>by rw [h] at h2;grind
 rw [Rat.div_def]
 congr 1
 have h5:rq b n e * (rq b n e)⁻¹ = 1:=Rat.mul_inv_cancel _ h4
 generalize rq b n e = p at *
 generalize rq b (dn e) n = q at *
 generalize p⁻¹ = w at *
 grind
theorem sg_le {p:Rat}:sg p≤0↔p≤0:=by unfold sg;grind
theorem sg_ge {p:Rat}:0≤sg p↔0≤p:=by unfold sg;grind
theorem sg_gt {p:Rat}:0 < sg p↔0 < p:=by unfold sg;grind
def atLeast (inp v:Nat):List Mu:=if v < inp then [⟨⟨1,(v:Int),0,0⟩,qOf ((1:Int):Rat)⟩] else [⟨⟨5,((v - inp:Nat):Int),0,0⟩,qOf ((1:Int):Rat)⟩]
def atMost (inp:Nat) (l:List Lm) (v:Nat):Option (List Mu):=
 if v < inp then some [⟨⟨2,(v:Int),0,0⟩,qOf ((1:Int):Rat)⟩]
 else if (best l ((v - inp:Nat):Int)).1 = 0 ∨ (best l ((v - inp:Nat):Int)).2 = 0 then none
 else if lv l (best l ((v - inp:Nat):Int)).2≤0 then some [⟨⟨10,((v - inp:Nat):Int),0,((best l ((v - inp:Nat):Int)).2:Int)⟩,qOf ((1:Int):Rat)⟩]
 else if 0≤lv l (best l ((v - inp:Nat):Int)).1 then some [⟨⟨8,((v - inp:Nat):Int),((best l ((v - inp:Nat):Int)).1:Int),0⟩,qOf ((1:Int):Rat)⟩,⟨⟨12,((v - inp:Nat):Int),0,((best l ((v - inp:Nat):Int)).2:Int)⟩,qOf ((1:Int):Rat)⟩]
 else some [⟨⟨12,((v - inp:Nat):Int),0,((best l ((v - inp:Nat):Int)).2:Int)⟩,qOf (((1:Int):Rat) / (lv l (best l ((v - inp:Nat):Int)).2 - lv l (best l ((v - inp:Nat):Int)).1) * lv l (best l ((v - inp:Nat):Int)).2)⟩,
   ⟨⟨13,((v - inp:Nat):Int),((best l ((v - inp:Nat):Int)).1:Int),((best l ((v - inp:Nat):Int)).2:Int)⟩,qOf (((1:Int):Rat) / (lv l (best l ((v - inp:Nat):Int)).2 - lv l (best l ((v - inp:Nat):Int)).1))⟩]
end Rc
set_option linter.unusedSimpArgs false
set_option linter.unusedVariables false
namespace Go.Proofs.YtjdbopkbfkgpdaaGreatDoor
open Go Go.RowKit Rc
theorem row_i4:Ints4 Tryz.prog 105 3:=⟨by kernel_rfl,by kernel_rfl,ty3,by kernel_rfl,by kernel_rfl⟩
set_option maxRecDepth 10000 in
theorem best_p (s:Sc) {B:Nat} (hB:∀ m∈s.lems,Fq m.v B) (hB2:B≤100000000000) (hl:s.lems.length≤1000000) (u:Int):Ctr Tryz.prog 42 [scV s,V.one (Leaf.val (.int .i64 (u)))] (R.tup [V.one (Leaf.val (.int .i64 (((best s.lems u).1:Nat):Int))),V.one (Leaf.val (.int .i64 (((best s.lems u).2:Nat):Int)))]):=by
 refine Ctr.of_body Tryz.func42 rfl Tryz.ntmps42 (Nat.le_of_ble_eq_true rfl) (fun w0 A0=>?_)
 refine c_a (t_f rfl (Je_box (n:=0) rfl rfl rfl) (a_ FT 2 rfl (cna (a_ FT 2 rfl (cns (c_a (a_ FT 2 rfl (t_q rfl (Jq_len rfl rfl un40) (a_ FT 1 rfl ?_)))))))))
 refine c_n (Tc_block ?_)
 refine Tc_loopR (fun m Γ H=>∃ (i:Nat) (lo hi:Nat),s.lems.length - i = m∧Γ = [(1,some (D.val (.int .i64 u))),(2,some (D.ptr 0 0)),(6,some (D.val (.int .i64 ((lo:Nat):Int)))),(7,some (D.val (.int .i64 ((hi:Nat):Int)))),(11,some (D.v (V.one (El.row lmE s.lems)))),(12,some (D.val (.int .i64 ((s.lems.length:Nat):Int)))),(13,some (D.val (.int .i64 ((i:Nat):Int))))]∧H = [hb_ 42 (scL s)]∧i≤s.lems.length∧(lo,hi) = bestn s.lems u i) ⟨0,0,0,rfl,rfl,rfl,Nat.zero_le _,rfl⟩ ⟨rfl,rfl,rfl,rfl,rfl,rfl,rfl,trivial⟩ ?_
 rintro m Γ H ⟨i,lo,hi,rfl,rfl,rfl,hi0,hs⟩
 refine c_a ?_
 by_cases hi_:i < s.lems.length
 ·refine t_q rfl (Jq_lss rfl rfl rfl (b:=true) (dT (by omega))) (cns (Tc_t rfl (c_b (Tc_seq (Tc_block (Tc_seq ?_))))))
  obtain ⟨x,hx⟩:∃ x,s.lems[i]? = some x:=⟨_,List.getElem?_eq_getElem (by omega)⟩
  haveI hxb:=hB x (List.mem_of_getElem? hx)
  have hbn:=bestn_ok s.lems u i
  rw [← hs] at hbn
  obtain ⟨hlo,hhi,_,_⟩:=hbn
  refine Tc_region (a_ FT 1 rfl (t_q rfl (Jq_indexX lmE s.lems (i) rfl rfl rfl un40 ty64 hx) (t_q rfl (Jq_load_ref_agg rfl rfl ty64 rfl) (t_f rfl (Je_alloc (n:=1) rfl tz64 rfl) (a_ FT 2 rfl (cns (c_a (a_ FT 3 rfl ?_))))))))
  by_cases hne:x.unit≠u
  ·refine t_q rfl (Jq_neq rfl rfl rfl (b:=true) (nT (by omega))) (c_n (Tc_t rfl (Tc_exitA (At_then_exit (At_block_exit (At_then (Tc_region (t_q rfl (Jq_add rfl rfl rfl (r:=((i + 1:Nat):Int)) (w64 (by omega) (by omega) (by omega))) (a_ FT 1 rfl ?_)))))))))
   refine Tl_end (At_free 1 (trim_ 1 rfl ?_))
   exact At_next (m':=s.lems.length - (i + 1)) (by omega) ⟨i + 1,_,_,rfl,rfl,rfl,(by omega),by rw [bestn_succ,← hs];exact (bstp_ne hx hne).symm⟩ ⟨rfl,rfl,rfl,rfl,rfl,rfl,rfl,trivial⟩
  ·refine t_q rfl (Jq_neq rfl rfl rfl (b:=false) (nF (by omega))) (c_n (Tc_f rfl (c_b (Tc_seq ?_))))
   have hu:x.unit = u:=Classical.not_not.1 hne
   refine Tc_region (a_ FT 2 rfl (c_n ?_))
   refine Tc_cond rfl (fun hup=>?_) (fun hup=>?_)
   ·refine Tc_seq (Tc_drawK 0 [none,none,none,none,none,none,none,none,none,none,none,none,none,none,none] [] follows (by kernel_rfl) (d_ FT 1 rfl ?_))
    by_cases hv:hi = 0
    ·refine dq_ rfl rfl (Jq_eql rfl rfl rfl (b:=true) (eT (by omega))) (d_ FT 13 rfl (DK_nil (At_then (Tc_t rfl (Tc_region (a_ FT 1 rfl (t_q rfl (Jq_add rfl rfl rfl (r:=((i + 1:Nat):Int)) (w64 (by omega) (by omega) (by omega))) (a_ FT 1 rfl (Tl_end ?_)))))))))
     refine At_block (At_then (Tc_region (t_q rfl (Jq_add rfl rfl rfl (r:=((i + 1:Nat):Int)) (w64 (by omega) (by omega) (by omega))) (a_ FT 1 rfl (Tl_end (At_free 1 (trim_ 1 rfl ?_)))))))
     exact At_next (m':=s.lems.length - (i + 1)) (by omega) ⟨i + 1,_,_,rfl,rfl,rfl,(by omega),by rw [bestn_succ,← hs];exact (bstp_ut (s:=(lo,hi)) hx hu hup (.inl hv)).symm⟩ ⟨rfl,rfl,rfl,rfl,rfl,rfl,rfl,trivial⟩
    ·refine dq_ rfl rfl (Jq_eql rfl rfl rfl (b:=false) (eF (by omega))) (d_ FT 6 rfl ?_)
     obtain ⟨y,hy⟩:∃ y,s.lems[hi - 1]? = some y:=⟨_,List.getElem?_eq_getElem (by omega)⟩
     haveI hyb:=hB y (List.mem_of_getElem? hy)
     have hly:=lv_get hy
     refine DK_q (JO_qg rfl rfl rfl rfl (Jq_sub rfl rfl rfl (r:=((hi - 1:Nat):Int)) (w64 (by omega) (by omega) (by omega)))) (DK_q (JO_qg rfl rfl rfl rfl (Jq_indexX lmE s.lems (hi - 1) rfl rfl rfl un40 ty64 hy)) (DK_q (JO_qg rfl rfl rfl rfl (Jq_fieldAddr_refT rfl rfl fo64_2 rfl rfl)) (DK_q (JO_qg rfl rfl rfl rfl (Jq_load_ref_agg rfl rfl ty34 rfl)) ?_)))
     refine DK_cg rfl rfl rfl rfl (Jd_call rfl fn45 rfl (qcmp x.v (x.v.q) rfl (Fq.use (x:=x.v) (by omega)) y.v (y.v.q) rfl (Fq.use (x:=y.v) (by omega)))) ?_
     by_cases hc:x.v.q < lv s.lems hi
     ·refine DK_q (JO_qg rfl rfl rfl rfl (Jq_lss rfl rfl rfl (b:=true) (dT (by rw [cmpq_lt,← hly];exact hc)))) (d_ FT 1 rfl (DK_nil (At_then (Tc_t rfl (Tc_region (a_ FT 1 rfl (t_q rfl (Jq_add rfl rfl rfl (r:=((i + 1:Nat):Int)) (w64 (by omega) (by omega) (by omega))) (a_ FT 1 rfl (Tl_end ?_)))))))))
      refine At_block (At_then (Tc_region (t_q rfl (Jq_add rfl rfl rfl (r:=((i + 1:Nat):Int)) (w64 (by omega) (by omega) (by omega))) (a_ FT 1 rfl (Tl_end (At_free 1 (trim_ 1 rfl ?_)))))))
      exact At_next (m':=s.lems.length - (i + 1)) (by omega) ⟨i + 1,_,_,rfl,rfl,rfl,(by omega),by rw [bestn_succ,← hs];exact (bstp_ut (s:=(lo,hi)) hx hu hup (.inr hc)).symm⟩ ⟨rfl,rfl,rfl,rfl,rfl,rfl,rfl,trivial⟩
     ·refine DK_q (JO_qg rfl rfl rfl rfl (Jq_lss rfl rfl rfl (b:=false) (dF (by rw [cmpq_lt,← hly];exact hc)))) (d_ FT 1 rfl (DK_nil (At_then (Tc_f rfl (Tc_skipA (At_block (At_then (Tc_region (t_q rfl (Jq_add rfl rfl rfl (r:=((i + 1:Nat):Int)) (w64 (by omega) (by omega) (by omega))) ?_)))))))))
      refine a_ FT 1 rfl (Tl_end (At_free 1 (trim_ 1 rfl ?_)))
      exact At_next (m':=s.lems.length - (i + 1)) (by omega) ⟨i + 1,_,_,rfl,rfl,rfl,(by omega),by rw [bestn_succ,← hs];exact (bstp_uf (s:=(lo,hi)) hx hu hup (fun h=>h.elim hv hc)).symm⟩ ⟨rfl,rfl,rfl,rfl,rfl,rfl,rfl,trivial⟩
   ·refine Tc_seq (Tc_drawK 0 [none,none,none,none,none,none,none,none,none,none,none,none,none,none,none] [] follows (by kernel_rfl) (d_ FT 1 rfl ?_))
    by_cases hv:lo = 0
    ·refine dq_ rfl rfl (Jq_eql rfl rfl rfl (b:=true) (eT (by omega))) (d_ FT 13 rfl (DK_nil (At_then (Tc_t rfl (Tc_region (a_ FT 1 rfl (t_q rfl (Jq_add rfl rfl rfl (r:=((i + 1:Nat):Int)) (w64 (by omega) (by omega) (by omega))) (a_ FT 1 rfl (Tl_end ?_)))))))))
     refine At_block (At_then (Tc_region (t_q rfl (Jq_add rfl rfl rfl (r:=((i + 1:Nat):Int)) (w64 (by omega) (by omega) (by omega))) (a_ FT 1 rfl (Tl_end (At_free 1 (trim_ 1 rfl ?_)))))))
     exact At_next (m':=s.lems.length - (i + 1)) (by omega) ⟨i + 1,_,_,rfl,rfl,rfl,(by omega),by rw [bestn_succ,← hs];exact (bstp_lt (s:=(lo,hi)) hx hu hup (.inl hv)).symm⟩ ⟨rfl,rfl,rfl,rfl,rfl,rfl,rfl,trivial⟩
    ·refine dq_ rfl rfl (Jq_eql rfl rfl rfl (b:=false) (eF (by omega))) (d_ FT 6 rfl ?_)
     obtain ⟨y,hy⟩:∃ y,s.lems[lo - 1]? = some y:=⟨_,List.getElem?_eq_getElem (by omega)⟩
     haveI hyb:=hB y (List.mem_of_getElem? hy)
     have hly:=lv_get hy
     refine DK_q (JO_qg rfl rfl rfl rfl (Jq_sub rfl rfl rfl (r:=((lo - 1:Nat):Int)) (w64 (by omega) (by omega) (by omega)))) (DK_q (JO_qg rfl rfl rfl rfl (Jq_indexX lmE s.lems (lo - 1) rfl rfl rfl un40 ty64 hy)) (DK_q (JO_qg rfl rfl rfl rfl (Jq_fieldAddr_refT rfl rfl fo64_2 rfl rfl)) (DK_q (JO_qg rfl rfl rfl rfl (Jq_load_ref_agg rfl rfl ty34 rfl)) ?_)))
     refine DK_cg rfl rfl rfl rfl (Jd_call rfl fn45 rfl (qcmp x.v (x.v.q) rfl (Fq.use (x:=x.v) (by omega)) y.v (y.v.q) rfl (Fq.use (x:=y.v) (by omega)))) ?_
     by_cases hc:lv s.lems lo < x.v.q
     ·refine DK_q (JO_qg rfl rfl rfl rfl (Jq_gtr rfl rfl rfl (b:=true) (dT (by rw [cmpq_gt,← hly];exact hc)))) (d_ FT 1 rfl (DK_nil (At_then (Tc_t rfl (Tc_region (a_ FT 1 rfl (t_q rfl (Jq_add rfl rfl rfl (r:=((i + 1:Nat):Int)) (w64 (by omega) (by omega) (by omega))) (a_ FT 1 rfl (Tl_end ?_)))))))))
      refine At_block (At_then (Tc_region (t_q rfl (Jq_add rfl rfl rfl (r:=((i + 1:Nat):Int)) (w64 (by omega) (by omega) (by omega))) (a_ FT 1 rfl (Tl_end (At_free 1 (trim_ 1 rfl ?_)))))))
      exact At_next (m':=s.lems.length - (i + 1)) (by omega) ⟨i + 1,_,_,rfl,rfl,rfl,(by omega),by rw [bestn_succ,← hs];exact (bstp_lt (s:=(lo,hi)) hx hu hup (.inr hc)).symm⟩ ⟨rfl,rfl,rfl,rfl,rfl,rfl,rfl,trivial⟩
     ·refine DK_q (JO_qg rfl rfl rfl rfl (Jq_gtr rfl rfl rfl (b:=false) (dF (by rw [cmpq_gt,← hly];exact hc)))) (d_ FT 1 rfl (DK_nil (At_then (Tc_f rfl (Tc_skipA (At_block (At_then (Tc_region (t_q rfl (Jq_add rfl rfl rfl (r:=((i + 1:Nat):Int)) (w64 (by omega) (by omega) (by omega))) ?_)))))))))
      refine a_ FT 1 rfl (Tl_end (At_free 1 (trim_ 1 rfl ?_)))
      exact At_next (m':=s.lems.length - (i + 1)) (by omega) ⟨i + 1,_,_,rfl,rfl,rfl,(by omega),by rw [bestn_succ,← hs];exact (bstp_lf (s:=(lo,hi)) hx hu hup (fun h=>h.elim hv hc)).symm⟩ ⟨rfl,rfl,rfl,rfl,rfl,rfl,rfl,trivial⟩
 ·refine t_q rfl (Jq_lss rfl rfl rfl (b:=false) (dF (by omega))) (cns (Tc_f rfl (Tc_exitA (At_then_exit (At_then_exit (At_block_exit (At_then (Tc_seq ?_))))))))
  have hie:i = s.lems.length:=by omega
  rw [hie] at hs
  refine Tc_region (a_ FT 4 rfl (c_n ?_))
  exact Tc_ret2 hq_ rfl rfl rfl (by unfold best;rw [← hs])
set_option maxRecDepth 10000 in
theorem best_r (s:Sc) {B:Nat} (hB:∀ m∈s.lems,Fq m.v B) (hB2:B≤100000000000) (hl:s.lems.length≤1000000) (u:Int):Ctr Tryz.prog 27 [scV s,V.one (Leaf.val (.int .i64 (u)))] (R.tup [V.one (Leaf.val (.int .i64 (((best s.lems u).1:Nat):Int))),V.one (Leaf.val (.int .i64 (((best s.lems u).2:Nat):Int)))]):=by
 refine Ctr.of_body Tryz.func27 rfl Tryz.ntmps27 (Nat.le_of_ble_eq_true rfl) (fun w0 A0=>?_)
 refine c_a (t_f rfl (Je_box (n:=0) rfl rfl rfl) (a_ FT 2 rfl (cna (a_ FT 2 rfl (cns (c_a (a_ FT 1 rfl (c_n (Tc_block ?_)))))))))
 refine Tc_loopR (fun m Γ H=>∃ (i:Nat) (lo hi:Nat),s.lems.length - i = m∧Γ = [(1,some (D.val (.int .i64 u))),(2,some (D.ptr 0 0)),(6,some (D.val (.int .i64 ((lo:Nat):Int)))),(7,some (D.val (.int .i64 ((hi:Nat):Int)))),(8,some (D.val (.int .i64 (((i + 1):Nat):Int))))]∧H = [hb_ 42 (scL s)]∧i≤s.lems.length∧(lo,hi) = bestn s.lems u i) ⟨0,0,0,rfl,rfl,rfl,Nat.zero_le _,rfl⟩ ⟨rfl,rfl,rfl,rfl,rfl,trivial⟩ ?_
 rintro m Γ H ⟨i,lo,hi,rfl,rfl,rfl,hi0,hs⟩
 refine Tc_seq (c_a (a_ FT 3 rfl (t_q rfl (Jq_len rfl rfl un40) ?_)))
 by_cases hi_:i < s.lems.length
 ·refine t_q rfl (Jq_leq rfl rfl rfl (b:=true) (dT (by omega))) (c_n (Tc_t rfl (c_b (Tc_seq (Tc_block (Tc_seq ?_))))))
  obtain ⟨x,hx⟩:∃ x,s.lems[i]? = some x:=⟨_,List.getElem?_eq_getElem (by omega)⟩
  haveI hxb:=hB x (List.mem_of_getElem? hx)
  have hbn:=bestn_ok s.lems u i
  rw [← hs] at hbn
  obtain ⟨hlo,hhi,_,_⟩:=hbn
  refine Tc_region (a_ FT 3 rfl (t_q rfl (Jq_sub rfl rfl rfl (r:=((i:Nat):Int)) (w64 (by omega) (by omega) (by omega))) (t_q rfl (Jq_indexX lmE s.lems (i) rfl rfl rfl un40 ty64 hx) (t_q rfl (Jq_load_ref_agg rfl rfl ty64 rfl) (t_f rfl (Je_alloc (n:=1) rfl tz64 rfl) (a_ FT 1 rfl (cns (c_a (a_ FT 3 rfl ?_)))))))))
  by_cases hne:x.unit≠u
  ·refine t_q rfl (Jq_neq rfl rfl rfl (b:=true) (nT (by omega))) (c_n (Tc_t rfl (Tc_exitA (At_then_exit (At_block_exit (At_then (Tc_region (a_ FT 1 rfl (t_q rfl (Jq_add rfl rfl rfl (r:=(((i + 1) + 1:Nat):Int)) (w64 (by omega) (by omega) (by omega))) ?_)))))))))
   refine a_ FT 1 rfl (Tl_end (At_free 1 (trim_ 1 rfl ?_)))
   exact At_next (m':=s.lems.length - (i + 1)) (by omega) ⟨i + 1,_,_,rfl,rfl,rfl,(by omega),by rw [bestn_succ,← hs];exact (bstp_ne hx hne).symm⟩ ⟨rfl,rfl,rfl,rfl,rfl,trivial⟩
  ·refine t_q rfl (Jq_neq rfl rfl rfl (b:=false) (nF (by omega))) (c_n (Tc_f rfl (c_b (Tc_seq (Tc_seq ?_)))))
   have hu:x.unit = u:=Classical.not_not.1 hne
   refine Tc_drawK 0 [none,none,none,none,none,none,none,none,none,none,none,none,none,none,none,none,none,none,none] [] follows (by kernel_rfl) (d_ FT 3 rfl ?_)
   refine DK_two (fun hup=>?_) (fun hup=>?_)
   ·refine d_ FT 16 rfl (DK_nil (At_then (Tc_f rfl (c_b (Tc_seq (Tc_drawK 0 [none,none,none,none,none,none,none,none,none,none,none,none,none,none,none,none,none,none,none,none] [] follows (by kernel_rfl) (d_ FT 2 rfl (DK_is false (hup) (d_ FT 3 rfl ?_)))))))))
    by_cases hv:lo = 0
    ·refine DK_q (JO_qg rfl rfl rfl rfl (Jq_eql rfl rfl rfl (b:=true) (eT (by omega)))) (d_ FT 14 rfl (DK_nil (At_then (Tc_t rfl (Tc_region (a_ FT 2 rfl (Tl_end (At_block (At_then ?_)))))))))
     refine Tc_region (a_ FT 1 rfl (t_q rfl (Jq_add rfl rfl rfl (r:=(((i + 1) + 1:Nat):Int)) (w64 (by omega) (by omega) (by omega))) (a_ FT 1 rfl (Tl_end (At_free 1 (trim_ 1 rfl ?_))))))
     exact At_next (m':=s.lems.length - (i + 1)) (by omega) ⟨i + 1,_,_,rfl,rfl,rfl,(by omega),by rw [bestn_succ,← hs];exact (bstp_lt (s:=(lo,hi)) hx hu hup (.inl hv)).symm⟩ ⟨rfl,rfl,rfl,rfl,rfl,trivial⟩
    ·refine DK_q (JO_qg rfl rfl rfl rfl (Jq_eql rfl rfl rfl (b:=false) (eF (by omega)))) (d_ FT 6 rfl ?_)
     obtain ⟨y,hy⟩:∃ y,s.lems[lo - 1]? = some y:=⟨_,List.getElem?_eq_getElem (by omega)⟩
     haveI hyb:=hB y (List.mem_of_getElem? hy)
     have hly:=lv_get hy
     refine DK_q (JO_qg rfl rfl rfl rfl (Jq_sub rfl rfl rfl (r:=((lo - 1:Nat):Int)) (w64 (by omega) (by omega) (by omega)))) (DK_q (JO_qg rfl rfl rfl rfl (Jq_indexX lmE s.lems (lo - 1) rfl rfl rfl un40 ty64 hy)) (DK_q (JO_qg rfl rfl rfl rfl (Jq_fieldAddr_refT rfl rfl fo64_2 rfl rfl)) (DK_q (JO_qg rfl rfl rfl rfl (Jq_load_ref_agg rfl rfl ty34 rfl)) ?_)))
     refine DK_cg rfl rfl rfl rfl (Jd_call rfl fn22 rfl (rqcmp x.v (x.v.q) rfl (Fq.use (x:=x.v) (by omega)) y.v (y.v.q) rfl (Fq.use (x:=y.v) (by omega)))) ?_
     by_cases hc:lv s.lems lo < x.v.q
     ·refine DK_q (JO_qg rfl rfl rfl rfl (Jq_gtr rfl rfl rfl (b:=true) (dT (by rw [cmpq_gt,← hly];exact hc)))) (d_ FT 2 rfl (DK_nil (At_then (Tc_t rfl (Tc_region (a_ FT 2 rfl (Tl_end (At_block (At_then ?_)))))))))
      refine Tc_region (a_ FT 1 rfl (t_q rfl (Jq_add rfl rfl rfl (r:=(((i + 1) + 1:Nat):Int)) (w64 (by omega) (by omega) (by omega))) (a_ FT 1 rfl (Tl_end (At_free 1 (trim_ 1 rfl ?_))))))
      exact At_next (m':=s.lems.length - (i + 1)) (by omega) ⟨i + 1,_,_,rfl,rfl,rfl,(by omega),by rw [bestn_succ,← hs];exact (bstp_lt (s:=(lo,hi)) hx hu hup (.inr hc)).symm⟩ ⟨rfl,rfl,rfl,rfl,rfl,trivial⟩
     ·refine DK_q (JO_qg rfl rfl rfl rfl (Jq_gtr rfl rfl rfl (b:=false) (dF (by rw [cmpq_gt,← hly];exact hc)))) (d_ FT 2 rfl (DK_nil (At_then (Tc_f rfl (Tc_skipA (At_block (At_then (Tc_region (a_ FT 1 rfl ?_)))))))))
      refine t_q rfl (Jq_add rfl rfl rfl (r:=(((i + 1) + 1:Nat):Int)) (w64 (by omega) (by omega) (by omega))) (a_ FT 1 rfl (Tl_end (At_free 1 (trim_ 1 rfl ?_))))
      exact At_next (m':=s.lems.length - (i + 1)) (by omega) ⟨i + 1,_,_,rfl,rfl,rfl,(by omega),by rw [bestn_succ,← hs];exact (bstp_lf (s:=(lo,hi)) hx hu hup (fun h=>h.elim hv hc)).symm⟩ ⟨rfl,rfl,rfl,rfl,rfl,trivial⟩
   ·refine d_ FT 1 rfl ?_
    by_cases hv:hi = 0
    ·refine DK_q (JO_qg rfl rfl rfl rfl (Jq_eql rfl rfl rfl (b:=true) (eT (by omega)))) (d_ FT 14 rfl (DK_nil (At_then (Tc_t rfl (Tc_region (a_ FT 2 rfl (cns (Tc_drawK 0 [none,none,none,none,none,none,none,none,none,none,none,none,none,none,none,none,none,none,none,none] [] follows (by kernel_rfl) (d_ FT 2 rfl ?_)))))))))
     refine DK_is true (hup) (d_ FT 18 rfl (DK_nil (At_then (Tc_f rfl (Tc_skipA (At_block (At_then (Tc_region (a_ FT 1 rfl ?_)))))))))
     refine t_q rfl (Jq_add rfl rfl rfl (r:=(((i + 1) + 1:Nat):Int)) (w64 (by omega) (by omega) (by omega))) (a_ FT 1 rfl (Tl_end (At_free 1 (trim_ 1 rfl ?_))))
     exact At_next (m':=s.lems.length - (i + 1)) (by omega) ⟨i + 1,_,_,rfl,rfl,rfl,(by omega),by rw [bestn_succ,← hs];exact (bstp_ut (s:=(lo,hi)) hx hu hup (.inl hv)).symm⟩ ⟨rfl,rfl,rfl,rfl,rfl,trivial⟩
    ·refine DK_q (JO_qg rfl rfl rfl rfl (Jq_eql rfl rfl rfl (b:=false) (eF (by omega)))) (d_ FT 6 rfl ?_)
     obtain ⟨y,hy⟩:∃ y,s.lems[hi - 1]? = some y:=⟨_,List.getElem?_eq_getElem (by omega)⟩
     haveI hyb:=hB y (List.mem_of_getElem? hy)
     have hly:=lv_get hy
     refine DK_q (JO_qg rfl rfl rfl rfl (Jq_sub rfl rfl rfl (r:=((hi - 1:Nat):Int)) (w64 (by omega) (by omega) (by omega)))) (DK_q (JO_qg rfl rfl rfl rfl (Jq_indexX lmE s.lems (hi - 1) rfl rfl rfl un40 ty64 hy)) (DK_q (JO_qg rfl rfl rfl rfl (Jq_fieldAddr_refT rfl rfl fo64_2 rfl rfl)) (DK_q (JO_qg rfl rfl rfl rfl (Jq_load_ref_agg rfl rfl ty34 rfl)) ?_)))
     refine DK_cg rfl rfl rfl rfl (Jd_call rfl fn22 rfl (rqcmp x.v (x.v.q) rfl (Fq.use (x:=x.v) (by omega)) y.v (y.v.q) rfl (Fq.use (x:=y.v) (by omega)))) ?_
     by_cases hc:x.v.q < lv s.lems hi
     ·refine DK_q (JO_qg rfl rfl rfl rfl (Jq_lss rfl rfl rfl (b:=true) (dT (by rw [cmpq_lt,← hly];exact hc)))) (d_ FT 2 rfl (DK_nil (At_then (Tc_t rfl (Tc_region (a_ FT 2 rfl (cns (Tc_drawK 0 [none,none,none,none,none,none,none,none,none,none,none,none,none,none,none,none,none,none,none,none] [] follows (by kernel_rfl) (d_ FT 2 rfl ?_)))))))))
      refine DK_is true (hup) (d_ FT 18 rfl (DK_nil (At_then (Tc_f rfl (Tc_skipA (At_block (At_then (Tc_region (a_ FT 1 rfl ?_)))))))))
      refine t_q rfl (Jq_add rfl rfl rfl (r:=(((i + 1) + 1:Nat):Int)) (w64 (by omega) (by omega) (by omega))) (a_ FT 1 rfl (Tl_end (At_free 1 (trim_ 1 rfl ?_))))
      exact At_next (m':=s.lems.length - (i + 1)) (by omega) ⟨i + 1,_,_,rfl,rfl,rfl,(by omega),by rw [bestn_succ,← hs];exact (bstp_ut (s:=(lo,hi)) hx hu hup (.inr hc)).symm⟩ ⟨rfl,rfl,rfl,rfl,rfl,trivial⟩
     ·refine DK_q (JO_qg rfl rfl rfl rfl (Jq_lss rfl rfl rfl (b:=false) (dF (by rw [cmpq_lt,← hly];exact hc)))) (d_ FT 2 rfl (DK_nil (At_then (Tc_f rfl (c_b (Tc_seq (Tc_drawK 0 [none,none,none,none,none,none,none,none,none,none,none,none,none,none,none,none,none,none,none,none] [] follows (by kernel_rfl) (d_ FT 2 rfl (DK_is true (hup) ?_)))))))))
      refine d_ FT 18 rfl (DK_nil (At_then (Tc_f rfl (Tc_skipA (At_block (At_then (Tc_region (a_ FT 1 rfl (t_q rfl (Jq_add rfl rfl rfl (r:=(((i + 1) + 1:Nat):Int)) (w64 (by omega) (by omega) (by omega))) ?_)))))))))
      refine a_ FT 1 rfl (Tl_end (At_free 1 (trim_ 1 rfl ?_)))
      exact At_next (m':=s.lems.length - (i + 1)) (by omega) ⟨i + 1,_,_,rfl,rfl,rfl,(by omega),by rw [bestn_succ,← hs];exact (bstp_uf (s:=(lo,hi)) hx hu hup (fun h=>h.elim hv hc)).symm⟩ ⟨rfl,rfl,rfl,rfl,rfl,trivial⟩
 ·refine t_q rfl (Jq_leq rfl rfl rfl (b:=false) (dF (by omega))) (c_n (Tc_f rfl (Tc_exitA (At_then_exit (At_then_exit (At_block_exit (At_then (Tc_seq ?_))))))))
  have hie:i = s.lems.length:=by omega
  rw [hie] at hs
  refine Tc_region (a_ FT 4 rfl (c_n ?_))
  exact Tc_ret2 hq_ rfl rfl rfl (by unfold best;rw [← hs])
end Go.Proofs.YtjdbopkbfkgpdaaGreatDoor
set_option linter.unusedSimpArgs false
set_option linter.unusedVariables false
namespace Go.Proofs.YtjdbopkbfkgpdaaGreatDoor
open Go Go.RowKit Rc
set_option maxRecDepth 10000 in
theorem less_r (a b:Rw):Ctr Tryz.prog 114 [rwV a,rwV b] (R.one (V.one (Leaf.val (.bool (lessR a b))))):=by
 refine Ctr.of_body Tryz.func114 rfl Tryz.ntmps114 (Nat.le_of_ble_eq_true rfl) (fun w0 A0=>?_)
 refine c_a (t_f rfl (Je_box (n:=0) rfl rfl rfl) (t_f rfl (Je_box (n:=1) rfl rfl rfl) (a_ FT 1 rfl (cns (Tc_block (c_a (a_ FT 4 rfl ?_)))))))
 by_cases h1:a.kind≠b.kind
 ·refine t_q rfl (Jq_neq rfl rfl rfl (b:=true) (nT (by omega))) (a_ FT 1 rfl (c_n (Tc_t rfl (c_a (a_ FT 4 rfl (t_q rfl (Jq_lss rfl rfl rfl (b:=_) (rfl)) (a_ FT 1 rfl (c_n ?_))))))))
  exact Tc_ret1 hq_ rfl rfl (by unfold lessR;rw [if_pos h1])
 ·refine t_q rfl (Jq_neq rfl rfl rfl (b:=false) (nF (by omega))) (a_ FT 1 rfl (c_n (Tc_f rfl (c_a (a_ FT 4 rfl ?_)))))
  by_cases h2:a.idx≠b.idx
  ·refine t_q rfl (Jq_neq rfl rfl rfl (b:=true) (nT (by omega))) (a_ FT 1 rfl (c_n (Tc_t rfl (c_a (a_ FT 4 rfl (t_q rfl (Jq_lss rfl rfl rfl (b:=_) (rfl)) (a_ FT 1 rfl (c_n ?_))))))))
   exact Tc_ret1 hq_ rfl rfl (by unfold lessR;rw [if_neg h1,if_pos h2])
  ·refine t_q rfl (Jq_neq rfl rfl rfl (b:=false) (nF (by omega))) (a_ FT 1 rfl (c_n (Tc_f rfl (c_a (a_ FT 4 rfl ?_)))))
   by_cases h3:a.lo≠b.lo
   ·refine t_q rfl (Jq_neq rfl rfl rfl (b:=true) (nT (by omega))) (a_ FT 1 rfl (c_n (Tc_t rfl (c_a (a_ FT 4 rfl (t_q rfl (Jq_lss rfl rfl rfl (b:=_) (rfl)) (a_ FT 1 rfl (c_n ?_))))))))
    exact Tc_ret1 hq_ rfl rfl (by unfold lessR;rw [if_neg h1,if_neg h2,if_pos h3])
   ·refine t_q rfl (Jq_neq rfl rfl rfl (b:=false) (nF (by omega))) (a_ FT 1 rfl (c_n (Tc_f rfl (Tc_skipA (At_block (At_then (c_a (a_ FT 4 rfl (t_q rfl (Jq_lss rfl rfl rfl (b:=_) (rfl)) ?_)))))))))
    refine a_ FT 1 rfl (c_n ?_)
    exact Tc_ret1 hq_ rfl rfl (by unfold lessR;rw [if_neg h1,if_neg h2,if_neg h3])
set_option maxRecDepth 10000 in
theorem plus_r (l:List Mu) (r:Rw) (c:Rat) {B C:Nat} (hB:MB B l) [Br c C] (hBC:B + C≤300000000000) (hl:l.length≤100000):Ctr Tryz.prog 74 [V.one (El.row muE l),rwV r,V.agg (qL (c))] (R.one (V.one (El.row muE (plusM l r c)))):=by
 refine Ctr.of_body Tryz.func74 rfl Tryz.ntmps74 (Nat.le_of_ble_eq_true rfl) (fun w0 A0=>?_)
 refine c_a (t_f rfl (Je_box (n:=0) rfl rfl rfl) (t_f rfl (Je_box (n:=1) rfl rfl rfl) (t_q rfl (Jq_assign_nil rfl) (cns (c_a (a_ FT 1 rfl (t_f rfl (Je_call rfl fn63 rfl (rqsign (qOf (c)) (c) (qOf_q _) (Br.use (by omega)))) ?_)))))))
 by_cases hc0:c = 0
 ·refine t_q rfl (Jq_eql rfl rfl rfl (b:=true) (eT (by rw [hc0];rfl))) (c_n (Tc_t rfl (c_a (a_ FT 2 rfl (c_n ?_)))))
  exact Tc_ret1 hq_ rfl rfl (by unfold plusM;rw [if_pos hc0])
 ·refine t_q rfl (Jq_eql rfl rfl rfl (b:=false) (eF (sg_ne hc0))) (c_n (Tc_f rfl (c_b (c_a (a_ FT 1 rfl (cns (Tc_block ?_)))))))
  refine Tc_loopR (fun m Γ H=>∃ (k:Nat),l.length - k = m∧Γ = [(0,some (D.v (V.one (El.row muE l)))),(4,some (D.ptr 0 0)),(5,some (D.ptr 1 0)),(7,some (D.val (.int .i64 ((k:Nat):Int))))]∧H = [hb_ 105 [Leaf.val (.int .i64 r.kind),Leaf.val (.int .i64 r.idx),Leaf.val (.int .i64 r.lo),Leaf.val (.int .i64 r.hi)],hb_ 34 (qL c)]∧k≤l.length∧∀ (i:Nat) (m:Mu),i < k→l[i]? = some m→lessR m.r r = true) ⟨0,rfl,rfl,rfl,Nat.zero_le _,fun i m hi=>by omega⟩ ⟨rfl,rfl,rfl,rfl,trivial⟩ ?_
  rintro m Γ H ⟨k,rfl,rfl,rfl,hk0,hlt⟩
  refine Tc_seq (Tc_seq (Tc_drawK 0 [none,none,none,none,none,none,none,none,none,none,none,none,none] [] follows (by kernel_rfl) (d_ FT 2 rfl (dq_ rfl rfl (Jq_len rfl rfl un62) ?_))))
  by_cases hk:k < l.length
  ·refine dq_ rfl rfl (Jq_lss rfl rfl rfl (b:=true) (dT (by omega))) (d_ FT 1 rfl ?_)
   obtain ⟨x,hx⟩:∃ x,l[k]? = some x:=⟨_,List.getElem?_eq_getElem hk⟩
   haveI hxb:=hB x (List.mem_of_getElem? hx)
   refine d_ FT 2 rfl (DK_q (JO_qg rfl rfl rfl rfl (Jq_indexX muE l (k) rfl rfl rfl un62 ty107 hx)) (DK_q (JO_qg rfl rfl rfl rfl (Jq_fieldAddr_refT rfl rfl fo107_0 rfl rfl)) (DK_q (JO_qg rfl rfl rfl rfl (Jq_load_ref_agg rfl rfl ty105 rfl)) (d_ FT 1 rfl (DK_cg rfl rfl rfl rfl (Jd_call rfl fn114 rfl (less_r x.r r)) (d_ FT 1 rfl (DK_nil (At_then ?_))))))))
   refine Tc_cond rfl (fun hls=>?_) (fun hls=>?_)
   ·refine c_b (Tc_block (Tc_region (a_ FT 1 rfl (t_q rfl (Jq_add rfl rfl rfl (r:=((k + 1:Nat):Int)) (w64 (by omega) (by omega) (by omega))) (a_ FT 1 rfl (Tl_end (At_block ?_)))))))
    exact At_next (m':=l.length - (k + 1)) (by omega) ⟨k + 1,rfl,rfl,rfl,hk,fun i m hi hm=>if e:i = k then (by subst e;rw [hx] at hm;cases hm;exact hls) else hlt i m (by omega) hm⟩ ⟨rfl,rfl,rfl,rfl,trivial⟩
   ·refine Tc_exitA (At_then_exit (At_then_exit (At_block_exit (At_then (c_a (Tl_build0 rfl rfl rfl rfl un62 ty107 rfl (Tl_ownG 28 2 rfl rfl (a_ FT 2 rfl (t_q rfl (Jq_sliceR_hi muE l (k) rfl rfl rfl un62 ty107 rfl (by omega)) ?_)))))))))
    obtain ⟨ti4,hi4,hz4,hs4,hb4⟩:=in107
    refine t_f rfl (Je_appendRL muE ([]) (l.take (k)) rfl rfl rfl rfl (by decide) un62 un62 hi4 hz4 hs4 rfl (by first | (simp only [maxLen];omega) | (simp only [maxLen,List.length_append,List.length_take,List.length_drop,List.length_cons,List.length_nil];omega)) (by rw [hb4];first | omega | (simp only [List.length_append,List.length_take,List.length_drop,List.length_cons,List.length_nil];omega))) ?_
    refine a_ FT 1 rfl (cns (Tc_seq (Tc_drawK 0 [none,none,none,none,none,none,none,none,none,none,none,none,none] [] follows (by kernel_rfl) (d_ FT 2 rfl (dq_ rfl rfl (Jq_len rfl rfl un62) (dq_ rfl rfl (Jq_lss rfl rfl rfl (b:=true) (dT (by omega))) (d_ FT 3 rfl (DK_q (JO_qg rfl rfl rfl rfl (Jq_indexX muE l (k) rfl rfl rfl un62 ty107 hx)) ?_))))))))
    refine DK_q (JO_qg rfl rfl rfl rfl (Jq_fieldAddr_refT rfl rfl fo107_0 rfl rfl)) (DK_q (JO_qg rfl rfl rfl rfl (Jq_load_ref_agg rfl rfl ty105 rfl)) (d_ FT 1 rfl ?_))
    by_cases heq:x.r = r
    ·refine DK_q (JO_qg rfl rfl rfl rfl (Jq_eql4 rfl rfl rfl row_i4 (d:=true) (eq4_t heq))) (d_ FT 1 rfl (DK_nil (At_then (Tc_t rfl (Tc_seq (Tc_drawK 0 [none,none,none,none,none,none,none,none,none,none,none,some 2,none] [2] follows (by kernel_rfl) (d_ FT 4 rfl (dq_ rfl rfl (Jq_indexX muE l (k) rfl rfl rfl un62 ty107 hx) ?_))))))))
     refine dq_ rfl rfl (Jq_fieldAddr_ref rfl rfl fo107_1 rfl) (dq_ rfl rfl (Jq_load_ref_agg rfl rfl ty34 rfl) (d_ FT 1 rfl (DK_c rfl rfl (Jd_call rfl fn57 rfl (rqadd x.c (x.c.q) rfl (Fq.use (x:=x.c) (by omega)) (qOf (c)) (c) (qOf_q _) (Br.use (by omega)))) (dq_ rfl rfl (Jq_build rfl tz107 rfl pl107 rfl) ?_))))
     refine DK_c rfl rfl (fun _=>Je_buildSlice rfl un62 ty107 tz107 rfl (by decide) (by decide) rfl (by decide) rfl) ?_
     obtain ⟨ti6,hi6,hz6,hs6,hb6⟩:=in107
     refine DK_s 2 rfl rfl rfl (Jd_appendR muE ([] ++ (l.take (k))) (⟨⟨r.kind,r.idx,r.lo,r.hi⟩,(qOf ((x.c.q) + (c)))⟩) rfl rfl rfl rfl (by decide) un62 un62 hi6 hz6 hs6 rfl (by first | (simp only [maxLen];omega) | (simp only [maxLen,List.length_append,List.length_take,List.length_drop,List.length_cons,List.length_nil];omega)) (by rw [hb6];first | omega | (simp only [List.length_append,List.length_take,List.length_drop,List.length_cons,List.length_nil];omega))) ?_
     refine d_ FT 1 rfl (DK_nil (At_then (Tc_region (a_ FT 1 rfl (t_q rfl (Jq_add rfl rfl rfl (r:=((k + 1:Nat):Int)) (w64 (by omega) (by omega) (by omega))) (a_ FT 1 rfl (cna (a_ FT 3 rfl (t_q rfl (Jq_sliceR_lo muE l (k + 1) rfl rfl rfl un62 ty107 rfl (by omega)) ?_)))))))))
     obtain ⟨ti7,hi7,hz7,hs7,hb7⟩:=in107
     refine t_f rfl (Je_appendRL muE ([] ++ (l.take (k)) ++ [⟨⟨r.kind,r.idx,r.lo,r.hi⟩,(qOf ((x.c.q) + (c)))⟩]) (l.drop (k + 1)) rfl rfl rfl rfl (by decide) un62 un62 hi7 hz7 hs7 rfl (by first | (simp only [maxLen];omega) | (simp only [maxLen,List.length_append,List.length_take,List.length_drop,List.length_cons,List.length_nil];omega)) (by rw [hb7];first | omega | (simp only [List.length_append,List.length_take,List.length_drop,List.length_cons,List.length_nil];omega))) ?_
     refine a_ FT 1 rfl (c_n (Tc_viewS 6 (x':=V.one (El.row muE ([] ++ (l.take (k)) ++ [⟨⟨r.kind,r.idx,r.lo,r.hi⟩,(qOf ((x.c.q) + (c)))⟩] ++ (l.drop (k + 1))))) rfl (RowAt.ofE muE ([] ++ (l.take (k)) ++ [⟨⟨r.kind,r.idx,r.lo,r.hi⟩,(qOf ((x.c.q) + (c)))⟩] ++ (l.drop (k + 1))) rfl (by decide)) (.inr ⟨rfl,rfl⟩) ?_))
     exact Tc_ret1 hq_ rfl rfl (by unfold plusM;rw [if_neg hc0,insM_eq hlt hx heq];rfl)
    ·refine DK_q (JO_qg rfl rfl rfl rfl (Jq_eql4 rfl rfl rfl row_i4 (d:=false) (eq4_f heq))) (d_ FT 1 rfl (DK_nil (At_then (Tc_f rfl (Tc_drawK 0 [none,none,none,none,none,none,some 2,none] [2] follows (by kernel_rfl) (d_ FT 3 rfl (DK_c rfl rfl (Jd_call rfl fn65 rfl (rqcanon (qOf (c)) (c) (qOf_q _) (Br.use (by omega)))) (dq_ rfl rfl (Jq_build rfl tz107 rfl pl107 rfl) ?_))))))))
     refine DK_c rfl rfl (fun _=>Je_buildSlice rfl un62 ty107 tz107 rfl (by decide) (by decide) rfl (by decide) rfl) ?_
     obtain ⟨ti8,hi8,hz8,hs8,hb8⟩:=in107
     refine DK_s 2 rfl rfl rfl (Jd_appendR muE ([] ++ (l.take (k))) (⟨⟨r.kind,r.idx,r.lo,r.hi⟩,(qOf (c))⟩) rfl rfl rfl rfl (by decide) un62 un62 hi8 hz8 hs8 rfl (by first | (simp only [maxLen];omega) | (simp only [maxLen,List.length_append,List.length_take,List.length_drop,List.length_cons,List.length_nil];omega)) (by rw [hb8];first | omega | (simp only [List.length_append,List.length_take,List.length_drop,List.length_cons,List.length_nil];omega))) ?_
     refine d_ FT 1 rfl (DK_nil (At_then (c_a (a_ FT 3 rfl (t_q rfl (Jq_sliceR_lo muE l (k) rfl rfl rfl un62 ty107 rfl (by omega)) ?_)))))
     obtain ⟨ti9,hi9,hz9,hs9,hb9⟩:=in107
     refine t_f rfl (Je_appendRL muE ([] ++ (l.take (k)) ++ [⟨⟨r.kind,r.idx,r.lo,r.hi⟩,(qOf (c))⟩]) (l.drop (k)) rfl rfl rfl rfl (by decide) un62 un62 hi9 hz9 hs9 rfl (by first | (simp only [maxLen];omega) | (simp only [maxLen,List.length_append,List.length_take,List.length_drop,List.length_cons,List.length_nil];omega)) (by rw [hb9];first | omega | (simp only [List.length_append,List.length_take,List.length_drop,List.length_cons,List.length_nil];omega))) ?_
     refine a_ FT 1 rfl (c_n (Tc_viewS 6 (x':=V.one (El.row muE ([] ++ (l.take (k)) ++ [⟨⟨r.kind,r.idx,r.lo,r.hi⟩,(qOf (c))⟩] ++ (l.drop (k))))) rfl (RowAt.ofE muE ([] ++ (l.take (k)) ++ [⟨⟨r.kind,r.idx,r.lo,r.hi⟩,(qOf (c))⟩] ++ (l.drop (k))) rfl (by decide)) (.inr ⟨rfl,rfl⟩) ?_))
     exact Tc_ret1 hq_ rfl rfl (by unfold plusM;rw [if_neg hc0,insM_ne hlt hx hls heq];rfl)
  ·refine dq_ rfl rfl (Jq_lss rfl rfl rfl (b:=false) (dF (by omega))) (d_ FT 9 rfl (DK_nil (At_then (Tc_f rfl (Tc_exitA (At_then_exit (At_then_exit (At_block_exit (At_then ?_)))))))))
   refine Tc_seq ?_
   have hke:k = l.length:=by omega
   refine Tc_region (Tl_build0 rfl rfl rfl rfl un62 ty107 rfl (Tl_ownG 28 2 rfl rfl (a_ FT 2 rfl (t_q rfl (Jq_sliceR_hi muE l (k) rfl rfl rfl un62 ty107 rfl (by omega)) ?_))))
   obtain ⟨ti10,hi10,hz10,hs10,hb10⟩:=in107
   refine t_f rfl (Je_appendRL muE ([]) (l.take (k)) rfl rfl rfl rfl (by decide) un62 un62 hi10 hz10 hs10 rfl (by first | (simp only [maxLen];omega) | (simp only [maxLen,List.length_append,List.length_take,List.length_drop,List.length_cons,List.length_nil];omega)) (by rw [hb10];first | omega | (simp only [List.length_append,List.length_take,List.length_drop,List.length_cons,List.length_nil];omega))) ?_
   refine a_ FT 1 rfl (cns (Tc_seq (Tc_drawK 0 [none,none,none,none,none,none,none,none,none,none,none,none,none] [] follows (by kernel_rfl) (d_ FT 2 rfl (dq_ rfl rfl (Jq_len rfl rfl un62) (dq_ rfl rfl (Jq_lss rfl rfl rfl (b:=false) (dF (by omega))) (d_ FT 9 rfl (DK_nil (At_then ?_)))))))))
   refine Tc_f rfl (Tc_drawK 0 [none,none,none,none,none,none,some 2,none] [2] follows (by kernel_rfl) (d_ FT 3 rfl (DK_c rfl rfl (Jd_call rfl fn65 rfl (rqcanon (qOf (c)) (c) (qOf_q _) (Br.use (by omega)))) (dq_ rfl rfl (Jq_build rfl tz107 rfl pl107 rfl) (DK_c rfl rfl (fun _=>Je_buildSlice rfl un62 ty107 tz107 rfl (by decide) (by decide) rfl (by decide) rfl) ?_)))))
   obtain ⟨ti11,hi11,hz11,hs11,hb11⟩:=in107
   refine DK_s 2 rfl rfl rfl (Jd_appendR muE ([] ++ (l.take (k))) (⟨⟨r.kind,r.idx,r.lo,r.hi⟩,(qOf (c))⟩) rfl rfl rfl rfl (by decide) un62 un62 hi11 hz11 hs11 rfl (by first | (simp only [maxLen];omega) | (simp only [maxLen,List.length_append,List.length_take,List.length_drop,List.length_cons,List.length_nil];omega)) (by rw [hb11];first | omega | (simp only [List.length_append,List.length_take,List.length_drop,List.length_cons,List.length_nil];omega))) ?_
   refine d_ FT 1 rfl (DK_nil (At_then (c_a (a_ FT 3 rfl (t_q rfl (Jq_sliceR_lo muE l (k) rfl rfl rfl un62 ty107 rfl (by omega)) ?_)))))
   obtain ⟨ti12,hi12,hz12,hs12,hb12⟩:=in107
   refine t_f rfl (Je_appendRL muE ([] ++ (l.take (k)) ++ [⟨⟨r.kind,r.idx,r.lo,r.hi⟩,(qOf (c))⟩]) (l.drop (k)) rfl rfl rfl rfl (by decide) un62 un62 hi12 hz12 hs12 rfl (by first | (simp only [maxLen];omega) | (simp only [maxLen,List.length_append,List.length_take,List.length_drop,List.length_cons,List.length_nil];omega)) (by rw [hb12];first | omega | (simp only [List.length_append,List.length_take,List.length_drop,List.length_cons,List.length_nil];omega))) ?_
   refine a_ FT 1 rfl (c_n (Tc_viewS 6 (x':=V.one (El.row muE ([] ++ (l.take (k)) ++ [⟨⟨r.kind,r.idx,r.lo,r.hi⟩,(qOf (c))⟩] ++ (l.drop (k))))) rfl (RowAt.ofE muE ([] ++ (l.take (k)) ++ [⟨⟨r.kind,r.idx,r.lo,r.hi⟩,(qOf (c))⟩] ++ (l.drop (k))) rfl (by decide)) (.inr ⟨rfl,rfl⟩) ?_))
   exact Tc_ret1 hq_ rfl rfl (by unfold plusM;rw [if_neg hc0,insM_end (fun i m hi=>hlt i m (by omega)),hke,List.take_length,List.drop_length,List.append_nil];rfl)
end Go.Proofs.YtjdbopkbfkgpdaaGreatDoor
set_option linter.unusedSimpArgs false
set_option linter.unusedVariables false
namespace Go.Proofs.YtjdbopkbfkgpdaaGreatDoor
open Go Go.RowKit Rc
set_option maxRecDepth 10000 in
theorem merge_r (a b:List Mu) (c:Rat) {B C K:Nat} (hA:MB B a) (hB:MB C b) [Br c K] (hBC:B + b.length * (C + K + 2) + C + K≤200000000000) (hl:a.length≤10000) (hlb:b.length≤10000):Ctr Tryz.prog 119 [V.one (El.row muE a),V.one (El.row muE b),V.agg (qL (c))] (R.one (V.one (El.row muE (mergeM a b c)))):=by
 refine Ctr.of_body Tryz.func119 rfl Tryz.ntmps119 (Nat.le_of_ble_eq_true rfl) (fun w0 A0=>?_)
 refine c_a (t_f rfl (Je_box (n:=0) rfl rfl rfl) (t_q rfl (Jq_assign_nil rfl) (cns (c_a (a_ FT 1 rfl (c_n (Tc_block ?_)))))))
 refine Tc_loopR (fun m Γ H=>∃ (i:Nat) (out:List Mu),b.length - i = m∧Γ = [(0,some (D.v (V.one (El.row muE out)))),(1,some (D.v (V.one (El.row muE b)))),(5,some (D.ptr 0 0)),(7,some (D.val (.int .i64 ((i:Nat):Int))))]∧H = [hb_ 34 (qL c)]∧i≤b.length∧out = mergeM a (b.take i) c) ⟨0,a,rfl,rfl,rfl,Nat.zero_le _,rfl⟩ ⟨rfl,rfl,rfl,rfl,trivial⟩ ?_
 rintro m Γ H ⟨i,out,rfl,rfl,rfl,hi0,hout⟩
 refine Tc_seq (c_a (a_ FT 2 rfl (t_q rfl (Jq_len rfl rfl un62) ?_)))
 by_cases hi:i < b.length
 ·refine t_q rfl (Jq_lss rfl rfl rfl (b:=true) (dT (by omega))) (c_n (Tc_t rfl (c_b (Tc_seq (Tc_block ?_)))))
  obtain ⟨x,hx⟩:∃ x,b[i]? = some x:=⟨_,List.getElem?_eq_getElem hi⟩
  haveI hxb:=hB x (List.mem_of_getElem? hx)
  have hol:out.length≤20000:=by rw [hout];refine Nat.le_trans (mergeM_len _ _ _) ?_;rw [List.length_take];omega
  have hMB:MB (B + b.length * (C + K + 2)) out:=by
   rw [hout]
   refine (mergeM_bd (c:=c) hA (fun m hm=>hB m (List.mem_of_mem_take hm))).mono ?_
   have:=Nat.mul_le_mul_right (C + K + 2) (show (b.take i).length≤b.length by rw [List.length_take];omega)
   omega
  refine Tc_drawK 0 [none,none,none,none,none,none,none,none,none,none,none,none,none,none,none] [] follows (by kernel_rfl) (d_ FT 3 rfl (dq_ rfl rfl (Jq_indexX muE b (i) rfl rfl rfl un62 ty107 hx) (dq_ rfl rfl (Jq_fieldAddr_refT rfl rfl fo107_0 rfl rfl) (dq_ rfl rfl (Jq_load_ref_agg rfl rfl ty105 rfl) (d_ FT 2 rfl ?_)))))
  refine dq_ rfl rfl (Jq_indexX muE b (i) rfl rfl rfl un62 ty107 hx) (dq_ rfl rfl (Jq_fieldAddr_ref rfl rfl fo107_1 rfl) (dq_ rfl rfl (Jq_load_ref_agg rfl rfl ty34 rfl) (d_ FT 1 rfl (DK_c rfl rfl (Jd_call rfl fn58 rfl (rqmul x.c (x.c.q) rfl (Fq.use (x:=x.c) (by omega)) (qOf (c)) (c) (qOf_q _) (Br.use (by omega)))) ?_))))
  refine DK_c rfl rfl (Jd_call rfl fn74 rfl (plus_r out x.r ((x.c.q) * (c)) (by assumption) (by omega) (by omega))) (d_ FT 1 rfl (DK_nil (At_block (At_then (Tc_region (a_ FT 1 rfl (t_q rfl (Jq_add rfl rfl rfl (r:=((i + 1:Nat):Int)) (w64 (by omega) (by omega) (by omega))) (a_ FT 1 rfl (Tl_end ?_)))))))))
  exact At_next (m':=b.length - (i + 1)) (by omega) ⟨i + 1,_,rfl,rfl,rfl,hi,by rw [hout,mergeM_take hx]⟩ ⟨rfl,rfl,rfl,rfl,trivial⟩
 ·refine t_q rfl (Jq_lss rfl rfl rfl (b:=false) (dF (by omega))) (c_n (Tc_f rfl (Tc_exitA (At_then_exit (At_then_exit (At_block_exit (At_then (c_a (a_ FT 2 rfl ?_)))))))))
  refine c_n ?_
  exact Tc_ret1 hq_ rfl rfl (by rw [hout,show i = b.length by omega,List.take_length])
set_option maxRecDepth 10000 in
theorem rqdiv (x:Qr) (r:Rat) (hr:x.q = r) (hfx:Fit 1000000000000 x) (y:Qr) (s:Rat) (hs:y.q = s) (hfy:Fit 1000000000000 y) (hs0:s≠0):Ctr Tryz.prog 152 [qV x,qV y] (R.tup [qV (qOf (r / s)),V.one (Leaf.val (.int .i64 0))]):=by
 refine Ctr.of_body Tryz.func152 rfl Tryz.ntmps152 (Nat.le_of_ble_eq_true rfl) (fun w0 A0=>?_)
 haveI ixn:Bn (val x.n) 1000000000000:=Bn.val x.hn hfx.n
 haveI ixd:Bn (val x.d) 1000000000000:=Bn.val x.hd hfx.d
 haveI iyn:Bn (val y.n) 1000000000000:=Bn.val y.hn hfy.n
 haveI iyd:Bn (val y.d) 1000000000000:=Bn.val y.hd hfy.d
 have hyn:val y.n≠0:=fun e=>hs0 (by rw [← hs];unfold Qr.q;rw [rq_eq_zero];exact e)
 refine c_a (t_f rfl (Je_box (n:=0) rfl rfl rfl) (t_f rfl (Je_box (n:=1) rfl rfl rfl) (t_f rfl (Je_alloc (n:=2) rfl tz34 rfl) (a_ FT 1 rfl (cns (c_a (a_ FT 1 rfl (t_f rfl (Je_call rfl fn63 rfl (rqsign y (s) hs (hfy.mono (by omega)))) (t_q rfl (Jq_eql rfl rfl rfl (b:=false) (eF (sg_ne hs0))) ?_)))))))))
 refine c_n (Tc_f rfl (c_b (Tc_seq (Tc_drawK 0 [none,none,none,none,none,none,none,none,none,none,none,none,none,none,none,none,none,none,some 2,none] [2] follows (by kernel_rfl) (d_ FT 4 rfl (dq_ rfl rfl (Jq_neq_bool rfl rfl rfl un4 (d:=_) (rfl)) (d_ FT 4 rfl (DK_c rfl rfl (Jd_call rfl fn102 rfl ((rqone_w y.d y.hd (hfy.mono (by omega)).d (val y.d) rfl))) ?_))))))))
 refine DK_c rfl rfl (Jd_call rfl fn101 rfl (rmul_w x.n (limbs (dn (val y.d))) x.hn (small_limbs _) (hfx.mono (by omega)).n (Bn.use (by omega)) (val x.n) (dn (val y.d)) rfl (val_limbs _))) (d_ FT 2 rfl (DK_c rfl rfl (Jd_call rfl fn102 rfl ((rqone_w x.d x.hd (hfx.mono (by omega)).d (val x.d) rfl))) (d_ FT 2 rfl ?_)))
 refine DK_c rfl rfl (Jd_call rfl fn101 rfl (rmul_w (limbs (dn (val x.d))) y.n (small_limbs _) y.hn (Bn.use (by omega)) (hfy.mono (by omega)).n (dn (val x.d)) (val y.n) (val_limbs _) rfl)) ?_
 refine DK_c rfl rfl (Jd_call rfl fn104 rfl (rqquot (x.neg != y.neg) (limbs ((val x.n) * (dn (val y.d)))) (limbs ((dn (val x.d)) * (val y.n))) (small_limbs _) (small_limbs _) (Bn.use (by omega)) (Bn.use (by omega)) ((val x.n) * (dn (val y.d))) ((dn (val x.d)) * (val y.n)) (val_limbs _) (val_limbs _) (Nat.mul_ne_zero (dn_ne _) hyn))) ?_
 refine DK_s 2 rfl rfl rfl (Jd_store rfl rfl rfl rfl ty34 rfl (by decide) (Nat.le_of_ble_eq_true rfl) rfl) (d_ FT 1 rfl (DK_nil (At_then ?_)))
 exact Tc_ret2 hq_ rfl (rA ty34 rfl rfl rfl rfl) rfl (by subst hr;subst hs;rw [rq_quo _ _ _ _ _ _ hyn];rfl)
set_option maxRecDepth 10000 in
theorem atleast_r (s:Sc) (hi3:s.q.g.inp≤1000) (v:Nat) (hv:v≤1000):Ctr Tryz.prog 118 [scV s,V.one (Leaf.val (.int .i64 ((v:Int))))] (R.one (V.one (El.row muE (atLeast s.q.g.inp v)))):=by
 refine Ctr.of_body Tryz.func118 rfl Tryz.ntmps118 (Nat.le_of_ble_eq_true rfl) (fun w0 A0=>?_)
 refine c_a (t_f rfl (Je_box (n:=0) rfl rfl rfl) (t_q rfl (Jq_assign_nil rfl) (cns (c_a (a_ FT 5 rfl ?_)))))
 by_cases h1:v < s.q.g.inp
 ·refine t_q rfl (Jq_lss rfl rfl rfl (b:=true) (dT (by omega))) (c_n (Tc_t rfl (c_a (a_ FT 1 rfl (t_q rfl (Jq_build rfl tz105 rfl pl105 rfl) (t_f rfl (Je_call rfl fn33 rfl (rqof 1 (by decide) (by decide))) (t_q rfl (Jq_build rfl tz107 rfl pl107 rfl) (t_f rfl (Je_buildSlice rfl un62 ty107 tz107 rfl (by decide) (by decide) rfl (by decide) rfl) (a_ FT 1 rfl ?_)))))))))
  refine c_n ?_
  exact Tc_ret1 hq_ rfl rfl (by unfold atLeast;rw [if_pos h1];rfl)
 ·refine t_q rfl (Jq_lss rfl rfl rfl (b:=false) (dF (by omega))) (c_n (Tc_f rfl (c_b (Tc_seq (Tc_drawK 0 [none,none,none,none,none,none,none,none,none,none,none] [] follows (by kernel_rfl) (d_ FT 5 rfl (dq_ rfl rfl (Jq_sub rfl rfl rfl (r:=((v - s.q.g.inp:Nat):Int)) (w64 (by omega) (by omega) (by omega))) (dq_ rfl rfl (Jq_build rfl tz105 rfl pl105 rfl) ?_))))))))
  refine DK_c rfl rfl (Jd_call rfl fn33 rfl (rqof 1 (by decide) (by decide))) (dq_ rfl rfl (Jq_build rfl tz107 rfl pl107 rfl) (DK_c rfl rfl (fun _=>Je_buildSlice rfl un62 ty107 tz107 rfl (by decide) (by decide) rfl (by decide) rfl) (d_ FT 1 rfl (DK_nil (At_then ?_)))))
  exact Tc_ret1 hq_ rfl rfl (by unfold atLeast;rw [if_neg h1];rfl)
set_option maxRecDepth 10000 in
set_option maxHeartbeats 2000000 in
theorem atmost_r (s:Sc) {B:Nat} (hB:∀ m∈s.lems,Fq m.v B) (hB2:B≤100000000000) (hl:s.lems.length≤1000000) (hi3:s.q.g.inp≤1000) (v:Nat) (hv:v≤1000):Ctr Tryz.prog 117 [scV s,V.one (Leaf.val (.int .i64 ((v:Int))))] (R.tup [V.one (El.row muE ((atMost s.q.g.inp s.lems v).getD [])),V.one (Leaf.val (.bool (atMost s.q.g.inp s.lems v).isSome))]):=by
 refine Ctr.of_body Tryz.func117 rfl Tryz.ntmps117 (Nat.le_of_ble_eq_true rfl) (fun w0 A0=>?_)
 refine c_a (t_f rfl (Je_box (n:=0) rfl rfl rfl) (t_q rfl (Jq_assign_nil rfl) (a_ FT 1 rfl (cna (t_f rfl (Je_call rfl fn33 rfl (rqof 1 (by decide) (by decide))) (t_f rfl (Je_alloc (n:=1) rfl tz34 rfl) (a_ FT 1 rfl (cns (c_a ?_)))))))))
 refine a_ FT 5 rfl ?_
 by_cases hv1:v < s.q.g.inp
 ·refine t_q rfl (Jq_lss rfl rfl rfl (b:=true) (dT (by omega))) (c_n (Tc_t rfl (c_a (a_ FT 1 rfl (t_q rfl (Jq_build rfl tz105 rfl pl105 rfl) (a_ FT 1 rfl (t_q rfl (Jq_build rfl tz107 rfl pl107 rfl) (t_f rfl (Je_buildSlice rfl un62 ty107 tz107 rfl (by decide) (by decide) rfl (by decide) rfl) (a_ FT 2 rfl ?_)))))))))
  refine c_n ?_
  exact Tc_ret2 hq_ rfl rfl rfl (by unfold atMost;rw [if_pos hv1];rfl)
 ·refine t_q rfl (Jq_lss rfl rfl rfl (b:=false) (dF (by omega))) (c_n (Tc_f rfl (c_b (c_a (a_ FT 5 rfl (t_q rfl (Jq_sub rfl rfl rfl (r:=((v - s.q.g.inp:Nat):Int)) (w64 (by omega) (by omega) (by omega))) (a_ FT 1 rfl (cna (a_ FT 2 rfl ?_)))))))))
  refine t_f rfl (Je_call rfl fn27 rfl (best_r s (by assumption) (by omega) (by omega) ((v - s.q.g.inp:Nat):Int))) (a_ FT 5 rfl (cns (c_a (a_ FT 1 rfl ?_))))
  by_cases hb1:(best s.lems ((v - s.q.g.inp:Nat):Int)).1 = 0
  ·refine t_q rfl (Jq_eql rfl rfl rfl (b:=true) (eT (by omega))) (a_ FT 4 rfl (c_n (Tc_t rfl (Tc_seq ?_))))
   have hb:(best s.lems ((v - s.q.g.inp:Nat):Int)).1 = 0 ∨ (best s.lems ((v - s.q.g.inp:Nat):Int)).2 = 0:=.inl hb1
   refine Tc_region (t_q rfl (Jq_assign_nil rfl) (a_ FT 1 rfl (c_n ?_)))
   exact Tc_ret2 hq_ rfl rfl rfl (by unfold atMost;rw [if_neg hv1,if_pos hb];rfl)
  ·refine t_q rfl (Jq_eql rfl rfl rfl (b:=false) (eF (by omega))) (a_ FT 2 rfl ?_)
   by_cases hb2:(best s.lems ((v - s.q.g.inp:Nat):Int)).2 = 0
   ·refine t_g rfl rfl rfl rfl (Jq_eql rfl rfl rfl (b:=true) (eT (by omega))) (a_ FT 1 rfl (c_n (Tc_t rfl (Tc_seq ?_))))
    have hb:(best s.lems ((v - s.q.g.inp:Nat):Int)).1 = 0 ∨ (best s.lems ((v - s.q.g.inp:Nat):Int)).2 = 0:=.inr hb2
    refine Tc_region (t_q rfl (Jq_assign_nil rfl) (a_ FT 1 rfl (c_n ?_)))
    exact Tc_ret2 hq_ rfl rfl rfl (by unfold atMost;rw [if_neg hv1,if_pos hb];rfl)
   ·refine t_g rfl rfl rfl rfl (Jq_eql rfl rfl rfl (b:=false) (eF (by omega))) (a_ FT 1 rfl (c_n (Tc_f rfl (c_b (Tc_seq ?_)))))
    have hb:¬ ((best s.lems ((v - s.q.g.inp:Nat):Int)).1 = 0 ∨ (best s.lems ((v - s.q.g.inp:Nat):Int)).2 = 0):=fun h=>h.elim hb1 hb2
    obtain ⟨y,hy,_,_,hly,hy0,hyl⟩:=best_lo hb1
    obtain ⟨z,hz,_,_,hlz,hz0,hzl⟩:=best_hi hb2
    haveI hyB:=hB y (List.mem_of_getElem? hy)
    haveI hzB:=hB z (List.mem_of_getElem? hz)
    refine Tc_drawK 2 [none,none,none,none,none,none,none,none,none,none,none,none,none,none,some 2,some 3,some 2,some 3] [2,3] follows (by kernel_rfl) (d_ FT 3 rfl (dq_ rfl rfl (Jq_sub rfl rfl rfl (r:=((((best s.lems ((v - s.q.g.inp:Nat):Int)).1) - 1:Nat):Int)) (w64 (by omega) (by omega) (by omega))) ?_))
    refine dq_ rfl rfl (Jq_indexX lmE s.lems ((best s.lems ((v - s.q.g.inp:Nat):Int)).1 - 1) rfl rfl rfl un40 ty64 hy) (dq_ rfl rfl (Jq_fieldAddr_refT rfl rfl fo64_2 rfl rfl) (dq_ rfl rfl (Jq_load_ref_agg rfl rfl ty34 rfl) (d_ FT 3 rfl (dq_ rfl rfl (Jq_sub rfl rfl rfl (r:=((((best s.lems ((v - s.q.g.inp:Nat):Int)).2) - 1:Nat):Int)) (w64 (by omega) (by omega) (by omega))) ?_))))
    refine dq_ rfl rfl (Jq_indexX lmE s.lems ((best s.lems ((v - s.q.g.inp:Nat):Int)).2 - 1) rfl rfl rfl un40 ty64 hz) (dq_ rfl rfl (Jq_fieldAddr_refT rfl rfl fo64_2 rfl rfl) (dq_ rfl rfl (Jq_load_ref_agg rfl rfl ty34 rfl) (DK_s 2 rfl rfl rfl (Jd_alloc (i:=2) rfl tz34 rfl) (DK_s 3 rfl rfl rfl (Jd_alloc (i:=3) rfl tz34 rfl) ?_))))
    refine DK_s 2 rfl rfl rfl (Jd_store rfl rfl rfl rfl ty34 rfl (by decide) (Nat.le_of_ble_eq_true rfl) rfl) (DK_s 3 rfl rfl rfl (Jd_store rfl rfl rfl rfl ty34 rfl (by decide) (Nat.le_of_ble_eq_true rfl) rfl) (DK_nil (At_then (Tc_seq (Tc_block (c_a (a_ FT 1 rfl (t_f rfl (Je_call rfl fn63 rfl (rqsign z.v (z.v.q) rfl (Fq.use (x:=z.v) (by omega)))) ?_))))))))
    by_cases hu0:lv s.lems (best s.lems ((v - s.q.g.inp:Nat):Int)).2≤0
    ·refine t_q rfl (Jq_leq rfl rfl rfl (b:=true) (dT (by rw [← hlz];exact sg_le.2 hu0))) (a_ FT 1 rfl (c_n (Tc_t rfl (c_a (a_ FT 2 rfl (t_q rfl (Jq_build rfl tz105 rfl pl105 rfl) (a_ FT 1 rfl (t_q rfl (Jq_build rfl tz107 rfl pl107 rfl) (t_f rfl (Je_buildSlice rfl un62 ty107 tz107 rfl (by decide) (by decide) rfl (by decide) rfl) ?_)))))))))
     refine a_ FT 2 rfl (c_n ?_)
     exact Tc_ret2 hq_ rfl rfl rfl (by unfold atMost;rw [if_neg hv1,if_neg hb,if_pos hu0];rfl)
    ·refine t_q rfl (Jq_leq rfl rfl rfl (b:=false) (dF (by rw [← hlz];exact fun e=>hu0 (sg_le.1 e)))) (a_ FT 1 rfl (c_n (Tc_f rfl (c_a (a_ FT 1 rfl (t_f rfl (Je_call rfl fn63 rfl (rqsign y.v (y.v.q) rfl (Fq.use (x:=y.v) (by omega)))) ?_))))))
     by_cases hl0:0≤lv s.lems (best s.lems ((v - s.q.g.inp:Nat):Int)).1
     ·refine t_q rfl (Jq_geq rfl rfl rfl (b:=true) (dT (by rw [← hly];exact sg_ge.2 hl0))) (a_ FT 1 rfl (c_n (Tc_t rfl (c_a (a_ FT 2 rfl (t_q rfl (Jq_build rfl tz105 rfl pl105 rfl) (a_ FT 1 rfl (t_q rfl (Jq_build rfl tz107 rfl pl107 rfl) (a_ FT 2 rfl ?_)))))))))
      refine t_q rfl (Jq_build rfl tz105 rfl pl105 rfl) (a_ FT 1 rfl (t_q rfl (Jq_build rfl tz107 rfl pl107 rfl) (t_f rfl (Je_buildSlice rfl un62 ty107 tz107 rfl (by decide) (by decide) rfl (by decide) rfl) (a_ FT 2 rfl (c_n ?_)))))
      exact Tc_ret2 hq_ rfl rfl rfl (by unfold atMost;rw [if_neg hv1,if_neg hb,if_neg hu0,if_pos hl0];rfl)
     ·refine t_q rfl (Jq_geq rfl rfl rfl (b:=false) (dF (by rw [← hly];exact fun e=>hl0 (sg_ge.1 e)))) (a_ FT 1 rfl (c_n (Tc_f rfl (Tc_skipA (At_block (At_then (Tc_seq ?_)))))))
      rw [hlz] at hu0
      rw [hly] at hl0
      have hne:z.v.q - y.v.q≠0:=by grind
      refine Tc_drawK 1 [none,none,none,none,none,none,none,none,some 4,some 4,none] [4] follows (by kernel_rfl) (d_ FT 3 rfl (DK_c rfl rfl (Jd_call rfl fn59 rfl (rqsub z.v (z.v.q) rfl (Fq.use (x:=z.v) (by omega)) y.v (y.v.q) rfl (Fq.use (x:=y.v) (by omega)))) ?_))
      refine DK_c rfl rfl (Jd_call rfl fn152 rfl (rqdiv (qOf (((1:Int):Rat))) (((1:Int):Rat)) (qOf_q _) (Br.use (by omega)) (qOf ((z.v.q) - (y.v.q))) ((z.v.q) - (y.v.q)) (qOf_q _) (Br.use (by omega)) (by assumption))) (d_ FT 3 rfl (DK_s 4 rfl rfl rfl (Jd_alloc (i:=4) rfl tz34 rfl) (DK_s 4 rfl rfl rfl (Jd_store rfl rfl rfl rfl ty34 rfl (by decide) (Nat.le_of_ble_eq_true rfl) rfl) ?_)))
      refine d_ FT 1 rfl (DK_nil (At_then (Tc_seq (Tc_drawK 0 [none,none,none,none,none,none,none,none,none,none,none,none,none,none,none,none] [] follows (by kernel_rfl) (d_ FT 2 rfl (dq_ rfl rfl (Jq_build rfl tz105 rfl pl105 rfl) (d_ FT 2 rfl ?_)))))))
      refine DK_c rfl rfl (Jd_call rfl fn58 rfl (rqmul (qOf ((((1:Int):Rat)) / ((z.v.q) - (y.v.q)))) ((((1:Int):Rat)) / ((z.v.q) - (y.v.q))) (qOf_q _) (Br.use (by omega)) z.v (z.v.q) rfl (Fq.use (x:=z.v) (by omega)))) (dq_ rfl rfl (Jq_build rfl tz107 rfl pl107 rfl) (d_ FT 3 rfl (dq_ rfl rfl (Jq_build rfl tz105 rfl pl105 rfl) (d_ FT 1 rfl ?_))))
      refine dq_ rfl rfl (Jq_build rfl tz107 rfl pl107 rfl) (DK_c rfl rfl (fun _=>Je_buildSlice rfl un62 ty107 tz107 rfl (by decide) (by decide) rfl (by decide) rfl) (d_ FT 2 rfl (DK_nil (At_then ?_))))
      exact Tc_ret2 hq_ rfl rfl rfl (by unfold atMost;rw [if_neg hv1,if_neg hb,if_neg (by rw [hlz];exact hu0),if_neg (by rw [hly];exact hl0),hlz,hly];rfl)
end Go.Proofs.YtjdbopkbfkgpdaaGreatDoor
