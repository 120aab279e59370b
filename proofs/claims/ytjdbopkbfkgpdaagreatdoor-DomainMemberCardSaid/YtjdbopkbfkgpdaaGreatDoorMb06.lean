/- Parts of the proof, 6: the texts WkE, WkF, WkG, as far as they are used. -/
import Derived.Test.YtjdbopkbfkgpdaaGreatDoorMb05
set_option linter.unusedSimpArgs false
set_option linter.unusedVariables false
namespace Go.Proofs.YtjdbopkbfkgpdaaGreatDoor
open Go Go.RowKit Rc
set_option maxRecDepth 10000 in
theorem estimate_spec (s v:List Nat) (hss:Small s) (hsv:Small v) (hsl:s.length = v.length + 1) (hv2:2≤v.length) (hvl:v.length≤20000000000000) (hnz:0 < v.getD (v.length - 1) 0):Ctr Tryz.prog 182 [V.one (natL s),V.one (natL v)] (R.one (V.one (Leaf.val (.int .u64 ((est (s.getD v.length 0 * 4294967296 + s.getD (v.length - 1) 0) (s.getD (v.length - 2) 0) (v.getD (v.length - 1) 0) (v.getD (v.length - 2) 0):Nat):Int))))):=by
 refine Ctr.of_body Tryz.func182 rfl Tryz.ntmps182 (Nat.le_of_ble_eq_true rfl) (fun w0 A0=>?_)
 refine Tc_seq ?_
 rw [getD_of (show v.length < s.length by omega),getD_of (show v.length - 1 < s.length by omega),getD_of (show v.length - 2 < s.length by omega),getD_of (show v.length - 1 < v.length by omega),getD_of (show v.length - 2 < v.length by omega)]
 rw [getD_of (show v.length - 1 < v.length by omega)] at hnz
 have a0:=hss.get v.length (by omega);have a1:=hss.get (v.length - 1) (by omega);have a2:=hss.get (v.length - 2) (by omega);have b1:=hsv.get (v.length - 1) (by omega);have b2:=hsv.get (v.length - 2) (by omega)
 obtain ⟨v1,hv1⟩:∃ x,x = v[v.length - 1]:=⟨_,rfl⟩
 obtain ⟨v2,hv2e⟩:∃ x,x = v[v.length - 2]:=⟨_,rfl⟩
 obtain ⟨s2,hs2⟩:∃ x,x = s[v.length - 2]:=⟨_,rfl⟩
 obtain ⟨top,htop⟩:∃ x,x = s[v.length] * 4294967296 + s[v.length - 1]:=⟨_,rfl⟩
 rw [← hv1,← hv2e,← hs2,← htop]
 rw [← hv1] at hnz b1;rw [← hv2e] at b2;rw [← hs2] at a2
 have h1:0 < v1:=hnz
 obtain ⟨e,he⟩:∃ e,est top s2 v1 v2 = e:=⟨_,rfl⟩
 rw [he]
 refine Tc_region (a_ FT 1 rfl (cna (a_ FT 1 rfl (t_q rfl (Jq_len rfl rfl un32) (a_ FT 1 rfl (cns (Tc_drawK 0 [none,none,none,none,none,none,none,none,none,none,none,none,none,none] [] follows (by kernel_rfl) (d_ FT 2 rfl (dq_ rfl rfl (Jq_index1 rfl rfl rfl un32 ty157 (by omega) (by omega) (get_u32i (v.length) (by omega) (by omega))) ?_)))))))))
 refine dq_ rfl rfl (Jq_load_ref rfl rfl ty157) (dq_ rfl rfl (Jq_convert rfl rfl un164 us157 (r:=((s[v.length]'(by omega):Nat):Int)) (wu64 (by omega))) (dq_ rfl rfl (Jq_shl rfl rfl rfl (by decide) (r:=((s[v.length]'(by omega) * 2 ^ 32:Nat):Int)) (shl64 _ 32 rfl (by omega))) (d_ FT 2 rfl ?_)))
 refine dq_ rfl rfl (Jq_sub rfl rfl rfl (r:=((v.length - 1:Nat):Int)) (w64 (by omega) (by omega) (by omega))) (dq_ rfl rfl (Jq_index1 rfl rfl rfl un32 ty157 (by omega) (by omega) (get_u32i (v.length - 1) (by omega) (by omega))) (dq_ rfl rfl (Jq_load_ref rfl rfl ty157) ?_))
 refine dq_ rfl rfl (Jq_convert rfl rfl un164 us157 (r:=((s[v.length - 1]'(by omega):Nat):Int)) (wu64 (by omega))) (dq_ rfl rfl (Jq_or rfl rfl rfl (r:=((top:Nat):Int)) (by rw [htop];exact or64 32 (Nat.mul_mod_left _ _) (by omega) (by omega))) (d_ FT 1 rfl (DK_nil (At_then (Tc_seq ?_)))))
 refine Tc_drawK 0 [none,none,none,none,none,none,none,none,none,none,none,none,none,none,none,none,none,none] [] follows (by kernel_rfl) (d_ FT 3 rfl (dq_ rfl rfl (Jq_sub rfl rfl rfl (r:=((v.length - 1:Nat):Int)) (w64 (by omega) (by omega) (by omega))) ?_))
 refine dq_ rfl rfl (Jq_index1 rfl rfl rfl un32 ty157 (by omega) (by omega) (get_u32i (v.length - 1) (by omega) (by omega))) (dq_ rfl rfl (Jq_load_ref rfl rfl ty157) (dq_ rfl rfl (Jq_convert rfl rfl un164 us157 (r:=((v1:Nat):Int)) (by rw [hv1];exact wu64 (by omega))) ?_))
 refine dq_ rfl rfl (Jq_quo rfl rfl rfl (by omega) (r:=((top / v1:Nat):Int)) ((by rw [tdivN];exact wrap_nat_u64 (Nat.lt_of_le_of_lt (Nat.div_le_self _ _) (by omega))))) (d_ FT 3 rfl (dq_ rfl rfl (Jq_sub rfl rfl rfl (r:=((v.length - 1:Nat):Int)) (w64 (by omega) (by omega) (by omega))) ?_))
 refine dq_ rfl rfl (Jq_index1 rfl rfl rfl un32 ty157 (by omega) (by omega) (get_u32i (v.length - 1) (by omega) (by omega))) (dq_ rfl rfl (Jq_load_ref rfl rfl ty157) (dq_ rfl rfl (Jq_convert rfl rfl un164 us157 (r:=((v1:Nat):Int)) (by rw [hv1];exact wu64 (by omega))) (dq_ rfl rfl (Jq_rem rfl rfl rfl (by omega) (r:=((top % v1:Nat):Int)) (tmodN _ _)) (d_ FT 2 rfl (DK_nil ?_)))))
 refine At_then (Tc_seq (Tc_block ?_))
 refine Tc_loopR (fun m Γ H=>∃ (q:Nat) (r:Nat),q = m∧Γ = [(0,some (D.v (V.one (natL s)))),(1,some (D.v (V.one (natL v)))),(5,some (D.int ((v.length:Nat):Int))),(7,some (D.val (.int .u64 ((q:Nat):Int)))),(8,some (D.val (.int .u64 ((r:Nat):Int))))]∧H = []∧q * v1 + r = top∧r < 4294967296∧e≤q∧q < 18446744073709551616) ⟨top / v1,top % v1,rfl,rfl,rfl,by rw [Nat.mul_comm];exact Nat.div_add_mod _ _,Nat.lt_trans (Nat.mod_lt _ h1) b1,by rw [← he];exact est_le h1 a2,Nat.lt_of_le_of_lt (Nat.div_le_self _ _) (by omega)⟩ ⟨rfl,rfl,rfl,rfl,rfl,trivial⟩ ?_
 rintro m Γ H ⟨q,r,rfl,rfl,rfl,hqt,hr,heq,hqb⟩
 refine Tc_seq (Tc_seq (Tc_drawK 0 [none,none,none,none,none,none,none,none,none,none,none,none,none,none,none,none,none,none,none,none,none,none] [] follows (by kernel_rfl) (d_ FT 1 rfl ?_)))
 by_cases hq:4294967296≤q
 ·refine dq_ rfl rfl (Jq_geq rfl rfl rfl (b:=true) (dT (by omega))) (d_ FT 20 rfl (DK_nil (At_then (Tc_t rfl (c_b (Tc_block (Tc_seq ?_)))))))
  have hlt:e < q:=by rw [← he];exact est_lt h1 hr hqt (.inl hq)
  have hq0:0 < q:=by omega
  refine Tc_region (a_ FT 1 rfl (t_q rfl (Jq_sub rfl rfl rfl (r:=((q - 1:Nat):Int)) (wu64 (by omega))) (a_ FT 1 rfl (cna (a_ FT 3 rfl (t_q rfl (Jq_sub rfl rfl rfl (r:=((v.length - 1:Nat):Int)) (w64 (by omega) (by omega) (by omega))) (t_q rfl (Jq_index1 rfl rfl rfl un32 ty157 (by omega) (by omega) (get_u32i (v.length - 1) (by omega) (by omega))) ?_)))))))
  refine t_q rfl (Jq_load_ref rfl rfl ty157) (t_q rfl (Jq_convert rfl rfl un164 us157 (r:=((v1:Nat):Int)) (by rw [hv1];exact wu64 (by omega))) (t_q rfl (Jq_add rfl rfl rfl (r:=((r + v1:Nat):Int)) (wu64 (by omega))) (a_ FT 1 rfl (cna (a_ FT 1 rfl ?_)))))
  by_cases hr2:4294967296≤r + v1
  ·refine t_q rfl (Jq_geq rfl rfl rfl (b:=true) (dT (by omega))) (c_n (Tc_t rfl (Tc_exitA (At_block_other rfl (At_then_exit (At_block_exit (At_then (c_a (a_ FT 2 rfl ?_)))))))))
   refine c_n ?_
   exact Tc_ret1 hq_ rfl rfl (by rw [show q - 1 = e from Nat.le_antisymm (by rw [← he];exact est_stop2 h1 hr2 (by rw [← hqt,Nat.sub_mul,Nat.one_mul];have:=Nat.le_mul_of_pos_left v1 hq0;omega)) (by omega)])
  ·refine t_q rfl (Jq_geq rfl rfl rfl (b:=false) (dF (by omega))) (c_n (Tc_f rfl (Tc_skipA (At_block ?_))))
   exact At_next (m':=q - 1) (by omega) ⟨q - 1,r + v1,rfl,rfl,rfl,by rw [← hqt,Nat.sub_mul,Nat.one_mul];have:=Nat.le_mul_of_pos_left v1 hq0;omega,by omega,by omega,by omega⟩ ⟨rfl,rfl,rfl,rfl,rfl,trivial⟩
 ·refine dq_ rfl rfl (Jq_geq rfl rfl rfl (b:=false) (dF (by omega))) (d_ FT 4 rfl ?_)
  have hm:q * v2≤4294967295 * 4294967295:=Nat.mul_le_mul (by omega) (by omega)
  refine DK_q (JO_qg rfl rfl rfl rfl (Jq_sub rfl rfl rfl (r:=((v.length - 2:Nat):Int)) (w64 (by omega) (by omega) (by omega)))) (DK_q (JO_qg rfl rfl rfl rfl (Jq_index1 rfl rfl rfl un32 ty157 (by omega) (by omega) (get_u32i (v.length - 2) (by omega) (by omega)))) (DK_q (JO_qg rfl rfl rfl rfl (Jq_load_ref rfl rfl ty157)) ?_))
  refine DK_q (JO_qg rfl rfl rfl rfl (Jq_convert rfl rfl un164 us157 (r:=((v2:Nat):Int)) (by rw [hv2e];exact wu64 (by omega)))) (DK_q (JO_qg rfl rfl rfl rfl (Jq_mul rfl rfl rfl (r:=((q * v2:Nat):Int)) (wu64 (by rw [← Int.natCast_mul];omega)))) (d_ FT 1 rfl ?_))
  refine DK_q (JO_qg rfl rfl rfl rfl (Jq_shl rfl rfl rfl (by decide) (r:=((r * 2 ^ 32:Nat):Int)) (shl64 _ 32 rfl (by omega)))) (d_ FT 2 rfl (DK_q (JO_qg rfl rfl rfl rfl (Jq_sub rfl rfl rfl (r:=((v.length - 2:Nat):Int)) (w64 (by omega) (by omega) (by omega)))) ?_))
  refine DK_q (JO_qg rfl rfl rfl rfl (Jq_index1 rfl rfl rfl un32 ty157 (by omega) (by omega) (get_u32i (v.length - 2) (by omega) (by omega)))) (DK_q (JO_qg rfl rfl rfl rfl (Jq_load_ref rfl rfl ty157)) (DK_q (JO_qg rfl rfl rfl rfl (Jq_convert rfl rfl un164 us157 (r:=((s2:Nat):Int)) (by rw [hs2];exact wu64 (by omega)))) ?_))
  refine DK_q (JO_qg rfl rfl rfl rfl (Jq_or rfl rfl rfl (r:=((r * 2 ^ 32 + s2:Nat):Int)) (or64 32 (Nat.mul_mod_left _ _) (by omega) (by omega)))) ?_
  by_cases hc:r * 2 ^ 32 + s2 < q * v2
  ·refine DK_q (JO_qg rfl rfl rfl rfl (Jq_gtr rfl rfl rfl (b:=true) (dT (by omega)))) (d_ FT 1 rfl (DK_nil (At_then (Tc_t rfl (c_b (Tc_block (Tc_seq ?_)))))))
   have hlt:e < q:=by rw [← he];exact est_lt h1 hr hqt (.inr hc)
   have hq0:0 < q:=by omega
   refine Tc_region (a_ FT 1 rfl (t_q rfl (Jq_sub rfl rfl rfl (r:=((q - 1:Nat):Int)) (wu64 (by omega))) (a_ FT 1 rfl (cna (a_ FT 3 rfl (t_q rfl (Jq_sub rfl rfl rfl (r:=((v.length - 1:Nat):Int)) (w64 (by omega) (by omega) (by omega))) (t_q rfl (Jq_index1 rfl rfl rfl un32 ty157 (by omega) (by omega) (get_u32i (v.length - 1) (by omega) (by omega))) ?_)))))))
   refine t_q rfl (Jq_load_ref rfl rfl ty157) (t_q rfl (Jq_convert rfl rfl un164 us157 (r:=((v1:Nat):Int)) (by rw [hv1];exact wu64 (by omega))) (t_q rfl (Jq_add rfl rfl rfl (r:=((r + v1:Nat):Int)) (wu64 (by omega))) (a_ FT 1 rfl (cna (a_ FT 1 rfl ?_)))))
   by_cases hr2:4294967296≤r + v1
   ·refine t_q rfl (Jq_geq rfl rfl rfl (b:=true) (dT (by omega))) (c_n (Tc_t rfl (Tc_exitA (At_block_other rfl (At_then_exit (At_block_exit (At_then (c_a (a_ FT 2 rfl ?_)))))))))
    refine c_n ?_
    exact Tc_ret1 hq_ rfl rfl (by rw [show q - 1 = e from Nat.le_antisymm (by rw [← he];exact est_stop2 h1 hr2 (by rw [← hqt,Nat.sub_mul,Nat.one_mul];have:=Nat.le_mul_of_pos_left v1 hq0;omega)) (by omega)])
   ·refine t_q rfl (Jq_geq rfl rfl rfl (b:=false) (dF (by omega))) (c_n (Tc_f rfl (Tc_skipA (At_block ?_))))
    exact At_next (m':=q - 1) (by omega) ⟨q - 1,r + v1,rfl,rfl,rfl,by rw [← hqt,Nat.sub_mul,Nat.one_mul];have:=Nat.le_mul_of_pos_left v1 hq0;omega,by omega,by omega,by omega⟩ ⟨rfl,rfl,rfl,rfl,rfl,trivial⟩
  ·refine DK_q (JO_qg rfl rfl rfl rfl (Jq_gtr rfl rfl rfl (b:=false) (dF (by omega)))) (d_ FT 1 rfl (DK_nil (At_then (Tc_f rfl (Tc_exitA (At_then_exit (At_then_exit (At_block_exit (At_then ?_)))))))))
   refine c_a (a_ FT 2 rfl (c_n ?_))
   exact Tc_ret1 hq_ rfl rfl (by rw [show q = e from Nat.le_antisymm (by rw [← he];exact est_stop1 h1 (by omega) (Nat.le_of_not_lt hc) hqt) heq])
set_option maxRecDepth 10000 in
theorem reduce_spec (pre s post v:List Nat) (q:Nat) (hs:Small s) (hv:Small v) (hsl:s.length = v.length + 1) (hvl:v.length≤20000000000000) (hV:0 < val v) (hlt:val s < val v * 4294967296) (hq:q = val s / val v ∨ q = val s / val v + 1):CtrM Tryz.prog 181 157 pre.length (v.length + 1) ((pre ++ s ++ post).map u32L) ((pre ++ padL (v.length + 1) (val s % val v) ++ post).map u32L) [V.one (natL v),V.one (Leaf.val (.int .u64 ((q:Nat):Int)))] (R.one (V.one (Leaf.val (.int .u32 ((val s / val v:Nat):Int))))):=by
 refine CtrM.of_body Tryz.func181 rfl Tryz.ntmps181 (Nat.le_of_ble_eq_true rfl) (fun w0 A0 bk hX=>?_)
 refine Tc_seq ?_
 have hqt:val s / val v < 4294967296:=by rw [Nat.div_lt_iff_lt_mul hV,Nat.mul_comm];exact hlt
 have hqB:q≤4294967296:=by omega
 refine Tc_region (a_ FT 1 rfl (cna (a_ FT 2 rfl (cns (c_a (a_ FT 1 rfl (t_q rfl (Jq_len rfl rfl un32) (a_ FT 1 rfl (c_n ?_)))))))))
 refine Tc_block ?_
 refine Tc_loopR (fun m Γ H=>∃ (i:Nat) (s1:List Nat) (c:Nat) (b:Nat),v.length - i = m∧Γ = [(0,some (D.part 0 pre.length (v.length + 1))),(1,some (D.v (V.one (natL v)))),(2,some (D.val (.int .u64 ((q:Nat):Int)))),(7,some (D.val (.int .u64 ((c:Nat):Int)))),(8,some (D.val (.int .u64 ((b:Nat):Int)))),(15,some (D.v (V.one (natL v)))),(16,some (D.int ((v.length:Nat):Int))),(17,some (D.int ((i:Nat):Int)))]∧H = [some ⟨157,(pre ++ s1 ++ post).map u32L,some 1,some (.inl bk)⟩]∧i≤v.length∧s1.length = s.length∧Small s1∧c < 4294967296∧b≤1∧val (s1.take i) + q * val (v.take i) = val (s.take i) + (c + b) * 4294967296 ^ i∧s1.drop i = s.drop i) ⟨0,s,0,0,rfl,rfl,rfl,Nat.zero_le _,rfl,hs,by omega,by omega,by simp [val],rfl⟩ ⟨rfl,rfl,rfl,rfl,rfl,rfl,rfl,rfl,trivial⟩ ?_
 rintro m Γ H ⟨i,s1,c,b,rfl,rfl,rfl,hile,hl1,hs1,hc,hb,heq,hdr⟩
 refine c_a ?_
 by_cases hi:i < v.length
 ·refine t_q rfl (Jq_lss rfl rfl rfl (b:=true) (dT (by omega))) (cns (Tc_t rfl (c_b (Tc_seq (Tc_block (Tc_seq ?_))))))
  have hvi:=hv.get i hi;have hsi:=hs1.get i (by omega)
  have hm:q * v[i]≤4294967296 * 4294967295:=Nat.mul_le_mul hqB (by omega)
  obtain ⟨t,ht⟩:∃ t,t = c + q * v[i]:=⟨_,rfl⟩
  have htb:t < 18446744073709551616:=by omega
  obtain ⟨x,hx⟩:∃ x,x = (s1[i]'(by omega) + (18446744073709551616 - (t % 4294967296 + b))) % 18446744073709551616:=⟨_,rfl⟩
  have hd:=sub_digit (l:=t % 4294967296) (b:=b) hsi (by omega)
  simp only [← hx] at hd
  refine Tc_region (a_ FT 1 rfl (t_q rfl (Jq_index1 rfl rfl rfl un32 ty157 (by omega) (by omega) (get_u32 (by omega))) (t_q rfl (Jq_load_ref rfl rfl ty157) (a_ FT 2 rfl (cna (a_ FT 3 rfl (t_q rfl (Jq_convert rfl rfl un164 us157 (r:=((v[i]'hi:Nat):Int)) (wu64 (by omega))) ?_)))))))
  refine t_q rfl (Jq_mul rfl rfl rfl (r:=((q * v[i]'hi:Nat):Int)) (wu64 (by rw [← Int.natCast_mul];omega))) (t_q rfl (Jq_add rfl rfl rfl (r:=((t:Nat):Int)) (by rw [ht];exact wu64 (by omega))) (a_ FT 1 rfl (cna (a_ FT 2 rfl (t_q rfl (Jq_index_part rfl rfl rfl rfl (by decide) (by simp;omega) un32 ty157 (by omega) (by omega) (off:=pre.length + (i)) (by omega)) ?_)))))
  refine t_q rfl (Jq_load rfl rfl rfl (by decide) ty157 (get_part rfl (by omega))) (t_q rfl (Jq_convert rfl rfl un164 us157 (r:=((s1[i]'(by omega):Nat):Int)) (wu64 (by omega))) (a_ FT 1 rfl (t_q rfl (Jq_convert rfl rfl un157 us164 (r:=((t % 4294967296:Nat):Int)) (wu32 (by omega))) ?_)))
  refine t_q rfl (Jq_convert rfl rfl un164 us157 (r:=((t % 4294967296:Nat):Int)) (wu64 (by omega))) (t_q rfl (Jq_sub rfl rfl rfl (r:=(((s1[i]'(by omega) + (18446744073709551616 - t % 4294967296)) % 18446744073709551616:Nat):Int)) (wu64 (by omega))) (a_ FT 1 rfl (t_q rfl (Jq_sub rfl rfl rfl (r:=((x:Nat):Int)) (wu64 (by omega))) (a_ FT 1 rfl (cna (a_ FT 3 rfl ?_))))))
  refine t_q rfl (Jq_convert rfl rfl un157 us164 (r:=((x % 4294967296:Nat):Int)) (wu32 (by omega))) (t_q rfl (Jq_index_part rfl rfl rfl rfl (by decide) (by simp;omega) un32 ty157 (by omega) (by omega) (off:=pre.length + (i)) (by omega)) ?_)
  refine t_f rfl (Je_store (ls:=((pre ++ s1.set (i) (x % 4294967296) ++ post).map u32L)) rfl rfl rfl rfl ty157 rfl (by decide) (by simp;omega) (splice_part rfl (by omega))) (cna (a_ FT 1 rfl (t_q rfl (Jq_shr rfl rfl rfl (by decide) (r:=((x / 9223372036854775808:Nat):Int)) (shr_nat _ 63 rfl)) (a_ FT 1 rfl (c_n (Tc_region (a_ FT 1 rfl ?_)))))))
  refine t_q rfl (Jq_shr rfl rfl rfl (by decide) (r:=((t / 4294967296:Nat):Int)) (shr_nat _ 32 rfl)) (a_ FT 1 rfl (Tl_end (At_block (At_then (Tc_region (t_q rfl (Jq_add rfl rfl rfl (r:=((i + 1:Nat):Int)) (w64 (by omega) (by omega) (by omega))) (a_ FT 1 rfl (Tl_end ?_))))))))
  exact At_next (m':=v.length - (i + 1)) (by omega) ⟨i + 1,_,_,_,rfl,rfl,rfl,by omega,by simp [hl1],hs1.set _ _ (by omega),by omega,hd.2,red_step (by omega) (by omega) hi heq hdr _ _ t ht hd.1,red_drop hdr⟩ ⟨rfl,rfl,rfl,rfl,rfl,rfl,rfl,rfl,trivial⟩
 ·refine t_q rfl (Jq_lss rfl rfl rfl (b:=false) (dF (by omega))) (cns (Tc_f rfl (Tc_exitA (At_then_exit (At_then_exit (At_block_exit (At_then (Tc_seq ?_))))))))
  have hie:i = v.length:=by omega
  subst hie
  have hsn:=hs1.get v.length (by omega)
  obtain ⟨x,hx⟩:∃ x,x = (s1[v.length]'(by omega) + (18446744073709551616 - (c + b))) % 18446744073709551616:=⟨_,rfl⟩
  have hd:=sub_digit (l:=c) (b:=b) hsn (by omega)
  simp only [← hx] at hd
  have htot:=red_total (by omega) hsl rfl heq hdr hd.1
  have hs2:=hs1.set v.length (x % 4294967296) (by omega)
  have hl2:(s1.set v.length (x % 4294967296)).length = v.length + 1:=by simp;omega
  refine Tc_region (a_ FT 2 rfl (t_q rfl (Jq_len rfl rfl un32) (t_q rfl (Jq_index_part rfl rfl rfl rfl (by decide) (by simp;omega) un32 ty157 (by omega) (by omega) (off:=pre.length + (v.length)) (by omega)) (t_q rfl (Jq_load rfl rfl rfl (by decide) ty157 (get_part rfl (by omega))) ?_))))
  refine t_q rfl (Jq_convert rfl rfl un164 us157 (r:=((s1[v.length]'(by omega):Nat):Int)) (wu64 (by omega))) (a_ FT 1 rfl (t_q rfl (Jq_sub rfl rfl rfl (r:=(((s1[v.length]'(by omega) + (18446744073709551616 - c)) % 18446744073709551616:Nat):Int)) (wu64 (by omega))) (a_ FT 1 rfl (t_q rfl (Jq_sub rfl rfl rfl (r:=((x:Nat):Int)) (wu64 (by omega))) (a_ FT 1 rfl (cna ?_))))))
  refine a_ FT 2 rfl (t_q rfl (Jq_len rfl rfl un32) (a_ FT 1 rfl (t_q rfl (Jq_convert rfl rfl un157 us164 (r:=((x % 4294967296:Nat):Int)) (wu32 (by omega))) (t_q rfl (Jq_index_part rfl rfl rfl rfl (by decide) (by simp;omega) un32 ty157 (by omega) (by omega) (off:=pre.length + (v.length)) (by omega)) ?_))))
  refine t_f rfl (Je_store (ls:=((pre ++ s1.set (v.length) (x % 4294967296) ++ post).map u32L)) rfl rfl rfl rfl ty157 rfl (by decide) (by simp;omega) (splice_part rfl (by omega))) (cns (c_a (a_ FT 1 rfl (t_q rfl (Jq_shr rfl rfl rfl (by decide) (r:=((x / 9223372036854775808:Nat):Int)) (shr_nat _ 63 rfl)) ?_))))
  by_cases hx0:x / 9223372036854775808 = 0
  ·refine t_q rfl (Jq_eql rfl rfl rfl (b:=true) (eT (by omega))) (c_n (Tc_t rfl (Tc_seq ?_)))
   rw [hx0,Nat.zero_mul,Nat.add_zero] at htot
   obtain ⟨k1,k2⟩:=red_fin0 hq hV htot
   refine Tc_region (a_ FT 1 rfl (t_q rfl (Jq_convert rfl rfl un157 us164 (r:=((val s / val v:Nat):Int)) (by rw [← k1];exact wu32 (by omega))) (a_ FT 1 rfl (c_n ?_))))
   exact Tc_retM (fun _ _ h=>h) rfl rfl rfl rfl (by simp;omega) (by rw [padL_of hs2 hl2 k2]) hX
  ·refine t_q rfl (Jq_eql rfl rfl rfl (b:=false) (eF (by omega))) (c_n (Tc_f rfl (c_b (Tc_seq ?_))))
   have hx1:x / 9223372036854775808 = 1:=by omega
   rw [hx1,Nat.one_mul] at htot
   have hbd:=val_lt hs2
   rw [hl2] at hbd
   obtain ⟨k1,k2⟩:=red_fin1 hq hV hbd htot
   generalize s1.set v.length (x % 4294967296) = s2 at *
   refine Tc_region (a_ FT 1 rfl (cns (c_a (a_ FT 1 rfl (t_q rfl (Jq_len rfl rfl un32) (a_ FT 1 rfl (c_n (Tc_block ?_))))))))
   refine Tc_loopR (fun m Γ H=>∃ (i:Nat) (s3:List Nat) (c:Nat),v.length - i = m∧Γ = [(0,some (D.part 0 pre.length (v.length + 1))),(1,some (D.v (V.one (natL v)))),(2,some (D.val (.int .u64 ((q:Nat):Int)))),(7,some (D.val (.int .u64 ((c:Nat):Int)))),(70,some (D.v (V.one (natL v)))),(71,some (D.int ((v.length:Nat):Int))),(72,some (D.int ((i:Nat):Int)))]∧H = [some ⟨157,(pre ++ s3 ++ post).map u32L,some 1,some (.inl bk)⟩]∧i≤v.length∧s3.length = v.length + 1∧Small s3∧c≤1∧val (s3.take i) + c * 4294967296 ^ i = val (s2.take i) + val (v.take i)∧s3.drop i = s2.drop i) ⟨0,s2,0,rfl,rfl,rfl,Nat.zero_le _,hl2,hs2,by omega,by simp [val],rfl⟩ ⟨rfl,rfl,rfl,rfl,rfl,rfl,rfl,trivial⟩ ?_
   rintro m Γ H ⟨i,s3,c,rfl,rfl,rfl,hile,hl3,hs3,hc3,heq3,hdr3⟩
   refine c_a ?_
   by_cases hi:i < v.length
   ·refine t_q rfl (Jq_lss rfl rfl rfl (b:=true) (dT (by omega))) (cns (Tc_t rfl (c_b (Tc_seq (Tc_block (Tc_seq ?_))))))
    have hvi:=hv.get i hi;have hsi:=hs3.get i (by omega)
    have hge:=get_of_drop hdr3 (by omega) (by omega)
    refine Tc_region (a_ FT 1 rfl (t_q rfl (Jq_index1 rfl rfl rfl un32 ty157 (by omega) (by omega) (get_u32 (by omega))) (t_q rfl (Jq_load_ref rfl rfl ty157) (a_ FT 2 rfl (cna (a_ FT 3 rfl (t_q rfl (Jq_index_part rfl rfl rfl rfl (by decide) (by simp;omega) un32 ty157 (by omega) (by omega) (off:=pre.length + (i)) (by omega)) ?_)))))))
    refine t_q rfl (Jq_load rfl rfl rfl (by decide) ty157 (get_part rfl (by omega))) (t_q rfl (Jq_convert rfl rfl un164 us157 (r:=((s3[i]'(by omega):Nat):Int)) (wu64 (by omega))) (a_ FT 1 rfl (t_q rfl (Jq_convert rfl rfl un164 us157 (r:=((v[i]'hi:Nat):Int)) (wu64 (by omega))) (t_q rfl (Jq_add rfl rfl rfl (r:=((s3[i]'(by omega) + v[i]'hi:Nat):Int)) (wu64 (by omega))) ?_))))
    refine t_q rfl (Jq_add rfl rfl rfl (r:=((c + (s3[i]'(by omega) + v[i]'hi):Nat):Int)) (wu64 (by omega))) (a_ FT 1 rfl (cna (a_ FT 3 rfl (t_q rfl (Jq_convert rfl rfl un157 us164 (r:=(((c + (s3[i]'(by omega) + v[i]'hi)) % 4294967296:Nat):Int)) (wu32 (by omega))) ?_))))
    refine t_q rfl (Jq_index_part rfl rfl rfl rfl (by decide) (by simp;omega) un32 ty157 (by omega) (by omega) (off:=pre.length + (i)) (by omega)) (t_f rfl (Je_store (ls:=((pre ++ s3.set (i) ((c + (s3[i]'(by omega) + v[i]'hi)) % 4294967296) ++ post).map u32L)) rfl rfl rfl rfl ty157 rfl (by decide) (by simp;omega) (splice_part rfl (by omega))) (c_n (Tc_region (a_ FT 1 rfl ?_))))
    refine t_q rfl (Jq_shr rfl rfl rfl (by decide) (r:=(((c + (s3[i]'(by omega) + v[i]'hi)) / 4294967296:Nat):Int)) (shr_nat _ 32 rfl)) (a_ FT 1 rfl (Tl_end (At_block (At_then (Tc_region (t_q rfl (Jq_add rfl rfl rfl (r:=((i + 1:Nat):Int)) (w64 (by omega) (by omega) (by omega))) (a_ FT 1 rfl (Tl_end ?_))))))))
    exact At_next (m':=v.length - (i + 1)) (by omega) ⟨i + 1,_,_,rfl,rfl,rfl,by omega,by simp [hl3],hs3.set _ _ (by omega),by omega,add_step (a:=s2) (b:=v) (by omega) (by omega) heq3 (by rw [getD_of hi,hge,Nat.add_assoc]),red_drop hdr3⟩ ⟨rfl,rfl,rfl,rfl,rfl,rfl,rfl,trivial⟩
   ·refine t_q rfl (Jq_lss rfl rfl rfl (b:=false) (dF (by omega))) (cns (Tc_f rfl (Tc_exitA (At_then_exit (At_then_exit (At_block_exit (At_then (Tc_seq ?_))))))))
    have hie:i = v.length:=by omega
    subst hie
    have hsn:=hs3.get v.length (by omega)
    have hR:val s % val v < 4294967296 ^ (v.length + 1):=Nat.lt_of_lt_of_le (Nat.mod_lt _ hV) (Nat.le_of_lt (Nat.lt_of_lt_of_le (val_lt hv) (Nat.pow_le_pow_right (by decide) (by omega))))
    have hfin:=red_back hs3 hl3 hl2 rfl heq3 hdr3 rfl hR k2
    obtain ⟨Q,hQ⟩:∃ Q,Q = val s / val v:=⟨_,rfl⟩
    rw [← hQ] at hqt
    refine Tc_region (a_ FT 2 rfl (t_q rfl (Jq_len rfl rfl un32) (t_q rfl (Jq_index_part rfl rfl rfl rfl (by decide) (by simp;omega) un32 ty157 (by omega) (by omega) (off:=pre.length + (v.length)) (by omega)) (t_q rfl (Jq_load rfl rfl rfl (by decide) ty157 (get_part rfl (by omega))) (a_ FT 1 rfl (t_q rfl (Jq_convert rfl rfl un157 us164 (r:=((c:Nat):Int)) (wu32 (by omega))) ?_))))))
    refine t_q rfl (Jq_add rfl rfl rfl (r:=(((s3[v.length]'(by omega) + c) % 4294967296:Nat):Int)) (wu32 (by omega))) (t_q rfl (Jq_index_part rfl rfl rfl rfl (by decide) (by simp;omega) un32 ty157 (by omega) (by omega) (off:=pre.length + (v.length)) (by omega)) ?_)
    refine t_f rfl (Je_store (ls:=((pre ++ s3.set (v.length) ((s3[v.length]'(by omega) + c) % 4294967296) ++ post).map u32L)) rfl rfl rfl rfl ty157 rfl (by decide) (by simp;omega) (splice_part rfl (by omega))) (cna (a_ FT 1 rfl (t_q rfl (Jq_sub rfl rfl rfl (r:=((Q:Nat):Int)) (by rw [k1,← hQ];exact wu64 (by omega))) ?_)))
    refine t_q rfl (Jq_convert rfl rfl un157 us164 (r:=((Q:Nat):Int)) (wu32 (by omega))) (a_ FT 1 rfl (c_n ?_))
    exact Tc_retM (fun _ _ h=>h) rfl rfl (by rw [hQ]) rfl (by simp;omega) (by rw [padL_of (n:=v.length + 1) (hs3.set _ _ (Nat.mod_lt _ (by decide))) (by simp [hl3]) hfin]) hX
end Go.Proofs.YtjdbopkbfkgpdaaGreatDoor
set_option linter.unusedSimpArgs false
set_option linter.unusedVariables false
namespace Go.Proofs.YtjdbopkbfkgpdaaGreatDoor
open Go Go.RowKit Rc
set_option maxRecDepth 10000 in
theorem divmod_spec (la lb:List Nat) (hsa:Small la) (hsb:Small lb) (hla0:la.length≤9000000000000) (hlb0:lb.length≤9000000000000) (hb0:0 < val lb):Ctr Tryz.prog 162 [V.one (natL la),V.one (natL lb)] (R.tup [V.one (natL (limbs (val la / val lb))),V.one (natL (limbs (val la % val lb))),V.one (Leaf.val (.int .i64 0))]):=by
 refine Ctr.of_body Tryz.func162 rfl Tryz.ntmps162 (Nat.le_of_ble_eq_true rfl) (fun w0 A0=>?_)
 refine c_a (t_q rfl (Jq_assign_nil rfl) (t_q rfl (Jq_assign_nil rfl) (a_ FT 1 rfl (cna (a_ FT 1 rfl (t_f rfl (Je_call rfl fn163 rfl (trim_spec la hsa)) (a_ FT 1 rfl (t_f rfl (Je_call rfl fn163 rfl (trim_spec lb hsb)) (a_ FT 2 rfl ?_)))))))))
 refine cns (Tc_block (Tc_seq ?_))
 have hla:=limbs_val_length hsa;have hlb:=limbs_val_length hsb
 have va:=val_limbs (val la);have vb:=val_limbs (val lb);have sa:=small_limbs (val la);have sb:=small_limbs (val lb)
 have ca:=canon_limbs (val la);have cb:=canon_limbs (val lb)
 have hbl:0 < (limbs (val lb)).length:=Nat.pos_of_ne_zero (fun h=>by have:=limbs_eq_nil.1 (List.eq_nil_of_length_eq_zero h);omega)
 generalize limbs (val la) = a at *
 generalize limbs (val lb) = b at *
 refine Tc_region (a_ FT 1 rfl (t_q rfl (Jq_len rfl rfl un32) (t_q rfl (Jq_eql rfl rfl rfl (b:=false) (eF (by omega))) (a_ FT 1 rfl (c_n (Tc_f rfl (c_a (a_ FT 2 rfl (t_f rfl (Je_call rfl fn137 rfl (cmp_spec a b sa sb)) ?_)))))))))
 by_cases hab:val a < val b
 ·refine t_q rfl (Jq_lss rfl rfl rfl (b:=true) (dT (by rw [cmpN_lt hab];decide))) (a_ FT 1 rfl (c_n (Tc_t rfl (c_a (a_ FT 1 rfl (t_f rfl (Je_call rfl fn159 rfl (make_spec a sa (by omega))) (t_q rfl (Jq_assign_nil rfl) (a_ FT 2 rfl (c_n ?_)))))))))
  exact Tc_ret3 hq_ rfl rfl rfl rfl (by rw [← va,← vb,Nat.div_eq_of_lt hab,Nat.mod_eq_of_lt hab,limbs_zero];rfl)
 ·refine t_q rfl (Jq_lss rfl rfl rfl (b:=false) (dF (by unfold cmpN;rw [if_neg hab];split <;> decide))) (a_ FT 1 rfl (c_n (Tc_f rfl (c_a (a_ FT 1 rfl (t_q rfl (Jq_len rfl rfl un32) ?_))))))
  by_cases h1:b.length = 1
  ·refine t_q rfl (Jq_eql rfl rfl rfl (b:=true) (eT (by omega))) (a_ FT 1 rfl (c_n (Tc_t rfl (c_a (a_ FT 2 rfl (t_q rfl (Jq_index1 rfl rfl rfl un32 ty157 (by omega) (by omega) (get_u32i 0 (by omega) rfl)) (t_q rfl (Jq_load_ref rfl rfl ty157) ?_)))))))
   have hb1:=sb.get 0 (by omega)
   have vb1:val b = b[0]:=by
    match b,h1 with
    | [d],_=>simp [val]
   have hb2:0 < b[0]:=by rw [← vb1,vb];exact hb0
   refine t_f rfl (Je_call rfl fn178 rfl (short_spec a (b[0]'(by omega)) sa hb1 hb2 (by omega))) (a_ FT 5 rfl (cna (a_ FT 5 rfl (c_n ?_))))
   exact Tc_ret3 hq_ rfl rfl rfl rfl (by rw [← va,← vb,vb1])
  ·refine t_q rfl (Jq_eql rfl rfl rfl (b:=false) (eF (by omega))) (a_ FT 1 rfl (c_n (Tc_f rfl (Tc_skipA (At_block (At_then (Tc_seq ?_)))))))
   have hbp:b.length - 1 < b.length:=Nat.sub_lt hbl (by decide)
   have htb:=sb.get (b.length - 1) hbp
   obtain ⟨sh,hshe,hsh,hvlen,hvtop⟩:=norm_ex cb hbl
   refine Tc_region (a_ FT 2 rfl (t_q rfl (Jq_len rfl rfl un32) (t_q rfl (Jq_sub rfl rfl rfl (r:=((b.length - 1:Nat):Int)) (w64 (by omega) (by omega) (by omega))) (t_q rfl (Jq_index1 rfl rfl rfl un32 ty157 (by omega) (by omega) (get_u32i (b.length - 1) hbp rfl)) (t_q rfl (Jq_load_ref rfl rfl ty157) (t_f rfl (Je_call rfl fn179 rfl (lz32_spec (b[b.length - 1]'hbp) htb)) ?_))))))
   refine a_ FT 1 rfl (cns ?_)
   rw [hshe]
   have hp:0 < 2 ^ sh:=Nat.pow_pos (by decide)
   have hab2:b.length≤a.length:=by
    have:=limbs_length_mono (Nat.le_of_not_lt hab)
    rwa [limbs_val ca,limbs_val cb] at this
   have hVlt:val b * 2 ^ sh < 4294967296 ^ b.length:=by have:=limbs_length_le (n:=val b * 2 ^ sh) (k:=b.length);rw [hvlen] at this;exact this.1 (Nat.le_refl _)
   have hVpos:0 < val b * 2 ^ sh:=Nat.mul_pos (by omega) hp
   have hVge:4294967296 ^ (b.length - 1) * 2 ^ sh≤val b * 2 ^ sh:=by
    refine Nat.mul_le_mul_right _ ?_
    have:=limbs_length_le (n:=val b) (k:=b.length - 1)
    rw [limbs_val cb] at this
    omega
   obtain ⟨hAlt,hAtop⟩:=dm_start sa rfl rfl hsh hab2 hVge hbl
   have hVpad:val (padL (b.length + 1) (val b * 2 ^ sh)) = val b * 2 ^ sh:=val_padL (Nat.lt_trans hVlt (Nat.pow_lt_pow_right (by decide) (by omega)))
   refine Tc_region (a_ FT 2 rfl (t_f rfl (Je_call_fresh (i:=0) rfl fn180 rfl (left_own a sh sa hsh (by omega)) rfl) (a_ FT 2 rfl (t_f rfl (Je_call rfl fn180 rfl (left_spec b sh sb hsh (by omega))) (t_f rfl (Je_call rfl fn163 rfl (trim_spec (padL (b.length + 1) (val b * 2 ^ sh)) (small_padL _ _))) (a_ FT 2 rfl (cns ?_)))))))
   rw [hVpad]
   have hvs:=small_limbs (val b * 2 ^ sh);have hvv:=val_limbs (val b * 2 ^ sh)
   generalize limbs (val b * 2 ^ sh) = v at *
   generalize hVe:val b * 2 ^ sh = vv at *
   refine Tc_region (a_ FT 1 rfl (t_q rfl (Jq_len rfl rfl un32) (a_ FT 1 rfl (t_q rfl (Jq_len rfl rfl un32) (t_q rfl (Jq_sub rfl rfl rfl (r:=((a.length - b.length:Nat):Int)) (w64 (by omega) (by omega) (by omega))) (t_q rfl (Jq_add rfl rfl rfl (r:=((a.length - b.length + 1:Nat):Int)) (w64 (by omega) (by omega) (by omega))) ?_))))))
   obtain ⟨ti3,hi3,hz3,hs3,hb3⟩:=in157
   refine t_f rfl (Je_make (i:=1) (n:=a.length - b.length + 1) (ls:=((List.replicate (a.length - b.length + 1) 0).map u32L)) rfl rfl rfl un32 hi3 hz3 hs3 (by decide) rfl (by decide) rfl (by rw [hb3];omega) (by simp only [maxLen];omega) (zc_u32 _) rfl) (a_ FT 1 rfl (cns (c_a (a_ FT 1 rfl (t_q rfl (Jq_len_own rfl rfl rfl (by decide) rfl (by simp) (by decide) un32) ?_)))))
   refine t_q rfl (Jq_sub rfl rfl rfl (r:=((a.length - b.length + 1:Nat):Int) - 1) (w64 (by omega) (by omega) (by omega))) (a_ FT 1 rfl (c_n (Tc_block ?_)))
   refine Tc_loopR (fun m Γ H=>∃ (k:Nat) (us:List Nat) (out:List Nat),k = m∧Γ = [(0,some (D.v (V.one (natL a)))),(1,some (D.v (V.one (natL b)))),(9,some (D.val (.int .i64 ((sh:Nat):Int)))),(10,some (D.own 0 (a.length + 1))),(11,some (D.v (V.one (natL v)))),(12,some (D.own 1 (a.length - b.length + 1))),(13,some (D.int ((k:Int) - 1)))]∧H = [some ⟨157,(us).map u32L,some 1,none⟩,some ⟨157,(out).map u32L,some 1,none⟩]∧k≤out.length∧us.length = a.length + 1∧Small us∧out.length = a.length - b.length + 1∧Small out∧val us + vv * (4294967296 ^ k * val (out.drop k)) = val a * 2 ^ sh∧val (us.drop k) < vv) ⟨a.length - b.length + 1,padL (a.length + 1) (val a * 2 ^ sh),List.replicate (a.length - b.length + 1) 0,rfl,rfl,rfl,by simp,padL_length _ _,small_padL _ _,by simp,Small.replicate _,by rw [List.drop_of_length_le (by simp),val_padL hAlt,show val [] = 0 from rfl,Nat.mul_zero,Nat.mul_zero,Nat.add_zero],hAtop⟩ ⟨rfl,rfl,rfl,rfl,rfl,rfl,rfl,trivial⟩ ?_
   rintro m Γ H ⟨k,us,out,rfl,rfl,rfl,hko,hul,hus,hol,hos,heq,htop⟩
   refine Tc_seq (c_a (a_ FT 1 rfl ?_))
   by_cases hk:0 < k
   ·refine t_q rfl (Jq_geq rfl rfl rfl (b:=true) (dT (by omega))) (c_n (Tc_t rfl (c_b (Tc_seq (Tc_block (Tc_seq ?_))))))
    obtain ⟨pre,s,post,hsplit,hpl,hsl⟩:=dm_split (n:=v.length) hk (us:=us) (by omega)
    have hpk:(k:Int) - 1 = ((pre.length:Nat):Int):=by omega
    rw [hpk]
    have hk1:k = pre.length + 1:=by omega
    subst hk1
    subst hsplit
    obtain ⟨ss,sp,sq,hpost,hslt⟩:=dm_seg hus hsl (by rw [hvlen];exact hVlt) htop
    obtain ⟨hst1,hst2⟩:=dm_step (n:=v.length) rfl (by omega) hpost hVpos (by rw [hvlen];exact hVlt) heq
    have hbnd:=estimate_bounds ss hvs hsl (by omega) (by rw [hvlen];exact hvtop) (by rw [hvv];exact hslt)
    rw [hvv] at hbnd
    have hbq:est (s.getD v.length 0 * 4294967296 + s.getD (v.length - 1) 0) (s.getD (v.length - 2) 0) (v.getD (v.length - 1) 0) (v.getD (v.length - 2) 0) = val s / vv ∨ est (s.getD v.length 0 * 4294967296 + s.getD (v.length - 1) 0) (s.getD (v.length - 2) 0) (v.getD (v.length - 1) 0) (v.getD (v.length - 2) 0) = val s / vv + 1:=by generalize est (s.getD v.length 0 * 4294967296 + s.getD (v.length - 1) 0) (s.getD (v.length - 2) 0) (v.getD (v.length - 1) 0) (v.getD (v.length - 2) 0) = e at *;generalize val s / vv = z at *;omega
    have hqv:val s / vv < 4294967296:=by rw [Nat.div_lt_iff_lt_mul hVpos,Nat.mul_comm];exact hslt
    refine Tc_region (a_ FT 4 rfl (t_q rfl (Jq_len rfl rfl un32) (t_q rfl (Jq_add rfl rfl rfl (r:=((pre.length + v.length:Nat):Int)) (w64 (by omega) (by omega) (by omega))) (t_q rfl (Jq_add rfl rfl rfl (r:=((pre.length + v.length + 1:Nat):Int)) (w64 (by omega) (by omega) (by omega))) ?_))))
    refine t_q rfl (Jq_slice_own (lo:=pre.length) (hi:=pre.length + v.length + 1) rfl rfl rfl rfl rfl (by decide) rfl (by rw [List.length_map];exact hul) un32 ty157 (by omega) (by omega) (m:=v.length + 1) (by omega)) (a_ FT 1 rfl (c_n (Tc_region (a_ FT 6 rfl ?_))))
    refine t_f rfl (Je_call_view (ls':=s.map u32L) rfl fn182 rfl rfl rfl rfl (by omega) (by simp;omega) (by simp [← hsl]) rfl (by rw [← hsl];exact estimate_spec s v ss hvs hsl (by omega) (by omega) (by rw [hvlen];omega))) ?_
    refine t_f rfl (Je_call_mut rfl fn181 rfl rfl rfl (by simp;omega) rfl (show CtrM Tryz.prog 181 157 pre.length (v.length + 1) ((pre ++ s ++ post).map u32L) ((pre ++ padL (v.length + 1) (val s % vv) ++ post).map u32L) [V.one (natL v),V.one (Leaf.val (.int .u64 ((est (s.getD v.length 0 * 4294967296 + s.getD (v.length - 1) 0) (s.getD (v.length - 2) 0) (v.getD (v.length - 1) 0) (v.getD (v.length - 2) 0):Nat):Int)))] (R.one (V.one (Leaf.val (.int .u32 ((val s / vv:Nat):Int))))) from by rw [← hvv];exact reduce_spec pre s post v _ ss hvs hsl (by omega) (by rw [hvv];exact hVpos) (by rw [hvv];exact hslt) (by rw [hvv];exact hbq))) ?_
    refine t_q rfl (Jq_index_own rfl rfl rfl rfl (by decide) (by simp [hol]) (by decide) un32 ty157 (by omega) (by omega) (off:=pre.length) (by omega)) (t_f rfl (Je_store (ls:=((out.set pre.length (val s / vv)).map u32L)) rfl rfl rfl rfl ty157 rfl (by decide) (by simp;omega) (splice_u32 (by omega))) (Tl_end (At_block (At_then (Tc_region (a_ FT 1 rfl ?_))))))
    refine t_q rfl (Jq_sub rfl rfl rfl (r:=((pre.length:Nat):Int) - 1) (w64 (by omega) (by omega) (by omega))) (a_ FT 1 rfl (Tl_end ?_))
    exact At_next (m':=pre.length) (by omega) ⟨pre.length,_,_,rfl,rfl,rfl,by simp;omega,by simp only [List.length_append,padL_length] at hul ⊢;omega,(sp.append (small_padL _ _)).append sq,by simp [hol],hos.set _ _ hqv,hst1,hst2⟩ ⟨rfl,rfl,rfl,rfl,rfl,rfl,rfl,trivial⟩
   ·refine t_q rfl (Jq_geq rfl rfl rfl (b:=false) (dF (by omega))) (c_n (Tc_f rfl (Tc_exitA (At_then_exit (At_then_exit (At_block_exit (At_then (Tc_seq ?_))))))))
    have hk0:k = 0:=by omega
    subst hk0
    simp only [List.drop_zero,Nat.pow_zero,Nat.one_mul] at heq htop
    obtain ⟨f1,f2⟩:=dm_fin (x:=val us) (vb:=val b) (sh:=sh) (o:=val out) (va:=val a) (by rw [hVe];exact heq) (by rw [hVe];exact htop)
    refine Tc_region (a_ FT 2 rfl (Tl_share_nat 92 (us) rfl rfl rfl rfl (by omega) (t_f rfl (Je_call rfl fn183 rfl (shr_spec us sh hus (by omega) (by omega))) (a_ FT 5 rfl (cna (a_ FT 1 rfl (Tl_share_nat 97 (out) rfl rfl rfl rfl (by omega) (t_f rfl (Je_call rfl fn163 rfl (trim_spec out hos)) (a_ FT 4 rfl ?_)))))))))
    refine c_n ?_
    exact Tc_ret3 hq_ rfl rfl rfl rfl (by rw [f1,f2,va,vb])
theorem divmod_n (x y:Nat) (hx:(limbs x).length≤9000000000000) (hy:(limbs y).length≤9000000000000) (h0:0 < y):Ctr Tryz.prog 162 [V.one (natL (limbs x)),V.one (natL (limbs y))] (R.tup [V.one (natL (limbs (x / y))),V.one (natL (limbs (x % y))),V.one (Leaf.val (.int .i64 0))]):=by
 have h:=divmod_spec (limbs x) (limbs y) (small_limbs _) (small_limbs _) hx hy (by rw [val_limbs];exact h0)
 rw [val_limbs,val_limbs] at h
 exact h
set_option maxRecDepth 10000 in
theorem gcd_spec (la lb:List Nat) (hsa:Small la) (hsb:Small lb) (hla0:la.length≤9000000000000) (hlb0:lb.length≤9000000000000):Ctr Tryz.prog 161 [V.one (natL la),V.one (natL lb)] (R.one (V.one (natL (limbs (Nat.gcd (val la) (val lb)))))):=by
 refine Ctr.of_body Tryz.func161 rfl Tryz.ntmps161 (Nat.le_of_ble_eq_true rfl) (fun w0 A0=>?_)
 refine c_a (t_q rfl (Jq_assign_nil rfl) (cns ?_))
 have ha0:=limbs_val_length hsa;have hb0:=limbs_val_length hsb
 obtain ⟨g,hg⟩:∃ g,Nat.gcd (val la) (val lb) = g:=⟨_,rfl⟩
 rw [hg]
 refine Tc_region (a_ FT 1 rfl (t_f rfl (Je_call rfl fn163 rfl (trim_spec la hsa)) (a_ FT 1 rfl (t_f rfl (Je_call rfl fn163 rfl (trim_spec lb hsb)) (a_ FT 2 rfl (cns (Tc_block ?_)))))))
 refine Tc_loopR (fun m Γ H=>∃ (x:Nat) (y:Nat),y = m∧Γ = [(0,some (D.v (V.one (natL (limbs x))))),(1,some (D.v (V.one (natL (limbs y)))))]∧H = []∧Nat.gcd x y = g∧(limbs x).length≤9000000000000∧(limbs y).length≤9000000000000) ⟨val la,val lb,rfl,rfl,rfl,hg,by omega,by omega⟩ ⟨rfl,rfl,trivial⟩ ?_
 rintro m Γ H ⟨x,y,rfl,rfl,rfl,hxy,hx,hy⟩
 refine Tc_seq (c_a (a_ FT 1 rfl (t_q rfl (Jq_len rfl rfl un32) ?_)))
 by_cases hl:2 < (limbs y).length
 ·refine t_q rfl (Jq_gtr rfl rfl rfl (b:=true) (dT (by omega))) (c_n (Tc_t rfl (c_b (Tc_block (Tc_seq ?_)))))
  have hy0:0 < y:=Nat.pos_of_ne_zero (fun h=>by subst h;simp [limbs_zero] at hl)
  have hm:=Nat.mod_lt x hy0
  have hml:=limbs_length_mono (Nat.le_of_lt hm)
  refine Tc_region (a_ FT 2 rfl (t_f rfl (Je_call rfl fn162 rfl (divmod_n x y hx hy hy0)) (a_ FT 7 rfl (c_n (Tc_region (a_ FT 4 rfl (Tl_end (At_block ?_))))))))
  exact At_next (m':=x % y) hm ⟨y,x % y,rfl,rfl,rfl,by rw [Nat.gcd_comm,← hxy,Nat.gcd_comm x y,Nat.gcd_rec y x],hy,by omega⟩ ⟨rfl,rfl,trivial⟩
 ·refine t_q rfl (Jq_gtr rfl rfl rfl (b:=false) (dF (by omega))) (c_n (Tc_f rfl (Tc_exitA (At_then_exit (At_then_exit (At_block_exit (At_then (Tc_seq (c_a ?_)))))))))
  refine a_ FT 1 rfl (t_q rfl (Jq_len rfl rfl un32) ?_)
  by_cases hz:(limbs y).length = 0
  ·refine t_q rfl (Jq_eql rfl rfl rfl (b:=true) (eT (by omega))) (c_n (Tc_t rfl (Tc_seq ?_)))
   have hy0:y = 0:=limbs_eq_nil.1 (List.eq_nil_of_length_eq_zero hz)
   subst hy0
   rw [Nat.gcd_zero_right] at hxy
   subst hxy
   refine Tc_region (a_ FT 1 rfl (t_f rfl (Je_call rfl fn159 rfl (make_spec (limbs x) (small_limbs _) (by omega))) (a_ FT 1 rfl (c_n ?_))))
   exact Tc_ret1 hq_ rfl rfl (by rw [val_limbs])
  ·refine t_q rfl (Jq_eql rfl rfl rfl (b:=false) (eF (by omega))) (c_n (Tc_f rfl (c_b (Tc_seq ?_))))
   have hy0:0 < y:=Nat.pos_of_ne_zero (fun h=>by subst h;simp [limbs_zero] at hz)
   have hm:=Nat.mod_lt x hy0
   have hml:=limbs_length_mono (Nat.le_of_lt hm)
   have hy64:y < 18446744073709551616:=(limbs_length_le (n:=y) (k:=2)).1 (by omega)
   refine Tc_region (a_ FT 2 rfl (t_f rfl (Je_call rfl fn162 rfl (divmod_n x y hx hy hy0)) (a_ FT 7 rfl (cna (a_ FT 1 rfl (t_f rfl (Je_call rfl fn177 rfl (uint_spec y)) (a_ FT 1 rfl ?_)))))))
   rw [if_pos hy64]
   refine a_ FT 4 rfl (cna (a_ FT 1 rfl (t_f rfl (Je_call rfl fn177 rfl (uint_spec (x % y))) (a_ FT 1 rfl ?_))))
   rw [if_pos (Nat.lt_trans hm hy64)]
   refine a_ FT 4 rfl (cns (Tc_block ?_))
   refine Tc_loopR (fun m Γ H=>∃ (p:Nat) (q:Nat),q = m∧Γ = [(11,some (D.val (.int .u64 ((p:Nat):Int)))),(13,some (D.val (.int .u64 ((q:Nat):Int))))]∧H = []∧Nat.gcd p q = g∧p < 18446744073709551616∧q < 18446744073709551616) ⟨y,x % y,rfl,rfl,rfl,by rw [Nat.gcd_comm,← hxy,Nat.gcd_comm x y,Nat.gcd_rec y x],hy64,Nat.lt_trans hm hy64⟩ ⟨rfl,rfl,trivial⟩ ?_
   rintro m Γ H ⟨p,q,rfl,rfl,rfl,hpq,hp,hq⟩
   refine Tc_seq (c_a (a_ FT 1 rfl ?_))
   by_cases hq0:0 < q
   ·refine t_q rfl (Jq_gtr rfl rfl rfl (b:=true) (dT (by omega))) (c_n (Tc_t rfl (c_b (Tc_block ?_))))
    have hmq:=Nat.mod_lt p hq0
    refine Tc_drawK 0 [none,none,none,none,none,none] [] follows (by kernel_rfl) (d_ FT 3 rfl (dq_ rfl rfl (Jq_rem rfl rfl rfl (by omega) (r:=((p % q:Nat):Int)) (tmodN _ _)) (d_ FT 2 rfl (DK_nil (At_block ?_)))))
    exact At_next (m':=p % q) hmq ⟨q,p % q,rfl,rfl,rfl,by rw [Nat.gcd_comm,← hpq,Nat.gcd_comm p q,Nat.gcd_rec q p],hq,Nat.lt_trans hmq hq⟩ ⟨rfl,rfl,trivial⟩
   ·refine t_q rfl (Jq_gtr rfl rfl rfl (b:=false) (dF (by omega))) (c_n (Tc_f rfl (Tc_exitA (At_then_exit (At_then_exit (At_block_exit (At_then (Tc_seq ?_))))))))
    have hq00:q = 0:=by omega
    subst hq00
    rw [Nat.gcd_zero_right] at hpq
    subst hpq
    refine Tc_region (a_ FT 1 rfl (t_f rfl (Je_call rfl fn130 rfl (of_spec p hp)) (a_ FT 1 rfl (c_n ?_))))
    exact Tc_ret1 hq_ rfl rfl rfl
end Go.Proofs.YtjdbopkbfkgpdaaGreatDoor
set_option linter.unusedSimpArgs false
set_option linter.unusedVariables false
namespace Go.Proofs.YtjdbopkbfkgpdaaGreatDoor
open Go Go.RowKit Rc
set_option maxRecDepth 10000 in
theorem rmake_spec (l:List Nat) (hs:Small l) (hl:l.length≤10000000000000):Ctr Tryz.prog 139 [V.one (natL l)] (R.one (V.one (natL (limbs (val l))))):=by
 refine Ctr.of_body Tryz.func139 rfl Tryz.ntmps139 (Nat.le_of_ble_eq_true rfl) (fun w0 A0=>?_)
 refine Tc_seq ?_
 refine Tc_len (s:=0) rfl (fun hm=>?_)
 refine Tc_region (t_q rfl (Jq_assign_nil rfl) (cna (a_ FT 1 rfl (t_q rfl (Jq_len rfl rfl un31) (a_ FT 1 rfl (cns (Tc_block ?_)))))))
 refine Tc_loopR (fun m Γ H=>∃ (n:Nat),n = m∧Γ = [(0,some (D.v (V.one (natL l)))),(3,some (D.int n))]∧H = []∧n≤l.length∧∀ i (hi:i < l.length),n≤i→l[i] = 0) ⟨l.length,rfl,rfl,rfl,Nat.le_refl _,fun i hi h=>absurd hi (by omega)⟩ ⟨rfl,rfl,trivial⟩ ?_
 rintro m Γ H ⟨n,rfl,rfl,rfl,h⟩
 refine Tc_seq (c_a (a_ FT 1 rfl ?_))
 by_cases hp:0 < n
 ·refine t_q rfl (Jq_gtr rfl rfl rfl (b:=true) (dT (by omega))) (a_ FT 3 rfl (t_g rfl rfl rfl rfl (Jq_sub rfl rfl rfl (r:=((n - 1:Nat):Int)) (w64 (by omega) (by omega) (by omega))) (t_g rfl rfl rfl rfl (Jq_index1 rfl rfl rfl un31 ty157 (by omega) (by omega) (get_u32i (n - 1) (by omega) (by omega))) (t_g rfl rfl rfl rfl (Jq_load_ref rfl rfl ty157) ?_))))
  by_cases hz:l[n - 1]'(by omega) = 0
  ·refine t_g rfl rfl rfl rfl (Jq_eql rfl rfl rfl (b:=true) (eT (by omega))) (a_ FT 1 rfl (c_n (Tc_t rfl (c_b (Tc_block (Tc_region (a_ FT 1 rfl (t_q rfl (Jq_sub rfl rfl rfl (r:=((n - 1:Nat):Int)) (w64 (by omega) (by omega) (by omega))) (a_ FT 1 rfl ?_)))))))))
   refine Tl_end (At_block ?_)
   exact At_next (m':=n - 1) (by omega) ⟨n - 1,rfl,rfl,rfl,by omega,fun i hi h1=>(if e:i = n - 1 then by subst e;exact hz else h.2 i hi (by omega))⟩ ⟨rfl,rfl,trivial⟩
  ·refine t_g rfl rfl rfl rfl (Jq_eql rfl rfl rfl (b:=false) (eF (by omega))) (a_ FT 1 rfl (c_n (Tc_f rfl (Tc_exitA (At_then_exit (At_then_exit (At_block_exit (At_then (c_a ?_)))))))))
   refine Tl_build0 rfl rfl rfl rfl un32 ty157 rfl (a_ FT 2 rfl (t_q rfl (Jq_slice_hi_nat rfl rfl rfl un31 ty157 h.1) ?_))
   obtain ⟨ti4,hi4,hz4,hs4,hb4⟩:=in157
   refine Tl_append rfl rfl rfl rfl rfl rfl rfl rfl rfl (by simp) (by simp) (by decide) un32 un31 hi4 hz4 hs4 rfl (by have:=List.length_take_le n l;simp only [maxLen];omega) (by have:=List.length_take_le n l;rw [hb4];omega) (nm:=(l.take n).length) (by simp) (ls:=((l.take n).map u32L)) (by simp) (a_ FT 1 rfl (c_n (Tc_share_nat 2 (l.take n) rfl rfl rfl rfl rfl ?_)))
   exact Tc_ret1 hq_ rfl rfl (by rw [← limbs_take hs n h.1 h.2 (fun _=>hz)])
 ·refine t_q rfl (Jq_gtr rfl rfl rfl (b:=false) (dF (by omega))) (a_ FT 8 rfl (c_n (Tc_f rfl (Tc_exitA (At_then_exit (At_then_exit (At_block_exit (At_then (c_a ?_)))))))))
  refine Tl_build0 rfl rfl rfl rfl un32 ty157 rfl (a_ FT 2 rfl (t_q rfl (Jq_slice_hi_nat rfl rfl rfl un31 ty157 h.1) ?_))
  obtain ⟨ti5,hi5,hz5,hs5,hb5⟩:=in157
  refine Tl_append rfl rfl rfl rfl rfl rfl rfl rfl rfl (by simp) (by simp) (by decide) un32 un31 hi5 hz5 hs5 rfl (by have:=List.length_take_le n l;simp only [maxLen];omega) (by have:=List.length_take_le n l;rw [hb5];omega) (nm:=(l.take n).length) (by simp) (ls:=((l.take n).map u32L)) (by simp) (a_ FT 1 rfl (c_n (Tc_share_nat 2 (l.take n) rfl rfl rfl rfl rfl ?_)))
  exact Tc_ret1 hq_ rfl rfl (by rw [← limbs_take hs n h.1 h.2 (fun h0=>absurd h0 hp)])
set_option maxRecDepth 10000 in
theorem limb_spec (a:List Nat) (i:Nat):Ctr Tryz.prog 138 [V.one (natL a),V.one (Leaf.val (.int .i64 ((i:Nat):Int)))] (R.one (V.one (Leaf.val (.int .u32 ((a.getD i 0:Nat):Int))))):=by
 refine Ctr.of_body Tryz.func138 rfl Tryz.ntmps138 (Nat.le_of_ble_eq_true rfl) (fun w0 A0=>?_)
 refine c_a (a_ FT 1 rfl (cns (c_a (a_ FT 2 rfl (t_q rfl (Jq_len rfl rfl un32) ?_)))))
 by_cases hi:i < a.length
 ·refine t_q rfl (Jq_lss rfl rfl rfl (b:=true) (dT (by omega))) (c_n (Tc_t rfl (c_a (a_ FT 2 rfl (t_q rfl (Jq_index1 rfl rfl rfl un32 ty157 (by omega) (by omega) (get_u32 (by omega))) (t_q rfl (Jq_load_ref rfl rfl ty157) (a_ FT 1 rfl (c_n ?_))))))))
  exact Tc_ret1 hq_ rfl rfl (by rw [getD_of hi])
 ·refine t_q rfl (Jq_lss rfl rfl rfl (b:=false) (dF (by omega))) (c_n (Tc_f rfl (c_b (c_a (a_ FT 1 rfl (c_n ?_))))))
  exact Tc_ret1 hq_ rfl rfl (by rw [getD_out (by omega)];rfl)
set_option maxRecDepth 10000 in
theorem same_spec (a b:List Nat):Ctr Tryz.prog 64 [V.one (natL a),V.one (natL b)] (R.one (V.one (Leaf.val (.bool (decide (a = b)))))):=by
 refine Ctr.of_body Tryz.func64 rfl Tryz.ntmps64 (Nat.le_of_ble_eq_true rfl) (fun w0 A0=>?_)
 refine Tc_seq ?_
 refine Tc_len (s:=0) rfl (fun hma=>?_)
 refine Tc_len (s:=1) rfl (fun hmb=>?_)
 refine Tc_region (a_ FT 1 rfl (cns (c_a (a_ FT 1 rfl (t_q rfl (Jq_len rfl rfl un32) (a_ FT 1 rfl (t_q rfl (Jq_len rfl rfl un32) ?_)))))))
 by_cases hne:a.length≠b.length
 ·refine t_q rfl (Jq_neq rfl rfl rfl (b:=true) (nT (by omega))) (c_n (Tc_t rfl (c_a (a_ FT 1 rfl (c_n ?_)))))
  exact Tc_ret1 hq_ rfl rfl (by rw [decide_eq_false (fun e=>hne (by rw [e]))])
 ·refine t_q rfl (Jq_neq rfl rfl rfl (b:=false) (nF (by omega))) (c_n (Tc_f rfl (c_b (Tc_seq (c_a (a_ FT 1 rfl (c_n (Tc_block ?_))))))))
  refine Tc_loopR (fun m Γ H=>∃ (k:Nat),a.length - k = m∧Γ = [(0,some (D.v (V.one (natL a)))),(1,some (D.v (V.one (natL b)))),(5,some (D.int ((k:Nat):Int)))]∧H = []∧k≤a.length∧a.take k = b.take k) ⟨0,rfl,rfl,rfl,Nat.zero_le _,rfl⟩ ⟨rfl,rfl,rfl,trivial⟩ ?_
  rintro m Γ H ⟨k,rfl,rfl,rfl,hkle,hab⟩
  refine Tc_seq (c_a (a_ FT 2 rfl (t_q rfl (Jq_len rfl rfl un32) ?_)))
  by_cases hk:k < a.length
  ·refine t_q rfl (Jq_lss rfl rfl rfl (b:=true) (dT (by omega))) (c_n (Tc_t rfl (c_b (Tc_seq (Tc_block (Tc_seq (Tc_drawK 0 [none,none,none,none,none,none,none,none,none] [] follows (by kernel_rfl) (d_ FT 2 rfl (dq_ rfl rfl (Jq_index1 rfl rfl rfl un32 ty157 (by omega) (by omega) (get_u32 (by omega))) ?_)))))))))
   refine dq_ rfl rfl (Jq_load_ref rfl rfl ty157) (d_ FT 2 rfl (dq_ rfl rfl (Jq_index1 rfl rfl rfl un32 ty157 (by omega) (by omega) (get_u32 (by omega))) (dq_ rfl rfl (Jq_load_ref rfl rfl ty157) ?_)))
   by_cases hd:a[k]'hk≠b[k]'(by omega)
   ·refine dq_ rfl rfl (Jq_neq rfl rfl rfl (b:=true) (nT (by omega))) (DK_nil (At_then (Tc_t rfl (c_a (a_ FT 1 rfl (c_n ?_))))))
    exact Tc_ret1 hq_ rfl rfl (by rw [decide_eq_false (fun e=>hd (by subst e;rfl))])
   ·refine dq_ rfl rfl (Jq_neq rfl rfl rfl (b:=false) (nF (by omega))) (DK_nil (At_then (Tc_f rfl (Tc_skipA (At_block (At_then (Tc_region (a_ FT 1 rfl (t_q rfl (Jq_add rfl rfl rfl (r:=((k + 1:Nat):Int)) (w64 (by omega) (by omega) (by omega))) ?_)))))))))
    refine a_ FT 1 rfl (Tl_end ?_)
    exact At_next (m':=a.length - (k + 1)) (by omega) ⟨k + 1,rfl,rfl,rfl,by omega,by rw [List.take_succ_eq_append_getElem hk,List.take_succ_eq_append_getElem (show k < b.length by omega),hab,Classical.not_not.1 hd]⟩ ⟨rfl,rfl,rfl,trivial⟩
  ·refine t_q rfl (Jq_lss rfl rfl rfl (b:=false) (dF (by omega))) (c_n (Tc_f rfl (Tc_exitA (At_then_exit (At_then_exit (At_block_exit (At_then (c_a (a_ FT 1 rfl ?_)))))))))
   refine c_n ?_
   exact Tc_ret1 hq_ rfl rfl (by rw [decide_eq_true];rw [List.take_of_length_le (by omega),List.take_of_length_le (by omega)] at hab;exact hab)
set_option maxRecDepth 10000 in
theorem rof_spec (x:Nat) (hx:x < 18446744073709551616):Ctr Tryz.prog 116 [V.one (Leaf.val (.int .u64 x))] (R.one (V.one (natL (limbs x)))):=by
 refine Ctr.of_body Tryz.func116 rfl Tryz.ntmps116 (Nat.le_of_ble_eq_true rfl) (fun w0 A0=>?_)
 refine c_a (t_q rfl (Jq_assign_nil rfl) (cna (a_ FT 1 rfl (t_q rfl (Jq_convert rfl rfl un157 us164 (r:=((x % 4294967296:Nat):Int)) (wu32 (by omega))) (a_ FT 1 rfl (t_q rfl (Jq_shr rfl rfl rfl (by decide) (r:=((x / 4294967296:Nat):Int)) (shr_nat x 32 rfl)) (t_q rfl (Jq_convert rfl rfl un157 us164 (r:=((x / 4294967296:Nat):Int)) (wu32 (by omega))) ?_)))))))
 refine t_f rfl (Je_buildSlice rfl un31 ty157 tz157 rfl (by decide) (by decide) rfl (by decide) rfl) (t_f rfl (Je_call rfl fn139 rfl (rmake_spec [x % 4294967296,x / 4294967296] (Small.cons (by omega) (Small.cons (by omega) Small.nil)) (by simp))) (a_ FT 1 rfl (c_n ?_)))
 exact Tc_ret1 hq_ rfl rfl (by rw [show val [x % 4294967296,x / 4294967296] = x from by simp;omega])
set_option maxRecDepth 10000 in
theorem ruint_ge (la:List Nat) (hs:Small la) (hl:la.length≤10000000000000) (hx:18446744073709551616≤val la):Ctr Tryz.prog 172 [V.one (natL la)] (R.tup [V.one (Leaf.val (.int .u64 ((0:Nat):Int))),V.one (Leaf.val (.bool false))]):=by
 refine Ctr.of_body Tryz.func172 rfl Tryz.ntmps172 (Nat.le_of_ble_eq_true rfl) (fun w0 A0=>?_)
 refine c_a (a_ FT 2 rfl (cna (a_ FT 1 rfl (t_f rfl (Je_call rfl fn139 rfl (rmake_spec la hs hl)) (a_ FT 1 rfl (cns (Tc_seq ?_)))))))
 have hv:=val_limbs (val la);have hsl:=small_limbs (val la)
 have hlen:(limbs (val la)).length≤2↔val la < 4294967296 ^ 2:=limbs_length_le
 generalize limbs (val la) = l at *
 refine Tc_region (a_ FT 1 rfl (t_q rfl (Jq_len rfl rfl un32) (c_n (Tc_block (c_a (t_q rfl (Jq_eql rfl rfl rfl (b:=false) (eF (by omega))) (a_ FT 1 rfl (c_n (Tc_f rfl ?_)))))))))
 refine c_a (t_q rfl (Jq_eql rfl rfl rfl (b:=false) (eF (by omega))) (a_ FT 1 rfl (c_n (Tc_f rfl (c_a (t_q rfl (Jq_eql rfl rfl rfl (b:=false) (eF (by omega))) (a_ FT 1 rfl (c_n (Tc_f rfl ?_)))))))))
 refine Tc_skipA (At_block (At_then (c_a (a_ FT 2 rfl (c_n ?_)))))
 exact Tc_ret2 hq_ rfl rfl rfl rfl
set_option maxRecDepth 10000 in
theorem ruint_lt (la:List Nat) (hs:Small la) (hl:la.length≤10000000000000) (hx:val la < 18446744073709551616):Ctr Tryz.prog 172 [V.one (natL la)] (R.tup [V.one (Leaf.val (.int .u64 ((val la:Nat):Int))),V.one (Leaf.val (.bool true))]):=by
 refine Ctr.of_body Tryz.func172 rfl Tryz.ntmps172 (Nat.le_of_ble_eq_true rfl) (fun w0 A0=>?_)
 refine c_a (a_ FT 2 rfl (cna (a_ FT 1 rfl (t_f rfl (Je_call rfl fn139 rfl (rmake_spec la hs hl)) (a_ FT 1 rfl (cns (Tc_seq ?_)))))))
 have hv:=val_limbs (val la);have hsl:=small_limbs (val la)
 have hlen:(limbs (val la)).length≤2↔val la < 4294967296 ^ 2:=limbs_length_le
 generalize limbs (val la) = l at *
 refine Tc_region (a_ FT 1 rfl (t_q rfl (Jq_len rfl rfl un32) (c_n (Tc_block (c_a ?_)))))
 by_cases h0:l.length = 0
 ·refine t_q rfl (Jq_eql rfl rfl rfl (b:=true) (eT (by omega))) (a_ FT 1 rfl (c_n (Tc_t rfl (c_a (a_ FT 2 rfl (c_n ?_))))))
  exact Tc_ret2 hq_ rfl rfl rfl (by rw [← hv,List.eq_nil_of_length_eq_zero h0];rfl)
 ·refine t_q rfl (Jq_eql rfl rfl rfl (b:=false) (eF (by omega))) (a_ FT 1 rfl (c_n (Tc_f rfl (c_a ?_))))
  by_cases h1:l.length = 1
  ·refine t_q rfl (Jq_eql rfl rfl rfl (b:=true) (eT (by omega))) (a_ FT 1 rfl (c_n (Tc_t rfl (c_a (a_ FT 1 rfl (t_q rfl (Jq_index1 rfl rfl rfl un32 ty157 (by omega) (by omega) (get_u32i 0 (by omega) rfl)) (t_q rfl (Jq_load_ref rfl rfl ty157) (t_q rfl (Jq_convert rfl rfl un164 us157 (r:=((l[0]'(by omega):Nat):Int)) (wu64 (by have:=hsl.get 0 (by omega);omega))) ?_))))))))
   refine a_ FT 2 rfl (c_n ?_)
   exact Tc_ret2 hq_ rfl rfl rfl (by match l,h1,hv with
 | [d],_,hv=>rw [← hv];simp [val])
  ·refine t_q rfl (Jq_eql rfl rfl rfl (b:=false) (eF (by omega))) (a_ FT 1 rfl (c_n (Tc_f rfl (Tc_seq ?_))))
   have h2:l.length = 2:=by omega
   obtain ⟨p,q,rfl⟩:∃ p q,l = [p,q]:=by
    match l,h2 with
    | [p,q],_=>exact ⟨p,q,rfl⟩
   have hp:=hsl.head;have hq:=hsl.tail.head
   refine Tc_region (t_q rfl (Jq_eql rfl rfl rfl (b:=true) (eT rfl)) (a_ FT 1 rfl (c_n (Tc_t rfl (Tc_seq (Tc_drawK 0 [none,none,none,none,none,none,none,none,none,none,none,none] [] follows (by kernel_rfl) (d_ FT 1 rfl (dq_ rfl rfl (Jq_index1 rfl rfl rfl un32 ty157 (by omega) (by simp) rfl) (dq_ rfl rfl (Jq_load_ref rfl rfl ty157) ?_)))))))))
   refine dq_ rfl rfl (Jq_convert rfl rfl un164 us157 (r:=((p:Nat):Int)) (wu64 (by omega))) (d_ FT 1 rfl (dq_ rfl rfl (Jq_index1 rfl rfl rfl un32 ty157 (by omega) (by simp) rfl) (dq_ rfl rfl (Jq_load_ref rfl rfl ty157) (dq_ rfl rfl (Jq_convert rfl rfl un164 us157 (r:=((q:Nat):Int)) (wu64 (by omega))) ?_))))
   refine dq_ rfl rfl (Jq_shl rfl rfl rfl (by decide) (r:=((q * 2 ^ 32:Nat):Int)) (shl64 _ 32 rfl (by omega))) (dq_ rfl rfl (Jq_or rfl rfl rfl (r:=((p + q * 2 ^ 32:Nat):Int)) (or64' 32 (Nat.mul_mod_left _ _) (by omega) (by omega))) (d_ FT 2 rfl (DK_nil (At_then ?_))))
   exact Tc_ret2 hq_ rfl rfl rfl (by rw [← hv];simp [val];omega)
set_option maxRecDepth 10000 in
theorem rcmp_spec (a b:List Nat) (hsa:Small a) (hsb:Small b):Ctr Tryz.prog 146 [V.one (natL a),V.one (natL b)] (R.one (V.one (Leaf.val (.int .i64 (cmpN (val a) (val b)))))):=by
 refine Ctr.of_body Tryz.func146 rfl Tryz.ntmps146 (Nat.le_of_ble_eq_true rfl) (fun w0 A0=>?_)
 refine Tc_seq ?_
 refine Tc_len (s:=0) rfl (fun hma=>?_)
 refine Tc_len (s:=1) rfl (fun hmb=>?_)
 obtain ⟨mm,hmm⟩:∃ mm,max a.length b.length = mm:=⟨_,rfl⟩
 refine Tc_region (a_ FT 1 rfl (cns (c_a (a_ FT 1 rfl (t_q rfl (Jq_len rfl rfl un32) (a_ FT 1 rfl (t_q rfl (Jq_len rfl rfl un32) (t_q rfl (Jq_max rfl rfl rfl (r:=((mm:Nat):Int)) (by split <;> omega)) (t_q rfl (Jq_sub rfl rfl rfl (r:=(mm:Int) - 1) (w64 (by omega) (by omega) (by omega))) ?_)))))))))
 refine a_ FT 1 rfl (c_n (Tc_block (Tc_loopR (fun m Γ H=>∃ (n:Nat),n = m∧Γ = [(0,some (D.v (V.one (natL a)))),(1,some (D.v (V.one (natL b)))),(5,some (D.int ((n:Int) - 1)))]∧H = []∧n≤mm∧∀ i,n≤i→a.getD i 0 = b.getD i 0) ⟨mm,rfl,rfl,rfl,Nat.le_refl _,fun i hi=>by rw [getD_out (by omega),getD_out (by omega)]⟩ ⟨rfl,rfl,rfl,trivial⟩ ?_)))
 rintro m Γ H ⟨n,rfl,rfl,rfl,hnm,heq⟩
 refine Tc_seq (c_a (a_ FT 1 rfl ?_))
 by_cases hp:0 < n
 ·refine t_q rfl (Jq_geq rfl rfl rfl (b:=true) (dT (by omega))) (c_n (Tc_t rfl (c_b (Tc_seq (Tc_block (Tc_seq (Tc_seq ?_)))))))
  have hn1:((n:Int) - 1) = ((n - 1:Nat):Int):=by omega
  have hn2:n - 1 + 1 = n:=by omega
  rw [hn1]
  refine Tc_region (a_ FT 2 rfl (t_f rfl (Je_call rfl fn138 rfl (limb_spec a (n - 1))) (a_ FT 2 rfl (t_f rfl (Je_call rfl fn138 rfl (limb_spec b (n - 1))) ?_))))
  by_cases hlt:a.getD (n - 1) 0 < b.getD (n - 1) 0
  ·refine t_q rfl (Jq_lss rfl rfl rfl (b:=true) (dT (by omega))) (c_n (Tc_t rfl (c_a (a_ FT 1 rfl (c_n ?_)))))
   exact Tc_ret1 hq_ rfl rfl (by rw [cmpN_lt (cmp_getD hsa (by rw [hn2];exact heq) hlt)])
  ·refine t_q rfl (Jq_lss rfl rfl rfl (b:=false) (dF (by omega))) (c_n (Tc_f rfl (c_b (c_a (a_ FT 2 rfl (t_f rfl (Je_call rfl fn138 rfl (limb_spec a (n - 1))) (a_ FT 2 rfl (t_f rfl (Je_call rfl fn138 rfl (limb_spec b (n - 1))) ?_))))))))
   by_cases hgt:b.getD (n - 1) 0 < a.getD (n - 1) 0
   ·refine t_q rfl (Jq_gtr rfl rfl rfl (b:=true) (dT (by omega))) (c_n (Tc_t rfl (c_a (a_ FT 1 rfl (c_n ?_)))))
    exact Tc_ret1 hq_ rfl rfl (by rw [cmpN_gt (cmp_getD hsb (by rw [hn2];exact fun i hi=>(heq i hi).symm) hgt)])
   ·refine t_q rfl (Jq_gtr rfl rfl rfl (b:=false) (dF (by omega))) (c_n (Tc_f rfl (Tc_skipA (At_block (At_then (Tc_region (a_ FT 1 rfl (t_q rfl (Jq_sub rfl rfl rfl (r:=((n - 1:Nat):Int) - 1) (w64 (by omega) (by omega) (by omega))) (a_ FT 1 rfl ?_)))))))))
    refine Tl_end ?_
    exact At_next (m':=n - 1) (by omega) ⟨n - 1,rfl,rfl,rfl,by omega,fun i hi=>(if e:i = n - 1 then by subst e;omega else heq i (by omega))⟩ ⟨rfl,rfl,rfl,trivial⟩
 ·refine t_q rfl (Jq_geq rfl rfl rfl (b:=false) (dF (by omega))) (c_n (Tc_f rfl (Tc_exitA (At_then_exit (At_then_exit (At_block_exit (At_then (c_a (a_ FT 1 rfl ?_)))))))))
  refine c_n ?_
  exact Tc_ret1 hq_ rfl rfl (by rw [cmpN_eq (eq_getD (fun i hi=>heq i (by omega)))])
set_option maxRecDepth 10000 in
theorem radd_spec (a b:List Nat) (hsa:Small a) (hsb:Small b) (hla0:a.length≤9000000000000) (hlb0:b.length≤9000000000000):Ctr Tryz.prog 140 [V.one (natL a),V.one (natL b)] (R.one (V.one (natL (limbs (val a + val b))))):=by
 refine Ctr.of_body Tryz.func140 rfl Tryz.ntmps140 (Nat.le_of_ble_eq_true rfl) (fun w0 A0=>?_)
 refine c_a (t_q rfl (Jq_assign_nil rfl) (cna (Tl_nil_own (u:=157) (sz:=1) rfl rfl rfl rfl rfl (cna (a_ FT 1 rfl (cns (c_a (a_ FT 1 rfl (c_n ?_)))))))))
 refine Tc_block ?_
 refine Tc_loopR (fun m Γ H=>∃ (k:Nat) (out:List Nat) (c:Nat),a.length + b.length - k = m∧Γ = [(0,some (D.v (V.one (natL a)))),(1,some (D.v (V.one (natL b)))),(5,some (D.own 0 out.length)),(6,some (D.val (.int .u64 ((c:Nat):Int)))),(7,some (D.int ((k:Nat):Int)))]∧H = [some ⟨157,out.map u32L,some 1,none⟩]∧out.length = k∧(k≤a.length ∨ k≤b.length)∧Small out∧c≤1∧val out + c * 4294967296 ^ k = val (a.take k) + val (b.take k)) ⟨0,[],0,rfl,rfl,rfl,rfl,.inl (Nat.zero_le _),Small.nil,Nat.zero_le _,rfl⟩ ⟨rfl,rfl,rfl,rfl,rfl,trivial⟩ ?_
 rintro m Γ H ⟨k,out,c,rfl,rfl,rfl,hol,hk,hos,hc,heq⟩
 have hak:=hsa.getD k;have hbk:=hsb.getD k
 refine Tc_seq (c_a (a_ FT 2 rfl (t_q rfl (Jq_len rfl rfl un32) ?_)))
 by_cases hka:k < a.length
 ·refine t_q rfl (Jq_lss rfl rfl rfl (b:=true) (dT (by omega))) (a_ FT 6 rfl (c_n (Tc_t rfl (c_b (Tc_seq (Tc_block (c_a (a_ FT 3 rfl (t_f rfl (Je_call rfl fn138 rfl (limb_spec a k)) ?_)))))))))
  refine t_q rfl (Jq_convert rfl rfl un164 us157 (r:=((a.getD k 0:Nat):Int)) (wu64 (by omega))) (a_ FT 2 rfl (t_f rfl (Je_call rfl fn138 rfl (limb_spec b k)) (t_q rfl (Jq_convert rfl rfl un164 us157 (r:=((b.getD k 0:Nat):Int)) (wu64 (by omega))) (t_q rfl (Jq_add rfl rfl rfl (r:=((a.getD k 0 + b.getD k 0:Nat):Int)) (wu64 (by omega))) ?_))))
  refine t_q rfl (Jq_add rfl rfl rfl (r:=((c + (a.getD k 0 + b.getD k 0):Nat):Int)) (wu64 (by omega))) (a_ FT 1 rfl (cna (a_ FT 2 rfl (t_q rfl (Jq_convert rfl rfl un157 us164 (r:=(((c + (a.getD k 0 + b.getD k 0)) % 4294967296:Nat):Int)) (wu32 (by omega))) (t_f rfl (Je_buildSlice rfl un31 ty157 tz157 rfl (by decide) (by decide) rfl (by decide) rfl) ?_)))))
  obtain ⟨ti3,hi3,hz3,hs3,hb3⟩:=in157
  refine Tl_append rfl rfl rfl rfl rfl rfl rfl rfl rfl (by simp) rfl (by decide) un31 un31 hi3 hz3 hs3 rfl (by simp only [maxLen];omega) (by rw [hb3];omega) (nm:=(out ++ [(c + (a.getD k 0 + b.getD k 0)) % 4294967296]).length) (by simp) (ls:=((out ++ [(c + (a.getD k 0 + b.getD k 0)) % 4294967296]).map u32L)) (by rw [List.map_append];rfl) (a_ FT 1 rfl (c_n (Tc_region (a_ FT 1 rfl ?_))))
  refine t_q rfl (Jq_shr rfl rfl rfl (by decide) (r:=(((c + (a.getD k 0 + b.getD k 0)) / 4294967296:Nat):Int)) (shr_nat _ 32 rfl)) (a_ FT 1 rfl (Tl_end (At_block (At_then (Tc_region (a_ FT 1 rfl (t_q rfl (Jq_add rfl rfl rfl (r:=((k + 1:Nat):Int)) (w64 (by omega) (by omega) (by omega))) (a_ FT 1 rfl (Tl_end ?_)))))))))
  exact At_next (m':=a.length + b.length - (k + 1)) (by omega) ⟨k + 1,_,(c + (a.getD k 0 + b.getD k 0)) / 4294967296,rfl,rfl,rfl,by simp [hol],by omega,small_app1 hos (Nat.mod_lt _ (by decide)),by omega,add_app hol heq rfl⟩ ⟨rfl,rfl,rfl,rfl,rfl,trivial⟩
 ·refine t_q rfl (Jq_lss rfl rfl rfl (b:=false) (dF (by omega))) (a_ FT 3 rfl (t_g rfl rfl rfl rfl (Jq_len rfl rfl un32) ?_))
  by_cases hkb:k < b.length
  ·refine t_g rfl rfl rfl rfl (Jq_lss rfl rfl rfl (b:=true) (dT (by omega))) (a_ FT 1 rfl (c_n (Tc_t rfl (c_b (Tc_seq (Tc_block (c_a (a_ FT 3 rfl (t_f rfl (Je_call rfl fn138 rfl (limb_spec a k)) ?_)))))))))
   refine t_q rfl (Jq_convert rfl rfl un164 us157 (r:=((a.getD k 0:Nat):Int)) (wu64 (by omega))) (a_ FT 2 rfl (t_f rfl (Je_call rfl fn138 rfl (limb_spec b k)) (t_q rfl (Jq_convert rfl rfl un164 us157 (r:=((b.getD k 0:Nat):Int)) (wu64 (by omega))) (t_q rfl (Jq_add rfl rfl rfl (r:=((a.getD k 0 + b.getD k 0:Nat):Int)) (wu64 (by omega))) ?_))))
   refine t_q rfl (Jq_add rfl rfl rfl (r:=((c + (a.getD k 0 + b.getD k 0):Nat):Int)) (wu64 (by omega))) (a_ FT 1 rfl (cna (a_ FT 2 rfl (t_q rfl (Jq_convert rfl rfl un157 us164 (r:=(((c + (a.getD k 0 + b.getD k 0)) % 4294967296:Nat):Int)) (wu32 (by omega))) (t_f rfl (Je_buildSlice rfl un31 ty157 tz157 rfl (by decide) (by decide) rfl (by decide) rfl) ?_)))))
   obtain ⟨ti5,hi5,hz5,hs5,hb5⟩:=in157
   refine Tl_append rfl rfl rfl rfl rfl rfl rfl rfl rfl (by simp) rfl (by decide) un31 un31 hi5 hz5 hs5 rfl (by simp only [maxLen];omega) (by rw [hb5];omega) (nm:=(out ++ [(c + (a.getD k 0 + b.getD k 0)) % 4294967296]).length) (by simp) (ls:=((out ++ [(c + (a.getD k 0 + b.getD k 0)) % 4294967296]).map u32L)) (by rw [List.map_append];rfl) (a_ FT 1 rfl (c_n (Tc_region (a_ FT 1 rfl ?_))))
   refine t_q rfl (Jq_shr rfl rfl rfl (by decide) (r:=(((c + (a.getD k 0 + b.getD k 0)) / 4294967296:Nat):Int)) (shr_nat _ 32 rfl)) (a_ FT 1 rfl (Tl_end (At_block (At_then (Tc_region (a_ FT 1 rfl (t_q rfl (Jq_add rfl rfl rfl (r:=((k + 1:Nat):Int)) (w64 (by omega) (by omega) (by omega))) (a_ FT 1 rfl (Tl_end ?_)))))))))
   exact At_next (m':=a.length + b.length - (k + 1)) (by omega) ⟨k + 1,_,(c + (a.getD k 0 + b.getD k 0)) / 4294967296,rfl,rfl,rfl,by simp [hol],by omega,small_app1 hos (Nat.mod_lt _ (by decide)),by omega,add_app hol heq rfl⟩ ⟨rfl,rfl,rfl,rfl,rfl,trivial⟩
  ·refine t_g rfl rfl rfl rfl (Jq_lss rfl rfl rfl (b:=false) (dF (by omega))) (a_ FT 1 rfl (c_n (Tc_f rfl (Tc_exitA (At_then_exit (At_then_exit (At_block_exit (At_then (c_a ?_)))))))))
   refine a_ FT 2 rfl (t_q rfl (Jq_convert rfl rfl un157 us164 (r:=((c:Nat):Int)) (wu32 (by omega))) (t_f rfl (Je_buildSlice rfl un31 ty157 tz157 rfl (by decide) (by decide) rfl (by decide) rfl) ?_))
   obtain ⟨ti6,hi6,hz6,hs6,hb6⟩:=in157
   refine Tl_append rfl rfl rfl rfl rfl rfl rfl rfl rfl (by simp) rfl (by decide) un31 un31 hi6 hz6 hs6 rfl (by simp only [maxLen];omega) (by rw [hb6];omega) (nm:=(out ++ [c]).length) (by simp) (ls:=((out ++ [c]).map u32L)) (by rw [List.map_append];rfl) (Tl_share_nat 42 (out ++ [c]) rfl rfl rfl rfl (by simp) ?_)
   refine t_f rfl (Je_call rfl fn139 rfl (rmake_spec (out ++ [c]) (small_app1 hos (by omega)) (by simp;omega))) (a_ FT 1 rfl (c_n ?_))
   exact Tc_ret1 hq_ rfl rfl (by rw [val_app1,hol,heq,val_take_all a k (by omega),val_take_all b k (by omega)])
set_option maxRecDepth 10000 in
theorem rsub_lt_spec (a b:List Nat) (hsa:Small a) (hsb:Small b) (hlt:val a < val b):Ctr Tryz.prog 141 [V.one (natL a),V.one (natL b)] (R.tup [V.one nilL,V.one (Leaf.val (.int .i64 2))]):=by
 refine Ctr.of_body Tryz.func141 rfl Tryz.ntmps141 (Nat.le_of_ble_eq_true rfl) (fun w0 A0=>?_)
 refine c_a (t_q rfl (Jq_assign_nil rfl) (a_ FT 1 rfl (cns (c_a (a_ FT 2 rfl (t_f rfl (Je_call rfl fn146 rfl (rcmp_spec a b hsa hsb)) (t_q rfl (Jq_lss rfl rfl rfl (b:=true) (dT (by rw [cmpN_lt hlt];decide))) (c_n (Tc_t rfl ?_)))))))))
 refine c_a (t_q rfl (Jq_assign_nil rfl) (a_ FT 1 rfl (c_n ?_)))
 exact Tc_ret2 hq_ rfl rfl rfl rfl
set_option maxRecDepth 10000 in
theorem rsub_spec (a b:List Nat) (hsa:Small a) (hsb:Small b) (hla0:a.length≤9000000000000) (hge:val b≤val a):Ctr Tryz.prog 141 [V.one (natL a),V.one (natL b)] (R.tup [V.one (natL (limbs (val a - val b))),V.one (Leaf.val (.int .i64 0))]):=by
 refine Ctr.of_body Tryz.func141 rfl Tryz.ntmps141 (Nat.le_of_ble_eq_true rfl) (fun w0 A0=>?_)
 refine c_a (t_q rfl (Jq_assign_nil rfl) (a_ FT 1 rfl (cns (c_a (a_ FT 2 rfl (t_f rfl (Je_call rfl fn146 rfl (rcmp_spec a b hsa hsb)) (t_q rfl (Jq_lss rfl rfl rfl (b:=false) (dF (by unfold cmpN;rw [if_neg (by omega)];split <;> decide))) (c_n (Tc_f rfl ?_)))))))))
 refine c_b (c_a (Tl_nil_own (u:=157) (sz:=1) rfl rfl rfl rfl rfl (cna (a_ FT 1 rfl (cns (c_a (a_ FT 1 rfl (c_n (Tc_block ?_)))))))))
 refine Tc_loopR (fun m Γ H=>∃ (k:Nat) (out:List Nat) (c:Nat),a.length - k = m∧Γ = [(0,some (D.v (V.one (natL a)))),(1,some (D.v (V.one (natL b)))),(6,some (D.own 0 out.length)),(7,some (D.val (.int .u64 ((c:Nat):Int)))),(8,some (D.int ((k:Nat):Int)))]∧H = [some ⟨157,out.map u32L,some 1,none⟩]∧out.length = k∧k≤a.length∧Small out∧c≤1∧val out + val (b.take k) = val (a.take k) + c * 4294967296 ^ k) ⟨0,[],0,rfl,rfl,rfl,rfl,Nat.zero_le _,Small.nil,Nat.zero_le _,rfl⟩ ⟨rfl,rfl,rfl,rfl,rfl,trivial⟩ ?_
 rintro m Γ H ⟨k,out,c,rfl,rfl,rfl,hol,hk,hos,hc,heq⟩
 refine Tc_seq (c_a (a_ FT 2 rfl (t_q rfl (Jq_len rfl rfl un32) ?_)))
 by_cases hka:k < a.length
 ·refine t_q rfl (Jq_lss rfl rfl rfl (b:=true) (dT (by omega))) (c_n (Tc_t rfl (c_b (Tc_seq (Tc_block (Tc_seq ?_))))))
  have hak:=hsa.getD k;have hbk:=hsb.getD k
  refine Tc_region (a_ FT 2 rfl (t_f rfl (Je_call rfl fn138 rfl (limb_spec a k)) (t_q rfl (Jq_convert rfl rfl un164 us157 (r:=((a.getD k 0:Nat):Int)) (wu64 (by omega))) (a_ FT 2 rfl (t_f rfl (Je_call rfl fn138 rfl (limb_spec b k)) (t_q rfl (Jq_convert rfl rfl un164 us157 (r:=((b.getD k 0:Nat):Int)) (wu64 (by omega))) (a_ FT 1 rfl ?_)))))))
  refine t_q rfl (Jq_add rfl rfl rfl (r:=((b.getD k 0 + c:Nat):Int)) (wu64 (by omega))) (a_ FT 2 rfl (cna (a_ FT 1 rfl (cns (c_a (a_ FT 2 rfl ?_))))))
  by_cases hbr:a.getD k 0 < b.getD k 0 + c
  ·refine t_q rfl (Jq_lss rfl rfl rfl (b:=true) (dT (by omega))) (c_n (Tc_t rfl (c_a (a_ FT 1 rfl (t_q rfl (Jq_add rfl rfl rfl (r:=((4294967296 + a.getD k 0:Nat):Int)) (wu64 (by omega))) (a_ FT 1 rfl (c_n (Tc_region (a_ FT 1 rfl ?_)))))))))
   refine c_n (Tc_region (a_ FT 3 rfl (t_q rfl (Jq_sub rfl rfl rfl (r:=((4294967296 + a.getD k 0 - (b.getD k 0 + c):Nat):Int)) (wu64 (by omega))) (t_q rfl (Jq_convert rfl rfl un157 us164 (r:=((4294967296 + a.getD k 0 - (b.getD k 0 + c):Nat):Int)) (wu32 (by omega))) (t_f rfl (Je_buildSlice rfl un31 ty157 tz157 rfl (by decide) (by decide) rfl (by decide) rfl) ?_)))))
   obtain ⟨ti4,hi4,hz4,hs4,hb4⟩:=in157
   refine Tl_append rfl rfl rfl rfl rfl rfl rfl rfl rfl (by simp) rfl (by decide) un31 un31 hi4 hz4 hs4 rfl (by simp only [maxLen];omega) (by rw [hb4];omega) (nm:=(out ++ [4294967296 + a.getD k 0 - (b.getD k 0 + c)]).length) (by simp) (ls:=((out ++ [4294967296 + a.getD k 0 - (b.getD k 0 + c)]).map u32L)) (by rw [List.map_append];rfl) (a_ FT 1 rfl (Tl_end (At_block (At_then ?_))))
   refine Tc_region (a_ FT 1 rfl (t_q rfl (Jq_add rfl rfl rfl (r:=((k + 1:Nat):Int)) (w64 (by omega) (by omega) (by omega))) (a_ FT 1 rfl (Tl_end ?_))))
   exact At_next (m':=a.length - (k + 1)) (by omega) ⟨k + 1,_,1,rfl,rfl,rfl,by simp [hol],by omega,small_app1 hos (by omega),by omega,sub_app hol heq (by omega)⟩ ⟨rfl,rfl,rfl,rfl,rfl,trivial⟩
  ·refine t_q rfl (Jq_lss rfl rfl rfl (b:=false) (dF (by omega))) (c_n (Tc_f rfl (c_b (Tc_region (a_ FT 3 rfl (t_q rfl (Jq_sub rfl rfl rfl (r:=((a.getD k 0 - (b.getD k 0 + c):Nat):Int)) (wu64 (by omega))) (t_q rfl (Jq_convert rfl rfl un157 us164 (r:=((a.getD k 0 - (b.getD k 0 + c):Nat):Int)) (wu32 (by omega))) ?_)))))))
   refine t_f rfl (Je_buildSlice rfl un31 ty157 tz157 rfl (by decide) (by decide) rfl (by decide) rfl) ?_
   obtain ⟨ti5,hi5,hz5,hs5,hb5⟩:=in157
   refine Tl_append rfl rfl rfl rfl rfl rfl rfl rfl rfl (by simp) rfl (by decide) un31 un31 hi5 hz5 hs5 rfl (by simp only [maxLen];omega) (by rw [hb5];omega) (nm:=(out ++ [a.getD k 0 - (b.getD k 0 + c)]).length) (by simp) (ls:=((out ++ [a.getD k 0 - (b.getD k 0 + c)]).map u32L)) (by rw [List.map_append];rfl) (a_ FT 1 rfl (Tl_end (At_block (At_then (Tc_region (a_ FT 1 rfl ?_))))))
   refine t_q rfl (Jq_add rfl rfl rfl (r:=((k + 1:Nat):Int)) (w64 (by omega) (by omega) (by omega))) (a_ FT 1 rfl (Tl_end ?_))
   exact At_next (m':=a.length - (k + 1)) (by omega) ⟨k + 1,_,0,rfl,rfl,rfl,by simp [hol],by omega,small_app1 hos (by omega),by omega,sub_app hol heq (by omega)⟩ ⟨rfl,rfl,rfl,rfl,rfl,trivial⟩
 ·refine t_q rfl (Jq_lss rfl rfl rfl (b:=false) (dF (by omega))) (c_n (Tc_f rfl (Tc_exitA (At_then_exit (At_then_exit (At_block_exit (At_then (Tc_seq ?_))))))))
  have hke:k = a.length:=by omega
  subst hke
  refine Tc_region (a_ FT 1 rfl (Tl_share_nat 43 (out) rfl rfl rfl rfl rfl (t_f rfl (Je_call rfl fn139 rfl (rmake_spec out hos (by omega))) (a_ FT 2 rfl (c_n ?_)))))
  exact Tc_ret2 hq_ rfl rfl rfl (by rw [sub_end hsa hos (by omega) hge heq])
theorem radd_w (a b:List Nat) (hsa:Small a) (hsb:Small b) (hla0:a.length≤9000000000000) (hlb0:b.length≤9000000000000) (m n:Nat) (hm:val a = m) (hn:val b = n):Ctr Tryz.prog 140 [V.one (natL a),V.one (natL b)] (R.one (V.one (natL (limbs (m + n))))):=by
 subst hm;subst hn
 exact radd_spec a b hsa hsb hla0 hlb0
theorem rcmp_w (a b:List Nat) (hsa:Small a) (hsb:Small b) (m n:Nat) (hm:val a = m) (hn:val b = n):Ctr Tryz.prog 146 [V.one (natL a),V.one (natL b)] (R.one (V.one (Leaf.val (.int .i64 (cmpN m n))))):=by
 subst hm;subst hn
 exact rcmp_spec a b hsa hsb
theorem rsub_w (a b:List Nat) (hsa:Small a) (hsb:Small b) (hla0:a.length≤9000000000000) (m n:Nat) (hm:val a = m) (hn:val b = n) (hge:n≤m):Ctr Tryz.prog 141 [V.one (natL a),V.one (natL b)] (R.tup [V.one (natL (limbs (m - n))),V.one (Leaf.val (.int .i64 0))]):=by
 subst hm;subst hn;exact rsub_spec a b hsa hsb hla0 hge
theorem rsub_ltw (a b:List Nat) (hsa:Small a) (hsb:Small b) (m n:Nat) (hm:val a = m) (hn:val b = n) (hlt:m < n):Ctr Tryz.prog 141 [V.one (natL a),V.one (natL b)] (R.tup [V.one nilL,V.one (Leaf.val (.int .i64 2))]):=by
 subst hm;subst hn;exact rsub_lt_spec a b hsa hsb hlt
set_option maxRecDepth 10000 in
theorem rmul_spec (a b:List Nat) (hsa:Small a) (hsb:Small b) (hla0:a.length≤4000000000000) (hlb0:b.length≤4000000000000):Ctr Tryz.prog 101 [V.one (natL a),V.one (natL b)] (R.one (V.one (natL (limbs (val a * val b))))):=by
 refine Ctr.of_body Tryz.func101 rfl Tryz.ntmps101 (Nat.le_of_ble_eq_true rfl) (fun w0 A0=>?_)
 refine c_a (t_q rfl (Jq_assign_nil rfl) (cna (a_ FT 1 rfl (t_q rfl (Jq_len rfl rfl un32) (a_ FT 1 rfl (t_q rfl (Jq_len rfl rfl un32) (t_q rfl (Jq_add rfl rfl rfl (r:=((a.length + b.length:Nat):Int)) (w64 (by omega) (by omega) (by omega))) (t_q rfl (Jq_add rfl rfl rfl (r:=((a.length + b.length + 1:Nat):Int)) (w64 (by omega) (by omega) (by omega))) ?_))))))))
 obtain ⟨ti1,hi1,hz1,hs1,hb1⟩:=in157
 refine t_f rfl (Je_make (i:=0) (n:=a.length + b.length + 1) (ls:=((List.replicate (a.length + b.length + 1) 0).map u32L)) rfl rfl rfl un31 hi1 hz1 hs1 (by decide) rfl (by decide) rfl (by rw [hb1];omega) (by simp only [maxLen];omega) (zc_u32 _) rfl) (a_ FT 1 rfl (cns (c_a (a_ FT 1 rfl (c_n (Tc_block ?_))))))
 refine Tc_loopR (fun m Γ H=>∃ (i:Nat) (out:List Nat),a.length - i = m∧Γ = [(0,some (D.v (V.one (natL a)))),(1,some (D.v (V.one (natL b)))),(5,some (D.own 0 (a.length + b.length + 1))),(6,some (D.int ((i:Nat):Int)))]∧H = [some ⟨157,out.map u32L,some 1,none⟩]∧i≤a.length∧out.length = a.length + b.length + 1∧Small out∧val out = val (a.take i) * val b) ⟨0,List.replicate (a.length + b.length + 1) 0,rfl,rfl,rfl,Nat.zero_le _,by simp,Small.replicate _,by simp [val_replicate]⟩ ⟨rfl,rfl,rfl,rfl,trivial⟩ ?_
 rintro m Γ H ⟨i,out,rfl,rfl,rfl,hile,hol,hos,heq⟩
 refine Tc_seq (c_a (a_ FT 2 rfl (t_q rfl (Jq_len rfl rfl un32) ?_)))
 by_cases hi:i < a.length
 ·refine t_q rfl (Jq_lss rfl rfl rfl (b:=true) (dT (by omega))) (c_n (Tc_t rfl (c_b (Tc_seq (Tc_block (Tc_seq ?_))))))
  have hai:=hsa.get i hi
  refine Tc_region (a_ FT 1 rfl (cna (a_ FT 1 rfl (c_n (Tc_block ?_)))))
  refine Tc_loopR (fun m Γ H=>∃ (k:Nat) (o:List Nat) (c:Nat),b.length + 1 - k = m∧Γ = [(0,some (D.v (V.one (natL a)))),(1,some (D.v (V.one (natL b)))),(5,some (D.own 0 (a.length + b.length + 1))),(6,some (D.int ((i:Nat):Int))),(7,some (D.val (.int .u64 ((c:Nat):Int)))),(8,some (D.int ((k:Nat):Int)))]∧H = [some ⟨157,o.map u32L,some 1,none⟩]∧k≤b.length + 1∧o.length = a.length + b.length + 1∧Small o∧c < 4294967296∧val o + c * 4294967296 ^ (i + k) = val (a.take i) * val b + 4294967296 ^ i * (a[i] * val (b.take k))) ⟨0,out,0,rfl,rfl,rfl,Nat.zero_le _,hol,hos,by omega,by simp [heq]⟩ ⟨rfl,rfl,rfl,rfl,rfl,rfl,trivial⟩ ?_
  rintro m Γ H ⟨k,o,c,rfl,rfl,rfl,hkle,hoo1,hoo,hc,hq⟩
  refine Tc_seq (c_a (a_ FT 2 rfl (t_q rfl (Jq_len rfl rfl un32) ?_)))
  by_cases hk:k≤b.length
  ·refine t_q rfl (Jq_leq rfl rfl rfl (b:=true) (dT (by omega))) (c_n (Tc_t rfl (c_b (Tc_seq (Tc_block (Tc_seq ?_))))))
   have hbk:=hsb.getD k;have hok:=hoo.get (i + k) (by omega)
   have hm:=mul_carry hc hai hbk hok
   have hm2:=hm.1
   refine Tc_drawK 0 [none,none,none,none,none,none,none,none,none,none,none,none,none,none,none,none,none,none,none,none,none] [] follows (by kernel_rfl) (d_ FT 3 rfl (dq_ rfl rfl (Jq_index1 rfl rfl rfl un32 ty157 (by omega) (by omega) (get_u32 hi)) (dq_ rfl rfl (Jq_load_ref rfl rfl ty157) ?_)))
   refine dq_ rfl rfl (Jq_convert rfl rfl un164 us157 (r:=((a[i]'hi:Nat):Int)) (wu64 (by omega))) (d_ FT 2 rfl (DK_c rfl rfl (Jd_call rfl fn138 rfl (limb_spec b k)) (dq_ rfl rfl (Jq_convert rfl rfl un164 us157 (r:=((b.getD k 0:Nat):Int)) (wu64 (by omega))) (dq_ rfl rfl (Jq_mul rfl rfl rfl (r:=((a[i]'hi * b.getD k 0:Nat):Int)) (wu64 (by rw [← Int.natCast_mul];omega))) ?_))))
   refine d_ FT 3 rfl (dq_ rfl rfl (Jq_add rfl rfl rfl (r:=((i + k:Nat):Int)) (w64 (by omega) (by omega) (by omega))) (dq_ rfl rfl (Jq_index_own rfl rfl rfl rfl (by decide) (by simp [hoo1]) (by decide) un31 ty157 (by omega) (by omega) (off:=i + k) (by omega)) (dq_ rfl rfl (Jq_load rfl rfl rfl (by decide) ty157 (get_own (by omega))) ?_)))
   refine dq_ rfl rfl (Jq_convert rfl rfl un164 us157 (r:=((o[i + k]'(by omega):Nat):Int)) (wu64 (by omega))) (dq_ rfl rfl (Jq_add rfl rfl rfl (r:=((a[i]'hi * b.getD k 0 + o[i + k]'(by omega):Nat):Int)) (wu64 (by omega))) (dq_ rfl rfl (Jq_add rfl rfl rfl (r:=((c + (a[i]'hi * b.getD k 0 + o[i + k]'(by omega)):Nat):Int)) (wu64 (by omega))) (d_ FT 1 rfl (DK_nil (At_then ?_)))))
   refine c_a (a_ FT 3 rfl (t_q rfl (Jq_add rfl rfl rfl (r:=((i + k:Nat):Int)) (w64 (by omega) (by omega) (by omega))) (a_ FT 1 rfl (t_q rfl (Jq_convert rfl rfl un157 us164 (r:=(((c + (a[i]'hi * b.getD k 0 + o[i + k]'(by omega))) % 4294967296:Nat):Int)) (wu32 (by omega))) ?_))))
   refine t_q rfl (Jq_index_own rfl rfl rfl rfl (by decide) (by simp [hoo1]) (by decide) un31 ty157 (by omega) (by omega) (off:=i + k) (by omega)) (t_f rfl (Je_store (ls:=((o.set (i + k) ((c + (a[i]'hi * b.getD k 0 + o[i + k]'(by omega))) % 4294967296)).map u32L)) rfl rfl rfl rfl ty157 rfl (by decide) (by simp;omega) (splice_u32 (by omega))) (c_n (Tc_region (a_ FT 1 rfl ?_))))
   refine t_q rfl (Jq_shr rfl rfl rfl (by decide) (r:=(((c + (a[i]'hi * b.getD k 0 + o[i + k]'(by omega))) / 4294967296:Nat):Int)) (shr_nat _ 32 rfl)) (a_ FT 1 rfl (Tl_end (At_block (At_then (Tc_region (a_ FT 1 rfl (t_q rfl (Jq_add rfl rfl rfl (r:=((k + 1:Nat):Int)) (w64 (by omega) (by omega) (by omega))) (a_ FT 1 rfl (Tl_end ?_)))))))))
   exact At_next (m':=b.length + 1 - (k + 1)) (by omega) ⟨k + 1,_,_,rfl,rfl,rfl,by omega,by simp [hoo1],hoo.set _ _ (by omega),hm.2.1,mul_stepD (by omega) _ hq⟩ ⟨rfl,rfl,rfl,rfl,rfl,rfl,trivial⟩
  ·refine t_q rfl (Jq_leq rfl rfl rfl (b:=false) (dF (by omega))) (c_n (Tc_f rfl (Tc_exitA (At_then_exit (At_then_exit (At_block_exit (At_block (At_then (Tc_region ?_)))))))))
   refine a_ FT 1 rfl (t_q rfl (Jq_add rfl rfl rfl (r:=((i + 1:Nat):Int)) (w64 (by omega) (by omega) (by omega))) (a_ FT 1 rfl (Tl_end ?_)))
   have hke:k = b.length + 1:=by omega
   subst hke
   exact At_next (m':=a.length - (i + 1)) (by omega) ⟨i + 1,_,rfl,rfl,rfl,by omega,hoo1,hoo,mul_end hsa hsb hi hq⟩ ⟨rfl,rfl,rfl,rfl,trivial⟩
 ·refine t_q rfl (Jq_lss rfl rfl rfl (b:=false) (dF (by omega))) (c_n (Tc_f rfl (Tc_exitA (At_then_exit (At_then_exit (At_block_exit (At_then (c_a (a_ FT 1 rfl ?_)))))))))
  refine Tl_share_nat 57 (out) rfl rfl rfl rfl (by omega) (t_f rfl (Je_call rfl fn139 rfl (rmake_spec out hos (by omega))) (a_ FT 1 rfl (c_n ?_)))
  exact Tc_ret1 hq_ rfl rfl (by rw [heq,val_take_all a _ (by omega)])
set_option maxRecDepth 10000 in
theorem rshl_spec (a:List Nat) (k:Nat) (hsa:Small a) (hk:k≤4194304) (hla0:a.length≤9000000000000):Ctr Tryz.prog 149 [V.one (natL a),V.one (Leaf.val (.int .i64 ((k:Nat):Int)))] (R.one (V.one (natL (limbs (val a * 2 ^ k))))):=by
 refine Ctr.of_body Tryz.func149 rfl Tryz.ntmps149 (Nat.le_of_ble_eq_true rfl) (fun w0 A0=>?_)
 refine c_a (t_q rfl (Jq_assign_nil rfl) (cna (a_ FT 1 rfl (t_q rfl (Jq_quo rfl rfl rfl (by decide) (r:=((k / 32:Nat):Int)) (w64 (tdivN k 32) (by omega) (by omega))) ?_))))
 obtain ⟨ti1,hi1,hz1,hs1,hb1⟩:=in157
 refine t_f rfl (Je_make (i:=0) (n:=k / 32) (ls:=((List.replicate (k / 32) 0).map u32L)) rfl rfl rfl un31 hi1 hz1 hs1 (by decide) rfl (by decide) rfl (by rw [hb1];omega) (by simp only [maxLen];omega) (zc_u32 _) rfl) (a_ FT 1 rfl (cna (a_ FT 1 rfl (cns (c_a (a_ FT 1 rfl (c_n (Tc_block ?_))))))))
 refine Tc_loopR (fun m Γ H=>∃ (i:Nat) (out:List Nat) (c:Nat),a.length - i = m∧Γ = [(0,some (D.v (V.one (natL a)))),(1,some (D.int ((k:Nat):Int))),(5,some (D.own 0 out.length)),(6,some (D.val (.int .u64 ((c:Nat):Int)))),(7,some (D.int ((i:Nat):Int)))]∧H = [some ⟨157,out.map u32L,some 1,none⟩]∧i≤a.length∧out.length = k / 32 + i∧Small out∧c < 2 ^ (k % 32)∧val out + c * 4294967296 ^ out.length = val (a.take i) * 2 ^ k) ⟨0,List.replicate (k / 32) 0,0,rfl,rfl,rfl,Nat.zero_le _,by simp,Small.replicate _,Nat.pow_pos (by decide),by simp [val_replicate]⟩ ⟨rfl,rfl,by rw [List.length_replicate];rfl,rfl,rfl,trivial⟩ ?_
 rintro m Γ H ⟨i,out,c,rfl,rfl,rfl,hile,hol,hos,hc,heq⟩
 refine Tc_seq (c_a (a_ FT 2 rfl (t_q rfl (Jq_len rfl rfl un32) ?_)))
 by_cases hi:i < a.length
 ·refine t_q rfl (Jq_lss rfl rfl rfl (b:=true) (dT (by omega))) (c_n (Tc_t rfl (c_b (Tc_seq (Tc_block (Tc_seq ?_))))))
  have hai:=hsa.get i hi;have hb:=shl_bound (Nat.mod_lt k (by decide)) hai hc
  have hb1:=hb.1;have hb2:=hb.2.1
  refine Tc_region (a_ FT 3 rfl (t_q rfl (Jq_index1 rfl rfl rfl un32 ty157 (by omega) (by omega) (get_u32 (by omega))) (t_q rfl (Jq_load_ref rfl rfl ty157) (t_q rfl (Jq_convert rfl rfl un164 us157 (r:=((a[i]'hi:Nat):Int)) (wu64 (by omega))) (a_ FT 1 rfl (t_q rfl (Jq_rem rfl rfl rfl (by decide) (r:=((k % 32:Nat):Int)) (tmodN k 32)) ?_))))))
  refine t_q rfl (Jq_shl rfl rfl rfl (by omega) (r:=((a[i]'hi * 2 ^ (k % 32):Nat):Int)) (shl64 _ (k % 32) (minbits64 (by omega)) hb1)) (t_q rfl (Jq_or rfl rfl rfl (r:=((c + a[i]'hi * 2 ^ (k % 32):Nat):Int)) (or64' (k % 32) (Nat.mul_mod_left _ _) hc (by omega))) (a_ FT 1 rfl (cna (a_ FT 2 rfl ?_))))
  refine t_q rfl (Jq_convert rfl rfl un157 us164 (r:=(((c + a[i]'hi * 2 ^ (k % 32)) % 4294967296:Nat):Int)) (wu32 (by omega))) (t_f rfl (Je_buildSlice rfl un31 ty157 tz157 rfl (by decide) (by decide) rfl (by decide) rfl) ?_)
  obtain ⟨ti4,hi4,hz4,hs4,hb4⟩:=in157
  refine Tl_append rfl rfl rfl rfl rfl rfl rfl rfl rfl (by simp) rfl (by decide) un31 un31 hi4 hz4 hs4 rfl (by simp only [maxLen];omega) (by rw [hb4];omega) (nm:=(out ++ [(c + a[i]'hi * 2 ^ (k % 32)) % 4294967296]).length) (by simp) (ls:=((out ++ [(c + a[i]'hi * 2 ^ (k % 32)) % 4294967296]).map u32L)) (by rw [List.map_append];rfl) (a_ FT 1 rfl (c_n (Tc_region (a_ FT 1 rfl ?_))))
  refine t_q rfl (Jq_shr rfl rfl rfl (by decide) (r:=(((c + a[i]'hi * 2 ^ (k % 32)) / 4294967296:Nat):Int)) (shr_nat _ 32 rfl)) (a_ FT 1 rfl (Tl_end (At_block (At_then (Tc_region (a_ FT 1 rfl (t_q rfl (Jq_add rfl rfl rfl (r:=((i + 1:Nat):Int)) (w64 (by omega) (by omega) (by omega))) (a_ FT 1 rfl (Tl_end ?_)))))))))
  exact At_next (m':=a.length - (i + 1)) (by omega) ⟨i + 1,_,_,rfl,rfl,rfl,by omega,by simp;omega,small_app1 hos (Nat.mod_lt _ (by decide)),hb.2.2.1,by simpa using shl_app hi hol heq rfl⟩ ⟨rfl,rfl,rfl,rfl,rfl,trivial⟩
 ·refine t_q rfl (Jq_lss rfl rfl rfl (b:=false) (dF (by omega))) (c_n (Tc_f rfl (Tc_exitA (At_then_exit (At_then_exit (At_block_exit (At_then (Tc_seq ?_))))))))
  have hp:2 ^ (k % 32)≤2 ^ 31:=Nat.pow_le_pow_right (by decide) (by omega)
  have hc2:c < 4294967296:=by omega
  refine Tc_region (a_ FT 2 rfl (t_q rfl (Jq_convert rfl rfl un157 us164 (r:=((c:Nat):Int)) (wu32 (by omega))) (t_f rfl (Je_buildSlice rfl un31 ty157 tz157 rfl (by decide) (by decide) rfl (by decide) rfl) ?_)))
  obtain ⟨ti5,hi5,hz5,hs5,hb5⟩:=in157
  refine Tl_append rfl rfl rfl rfl rfl rfl rfl rfl rfl (by simp) rfl (by decide) un31 un31 hi5 hz5 hs5 rfl (by simp only [maxLen];omega) (by rw [hb5];omega) (nm:=(out ++ [c]).length) (by simp) (ls:=((out ++ [c]).map u32L)) (by rw [List.map_append];rfl) (Tl_share_nat 38 (out ++ [c]) rfl rfl rfl rfl (by simp) ?_)
  refine t_f rfl (Je_call rfl fn139 rfl (rmake_spec (out ++ [c]) (small_app1 hos hc2) (by simp;omega))) (a_ FT 1 rfl (c_n ?_))
  exact Tc_ret1 hq_ rfl rfl (by rw [val_app1,heq,val_take_all a _ (by omega)])
theorem rmul_w (a b:List Nat) (hsa:Small a) (hsb:Small b) (hla0:a.length≤4000000000000) (hlb0:b.length≤4000000000000) (m n:Nat) (hm:val a = m) (hn:val b = n):Ctr Tryz.prog 101 [V.one (natL a),V.one (natL b)] (R.one (V.one (natL (limbs (m * n))))):=by
 subst hm;subst hn
 exact rmul_spec a b hsa hsb hla0 hlb0
theorem rshl_w (a:List Nat) (k:Nat) (hsa:Small a) (hk:k≤4194304) (hla0:a.length≤9000000000000) (m:Nat) (hm:val a = m):Ctr Tryz.prog 149 [V.one (natL a),V.one (Leaf.val (.int .i64 ((k:Nat):Int)))] (R.one (V.one (natL (limbs (m * 2 ^ k))))):=by
 subst hm;exact rshl_spec a k hsa hk hla0
set_option maxRecDepth 10000 in
theorem rbits_spec (la:List Nat) (hsa:Small la) (hla:la.length≤10000000000000):Ctr Tryz.prog 173 [V.one (natL la)] (R.one (V.one (Leaf.val (.int .i64 ((bl (val la):Nat):Int))))):=by
 refine Ctr.of_body Tryz.func173 rfl Tryz.ntmps173 (Nat.le_of_ble_eq_true rfl) (fun w0 A0=>?_)
 refine c_a (a_ FT 1 rfl (cna (a_ FT 1 rfl (t_f rfl (Je_call rfl fn139 rfl (rmake_spec la hsa hla)) (a_ FT 1 rfl (cns (Tc_seq ?_)))))))
 have hl0:=limbs_val_length hsa
 have hb:=fun h=>bl_limbs (canon_limbs (val la)) h
 have hs:=small_limbs (val la)
 rw [val_limbs] at hb
 have hz0:(limbs (val la)).length = 0→val la = 0:=fun h=>limbs_eq_nil.1 (List.eq_nil_of_length_eq_zero h)
 generalize limbs (val la) = a at *
 refine Tc_region (a_ FT 1 rfl (t_q rfl (Jq_len rfl rfl un32) ?_))
 by_cases hz:a.length = 0
 ·refine t_q rfl (Jq_eql rfl rfl rfl (b:=true) (eT (by omega))) (c_n (Tc_t rfl (c_a (a_ FT 1 rfl (c_n ?_)))))
  exact Tc_ret1 hq_ rfl rfl (by rw [hz0 hz];rfl)
 ·refine t_q rfl (Jq_eql rfl rfl rfl (b:=false) (eF (by omega))) (c_n (Tc_f rfl (c_b (Tc_seq ?_))))
  have hb:=hb (by omega);have htop:=hs.get (a.length - 1) (by omega)
  have hbt:=bl_le_of_lt (k:=32) htop
  refine Tc_region (a_ FT 1 rfl (t_q rfl (Jq_len rfl rfl un32) (t_q rfl (Jq_sub rfl rfl rfl (r:=((a.length - 1:Nat):Int)) (w64 (by omega) (by omega) (by omega))) (t_q rfl (Jq_mul rfl rfl rfl (r:=((32 * (a.length - 1):Nat):Int)) (w64 (by omega) (by omega) (by omega))) (a_ FT 1 rfl (cns (c_a (a_ FT 2 rfl (t_q rfl (Jq_len rfl rfl un32) ?_)))))))))
  refine t_q rfl (Jq_sub rfl rfl rfl (r:=((a.length - 1:Nat):Int)) (w64 (by omega) (by omega) (by omega))) (t_q rfl (Jq_index1 rfl rfl rfl un32 ty157 (by omega) (by omega) (get_u32i (a.length - 1) (by omega) rfl)) (t_q rfl (Jq_load_ref rfl rfl ty157) (a_ FT 1 rfl (c_n (Tc_block ?_)))))
  refine Tc_loopR (fun m Γ H=>∃ (k:Nat) (x:Nat),x = m∧Γ = [(3,some (D.int ((k:Nat):Int))),(4,some (D.val (.int .u32 ((x:Nat):Int))))]∧H = []∧k + bl x = bl (val la)∧x < 4294967296) ⟨32 * (a.length - 1),a[a.length - 1]'(by omega),rfl,rfl,rfl,hb.symm,htop⟩ ⟨rfl,rfl,trivial⟩ ?_
  rintro m Γ H ⟨k,x,rfl,rfl,rfl,hkx,hx⟩
  refine Tc_seq (c_a (a_ FT 1 rfl ?_))
  by_cases hx0:0 < x
  ·refine t_q rfl (Jq_gtr rfl rfl rfl (b:=true) (dT (by omega))) (c_n (Tc_t rfl (c_b (Tc_seq (Tc_block ?_)))))
   have hbh:=bl_half hx0
   refine Tc_region (a_ FT 1 rfl (t_q rfl (Jq_add rfl rfl rfl (r:=((k + 1:Nat):Int)) (w64 (by omega) (by omega) (by omega))) (a_ FT 1 rfl (Tl_end (At_block (At_then (Tc_region (a_ FT 1 rfl (t_q rfl (Jq_shr rfl rfl rfl (by decide) (r:=((x / 2:Nat):Int)) (shr_nat x 1 rfl)) ?_)))))))))
   refine a_ FT 1 rfl (Tl_end ?_)
   exact At_next (m':=x / 2) (by omega) ⟨k + 1,x / 2,rfl,rfl,rfl,by omega,by omega⟩ ⟨rfl,rfl,trivial⟩
  ·refine t_q rfl (Jq_gtr rfl rfl rfl (b:=false) (dF (by omega))) (c_n (Tc_f rfl (Tc_exitA (At_then_exit (At_then_exit (At_block_exit (At_then (c_a (a_ FT 2 rfl ?_)))))))))
   refine c_n ?_
   exact Tc_ret1 hq_ rfl rfl (by rw [← hkx,show x = 0 from by omega];rfl)
set_option maxRecDepth 10000 in
theorem rdivmod_zero (la lb:List Nat) (hsa:Small la) (hsb:Small lb) (hla0:la.length≤8000000000000) (hlb0:lb.length≤8000000000000) (hb0:val lb = 0):Ctr Tryz.prog 143 [V.one (natL la),V.one (natL lb)] (R.tup [V.one nilL,V.one nilL,V.one (Leaf.val (.int .i64 3))]):=by
 refine Ctr.of_body Tryz.func143 rfl Tryz.ntmps143 (Nat.le_of_ble_eq_true rfl) (fun w0 A0=>?_)
 refine c_a (t_q rfl (Jq_assign_nil rfl) (t_q rfl (Jq_assign_nil rfl) (a_ FT 1 rfl (cns ?_))))
 by_cases ha:val la < 18446744073709551616
 ·refine Tc_region (a_ FT 1 rfl (t_f rfl (Je_call rfl fn172 rfl (ruint_lt la hsa (by omega) ha)) (a_ FT 3 rfl (Tl_is true (rfl) (a_ FT 2 rfl (cna (a_ FT 1 rfl (t_f rfl (Je_call rfl fn172 rfl (ruint_lt lb hsb (by omega) (by omega))) (a_ FT 3 rfl ?_)))))))))
  refine Tl_is true (rfl) (a_ FT 2 rfl (cns (c_a (a_ FT 3 rfl (t_g rfl rfl rfl rfl (Jq_eql rfl rfl rfl (b:=true) (eT (by omega))) (a_ FT 1 rfl (c_n (Tc_t rfl (c_a ?_)))))))))
  refine t_q rfl (Jq_assign_nil rfl) (t_q rfl (Jq_assign_nil rfl) (a_ FT 1 rfl (c_n ?_)))
  exact Tc_ret3 hq_ rfl rfl rfl rfl rfl
 ·refine Tc_region (a_ FT 1 rfl (t_f rfl (Je_call rfl fn172 rfl (ruint_ge la hsa (by omega) (by omega))) (a_ FT 3 rfl (Tl_is false (rfl) (a_ FT 2 rfl (cna (a_ FT 1 rfl (t_f rfl (Je_call rfl fn172 rfl (ruint_lt lb hsb (by omega) (by omega))) (a_ FT 3 rfl ?_)))))))))
  refine Tl_is true (rfl) (a_ FT 2 rfl (cns (c_a (a_ FT 3 rfl (t_g rfl rfl rfl rfl (Jq_eql rfl rfl rfl (b:=true) (eT (by omega))) (a_ FT 1 rfl (c_n (Tc_t rfl (c_a ?_)))))))))
  refine t_q rfl (Jq_assign_nil rfl) (t_q rfl (Jq_assign_nil rfl) (a_ FT 1 rfl (c_n ?_)))
  exact Tc_ret3 hq_ rfl rfl rfl rfl rfl
set_option maxRecDepth 10000 in
theorem rdivmod_spec (la lb:List Nat) (hsa:Small la) (hsb:Small lb) (hla0:la.length≤8000000000000) (hlb0:lb.length≤8000000000000) (hb0:val lb≠0):Ctr Tryz.prog 143 [V.one (natL la),V.one (natL lb)] (R.tup [V.one (natL (limbs (val la / val lb))),V.one (natL (limbs (val la % val lb))),V.one (Leaf.val (.int .i64 0))]):=by
 refine Ctr.of_body Tryz.func143 rfl Tryz.ntmps143 (Nat.le_of_ble_eq_true rfl) (fun w0 A0=>?_)
 refine c_a (t_q rfl (Jq_assign_nil rfl) (t_q rfl (Jq_assign_nil rfl) (a_ FT 1 rfl (cns ?_))))
 by_cases ha:val la < 18446744073709551616
 ·refine Tc_region (a_ FT 1 rfl (t_f rfl (Je_call rfl fn172 rfl (ruint_lt la hsa (by omega) (by omega))) (a_ FT 3 rfl (Tl_is true (rfl) (a_ FT 2 rfl (cns ?_))))))
  by_cases hb:val lb < 18446744073709551616
  ·refine Tc_region (a_ FT 1 rfl (t_f rfl (Je_call rfl fn172 rfl (ruint_lt lb hsb (by omega) (by omega))) (a_ FT 3 rfl (Tl_is true (rfl) (a_ FT 2 rfl (cns (c_a (a_ FT 3 rfl (t_g rfl rfl rfl rfl (Jq_eql rfl rfl rfl (b:=false) (eF (by omega))) ?_)))))))))
   refine a_ FT 1 rfl (c_n (Tc_f rfl (c_b (Tc_seq (c_a (a_ FT 4 rfl (c_n (Tc_t rfl (Tc_seq ?_)))))))))
   refine Tc_drawK 0 [none,none,none,none,none,none,none,none,none,none,none] [] follows (by kernel_rfl) (d_ FT 2 rfl (dq_ rfl rfl (Jq_quo rfl rfl rfl (by omega) (r:=((val la / val lb:Nat):Int)) ((by rw [tdivN];exact wrap_nat_u64 (Nat.lt_of_le_of_lt (Nat.div_le_self _ _) ha)))) ?_))
   refine DK_c rfl rfl (Jd_call rfl fn116 rfl (rof_spec _ (Nat.lt_of_le_of_lt (Nat.div_le_self _ _) ha))) (d_ FT 2 rfl (dq_ rfl rfl (Jq_rem rfl rfl rfl (by omega) (r:=((val la % val lb:Nat):Int)) (tmodN _ _)) (DK_c rfl rfl (Jd_call rfl fn116 rfl (rof_spec _ (Nat.lt_of_le_of_lt (Nat.mod_le _ _) ha))) (d_ FT 3 rfl (DK_nil (At_then ?_))))))
   exact Tc_ret3 hq_ rfl rfl rfl rfl rfl
  ·refine Tc_region (a_ FT 1 rfl (t_f rfl (Je_call rfl fn172 rfl (ruint_ge lb hsb (by omega) (by omega))) (a_ FT 3 rfl (Tl_is false (rfl) (a_ FT 2 rfl (cns (c_a (a_ FT 5 rfl (c_n ?_)))))))))
   refine Tc_f rfl (c_b (Tc_seq (c_a (a_ FT 4 rfl (c_n (Tc_f rfl (c_b (c_a (a_ FT 1 rfl ?_)))))))))
   refine t_q rfl (Jq_len rfl rfl un32) ?_
   obtain ⟨ti3,hi3,hz3,hs3,hb3⟩:=in157
   refine t_f rfl (Je_make (i:=0) (n:=la.length) (ls:=((List.replicate (la.length) 0).map u32L)) rfl rfl rfl un31 hi3 hz3 hs3 (by decide) rfl (by decide) rfl (by rw [hb3];omega) (by simp only [maxLen];omega) (zc_u32 _) rfl) (Tl_build0 rfl rfl rfl rfl un32 ty157 rfl (a_ FT 2 rfl (cns (Tc_seq ?_))))
   have hlbl:bl (val la)≤32 * la.length:=bl_le_of_lt (by rw [← pow32];exact val_lt hsa)
   have hb0p:0 < val lb:=Nat.pos_of_ne_zero hb0
   refine Tc_share_nat 12 ([]) rfl rfl rfl rfl rfl (Tc_region (a_ FT 1 rfl (t_f rfl (Je_call rfl fn173 rfl (rbits_spec la hsa (by omega))) (t_q rfl (Jq_sub rfl rfl rfl (r:=(bl (val la):Int) - 1) (w64 (by omega) (by omega) (by omega))) (a_ FT 1 rfl (c_n (Tc_block ?_)))))))
   refine Tc_loopR (fun m Γ H=>∃ (n:Nat) (out:List Nat) (Q:Nat) (r:Nat),n = m∧Γ = [(0,some (D.v (V.one (natL la)))),(1,some (D.v (V.one (natL lb)))),(11,some (D.own 0 la.length)),(12,some (D.v (V.one (natL (limbs r))))),(13,some (D.int ((n:Int) - 1)))]∧H = [some ⟨157,(out).map u32L,some 1,none⟩,none]∧n≤bl (val la)∧out.length = la.length∧Small out∧val out = 2 ^ n * Q∧val la / 2 ^ n = Q * val lb + r∧r < val lb) ⟨bl (val la),List.replicate la.length 0,0,0,rfl,rfl,rfl,Nat.le_refl _,by simp,Small.replicate _,by simp [val_replicate],by rw [Nat.div_eq_of_lt (bl_lt _)];simp,hb0p⟩ ⟨rfl,rfl,rfl,by rw [limbs_zero];rfl,rfl,trivial⟩ ?_
   rintro m Γ H ⟨n,out,Q,r,rfl,rfl,rfl,hnb,hol,hos,hoq,hqr,hrb⟩
   refine Tc_seq (c_a (a_ FT 1 rfl ?_))
   by_cases hp:0 < n
   ·refine t_q rfl (Jq_geq rfl rfl rfl (b:=true) (dT (by omega))) (c_n (Tc_t rfl (c_b (Tc_seq (Tc_block (Tc_seq ?_))))))
    obtain ⟨n,rfl⟩:∃ n0,n = n0 + 1:=⟨n - 1,by omega⟩
    have hn1:(((n + 1:Nat):Int) - 1) = ((n:Nat):Int):=by omega
    rw [hn1]
    have hni:n / 32 < la.length:=bits_index (val_lt hsa) (by omega)
    have hrl:=limbs_length_mono (Nat.le_of_lt hrb);have hlbv:=limbs_val_length hsb
    have hbit:=bit_of hsa hni
    have hlan:=hsa.get (n / 32) hni
    have hstep:=div_bit_step hqr
    have hsb1:=set_bit hos (by omega) hoq
    refine Tc_region (a_ FT 1 rfl (t_f rfl (Je_call rfl fn149 rfl (rshl_w (limbs r) 1 (small_limbs _) (by decide) (by omega) r (val_limbs _))) (a_ FT 1 rfl (cna (a_ FT 3 rfl (t_q rfl (Jq_quo rfl rfl rfl (by decide) (r:=((n / 32:Nat):Int)) (w64 (tdivN n 32) (by omega) (by omega))) (t_q rfl (Jq_index1 rfl rfl rfl un32 ty157 (by omega) (by omega) (get_u32 hni)) ?_)))))))
    refine t_q rfl (Jq_load_ref rfl rfl ty157) (a_ FT 1 rfl (t_q rfl (Jq_rem rfl rfl rfl (by decide) (r:=((n % 32:Nat):Int)) (tmodN n 32)) (t_q rfl (Jq_shr rfl rfl rfl (by omega) (r:=((la[n / 32]'hni / 2 ^ (n % 32):Nat):Int)) (shr_nat _ (n % 32) (by simp only [IntKind.bits];omega))) ?_)))
    refine t_q rfl (Jq_and rfl rfl rfl (r:=((val la / 2 ^ n % 2:Nat):Int)) ((by rw [← hbit];exact and_one (Nat.lt_of_le_of_lt (Nat.div_le_self _ _) hlan)))) (t_f rfl (Je_buildSlice rfl un32 ty157 tz157 rfl (by decide) (by decide) rfl (by decide) rfl) ?_)
    have hr2:r * 2 ^ 1 + val la / 2 ^ n % 2 < 2 * val lb:=by omega
    have hl2:(limbs (r * 2 ^ 1)).length≤(limbs (val lb)).length + 1:=by
     rw [limbs_length_le,Nat.pow_succ]
     have:=(limbs_length_le (n:=val lb) (k:=(limbs (val lb)).length)).1 (Nat.le_refl _)
     omega
    have hl3:(limbs (r * 2 ^ 1 + val la / 2 ^ n % 2)).length≤9000000000000:=by
     refine Nat.le_trans (limbs_length_le (k:=(limbs (val lb)).length + 1).2 ?_) (by omega)
     rw [Nat.pow_succ]
     have:=(limbs_length_le (n:=val lb) (k:=(limbs (val lb)).length)).1 (Nat.le_refl _)
     omega
    refine t_f rfl (Je_call rfl fn140 rfl (radd_w (limbs (r * 2 ^ 1)) [val la / 2 ^ n % 2] (small_limbs _) (Small.cons (by omega) Small.nil) (by omega) (by simp) (r * 2 ^ 1) (val la / 2 ^ n % 2) (val_limbs _) (by simp))) (a_ FT 1 rfl (cna (a_ FT 2 rfl ?_)))
    refine t_f rfl (Je_call rfl fn146 rfl (rcmp_w (limbs (r * 2 ^ 1 + val la / 2 ^ n % 2)) lb (small_limbs _) hsb (r * 2 ^ 1 + val la / 2 ^ n % 2) (val lb) (val_limbs _) rfl)) ?_
    by_cases hge:val lb≤r * 2 ^ 1 + val la / 2 ^ n % 2
    ·refine t_q rfl (Jq_geq rfl rfl rfl (b:=true) (dT (by unfold cmpN;rw [if_neg (by omega)];split <;> decide))) (c_n (Tc_t rfl (c_a (a_ FT 2 rfl (t_f rfl (Je_call rfl fn141 rfl (rsub_w (limbs (r * 2 ^ 1 + val la / 2 ^ n % 2)) lb (small_limbs _) hsb hl3 (r * 2 ^ 1 + val la / 2 ^ n % 2) (val lb) (val_limbs _) rfl hge)) (a_ FT 4 rfl (c_n ?_)))))))
     refine Tc_drawK 0 [none,none,none,none,none,none,none,none,none,none,some 0] [0] follows (by kernel_rfl) (d_ FT 2 rfl (dq_ rfl rfl (Jq_quo rfl rfl rfl (by decide) (r:=((n / 32:Nat):Int)) (w64 (tdivN n 32) (by omega) (by omega))) ?_))
     refine DK_qp [] (JO_q rfl rfl (Jq_index_own rfl rfl rfl rfl (by decide) (by simp [hol]) (by decide) un31 ty157 (by omega) (by omega) (off:=n / 32) (by omega))) (by kernel_rfl) (DK_qp [] (JO_q rfl rfl (Jq_load rfl rfl rfl (by decide) ty157 (get_own (by omega)))) (by kernel_rfl) (d_ FT 1 rfl (dq_ rfl rfl (Jq_rem rfl rfl rfl (by decide) (r:=((n % 32:Nat):Int)) (tmodN n 32)) ?_)))
     refine dq_ rfl rfl (Jq_shl rfl rfl rfl (by omega) (r:=((2 ^ (n % 32):Nat):Int)) ((by rw [show min (((n % 32:Nat):Int)).toNat IntKind.u32.bits = n % 32 from by simp only [IntKind.bits];omega,Int.one_mul,show ((2:Int) ^ (n % 32)) = ((2 ^ (n % 32):Nat):Int) from by rw [Int.natCast_pow];rfl];exact wrap_nat_u32 (by have:(2:Nat) ^ (n % 32)≤2 ^ 31:=Nat.pow_le_pow_right (by decide) (by omega);omega)))) ?_
     refine dq_ rfl rfl (Jq_or rfl rfl rfl (r:=((out[n / 32]'(by omega) + 2 ^ (n % 32):Nat):Int)) (or32 (n % 32 + 1) hsb1.1 (Nat.pow_lt_pow_right (by decide) (Nat.lt_succ_self _)) hsb1.2.1)) (DK_qp [] (JO_q rfl rfl (Jq_index_own rfl rfl rfl rfl (by decide) (by simp [hol]) (by decide) un31 ty157 (by omega) (by omega) (off:=n / 32) (by omega))) (by kernel_rfl) ?_)
     refine DK_s 0 rfl rfl rfl (Jd_store (ls:=((out.set (n / 32) (out[n / 32]'(by omega) + 2 ^ (n % 32))).map u32L)) rfl rfl rfl rfl ty157 rfl (by decide) (by simp;omega) (splice_u32 (by omega))) (DK_nil (At_block (At_then (Tc_region (a_ FT 1 rfl (t_q rfl (Jq_sub rfl rfl rfl (r:=((n:Nat):Int) - 1) (w64 (by omega) (by omega) (by omega))) (a_ FT 1 rfl (Tl_end ?_))))))))
     exact At_next (m':=n) (by omega) ⟨n,_,2 * Q + 1,_,rfl,rfl,rfl,by omega,by simp [hol],hos.set _ _ hsb1.2.1,hsb1.2.2,by rw [hstep,Nat.add_mul,Nat.one_mul];omega,by omega⟩ ⟨rfl,rfl,rfl,rfl,rfl,trivial⟩
    ·refine t_q rfl (Jq_geq rfl rfl rfl (b:=false) (dF (by rw [cmpN_lt (by omega)];decide))) (c_n (Tc_f rfl (Tc_skipA (At_block (At_then (Tc_region (a_ FT 1 rfl (t_q rfl (Jq_sub rfl rfl rfl (r:=((n:Nat):Int) - 1) (w64 (by omega) (by omega) (by omega))) (a_ FT 1 rfl ?_)))))))))
     refine Tl_end ?_
     exact At_next (m':=n) (by omega) ⟨n,_,2 * Q,_,rfl,rfl,rfl,by omega,hol,hos,by rw [hoq,Nat.pow_succ];grind,by rw [hstep];omega,by omega⟩ ⟨rfl,rfl,rfl,rfl,rfl,trivial⟩
   ·refine t_q rfl (Jq_geq rfl rfl rfl (b:=false) (dF (by omega))) (c_n (Tc_f rfl (Tc_exitA (At_then_exit (At_then_exit (At_block_exit (At_then (Tc_seq ?_))))))))
    have hn0:n = 0:=by omega
    subst hn0
    rw [Nat.pow_zero,Nat.div_one] at hqr
    rw [Nat.pow_zero,Nat.one_mul] at hoq
    subst hoq
    have hdm:val la / val lb = val out∧val la % val lb = r:=by
     rw [hqr,Nat.mul_comm]
     exact ⟨by rw [Nat.mul_add_div hb0p,Nat.div_eq_of_lt hrb,Nat.add_zero],by rw [Nat.mul_add_mod,Nat.mod_eq_of_lt hrb]⟩
    refine Tc_region (a_ FT 1 rfl (Tl_share_nat 86 (out) rfl rfl rfl rfl (by omega) (t_f rfl (Je_call rfl fn139 rfl (rmake_spec out hos (by omega))) (a_ FT 4 rfl (c_n ?_)))))
    exact Tc_ret3 hq_ rfl rfl rfl rfl (by rw [hdm.1,hdm.2])
 ·refine Tc_region (a_ FT 1 rfl (t_f rfl (Je_call rfl fn172 rfl (ruint_ge la hsa (by omega) (by omega))) (a_ FT 3 rfl (Tl_is false (rfl) (a_ FT 2 rfl (cns ?_))))))
  by_cases hb:val lb < 18446744073709551616
  ·refine Tc_region (a_ FT 1 rfl (t_f rfl (Je_call rfl fn172 rfl (ruint_lt lb hsb (by omega) (by omega))) (a_ FT 3 rfl (Tl_is true (rfl) (a_ FT 2 rfl (cns (c_a (a_ FT 3 rfl (t_g rfl rfl rfl rfl (Jq_eql rfl rfl rfl (b:=false) (eF (by omega))) ?_)))))))))
   refine a_ FT 1 rfl (c_n (Tc_f rfl (c_b (Tc_seq (c_a (a_ FT 4 rfl (c_n (Tc_f rfl (c_b ?_)))))))))
   refine c_a (a_ FT 1 rfl (t_q rfl (Jq_len rfl rfl un32) ?_))
   obtain ⟨ti8,hi8,hz8,hs8,hb8⟩:=in157
   refine t_f rfl (Je_make (i:=0) (n:=la.length) (ls:=((List.replicate (la.length) 0).map u32L)) rfl rfl rfl un31 hi8 hz8 hs8 (by decide) rfl (by decide) rfl (by rw [hb8];omega) (by simp only [maxLen];omega) (zc_u32 _) rfl) (Tl_build0 rfl rfl rfl rfl un32 ty157 rfl (a_ FT 2 rfl (cns (Tc_seq ?_))))
   have hlbl:bl (val la)≤32 * la.length:=bl_le_of_lt (by rw [← pow32];exact val_lt hsa)
   have hb0p:0 < val lb:=Nat.pos_of_ne_zero hb0
   refine Tc_share_nat 12 ([]) rfl rfl rfl rfl rfl (Tc_region (a_ FT 1 rfl (t_f rfl (Je_call rfl fn173 rfl (rbits_spec la hsa (by omega))) (t_q rfl (Jq_sub rfl rfl rfl (r:=(bl (val la):Int) - 1) (w64 (by omega) (by omega) (by omega))) (a_ FT 1 rfl (c_n (Tc_block ?_)))))))
   refine Tc_loopR (fun m Γ H=>∃ (n:Nat) (out:List Nat) (Q:Nat) (r:Nat),n = m∧Γ = [(0,some (D.v (V.one (natL la)))),(1,some (D.v (V.one (natL lb)))),(11,some (D.own 0 la.length)),(12,some (D.v (V.one (natL (limbs r))))),(13,some (D.int ((n:Int) - 1)))]∧H = [some ⟨157,(out).map u32L,some 1,none⟩,none]∧n≤bl (val la)∧out.length = la.length∧Small out∧val out = 2 ^ n * Q∧val la / 2 ^ n = Q * val lb + r∧r < val lb) ⟨bl (val la),List.replicate la.length 0,0,0,rfl,rfl,rfl,Nat.le_refl _,by simp,Small.replicate _,by simp [val_replicate],by rw [Nat.div_eq_of_lt (bl_lt _)];simp,hb0p⟩ ⟨rfl,rfl,rfl,by rw [limbs_zero];rfl,rfl,trivial⟩ ?_
   rintro m Γ H ⟨n,out,Q,r,rfl,rfl,rfl,hnb,hol,hos,hoq,hqr,hrb⟩
   refine Tc_seq (c_a (a_ FT 1 rfl ?_))
   by_cases hp:0 < n
   ·refine t_q rfl (Jq_geq rfl rfl rfl (b:=true) (dT (by omega))) (c_n (Tc_t rfl (c_b (Tc_seq (Tc_block (Tc_seq ?_))))))
    obtain ⟨n,rfl⟩:∃ n0,n = n0 + 1:=⟨n - 1,by omega⟩
    have hn1:(((n + 1:Nat):Int) - 1) = ((n:Nat):Int):=by omega
    rw [hn1]
    have hni:n / 32 < la.length:=bits_index (val_lt hsa) (by omega)
    have hrl:=limbs_length_mono (Nat.le_of_lt hrb);have hlbv:=limbs_val_length hsb
    have hbit:=bit_of hsa hni
    have hlan:=hsa.get (n / 32) hni
    have hstep:=div_bit_step hqr
    have hsb1:=set_bit hos (by omega) hoq
    refine Tc_region (a_ FT 1 rfl (t_f rfl (Je_call rfl fn149 rfl (rshl_w (limbs r) 1 (small_limbs _) (by decide) (by omega) r (val_limbs _))) (a_ FT 1 rfl (cna (a_ FT 3 rfl (t_q rfl (Jq_quo rfl rfl rfl (by decide) (r:=((n / 32:Nat):Int)) (w64 (tdivN n 32) (by omega) (by omega))) (t_q rfl (Jq_index1 rfl rfl rfl un32 ty157 (by omega) (by omega) (get_u32 hni)) ?_)))))))
    refine t_q rfl (Jq_load_ref rfl rfl ty157) (a_ FT 1 rfl (t_q rfl (Jq_rem rfl rfl rfl (by decide) (r:=((n % 32:Nat):Int)) (tmodN n 32)) (t_q rfl (Jq_shr rfl rfl rfl (by omega) (r:=((la[n / 32]'hni / 2 ^ (n % 32):Nat):Int)) (shr_nat _ (n % 32) (by simp only [IntKind.bits];omega))) ?_)))
    refine t_q rfl (Jq_and rfl rfl rfl (r:=((val la / 2 ^ n % 2:Nat):Int)) ((by rw [← hbit];exact and_one (Nat.lt_of_le_of_lt (Nat.div_le_self _ _) hlan)))) (t_f rfl (Je_buildSlice rfl un32 ty157 tz157 rfl (by decide) (by decide) rfl (by decide) rfl) ?_)
    have hr2:r * 2 ^ 1 + val la / 2 ^ n % 2 < 2 * val lb:=by omega
    have hl2:(limbs (r * 2 ^ 1)).length≤(limbs (val lb)).length + 1:=by
     rw [limbs_length_le,Nat.pow_succ]
     have:=(limbs_length_le (n:=val lb) (k:=(limbs (val lb)).length)).1 (Nat.le_refl _)
     omega
    have hl3:(limbs (r * 2 ^ 1 + val la / 2 ^ n % 2)).length≤9000000000000:=by
     refine Nat.le_trans (limbs_length_le (k:=(limbs (val lb)).length + 1).2 ?_) (by omega)
     rw [Nat.pow_succ]
     have:=(limbs_length_le (n:=val lb) (k:=(limbs (val lb)).length)).1 (Nat.le_refl _)
     omega
    refine t_f rfl (Je_call rfl fn140 rfl (radd_w (limbs (r * 2 ^ 1)) [val la / 2 ^ n % 2] (small_limbs _) (Small.cons (by omega) Small.nil) (by omega) (by simp) (r * 2 ^ 1) (val la / 2 ^ n % 2) (val_limbs _) (by simp))) (a_ FT 1 rfl (cna (a_ FT 2 rfl ?_)))
    refine t_f rfl (Je_call rfl fn146 rfl (rcmp_w (limbs (r * 2 ^ 1 + val la / 2 ^ n % 2)) lb (small_limbs _) hsb (r * 2 ^ 1 + val la / 2 ^ n % 2) (val lb) (val_limbs _) rfl)) ?_
    by_cases hge:val lb≤r * 2 ^ 1 + val la / 2 ^ n % 2
    ·refine t_q rfl (Jq_geq rfl rfl rfl (b:=true) (dT (by unfold cmpN;rw [if_neg (by omega)];split <;> decide))) (c_n (Tc_t rfl (c_a (a_ FT 2 rfl (t_f rfl (Je_call rfl fn141 rfl (rsub_w (limbs (r * 2 ^ 1 + val la / 2 ^ n % 2)) lb (small_limbs _) hsb hl3 (r * 2 ^ 1 + val la / 2 ^ n % 2) (val lb) (val_limbs _) rfl hge)) (a_ FT 4 rfl (c_n ?_)))))))
     refine Tc_drawK 0 [none,none,none,none,none,none,none,none,none,none,some 0] [0] follows (by kernel_rfl) (d_ FT 2 rfl (dq_ rfl rfl (Jq_quo rfl rfl rfl (by decide) (r:=((n / 32:Nat):Int)) (w64 (tdivN n 32) (by omega) (by omega))) ?_))
     refine DK_qp [] (JO_q rfl rfl (Jq_index_own rfl rfl rfl rfl (by decide) (by simp [hol]) (by decide) un31 ty157 (by omega) (by omega) (off:=n / 32) (by omega))) (by kernel_rfl) (DK_qp [] (JO_q rfl rfl (Jq_load rfl rfl rfl (by decide) ty157 (get_own (by omega)))) (by kernel_rfl) (d_ FT 1 rfl (dq_ rfl rfl (Jq_rem rfl rfl rfl (by decide) (r:=((n % 32:Nat):Int)) (tmodN n 32)) ?_)))
     refine dq_ rfl rfl (Jq_shl rfl rfl rfl (by omega) (r:=((2 ^ (n % 32):Nat):Int)) ((by rw [show min (((n % 32:Nat):Int)).toNat IntKind.u32.bits = n % 32 from by simp only [IntKind.bits];omega,Int.one_mul,show ((2:Int) ^ (n % 32)) = ((2 ^ (n % 32):Nat):Int) from by rw [Int.natCast_pow];rfl];exact wrap_nat_u32 (by have:(2:Nat) ^ (n % 32)≤2 ^ 31:=Nat.pow_le_pow_right (by decide) (by omega);omega)))) ?_
     refine dq_ rfl rfl (Jq_or rfl rfl rfl (r:=((out[n / 32]'(by omega) + 2 ^ (n % 32):Nat):Int)) (or32 (n % 32 + 1) hsb1.1 (Nat.pow_lt_pow_right (by decide) (Nat.lt_succ_self _)) hsb1.2.1)) (DK_qp [] (JO_q rfl rfl (Jq_index_own rfl rfl rfl rfl (by decide) (by simp [hol]) (by decide) un31 ty157 (by omega) (by omega) (off:=n / 32) (by omega))) (by kernel_rfl) ?_)
     refine DK_s 0 rfl rfl rfl (Jd_store (ls:=((out.set (n / 32) (out[n / 32]'(by omega) + 2 ^ (n % 32))).map u32L)) rfl rfl rfl rfl ty157 rfl (by decide) (by simp;omega) (splice_u32 (by omega))) (DK_nil (At_block (At_then (Tc_region (a_ FT 1 rfl (t_q rfl (Jq_sub rfl rfl rfl (r:=((n:Nat):Int) - 1) (w64 (by omega) (by omega) (by omega))) (a_ FT 1 rfl (Tl_end ?_))))))))
     exact At_next (m':=n) (by omega) ⟨n,_,2 * Q + 1,_,rfl,rfl,rfl,by omega,by simp [hol],hos.set _ _ hsb1.2.1,hsb1.2.2,by rw [hstep,Nat.add_mul,Nat.one_mul];omega,by omega⟩ ⟨rfl,rfl,rfl,rfl,rfl,trivial⟩
    ·refine t_q rfl (Jq_geq rfl rfl rfl (b:=false) (dF (by rw [cmpN_lt (by omega)];decide))) (c_n (Tc_f rfl (Tc_skipA (At_block (At_then (Tc_region (a_ FT 1 rfl (t_q rfl (Jq_sub rfl rfl rfl (r:=((n:Nat):Int) - 1) (w64 (by omega) (by omega) (by omega))) (a_ FT 1 rfl ?_)))))))))
     refine Tl_end ?_
     exact At_next (m':=n) (by omega) ⟨n,_,2 * Q,_,rfl,rfl,rfl,by omega,hol,hos,by rw [hoq,Nat.pow_succ];grind,by rw [hstep];omega,by omega⟩ ⟨rfl,rfl,rfl,rfl,rfl,trivial⟩
   ·refine t_q rfl (Jq_geq rfl rfl rfl (b:=false) (dF (by omega))) (c_n (Tc_f rfl (Tc_exitA (At_then_exit (At_then_exit (At_block_exit (At_then (Tc_seq ?_))))))))
    have hn0:n = 0:=by omega
    subst hn0
    rw [Nat.pow_zero,Nat.div_one] at hqr
    rw [Nat.pow_zero,Nat.one_mul] at hoq
    subst hoq
    have hdm:val la / val lb = val out∧val la % val lb = r:=by
     rw [hqr,Nat.mul_comm]
     exact ⟨by rw [Nat.mul_add_div hb0p,Nat.div_eq_of_lt hrb,Nat.add_zero],by rw [Nat.mul_add_mod,Nat.mod_eq_of_lt hrb]⟩
    refine Tc_region (a_ FT 1 rfl (Tl_share_nat 86 (out) rfl rfl rfl rfl (by omega) (t_f rfl (Je_call rfl fn139 rfl (rmake_spec out hos (by omega))) (a_ FT 4 rfl (c_n ?_)))))
    exact Tc_ret3 hq_ rfl rfl rfl rfl (by rw [hdm.1,hdm.2])
  ·refine Tc_region (a_ FT 1 rfl (t_f rfl (Je_call rfl fn172 rfl (ruint_ge lb hsb (by omega) (by omega))) (a_ FT 3 rfl (Tl_is false (rfl) (a_ FT 2 rfl (cns (c_a (a_ FT 5 rfl (c_n ?_)))))))))
   refine Tc_f rfl (c_b (Tc_seq (c_a (a_ FT 4 rfl (c_n (Tc_f rfl (c_b (c_a (a_ FT 1 rfl ?_)))))))))
   refine t_q rfl (Jq_len rfl rfl un32) ?_
   obtain ⟨ti12,hi12,hz12,hs12,hb12⟩:=in157
   refine t_f rfl (Je_make (i:=0) (n:=la.length) (ls:=((List.replicate (la.length) 0).map u32L)) rfl rfl rfl un31 hi12 hz12 hs12 (by decide) rfl (by decide) rfl (by rw [hb12];omega) (by simp only [maxLen];omega) (zc_u32 _) rfl) (Tl_build0 rfl rfl rfl rfl un32 ty157 rfl (a_ FT 2 rfl (cns (Tc_seq ?_))))
   have hlbl:bl (val la)≤32 * la.length:=bl_le_of_lt (by rw [← pow32];exact val_lt hsa)
   have hb0p:0 < val lb:=Nat.pos_of_ne_zero hb0
   refine Tc_share_nat 12 ([]) rfl rfl rfl rfl rfl (Tc_region (a_ FT 1 rfl (t_f rfl (Je_call rfl fn173 rfl (rbits_spec la hsa (by omega))) (t_q rfl (Jq_sub rfl rfl rfl (r:=(bl (val la):Int) - 1) (w64 (by omega) (by omega) (by omega))) (a_ FT 1 rfl (c_n (Tc_block ?_)))))))
   refine Tc_loopR (fun m Γ H=>∃ (n:Nat) (out:List Nat) (Q:Nat) (r:Nat),n = m∧Γ = [(0,some (D.v (V.one (natL la)))),(1,some (D.v (V.one (natL lb)))),(11,some (D.own 0 la.length)),(12,some (D.v (V.one (natL (limbs r))))),(13,some (D.int ((n:Int) - 1)))]∧H = [some ⟨157,(out).map u32L,some 1,none⟩,none]∧n≤bl (val la)∧out.length = la.length∧Small out∧val out = 2 ^ n * Q∧val la / 2 ^ n = Q * val lb + r∧r < val lb) ⟨bl (val la),List.replicate la.length 0,0,0,rfl,rfl,rfl,Nat.le_refl _,by simp,Small.replicate _,by simp [val_replicate],by rw [Nat.div_eq_of_lt (bl_lt _)];simp,hb0p⟩ ⟨rfl,rfl,rfl,by rw [limbs_zero];rfl,rfl,trivial⟩ ?_
   rintro m Γ H ⟨n,out,Q,r,rfl,rfl,rfl,hnb,hol,hos,hoq,hqr,hrb⟩
   refine Tc_seq (c_a (a_ FT 1 rfl ?_))
   by_cases hp:0 < n
   ·refine t_q rfl (Jq_geq rfl rfl rfl (b:=true) (dT (by omega))) (c_n (Tc_t rfl (c_b (Tc_seq (Tc_block (Tc_seq ?_))))))
    obtain ⟨n,rfl⟩:∃ n0,n = n0 + 1:=⟨n - 1,by omega⟩
    have hn1:(((n + 1:Nat):Int) - 1) = ((n:Nat):Int):=by omega
    rw [hn1]
    have hni:n / 32 < la.length:=bits_index (val_lt hsa) (by omega)
    have hrl:=limbs_length_mono (Nat.le_of_lt hrb);have hlbv:=limbs_val_length hsb
    have hbit:=bit_of hsa hni
    have hlan:=hsa.get (n / 32) hni
    have hstep:=div_bit_step hqr
    have hsb1:=set_bit hos (by omega) hoq
    refine Tc_region (a_ FT 1 rfl (t_f rfl (Je_call rfl fn149 rfl (rshl_w (limbs r) 1 (small_limbs _) (by decide) (by omega) r (val_limbs _))) (a_ FT 1 rfl (cna (a_ FT 3 rfl (t_q rfl (Jq_quo rfl rfl rfl (by decide) (r:=((n / 32:Nat):Int)) (w64 (tdivN n 32) (by omega) (by omega))) (t_q rfl (Jq_index1 rfl rfl rfl un32 ty157 (by omega) (by omega) (get_u32 hni)) ?_)))))))
    refine t_q rfl (Jq_load_ref rfl rfl ty157) (a_ FT 1 rfl (t_q rfl (Jq_rem rfl rfl rfl (by decide) (r:=((n % 32:Nat):Int)) (tmodN n 32)) (t_q rfl (Jq_shr rfl rfl rfl (by omega) (r:=((la[n / 32]'hni / 2 ^ (n % 32):Nat):Int)) (shr_nat _ (n % 32) (by simp only [IntKind.bits];omega))) ?_)))
    refine t_q rfl (Jq_and rfl rfl rfl (r:=((val la / 2 ^ n % 2:Nat):Int)) ((by rw [← hbit];exact and_one (Nat.lt_of_le_of_lt (Nat.div_le_self _ _) hlan)))) (t_f rfl (Je_buildSlice rfl un32 ty157 tz157 rfl (by decide) (by decide) rfl (by decide) rfl) ?_)
    have hr2:r * 2 ^ 1 + val la / 2 ^ n % 2 < 2 * val lb:=by omega
    have hl2:(limbs (r * 2 ^ 1)).length≤(limbs (val lb)).length + 1:=by
     rw [limbs_length_le,Nat.pow_succ]
     have:=(limbs_length_le (n:=val lb) (k:=(limbs (val lb)).length)).1 (Nat.le_refl _)
     omega
    have hl3:(limbs (r * 2 ^ 1 + val la / 2 ^ n % 2)).length≤9000000000000:=by
     refine Nat.le_trans (limbs_length_le (k:=(limbs (val lb)).length + 1).2 ?_) (by omega)
     rw [Nat.pow_succ]
     have:=(limbs_length_le (n:=val lb) (k:=(limbs (val lb)).length)).1 (Nat.le_refl _)
     omega
    refine t_f rfl (Je_call rfl fn140 rfl (radd_w (limbs (r * 2 ^ 1)) [val la / 2 ^ n % 2] (small_limbs _) (Small.cons (by omega) Small.nil) (by omega) (by simp) (r * 2 ^ 1) (val la / 2 ^ n % 2) (val_limbs _) (by simp))) (a_ FT 1 rfl (cna (a_ FT 2 rfl ?_)))
    refine t_f rfl (Je_call rfl fn146 rfl (rcmp_w (limbs (r * 2 ^ 1 + val la / 2 ^ n % 2)) lb (small_limbs _) hsb (r * 2 ^ 1 + val la / 2 ^ n % 2) (val lb) (val_limbs _) rfl)) ?_
    by_cases hge:val lb≤r * 2 ^ 1 + val la / 2 ^ n % 2
    ·refine t_q rfl (Jq_geq rfl rfl rfl (b:=true) (dT (by unfold cmpN;rw [if_neg (by omega)];split <;> decide))) (c_n (Tc_t rfl (c_a (a_ FT 2 rfl (t_f rfl (Je_call rfl fn141 rfl (rsub_w (limbs (r * 2 ^ 1 + val la / 2 ^ n % 2)) lb (small_limbs _) hsb hl3 (r * 2 ^ 1 + val la / 2 ^ n % 2) (val lb) (val_limbs _) rfl hge)) (a_ FT 4 rfl (c_n ?_)))))))
     refine Tc_drawK 0 [none,none,none,none,none,none,none,none,none,none,some 0] [0] follows (by kernel_rfl) (d_ FT 2 rfl (dq_ rfl rfl (Jq_quo rfl rfl rfl (by decide) (r:=((n / 32:Nat):Int)) (w64 (tdivN n 32) (by omega) (by omega))) ?_))
     refine DK_qp [] (JO_q rfl rfl (Jq_index_own rfl rfl rfl rfl (by decide) (by simp [hol]) (by decide) un31 ty157 (by omega) (by omega) (off:=n / 32) (by omega))) (by kernel_rfl) (DK_qp [] (JO_q rfl rfl (Jq_load rfl rfl rfl (by decide) ty157 (get_own (by omega)))) (by kernel_rfl) (d_ FT 1 rfl (dq_ rfl rfl (Jq_rem rfl rfl rfl (by decide) (r:=((n % 32:Nat):Int)) (tmodN n 32)) ?_)))
     refine dq_ rfl rfl (Jq_shl rfl rfl rfl (by omega) (r:=((2 ^ (n % 32):Nat):Int)) ((by rw [show min (((n % 32:Nat):Int)).toNat IntKind.u32.bits = n % 32 from by simp only [IntKind.bits];omega,Int.one_mul,show ((2:Int) ^ (n % 32)) = ((2 ^ (n % 32):Nat):Int) from by rw [Int.natCast_pow];rfl];exact wrap_nat_u32 (by have:(2:Nat) ^ (n % 32)≤2 ^ 31:=Nat.pow_le_pow_right (by decide) (by omega);omega)))) ?_
     refine dq_ rfl rfl (Jq_or rfl rfl rfl (r:=((out[n / 32]'(by omega) + 2 ^ (n % 32):Nat):Int)) (or32 (n % 32 + 1) hsb1.1 (Nat.pow_lt_pow_right (by decide) (Nat.lt_succ_self _)) hsb1.2.1)) (DK_qp [] (JO_q rfl rfl (Jq_index_own rfl rfl rfl rfl (by decide) (by simp [hol]) (by decide) un31 ty157 (by omega) (by omega) (off:=n / 32) (by omega))) (by kernel_rfl) ?_)
     refine DK_s 0 rfl rfl rfl (Jd_store (ls:=((out.set (n / 32) (out[n / 32]'(by omega) + 2 ^ (n % 32))).map u32L)) rfl rfl rfl rfl ty157 rfl (by decide) (by simp;omega) (splice_u32 (by omega))) (DK_nil (At_block (At_then (Tc_region (a_ FT 1 rfl (t_q rfl (Jq_sub rfl rfl rfl (r:=((n:Nat):Int) - 1) (w64 (by omega) (by omega) (by omega))) (a_ FT 1 rfl (Tl_end ?_))))))))
     exact At_next (m':=n) (by omega) ⟨n,_,2 * Q + 1,_,rfl,rfl,rfl,by omega,by simp [hol],hos.set _ _ hsb1.2.1,hsb1.2.2,by rw [hstep,Nat.add_mul,Nat.one_mul];omega,by omega⟩ ⟨rfl,rfl,rfl,rfl,rfl,trivial⟩
    ·refine t_q rfl (Jq_geq rfl rfl rfl (b:=false) (dF (by rw [cmpN_lt (by omega)];decide))) (c_n (Tc_f rfl (Tc_skipA (At_block (At_then (Tc_region (a_ FT 1 rfl (t_q rfl (Jq_sub rfl rfl rfl (r:=((n:Nat):Int) - 1) (w64 (by omega) (by omega) (by omega))) (a_ FT 1 rfl ?_)))))))))
     refine Tl_end ?_
     exact At_next (m':=n) (by omega) ⟨n,_,2 * Q,_,rfl,rfl,rfl,by omega,hol,hos,by rw [hoq,Nat.pow_succ];grind,by rw [hstep];omega,by omega⟩ ⟨rfl,rfl,rfl,rfl,rfl,trivial⟩
   ·refine t_q rfl (Jq_geq rfl rfl rfl (b:=false) (dF (by omega))) (c_n (Tc_f rfl (Tc_exitA (At_then_exit (At_then_exit (At_block_exit (At_then (Tc_seq ?_))))))))
    have hn0:n = 0:=by omega
    subst hn0
    rw [Nat.pow_zero,Nat.div_one] at hqr
    rw [Nat.pow_zero,Nat.one_mul] at hoq
    subst hoq
    have hdm:val la / val lb = val out∧val la % val lb = r:=by
     rw [hqr,Nat.mul_comm]
     exact ⟨by rw [Nat.mul_add_div hb0p,Nat.div_eq_of_lt hrb,Nat.add_zero],by rw [Nat.mul_add_mod,Nat.mod_eq_of_lt hrb]⟩
    refine Tc_region (a_ FT 1 rfl (Tl_share_nat 86 (out) rfl rfl rfl rfl (by omega) (t_f rfl (Je_call rfl fn139 rfl (rmake_spec out hos (by omega))) (a_ FT 4 rfl (c_n ?_)))))
    exact Tc_ret3 hq_ rfl rfl rfl rfl (by rw [hdm.1,hdm.2])
end Go.Proofs.YtjdbopkbfkgpdaaGreatDoor
