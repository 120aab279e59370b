/- Parts of the proof, 6: the texts WkC, WkD, WkE, WkF, WkG, as far as they are used. -/
import Derived.Test.YtmpkandbccallaaGreatDoorBo05
set_option linter.unusedSimpArgs false
set_option linter.unusedVariables false
namespace Go.Proofs.YtmpkandbccallaaGreatDoor
open Go Go.RowKit Rc
set_option maxRecDepth 10000 in
theorem valid_spec (l:List Nat):Ctr Tryz.prog 145 [V.one (natL l)] (R.one (V.one (Leaf.val (.bool (decide (∀ h:l≠[],l.getLast h≠0)))))):=by
 refine bd_ Tryz.func145 Tryz.ntmps145 rfl (fun w0 A0=>?_)
 refine zc 1 rfl ?_
 refine Tc_len (s:=0) rfl (fun hm=>?_)
 refine zc 7 rfl (tq_ rfl (jln rfl) ?_)
 by_cases hz:l.length = 0
 ·refine tq_ rfl (eqT rfl) (zl 12 rfl ?_)
  exact r1_ hq_ rfl (by rw [decide_eq_true];intro h;exact absurd (List.eq_nil_of_length_eq_zero hz) h)
 ·refine tq_ rfl (eqF rfl) (zl 3 rfl (tq_ rfl (jln rfl) (tq_ rfl (jsb (l.length - 1) rfl) (tq_ rfl (ji1 rfl (get_u32i (l.length - 1) (by omega) rfl)) (tq_ rfl (jli rfl) ?_)))))
  by_cases hy:l[l.length - 1]'(by omega)≠0
  ·refine tq_ rfl (neT rfl) (zl 4 rfl ?_)
   exact r1_ hq_ rfl (by rw [decide_eq_true];intro h;rw [List.getLast_eq_getElem];exact hy)
  ·refine tq_ rfl (neF rfl) (zl 4 rfl ?_)
   exact r1_ hq_ rfl (by rw [decide_eq_false];intro h;exact h (by intro e;rw [e] at hz;simp at hz) (by rw [List.getLast_eq_getElem];omega))
set_option maxRecDepth 10000 in
theorem uint_spec (x:Nat):Ctr Tryz.prog 193 [V.one (natL (limbs x))] (R.tup [V.one (Leaf.val (.int .u64 (if x < 18446744073709551616 then x else 0:Nat))),V.one (Leaf.val (.bool (decide (x < 18446744073709551616))))]):=by
 refine bd_ Tryz.func193 Tryz.ntmps193 rfl (fun w0 A0=>?_)
 refine zc 9 rfl (tc_ fn161 rfl (trim_spec (limbs x) (small_limbs x)) (zl 5 rfl ?_))
 rw [val_limbs]
 have hx:=val_limbs x;have hsl:=small_limbs x
 have hlen:(limbs x).length≤2↔x < 4294967296 ^ 2:=limbs_length_le
 generalize limbs x = l at *
 refine zc 2 rfl (tq_ rfl (jln rfl) ?_)
 by_cases hl:2 < l.length
 ·refine tq_ rfl (gtT rfl) (zl 9 rfl ?_)
  exact r2_ hq_ rfl (by rw [if_neg (by omega),decide_eq_false (by omega)] <;> rfl)
 ·refine tq_ rfl (gtF rfl) (zl 14 rfl (tq_ rfl (jln rfl) (zl 4 rfl ?_)))
  refine lpR_ (fun m Γ H=>∃ (i:Nat),l.length - i = m∧Γ = [(0,some (D.v (V.one (natL l)))),(4,some (D.val (.int .u64 ((val (l.take i):Nat):Int)))),(12,some (D.v (V.one (natL l)))),(13,some (D.int ((l.length:Nat):Int))),(14,some (D.int ((i:Nat):Int)))]∧H = []∧i≤l.length) ⟨0,rfl,rfl,rfl,Nat.zero_le _⟩ rfl ?_
  rintro m Γ H ⟨i,rfl,rfl,rfl,h⟩
  refine zc 2 rfl ?_
  by_cases hp:i < l.length
  ·refine tq_ rfl (ltT rfl) (zl 11 rfl (tq_ rfl (ji1 rfl (get_u32 (by omega))) (tq_ rfl (jli rfl) (zl 4 rfl ?_))))
   have hd:=hsl.get i hp
   have hv:=val_take_succ l i hp
   have hlt:=val_lt (hsl.take (i + 1))
   rw [List.length_take,Nat.min_eq_left (by omega),pow32] at hlt
   have hlt0:=val_lt (hsl.take i)
   rw [List.length_take,Nat.min_eq_left (by omega),pow32] at hlt0
   have h64:(2:Nat) ^ (32 * (i + 1))≤18446744073709551616:=by
    have:i = 0 ∨ i = 1:=by omega
    rcases this with e | e <;> subst e <;> decide
   rw [pow32,Nat.mul_comm] at hv
   refine zc 3 rfl (tq_ rfl (jc6 (l[i]'(by omega)) rfl) (zl 1 rfl (tq_ rfl (Jq_mul rfl rfl rfl (r:=((32 * i:Nat):Int)) (w64 (by omega) (by omega) (by omega))) (tq_ rfl (Jq_shl rfl rfl rfl (by omega) (r:=((l[i]'(by omega) * 2 ^ (32 * i):Nat):Int)) (shl64 _ (32 * i) (minbits64 (by omega)) (by omega))) ?_))))
   refine tq_ rfl (Jq_or rfl rfl rfl (r:=((val (l.take (i + 1)):Nat):Int)) (by rw [hv];exact or64' (32 * i) (Nat.mul_mod_left _ _) hlt0 (by omega))) (zl 5 rfl (tq_ rfl (jad (i + 1) rfl) (zl 2 rfl ?_)))
   exact nx_ ⟨i + 1,rfl,rfl,rfl,by omega⟩ rfl
  ·refine tq_ rfl (ltF rfl) (zl 16 rfl ?_)
   exact r2_ hq_ rfl (by rw [val_take_all l i (by omega),hx,if_pos (by omega),decide_eq_true (by omega)])
set_option maxRecDepth 10000 in
theorem add_spec (la lb:List Nat) (hsa:Small la) (hsb:Small lb) (hla0:la.length≤10000000000000) (hlb0:lb.length≤10000000000000):Ctr Tryz.prog 155 [V.one (natL la),V.one (natL lb)] (R.one (V.one (natL (limbs (val la + val lb))))):=by
 refine bd_ Tryz.func155 Tryz.ntmps155 rfl (fun w0 A0=>?_)
 refine zc 8 rfl (tc_ fn161 rfl (trim_spec la hsa) (zl 1 rfl (tc_ fn161 rfl (trim_spec lb hsb) (zl 6 rfl ?_))))
 have hla:=limbs_val_length hsa;have hlb:=limbs_val_length hsb
 have va:=val_limbs (val la);have vb:=val_limbs (val lb);have sa:=small_limbs (val la);have sb:=small_limbs (val lb)
 generalize limbs (val la) = a at *
 generalize limbs (val lb) = b at *
 refine zc 2 rfl (tq_ rfl (jln rfl) (zl 1 rfl (tq_ rfl (jln rfl) ?_)))
 by_cases hab:a.length < b.length
 ·refine tq_ rfl (ltT rfl) (zl 13 rfl (tq_ rfl (jln rfl) (tq_ rfl (jad (b.length + 1) rfl) ?_)))
  obtain ⟨ti2,hi2,hz2,hs2,hb2⟩:=in164
  refine te_ rfl (Je_make (i:=0) (n:=b.length + 1) (ls:=((List.replicate (b.length + 1) 0).map u32L)) rfl rfl rfl un25 hi2 hz2 hs2 (by decide) rfl (by decide) rfl (by rw [hb2];omega) (by simp only [maxLen];omega) (zc_u32 _) rfl) (zl 12 rfl (tq_ rfl (jln rfl) (zl 4 rfl ?_)))
  refine lpR_ (fun m Γ H=>∃ (k:Nat) (out:List Nat) (c:Nat),b.length - k = m∧Γ = [(0,some (D.v (V.one (natL b)))),(1,some (D.v (V.one (natL a)))),(5,some (D.own 0 (b.length + 1))),(6,some (D.val (.int .u64 ((c:Nat):Int)))),(24,some (D.v (V.one (natL b)))),(25,some (D.int ((b.length:Nat):Int))),(26,some (D.int ((k:Nat):Int)))]∧H = [some ⟨164,out.map u32L,some 1,none⟩]∧k≤b.length∧out.length = b.length + 1∧Small out∧c≤1∧val (out.take k) + c * 4294967296 ^ k = val (b.take k) + val (a.take k)) ⟨0,List.replicate (b.length + 1) 0,0,rfl,rfl,rfl,Nat.zero_le _,by simp,Small.replicate _,by omega,rfl⟩ rfl ?_
  rintro m Γ H ⟨k,out,c,rfl,rfl,rfl,hkle,hol,hos,hc,heq⟩
  refine zc 2 rfl ?_
  by_cases hk:k < b.length
  ·refine tq_ rfl (ltT rfl) (zl 9 rfl ?_)
   have hak:=sb.get k hk;have hbk:=sa.getD k
   refine zc 2 rfl (tq_ rfl (ji1 rfl (get_u32 (by omega))) (tq_ rfl (jli rfl) (zl 8 rfl (tq_ rfl (jc6 (b[k]'hk) rfl) (tq_ rfl (Jq_add rfl rfl rfl (r:=((c + b[k]'hk:Nat):Int)) (wu64 (by omega))) (zl 8 rfl (tq_ rfl (jln rfl) ?_)))))))
   by_cases hkb:k < a.length
   ·refine tq_ rfl (ltT rfl) (zl 3 rfl ?_)
    have hbk2:=sa.get k hkb
    refine zc 4 rfl (tq_ rfl (ji1 rfl (get_u32 (by omega))) (tq_ rfl (jli rfl) (tq_ rfl (jc6 (a[k]'hkb) rfl) (tq_ rfl (Jq_add rfl rfl rfl (r:=((c + b[k]'hk + a[k]'hkb:Nat):Int)) (wu64 (by omega))) (zl 8 rfl (tq_ rfl (jc3 ((c + b[k] + a[k]) % 4294967296) rfl) ?_))))))
    refine tq_ rfl (Jq_index_own rfl rfl rfl rfl (by decide) (by simp [hol]) (by decide) un25 ty164 (by omega) (by omega) (off:=k) (by omega)) (te_ rfl (Je_store (ls:=((out.set k ((c + b[k] + a[k]) % 4294967296)).map u32L)) rfl rfl rfl rfl ty164 rfl (by decide) (by simp;omega) (splice_u32 (by omega))) (zl 4 rfl ?_))
    refine tq_ rfl (Jq_shr rfl rfl rfl (by decide) (r:=(((c + b[k] + a[k]) / 4294967296:Nat):Int)) (shr_nat _ 32 rfl)) (zl 5 rfl (tq_ rfl (jad (k + 1) rfl) (zl 2 rfl ?_)))
    exact nx_ ⟨k + 1,_,(c + b[k] + a[k]) / 4294967296,rfl,rfl,rfl,by omega,by simp [hol],hos.set _ _ (by omega),by omega,add_step hk (by omega) heq (by rw [getD_of hkb])⟩ rfl
   ·refine tq_ rfl (ltF rfl) (zl 10 rfl (tq_ rfl (jc3 ((c + b[k]) % 4294967296) rfl) (tq_ rfl (Jq_index_own rfl rfl rfl rfl (by decide) (by simp [hol]) (by decide) un25 ty164 (by omega) (by omega) (off:=k) (by omega)) (te_ rfl (Je_store (ls:=((out.set k ((c + b[k]) % 4294967296)).map u32L)) rfl rfl rfl rfl ty164 rfl (by decide) (by simp;omega) (splice_u32 (by omega))) (zl 4 rfl ?_)))))
    refine tq_ rfl (Jq_shr rfl rfl rfl (by decide) (r:=(((c + b[k]) / 4294967296:Nat):Int)) (shr_nat _ 32 rfl)) (zl 5 rfl (tq_ rfl (jad (k + 1) rfl) (zl 2 rfl ?_)))
    exact nx_ ⟨k + 1,_,(c + b[k]) / 4294967296,rfl,rfl,rfl,by omega,by simp [hol],hos.set _ _ (by omega),by omega,add_step hk (by omega) heq (by rw [getD_out (by omega),Nat.add_zero])⟩ rfl
  ·refine tq_ rfl (ltF rfl) (zl 13 rfl (tq_ rfl (jln rfl) (zl 1 rfl (tq_ rfl (jc3 c rfl) (tq_ rfl (Jq_index_own rfl rfl rfl rfl (by decide) (by simp [hol]) (by decide) un25 ty164 (by omega) (by omega) (off:=b.length) (by omega)) (te_ rfl (Je_store (ls:=((out.set b.length c).map u32L)) rfl rfl rfl rfl ty164 rfl (by decide) (by simp;omega) (splice_u32 (by omega))) (zl 5 rfl ?_)))))))
   refine Tl_share_nat 60 (out.set b.length c) rfl rfl rfl rfl (by simp [hol]) (tc_ fn161 rfl (trim_spec (out.set b.length c) (hos.set _ _ (by omega))) (zl 3 rfl ?_))
   have hke:k = b.length:=by omega
   subst hke
   have hfin:=val_set_take out b.length c (by omega)
   rw [val_take_all _ _ (by simp [hol])] at hfin
   rw [val_take_all b _ (Nat.le_refl _),val_take_all a _ (by omega)] at heq
   exact r1_ hq_ rfl (by rw [show val (out.set b.length c) = val la + val lb from by rw [hfin,← va,← vb,Nat.mul_comm];omega])
 ·refine tq_ rfl (ltF rfl) (zl 8 rfl (tq_ rfl (jln rfl) (tq_ rfl (jad (a.length + 1) rfl) ?_)))
  obtain ⟨ti6,hi6,hz6,hs6,hb6⟩:=in164
  refine te_ rfl (Je_make (i:=0) (n:=a.length + 1) (ls:=((List.replicate (a.length + 1) 0).map u32L)) rfl rfl rfl un25 hi6 hz6 hs6 (by decide) rfl (by decide) rfl (by rw [hb6];omega) (by simp only [maxLen];omega) (zc_u32 _) rfl) (zl 12 rfl (tq_ rfl (jln rfl) (zl 4 rfl ?_)))
  refine lpR_ (fun m Γ H=>∃ (k:Nat) (out:List Nat) (c:Nat),a.length - k = m∧Γ = [(0,some (D.v (V.one (natL a)))),(1,some (D.v (V.one (natL b)))),(5,some (D.own 0 (a.length + 1))),(6,some (D.val (.int .u64 ((c:Nat):Int)))),(24,some (D.v (V.one (natL a)))),(25,some (D.int ((a.length:Nat):Int))),(26,some (D.int ((k:Nat):Int)))]∧H = [some ⟨164,out.map u32L,some 1,none⟩]∧k≤a.length∧out.length = a.length + 1∧Small out∧c≤1∧val (out.take k) + c * 4294967296 ^ k = val (a.take k) + val (b.take k)) ⟨0,List.replicate (a.length + 1) 0,0,rfl,rfl,rfl,Nat.zero_le _,by simp,Small.replicate _,by omega,rfl⟩ rfl ?_
  rintro m Γ H ⟨k,out,c,rfl,rfl,rfl,hkle,hol,hos,hc,heq⟩
  refine zc 2 rfl ?_
  by_cases hk:k < a.length
  ·refine tq_ rfl (ltT rfl) (zl 9 rfl ?_)
   have hak:=sa.get k hk;have hbk:=sb.getD k
   refine zc 2 rfl (tq_ rfl (ji1 rfl (get_u32 (by omega))) (tq_ rfl (jli rfl) (zl 8 rfl (tq_ rfl (jc6 (a[k]'hk) rfl) (tq_ rfl (Jq_add rfl rfl rfl (r:=((c + a[k]'hk:Nat):Int)) (wu64 (by omega))) (zl 8 rfl (tq_ rfl (jln rfl) ?_)))))))
   by_cases hkb:k < b.length
   ·refine tq_ rfl (ltT rfl) (zl 3 rfl ?_)
    have hbk2:=sb.get k hkb
    refine zc 4 rfl (tq_ rfl (ji1 rfl (get_u32 (by omega))) (tq_ rfl (jli rfl) (tq_ rfl (jc6 (b[k]'hkb) rfl) (tq_ rfl (Jq_add rfl rfl rfl (r:=((c + a[k]'hk + b[k]'hkb:Nat):Int)) (wu64 (by omega))) (zl 8 rfl (tq_ rfl (jc3 ((c + a[k] + b[k]) % 4294967296) rfl) ?_))))))
    refine tq_ rfl (Jq_index_own rfl rfl rfl rfl (by decide) (by simp [hol]) (by decide) un25 ty164 (by omega) (by omega) (off:=k) (by omega)) (te_ rfl (Je_store (ls:=((out.set k ((c + a[k] + b[k]) % 4294967296)).map u32L)) rfl rfl rfl rfl ty164 rfl (by decide) (by simp;omega) (splice_u32 (by omega))) (zl 4 rfl ?_))
    refine tq_ rfl (Jq_shr rfl rfl rfl (by decide) (r:=(((c + a[k] + b[k]) / 4294967296:Nat):Int)) (shr_nat _ 32 rfl)) (zl 5 rfl (tq_ rfl (jad (k + 1) rfl) (zl 2 rfl ?_)))
    exact nx_ ⟨k + 1,_,(c + a[k] + b[k]) / 4294967296,rfl,rfl,rfl,by omega,by simp [hol],hos.set _ _ (by omega),by omega,add_step hk (by omega) heq (by rw [getD_of hkb])⟩ rfl
   ·refine tq_ rfl (ltF rfl) (zl 10 rfl (tq_ rfl (jc3 ((c + a[k]) % 4294967296) rfl) (tq_ rfl (Jq_index_own rfl rfl rfl rfl (by decide) (by simp [hol]) (by decide) un25 ty164 (by omega) (by omega) (off:=k) (by omega)) (te_ rfl (Je_store (ls:=((out.set k ((c + a[k]) % 4294967296)).map u32L)) rfl rfl rfl rfl ty164 rfl (by decide) (by simp;omega) (splice_u32 (by omega))) (zl 4 rfl ?_)))))
    refine tq_ rfl (Jq_shr rfl rfl rfl (by decide) (r:=(((c + a[k]) / 4294967296:Nat):Int)) (shr_nat _ 32 rfl)) (zl 5 rfl (tq_ rfl (jad (k + 1) rfl) (zl 2 rfl ?_)))
    exact nx_ ⟨k + 1,_,(c + a[k]) / 4294967296,rfl,rfl,rfl,by omega,by simp [hol],hos.set _ _ (by omega),by omega,add_step hk (by omega) heq (by rw [getD_out (by omega),Nat.add_zero])⟩ rfl
  ·refine tq_ rfl (ltF rfl) (zl 13 rfl (tq_ rfl (jln rfl) (zl 1 rfl (tq_ rfl (jc3 c rfl) (tq_ rfl (Jq_index_own rfl rfl rfl rfl (by decide) (by simp [hol]) (by decide) un25 ty164 (by omega) (by omega) (off:=a.length) (by omega)) (te_ rfl (Je_store (ls:=((out.set a.length c).map u32L)) rfl rfl rfl rfl ty164 rfl (by decide) (by simp;omega) (splice_u32 (by omega))) (zl 5 rfl ?_)))))))
   refine Tl_share_nat 60 (out.set a.length c) rfl rfl rfl rfl (by simp [hol]) (tc_ fn161 rfl (trim_spec (out.set a.length c) (hos.set _ _ (by omega))) (zl 3 rfl ?_))
   have hke:k = a.length:=by omega
   subst hke
   have hfin:=val_set_take out a.length c (by omega)
   rw [val_take_all _ _ (by simp [hol])] at hfin
   rw [val_take_all a _ (Nat.le_refl _),val_take_all b _ (by omega)] at heq
   exact r1_ hq_ rfl (by rw [show val (out.set a.length c) = val la + val lb from by rw [hfin,← va,← vb,Nat.mul_comm];omega])
set_option maxRecDepth 10000 in
theorem sub_spec (la lb:List Nat) (hsa:Small la) (hsb:Small lb) (hla0:la.length≤10000000000000) (hge:val lb≤val la):Ctr Tryz.prog 156 [V.one (natL la),V.one (natL lb)] (R.tup [V.one (natL (limbs (val la - val lb))),V.one (Leaf.val (.int .i64 0))]):=by
 refine bd_ Tryz.func156 Tryz.ntmps156 rfl (fun w0 A0=>?_)
 refine zc 9 rfl (tc_ fn161 rfl (trim_spec la hsa) (zl 1 rfl (tc_ fn161 rfl (trim_spec lb hsb) (zl 6 rfl ?_))))
 have hla:=limbs_val_length hsa;have hlb:=limbs_val_length hsb
 have va:=val_limbs (val la);have vb:=val_limbs (val lb);have sa:=small_limbs (val la);have sb:=small_limbs (val lb)
 have hlen:(limbs (val lb)).length≤(limbs (val la)).length:=limbs_length_mono hge
 have hcm:¬ cmpN (val (limbs (val la))) (val (limbs (val lb))) < 0:=by rw [va,vb];unfold cmpN;rw [if_neg (by omega)];split <;> decide
 generalize limbs (val la) = a at *
 generalize limbs (val lb) = b at *
 refine zc 3 rfl (tc_ fn146 rfl (cmp_spec _ _ sa sb) (tq_ rfl (ltF rfl hcm) (zl 8 rfl (tq_ rfl (jln rfl) ?_))))
 obtain ⟨ti1,hi1,hz1,hs1,hb1⟩:=in164
 refine te_ rfl (Je_make (i:=0) (n:=a.length) (ls:=((List.replicate (a.length) 0).map u32L)) rfl rfl rfl un25 hi1 hz1 hs1 (by decide) rfl (by decide) rfl (by rw [hb1];omega) (by simp only [maxLen];omega) (zc_u32 _) rfl) (zl 12 rfl (tq_ rfl (jln rfl) (zl 4 rfl ?_)))
 refine lpR_ (fun m Γ H=>∃ (k:Nat) (out:List Nat) (c:Nat),a.length - k = m∧Γ = [(0,some (D.v (V.one (natL a)))),(1,some (D.v (V.one (natL b)))),(6,some (D.own 0 a.length)),(7,some (D.val (.int .u64 ((c:Nat):Int)))),(22,some (D.v (V.one (natL a)))),(23,some (D.int ((a.length:Nat):Int))),(24,some (D.int ((k:Nat):Int)))]∧H = [some ⟨164,out.map u32L,some 1,none⟩]∧k≤a.length∧out.length = a.length∧Small out∧c≤1∧val (out.take k) + val (b.take k) = val (a.take k) + c * 4294967296 ^ k) ⟨0,List.replicate a.length 0,0,rfl,rfl,rfl,Nat.zero_le _,by simp,Small.replicate _,by omega,rfl⟩ rfl ?_
 rintro m Γ H ⟨k,out,c,rfl,rfl,rfl,hkle,hol,hos,hc,heq⟩
 refine zc 2 rfl ?_
 by_cases hk:k < a.length
 ·refine tq_ rfl (ltT rfl) (zl 9 rfl ?_)
  have hak:=sa.get k hk;have hbk:=sb.getD k
  refine zc 2 rfl (tq_ rfl (ji1 rfl (get_u32 (by omega))) (tq_ rfl (jli rfl) (zl 7 rfl (tq_ rfl (jc6 (a[k]'hk) rfl) (zl 1 rfl (tq_ rfl (Jq_sub rfl rfl rfl (r:=(((18446744073709551616 + a[k]'hk - c) % 18446744073709551616:Nat):Int)) (wu64 (by omega))) (zl 8 rfl (tq_ rfl (jln rfl) ?_))))))))
  by_cases hkb:k < b.length
  ·refine tq_ rfl (ltT rfl) (zl 3 rfl ?_)
   have hbk2:=sb.get k hkb
   refine zc 4 rfl (tq_ rfl (ji1 rfl (get_u32 (by omega))) (tq_ rfl (jli rfl) (tq_ rfl (jc6 (b[k]'hkb) rfl) (tq_ rfl (Jq_sub rfl rfl rfl (r:=(((18446744073709551616 + a[k]'hk - c - b[k]'hkb) % 18446744073709551616:Nat):Int)) (wu64 (by omega))) (zl 8 rfl (tq_ rfl (jc3 (((18446744073709551616 + a[k] - c - b[k]) % 18446744073709551616) % 4294967296) rfl) ?_))))))
   refine tq_ rfl (Jq_index_own rfl rfl rfl rfl (by decide) (by simp [hol]) (by decide) un25 ty164 (by omega) (by omega) (off:=k) (by omega)) (te_ rfl (Je_store (ls:=((out.set k (((18446744073709551616 + a[k] - c - b[k]) % 18446744073709551616) % 4294967296)).map u32L)) rfl rfl rfl rfl ty164 rfl (by decide) (by simp;omega) (splice_u32 (by omega))) (zl 4 rfl ?_))
   refine tq_ rfl (Jq_shr rfl rfl rfl (by decide) (r:=((((18446744073709551616 + a[k] - c - b[k]) % 18446744073709551616) / 9223372036854775808:Nat):Int)) (shr_nat _ 63 rfl)) (zl 5 rfl (tq_ rfl (jad (k + 1) rfl) (zl 2 rfl ?_)))
   exact nx_ ⟨k + 1,_,((18446744073709551616 + a[k] - c - b[k]) % 18446744073709551616) / 9223372036854775808,rfl,rfl,rfl,by omega,by simp [hol],hos.set _ _ (by omega),by omega,sub_step hk (by omega) sa sb hc heq (by rw [getD_of hkb])⟩ rfl
  ·refine tq_ rfl (ltF rfl) (zl 10 rfl (tq_ rfl (jc3 (((18446744073709551616 + a[k] - c) % 18446744073709551616) % 4294967296) rfl) (tq_ rfl (Jq_index_own rfl rfl rfl rfl (by decide) (by simp [hol]) (by decide) un25 ty164 (by omega) (by omega) (off:=k) (by omega)) ?_)))
   refine te_ rfl (Je_store (ls:=((out.set k (((18446744073709551616 + a[k] - c) % 18446744073709551616) % 4294967296)).map u32L)) rfl rfl rfl rfl ty164 rfl (by decide) (by simp;omega) (splice_u32 (by omega))) (zl 4 rfl (tq_ rfl (Jq_shr rfl rfl rfl (by decide) (r:=((((18446744073709551616 + a[k] - c) % 18446744073709551616) / 9223372036854775808:Nat):Int)) (shr_nat _ 63 rfl)) ?_))
   refine zl 5 rfl (tq_ rfl (jad (k + 1) rfl) (zl 2 rfl ?_))
   exact nx_ ⟨k + 1,_,((18446744073709551616 + a[k] - c) % 18446744073709551616) / 9223372036854775808,rfl,rfl,rfl,by omega,by simp [hol],hos.set _ _ (by omega),by omega,sub_step hk (by omega) sa sb hc heq (by rw [getD_out (by omega),Nat.sub_zero])⟩ rfl
 ·refine tq_ rfl (ltF rfl) (zl 12 rfl (Tl_share_nat 52 (out) rfl rfl rfl rfl (by omega) (tc_ fn161 rfl (trim_spec out hos) (zl 4 rfl ?_))))
  have hke:k = a.length:=by omega
  subst hke
  rw [val_take_all out _ (by omega),val_take_all a _ (Nat.le_refl _),val_take_all b _ (by omega)] at heq
  have hlt:=val_lt hos
  rw [hol] at hlt
  have hc0:c = 0:=by
   rcases Nat.eq_zero_or_pos c with h | h
   ·exact h
   ·exfalso
    have:c = 1:=by omega
    subst this
    omega
  exact r2_ hq_ rfl (by rw [show val out = val la - val lb from by rw [← va,← vb];subst hc0;omega])
set_option maxRecDepth 10000 in
theorem mul_spec (la lb:List Nat) (hsa:Small la) (hsb:Small lb) (hla0:la.length≤10000000000000) (hlb0:lb.length≤10000000000000):Ctr Tryz.prog 100 [V.one (natL la),V.one (natL lb)] (R.one (V.one (natL (limbs (val la * val lb))))):=by
 refine bd_ Tryz.func100 Tryz.ntmps100 rfl (fun w0 A0=>?_)
 refine zc 8 rfl (tc_ fn161 rfl (trim_spec la hsa) (zl 1 rfl (tc_ fn161 rfl (trim_spec lb hsb) (zl 6 rfl ?_))))
 have hla:=limbs_val_length hsa;have hlb:=limbs_val_length hsb
 have va:=val_limbs (val la);have vb:=val_limbs (val lb);have sa:=small_limbs (val la);have sb:=small_limbs (val lb)
 have ea:(limbs (val la)).length = 0→val la = 0:=fun h=>limbs_eq_nil.1 (List.eq_nil_of_length_eq_zero h)
 have eb:(limbs (val lb)).length = 0→val lb = 0:=fun h=>limbs_eq_nil.1 (List.eq_nil_of_length_eq_zero h)
 generalize limbs (val la) = a at *
 generalize limbs (val lb) = b at *
 refine zc 2 rfl (tq_ rfl (jln rfl) ?_)
 by_cases ha0:a.length = 0
 ·refine tq_ rfl (eqT rfl) (zl 13 rfl ?_)
  exact r1_ hq_ rfl (by rw [ea ha0,Nat.zero_mul,limbs_zero] <;> rfl)
 ·refine tq_ rfl (eqF rfl) (zl 2 rfl (tq_ rfl (jln rfl) ?_))
  by_cases hb0:b.length = 0
  ·refine tq_ rfl (eqT rfl) (zl 9 rfl ?_)
   exact r1_ hq_ rfl (by rw [eb hb0,Nat.mul_zero,limbs_zero] <;> rfl)
  ·refine tq_ rfl (eqF rfl) (zl 9 rfl (tq_ rfl (jln rfl) (zl 1 rfl (tq_ rfl (jln rfl) (tq_ rfl (jad (a.length + b.length) rfl) ?_)))))
   obtain ⟨ti3,hi3,hz3,hs3,hb3⟩:=in164
   refine te_ rfl (Je_make (i:=0) (n:=a.length + b.length) (ls:=((List.replicate (a.length + b.length) 0).map u32L)) rfl rfl rfl un25 hi3 hz3 hs3 (by decide) rfl (by decide) rfl (by rw [hb3];omega) (by simp only [maxLen];omega) (zc_u32 _) rfl) (zl 7 rfl (tq_ rfl (jln rfl) (zl 4 rfl ?_)))
   refine lpR_ (fun m Γ H=>∃ (i:Nat) (out:List Nat),a.length - i = m∧Γ = [(0,some (D.v (V.one (natL a)))),(1,some (D.v (V.one (natL b)))),(5,some (D.own 0 (a.length + b.length))),(29,some (D.v (V.one (natL a)))),(30,some (D.int ((a.length:Nat):Int))),(31,some (D.int ((i:Nat):Int)))]∧H = [some ⟨164,out.map u32L,some 1,none⟩]∧i≤a.length∧out.length = a.length + b.length∧Small out∧val out = val (a.take i) * val b∧(∀ j (hj:j < out.length),i + b.length≤j→out[j] = 0)) ⟨0,List.replicate (a.length + b.length) 0,rfl,rfl,rfl,Nat.zero_le _,by simp,Small.replicate _,by simp [val_replicate],by intro j hj _;simp⟩ rfl ?_
   rintro m Γ H ⟨i,out,rfl,rfl,rfl,hile,hol,hos,heq,hzero⟩
   refine zc 2 rfl ?_
   by_cases hi:i < a.length
   ·refine tq_ rfl (ltT rfl) (zl 9 rfl ?_)
    have hai:=sa.get i hi
    refine zc 2 rfl (tq_ rfl (ji1 rfl (get_u32 (by omega))) (tq_ rfl (jli rfl) (zl 13 rfl (tq_ rfl (jln rfl) (zl 4 rfl ?_)))))
    refine lpR_ (fun m Γ H=>∃ (k:Nat) (o:List Nat) (c:Nat),b.length - k = m∧Γ = [(0,some (D.v (V.one (natL a)))),(1,some (D.v (V.one (natL b)))),(5,some (D.own 0 (a.length + b.length))),(6,some (D.int ((i:Nat):Int))),(7,some (D.val (.int .u32 ((a[i]'hi:Nat):Int)))),(8,some (D.val (.int .u64 ((c:Nat):Int)))),(29,some (D.v (V.one (natL a)))),(30,some (D.int ((a.length:Nat):Int))),(31,some (D.int ((i:Nat):Int))),(36,some (D.v (V.one (natL b)))),(37,some (D.int ((b.length:Nat):Int))),(38,some (D.int ((k:Nat):Int)))]∧H = [some ⟨164,o.map u32L,some 1,none⟩]∧k≤b.length∧o.length = a.length + b.length∧Small o∧c < 4294967296∧val o + c * 4294967296 ^ (i + k) = val (a.take i) * val b + 4294967296 ^ i * (a[i] * val (b.take k))∧(∀ j (hj:j < o.length),i + b.length≤j→o[j] = 0)) ⟨0,out,0,rfl,rfl,rfl,Nat.zero_le _,hol,hos,by omega,by simp [heq],hzero⟩ rfl ?_
    rintro m Γ H ⟨k,o,c,rfl,rfl,rfl,hkle,hoo1,hoo,hc,hq,hz1⟩
    refine zc 2 rfl ?_
    by_cases hk:k < b.length
    ·refine tq_ rfl (ltT rfl) (zl 9 rfl ?_)
     have hbk:=sb.get k hk;have hok:=hoo.get (i + k) (by omega)
     have hm:=mul_carry hc hai hbk hok
     have hm2:=hm.1
     refine zc 2 rfl (tq_ rfl (ji1 rfl (get_u32 (by omega))) (tq_ rfl (jli rfl) (zl 8 rfl (tq_ rfl (jc6 (a[i]'hi) rfl) (zl 1 rfl (tq_ rfl (jc6 (b[k]'hk) rfl) (tq_ rfl (Jq_mul rfl rfl rfl (r:=((a[i]'hi * b[k]'hk:Nat):Int)) (wu64 (by rw [← Int.natCast_mul];omega))) (zl 3 rfl (tq_ rfl (jad (i + k) rfl) ?_)))))))))
     refine tq_ rfl (Jq_index_own rfl rfl rfl rfl (by decide) (by simp [hoo1]) (by decide) un25 ty164 (by omega) (by omega) (off:=i + k) (by omega)) (tq_ rfl (Jq_load rfl rfl rfl (by decide) ty164 (get_own (by omega))) (tq_ rfl (jc6 (o[i + k]'(by omega)) rfl) (tq_ rfl (Jq_add rfl rfl rfl (r:=((a[i]'hi * b[k]'hk + o[i + k]'(by omega):Nat):Int)) (wu64 (by omega))) ?_)))
     refine tq_ rfl (Jq_add rfl rfl rfl (r:=((c + (a[i]'hi * b[k]'hk + o[i + k]'(by omega)):Nat):Int)) (wu64 (by omega))) (zl 8 rfl (tq_ rfl (jad (i + k) rfl) (zl 1 rfl (tq_ rfl (jc3 ((c + (a[i]'hi * b[k]'hk + o[i + k]'(by omega))) % 4294967296) rfl) ?_))))
     refine tq_ rfl (Jq_index_own rfl rfl rfl rfl (by decide) (by simp [hoo1]) (by decide) un25 ty164 (by omega) (by omega) (off:=i + k) (by omega)) (te_ rfl (Je_store (ls:=((o.set (i + k) ((c + (a[i]'hi * b[k]'hk + o[i + k]'(by omega))) % 4294967296)).map u32L)) rfl rfl rfl rfl ty164 rfl (by decide) (by simp;omega) (splice_u32 (by omega))) (zl 4 rfl ?_))
     refine tq_ rfl (Jq_shr rfl rfl rfl (by decide) (r:=(((c + (a[i]'hi * b[k]'hk + o[i + k]'(by omega))) / 4294967296:Nat):Int)) (shr_nat _ 32 rfl)) (zl 5 rfl (tq_ rfl (jad (k + 1) rfl) (zl 2 rfl ?_)))
     exact nx_ ⟨k + 1,_,_,rfl,rfl,rfl,by omega,by simp [hoo1],hoo.set _ _ (by omega),hm.2.1,mul_step hk (by omega) _ hq,by intro j hj hle;rw [List.getElem_set_ne (by omega)];exact hz1 j (by simpa using hj) hle⟩ rfl
    ·refine tq_ rfl (ltF rfl) (zl 13 rfl (tq_ rfl (jln rfl) (tq_ rfl (jad (i + b.length) rfl) (zl 1 rfl (tq_ rfl (jc3 c rfl) (tq_ rfl (Jq_index_own rfl rfl rfl rfl (by decide) (by simp [hoo1]) (by decide) un25 ty164 (by omega) (by omega) (off:=i + b.length) (by omega)) ?_))))))
     refine te_ rfl (Je_store (ls:=((o.set (i + b.length) c).map u32L)) rfl rfl rfl rfl ty164 rfl (by decide) (by simp;omega) (splice_u32 (by omega))) (zl 4 rfl (tq_ rfl (jad (i + 1) rfl) (zl 2 rfl ?_)))
     have hke:k = b.length:=by omega
     subst hke
     have hzz:=hz1 (i + b.length) (by omega) (Nat.le_refl _)
     have hvs:=val_set o (i + b.length) c (by omega)
     rw [hzz,Nat.mul_zero,Nat.add_zero] at hvs
     rw [val_take_all b _ (Nat.le_refl _)] at hq
     have hfin:val (o.set (i + b.length) c) = val (a.take (i + 1)) * val b:=by
      rw [hvs,val_take_succ a i hi,Nat.add_mul,Nat.mul_comm _ c,hq];grind
     have hz2:∀ j (hj:j < (o.set (i + b.length) c).length),i + 1 + b.length≤j→(o.set (i + b.length) c)[j] = 0:=by
      intro j hj hle
      rw [List.getElem_set_ne (by omega)];exact hz1 j (by simpa using hj) (by omega)
     have hol:=hoo1
     exact nx_ ⟨i + 1,_,rfl,rfl,rfl,by omega,by simp [hol],hoo.set _ _ hc,hfin,hz2⟩ rfl
   ·refine tq_ rfl (ltF rfl) (zl 12 rfl (Tl_share_nat 77 (out) rfl rfl rfl rfl (by omega) (tc_ fn161 rfl (trim_spec out hos) (zl 3 rfl ?_))))
    have hie:i = a.length:=by omega
    subst hie
    exact r1_ hq_ rfl (by rw [show val out = val la * val lb from by rw [heq,val_take_all a _ (Nat.le_refl _),va,vb]])
end Go.Proofs.YtmpkandbccallaaGreatDoor
set_option linter.unusedSimpArgs false
set_option linter.unusedVariables false
namespace Go.Proofs.YtmpkandbccallaaGreatDoor
open Go Go.RowKit Rc
set_option maxRecDepth 10000 in
theorem len32_spec (x:Nat) (hx:x < 4294967296):Ctr Tryz.prog 191 [V.one (Leaf.val (.int .u32 x))] (R.one (V.one (Leaf.val (.int .i64 ((bl x:Nat):Int))))):=by
 refine bd_ Tryz.func191 Tryz.ntmps191 rfl (fun w0 A0=>?_)
 refine zc 9 rfl ?_
 by_cases h1:65536≤x
 ·refine tq_ rfl (geT rfl) (zl 6 rfl (tq_ rfl (Jq_shr rfl rfl rfl (by decide) (r:=((x / 65536:Nat):Int)) (shr_nat x 16 rfl)) (zl 11 rfl ?_)))
  by_cases h2:256≤x / 65536
  ·refine tq_ rfl (geT rfl) (zl 6 rfl (tq_ rfl (Jq_shr rfl rfl rfl (by decide) (r:=((x / 65536 / 256:Nat):Int)) (shr_nat _ 8 rfl)) (zl 5 rfl (tq_ rfl (jad 24 rfl) (zl 7 rfl (tq_ rfl (jcv (x / 65536 / 256) rfl (wu8 (by omega))) (tq_ rfl (Jq_index_str rfl rfl un9 (len8_get (by kernel_rfl) (x:=x / 65536 / 256) (by omega))) ?_)))))))
   refine tq_ rfl (jcv (bl (x / 65536 / 256)) rfl (w64 (len8_val (by omega)) (by omega) (by have:=bl_le_of_lt (n:=x / 65536 / 256) (k:=8) (by omega);omega))) ?_
   refine tq_ rfl (Jq_add rfl rfl rfl (r:=((bl x:Nat):Int)) (w64 (by have h1:=bl_div (n:=x) (k:=16) h1;have h2:=bl_div (n:=x / 2 ^ 16) (k:=8) h2;simp only [Nat.reducePow] at h1 h2;omega) (by omega) (by have:=bl_le_of_lt (n:=x) (k:=32) hx;omega))) (zl 3 rfl ?_)
   exact r1_ hq_ rfl rfl
  ·refine tq_ rfl (geF rfl) (zl 9 rfl (tq_ rfl (jcv (x / 65536) rfl (wu8 (by omega))) (tq_ rfl (Jq_index_str rfl rfl un9 (len8_get (by kernel_rfl) (x:=x / 65536) (by omega))) (tq_ rfl (jcv (bl (x / 65536)) rfl (w64 (len8_val (by omega)) (by omega) (by have:=bl_le_of_lt (n:=x / 65536) (k:=8) (by omega);omega))) ?_))))
   refine tq_ rfl (Jq_add rfl rfl rfl (r:=((bl x:Nat):Int)) (w64 (by have h1:=bl_div (n:=x) (k:=16) h1;simp only [Nat.reducePow] at h1;omega) (by omega) (by have:=bl_le_of_lt (n:=x) (k:=32) hx;omega))) (zl 3 rfl ?_)
   exact r1_ hq_ rfl rfl
 ·refine tq_ rfl (geF rfl) (zl 9 rfl ?_)
  by_cases h2:256≤x
  ·refine tq_ rfl (geT rfl) (zl 6 rfl (tq_ rfl (Jq_shr rfl rfl rfl (by decide) (r:=((x / 256:Nat):Int)) (shr_nat x 8 rfl)) (zl 5 rfl (tq_ rfl (jad 8 rfl) (zl 7 rfl (tq_ rfl (jcv (x / 256) rfl (wu8 (by omega))) (tq_ rfl (Jq_index_str rfl rfl un9 (len8_get (by kernel_rfl) (x:=x / 256) (by omega))) ?_)))))))
   refine tq_ rfl (jcv (bl (x / 256)) rfl (w64 (len8_val (by omega)) (by omega) (by have:=bl_le_of_lt (n:=x / 256) (k:=8) (by omega);omega))) (tq_ rfl (Jq_add rfl rfl rfl (r:=((bl x:Nat):Int)) (w64 (by have h2:=bl_div (n:=x) (k:=8) h2;simp only [Nat.reducePow] at h2;omega) (by omega) (by have:=bl_le_of_lt (n:=x) (k:=32) hx;omega))) (zl 3 rfl ?_))
   exact r1_ hq_ rfl rfl
  ·refine tq_ rfl (geF rfl) (zl 9 rfl (tq_ rfl (jcv x rfl (wu8 (by omega))) (tq_ rfl (Jq_index_str rfl rfl un9 (len8_get (by kernel_rfl) (x:=x) (by omega))) (tq_ rfl (jcv (bl (x)) rfl (w64 (len8_val (by omega)) (by omega) (by have:=bl_le_of_lt (n:=x) (k:=8) (by omega);omega))) ?_))))
   refine tq_ rfl (Jq_add rfl rfl rfl (r:=((bl x:Nat):Int)) (w64 (by skip;omega) (by omega) (by have:=bl_le_of_lt (n:=x) (k:=32) hx;omega))) (zl 3 rfl ?_)
   exact r1_ hq_ rfl rfl
set_option maxRecDepth 10000 in
theorem lz32_spec (x:Nat) (hx:x < 4294967296):Ctr Tryz.prog 195 [V.one (Leaf.val (.int .u32 x))] (R.one (V.one (Leaf.val (.int .i64 ((32 - bl x:Nat):Int))))):=by
 refine bd_ Tryz.func195 Tryz.ntmps195 rfl (fun w0 A0=>?_)
 refine zc 8 rfl (tc_ fn191 rfl (len32_spec x hx) (tq_ rfl (Jq_sub rfl rfl rfl (r:=((32 - bl x:Nat):Int)) (w64 (by have:=bl_le_of_lt (n:=x) (k:=32) hx;omega) (by omega) (by omega))) (zl 3 rfl ?_)))
 exact r1_ hq_ rfl rfl
set_option maxRecDepth 10000 in
theorem left_own (a:List Nat) (k:Nat) (hsa:Small a) (hk:k < 32) (hla:a.length≤10000000000000):CtrF Tryz.prog 196 164 (a.length + 1) ((padL (a.length + 1) (val a * 2 ^ k)).map u32L) [V.one (natL a),V.one (Leaf.val (.int .i64 ((k:Nat):Int)))]:=by
 refine CtrF.of_body Tryz.func196 rfl Tryz.ntmps196 (Nat.le_of_ble_eq_true rfl) (fun w0 A0=>?_)
 refine qc_ (zc 8 rfl (tq_ rfl (jln rfl) (tq_ rfl (jad (a.length + 1) rfl) ?_)))
 obtain ⟨ti1,hi1,hz1,hs1,hb1⟩:=in164
 refine te_ rfl (Je_make (i:=0) (n:=a.length + 1) (ls:=((List.replicate (a.length + 1) 0).map u32L)) rfl rfl rfl un25 hi1 hz1 hs1 (by decide) rfl (by decide) rfl (by rw [hb1];omega) (by simp only [maxLen];omega) (zc_u32 _) rfl) (zl 7 rfl (tq_ rfl (jln rfl) (zl 4 rfl ?_)))
 refine lpR_ (fun m Γ H=>∃ (i:Nat) (out:List Nat),a.length - i = m∧Γ = [(0,some (D.v (V.one (natL a)))),(1,some (D.int ((k:Nat):Int))),(5,some (D.own 0 (a.length + 1))),(13,some (D.v (V.one (natL a)))),(14,some (D.int ((a.length:Nat):Int))),(15,some (D.int ((i:Nat):Int)))]∧H = [some ⟨164,out.map u32L,some 1,none⟩]∧i≤a.length∧out.length = a.length + 1∧Small out∧val (out.take (i + 1)) = val (a.take i) * 2 ^ k∧out.getD i 0 < 2 ^ k) ⟨0,List.replicate (a.length + 1) 0,rfl,rfl,rfl,Nat.zero_le _,by simp,Small.replicate _,by rw [List.take_replicate,val_replicate];simp,by simp [List.getD];exact Nat.pow_pos (by omega)⟩ rfl ?_
 rintro m Γ H ⟨i,out,rfl,rfl,rfl,hile,hol,hos,heq,hlow⟩
 refine zc 2 rfl ?_
 by_cases hi:i < a.length
 ·refine tq_ rfl (ltT rfl) (zl 9 rfl ?_)
  have hai:=hsa.get i hi;have hoi:=hos.get i (by omega)
  rw [getD_of (by omega)] at hlow
  have hb:=left_bound hk hai
  have ho:=left_or (d:=a[i]) hk hlow
  refine zc 2 rfl (tq_ rfl (ji1 rfl (get_u32 (by omega))) (tq_ rfl (jli rfl) (zl 7 rfl (tq_ rfl (jc6 (a[i]'hi) rfl) (zl 1 rfl (tq_ rfl (Jq_shl rfl rfl rfl (by omega) (r:=((a[i]'hi * 2 ^ k:Nat):Int)) (shl64 _ k (minbits64 (by omega)) hb.1)) (zl 7 rfl ?_)))))))
  refine tq_ rfl (Jq_index_own rfl rfl rfl rfl (by decide) (by simp [hol]) (by decide) un25 ty164 (by omega) (by omega) (off:=i) (by omega)) (tq_ rfl (Jq_load rfl rfl rfl (by decide) ty164 (get_own (by omega))) (zl 1 rfl (tq_ rfl (jc3 (a[i]'hi * 2 ^ k % 4294967296) rfl) ?_)))
  refine tq_ rfl (Jq_or rfl rfl rfl (r:=((out[i]'(by omega) + a[i]'hi * 2 ^ k % 4294967296:Nat):Int)) (or32' k ho.1 hlow ho.2)) (tq_ rfl (Jq_index_own rfl rfl rfl rfl (by decide) (by simp [hol]) (by decide) un25 ty164 (by omega) (by omega) (off:=i) (by omega)) ?_)
  refine te_ rfl (Je_store (ls:=((out.set i (out[i]'(by omega) + a[i]'hi * 2 ^ k % 4294967296)).map u32L)) rfl rfl rfl rfl ty164 rfl (by decide) (by simp;omega) (splice_u32 (by omega))) (zl 5 rfl (tq_ rfl (jad (i + 1) rfl) (zl 1 rfl (tq_ rfl (Jq_shr rfl rfl rfl (by decide) (r:=(((a[i]'hi * 2 ^ k) / 4294967296:Nat):Int)) (shr_nat _ 32 rfl)) ?_))))
  refine tq_ rfl (jc3 ((a[i]'hi * 2 ^ k) / 4294967296) rfl) (tq_ rfl (Jq_index_own rfl rfl rfl rfl (by decide) (by simp [hol]) (by decide) un25 ty164 (by omega) (by omega) (off:=i + 1) (by omega)) ?_)
  refine te_ rfl (Je_store (ls:=(((out.set i (out[i]'(by omega) + a[i]'hi * 2 ^ k % 4294967296)).set (i + 1) ((a[i]'hi * 2 ^ k) / 4294967296)).map u32L)) rfl rfl rfl rfl ty164 rfl (by decide) (by simp;omega) (splice_u32 (by simp;omega))) (zl 4 rfl (tq_ rfl (jad (i + 1) rfl) (zl 2 rfl ?_)))
  exact nx_ ⟨i + 1,_,rfl,rfl,rfl,by omega,by simp [hol],(hos.set _ _ (by omega)).set _ _ (by omega),left_step hi (by omega) heq _ rfl,by rw [getD_of (by simp;omega),List.getElem_set_self];exact hb.2.1⟩ rfl
 ·refine tq_ rfl (ltF rfl) (zl 15 rfl ?_)
  have hie:i = a.length:=by omega
  subst hie
  rw [val_take_all out _ (by omega),val_take_all a _ (Nat.le_refl _)] at heq
  exact Tc_retF (fun _ _ h=>h) rfl rfl rfl (by simp;omega) (by rw [← padL_of hos hol heq]) (fun l hl=>by simp only [List.mem_map] at hl;obtain ⟨x,_,rfl⟩:=hl;exact ⟨_,rfl⟩)
theorem left_spec (a:List Nat) (k:Nat) (hsa:Small a) (hk:k < 32) (hla:a.length≤10000000000000):Ctr Tryz.prog 196 [V.one (natL a),V.one (Leaf.val (.int .i64 ((k:Nat):Int)))] (R.one (V.one (natL (padL (a.length + 1) (val a * 2 ^ k))))):=by
 have h:=Ctr.of_fresh (left_own a k hsa hk hla) (by simp [padL_length])
 have e:(padL (a.length + 1) (val a * 2 ^ k)).length = a.length + 1:=padL_length _ _
 unfold natL
 rw [e]
 exact h
set_option maxRecDepth 10000 in
theorem shr_spec (la:List Nat) (k:Nat) (hsa:Small la) (hk:k≤1048576) (hla:la.length≤10000000000000):Ctr Tryz.prog 199 [V.one (natL la),V.one (Leaf.val (.int .i64 ((k:Nat):Int)))] (R.tup [V.one (natL (limbs (val la / 2 ^ k))),V.one (Leaf.val (.int .i64 0))]):=by
 refine bd_ Tryz.func199 Tryz.ntmps199 rfl (fun w0 A0=>?_)
 refine zc 10 rfl (tq_ rfl (ltF rfl) (zl 2 rfl (tq_ rfl (gtF rfl) (zl 9 rfl (tc_ fn161 rfl (trim_spec la hsa) (zl 5 rfl ?_))))))
 have hl0:=limbs_val_length hsa;have vl:=val_limbs (val la);have sl:=small_limbs (val la)
 have hnil:(limbs (val la)).length≤k / 32→val la / 2 ^ k = 0:=by
  intro h
  have h1:=limbs_length_le.1 h
  rw [← shift_split,Nat.div_eq_of_lt h1,Nat.zero_div]
 generalize limbs (val la) = l at *
 refine zc 2 rfl (tq_ rfl (Jq_quo rfl rfl rfl (by decide) (r:=((k / 32:Nat):Int)) (w64 (tdivN k 32) (by omega) (by omega))) (zl 1 rfl (tq_ rfl (jln rfl) ?_)))
 by_cases hz:l.length≤k / 32
 ·refine tq_ rfl (geT rfl) (zl 9 rfl ?_)
  exact r2_ hq_ rfl (by rw [hnil hz,limbs_zero] <;> rfl)
 ·refine tq_ rfl (geF rfl) (zl 9 rfl (tq_ rfl (Jq_quo rfl rfl rfl (by decide) (r:=((k / 32:Nat):Int)) (w64 (tdivN k 32) (by omega) (by omega))) (tq_ rfl (Jq_slice_lo_nat rfl rfl rfl un25 ty164 (by omega)) (zl 4 rfl ?_))))
  have sa:Small (l.drop (k / 32)):=sl.drop _
  have va:val (l.drop (k / 32)) / 2 ^ (k % 32) = val la / 2 ^ k:=by rw [← val_drop_div l sl,vl,shift_split]
  have hla2:(l.drop (k / 32)).length≤l.length:=by rw [List.length_drop];omega
  generalize l.drop (k / 32) = a at *
  refine zc 2 rfl (tq_ rfl (jln rfl) ?_)
  obtain ⟨ti2,hi2,hz2,hs2,hb2⟩:=in164
  refine te_ rfl (Je_make (i:=0) (n:=a.length) (ls:=((List.replicate (a.length) 0).map u32L)) rfl rfl rfl un25 hi2 hz2 hs2 (by decide) rfl (by decide) rfl (by rw [hb2];omega) (by simp only [maxLen];omega) (zc_u32 _) rfl) (zl 7 rfl (tq_ rfl (jln rfl) (zl 4 rfl ?_)))
  refine lpR_ (fun m Γ H=>∃ (i:Nat) (out:List Nat),a.length - i = m∧Γ = [(0,some (D.v (V.one (natL a)))),(1,some (D.int ((k:Nat):Int))),(6,some (D.own 0 a.length)),(30,some (D.v (V.one (natL a)))),(31,some (D.int ((a.length:Nat):Int))),(32,some (D.int ((i:Nat):Int)))]∧H = [some ⟨164,out.map u32L,some 1,none⟩]∧i≤a.length∧out.length = a.length∧Small out∧val (out.take i) = val a / 2 ^ (k % 32) % 4294967296 ^ i) ⟨0,List.replicate a.length 0,rfl,rfl,rfl,Nat.zero_le _,by simp,Small.replicate _,by simp [Nat.mod_one]⟩ rfl ?_
  rintro m Γ H ⟨i,out,rfl,rfl,rfl,hile,hol,hos,heq⟩
  refine zc 2 rfl ?_
  by_cases hi:i < a.length
  ·refine tq_ rfl (ltT rfl) (zl 9 rfl ?_)
   have hai:=sa.get i hi
   refine zc 2 rfl (tq_ rfl (ji1 rfl (get_u32 (by omega))) (tq_ rfl (jli rfl) (zl 7 rfl (tq_ rfl (jc6 (a[i]'hi) rfl) (zl 7 rfl (tq_ rfl (jad (i + 1) rfl) (zl 1 rfl (tq_ rfl (jln rfl) ?_))))))))
   by_cases hi1:i + 1 < a.length
   ·refine tq_ rfl (ltT rfl) (zl 3 rfl ?_)
    have hai1:=sa.get (i + 1) hi1
    refine zc 4 rfl (tq_ rfl (jad (i + 1) rfl) (tq_ rfl (ji1 rfl (get_u32 (by omega))) (tq_ rfl (jli rfl) (tq_ rfl (jc6 (a[i + 1]'hi1) rfl) (tq_ rfl (Jq_shl rfl rfl rfl (by decide) (r:=((a[i + 1]'hi1 * 2 ^ 32:Nat):Int)) (shl64 _ 32 rfl (by omega))) ?_)))))
    refine tq_ rfl (Jq_or rfl rfl rfl (r:=((a[i]'hi + a[i + 1]'hi1 * 2 ^ 32:Nat):Int)) (or64' 32 (Nat.mul_mod_left _ _) (by omega) (by omega))) (zl 8 rfl (tq_ rfl (Jq_rem rfl rfl rfl (by decide) (r:=((k % 32:Nat):Int)) (tmodN k 32)) ?_))
    refine tq_ rfl (Jq_shr rfl rfl rfl (by omega) (r:=(((a[i]'hi + a[i + 1]'hi1 * 2 ^ 32) / 2 ^ (k % 32):Nat):Int)) (shr_nat _ (k % 32) (minbits64 (by omega)))) (tq_ rfl (jc3 ((a[i]'hi + a[i + 1]'hi1 * 2 ^ 32) / 2 ^ (k % 32) % 4294967296) rfl) (tq_ rfl (Jq_index_own rfl rfl rfl rfl (by decide) (by simp [hol]) (by decide) un25 ty164 (by omega) (by omega) (off:=i) (by omega)) ?_))
    refine te_ rfl (Je_store (ls:=((out.set i ((a[i]'hi + a[i + 1]'hi1 * 2 ^ 32) / 2 ^ (k % 32) % 4294967296)).map u32L)) rfl rfl rfl rfl ty164 rfl (by decide) (by simp;omega) (splice_u32 (by omega))) (zl 4 rfl (tq_ rfl (jad (i + 1) rfl) (zl 2 rfl ?_)))
    exact nx_ ⟨i + 1,_,rfl,rfl,rfl,by omega,by simp [hol],hos.set _ _ (by omega),shr_step sa hi (by omega) (by omega) heq _ (by rw [getD_of hi1,Nat.mul_comm 4294967296])⟩ rfl
   ·refine tq_ rfl (ltF rfl) (zl 10 rfl (tq_ rfl (Jq_rem rfl rfl rfl (by decide) (r:=((k % 32:Nat):Int)) (tmodN k 32)) (tq_ rfl (Jq_shr rfl rfl rfl (by omega) (r:=(((a[i]'hi) / 2 ^ (k % 32):Nat):Int)) (shr_nat _ (k % 32) (minbits64 (by omega)))) (tq_ rfl (jc3 ((a[i]'hi) / 2 ^ (k % 32) % 4294967296) rfl) ?_))))
    refine tq_ rfl (Jq_index_own rfl rfl rfl rfl (by decide) (by simp [hol]) (by decide) un25 ty164 (by omega) (by omega) (off:=i) (by omega)) (te_ rfl (Je_store (ls:=((out.set i ((a[i]'hi) / 2 ^ (k % 32) % 4294967296)).map u32L)) rfl rfl rfl rfl ty164 rfl (by decide) (by simp;omega) (splice_u32 (by omega))) (zl 4 rfl (tq_ rfl (jad (i + 1) rfl) (zl 2 rfl ?_))))
    exact nx_ ⟨i + 1,_,rfl,rfl,rfl,by omega,by simp [hol],hos.set _ _ (by omega),shr_step sa hi (by omega) (by omega) heq _ (by rw [getD_out (by omega),Nat.mul_zero,Nat.add_zero])⟩ rfl
  ·refine tq_ rfl (ltF rfl) (zl 10 rfl ?_)
   have hie:i = a.length:=by omega
   subst hie
   rw [val_take_all out _ (by omega),va] at heq
   have hlt:val la / 2 ^ k < 4294967296 ^ a.length:=by rw [← va];exact Nat.lt_of_le_of_lt (Nat.div_le_self _ _) (val_lt sa)
   rw [Nat.mod_eq_of_lt hlt] at heq
   refine zc 2 rfl (Tl_share_nat 62 (out) rfl rfl rfl rfl (by omega) (tc_ fn161 rfl (trim_spec out hos) (zl 4 rfl ?_)))
   exact r2_ hq_ rfl (by rw [heq])
set_option maxRecDepth 10000 in
theorem bits_spec (la:List Nat) (hsa:Small la) (hla:la.length≤10000000000000):Ctr Tryz.prog 152 [V.one (natL la)] (R.one (V.one (Leaf.val (.int .i64 ((bl (val la):Nat):Int))))):=by
 refine bd_ Tryz.func152 Tryz.ntmps152 rfl (fun w0 A0=>?_)
 refine zc 8 rfl (tc_ fn161 rfl (trim_spec la hsa) (zl 5 rfl ?_))
 have hl0:=limbs_val_length hsa
 have hb:=fun h=>bl_limbs (canon_limbs (val la)) h
 have hs:=small_limbs (val la)
 rw [val_limbs] at hb
 have hz0:(limbs (val la)).length = 0→val la = 0:=fun h=>limbs_eq_nil.1 (List.eq_nil_of_length_eq_zero h)
 generalize limbs (val la) = a at *
 refine zc 2 rfl (tq_ rfl (jln rfl) ?_)
 by_cases hz:a.length = 0
 ·refine tq_ rfl (eqT rfl) (zl 8 rfl ?_)
  exact r1_ hq_ rfl (by rw [hz0 hz] <;> rfl)
 ·refine tq_ rfl (eqF rfl) (zl 6 rfl ?_)
  have hb:=hb (by omega);have htop:=hs.get (a.length - 1) (by omega)
  have hbt:=bl_le_of_lt (k:=32) htop
  refine zc 2 rfl (tq_ rfl (jln rfl) (tq_ rfl (jsb (a.length - 1) rfl) (tq_ rfl (Jq_mul rfl rfl rfl (r:=((32 * (a.length - 1):Nat):Int)) (w64 (by omega) (by omega) (by omega))) (zl 2 rfl (tq_ rfl (jln rfl) (tq_ rfl (jsb (a.length - 1) rfl) (tq_ rfl (ji1 rfl (get_u32i (a.length - 1) (by omega) rfl)) (tq_ rfl (jli rfl) ?_))))))))
  refine tc_ fn191 rfl (len32_spec (a[a.length - 1]'(by omega)) htop) (tq_ rfl (jad (bl (val la)) rfl) (zl 3 rfl ?_))
  exact r1_ hq_ rfl rfl
set_option maxRecDepth 10000 in
theorem short_spec (a:List Nat) (d:Nat) (hsa:Small a) (hd:d < 4294967296) (hd0:0 < d) (hla:a.length≤10000000000000):Ctr Tryz.prog 194 [V.one (natL a),V.one (Leaf.val (.int .u32 d))] (R.tup [V.one (natL (limbs (val a / d))),V.one (natL (limbs (val a % d)))]):=by
 refine bd_ Tryz.func194 Tryz.ntmps194 rfl (fun w0 A0=>?_)
 refine zc 9 rfl (tq_ rfl (jln rfl) ?_)
 obtain ⟨ti1,hi1,hz1,hs1,hb1⟩:=in164
 refine te_ rfl (Je_make (i:=0) (n:=a.length) (ls:=((List.replicate (a.length) 0).map u32L)) rfl rfl rfl un25 hi1 hz1 hs1 (by decide) rfl (by decide) rfl (by rw [hb1];omega) (by simp only [maxLen];omega) (zc_u32 _) rfl) (zl 12 rfl (tq_ rfl (jln rfl) (tq_ rfl (Jq_sub rfl rfl rfl (r:=(a.length:Int) - 1) (w64 (by omega) (by omega) (by omega))) (zl 4 rfl ?_))))
 refine lpR_ (fun m Γ H=>∃ (n:Nat) (out:List Nat) (r:Nat),n = m∧Γ = [(0,some (D.v (V.one (natL a)))),(1,some (D.val (.int .u32 ((d:Nat):Int)))),(6,some (D.own 0 a.length)),(7,some (D.val (.int .u64 ((r:Nat):Int)))),(8,some (D.int ((n:Int) - 1)))]∧H = [some ⟨164,out.map u32L,some 1,none⟩]∧n≤a.length∧out.length = a.length∧Small out∧r < d∧val (a.drop n) = val (out.drop n) * d + r) ⟨a.length,List.replicate a.length 0,0,rfl,rfl,rfl,Nat.le_refl _,by simp,Small.replicate _,hd0,by rw [List.drop_of_length_le (Nat.le_refl _),List.drop_of_length_le (by simp)];simp [val]⟩ rfl ?_
 rintro m Γ H ⟨n,out,r,rfl,rfl,rfl,hnle,hol,hos,hr,heq⟩
 refine zc 4 rfl ?_
 by_cases hn:0 < n
 ·refine tq_ rfl (geT rfl) (zl 8 rfl ?_)
  have hai:=hsa.get (n - 1) (by omega)
  have hq:(r * 2 ^ 32 + a[n - 1]'(by omega)) / d < 4294967296:=by
   rw [Nat.div_lt_iff_lt_mul hd0]
   have:(r + 1) * 4294967296≤d * 4294967296:=Nat.mul_le_mul_right _ hr
   omega
  have hm:=Nat.mod_lt (r * 2 ^ 32 + a[n - 1]'(by omega)) hd0
  refine zc 2 rfl (tq_ rfl (Jq_shl rfl rfl rfl (by decide) (r:=((r * 2 ^ 32:Nat):Int)) (shl64 _ 32 rfl (by omega))) (zl 2 rfl (tq_ rfl (ji1 rfl (get_u32i (n - 1) (by omega) (by omega))) (tq_ rfl (jli rfl) (tq_ rfl (jc6 (a[n - 1]'(by omega)) rfl) ?_)))))
  refine tq_ rfl (Jq_or rfl rfl rfl (r:=((r * 2 ^ 32 + a[n - 1]'(by omega):Nat):Int)) (or64 32 (Nat.mul_mod_left _ _) (by omega) (by omega))) (zl 9 rfl (tq_ rfl (jc6 d rfl) (tq_ rfl (Jq_quo rfl rfl rfl (by omega) (r:=(((r * 2 ^ 32 + a[n - 1]'(by omega)) / d:Nat):Int)) ((by rw [tdivN];exact wrap_nat_u64 (Nat.lt_trans hq (by decide))))) ?_)))
  refine tq_ rfl (jcv ((r * 2 ^ 32 + a[n - 1]'(by omega)) / d) rfl (wu32 (Int.emod_eq_of_lt (Int.natCast_nonneg _) (Int.ofNat_lt.2 hq)))) (tq_ rfl (Jq_index_own rfl rfl rfl rfl (by decide) (by simp [hol]) (by decide) un25 ty164 (by omega) (by omega) (off:=n - 1) (by omega)) ?_)
  refine te_ rfl (Je_store (ls:=((out.set (n - 1) ((r * 2 ^ 32 + a[n - 1]'(by omega)) / d)).map u32L)) rfl rfl rfl rfl ty164 rfl (by decide) (by simp;omega) (splice_u32 (by omega))) (zl 5 rfl (tq_ rfl (jc6 d rfl) (tq_ rfl (Jq_rem rfl rfl rfl (by omega) (r:=(((r * 2 ^ 32 + a[n - 1]'(by omega)) % d:Nat):Int)) (tmodN _ _)) (zl 6 rfl ?_))))
  refine tq_ rfl (Jq_sub rfl rfl rfl (r:=((n - 1:Nat):Int) - 1) (w64 (by omega) (by omega) (by omega))) (zl 2 rfl ?_)
  exact nx_ ⟨n - 1,_,_,rfl,rfl,rfl,by omega,by simp [hol],hos.set _ _ hq,Nat.mod_lt _ hd0,short_step hn (by omega) (by omega) heq _ (by simp)⟩ rfl
 ·refine tq_ rfl (geF rfl) (zl 9 rfl ?_)
  have hn0:n = 0:=by omega
  subst hn0
  simp only [List.drop_zero] at heq
  have hq:val a / d = val out:=by rw [heq,Nat.mul_comm,Nat.mul_add_div hd0,Nat.div_eq_of_lt hr,Nat.add_zero]
  have hm:val a % d = r:=by rw [heq,Nat.mul_comm,Nat.mul_add_mod,Nat.mod_eq_of_lt hr]
  refine zc 2 rfl (Tl_share_nat 39 (out) rfl rfl rfl rfl (by omega) (tc_ fn161 rfl (trim_spec out hos) (zl 1 rfl (tc_ fn183 rfl (of_spec r (by omega)) (zl 4 rfl ?_)))))
  exact r2_ hq_ rfl (by rw [hq,hm])
end Go.Proofs.YtmpkandbccallaaGreatDoor
set_option linter.unusedSimpArgs false
set_option linter.unusedVariables false
namespace Go.Proofs.YtmpkandbccallaaGreatDoor
open Go Go.RowKit Rc
set_option maxRecDepth 10000 in
theorem estimate_spec (s v:List Nat) (hss:Small s) (hsv:Small v) (hsl:s.length = v.length + 1) (hv2:2≤v.length) (hvl:v.length≤20000000000000) (hnz:0 < v.getD (v.length - 1) 0):Ctr Tryz.prog 198 [V.one (natL s),V.one (natL v)] (R.one (V.one (Leaf.val (.int .u64 ((est (s.getD v.length 0 * 4294967296 + s.getD (v.length - 1) 0) (s.getD (v.length - 2) 0) (v.getD (v.length - 1) 0) (v.getD (v.length - 2) 0):Nat):Int))))):=by
 refine bd_ Tryz.func198 Tryz.ntmps198 rfl (fun w0 A0=>?_)
 refine zc 1 rfl ?_
 rw [getD_of (show v.length < s.length by omega),getD_of (show v.length - 1 < s.length by omega),getD_of (show v.length - 2 < s.length by omega),getD_of (show v.length - 1 < v.length by omega),getD_of (show v.length - 2 < v.length by omega)]
 rw [getD_of (show v.length - 1 < v.length by omega)] at hnz
 have a0:=hss.get v.length (by omega);have a1:=hss.get (v.length - 1) (by omega);have a2:=hss.get (v.length - 2) (by omega);have b1:=hsv.get (v.length - 1) (by omega);have b2:=hsv.get (v.length - 2) (by omega)
 obtain ⟨v1,hv1⟩:∃ x,x = v[v.length - 1]:=⟨_,rfl⟩
 obtain ⟨v2,hv2e⟩:∃ x,x = v[v.length - 2]:=⟨_,rfl⟩
 obtain ⟨s2,hs2⟩:∃ x,x = s[v.length - 2]:=⟨_,rfl⟩
 obtain ⟨top,htop⟩:∃ x,x = s[v.length] * 4294967296 + s[v.length - 1]:=⟨_,rfl⟩
 rw [← hv1,← hv2e,← hs2,← htop]
 rw [← hv1] at hnz b1;rw [← hv2e] at b2;rw [← hs2] at a2
 have h1:0 < v1:=hnz
 obtain ⟨e,he⟩:∃ e,est top s2 v1 v2 = e:=⟨_,rfl⟩
 rw [he]
 refine zc 7 rfl (tq_ rfl (jln rfl) (zl 4 rfl (dr_ 0 [] [] (dz 2 rfl (kq_ rfl (ji1 rfl (get_u32i (v.length) (by omega) (by omega))) (kq_ rfl (jli rfl) (kq_ rfl (jc6 (s[v.length]'(by omega)) rfl) (kq_ rfl (Jq_shl rfl rfl rfl (by decide) (r:=((s[v.length]'(by omega) * 2 ^ 32:Nat):Int)) (shl64 _ 32 rfl (by omega))) (dz 2 rfl ?_)))))))))
 refine kq_ rfl (jsb (v.length - 1) rfl) (kq_ rfl (ji1 rfl (get_u32i (v.length - 1) (by omega) (by omega))) (kq_ rfl (jli rfl) (kq_ rfl (jc6 (s[v.length - 1]'(by omega)) rfl) (kq_ rfl (Jq_or rfl rfl rfl (r:=((top:Nat):Int)) (by rw [htop];exact or64 32 (Nat.mul_mod_left _ _) (by omega) (by omega))) (dz 1 rfl (DK_nil (za 2 rfl (dr_ 0 [] [] (dz 3 rfl ?_)))))))))
 refine kq_ rfl (jsb (v.length - 1) rfl) (kq_ rfl (ji1 rfl (get_u32i (v.length - 1) (by omega) (by omega))) (kq_ rfl (jli rfl) (kq_ rfl (jcv v1 rfl (by rw [hv1];exact wu64 (by omega))) (kq_ rfl (Jq_quo rfl rfl rfl (by omega) (r:=((top / v1:Nat):Int)) ((by rw [tdivN];exact wrap_nat_u64 (Nat.lt_of_le_of_lt (Nat.div_le_self _ _) (by omega))))) (dz 3 rfl ?_)))))
 refine kq_ rfl (jsb (v.length - 1) rfl) (kq_ rfl (ji1 rfl (get_u32i (v.length - 1) (by omega) (by omega))) (kq_ rfl (jli rfl) (kq_ rfl (jcv v1 rfl (by rw [hv1];exact wu64 (by omega))) (kq_ rfl (Jq_rem rfl rfl rfl (by omega) (r:=((top % v1:Nat):Int)) (tmodN _ _)) (dz 2 rfl (DK_nil (za 3 rfl ?_)))))))
 refine lpR_ (fun m Γ H=>∃ (q:Nat) (r:Nat),q = m∧Γ = [(0,some (D.v (V.one (natL s)))),(1,some (D.v (V.one (natL v)))),(5,some (D.int ((v.length:Nat):Int))),(7,some (D.val (.int .u64 ((q:Nat):Int)))),(8,some (D.val (.int .u64 ((r:Nat):Int))))]∧H = []∧q * v1 + r = top∧r < 4294967296∧e≤q∧q < 18446744073709551616) ⟨top / v1,top % v1,rfl,rfl,rfl,by rw [Nat.mul_comm];exact Nat.div_add_mod _ _,Nat.lt_trans (Nat.mod_lt _ h1) b1,by rw [← he];exact est_le h1 a2,Nat.lt_of_le_of_lt (Nat.div_le_self _ _) (by omega)⟩ rfl ?_
 rintro m Γ H ⟨q,r,rfl,rfl,rfl,hqt,hr,heq,hqb⟩
 refine zc 2 rfl (dr_ 0 [] [] (dz 1 rfl ?_))
 by_cases hq:4294967296≤q
 ·refine kq_ rfl (geT rfl) (dz 20 rfl (DK_nil (za 6 rfl ?_)))
  have hlt:e < q:=by rw [← he];exact est_lt h1 hr hqt (.inl hq)
  have hq0:0 < q:=by omega
  refine zc 2 rfl (tq_ rfl (Jq_sub rfl rfl rfl (r:=((q - 1:Nat):Int)) (wu64 (by omega))) (zl 8 rfl (tq_ rfl (jsb (v.length - 1) rfl) (tq_ rfl (ji1 rfl (get_u32i (v.length - 1) (by omega) (by omega))) (tq_ rfl (jli rfl) (tq_ rfl (jcv v1 rfl (by rw [hv1];exact wu64 (by omega))) (tq_ rfl (Jq_add rfl rfl rfl (r:=((r + v1:Nat):Int)) (wu64 (by omega))) (zl 6 rfl ?_))))))))
  by_cases hr2:4294967296≤r + v1
  ·refine tq_ rfl (geT rfl) (zl 14 rfl ?_)
   exact r1_ hq_ rfl (by rw [show q - 1 = e from Nat.le_antisymm (by rw [← he];exact est_stop2 h1 hr2 (by rw [← hqt,Nat.sub_mul,Nat.one_mul];have:=Nat.le_mul_of_pos_left v1 hq0;omega)) (by omega)])
  ·refine tq_ rfl (geF rfl) (zl 5 rfl ?_)
   exact nx_ ⟨q - 1,r + v1,rfl,rfl,rfl,by rw [← hqt,Nat.sub_mul,Nat.one_mul];have:=Nat.le_mul_of_pos_left v1 hq0;omega,by omega,by omega,by omega⟩ rfl
 ·refine kq_ rfl (geF rfl) (dz 4 rfl ?_)
  have hm:q * v2≤4294967295 * 4294967295:=Nat.mul_le_mul (by omega) (by omega)
  refine kq_ rfl (jsb (v.length - 2) rfl) (kq_ rfl (ji1 rfl (get_u32i (v.length - 2) (by omega) (by omega))) (kq_ rfl (jli rfl) (kq_ rfl (jcv v2 rfl (by rw [hv2e];exact wu64 (by omega))) (kq_ rfl (Jq_mul rfl rfl rfl (r:=((q * v2:Nat):Int)) (wu64 (by rw [← Int.natCast_mul];omega))) (dz 1 rfl ?_)))))
  refine kq_ rfl (Jq_shl rfl rfl rfl (by decide) (r:=((r * 2 ^ 32:Nat):Int)) (shl64 _ 32 rfl (by omega))) (dz 2 rfl (kq_ rfl (jsb (v.length - 2) rfl) (kq_ rfl (ji1 rfl (get_u32i (v.length - 2) (by omega) (by omega))) (kq_ rfl (jli rfl) (kq_ rfl (jcv s2 rfl (by rw [hs2];exact wu64 (by omega))) ?_)))))
  refine kq_ rfl (Jq_or rfl rfl rfl (r:=((r * 2 ^ 32 + s2:Nat):Int)) (or64 32 (Nat.mul_mod_left _ _) (by omega) (by omega))) ?_
  by_cases hc:r * 2 ^ 32 + s2 < q * v2
  ·refine kq_ rfl (gtT rfl) (dz 1 rfl (DK_nil (za 6 rfl ?_)))
   have hlt:e < q:=by rw [← he];exact est_lt h1 hr hqt (.inr hc)
   have hq0:0 < q:=by omega
   refine zc 2 rfl (tq_ rfl (Jq_sub rfl rfl rfl (r:=((q - 1:Nat):Int)) (wu64 (by omega))) (zl 8 rfl (tq_ rfl (jsb (v.length - 1) rfl) (tq_ rfl (ji1 rfl (get_u32i (v.length - 1) (by omega) (by omega))) (tq_ rfl (jli rfl) (tq_ rfl (jcv v1 rfl (by rw [hv1];exact wu64 (by omega))) (tq_ rfl (Jq_add rfl rfl rfl (r:=((r + v1:Nat):Int)) (wu64 (by omega))) (zl 6 rfl ?_))))))))
   by_cases hr2:4294967296≤r + v1
   ·refine tq_ rfl (geT rfl) (zl 14 rfl ?_)
    exact r1_ hq_ rfl (by rw [show q - 1 = e from Nat.le_antisymm (by rw [← he];exact est_stop2 h1 hr2 (by rw [← hqt,Nat.sub_mul,Nat.one_mul];have:=Nat.le_mul_of_pos_left v1 hq0;omega)) (by omega)])
   ·refine tq_ rfl (geF rfl) (zl 5 rfl ?_)
    exact nx_ ⟨q - 1,r + v1,rfl,rfl,rfl,by rw [← hqt,Nat.sub_mul,Nat.one_mul];have:=Nat.le_mul_of_pos_left v1 hq0;omega,by omega,by omega,by omega⟩ rfl
  ·refine kq_ rfl (gtF rfl) (dz 1 rfl (DK_nil (za 13 rfl ?_)))
   exact r1_ hq_ rfl (by rw [show q = e from Nat.le_antisymm (by rw [← he];exact est_stop1 h1 (by omega) (Nat.le_of_not_lt hc) hqt) heq])
set_option maxRecDepth 10000 in
theorem reduce_spec (pre s post v:List Nat) (q:Nat) (hs:Small s) (hv:Small v) (hsl:s.length = v.length + 1) (hvl:v.length≤20000000000000) (hV:0 < val v) (hlt:val s < val v * 4294967296) (hq:q = val s / val v ∨ q = val s / val v + 1):CtrM Tryz.prog 197 164 pre.length (v.length + 1) ((pre ++ s ++ post).map u32L) ((pre ++ padL (v.length + 1) (val s % val v) ++ post).map u32L) [V.one (natL v),V.one (Leaf.val (.int .u64 ((q:Nat):Int)))] (R.one (V.one (Leaf.val (.int .u32 ((val s / val v:Nat):Int))))):=by
 refine CtrM.of_body Tryz.func197 rfl Tryz.ntmps197 (Nat.le_of_ble_eq_true rfl) (fun w0 A0 bk hX=>?_)
 refine qc_ (zc 1 rfl ?_)
 have hqt:val s / val v < 4294967296:=by rw [Nat.div_lt_iff_lt_mul hV,Nat.mul_comm];exact hlt
 have hqB:q≤4294967296:=by omega
 refine zc 14 rfl (tq_ rfl (jln rfl) (zl 4 rfl ?_))
 refine lpR_ (fun m Γ H=>∃ (i:Nat) (s1:List Nat) (c:Nat) (b:Nat),v.length - i = m∧Γ = [(0,some (D.part 0 pre.length (v.length + 1))),(1,some (D.v (V.one (natL v)))),(2,some (D.val (.int .u64 ((q:Nat):Int)))),(7,some (D.val (.int .u64 ((c:Nat):Int)))),(8,some (D.val (.int .u64 ((b:Nat):Int)))),(15,some (D.v (V.one (natL v)))),(16,some (D.int ((v.length:Nat):Int))),(17,some (D.int ((i:Nat):Int)))]∧H = [some ⟨164,(pre ++ s1 ++ post).map u32L,some 1,some (.inl bk)⟩]∧i≤v.length∧s1.length = s.length∧Small s1∧c < 4294967296∧b≤1∧val (s1.take i) + q * val (v.take i) = val (s.take i) + (c + b) * 4294967296 ^ i∧s1.drop i = s.drop i) ⟨0,s,0,0,rfl,rfl,rfl,Nat.zero_le _,rfl,hs,by omega,by omega,by simp [val],rfl⟩ rfl ?_
 rintro m Γ H ⟨i,s1,c,b,rfl,rfl,rfl,hile,hl1,hs1,hc,hb,heq,hdr⟩
 refine zc 2 rfl ?_
 by_cases hi:i < v.length
 ·refine tq_ rfl (ltT rfl) (zl 9 rfl ?_)
  have hvi:=hv.get i hi;have hsi:=hs1.get i (by omega)
  have hm:q * v[i]≤4294967296 * 4294967295:=Nat.mul_le_mul hqB (by omega)
  obtain ⟨t,ht⟩:∃ t,t = c + q * v[i]:=⟨_,rfl⟩
  have htb:t < 18446744073709551616:=by omega
  obtain ⟨x,hx⟩:∃ x,x = (s1[i]'(by omega) + (18446744073709551616 - (t % 4294967296 + b))) % 18446744073709551616:=⟨_,rfl⟩
  have hd:=sub_digit (l:=t % 4294967296) (b:=b) hsi (by omega)
  simp only [← hx] at hd
  refine zc 2 rfl (tq_ rfl (ji1 rfl (get_u32 (by omega))) (tq_ rfl (jli rfl) (zl 9 rfl (tq_ rfl (jc6 (v[i]'hi) rfl) (tq_ rfl (Jq_mul rfl rfl rfl (r:=((q * v[i]'hi:Nat):Int)) (wu64 (by rw [← Int.natCast_mul];omega))) (tq_ rfl (Jq_add rfl rfl rfl (r:=((t:Nat):Int)) (by rw [ht];exact wu64 (by omega))) (zl 7 rfl ?_)))))))
  refine tq_ rfl (Jq_index_part rfl rfl rfl rfl (by decide) (by simp;omega) un25 ty164 (by omega) (by omega) (off:=pre.length + (i)) (by omega)) (tq_ rfl (Jq_load rfl rfl rfl (by decide) ty164 (get_part rfl (by omega))) (tq_ rfl (jc6 (s1[i]'(by omega)) rfl) (zl 1 rfl (tq_ rfl (jc3 (t % 4294967296) rfl) (tq_ rfl (jc6 (t % 4294967296) rfl) ?_)))))
  refine tq_ rfl (Jq_sub rfl rfl rfl (r:=(((s1[i]'(by omega) + (18446744073709551616 - t % 4294967296)) % 18446744073709551616:Nat):Int)) (wu64 (by omega))) (zl 1 rfl (tq_ rfl (Jq_sub rfl rfl rfl (r:=((x:Nat):Int)) (wu64 (by omega))) (zl 8 rfl (tq_ rfl (jc3 (x % 4294967296) rfl) ?_))))
  refine tq_ rfl (Jq_index_part rfl rfl rfl rfl (by decide) (by simp;omega) un25 ty164 (by omega) (by omega) (off:=pre.length + (i)) (by omega)) (te_ rfl (Je_store (ls:=((pre ++ s1.set (i) (x % 4294967296) ++ post).map u32L)) rfl rfl rfl rfl ty164 rfl (by decide) (by simp;omega) (splice_part rfl (by omega))) (zl 5 rfl ?_))
  refine tq_ rfl (Jq_shr rfl rfl rfl (by decide) (r:=((x / 9223372036854775808:Nat):Int)) (shr_nat _ 63 rfl)) (zl 5 rfl (tq_ rfl (Jq_shr rfl rfl rfl (by decide) (r:=((t / 4294967296:Nat):Int)) (shr_nat _ 32 rfl)) (zl 5 rfl (tq_ rfl (jad (i + 1) rfl) (zl 2 rfl ?_)))))
  exact nx_ ⟨i + 1,_,_,_,rfl,rfl,rfl,by omega,by simp [hl1],hs1.set _ _ (by omega),by omega,hd.2,red_step (by omega) (by omega) hi heq hdr _ _ t ht hd.1,red_drop hdr⟩ rfl
 ·refine tq_ rfl (ltF rfl) (zl 10 rfl ?_)
  have hie:i = v.length:=by omega
  subst hie
  have hsn:=hs1.get v.length (by omega)
  obtain ⟨x,hx⟩:∃ x,x = (s1[v.length]'(by omega) + (18446744073709551616 - (c + b))) % 18446744073709551616:=⟨_,rfl⟩
  have hd:=sub_digit (l:=c) (b:=b) hsn (by omega)
  simp only [← hx] at hd
  have htot:=red_total (by omega) hsl rfl heq hdr hd.1
  have hs2:=hs1.set v.length (x % 4294967296) (by omega)
  have hl2:(s1.set v.length (x % 4294967296)).length = v.length + 1:=by simp;omega
  refine zc 3 rfl (tq_ rfl (jln rfl) (tq_ rfl (Jq_index_part rfl rfl rfl rfl (by decide) (by simp;omega) un25 ty164 (by omega) (by omega) (off:=pre.length + (v.length)) (by omega)) (tq_ rfl (Jq_load rfl rfl rfl (by decide) ty164 (get_part rfl (by omega))) (tq_ rfl (jc6 (s1[v.length]'(by omega)) rfl) (zl 1 rfl ?_)))))
  refine tq_ rfl (Jq_sub rfl rfl rfl (r:=(((s1[v.length]'(by omega) + (18446744073709551616 - c)) % 18446744073709551616:Nat):Int)) (wu64 (by omega))) (zl 1 rfl (tq_ rfl (Jq_sub rfl rfl rfl (r:=((x:Nat):Int)) (wu64 (by omega))) (zl 7 rfl (tq_ rfl (jln rfl) (zl 1 rfl (tq_ rfl (jc3 (x % 4294967296) rfl) ?_))))))
  refine tq_ rfl (Jq_index_part rfl rfl rfl rfl (by decide) (by simp;omega) un25 ty164 (by omega) (by omega) (off:=pre.length + (v.length)) (by omega)) (te_ rfl (Je_store (ls:=((pre ++ s1.set (v.length) (x % 4294967296) ++ post).map u32L)) rfl rfl rfl rfl ty164 rfl (by decide) (by simp;omega) (splice_part rfl (by omega))) (zl 6 rfl ?_))
  refine tq_ rfl (Jq_shr rfl rfl rfl (by decide) (r:=((x / 9223372036854775808:Nat):Int)) (shr_nat _ 63 rfl)) ?_
  by_cases hx0:x / 9223372036854775808 = 0
  ·refine tq_ rfl (eqT rfl) (zl 4 rfl ?_)
   rw [hx0,Nat.zero_mul,Nat.add_zero] at htot
   obtain ⟨k1,k2⟩:=red_fin0 hq hV htot
   refine zc 2 rfl (tq_ rfl (jcv (val s / val v) rfl (by rw [← k1];exact wu32 (by omega))) (zl 3 rfl ?_))
   exact Tc_retM (fun _ _ h=>h) rfl rfl rfl rfl (by simp;omega) (by rw [padL_of hs2 hl2 k2]) hX
  ·refine tq_ rfl (eqF rfl) (zl 6 rfl ?_)
   have hx1:x / 9223372036854775808 = 1:=by omega
   rw [hx1,Nat.one_mul] at htot
   have hbd:=val_lt hs2
   rw [hl2] at hbd
   obtain ⟨k1,k2⟩:=red_fin1 hq hV hbd htot
   generalize s1.set v.length (x % 4294967296) = s2 at *
   refine zc 8 rfl (tq_ rfl (jln rfl) (zl 4 rfl ?_))
   refine lpR_ (fun m Γ H=>∃ (i:Nat) (s3:List Nat) (c:Nat),v.length - i = m∧Γ = [(0,some (D.part 0 pre.length (v.length + 1))),(1,some (D.v (V.one (natL v)))),(2,some (D.val (.int .u64 ((q:Nat):Int)))),(7,some (D.val (.int .u64 ((c:Nat):Int)))),(70,some (D.v (V.one (natL v)))),(71,some (D.int ((v.length:Nat):Int))),(72,some (D.int ((i:Nat):Int)))]∧H = [some ⟨164,(pre ++ s3 ++ post).map u32L,some 1,some (.inl bk)⟩]∧i≤v.length∧s3.length = v.length + 1∧Small s3∧c≤1∧val (s3.take i) + c * 4294967296 ^ i = val (s2.take i) + val (v.take i)∧s3.drop i = s2.drop i) ⟨0,s2,0,rfl,rfl,rfl,Nat.zero_le _,hl2,hs2,by omega,by simp [val],rfl⟩ rfl ?_
   rintro m Γ H ⟨i,s3,c,rfl,rfl,rfl,hile,hl3,hs3,hc3,heq3,hdr3⟩
   refine zc 2 rfl ?_
   by_cases hi:i < v.length
   ·refine tq_ rfl (ltT rfl) (zl 9 rfl ?_)
    have hvi:=hv.get i hi;have hsi:=hs3.get i (by omega)
    have hge:=get_of_drop hdr3 (by omega) (by omega)
    refine zc 2 rfl (tq_ rfl (ji1 rfl (get_u32 (by omega))) (tq_ rfl (jli rfl) (zl 9 rfl (tq_ rfl (Jq_index_part rfl rfl rfl rfl (by decide) (by simp;omega) un25 ty164 (by omega) (by omega) (off:=pre.length + (i)) (by omega)) (tq_ rfl (Jq_load rfl rfl rfl (by decide) ty164 (get_part rfl (by omega))) (tq_ rfl (jc6 (s3[i]'(by omega)) rfl) (zl 1 rfl (tq_ rfl (jc6 (v[i]'hi) rfl) ?_))))))))
    refine tq_ rfl (Jq_add rfl rfl rfl (r:=((s3[i]'(by omega) + v[i]'hi:Nat):Int)) (wu64 (by omega))) (tq_ rfl (Jq_add rfl rfl rfl (r:=((c + (s3[i]'(by omega) + v[i]'hi):Nat):Int)) (wu64 (by omega))) (zl 8 rfl (tq_ rfl (jc3 ((c + (s3[i]'(by omega) + v[i]'hi)) % 4294967296) rfl) ?_)))
    refine tq_ rfl (Jq_index_part rfl rfl rfl rfl (by decide) (by simp;omega) un25 ty164 (by omega) (by omega) (off:=pre.length + (i)) (by omega)) (te_ rfl (Je_store (ls:=((pre ++ s3.set (i) ((c + (s3[i]'(by omega) + v[i]'hi)) % 4294967296) ++ post).map u32L)) rfl rfl rfl rfl ty164 rfl (by decide) (by simp;omega) (splice_part rfl (by omega))) (zl 4 rfl ?_))
    refine tq_ rfl (Jq_shr rfl rfl rfl (by decide) (r:=(((c + (s3[i]'(by omega) + v[i]'hi)) / 4294967296:Nat):Int)) (shr_nat _ 32 rfl)) (zl 5 rfl (tq_ rfl (jad (i + 1) rfl) (zl 2 rfl ?_)))
    exact nx_ ⟨i + 1,_,_,rfl,rfl,rfl,by omega,by simp [hl3],hs3.set _ _ (by omega),by omega,add_step (a:=s2) (b:=v) (by omega) (by omega) heq3 (by rw [getD_of hi,hge,Nat.add_assoc]),red_drop hdr3⟩ rfl
   ·refine tq_ rfl (ltF rfl) (zl 10 rfl ?_)
    have hie:i = v.length:=by omega
    subst hie
    have hsn:=hs3.get v.length (by omega)
    have hR:val s % val v < 4294967296 ^ (v.length + 1):=Nat.lt_of_lt_of_le (Nat.mod_lt _ hV) (Nat.le_of_lt (Nat.lt_of_lt_of_le (val_lt hv) (Nat.pow_le_pow_right (by decide) (by omega))))
    have hfin:=red_back hs3 hl3 hl2 rfl heq3 hdr3 rfl hR k2
    obtain ⟨Q,hQ⟩:∃ Q,Q = val s / val v:=⟨_,rfl⟩
    rw [← hQ] at hqt
    refine zc 3 rfl (tq_ rfl (jln rfl) (tq_ rfl (Jq_index_part rfl rfl rfl rfl (by decide) (by simp;omega) un25 ty164 (by omega) (by omega) (off:=pre.length + (v.length)) (by omega)) (tq_ rfl (Jq_load rfl rfl rfl (by decide) ty164 (get_part rfl (by omega))) (zl 1 rfl (tq_ rfl (jc3 c rfl) ?_)))))
    refine tq_ rfl (Jq_add rfl rfl rfl (r:=(((s3[v.length]'(by omega) + c) % 4294967296:Nat):Int)) (wu32 (by omega))) (tq_ rfl (Jq_index_part rfl rfl rfl rfl (by decide) (by simp;omega) un25 ty164 (by omega) (by omega) (off:=pre.length + (v.length)) (by omega)) ?_)
    refine te_ rfl (Je_store (ls:=((pre ++ s3.set (v.length) ((s3[v.length]'(by omega) + c) % 4294967296) ++ post).map u32L)) rfl rfl rfl rfl ty164 rfl (by decide) (by simp;omega) (splice_part rfl (by omega))) (zl 5 rfl (tq_ rfl (Jq_sub rfl rfl rfl (r:=((Q:Nat):Int)) (by rw [k1,← hQ];exact wu64 (by omega))) (tq_ rfl (jc3 Q rfl) (zl 3 rfl ?_))))
    exact Tc_retM (fun _ _ h=>h) rfl rfl (by rw [hQ]) rfl (by simp;omega) (by rw [padL_of (n:=v.length + 1) (hs3.set _ _ (Nat.mod_lt _ (by decide))) (by simp [hl3]) hfin]) hX
end Go.Proofs.YtmpkandbccallaaGreatDoor
set_option linter.unusedSimpArgs false
set_option linter.unusedVariables false
namespace Go.Proofs.YtmpkandbccallaaGreatDoor
open Go Go.RowKit Rc
set_option maxRecDepth 10000 in
theorem divmod_spec (la lb:List Nat) (hsa:Small la) (hsb:Small lb) (hla0:la.length≤9000000000000) (hlb0:lb.length≤9000000000000) (hb0:0 < val lb):Ctr Tryz.prog 160 [V.one (natL la),V.one (natL lb)] (R.tup [V.one (natL (limbs (val la / val lb))),V.one (natL (limbs (val la % val lb))),V.one (Leaf.val (.int .i64 0))]):=by
 refine bd_ Tryz.func160 Tryz.ntmps160 rfl (fun w0 A0=>?_)
 refine zc 10 rfl (tc_ fn161 rfl (trim_spec la hsa) (zl 1 rfl (tc_ fn161 rfl (trim_spec lb hsb) (zl 7 rfl ?_))))
 have hla:=limbs_val_length hsa;have hlb:=limbs_val_length hsb
 have va:=val_limbs (val la);have vb:=val_limbs (val lb);have sa:=small_limbs (val la);have sb:=small_limbs (val lb)
 have ca:=canon_limbs (val la);have cb:=canon_limbs (val lb)
 have hbl:0 < (limbs (val lb)).length:=Nat.pos_of_ne_zero (fun h=>by have:=limbs_eq_nil.1 (List.eq_nil_of_length_eq_zero h);omega)
 generalize limbs (val la) = a at *
 generalize limbs (val lb) = b at *
 refine zc 2 rfl (tq_ rfl (jln rfl) (tq_ rfl (eqF rfl) (zl 8 rfl (tc_ fn146 rfl (cmp_spec a b sa sb) ?_))))
 by_cases hab:val a < val b
 ·refine tq_ rfl (ltT rfl (by rw [cmpN_lt hab];decide)) (zl 7 rfl (tc_ fn157 rfl (make_spec a sa (by omega)) (zl 5 rfl ?_)))
  exact r3_ hq_ rfl (by rw [← va,← vb,Nat.div_eq_of_lt hab,Nat.mod_eq_of_lt hab,limbs_zero] <;> rfl)
 ·refine tq_ rfl (ltF rfl (by unfold cmpN;rw [if_neg hab];split <;> decide)) (zl 7 rfl (tq_ rfl (jln rfl) ?_))
  by_cases h1:b.length = 1
  ·refine tq_ rfl (eqT rfl) (zl 8 rfl (tq_ rfl (ji1 rfl (get_u32i 0 (by omega) rfl)) (tq_ rfl (jli rfl) ?_)))
   have hb1:=sb.get 0 (by omega)
   have vb1:val b = b[0]:=by
    match b,h1 with
    | [d],_=>simp [val]
   have hb2:0 < b[0]:=by rw [← vb1,vb];exact hb0
   refine tc_ fn194 rfl (short_spec a (b[0]'(by omega)) sa hb1 hb2 (by omega)) (zl 16 rfl ?_)
   exact r3_ hq_ rfl (by rw [← va,← vb,vb1])
  ·refine tq_ rfl (eqF rfl) (zl 8 rfl ?_)
   have hbp:b.length - 1 < b.length:=Nat.sub_lt hbl (by decide)
   have htb:=sb.get (b.length - 1) hbp
   obtain ⟨sh,hshe,hsh,hvlen,hvtop⟩:=norm_ex cb hbl
   refine zc 3 rfl (tq_ rfl (jln rfl) (tq_ rfl (jsb (b.length - 1) rfl) (tq_ rfl (ji1 rfl (get_u32i (b.length - 1) hbp rfl)) (tq_ rfl (jli rfl) (tc_ fn195 rfl (lz32_spec (b[b.length - 1]'hbp) htb) (zl 4 rfl ?_))))))
   rw [hshe]
   have hp:0 < 2 ^ sh:=Nat.pow_pos (by decide)
   have hab2:b.length≤a.length:=by
    have:=limbs_length_mono (Nat.le_of_not_lt hab)
    rwa [limbs_val ca,limbs_val cb] at this
   have hVlt:val b * 2 ^ sh < 4294967296 ^ b.length:=by have:=limbs_length_le (n:=val b * 2 ^ sh) (k:=b.length);rw [hvlen] at this;exact this.1 (Nat.le_refl _)
   have hVpos:0 < val b * 2 ^ sh:=Nat.mul_pos (by omega) hp
   have hVge:4294967296 ^ (b.length - 1) * 2 ^ sh≤val b * 2 ^ sh:=by
    refine Nat.mul_le_mul_right _ ?_
    have:=limbs_length_le (n:=val b) (k:=b.length - 1)
    rw [limbs_val cb] at this
    omega
   obtain ⟨hAlt,hAtop⟩:=dm_start sa rfl rfl hsh hab2 hVge hbl
   have hVpad:val (padL (b.length + 1) (val b * 2 ^ sh)) = val b * 2 ^ sh:=val_padL (Nat.lt_trans hVlt (Nat.pow_lt_pow_right (by decide) (by omega)))
   refine zc 3 rfl (te_ rfl (Je_call_fresh (i:=0) rfl fn196 rfl (left_own a sh sa hsh (by omega)) rfl) (zl 2 rfl (tc_ fn196 rfl (left_spec b sh sb hsh (by omega)) (tc_ fn161 rfl (trim_spec (padL (b.length + 1) (val b * 2 ^ sh)) (small_padL _ _)) (zl 5 rfl ?_)))))
   rw [hVpad]
   have hvs:=small_limbs (val b * 2 ^ sh);have hvv:=val_limbs (val b * 2 ^ sh)
   generalize limbs (val b * 2 ^ sh) = v at *
   generalize hVe:val b * 2 ^ sh = vv at *
   refine zc 2 rfl (tq_ rfl (jln rfl) (zl 1 rfl (tq_ rfl (jln rfl) (tq_ rfl (jsb (a.length - b.length) rfl) (tq_ rfl (jad (a.length - b.length + 1) rfl) ?_)))))
   obtain ⟨ti3,hi3,hz3,hs3,hb3⟩:=in164
   refine te_ rfl (Je_make (i:=1) (n:=a.length - b.length + 1) (ls:=((List.replicate (a.length - b.length + 1) 0).map u32L)) rfl rfl rfl un25 hi3 hz3 hs3 (by decide) rfl (by decide) rfl (by rw [hb3];omega) (by simp only [maxLen];omega) (zc_u32 _) rfl) (zl 7 rfl (tq_ rfl (Jq_len_own rfl rfl rfl (by decide) rfl (by simp) (by decide) un25) ?_))
   refine tq_ rfl (Jq_sub rfl rfl rfl (r:=((a.length - b.length + 1:Nat):Int) - 1) (w64 (by omega) (by omega) (by omega))) (zl 4 rfl ?_)
   refine lpR_ (fun m Γ H=>∃ (k:Nat) (us:List Nat) (out:List Nat),k = m∧Γ = [(0,some (D.v (V.one (natL a)))),(1,some (D.v (V.one (natL b)))),(9,some (D.val (.int .i64 ((sh:Nat):Int)))),(10,some (D.own 0 (a.length + 1))),(11,some (D.v (V.one (natL v)))),(12,some (D.own 1 (a.length - b.length + 1))),(13,some (D.int ((k:Int) - 1)))]∧H = [some ⟨164,(us).map u32L,some 1,none⟩,some ⟨164,(out).map u32L,some 1,none⟩]∧k≤out.length∧us.length = a.length + 1∧Small us∧out.length = a.length - b.length + 1∧Small out∧val us + vv * (4294967296 ^ k * val (out.drop k)) = val a * 2 ^ sh∧val (us.drop k) < vv) ⟨a.length - b.length + 1,padL (a.length + 1) (val a * 2 ^ sh),List.replicate (a.length - b.length + 1) 0,rfl,rfl,rfl,by simp,padL_length _ _,small_padL _ _,by simp,Small.replicate _,by rw [List.drop_of_length_le (by simp),val_padL hAlt,show val [] = 0 from rfl,Nat.mul_zero,Nat.mul_zero,Nat.add_zero],hAtop⟩ rfl ?_
   rintro m Γ H ⟨k,us,out,rfl,rfl,rfl,hko,hul,hus,hol,hos,heq,htop⟩
   refine zc 4 rfl ?_
   by_cases hk:0 < k
   ·refine tq_ rfl (geT rfl) (zl 8 rfl ?_)
    obtain ⟨pre,s,post,hsplit,hpl,hsl⟩:=dm_split (n:=v.length) hk (us:=us) (by omega)
    have hpk:(k:Int) - 1 = ((pre.length:Nat):Int):=by omega
    rw [hpk]
    have hk1:k = pre.length + 1:=by omega
    subst hk1
    subst hsplit
    obtain ⟨ss,sp,sq,hpost,hslt⟩:=dm_seg hus hsl (by rw [hvlen];exact hVlt) htop
    obtain ⟨hst1,hst2⟩:=dm_step (n:=v.length) rfl (by omega) hpost hVpos (by rw [hvlen];exact hVlt) heq
    have hbnd:=estimate_bounds ss hvs hsl (by omega) (by rw [hvlen];exact hvtop) (by rw [hvv];exact hslt)
    rw [hvv] at hbnd
    have hbq:est (s.getD v.length 0 * 4294967296 + s.getD (v.length - 1) 0) (s.getD (v.length - 2) 0) (v.getD (v.length - 1) 0) (v.getD (v.length - 2) 0) = val s / vv ∨ est (s.getD v.length 0 * 4294967296 + s.getD (v.length - 1) 0) (s.getD (v.length - 2) 0) (v.getD (v.length - 1) 0) (v.getD (v.length - 2) 0) = val s / vv + 1:=by generalize est (s.getD v.length 0 * 4294967296 + s.getD (v.length - 1) 0) (s.getD (v.length - 2) 0) (v.getD (v.length - 1) 0) (v.getD (v.length - 2) 0) = e at *;generalize val s / vv = z at *;omega
    have hqv:val s / vv < 4294967296:=by rw [Nat.div_lt_iff_lt_mul hVpos,Nat.mul_comm];exact hslt
    refine zc 5 rfl (tq_ rfl (jln rfl) (tq_ rfl (jad (pre.length + v.length) rfl) (tq_ rfl (jad (pre.length + v.length + 1) rfl) (tq_ rfl (Jq_slice_own (lo:=pre.length) (hi:=pre.length + v.length + 1) rfl rfl rfl rfl rfl (by decide) rfl (by rw [List.length_map];exact hul) un25 ty164 (by omega) (by omega) (m:=v.length + 1) (by omega)) (zl 10 rfl ?_)))))
    refine te_ rfl (Je_call_view (ls':=s.map u32L) rfl fn198 rfl rfl rfl rfl (by omega) (by simp;omega) (by simp [← hsl]) rfl (by rw [← hsl];exact estimate_spec s v ss hvs hsl (by omega) (by omega) (by rw [hvlen];omega))) ?_
    refine te_ rfl (Je_call_mut rfl fn197 rfl rfl rfl (by simp;omega) rfl (show CtrM Tryz.prog 197 164 pre.length (v.length + 1) ((pre ++ s ++ post).map u32L) ((pre ++ padL (v.length + 1) (val s % vv) ++ post).map u32L) [V.one (natL v),V.one (Leaf.val (.int .u64 ((est (s.getD v.length 0 * 4294967296 + s.getD (v.length - 1) 0) (s.getD (v.length - 2) 0) (v.getD (v.length - 1) 0) (v.getD (v.length - 2) 0):Nat):Int)))] (R.one (V.one (Leaf.val (.int .u32 ((val s / vv:Nat):Int))))) from by rw [← hvv];exact reduce_spec pre s post v _ ss hvs hsl (by omega) (by rw [hvv];exact hVpos) (by rw [hvv];exact hslt) (by rw [hvv];exact hbq))) ?_
    refine tq_ rfl (Jq_index_own rfl rfl rfl rfl (by decide) (by simp [hol]) (by decide) un25 ty164 (by omega) (by omega) (off:=pre.length) (by omega)) (te_ rfl (Je_store (ls:=((out.set pre.length (val s / vv)).map u32L)) rfl rfl rfl rfl ty164 rfl (by decide) (by simp;omega) (splice_u32 (by omega))) (zl 5 rfl ?_))
    refine tq_ rfl (Jq_sub rfl rfl rfl (r:=((pre.length:Nat):Int) - 1) (w64 (by omega) (by omega) (by omega))) (zl 2 rfl ?_)
    exact nx_ ⟨pre.length,_,_,rfl,rfl,rfl,by simp;omega,by simp only [List.length_append,padL_length] at hul ⊢;omega,(sp.append (small_padL _ _)).append sq,by simp [hol],hos.set _ _ hqv,hst1,hst2⟩ rfl
   ·refine tq_ rfl (geF rfl) (zl 9 rfl ?_)
    have hk0:k = 0:=by omega
    subst hk0
    simp only [List.drop_zero,Nat.pow_zero,Nat.one_mul] at heq htop
    obtain ⟨f1,f2⟩:=dm_fin (x:=val us) (vb:=val b) (sh:=sh) (o:=val out) (va:=val a) (by rw [hVe];exact heq) (by rw [hVe];exact htop)
    refine zc 3 rfl (Tl_share_nat 92 (us) rfl rfl rfl rfl (by omega) (tc_ fn199 rfl (shr_spec us sh hus (by omega) (by omega)) (zl 10 rfl (Tl_share_nat 97 (out) rfl rfl rfl rfl (by omega) (tc_ fn161 rfl (trim_spec out hos) (zl 6 rfl ?_))))))
    exact r3_ hq_ rfl (by rw [f1,f2,va,vb])
theorem divmod_n (x y:Nat) (hx:(limbs x).length≤9000000000000) (hy:(limbs y).length≤9000000000000) (h0:0 < y):Ctr Tryz.prog 160 [V.one (natL (limbs x)),V.one (natL (limbs y))] (R.tup [V.one (natL (limbs (x / y))),V.one (natL (limbs (x % y))),V.one (Leaf.val (.int .i64 0))]):=by
 have h:=divmod_spec (limbs x) (limbs y) (small_limbs _) (small_limbs _) hx hy (by rw [val_limbs];exact h0)
 rw [val_limbs,val_limbs] at h
 exact h
set_option maxRecDepth 10000 in
theorem gcd_spec (la lb:List Nat) (hsa:Small la) (hsb:Small lb) (hla0:la.length≤9000000000000) (hlb0:lb.length≤9000000000000):Ctr Tryz.prog 159 [V.one (natL la),V.one (natL lb)] (R.one (V.one (natL (limbs (Nat.gcd (val la) (val lb)))))):=by
 refine bd_ Tryz.func159 Tryz.ntmps159 rfl (fun w0 A0=>?_)
 refine zc 6 rfl ?_
 have ha0:=limbs_val_length hsa;have hb0:=limbs_val_length hsb
 obtain ⟨g,hg⟩:∃ g,Nat.gcd (val la) (val lb) = g:=⟨_,rfl⟩
 rw [hg]
 refine zc 2 rfl (tc_ fn161 rfl (trim_spec la hsa) (zl 1 rfl (tc_ fn161 rfl (trim_spec lb hsb) (zl 6 rfl ?_))))
 refine lpR_ (fun m Γ H=>∃ (x:Nat) (y:Nat),y = m∧Γ = [(0,some (D.v (V.one (natL (limbs x))))),(1,some (D.v (V.one (natL (limbs y)))))]∧H = []∧Nat.gcd x y = g∧(limbs x).length≤9000000000000∧(limbs y).length≤9000000000000) ⟨val la,val lb,rfl,rfl,rfl,hg,by omega,by omega⟩ rfl ?_
 rintro m Γ H ⟨x,y,rfl,rfl,rfl,hxy,hx,hy⟩
 refine zc 4 rfl (tq_ rfl (jln rfl) ?_)
 by_cases hl:2 < (limbs y).length
 ·refine tq_ rfl (gtT rfl) (zl 7 rfl ?_)
  have hy0:0 < y:=Nat.pos_of_ne_zero (fun h=>by subst h;simp [limbs_zero] at hl)
  have hm:=Nat.mod_lt x hy0
  have hml:=limbs_length_mono (Nat.le_of_lt hm)
  refine zc 3 rfl (tc_ fn160 rfl (divmod_n x y hx hy hy0) (zl 16 rfl ?_))
  exact nx_ ⟨y,x % y,rfl,rfl,rfl,by rw [Nat.gcd_comm,← hxy,Nat.gcd_comm x y,Nat.gcd_rec y x],hy,by omega⟩ rfl hm
 ·refine tq_ rfl (gtF rfl) (zl 12 rfl (tq_ rfl (jln rfl) ?_))
  by_cases hz:(limbs y).length = 0
  ·refine tq_ rfl (eqT rfl) (zl 4 rfl ?_)
   have hy0:y = 0:=limbs_eq_nil.1 (List.eq_nil_of_length_eq_zero hz)
   subst hy0
   rw [Nat.gcd_zero_right] at hxy
   subst hxy
   refine zc 2 rfl (tc_ fn157 rfl (make_spec (limbs x) (small_limbs _) (by omega)) (zl 3 rfl ?_))
   exact r1_ hq_ rfl (by rw [val_limbs])
  ·refine tq_ rfl (eqF rfl) (zl 6 rfl ?_)
   have hy0:0 < y:=Nat.pos_of_ne_zero (fun h=>by subst h;simp [limbs_zero] at hz)
   have hm:=Nat.mod_lt x hy0
   have hml:=limbs_length_mono (Nat.le_of_lt hm)
   have hy64:y < 18446744073709551616:=(limbs_length_le (n:=y) (k:=2)).1 (by omega)
   refine zc 3 rfl (tc_ fn160 rfl (divmod_n x y hx hy hy0) (zl 12 rfl (tc_ fn193 rfl (uint_spec y) (zl 1 rfl ?_))))
   rw [if_pos hy64]
   refine zl 9 rfl (tc_ fn193 rfl (uint_spec (x % y)) (zl 1 rfl ?_))
   rw [if_pos (Nat.lt_trans hm hy64)]
   refine zl 8 rfl (lpR_ (fun m Γ H=>∃ (p:Nat) (q:Nat),q = m∧Γ = [(11,some (D.val (.int .u64 ((p:Nat):Int)))),(13,some (D.val (.int .u64 ((q:Nat):Int))))]∧H = []∧Nat.gcd p q = g∧p < 18446744073709551616∧q < 18446744073709551616) ⟨y,x % y,rfl,rfl,rfl,by rw [Nat.gcd_comm,← hxy,Nat.gcd_comm x y,Nat.gcd_rec y x],hy64,Nat.lt_trans hm hy64⟩ rfl ?_)
   rintro m Γ H ⟨p,q,rfl,rfl,rfl,hpq,hp,hq⟩
   refine zc 4 rfl ?_
   by_cases hq0:0 < q
   ·refine tq_ rfl (gtT rfl) (zl 6 rfl ?_)
    have hmq:=Nat.mod_lt p hq0
    refine dr_ 0 [] [] (dz 3 rfl (kq_ rfl (Jq_rem rfl rfl rfl (by omega) (r:=((p % q:Nat):Int)) (tmodN _ _)) (dz 2 rfl (DK_nil (za 1 rfl ?_)))))
    exact nx_ ⟨q,p % q,rfl,rfl,rfl,by rw [Nat.gcd_comm,← hpq,Nat.gcd_comm p q,Nat.gcd_rec q p],hq,Nat.lt_trans hmq hq⟩ rfl hmq
   ·refine tq_ rfl (gtF rfl) (zl 9 rfl ?_)
    have hq00:q = 0:=by omega
    subst hq00
    rw [Nat.gcd_zero_right] at hpq
    subst hpq
    refine zc 2 rfl (tc_ fn183 rfl (of_spec p hp) (zl 3 rfl ?_))
    exact r1_ hq_ rfl rfl
end Go.Proofs.YtmpkandbccallaaGreatDoor
set_option linter.unusedSimpArgs false
set_option linter.unusedVariables false
namespace Go.Proofs.YtmpkandbccallaaGreatDoor
open Go Go.RowKit Rc
set_option maxRecDepth 10000 in
theorem rmake_spec (l:List Nat) (hs:Small l) (hl:l.length≤10000000000000):Ctr Tryz.prog 173 [V.one (natL l)] (R.one (V.one (natL (limbs (val l))))):=by
 refine bd_ Tryz.func173 Tryz.ntmps173 rfl (fun w0 A0=>?_)
 refine zc 1 rfl ?_
 refine Tc_len (s:=0) rfl (fun hm=>?_)
 refine zc 7 rfl (tq_ rfl (jln rfl) (zl 5 rfl (lpR_ (fun m Γ H=>∃ (n:Nat),n = m∧Γ = [(0,some (D.v (V.one (natL l)))),(3,some (D.int n))]∧H = []∧n≤l.length∧∀ i (hi:i < l.length),n≤i→l[i] = 0) ⟨l.length,rfl,rfl,rfl,Nat.le_refl _,fun i hi h=>absurd hi (by omega)⟩ rfl ?_)))
 rintro m Γ H ⟨n,rfl,rfl,rfl,h⟩
 refine zc 4 rfl ?_
 by_cases hp:0 < n
 ·refine tq_ rfl (gtT rfl) (zl 3 rfl (tq_ rfl (jsb (n - 1) rfl) (tq_ rfl (ji1 rfl (get_u32i (n - 1) (by omega) (by omega))) (tq_ rfl (jli rfl) ?_))))
  by_cases hz:l[n - 1]'(by omega) = 0
  ·refine tq_ rfl (eqT rfl) (zl 9 rfl (tq_ rfl (jsb (n - 1) rfl) (zl 3 rfl ?_)))
   exact nx_ ⟨n - 1,rfl,rfl,rfl,by omega,fun i hi h1=>(if e:i = n - 1 then by subst e;exact hz else h.2 i hi (by omega))⟩ rfl
  ·refine tq_ rfl (eqF rfl) (zl 11 rfl (Tl_build0 rfl rfl rfl rfl un25 ty164 rfl (zl 2 rfl (tq_ rfl (Jq_slice_hi_nat rfl rfl rfl un24 ty164 h.1) ?_))))
   obtain ⟨ti4,hi4,hz4,hs4,hb4⟩:=in164
   refine Tl_append rfl rfl rfl rfl rfl rfl rfl rfl rfl (by simp) (by simp) (by decide) un25 un24 hi4 hz4 hs4 rfl (by have:=List.length_take_le n l;simp only [maxLen];omega) (by have:=List.length_take_le n l;rw [hb4];omega) (nm:=(l.take n).length) (by simp) (ls:=((l.take n).map u32L)) (by simp) (zl 3 rfl (Tc_share_nat 2 (l.take n) rfl rfl rfl rfl rfl ?_))
   exact r1_ hq_ rfl (by rw [← limbs_take hs n h.1 h.2 (fun _=>hz)])
 ·refine tq_ rfl (gtF rfl) (zl 18 rfl (Tl_build0 rfl rfl rfl rfl un25 ty164 rfl (zl 2 rfl (tq_ rfl (Jq_slice_hi_nat rfl rfl rfl un24 ty164 h.1) ?_))))
  obtain ⟨ti5,hi5,hz5,hs5,hb5⟩:=in164
  refine Tl_append rfl rfl rfl rfl rfl rfl rfl rfl rfl (by simp) (by simp) (by decide) un25 un24 hi5 hz5 hs5 rfl (by have:=List.length_take_le n l;simp only [maxLen];omega) (by have:=List.length_take_le n l;rw [hb5];omega) (nm:=(l.take n).length) (by simp) (ls:=((l.take n).map u32L)) (by simp) (zl 3 rfl (Tc_share_nat 2 (l.take n) rfl rfl rfl rfl rfl ?_))
  exact r1_ hq_ rfl (by rw [← limbs_take hs n h.1 h.2 (fun h0=>absurd h0 hp)])
set_option maxRecDepth 10000 in
theorem limb_spec (a:List Nat) (i:Nat):Ctr Tryz.prog 172 [V.one (natL a),V.one (Leaf.val (.int .i64 ((i:Nat):Int)))] (R.one (V.one (Leaf.val (.int .u32 ((a.getD i 0:Nat):Int))))):=by
 refine bd_ Tryz.func172 Tryz.ntmps172 rfl (fun w0 A0=>?_)
 refine zc 10 rfl (tq_ rfl (jln rfl) ?_)
 by_cases hi:i < a.length
 ·refine tq_ rfl (ltT rfl) (zl 7 rfl (tq_ rfl (ji1 rfl (get_u32 (by omega))) (tq_ rfl (jli rfl) (zl 3 rfl ?_))))
  exact r1_ hq_ rfl (by rw [getD_of hi])
 ·refine tq_ rfl (ltF rfl) (zl 10 rfl ?_)
  exact r1_ hq_ rfl (by rw [getD_out (by omega)] <;> rfl)
set_option maxRecDepth 10000 in
theorem same_spec (a b:List Nat):Ctr Tryz.prog 58 [V.one (natL a),V.one (natL b)] (R.one (V.one (Leaf.val (.bool (decide (a = b)))))):=by
 refine bd_ Tryz.func58 Tryz.ntmps58 rfl (fun w0 A0=>?_)
 refine zc 1 rfl ?_
 refine Tc_len (s:=0) rfl (fun hma=>?_)
 refine Tc_len (s:=1) rfl (fun hmb=>?_)
 refine zc 8 rfl (tq_ rfl (jln rfl) (zl 1 rfl (tq_ rfl (jln rfl) ?_)))
 by_cases hne:a.length≠b.length
 ·refine tq_ rfl (neT rfl) (zl 8 rfl ?_)
  exact r1_ hq_ rfl (by rw [decide_eq_false (fun e=>hne (by rw [e]))])
 ·refine tq_ rfl (neF rfl) (zl 12 rfl (lpR_ (fun m Γ H=>∃ (k:Nat),a.length - k = m∧Γ = [(0,some (D.v (V.one (natL a)))),(1,some (D.v (V.one (natL b)))),(5,some (D.int ((k:Nat):Int)))]∧H = []∧k≤a.length∧a.take k = b.take k) ⟨0,rfl,rfl,rfl,Nat.zero_le _,rfl⟩ rfl ?_))
  rintro m Γ H ⟨k,rfl,rfl,rfl,hkle,hab⟩
  refine zc 5 rfl (tq_ rfl (jln rfl) ?_)
  by_cases hk:k < a.length
  ·refine tq_ rfl (ltT rfl) (zl 8 rfl (dr_ 0 [] [] (dz 2 rfl (kq_ rfl (ji1 rfl (get_u32 (by omega))) (kq_ rfl (jli rfl) (dz 2 rfl (kq_ rfl (ji1 rfl (get_u32 (by omega))) (kq_ rfl (jli rfl) ?_))))))))
   by_cases hd:a[k]'hk≠b[k]'(by omega)
   ·refine kq_ rfl (neT rfl) (DK_nil (za 7 rfl ?_))
    exact r1_ hq_ rfl (by rw [decide_eq_false (fun e=>hd (by subst e;rfl))])
   ·refine kq_ rfl (neF rfl) (DK_nil (za 7 rfl (tq_ rfl (jad (k + 1) rfl) (zl 2 rfl ?_))))
    exact nx_ ⟨k + 1,rfl,rfl,rfl,by omega,by rw [List.take_succ_eq_append_getElem hk,List.take_succ_eq_append_getElem (show k < b.length by omega),hab,Classical.not_not.1 hd]⟩ rfl
  ·refine tq_ rfl (ltF rfl) (zl 13 rfl ?_)
   exact r1_ hq_ rfl (by rw [decide_eq_true];rw [List.take_of_length_le (by omega),List.take_of_length_le (by omega)] at hab;exact hab)
set_option maxRecDepth 10000 in
theorem rof_spec (x:Nat) (hx:x < 18446744073709551616):Ctr Tryz.prog 141 [V.one (Leaf.val (.int .u64 x))] (R.one (V.one (natL (limbs x)))):=by
 refine bd_ Tryz.func141 Tryz.ntmps141 rfl (fun w0 A0=>?_)
 refine zc 8 rfl (tq_ rfl (jc3 (x % 4294967296) rfl) (zl 1 rfl (tq_ rfl (Jq_shr rfl rfl rfl (by decide) (r:=((x / 4294967296:Nat):Int)) (shr_nat x 32 rfl)) (tq_ rfl (jc3 (x / 4294967296) rfl) (te_ rfl (Je_buildSlice rfl un24 ty164 tz164 rfl (by decide) (by decide) rfl (by decide) rfl) ?_)))))
 refine tc_ fn173 rfl (rmake_spec [x % 4294967296,x / 4294967296] (Small.cons (by omega) (Small.cons (by omega) Small.nil)) (by simp)) (zl 3 rfl ?_)
 exact r1_ hq_ rfl (by rw [show val [x % 4294967296,x / 4294967296] = x from by simp;omega])
set_option maxRecDepth 10000 in
theorem ruint_ge (la:List Nat) (hs:Small la) (hl:la.length≤10000000000000) (hx:18446744073709551616≤val la):Ctr Tryz.prog 205 [V.one (natL la)] (R.tup [V.one (Leaf.val (.int .u64 ((0:Nat):Int))),V.one (Leaf.val (.bool false))]):=by
 refine bd_ Tryz.func205 Tryz.ntmps205 rfl (fun w0 A0=>?_)
 refine zc 9 rfl (tc_ fn173 rfl (rmake_spec la hs hl) (zl 5 rfl ?_))
 have hv:=val_limbs (val la);have hsl:=small_limbs (val la)
 have hlen:(limbs (val la)).length≤2↔val la < 4294967296 ^ 2:=limbs_length_le
 generalize limbs (val la) = l at *
 refine zc 2 rfl (tq_ rfl (jln rfl) (zl 5 rfl (tq_ rfl (eqF rfl) (zl 6 rfl (tq_ rfl (eqF rfl) (zl 6 rfl (tq_ rfl (eqF rfl) (zl 13 rfl ?_))))))))
 exact r2_ hq_ rfl rfl
set_option maxRecDepth 10000 in
theorem ruint_lt (la:List Nat) (hs:Small la) (hl:la.length≤10000000000000) (hx:val la < 18446744073709551616):Ctr Tryz.prog 205 [V.one (natL la)] (R.tup [V.one (Leaf.val (.int .u64 ((val la:Nat):Int))),V.one (Leaf.val (.bool true))]):=by
 refine bd_ Tryz.func205 Tryz.ntmps205 rfl (fun w0 A0=>?_)
 refine zc 9 rfl (tc_ fn173 rfl (rmake_spec la hs hl) (zl 5 rfl ?_))
 have hv:=val_limbs (val la);have hsl:=small_limbs (val la)
 have hlen:(limbs (val la)).length≤2↔val la < 4294967296 ^ 2:=limbs_length_le
 generalize limbs (val la) = l at *
 refine zc 2 rfl (tq_ rfl (jln rfl) (zl 5 rfl ?_))
 by_cases h0:l.length = 0
 ·refine tq_ rfl (eqT rfl) (zl 10 rfl ?_)
  exact r2_ hq_ rfl (by rw [← hv,List.eq_nil_of_length_eq_zero h0] <;> rfl)
 ·refine tq_ rfl (eqF rfl) (zl 6 rfl ?_)
  by_cases h1:l.length = 1
  ·refine tq_ rfl (eqT rfl) (zl 7 rfl (tq_ rfl (ji1 rfl (get_u32i 0 (by omega) rfl)) (tq_ rfl (jli rfl) (tq_ rfl (jcv (l[0]'(by omega)) rfl (wu64 (by have:=hsl.get 0 (by omega);omega))) (zl 4 rfl ?_)))))
   exact r2_ hq_ rfl (by match l,h1,hv with
 | [d],_,hv=>rw [← hv];simp [val])
  ·refine tq_ rfl (eqF rfl) (zl 5 rfl ?_)
   have h2:l.length = 2:=by omega
   obtain ⟨p,q,rfl⟩:∃ p q,l = [p,q]:=by
    match l,h2 with
    | [p,q],_=>exact ⟨p,q,rfl⟩
   have hp:=hsl.head;have hq:=hsl.tail.head
   refine zc 1 rfl (tq_ rfl (eqT rfl rfl) (zl 5 rfl (dr_ 0 [] [] (dz 1 rfl (kq_ rfl (ji1 rfl rfl (by omega) (by simp)) (kq_ rfl (jli rfl) (kq_ rfl (jc6 p rfl) (dz 1 rfl (kq_ rfl (ji1 rfl rfl (by omega) (by simp)) ?_)))))))))
   refine kq_ rfl (jli rfl) (kq_ rfl (jc6 q rfl) (kq_ rfl (Jq_shl rfl rfl rfl (by decide) (r:=((q * 2 ^ 32:Nat):Int)) (shl64 _ 32 rfl (by omega))) (kq_ rfl (Jq_or rfl rfl rfl (r:=((p + q * 2 ^ 32:Nat):Int)) (or64' 32 (Nat.mul_mod_left _ _) (by omega) (by omega))) (dz 2 rfl (DK_nil (za 1 rfl ?_))))))
   exact r2_ hq_ rfl (by rw [← hv];simp [val];omega)
set_option maxRecDepth 10000 in
theorem rcmp_spec (a b:List Nat) (hsa:Small a) (hsb:Small b):Ctr Tryz.prog 204 [V.one (natL a),V.one (natL b)] (R.one (V.one (Leaf.val (.int .i64 (cmpN (val a) (val b)))))):=by
 refine bd_ Tryz.func204 Tryz.ntmps204 rfl (fun w0 A0=>?_)
 refine zc 1 rfl ?_
 refine Tc_len (s:=0) rfl (fun hma=>?_)
 refine Tc_len (s:=1) rfl (fun hmb=>?_)
 obtain ⟨mm,hmm⟩:∃ mm,max a.length b.length = mm:=⟨_,rfl⟩
 refine zc 8 rfl (tq_ rfl (jln rfl) (zl 1 rfl (tq_ rfl (jln rfl) (tq_ rfl (Jq_max rfl rfl rfl (r:=((mm:Nat):Int)) (by split <;> omega)) (tq_ rfl (Jq_sub rfl rfl rfl (r:=(mm:Int) - 1) (w64 (by omega) (by omega) (by omega))) (zl 4 rfl ?_))))))
 refine lpR_ (fun m Γ H=>∃ (n:Nat),n = m∧Γ = [(0,some (D.v (V.one (natL a)))),(1,some (D.v (V.one (natL b)))),(5,some (D.int ((n:Int) - 1)))]∧H = []∧n≤mm∧∀ i,n≤i→a.getD i 0 = b.getD i 0) ⟨mm,rfl,rfl,rfl,Nat.le_refl _,fun i hi=>by rw [getD_out (by omega),getD_out (by omega)]⟩ rfl ?_
 rintro m Γ H ⟨n,rfl,rfl,rfl,hnm,heq⟩
 refine zc 4 rfl ?_
 by_cases hp:0 < n
 ·refine tq_ rfl (geT rfl) (zl 9 rfl ?_)
  have hn1:((n:Int) - 1) = ((n - 1:Nat):Int):=by omega
  have hn2:n - 1 + 1 = n:=by omega
  rw [hn1]
  refine zc 3 rfl (tc_ fn172 rfl (limb_spec a (n - 1)) (zl 2 rfl (tc_ fn172 rfl (limb_spec b (n - 1)) ?_)))
  by_cases hlt:a.getD (n - 1) 0 < b.getD (n - 1) 0
  ·refine tq_ rfl (ltT rfl) (zl 8 rfl ?_)
   exact r1_ hq_ rfl (by rw [cmpN_lt (cmp_getD hsa (by rw [hn2];exact heq) hlt)])
  ·refine tq_ rfl (ltF rfl) (zl 9 rfl (tc_ fn172 rfl (limb_spec a (n - 1)) (zl 2 rfl (tc_ fn172 rfl (limb_spec b (n - 1)) ?_))))
   by_cases hgt:b.getD (n - 1) 0 < a.getD (n - 1) 0
   ·refine tq_ rfl (gtT rfl) (zl 8 rfl ?_)
    exact r1_ hq_ rfl (by rw [cmpN_gt (cmp_getD hsb (by rw [hn2];exact fun i hi=>(heq i hi).symm) hgt)])
   ·refine tq_ rfl (gtF rfl) (zl 8 rfl (tq_ rfl (Jq_sub rfl rfl rfl (r:=((n - 1:Nat):Int) - 1) (w64 (by omega) (by omega) (by omega))) (zl 2 rfl ?_)))
    exact nx_ ⟨n - 1,rfl,rfl,rfl,by omega,fun i hi=>(if e:i = n - 1 then by subst e;omega else heq i (by omega))⟩ rfl
 ·refine tq_ rfl (geF rfl) (zl 13 rfl ?_)
  exact r1_ hq_ rfl (by rw [cmpN_eq (eq_getD (fun i hi=>heq i (by omega)))])
set_option maxRecDepth 10000 in
theorem radd_spec (a b:List Nat) (hsa:Small a) (hsb:Small b) (hla0:a.length≤9000000000000) (hlb0:b.length≤9000000000000):Ctr Tryz.prog 174 [V.one (natL a),V.one (natL b)] (R.one (V.one (natL (limbs (val a + val b))))):=by
 refine bd_ Tryz.func174 Tryz.ntmps174 rfl (fun w0 A0=>?_)
 refine zc 7 rfl (Tl_nil_own (u:=164) (sz:=1) rfl rfl rfl rfl rfl (zl 14 rfl ?_))
 refine lpR_ (fun m Γ H=>∃ (k:Nat) (out:List Nat) (c:Nat),a.length + b.length - k = m∧Γ = [(0,some (D.v (V.one (natL a)))),(1,some (D.v (V.one (natL b)))),(5,some (D.own 0 out.length)),(6,some (D.val (.int .u64 ((c:Nat):Int)))),(7,some (D.int ((k:Nat):Int)))]∧H = [some ⟨164,out.map u32L,some 1,none⟩]∧out.length = k∧(k≤a.length ∨ k≤b.length)∧Small out∧c≤1∧val out + c * 4294967296 ^ k = val (a.take k) + val (b.take k)) ⟨0,[],0,rfl,rfl,rfl,rfl,.inl (Nat.zero_le _),Small.nil,Nat.zero_le _,rfl⟩ rfl ?_
 rintro m Γ H ⟨k,out,c,rfl,rfl,rfl,hol,hk,hos,hc,heq⟩
 have hak:=hsa.getD k;have hbk:=hsb.getD k
 refine zc 5 rfl (tq_ rfl (jln rfl) ?_)
 by_cases hka:k < a.length
 ·refine tq_ rfl (ltT rfl) (zl 18 rfl (tc_ fn172 rfl (limb_spec a k) (tq_ rfl (jc6 (a.getD k 0) rfl) (zl 2 rfl (tc_ fn172 rfl (limb_spec b k) (tq_ rfl (jc6 (b.getD k 0) rfl) (tq_ rfl (Jq_add rfl rfl rfl (r:=((a.getD k 0 + b.getD k 0:Nat):Int)) (wu64 (by omega))) (tq_ rfl (Jq_add rfl rfl rfl (r:=((c + (a.getD k 0 + b.getD k 0):Nat):Int)) (wu64 (by omega))) (zl 7 rfl ?_)))))))))
  refine tq_ rfl (jc3 ((c + (a.getD k 0 + b.getD k 0)) % 4294967296) rfl) (te_ rfl (Je_buildSlice rfl un24 ty164 tz164 rfl (by decide) (by decide) rfl (by decide) rfl) ?_)
  obtain ⟨ti3,hi3,hz3,hs3,hb3⟩:=in164
  refine Tl_append rfl rfl rfl rfl rfl rfl rfl rfl rfl (by simp) rfl (by decide) un24 un24 hi3 hz3 hs3 rfl (by simp only [maxLen];omega) (by rw [hb3];omega) (nm:=(out ++ [(c + (a.getD k 0 + b.getD k 0)) % 4294967296]).length) (by simp) (ls:=((out ++ [(c + (a.getD k 0 + b.getD k 0)) % 4294967296]).map u32L)) (by rw [List.map_append];rfl) (zl 5 rfl ?_)
  refine tq_ rfl (Jq_shr rfl rfl rfl (by decide) (r:=(((c + (a.getD k 0 + b.getD k 0)) / 4294967296:Nat):Int)) (shr_nat _ 32 rfl)) (zl 6 rfl (tq_ rfl (jad (k + 1) rfl) (zl 2 rfl ?_)))
  exact nx_ ⟨k + 1,_,(c + (a.getD k 0 + b.getD k 0)) / 4294967296,rfl,rfl,rfl,by simp [hol],by omega,small_app1 hos (Nat.mod_lt _ (by decide)),by omega,add_app hol heq rfl⟩ rfl
 ·refine tq_ rfl (ltF rfl) (zl 3 rfl (tq_ rfl (jln rfl) ?_))
  by_cases hkb:k < b.length
  ·refine tq_ rfl (ltT rfl) (zl 13 rfl (tc_ fn172 rfl (limb_spec a k) (tq_ rfl (jc6 (a.getD k 0) rfl) (zl 2 rfl (tc_ fn172 rfl (limb_spec b k) (tq_ rfl (jc6 (b.getD k 0) rfl) (tq_ rfl (Jq_add rfl rfl rfl (r:=((a.getD k 0 + b.getD k 0:Nat):Int)) (wu64 (by omega))) (tq_ rfl (Jq_add rfl rfl rfl (r:=((c + (a.getD k 0 + b.getD k 0):Nat):Int)) (wu64 (by omega))) (zl 7 rfl ?_)))))))))
   refine tq_ rfl (jc3 ((c + (a.getD k 0 + b.getD k 0)) % 4294967296) rfl) (te_ rfl (Je_buildSlice rfl un24 ty164 tz164 rfl (by decide) (by decide) rfl (by decide) rfl) ?_)
   obtain ⟨ti5,hi5,hz5,hs5,hb5⟩:=in164
   refine Tl_append rfl rfl rfl rfl rfl rfl rfl rfl rfl (by simp) rfl (by decide) un24 un24 hi5 hz5 hs5 rfl (by simp only [maxLen];omega) (by rw [hb5];omega) (nm:=(out ++ [(c + (a.getD k 0 + b.getD k 0)) % 4294967296]).length) (by simp) (ls:=((out ++ [(c + (a.getD k 0 + b.getD k 0)) % 4294967296]).map u32L)) (by rw [List.map_append];rfl) (zl 5 rfl ?_)
   refine tq_ rfl (Jq_shr rfl rfl rfl (by decide) (r:=(((c + (a.getD k 0 + b.getD k 0)) / 4294967296:Nat):Int)) (shr_nat _ 32 rfl)) (zl 6 rfl (tq_ rfl (jad (k + 1) rfl) (zl 2 rfl ?_)))
   exact nx_ ⟨k + 1,_,(c + (a.getD k 0 + b.getD k 0)) / 4294967296,rfl,rfl,rfl,by simp [hol],by omega,small_app1 hos (Nat.mod_lt _ (by decide)),by omega,add_app hol heq rfl⟩ rfl
  ·refine tq_ rfl (ltF rfl) (zl 13 rfl (tq_ rfl (jc3 c rfl) (te_ rfl (Je_buildSlice rfl un24 ty164 tz164 rfl (by decide) (by decide) rfl (by decide) rfl) ?_)))
   obtain ⟨ti6,hi6,hz6,hs6,hb6⟩:=in164
   refine Tl_append rfl rfl rfl rfl rfl rfl rfl rfl rfl (by simp) rfl (by decide) un24 un24 hi6 hz6 hs6 rfl (by simp only [maxLen];omega) (by rw [hb6];omega) (nm:=(out ++ [c]).length) (by simp) (ls:=((out ++ [c]).map u32L)) (by rw [List.map_append];rfl) (Tl_share_nat 42 (out ++ [c]) rfl rfl rfl rfl (by simp) ?_)
   refine tc_ fn173 rfl (rmake_spec (out ++ [c]) (small_app1 hos (by omega)) (by simp;omega)) (zl 3 rfl ?_)
   exact r1_ hq_ rfl (by rw [val_app1,hol,heq,val_take_all a k (by omega),val_take_all b k (by omega)])
set_option maxRecDepth 10000 in
theorem rsub_lt_spec (a b:List Nat) (hsa:Small a) (hsb:Small b) (hlt:val a < val b):Ctr Tryz.prog 175 [V.one (natL a),V.one (natL b)] (R.tup [V.one nilL,V.one (Leaf.val (.int .i64 2))]):=by
 refine bd_ Tryz.func175 Tryz.ntmps175 rfl (fun w0 A0=>?_)
 refine zc 11 rfl (tc_ fn204 rfl (rcmp_spec a b hsa hsb) (tq_ rfl (ltT rfl (by rw [cmpN_lt hlt];decide)) (zl 9 rfl ?_)))
 exact r2_ hq_ rfl rfl
set_option maxRecDepth 10000 in
theorem rsub_spec (a b:List Nat) (hsa:Small a) (hsb:Small b) (hla0:a.length≤9000000000000) (hge:val b≤val a):Ctr Tryz.prog 175 [V.one (natL a),V.one (natL b)] (R.tup [V.one (natL (limbs (val a - val b))),V.one (Leaf.val (.int .i64 0))]):=by
 refine bd_ Tryz.func175 Tryz.ntmps175 rfl (fun w0 A0=>?_)
 refine zc 11 rfl (tc_ fn204 rfl (rcmp_spec a b hsa hsb) (tq_ rfl (ltF rfl (by unfold cmpN;rw [if_neg (by omega)];split <;> decide)) (zl 7 rfl (Tl_nil_own (u:=164) (sz:=1) rfl rfl rfl rfl rfl (zl 14 rfl ?_)))))
 refine lpR_ (fun m Γ H=>∃ (k:Nat) (out:List Nat) (c:Nat),a.length - k = m∧Γ = [(0,some (D.v (V.one (natL a)))),(1,some (D.v (V.one (natL b)))),(6,some (D.own 0 out.length)),(7,some (D.val (.int .u64 ((c:Nat):Int)))),(8,some (D.int ((k:Nat):Int)))]∧H = [some ⟨164,out.map u32L,some 1,none⟩]∧out.length = k∧k≤a.length∧Small out∧c≤1∧val out + val (b.take k) = val (a.take k) + c * 4294967296 ^ k) ⟨0,[],0,rfl,rfl,rfl,rfl,Nat.zero_le _,Small.nil,Nat.zero_le _,rfl⟩ rfl ?_
 rintro m Γ H ⟨k,out,c,rfl,rfl,rfl,hol,hk,hos,hc,heq⟩
 refine zc 5 rfl (tq_ rfl (jln rfl) ?_)
 by_cases hka:k < a.length
 ·refine tq_ rfl (ltT rfl) (zl 8 rfl ?_)
  have hak:=hsa.getD k;have hbk:=hsb.getD k
  refine zc 3 rfl (tc_ fn172 rfl (limb_spec a k) (tq_ rfl (jc6 (a.getD k 0) rfl) (zl 2 rfl (tc_ fn172 rfl (limb_spec b k) (tq_ rfl (jc6 (b.getD k 0) rfl) (zl 1 rfl (tq_ rfl (Jq_add rfl rfl rfl (r:=((b.getD k 0 + c:Nat):Int)) (wu64 (by omega))) (zl 14 rfl ?_))))))))
  by_cases hbr:a.getD k 0 < b.getD k 0 + c
  ·refine tq_ rfl (ltT rfl) (zl 6 rfl (tq_ rfl (Jq_add rfl rfl rfl (r:=((4294967296 + a.getD k 0:Nat):Int)) (wu64 (by omega))) (zl 11 rfl (tq_ rfl (Jq_sub rfl rfl rfl (r:=((4294967296 + a.getD k 0 - (b.getD k 0 + c):Nat):Int)) (wu64 (by omega))) (tq_ rfl (jc3 (4294967296 + a.getD k 0 - (b.getD k 0 + c)) rfl) ?_)))))
   refine te_ rfl (Je_buildSlice rfl un24 ty164 tz164 rfl (by decide) (by decide) rfl (by decide) rfl) ?_
   obtain ⟨ti4,hi4,hz4,hs4,hb4⟩:=in164
   refine Tl_append rfl rfl rfl rfl rfl rfl rfl rfl rfl (by simp) rfl (by decide) un24 un24 hi4 hz4 hs4 rfl (by simp only [maxLen];omega) (by rw [hb4];omega) (nm:=(out ++ [4294967296 + a.getD k 0 - (b.getD k 0 + c)]).length) (by simp) (ls:=((out ++ [4294967296 + a.getD k 0 - (b.getD k 0 + c)]).map u32L)) (by rw [List.map_append];rfl) (zl 6 rfl (tq_ rfl (jad (k + 1) rfl) (zl 2 rfl ?_)))
   exact nx_ ⟨k + 1,_,1,rfl,rfl,rfl,by simp [hol],by omega,small_app1 hos (by omega),by omega,sub_app hol heq (by omega)⟩ rfl
  ·refine tq_ rfl (ltF rfl) (zl 9 rfl (tq_ rfl (Jq_sub rfl rfl rfl (r:=((a.getD k 0 - (b.getD k 0 + c):Nat):Int)) (wu64 (by omega))) (tq_ rfl (jc3 (a.getD k 0 - (b.getD k 0 + c)) rfl) (te_ rfl (Je_buildSlice rfl un24 ty164 tz164 rfl (by decide) (by decide) rfl (by decide) rfl) ?_))))
   obtain ⟨ti5,hi5,hz5,hs5,hb5⟩:=in164
   refine Tl_append rfl rfl rfl rfl rfl rfl rfl rfl rfl (by simp) rfl (by decide) un24 un24 hi5 hz5 hs5 rfl (by simp only [maxLen];omega) (by rw [hb5];omega) (nm:=(out ++ [a.getD k 0 - (b.getD k 0 + c)]).length) (by simp) (ls:=((out ++ [a.getD k 0 - (b.getD k 0 + c)]).map u32L)) (by rw [List.map_append];rfl) (zl 6 rfl (tq_ rfl (jad (k + 1) rfl) (zl 2 rfl ?_)))
   exact nx_ ⟨k + 1,_,0,rfl,rfl,rfl,by simp [hol],by omega,small_app1 hos (by omega),by omega,sub_app hol heq (by omega)⟩ rfl
 ·refine tq_ rfl (ltF rfl) (zl 9 rfl ?_)
  have hke:k = a.length:=by omega
  subst hke
  refine zc 2 rfl (Tl_share_nat 43 (out) rfl rfl rfl rfl rfl (tc_ fn173 rfl (rmake_spec out hos (by omega)) (zl 4 rfl ?_)))
  exact r2_ hq_ rfl (by rw [sub_end hsa hos (by omega) hge heq])
theorem radd_w (a b:List Nat) (hsa:Small a) (hsb:Small b) (hla0:a.length≤9000000000000) (hlb0:b.length≤9000000000000) (m n:Nat) (hm:val a = m) (hn:val b = n):Ctr Tryz.prog 174 [V.one (natL a),V.one (natL b)] (R.one (V.one (natL (limbs (m + n))))):=by
 subst hm;subst hn
 exact radd_spec a b hsa hsb hla0 hlb0
theorem rcmp_w (a b:List Nat) (hsa:Small a) (hsb:Small b) (m n:Nat) (hm:val a = m) (hn:val b = n):Ctr Tryz.prog 204 [V.one (natL a),V.one (natL b)] (R.one (V.one (Leaf.val (.int .i64 (cmpN m n))))):=by
 subst hm;subst hn
 exact rcmp_spec a b hsa hsb
theorem rsub_w (a b:List Nat) (hsa:Small a) (hsb:Small b) (hla0:a.length≤9000000000000) (m n:Nat) (hm:val a = m) (hn:val b = n) (hge:n≤m):Ctr Tryz.prog 175 [V.one (natL a),V.one (natL b)] (R.tup [V.one (natL (limbs (m - n))),V.one (Leaf.val (.int .i64 0))]):=by
 subst hm;subst hn;exact rsub_spec a b hsa hsb hla0 hge
theorem rsub_ltw (a b:List Nat) (hsa:Small a) (hsb:Small b) (m n:Nat) (hm:val a = m) (hn:val b = n) (hlt:m < n):Ctr Tryz.prog 175 [V.one (natL a),V.one (natL b)] (R.tup [V.one nilL,V.one (Leaf.val (.int .i64 2))]):=by
 subst hm;subst hn;exact rsub_lt_spec a b hsa hsb hlt
set_option maxRecDepth 10000 in
theorem rmul_spec (a b:List Nat) (hsa:Small a) (hsb:Small b) (hla0:a.length≤4000000000000) (hlb0:b.length≤4000000000000):Ctr Tryz.prog 114 [V.one (natL a),V.one (natL b)] (R.one (V.one (natL (limbs (val a * val b))))):=by
 refine bd_ Tryz.func114 Tryz.ntmps114 rfl (fun w0 A0=>?_)
 refine zc 8 rfl (tq_ rfl (jln rfl) (zl 1 rfl (tq_ rfl (jln rfl) (tq_ rfl (jad (a.length + b.length) rfl) (tq_ rfl (jad (a.length + b.length + 1) rfl) ?_)))))
 obtain ⟨ti1,hi1,hz1,hs1,hb1⟩:=in164
 refine te_ rfl (Je_make (i:=0) (n:=a.length + b.length + 1) (ls:=((List.replicate (a.length + b.length + 1) 0).map u32L)) rfl rfl rfl un24 hi1 hz1 hs1 (by decide) rfl (by decide) rfl (by rw [hb1];omega) (by simp only [maxLen];omega) (zc_u32 _) rfl) (zl 10 rfl ?_)
 refine lpR_ (fun m Γ H=>∃ (i:Nat) (out:List Nat),a.length - i = m∧Γ = [(0,some (D.v (V.one (natL a)))),(1,some (D.v (V.one (natL b)))),(5,some (D.own 0 (a.length + b.length + 1))),(6,some (D.int ((i:Nat):Int)))]∧H = [some ⟨164,out.map u32L,some 1,none⟩]∧i≤a.length∧out.length = a.length + b.length + 1∧Small out∧val out = val (a.take i) * val b) ⟨0,List.replicate (a.length + b.length + 1) 0,rfl,rfl,rfl,Nat.zero_le _,by simp,Small.replicate _,by simp [val_replicate]⟩ rfl ?_
 rintro m Γ H ⟨i,out,rfl,rfl,rfl,hile,hol,hos,heq⟩
 refine zc 5 rfl (tq_ rfl (jln rfl) ?_)
 by_cases hi:i < a.length
 ·refine tq_ rfl (ltT rfl) (zl 8 rfl ?_)
  have hai:=hsa.get i hi
  refine zc 10 rfl ?_
  refine lpR_ (fun m Γ H=>∃ (k:Nat) (o:List Nat) (c:Nat),b.length + 1 - k = m∧Γ = [(0,some (D.v (V.one (natL a)))),(1,some (D.v (V.one (natL b)))),(5,some (D.own 0 (a.length + b.length + 1))),(6,some (D.int ((i:Nat):Int))),(7,some (D.val (.int .u64 ((c:Nat):Int)))),(8,some (D.int ((k:Nat):Int)))]∧H = [some ⟨164,o.map u32L,some 1,none⟩]∧k≤b.length + 1∧o.length = a.length + b.length + 1∧Small o∧c < 4294967296∧val o + c * 4294967296 ^ (i + k) = val (a.take i) * val b + 4294967296 ^ i * (a[i] * val (b.take k))) ⟨0,out,0,rfl,rfl,rfl,Nat.zero_le _,hol,hos,by omega,by simp [heq]⟩ rfl ?_
  rintro m Γ H ⟨k,o,c,rfl,rfl,rfl,hkle,hoo1,hoo,hc,hq⟩
  refine zc 5 rfl (tq_ rfl (jln rfl) ?_)
  by_cases hk:k≤b.length
  ·refine tq_ rfl (leT rfl) (zl 8 rfl ?_)
   have hbk:=hsb.getD k;have hok:=hoo.get (i + k) (by omega)
   have hm:=mul_carry hc hai hbk hok
   have hm2:=hm.1
   refine dr_ 0 [] [] (dz 3 rfl (kq_ rfl (ji1 rfl (get_u32 hi)) (kq_ rfl (jli rfl) (kq_ rfl (jc6 (a[i]'hi) rfl) (dz 2 rfl (kc_ fn172 rfl (limb_spec b k) (kq_ rfl (jc6 (b.getD k 0) rfl) (kq_ rfl (Jq_mul rfl rfl rfl (r:=((a[i]'hi * b.getD k 0:Nat):Int)) (wu64 (by rw [← Int.natCast_mul];omega))) (dz 3 rfl ?_)))))))))
   refine kq_ rfl (jad (i + k) rfl) (kq_ rfl (Jq_index_own rfl rfl rfl rfl (by decide) (by simp [hoo1]) (by decide) un24 ty164 (by omega) (by omega) (off:=i + k) (by omega)) (kq_ rfl (Jq_load rfl rfl rfl (by decide) ty164 (get_own (by omega))) (kq_ rfl (jc6 (o[i + k]'(by omega)) rfl) ?_)))
   refine kq_ rfl (Jq_add rfl rfl rfl (r:=((a[i]'hi * b.getD k 0 + o[i + k]'(by omega):Nat):Int)) (wu64 (by omega))) (kq_ rfl (Jq_add rfl rfl rfl (r:=((c + (a[i]'hi * b.getD k 0 + o[i + k]'(by omega)):Nat):Int)) (wu64 (by omega))) (dz 1 rfl (DK_nil (za 6 rfl (tq_ rfl (jad (i + k) rfl) (zl 1 rfl ?_))))))
   refine tq_ rfl (jc3 ((c + (a[i]'hi * b.getD k 0 + o[i + k]'(by omega))) % 4294967296) rfl) (tq_ rfl (Jq_index_own rfl rfl rfl rfl (by decide) (by simp [hoo1]) (by decide) un24 ty164 (by omega) (by omega) (off:=i + k) (by omega)) ?_)
   refine te_ rfl (Je_store (ls:=((o.set (i + k) ((c + (a[i]'hi * b.getD k 0 + o[i + k]'(by omega))) % 4294967296)).map u32L)) rfl rfl rfl rfl ty164 rfl (by decide) (by simp;omega) (splice_u32 (by omega))) (zl 4 rfl (tq_ rfl (Jq_shr rfl rfl rfl (by decide) (r:=(((c + (a[i]'hi * b.getD k 0 + o[i + k]'(by omega))) / 4294967296:Nat):Int)) (shr_nat _ 32 rfl)) (zl 6 rfl ?_)))
   refine tq_ rfl (jad (k + 1) rfl) (zl 2 rfl ?_)
   exact nx_ ⟨k + 1,_,_,rfl,rfl,rfl,by omega,by simp [hoo1],hoo.set _ _ (by omega),hm.2.1,mul_stepD (by omega) _ hq⟩ rfl
  ·refine tq_ rfl (leF rfl) (zl 11 rfl (tq_ rfl (jad (i + 1) rfl) (zl 2 rfl ?_)))
   have hke:k = b.length + 1:=by omega
   subst hke
   exact nx_ ⟨i + 1,_,rfl,rfl,rfl,by omega,hoo1,hoo,mul_end hsa hsb hi hq⟩ rfl
 ·refine tq_ rfl (ltF rfl) (zl 11 rfl (Tl_share_nat 57 (out) rfl rfl rfl rfl (by omega) (tc_ fn173 rfl (rmake_spec out hos (by omega)) (zl 3 rfl ?_))))
  exact r1_ hq_ rfl (by rw [heq,val_take_all a _ (by omega)])
set_option maxRecDepth 10000 in
theorem rshl_spec (a:List Nat) (k:Nat) (hsa:Small a) (hk:k≤4194304) (hla0:a.length≤9000000000000):Ctr Tryz.prog 207 [V.one (natL a),V.one (Leaf.val (.int .i64 ((k:Nat):Int)))] (R.one (V.one (natL (limbs (val a * 2 ^ k))))):=by
 refine bd_ Tryz.func207 Tryz.ntmps207 rfl (fun w0 A0=>?_)
 refine zc 8 rfl (tq_ rfl (Jq_quo rfl rfl rfl (by decide) (r:=((k / 32:Nat):Int)) (w64 (tdivN k 32) (by omega) (by omega))) ?_)
 obtain ⟨ti1,hi1,hz1,hs1,hb1⟩:=in164
 refine te_ rfl (Je_make (i:=0) (n:=k / 32) (ls:=((List.replicate (k / 32) 0).map u32L)) rfl rfl rfl un24 hi1 hz1 hs1 (by decide) rfl (by decide) rfl (by rw [hb1];omega) (by simp only [maxLen];omega) (zc_u32 _) rfl) (zl 15 rfl ?_)
 refine lpK_ (fun m Γ H=>∃ (i:Nat) (out:List Nat) (c:Nat),a.length - i = m∧Γ = [(0,some (D.v (V.one (natL a)))),(1,some (D.int ((k:Nat):Int))),(5,some (D.own 0 out.length)),(6,some (D.val (.int .u64 ((c:Nat):Int)))),(7,some (D.int ((i:Nat):Int)))]∧H = [some ⟨164,out.map u32L,some 1,none⟩]∧i≤a.length∧out.length = k / 32 + i∧Small out∧c < 2 ^ (k % 32)∧val out + c * 4294967296 ^ out.length = val (a.take i) * 2 ^ k) ⟨0,List.replicate (k / 32) 0,0,rfl,rfl,rfl,Nat.zero_le _,by simp,Small.replicate _,Nat.pow_pos (by decide),by simp [val_replicate]⟩ ⟨rfl,rfl,by rw [List.length_replicate];rfl,rfl,rfl,trivial⟩ ?_
 rintro m Γ H ⟨i,out,c,rfl,rfl,rfl,hile,hol,hos,hc,heq⟩
 refine zc 5 rfl (tq_ rfl (jln rfl) ?_)
 by_cases hi:i < a.length
 ·refine tq_ rfl (ltT rfl) (zl 8 rfl ?_)
  have hai:=hsa.get i hi;have hb:=shl_bound (Nat.mod_lt k (by decide)) hai hc
  have hb1:=hb.1;have hb2:=hb.2.1
  refine zc 4 rfl (tq_ rfl (ji1 rfl (get_u32 (by omega))) (tq_ rfl (jli rfl) (tq_ rfl (jc6 (a[i]'hi) rfl) (zl 1 rfl (tq_ rfl (Jq_rem rfl rfl rfl (by decide) (r:=((k % 32:Nat):Int)) (tmodN k 32)) (tq_ rfl (Jq_shl rfl rfl rfl (by omega) (r:=((a[i]'hi * 2 ^ (k % 32):Nat):Int)) (shl64 _ (k % 32) (minbits64 (by omega)) hb1)) ?_))))))
  refine tq_ rfl (Jq_or rfl rfl rfl (r:=((c + a[i]'hi * 2 ^ (k % 32):Nat):Int)) (or64' (k % 32) (Nat.mul_mod_left _ _) hc (by omega))) (zl 7 rfl (tq_ rfl (jc3 ((c + a[i]'hi * 2 ^ (k % 32)) % 4294967296) rfl) (te_ rfl (Je_buildSlice rfl un24 ty164 tz164 rfl (by decide) (by decide) rfl (by decide) rfl) ?_)))
  obtain ⟨ti4,hi4,hz4,hs4,hb4⟩:=in164
  refine Tl_append rfl rfl rfl rfl rfl rfl rfl rfl rfl (by simp) rfl (by decide) un24 un24 hi4 hz4 hs4 rfl (by simp only [maxLen];omega) (by rw [hb4];omega) (nm:=(out ++ [(c + a[i]'hi * 2 ^ (k % 32)) % 4294967296]).length) (by simp) (ls:=((out ++ [(c + a[i]'hi * 2 ^ (k % 32)) % 4294967296]).map u32L)) (by rw [List.map_append];rfl) (zl 5 rfl ?_)
  refine tq_ rfl (Jq_shr rfl rfl rfl (by decide) (r:=(((c + a[i]'hi * 2 ^ (k % 32)) / 4294967296:Nat):Int)) (shr_nat _ 32 rfl)) (zl 6 rfl (tq_ rfl (jad (i + 1) rfl) (zl 2 rfl ?_)))
  exact nx_ ⟨i + 1,_,_,rfl,rfl,rfl,by omega,by simp;omega,small_app1 hos (Nat.mod_lt _ (by decide)),hb.2.2.1,by simpa using shl_app hi hol heq rfl⟩ rfl
 ·refine tq_ rfl (ltF rfl) (zl 9 rfl ?_)
  have hp:2 ^ (k % 32)≤2 ^ 31:=Nat.pow_le_pow_right (by decide) (by omega)
  have hc2:c < 4294967296:=by omega
  refine zc 3 rfl (tq_ rfl (jc3 c rfl) (te_ rfl (Je_buildSlice rfl un24 ty164 tz164 rfl (by decide) (by decide) rfl (by decide) rfl) ?_))
  obtain ⟨ti5,hi5,hz5,hs5,hb5⟩:=in164
  refine Tl_append rfl rfl rfl rfl rfl rfl rfl rfl rfl (by simp) rfl (by decide) un24 un24 hi5 hz5 hs5 rfl (by simp only [maxLen];omega) (by rw [hb5];omega) (nm:=(out ++ [c]).length) (by simp) (ls:=((out ++ [c]).map u32L)) (by rw [List.map_append];rfl) (Tl_share_nat 38 (out ++ [c]) rfl rfl rfl rfl (by simp) ?_)
  refine tc_ fn173 rfl (rmake_spec (out ++ [c]) (small_app1 hos hc2) (by simp;omega)) (zl 3 rfl ?_)
  exact r1_ hq_ rfl (by rw [val_app1,heq,val_take_all a _ (by omega)])
theorem rmul_w (a b:List Nat) (hsa:Small a) (hsb:Small b) (hla0:a.length≤4000000000000) (hlb0:b.length≤4000000000000) (m n:Nat) (hm:val a = m) (hn:val b = n):Ctr Tryz.prog 114 [V.one (natL a),V.one (natL b)] (R.one (V.one (natL (limbs (m * n))))):=by
 subst hm;subst hn
 exact rmul_spec a b hsa hsb hla0 hlb0
theorem rshl_w (a:List Nat) (k:Nat) (hsa:Small a) (hk:k≤4194304) (hla0:a.length≤9000000000000) (m:Nat) (hm:val a = m):Ctr Tryz.prog 207 [V.one (natL a),V.one (Leaf.val (.int .i64 ((k:Nat):Int)))] (R.one (V.one (natL (limbs (m * 2 ^ k))))):=by
 subst hm;exact rshl_spec a k hsa hk hla0
set_option maxRecDepth 10000 in
theorem rbits_spec (la:List Nat) (hsa:Small la) (hla:la.length≤10000000000000):Ctr Tryz.prog 206 [V.one (natL la)] (R.one (V.one (Leaf.val (.int .i64 ((bl (val la):Nat):Int))))):=by
 refine bd_ Tryz.func206 Tryz.ntmps206 rfl (fun w0 A0=>?_)
 refine zc 8 rfl (tc_ fn173 rfl (rmake_spec la hsa hla) (zl 5 rfl ?_))
 have hl0:=limbs_val_length hsa
 have hb:=fun h=>bl_limbs (canon_limbs (val la)) h
 have hs:=small_limbs (val la)
 rw [val_limbs] at hb
 have hz0:(limbs (val la)).length = 0→val la = 0:=fun h=>limbs_eq_nil.1 (List.eq_nil_of_length_eq_zero h)
 generalize limbs (val la) = a at *
 refine zc 2 rfl (tq_ rfl (jln rfl) ?_)
 by_cases hz:a.length = 0
 ·refine tq_ rfl (eqT rfl) (zl 8 rfl ?_)
  exact r1_ hq_ rfl (by rw [hz0 hz] <;> rfl)
 ·refine tq_ rfl (eqF rfl) (zl 6 rfl ?_)
  have hb:=hb (by omega);have htop:=hs.get (a.length - 1) (by omega)
  have hbt:=bl_le_of_lt (k:=32) htop
  refine zc 2 rfl (tq_ rfl (jln rfl) (tq_ rfl (jsb (a.length - 1) rfl) (tq_ rfl (Jq_mul rfl rfl rfl (r:=((32 * (a.length - 1):Nat):Int)) (w64 (by omega) (by omega) (by omega))) (zl 8 rfl (tq_ rfl (jln rfl) (tq_ rfl (jsb (a.length - 1) rfl) (tq_ rfl (ji1 rfl (get_u32i (a.length - 1) (by omega) rfl)) (tq_ rfl (jli rfl) (zl 4 rfl ?_)))))))))
  refine lpR_ (fun m Γ H=>∃ (k:Nat) (x:Nat),x = m∧Γ = [(3,some (D.int ((k:Nat):Int))),(4,some (D.val (.int .u32 ((x:Nat):Int))))]∧H = []∧k + bl x = bl (val la)∧x < 4294967296) ⟨32 * (a.length - 1),a[a.length - 1]'(by omega),rfl,rfl,rfl,hb.symm,htop⟩ rfl ?_
  rintro m Γ H ⟨k,x,rfl,rfl,rfl,hkx,hx⟩
  refine zc 4 rfl ?_
  by_cases hx0:0 < x
  ·refine tq_ rfl (gtT rfl) (zl 7 rfl ?_)
   have hbh:=bl_half hx0
   refine zc 2 rfl (tq_ rfl (jad (k + 1) rfl) (zl 6 rfl (tq_ rfl (Jq_shr rfl rfl rfl (by decide) (r:=((x / 2:Nat):Int)) (shr_nat x 1 rfl)) (zl 2 rfl ?_))))
   exact nx_ ⟨k + 1,x / 2,rfl,rfl,rfl,by omega,by omega⟩ rfl
  ·refine tq_ rfl (gtF rfl) (zl 14 rfl ?_)
   exact r1_ hq_ rfl (by rw [← hkx,show x = 0 from by omega] <;> rfl)
set_option maxRecDepth 10000 in
theorem rdivmod_zero (la lb:List Nat) (hsa:Small la) (hsb:Small lb) (hla0:la.length≤8000000000000) (hlb0:lb.length≤8000000000000) (hb0:val lb = 0):Ctr Tryz.prog 177 [V.one (natL la),V.one (natL lb)] (R.tup [V.one nilL,V.one nilL,V.one (Leaf.val (.int .i64 3))]):=by
 refine bd_ Tryz.func177 Tryz.ntmps177 rfl (fun w0 A0=>?_)
 refine zc 8 rfl ?_
 by_cases ha:val la < 18446744073709551616
 ·refine zc 2 rfl (tc_ fn205 rfl (ruint_lt la hsa (by omega) ha) (zl 3 rfl (is_ true rfl (rfl) (zl 7 rfl (tc_ fn205 rfl (ruint_lt lb hsb (by omega) (by omega)) (zl 3 rfl (is_ true rfl (rfl) (zl 10 rfl (tq_ rfl (eqT rfl) ?_)))))))))
  refine zl 11 rfl ?_
  exact r3_ hq_ rfl rfl
 ·refine zc 2 rfl (tc_ fn205 rfl (ruint_ge la hsa (by omega) (by omega)) (zl 3 rfl (is_ false rfl (rfl) (zl 7 rfl (tc_ fn205 rfl (ruint_lt lb hsb (by omega) (by omega)) (zl 3 rfl (is_ true rfl (rfl) (zl 10 rfl (tq_ rfl (eqT rfl) ?_)))))))))
  refine zl 11 rfl ?_
  exact r3_ hq_ rfl rfl
set_option maxRecDepth 10000 in
theorem rdivmod_spec (la lb:List Nat) (hsa:Small la) (hsb:Small lb) (hla0:la.length≤8000000000000) (hlb0:lb.length≤8000000000000) (hb0:val lb≠0):Ctr Tryz.prog 177 [V.one (natL la),V.one (natL lb)] (R.tup [V.one (natL (limbs (val la / val lb))),V.one (natL (limbs (val la % val lb))),V.one (Leaf.val (.int .i64 0))]):=by
 refine bd_ Tryz.func177 Tryz.ntmps177 rfl (fun w0 A0=>?_)
 refine zc 8 rfl ?_
 by_cases ha:val la < 18446744073709551616
 ·refine zc 2 rfl (tc_ fn205 rfl (ruint_lt la hsa (by omega) (by omega)) (zl 3 rfl (is_ true rfl (rfl) (zl 5 rfl ?_))))
  by_cases hb:val lb < 18446744073709551616
  ·refine zc 2 rfl (tc_ fn205 rfl (ruint_lt lb hsb (by omega) (by omega)) (zl 3 rfl (is_ true rfl (rfl) (zl 10 rfl (tq_ rfl (eqF rfl) (zl 17 rfl (dr_ 0 [] [] (dz 2 rfl (kq_ rfl (Jq_quo rfl rfl rfl (by omega) (r:=((val la / val lb:Nat):Int)) ((by rw [tdivN];exact wrap_nat_u64 (Nat.lt_of_le_of_lt (Nat.div_le_self _ _) ha)))) ?_)))))))))
   refine kc_ fn141 rfl (rof_spec _ (Nat.lt_of_le_of_lt (Nat.div_le_self _ _) ha)) (dz 2 rfl (kq_ rfl (Jq_rem rfl rfl rfl (by omega) (r:=((val la % val lb:Nat):Int)) (tmodN _ _)) (kc_ fn141 rfl (rof_spec _ (Nat.lt_of_le_of_lt (Nat.mod_le _ _) ha)) (dz 3 rfl (DK_nil (za 1 rfl ?_))))))
   exact r3_ hq_ rfl rfl
  ·refine zc 2 rfl (tc_ fn205 rfl (ruint_ge lb hsb (by omega) (by omega)) (zl 3 rfl (is_ false rfl (rfl) (zl 24 rfl (zl 8 rfl (tq_ rfl (jln rfl) ?_))))))
   obtain ⟨ti3,hi3,hz3,hs3,hb3⟩:=in164
   refine te_ rfl (Je_make (i:=0) (n:=la.length) (ls:=((List.replicate (la.length) 0).map u32L)) rfl rfl rfl un24 hi3 hz3 hs3 (by decide) rfl (by decide) rfl (by rw [hb3];omega) (by simp only [maxLen];omega) (zc_u32 _) rfl) (Tl_build0 rfl rfl rfl rfl un25 ty164 rfl (zl 6 rfl ?_))
   have hlbl:bl (val la)≤32 * la.length:=bl_le_of_lt (by rw [← pow32];exact val_lt hsa)
   have hb0p:0 < val lb:=Nat.pos_of_ne_zero hb0
   refine Tc_share_nat 12 ([]) rfl rfl rfl rfl rfl (zc 2 rfl (tc_ fn206 rfl (rbits_spec la hsa (by omega)) (tq_ rfl (Jq_sub rfl rfl rfl (r:=(bl (val la):Int) - 1) (w64 (by omega) (by omega) (by omega))) (zl 4 rfl ?_))))
   refine lpK_ (fun m Γ H=>∃ (n:Nat) (out:List Nat) (Q:Nat) (r:Nat),n = m∧Γ = [(0,some (D.v (V.one (natL la)))),(1,some (D.v (V.one (natL lb)))),(11,some (D.own 0 la.length)),(12,some (D.v (V.one (natL (limbs r))))),(13,some (D.int ((n:Int) - 1)))]∧H = [some ⟨164,(out).map u32L,some 1,none⟩,none]∧n≤bl (val la)∧out.length = la.length∧Small out∧val out = 2 ^ n * Q∧val la / 2 ^ n = Q * val lb + r∧r < val lb) ⟨bl (val la),List.replicate la.length 0,0,0,rfl,rfl,rfl,Nat.le_refl _,by simp,Small.replicate _,by simp [val_replicate],by rw [Nat.div_eq_of_lt (bl_lt _)];simp,hb0p⟩ ⟨rfl,rfl,rfl,by rw [limbs_zero];rfl,rfl,trivial⟩ ?_
   rintro m Γ H ⟨n,out,Q,r,rfl,rfl,rfl,hnb,hol,hos,hoq,hqr,hrb⟩
   refine zc 4 rfl ?_
   by_cases hp:0 < n
   ·refine tq_ rfl (geT rfl) (zl 8 rfl ?_)
    obtain ⟨n,rfl⟩:∃ n0,n = n0 + 1:=⟨n - 1,by omega⟩
    have hn1:(((n + 1:Nat):Int) - 1) = ((n:Nat):Int):=by omega
    rw [hn1]
    have hni:n / 32 < la.length:=bits_index (val_lt hsa) (by omega)
    have hrl:=limbs_length_mono (Nat.le_of_lt hrb);have hlbv:=limbs_val_length hsb
    have hbit:=bit_of hsa hni
    have hlan:=hsa.get (n / 32) hni
    have hstep:=div_bit_step hqr
    have hsb1:=set_bit hos (by omega) hoq
    refine zc 2 rfl (tc_ fn207 rfl (rshl_w (limbs r) 1 (small_limbs _) (by decide) (by omega) r (val_limbs _)) (zl 8 rfl (tq_ rfl (Jq_quo rfl rfl rfl (by decide) (r:=((n / 32:Nat):Int)) (w64 (tdivN n 32) (by omega) (by omega))) (tq_ rfl (ji1 rfl (get_u32 hni)) (tq_ rfl (jli rfl) (zl 1 rfl (tq_ rfl (Jq_rem rfl rfl rfl (by decide) (r:=((n % 32:Nat):Int)) (tmodN n 32)) ?_)))))))
    refine tq_ rfl (Jq_shr rfl rfl rfl (by omega) (r:=((la[n / 32]'hni / 2 ^ (n % 32):Nat):Int)) (shr_nat _ (n % 32) (by simp only [IntKind.bits];omega))) (tq_ rfl (Jq_and rfl rfl rfl (r:=((val la / 2 ^ n % 2:Nat):Int)) ((by rw [← hbit];exact and_one (Nat.lt_of_le_of_lt (Nat.div_le_self _ _) hlan)))) ?_)
    refine te_ rfl (Je_buildSlice rfl un25 ty164 tz164 rfl (by decide) (by decide) rfl (by decide) rfl) ?_
    have hr2:r * 2 ^ 1 + val la / 2 ^ n % 2 < 2 * val lb:=by omega
    have hl2:(limbs (r * 2 ^ 1)).length≤(limbs (val lb)).length + 1:=by
     rw [limbs_length_le,Nat.pow_succ]
     have:=(limbs_length_le (n:=val lb) (k:=(limbs (val lb)).length)).1 (Nat.le_refl _)
     omega
    have hl3:(limbs (r * 2 ^ 1 + val la / 2 ^ n % 2)).length≤9000000000000:=by
     refine Nat.le_trans (limbs_length_le (k:=(limbs (val lb)).length + 1).2 ?_) (by omega)
     rw [Nat.pow_succ]
     have:=(limbs_length_le (n:=val lb) (k:=(limbs (val lb)).length)).1 (Nat.le_refl _)
     omega
    refine tc_ fn174 rfl (radd_w (limbs (r * 2 ^ 1)) [val la / 2 ^ n % 2] (small_limbs _) (Small.cons (by omega) Small.nil) (by omega) (by simp) (r * 2 ^ 1) (val la / 2 ^ n % 2) (val_limbs _) (by simp)) (zl 7 rfl (tc_ fn204 rfl (rcmp_w (limbs (r * 2 ^ 1 + val la / 2 ^ n % 2)) lb (small_limbs _) hsb (r * 2 ^ 1 + val la / 2 ^ n % 2) (val lb) (val_limbs _) rfl) ?_))
    by_cases hge:val lb≤r * 2 ^ 1 + val la / 2 ^ n % 2
    ·refine tq_ rfl (geT rfl (by unfold cmpN;rw [if_neg (by omega)];split <;> decide)) (zl 7 rfl (tc_ fn175 rfl (rsub_w (limbs (r * 2 ^ 1 + val la / 2 ^ n % 2)) lb (small_limbs _) hsb hl3 (r * 2 ^ 1 + val la / 2 ^ n % 2) (val lb) (val_limbs _) rfl hge) (zl 6 rfl (dr_ 0 [(10,0)] [0] (dz 2 rfl ?_)))))
     refine kq_ rfl (Jq_quo rfl rfl rfl (by decide) (r:=((n / 32:Nat):Int)) (w64 (tdivN n 32) (by omega) (by omega))) (kp_ [] rfl (Jq_index_own rfl rfl rfl rfl (by decide) (by simp [hol]) (by decide) un24 ty164 (by omega) (by omega) (off:=n / 32) (by omega)) (kp_ [] rfl (Jq_load rfl rfl rfl (by decide) ty164 (get_own (by omega))) (dz 1 rfl ?_)))
     refine kq_ rfl (Jq_rem rfl rfl rfl (by decide) (r:=((n % 32:Nat):Int)) (tmodN n 32)) ?_
     refine kq_ rfl (Jq_shl rfl rfl rfl (by omega) (r:=((2 ^ (n % 32):Nat):Int)) ((by rw [show min (((n % 32:Nat):Int)).toNat IntKind.u32.bits = n % 32 from by simp only [IntKind.bits];omega,Int.one_mul,show ((2:Int) ^ (n % 32)) = ((2 ^ (n % 32):Nat):Int) from by rw [Int.natCast_pow];rfl];exact wrap_nat_u32 (by have:(2:Nat) ^ (n % 32)≤2 ^ 31:=Nat.pow_le_pow_right (by decide) (by omega);omega)))) ?_
     refine kq_ rfl (Jq_or rfl rfl rfl (r:=((out[n / 32]'(by omega) + 2 ^ (n % 32):Nat):Int)) (or32 (n % 32 + 1) hsb1.1 (Nat.pow_lt_pow_right (by decide) (Nat.lt_succ_self _)) hsb1.2.1)) (kp_ [] rfl (Jq_index_own rfl rfl rfl rfl (by decide) (by simp [hol]) (by decide) un24 ty164 (by omega) (by omega) (off:=n / 32) (by omega)) ?_)
     refine ki_ 0 rfl (Jd_store (ls:=((out.set (n / 32) (out[n / 32]'(by omega) + 2 ^ (n % 32))).map u32L)) rfl rfl rfl rfl ty164 rfl (by decide) (by simp;omega) (splice_u32 (by omega))) (DK_nil (za 4 rfl (tq_ rfl (Jq_sub rfl rfl rfl (r:=((n:Nat):Int) - 1) (w64 (by omega) (by omega) (by omega))) (zl 2 rfl ?_))))
     exact nx_ ⟨n,_,2 * Q + 1,_,rfl,rfl,rfl,by omega,by simp [hol],hos.set _ _ hsb1.2.1,hsb1.2.2,by rw [hstep,Nat.add_mul,Nat.one_mul];omega,by omega⟩ rfl
    ·refine tq_ rfl (geF rfl (by rw [cmpN_lt (by omega)];decide)) (zl 8 rfl (tq_ rfl (Jq_sub rfl rfl rfl (r:=((n:Nat):Int) - 1) (w64 (by omega) (by omega) (by omega))) (zl 2 rfl ?_)))
     exact nx_ ⟨n,_,2 * Q,_,rfl,rfl,rfl,by omega,hol,hos,by rw [hoq,Nat.pow_succ];grind,by rw [hstep];omega,by omega⟩ rfl
   ·refine tq_ rfl (geF rfl) (zl 9 rfl ?_)
    have hn0:n = 0:=by omega
    subst hn0
    rw [Nat.pow_zero,Nat.div_one] at hqr
    rw [Nat.pow_zero,Nat.one_mul] at hoq
    subst hoq
    have hdm:val la / val lb = val out∧val la % val lb = r:=by
     rw [hqr,Nat.mul_comm]
     exact ⟨by rw [Nat.mul_add_div hb0p,Nat.div_eq_of_lt hrb,Nat.add_zero],by rw [Nat.mul_add_mod,Nat.mod_eq_of_lt hrb]⟩
    refine zc 2 rfl (Tl_share_nat 86 (out) rfl rfl rfl rfl (by omega) (tc_ fn173 rfl (rmake_spec out hos (by omega)) (zl 6 rfl ?_)))
    exact r3_ hq_ rfl (by rw [hdm.1,hdm.2])
 ·refine zc 2 rfl (tc_ fn205 rfl (ruint_ge la hsa (by omega) (by omega)) (zl 3 rfl (is_ false rfl (rfl) (zl 5 rfl ?_))))
  by_cases hb:val lb < 18446744073709551616
  ·refine zc 2 rfl (tc_ fn205 rfl (ruint_lt lb hsb (by omega) (by omega)) (zl 3 rfl (is_ true rfl (rfl) (zl 10 rfl (tq_ rfl (eqF rfl) (zl 21 rfl (tq_ rfl (jln rfl) ?_)))))))
   obtain ⟨ti8,hi8,hz8,hs8,hb8⟩:=in164
   refine te_ rfl (Je_make (i:=0) (n:=la.length) (ls:=((List.replicate (la.length) 0).map u32L)) rfl rfl rfl un24 hi8 hz8 hs8 (by decide) rfl (by decide) rfl (by rw [hb8];omega) (by simp only [maxLen];omega) (zc_u32 _) rfl) (Tl_build0 rfl rfl rfl rfl un25 ty164 rfl (zl 6 rfl ?_))
   have hlbl:bl (val la)≤32 * la.length:=bl_le_of_lt (by rw [← pow32];exact val_lt hsa)
   have hb0p:0 < val lb:=Nat.pos_of_ne_zero hb0
   refine Tc_share_nat 12 ([]) rfl rfl rfl rfl rfl (zc 2 rfl (tc_ fn206 rfl (rbits_spec la hsa (by omega)) (tq_ rfl (Jq_sub rfl rfl rfl (r:=(bl (val la):Int) - 1) (w64 (by omega) (by omega) (by omega))) (zl 4 rfl ?_))))
   refine lpK_ (fun m Γ H=>∃ (n:Nat) (out:List Nat) (Q:Nat) (r:Nat),n = m∧Γ = [(0,some (D.v (V.one (natL la)))),(1,some (D.v (V.one (natL lb)))),(11,some (D.own 0 la.length)),(12,some (D.v (V.one (natL (limbs r))))),(13,some (D.int ((n:Int) - 1)))]∧H = [some ⟨164,(out).map u32L,some 1,none⟩,none]∧n≤bl (val la)∧out.length = la.length∧Small out∧val out = 2 ^ n * Q∧val la / 2 ^ n = Q * val lb + r∧r < val lb) ⟨bl (val la),List.replicate la.length 0,0,0,rfl,rfl,rfl,Nat.le_refl _,by simp,Small.replicate _,by simp [val_replicate],by rw [Nat.div_eq_of_lt (bl_lt _)];simp,hb0p⟩ ⟨rfl,rfl,rfl,by rw [limbs_zero];rfl,rfl,trivial⟩ ?_
   rintro m Γ H ⟨n,out,Q,r,rfl,rfl,rfl,hnb,hol,hos,hoq,hqr,hrb⟩
   refine zc 4 rfl ?_
   by_cases hp:0 < n
   ·refine tq_ rfl (geT rfl) (zl 8 rfl ?_)
    obtain ⟨n,rfl⟩:∃ n0,n = n0 + 1:=⟨n - 1,by omega⟩
    have hn1:(((n + 1:Nat):Int) - 1) = ((n:Nat):Int):=by omega
    rw [hn1]
    have hni:n / 32 < la.length:=bits_index (val_lt hsa) (by omega)
    have hrl:=limbs_length_mono (Nat.le_of_lt hrb);have hlbv:=limbs_val_length hsb
    have hbit:=bit_of hsa hni
    have hlan:=hsa.get (n / 32) hni
    have hstep:=div_bit_step hqr
    have hsb1:=set_bit hos (by omega) hoq
    refine zc 2 rfl (tc_ fn207 rfl (rshl_w (limbs r) 1 (small_limbs _) (by decide) (by omega) r (val_limbs _)) (zl 8 rfl (tq_ rfl (Jq_quo rfl rfl rfl (by decide) (r:=((n / 32:Nat):Int)) (w64 (tdivN n 32) (by omega) (by omega))) (tq_ rfl (ji1 rfl (get_u32 hni)) (tq_ rfl (jli rfl) (zl 1 rfl (tq_ rfl (Jq_rem rfl rfl rfl (by decide) (r:=((n % 32:Nat):Int)) (tmodN n 32)) ?_)))))))
    refine tq_ rfl (Jq_shr rfl rfl rfl (by omega) (r:=((la[n / 32]'hni / 2 ^ (n % 32):Nat):Int)) (shr_nat _ (n % 32) (by simp only [IntKind.bits];omega))) (tq_ rfl (Jq_and rfl rfl rfl (r:=((val la / 2 ^ n % 2:Nat):Int)) ((by rw [← hbit];exact and_one (Nat.lt_of_le_of_lt (Nat.div_le_self _ _) hlan)))) ?_)
    refine te_ rfl (Je_buildSlice rfl un25 ty164 tz164 rfl (by decide) (by decide) rfl (by decide) rfl) ?_
    have hr2:r * 2 ^ 1 + val la / 2 ^ n % 2 < 2 * val lb:=by omega
    have hl2:(limbs (r * 2 ^ 1)).length≤(limbs (val lb)).length + 1:=by
     rw [limbs_length_le,Nat.pow_succ]
     have:=(limbs_length_le (n:=val lb) (k:=(limbs (val lb)).length)).1 (Nat.le_refl _)
     omega
    have hl3:(limbs (r * 2 ^ 1 + val la / 2 ^ n % 2)).length≤9000000000000:=by
     refine Nat.le_trans (limbs_length_le (k:=(limbs (val lb)).length + 1).2 ?_) (by omega)
     rw [Nat.pow_succ]
     have:=(limbs_length_le (n:=val lb) (k:=(limbs (val lb)).length)).1 (Nat.le_refl _)
     omega
    refine tc_ fn174 rfl (radd_w (limbs (r * 2 ^ 1)) [val la / 2 ^ n % 2] (small_limbs _) (Small.cons (by omega) Small.nil) (by omega) (by simp) (r * 2 ^ 1) (val la / 2 ^ n % 2) (val_limbs _) (by simp)) (zl 7 rfl (tc_ fn204 rfl (rcmp_w (limbs (r * 2 ^ 1 + val la / 2 ^ n % 2)) lb (small_limbs _) hsb (r * 2 ^ 1 + val la / 2 ^ n % 2) (val lb) (val_limbs _) rfl) ?_))
    by_cases hge:val lb≤r * 2 ^ 1 + val la / 2 ^ n % 2
    ·refine tq_ rfl (geT rfl (by unfold cmpN;rw [if_neg (by omega)];split <;> decide)) (zl 7 rfl (tc_ fn175 rfl (rsub_w (limbs (r * 2 ^ 1 + val la / 2 ^ n % 2)) lb (small_limbs _) hsb hl3 (r * 2 ^ 1 + val la / 2 ^ n % 2) (val lb) (val_limbs _) rfl hge) (zl 6 rfl (dr_ 0 [(10,0)] [0] (dz 2 rfl ?_)))))
     refine kq_ rfl (Jq_quo rfl rfl rfl (by decide) (r:=((n / 32:Nat):Int)) (w64 (tdivN n 32) (by omega) (by omega))) (kp_ [] rfl (Jq_index_own rfl rfl rfl rfl (by decide) (by simp [hol]) (by decide) un24 ty164 (by omega) (by omega) (off:=n / 32) (by omega)) (kp_ [] rfl (Jq_load rfl rfl rfl (by decide) ty164 (get_own (by omega))) (dz 1 rfl ?_)))
     refine kq_ rfl (Jq_rem rfl rfl rfl (by decide) (r:=((n % 32:Nat):Int)) (tmodN n 32)) ?_
     refine kq_ rfl (Jq_shl rfl rfl rfl (by omega) (r:=((2 ^ (n % 32):Nat):Int)) ((by rw [show min (((n % 32:Nat):Int)).toNat IntKind.u32.bits = n % 32 from by simp only [IntKind.bits];omega,Int.one_mul,show ((2:Int) ^ (n % 32)) = ((2 ^ (n % 32):Nat):Int) from by rw [Int.natCast_pow];rfl];exact wrap_nat_u32 (by have:(2:Nat) ^ (n % 32)≤2 ^ 31:=Nat.pow_le_pow_right (by decide) (by omega);omega)))) ?_
     refine kq_ rfl (Jq_or rfl rfl rfl (r:=((out[n / 32]'(by omega) + 2 ^ (n % 32):Nat):Int)) (or32 (n % 32 + 1) hsb1.1 (Nat.pow_lt_pow_right (by decide) (Nat.lt_succ_self _)) hsb1.2.1)) (kp_ [] rfl (Jq_index_own rfl rfl rfl rfl (by decide) (by simp [hol]) (by decide) un24 ty164 (by omega) (by omega) (off:=n / 32) (by omega)) ?_)
     refine ki_ 0 rfl (Jd_store (ls:=((out.set (n / 32) (out[n / 32]'(by omega) + 2 ^ (n % 32))).map u32L)) rfl rfl rfl rfl ty164 rfl (by decide) (by simp;omega) (splice_u32 (by omega))) (DK_nil (za 4 rfl (tq_ rfl (Jq_sub rfl rfl rfl (r:=((n:Nat):Int) - 1) (w64 (by omega) (by omega) (by omega))) (zl 2 rfl ?_))))
     exact nx_ ⟨n,_,2 * Q + 1,_,rfl,rfl,rfl,by omega,by simp [hol],hos.set _ _ hsb1.2.1,hsb1.2.2,by rw [hstep,Nat.add_mul,Nat.one_mul];omega,by omega⟩ rfl
    ·refine tq_ rfl (geF rfl (by rw [cmpN_lt (by omega)];decide)) (zl 8 rfl (tq_ rfl (Jq_sub rfl rfl rfl (r:=((n:Nat):Int) - 1) (w64 (by omega) (by omega) (by omega))) (zl 2 rfl ?_)))
     exact nx_ ⟨n,_,2 * Q,_,rfl,rfl,rfl,by omega,hol,hos,by rw [hoq,Nat.pow_succ];grind,by rw [hstep];omega,by omega⟩ rfl
   ·refine tq_ rfl (geF rfl) (zl 9 rfl ?_)
    have hn0:n = 0:=by omega
    subst hn0
    rw [Nat.pow_zero,Nat.div_one] at hqr
    rw [Nat.pow_zero,Nat.one_mul] at hoq
    subst hoq
    have hdm:val la / val lb = val out∧val la % val lb = r:=by
     rw [hqr,Nat.mul_comm]
     exact ⟨by rw [Nat.mul_add_div hb0p,Nat.div_eq_of_lt hrb,Nat.add_zero],by rw [Nat.mul_add_mod,Nat.mod_eq_of_lt hrb]⟩
    refine zc 2 rfl (Tl_share_nat 86 (out) rfl rfl rfl rfl (by omega) (tc_ fn173 rfl (rmake_spec out hos (by omega)) (zl 6 rfl ?_)))
    exact r3_ hq_ rfl (by rw [hdm.1,hdm.2])
  ·refine zc 2 rfl (tc_ fn205 rfl (ruint_ge lb hsb (by omega) (by omega)) (zl 3 rfl (is_ false rfl (rfl) (zl 24 rfl (zl 8 rfl (tq_ rfl (jln rfl) ?_))))))
   obtain ⟨ti12,hi12,hz12,hs12,hb12⟩:=in164
   refine te_ rfl (Je_make (i:=0) (n:=la.length) (ls:=((List.replicate (la.length) 0).map u32L)) rfl rfl rfl un24 hi12 hz12 hs12 (by decide) rfl (by decide) rfl (by rw [hb12];omega) (by simp only [maxLen];omega) (zc_u32 _) rfl) (Tl_build0 rfl rfl rfl rfl un25 ty164 rfl (zl 6 rfl ?_))
   have hlbl:bl (val la)≤32 * la.length:=bl_le_of_lt (by rw [← pow32];exact val_lt hsa)
   have hb0p:0 < val lb:=Nat.pos_of_ne_zero hb0
   refine Tc_share_nat 12 ([]) rfl rfl rfl rfl rfl (zc 2 rfl (tc_ fn206 rfl (rbits_spec la hsa (by omega)) (tq_ rfl (Jq_sub rfl rfl rfl (r:=(bl (val la):Int) - 1) (w64 (by omega) (by omega) (by omega))) (zl 4 rfl ?_))))
   refine lpK_ (fun m Γ H=>∃ (n:Nat) (out:List Nat) (Q:Nat) (r:Nat),n = m∧Γ = [(0,some (D.v (V.one (natL la)))),(1,some (D.v (V.one (natL lb)))),(11,some (D.own 0 la.length)),(12,some (D.v (V.one (natL (limbs r))))),(13,some (D.int ((n:Int) - 1)))]∧H = [some ⟨164,(out).map u32L,some 1,none⟩,none]∧n≤bl (val la)∧out.length = la.length∧Small out∧val out = 2 ^ n * Q∧val la / 2 ^ n = Q * val lb + r∧r < val lb) ⟨bl (val la),List.replicate la.length 0,0,0,rfl,rfl,rfl,Nat.le_refl _,by simp,Small.replicate _,by simp [val_replicate],by rw [Nat.div_eq_of_lt (bl_lt _)];simp,hb0p⟩ ⟨rfl,rfl,rfl,by rw [limbs_zero];rfl,rfl,trivial⟩ ?_
   rintro m Γ H ⟨n,out,Q,r,rfl,rfl,rfl,hnb,hol,hos,hoq,hqr,hrb⟩
   refine zc 4 rfl ?_
   by_cases hp:0 < n
   ·refine tq_ rfl (geT rfl) (zl 8 rfl ?_)
    obtain ⟨n,rfl⟩:∃ n0,n = n0 + 1:=⟨n - 1,by omega⟩
    have hn1:(((n + 1:Nat):Int) - 1) = ((n:Nat):Int):=by omega
    rw [hn1]
    have hni:n / 32 < la.length:=bits_index (val_lt hsa) (by omega)
    have hrl:=limbs_length_mono (Nat.le_of_lt hrb);have hlbv:=limbs_val_length hsb
    have hbit:=bit_of hsa hni
    have hlan:=hsa.get (n / 32) hni
    have hstep:=div_bit_step hqr
    have hsb1:=set_bit hos (by omega) hoq
    refine zc 2 rfl (tc_ fn207 rfl (rshl_w (limbs r) 1 (small_limbs _) (by decide) (by omega) r (val_limbs _)) (zl 8 rfl (tq_ rfl (Jq_quo rfl rfl rfl (by decide) (r:=((n / 32:Nat):Int)) (w64 (tdivN n 32) (by omega) (by omega))) (tq_ rfl (ji1 rfl (get_u32 hni)) (tq_ rfl (jli rfl) (zl 1 rfl (tq_ rfl (Jq_rem rfl rfl rfl (by decide) (r:=((n % 32:Nat):Int)) (tmodN n 32)) ?_)))))))
    refine tq_ rfl (Jq_shr rfl rfl rfl (by omega) (r:=((la[n / 32]'hni / 2 ^ (n % 32):Nat):Int)) (shr_nat _ (n % 32) (by simp only [IntKind.bits];omega))) (tq_ rfl (Jq_and rfl rfl rfl (r:=((val la / 2 ^ n % 2:Nat):Int)) ((by rw [← hbit];exact and_one (Nat.lt_of_le_of_lt (Nat.div_le_self _ _) hlan)))) ?_)
    refine te_ rfl (Je_buildSlice rfl un25 ty164 tz164 rfl (by decide) (by decide) rfl (by decide) rfl) ?_
    have hr2:r * 2 ^ 1 + val la / 2 ^ n % 2 < 2 * val lb:=by omega
    have hl2:(limbs (r * 2 ^ 1)).length≤(limbs (val lb)).length + 1:=by
     rw [limbs_length_le,Nat.pow_succ]
     have:=(limbs_length_le (n:=val lb) (k:=(limbs (val lb)).length)).1 (Nat.le_refl _)
     omega
    have hl3:(limbs (r * 2 ^ 1 + val la / 2 ^ n % 2)).length≤9000000000000:=by
     refine Nat.le_trans (limbs_length_le (k:=(limbs (val lb)).length + 1).2 ?_) (by omega)
     rw [Nat.pow_succ]
     have:=(limbs_length_le (n:=val lb) (k:=(limbs (val lb)).length)).1 (Nat.le_refl _)
     omega
    refine tc_ fn174 rfl (radd_w (limbs (r * 2 ^ 1)) [val la / 2 ^ n % 2] (small_limbs _) (Small.cons (by omega) Small.nil) (by omega) (by simp) (r * 2 ^ 1) (val la / 2 ^ n % 2) (val_limbs _) (by simp)) (zl 7 rfl (tc_ fn204 rfl (rcmp_w (limbs (r * 2 ^ 1 + val la / 2 ^ n % 2)) lb (small_limbs _) hsb (r * 2 ^ 1 + val la / 2 ^ n % 2) (val lb) (val_limbs _) rfl) ?_))
    by_cases hge:val lb≤r * 2 ^ 1 + val la / 2 ^ n % 2
    ·refine tq_ rfl (geT rfl (by unfold cmpN;rw [if_neg (by omega)];split <;> decide)) (zl 7 rfl (tc_ fn175 rfl (rsub_w (limbs (r * 2 ^ 1 + val la / 2 ^ n % 2)) lb (small_limbs _) hsb hl3 (r * 2 ^ 1 + val la / 2 ^ n % 2) (val lb) (val_limbs _) rfl hge) (zl 6 rfl (dr_ 0 [(10,0)] [0] (dz 2 rfl ?_)))))
     refine kq_ rfl (Jq_quo rfl rfl rfl (by decide) (r:=((n / 32:Nat):Int)) (w64 (tdivN n 32) (by omega) (by omega))) (kp_ [] rfl (Jq_index_own rfl rfl rfl rfl (by decide) (by simp [hol]) (by decide) un24 ty164 (by omega) (by omega) (off:=n / 32) (by omega)) (kp_ [] rfl (Jq_load rfl rfl rfl (by decide) ty164 (get_own (by omega))) (dz 1 rfl ?_)))
     refine kq_ rfl (Jq_rem rfl rfl rfl (by decide) (r:=((n % 32:Nat):Int)) (tmodN n 32)) ?_
     refine kq_ rfl (Jq_shl rfl rfl rfl (by omega) (r:=((2 ^ (n % 32):Nat):Int)) ((by rw [show min (((n % 32:Nat):Int)).toNat IntKind.u32.bits = n % 32 from by simp only [IntKind.bits];omega,Int.one_mul,show ((2:Int) ^ (n % 32)) = ((2 ^ (n % 32):Nat):Int) from by rw [Int.natCast_pow];rfl];exact wrap_nat_u32 (by have:(2:Nat) ^ (n % 32)≤2 ^ 31:=Nat.pow_le_pow_right (by decide) (by omega);omega)))) ?_
     refine kq_ rfl (Jq_or rfl rfl rfl (r:=((out[n / 32]'(by omega) + 2 ^ (n % 32):Nat):Int)) (or32 (n % 32 + 1) hsb1.1 (Nat.pow_lt_pow_right (by decide) (Nat.lt_succ_self _)) hsb1.2.1)) (kp_ [] rfl (Jq_index_own rfl rfl rfl rfl (by decide) (by simp [hol]) (by decide) un24 ty164 (by omega) (by omega) (off:=n / 32) (by omega)) ?_)
     refine ki_ 0 rfl (Jd_store (ls:=((out.set (n / 32) (out[n / 32]'(by omega) + 2 ^ (n % 32))).map u32L)) rfl rfl rfl rfl ty164 rfl (by decide) (by simp;omega) (splice_u32 (by omega))) (DK_nil (za 4 rfl (tq_ rfl (Jq_sub rfl rfl rfl (r:=((n:Nat):Int) - 1) (w64 (by omega) (by omega) (by omega))) (zl 2 rfl ?_))))
     exact nx_ ⟨n,_,2 * Q + 1,_,rfl,rfl,rfl,by omega,by simp [hol],hos.set _ _ hsb1.2.1,hsb1.2.2,by rw [hstep,Nat.add_mul,Nat.one_mul];omega,by omega⟩ rfl
    ·refine tq_ rfl (geF rfl (by rw [cmpN_lt (by omega)];decide)) (zl 8 rfl (tq_ rfl (Jq_sub rfl rfl rfl (r:=((n:Nat):Int) - 1) (w64 (by omega) (by omega) (by omega))) (zl 2 rfl ?_)))
     exact nx_ ⟨n,_,2 * Q,_,rfl,rfl,rfl,by omega,hol,hos,by rw [hoq,Nat.pow_succ];grind,by rw [hstep];omega,by omega⟩ rfl
   ·refine tq_ rfl (geF rfl) (zl 9 rfl ?_)
    have hn0:n = 0:=by omega
    subst hn0
    rw [Nat.pow_zero,Nat.div_one] at hqr
    rw [Nat.pow_zero,Nat.one_mul] at hoq
    subst hoq
    have hdm:val la / val lb = val out∧val la % val lb = r:=by
     rw [hqr,Nat.mul_comm]
     exact ⟨by rw [Nat.mul_add_div hb0p,Nat.div_eq_of_lt hrb,Nat.add_zero],by rw [Nat.mul_add_mod,Nat.mod_eq_of_lt hrb]⟩
    refine zc 2 rfl (Tl_share_nat 86 (out) rfl rfl rfl rfl (by omega) (tc_ fn173 rfl (rmake_spec out hos (by omega)) (zl 6 rfl ?_)))
    exact r3_ hq_ rfl (by rw [hdm.1,hdm.2])
end Go.Proofs.YtmpkandbccallaaGreatDoor
