/- Parts of the proof, 5: the texts RatQ, Val, NatM, FwI, Knuth, Qz, RefM, Qw, Aff, WkA, WkB, as far as they are used. -/
import Derived.Test.YtmpkandbccallaaGreatDoorBo04
namespace Rc
def dn (d:Nat):Nat:=if d = 0 then 1 else d
theorem dn_pos (d:Nat):0 < dn d:=by unfold dn;split <;> omega
theorem dn_ne (d:Nat):dn d≠0:=Nat.ne_of_gt (dn_pos d)
theorem dn_of {d:Nat} (h:d≠0):dn d = d:=by simp [dn,h]
@[simp] theorem dn_zero:dn 0 = 1:=rfl
def sgn (neg:Bool) (n:Nat):Int:=if neg then -(n:Int) else n
@[simp] theorem sgn_true (n:Nat):sgn true n = -(n:Int):=rfl
@[simp] theorem sgn_false (n:Nat):sgn false n = n:=rfl
@[simp] theorem natAbs_sgn (neg:Bool) (n:Nat):(sgn neg n).natAbs = n:=by cases neg <;> simp
theorem sgn_mul (a b:Bool) (m n:Nat):sgn (a != b) (m * n) = sgn a m * sgn b n:=by
 cases a <;> cases b <;> simp [Int.neg_mul,Int.mul_neg]
theorem sgn_not (a:Bool) (m:Nat):sgn (!a) m = - sgn a m:=by cases a <;> simp
theorem sgn_natAbs (x:Int):sgn (decide (x < 0)) x.natAbs = x:=by
 unfold sgn
 by_cases h:x < 0
 ·simp only [h,decide_true,if_true];omega
 ·simp only [h,decide_false];simp;omega
def rq (neg:Bool) (n d:Nat):Rat:=mkRat (sgn neg n) (dn d)
def cneg (q:Rat):Bool:=decide (q.num < 0)
def cnum (q:Rat):Nat:=q.num.natAbs
def cden (q:Rat):Nat:=if q.den = 1 then 0 else q.den
theorem dn_cden (q:Rat):dn (cden q) = q.den:=by
 have:=q.den_pos
 unfold cden
 by_cases h:q.den = 1
 ·rw [if_pos h,h];rfl
 ·rw [if_neg h];exact dn_of (by omega)
theorem rq_canon (q:Rat):rq (cneg q) (cnum q) (cden q) = q:=by
 unfold rq cneg cnum
 rw [dn_cden,sgn_natAbs,Rat.mkRat_self]
theorem rq_zero (neg:Bool) (d:Nat):rq neg 0 d = 0:=by unfold rq;cases neg <;> simp
theorem rq_eq_zero {neg:Bool} {n d:Nat}:rq neg n d = 0↔n = 0:=by
 unfold rq;rw [Rat.mkRat_eq_zero (dn_ne d)];cases neg <;> simp
@[simp] theorem cneg_zero:cneg 0 = false:=rfl
@[simp] theorem cnum_zero:cnum 0 = 0:=rfl
@[simp] theorem cden_zero:cden 0 = 0:=rfl
theorem rq_dn (neg:Bool) (n d:Nat):rq neg n (dn d) = rq neg n d:=by unfold rq;rw [dn_of (dn_ne d)]
theorem den_rq (neg:Bool) (n d:Nat):(rq neg n d).den = dn d / Nat.gcd n (dn d):=by
 unfold rq;rw [Rat.den_mkRat,if_neg (dn_ne d),natAbs_sgn,Nat.gcd_comm]
theorem num_rq (neg:Bool) (n d:Nat):(rq neg n d).num = sgn neg (n / Nat.gcd n (dn d)):=by
 unfold rq;rw [Rat.num_mkRat,if_neg (dn_ne d),natAbs_sgn,Nat.gcd_comm (dn d) n]
 obtain ⟨k,hk⟩:=Nat.gcd_dvd_left n (dn d)
 have hg0:0 < Nat.gcd n (dn d):=Nat.gcd_pos_of_pos_right _ (dn_pos d)
 generalize Nat.gcd n (dn d) = g at *
 subst hk
 rw [Nat.mul_div_cancel_left _ hg0]
 cases neg
 ·simp only [sgn_false]
  rw [Int.natCast_mul,Int.mul_ediv_cancel_left _ (by omega)]
 ·simp only [sgn_true]
  rw [Int.natCast_mul,← Int.mul_neg,Int.mul_ediv_cancel_left _ (by omega)]
theorem cnum_rq (neg:Bool) (n d:Nat):cnum (rq neg n d) = n / Nat.gcd n (dn d):=by
 unfold cnum;rw [num_rq,natAbs_sgn]
theorem cneg_rq (neg:Bool) (n d:Nat):cneg (rq neg n d) = (neg && decide (n≠0)):=by
 unfold cneg;rw [num_rq]
 have hp:n≠0→0 < n / Nat.gcd n (dn d):=fun h=>Nat.div_pos (Nat.le_of_dvd (by omega) (Nat.gcd_dvd_left _ _)) (Nat.gcd_pos_of_pos_left _ (by omega))
 have h0:n = 0→n / Nat.gcd n (dn d) = 0:=fun h=>by rw [h,Nat.zero_div]
 generalize n / Nat.gcd n (dn d) = k at *
 cases neg
 ·rw [Bool.false_and];exact decide_eq_false (by rw [sgn_false];omega)
 ·rw [Bool.true_and]
  by_cases h:n = 0
  ·rw [h0 h];rw [decide_eq_false (by simp [h]:¬ n≠0)];rfl
  ·have:=hp h
   rw [decide_eq_true (h:n≠0)];exact decide_eq_true (by rw [sgn_true];omega)
theorem rq_add (a b:Bool) (m n d e:Nat) (s:Int) (hs:s = sgn a (m * dn e) + sgn b (n * dn d)) :
  rq (decide (s < 0)) s.natAbs (dn d * dn e) = rq a m d + rq b n e:=by
 have h1:rq (decide (s < 0)) s.natAbs (dn d * dn e) = mkRat s (dn d * dn e):=by
  unfold rq
  rw [sgn_natAbs,dn_of (Nat.ne_of_gt (Nat.mul_pos (dn_pos d) (dn_pos e)))]
 rw [h1,hs]
 unfold rq
 rw [Rat.mkRat_add_mkRat _ _ (dn_ne d) (dn_ne e)]
 congr 1
 cases a <;> cases b <;> simp <;> grind
theorem rq_mul (a b:Bool) (m n d e:Nat):rq (a != b) (m * n) (dn d * dn e) = rq a m d * rq b n e:=by
 unfold rq
 rw [Rat.mkRat_mul_mkRat,sgn_mul,dn_of (Nat.ne_of_gt (Nat.mul_pos (dn_pos d) (dn_pos e)))]
theorem rq_neg (a:Bool) (m d:Nat):rq (!a) m d = - rq a m d:=by
 unfold rq;rw [sgn_not,Rat.neg_mkRat]
theorem mkRat_lt {a b:Int} {d e:Nat} (hd:0 < d) (he:0 < e):mkRat a d < mkRat b e↔a * e < b * d:=by
 rw [Rat.mkRat_eq_div,Rat.mkRat_eq_div]
 have hd':(0:Rat) < ((d:Int):Rat):=by
  rw [show (0:Rat) = ((0:Int):Rat) from rfl];exact Rat.intCast_lt_intCast.2 (by omega)
 have he':(0:Rat) < ((e:Int):Rat):=by
  rw [show (0:Rat) = ((0:Int):Rat) from rfl];exact Rat.intCast_lt_intCast.2 (by omega)
 have e1:((a:Rat) / (d:Nat)) = (a:Rat) / ((d:Int):Rat):=rfl
 have e2:((b:Rat) / (e:Nat)) = (b:Rat) / ((e:Int):Rat):=rfl
 rw [e1,e2,Rat.div_lt_iff hd']
 rw [show (b:Rat) / ((e:Int):Rat) * ((d:Int):Rat) = ((b:Rat) * ((d:Int):Rat)) / ((e:Int):Rat) by grind,Rat.lt_div_iff he',
  ← Rat.intCast_mul,← Rat.intCast_mul,Rat.intCast_lt_intCast]
theorem rq_lt (a b:Bool) (m n d e:Nat):rq a m d < rq b n e↔sgn a m * dn e < sgn b n * dn d:=by
 unfold rq;exact mkRat_lt (dn_pos d) (dn_pos e)
theorem rq_eq (a b:Bool) (m n d e:Nat):rq a m d = rq b n e↔sgn a m * dn e = sgn b n * dn d:=by
 unfold rq;exact Rat.mkRat_eq_iff (dn_ne d) (dn_ne e)
def sg (q:Rat):Int:=if q < 0 then -1 else if q = 0 then 0 else 1
def cmpq (p q:Rat):Int:=if p < q then -1 else if p = q then 0 else 1
theorem cmpq_sub (p q:Rat):cmpq p q = sg (p - q):=by
 unfold cmpq sg
 have h1:p < q↔p - q < 0:=by grind
 have h2:p = q↔p - q = 0:=by grind
 simp only [h1,h2]
end Rc
namespace Rc
def val:List Nat→Nat
 | []=>0
 | x :: xs=>x + 4294967296 * val xs
def Small (l:List Nat):Prop:=∀ x∈l,x < 4294967296
def Canon (l:List Nat):Prop:=Small l∧∀ h:l≠[],l.getLast h≠0
def limbs (n:Nat):List Nat:=if h:n = 0 then [] else n % 4294967296 :: limbs (n / 4294967296)
termination_by n
decreasing_by omega
@[simp] theorem val_nil:val [] = 0:=rfl
@[simp] theorem val_cons (x:Nat) (xs:List Nat):val (x :: xs) = x + 4294967296 * val xs:=rfl
theorem Small.nil:Small []:=fun _ h=>by simp at h
theorem Small.cons {x:Nat} {l:List Nat} (hx:x < 4294967296) (h:Small l):Small (x :: l):=by
 intro y hy
 rcases List.mem_cons.1 hy with rfl | hy
 ·exact hx
 ·exact h y hy
theorem Small.head {x:Nat} {l:List Nat} (h:Small (x :: l)):x < 4294967296:=h x (by simp)
theorem Small.tail {x:Nat} {l:List Nat} (h:Small (x :: l)):Small l:=fun y hy=>h y (by simp [hy])
theorem Small.append {a b:List Nat} (ha:Small a) (hb:Small b):Small (a ++ b):=by
 intro x hx
 rcases List.mem_append.1 hx with h | h
 ·exact ha x h
 ·exact hb x h
theorem Small.take {a:List Nat} (ha:Small a) (n:Nat):Small (a.take n):=fun x hx=>ha x (List.mem_of_mem_take hx)
theorem Small.drop {a:List Nat} (ha:Small a) (n:Nat):Small (a.drop n):=fun x hx=>ha x (List.mem_of_mem_drop hx)
theorem Small.get {a:List Nat} (ha:Small a) (i:Nat) (h:i < a.length):a[i] < 4294967296:=ha _ (List.getElem_mem h)
theorem Small.getD {a:List Nat} (ha:Small a) (i:Nat):a.getD i 0 < 4294967296:=by
 by_cases h:i < a.length
 ·simp [List.getD,h];exact ha.get i h
 ·simp [List.getD,h]
theorem Small.set {a:List Nat} (ha:Small a) (i x:Nat) (hx:x < 4294967296):Small (a.set i x):=by
 intro y hy
 rcases List.mem_or_eq_of_mem_set hy with h | h
 ·exact ha y h
 ·omega
theorem Small.replicate (n:Nat):Small (List.replicate n 0):=by
 intro x hx
 have:=(List.mem_replicate.1 hx).2
 omega
theorem val_append (a b:List Nat):val (a ++ b) = val a + 4294967296 ^ a.length * val b:=by
 induction a with
 | nil=>simp
 | cons x xs ih=>simp only [List.cons_append,val_cons,ih,List.length_cons];grind
theorem val_replicate (n:Nat):val (List.replicate n 0) = 0:=by
 induction n with
 | zero=>rfl
 | succ n ih=>simp [List.replicate_succ,ih]
theorem val_lt {l:List Nat} (h:Small l):val l < 4294967296 ^ l.length:=by
 induction l with
 | nil=>simp
 | cons x xs ih=>
  have hx:=h.head
  have:=ih h.tail
  simp only [val_cons,List.length_cons,Nat.pow_succ]
  omega
theorem val_take_succ (l:List Nat) (i:Nat) (h:i < l.length):val (l.take (i + 1)) = val (l.take i) + 4294967296 ^ i * l[i]:=by
 rw [List.take_succ_eq_append_getElem h,val_append]
 simp [List.length_take,Nat.min_eq_left (Nat.le_of_lt h)]
theorem val_take_getD (l:List Nat) (i:Nat):val (l.take (i + 1)) = val (l.take i) + 4294967296 ^ i * l.getD i 0:=by
 by_cases h:i < l.length
 ·rw [val_take_succ l i h];simp [List.getD,h]
 ·simp [List.getD,h,List.take_of_length_le (Nat.le_of_not_lt h),List.take_of_length_le (Nat.le_succ_of_le (Nat.le_of_not_lt h))]
theorem val_take_drop (l:List Nat) (i:Nat):val l = val (l.take i) + 4294967296 ^ (min i l.length) * val (l.drop i):=by
 conv=>lhs;rw [← List.take_append_drop i l]
 rw [val_append,List.length_take]
theorem limbs_zero:limbs 0 = []:=by unfold limbs;simp
theorem limbs_pos {n:Nat} (h:n≠0):limbs n = n % 4294967296 :: limbs (n / 4294967296):=by rw [limbs];simp [h]
theorem val_limbs (n:Nat):val (limbs n) = n:=by
 induction n using Nat.strongRecOn with
 | _ n ih=>
  by_cases h:n = 0
  ·subst h;simp [limbs_zero]
  ·rw [limbs_pos h,val_cons,ih _ (by omega)];omega
theorem small_limbs (n:Nat):Small (limbs n):=by
 induction n using Nat.strongRecOn with
 | _ n ih=>
  by_cases h:n = 0
  ·subst h;simp [limbs_zero];exact Small.nil
  ·rw [limbs_pos h];exact Small.cons (by omega) (ih _ (by omega))
theorem limbs_eq_nil {n:Nat}:limbs n = []↔n = 0:=by
 constructor
 ·intro h;have:=val_limbs n;rw [h] at this;simp at this;omega
 ·rintro rfl;exact limbs_zero
theorem canon_limbs (n:Nat):Canon (limbs n):=by
 refine ⟨small_limbs n,?_⟩
 induction n using Nat.strongRecOn with
 | _ n ih=>
  intro h
  have hn:n≠0:=fun e=>h (limbs_eq_nil.2 e)
  simp only [limbs_pos hn]
  by_cases h2:n / 4294967296 = 0
  ·simp only [h2,limbs_zero];simp;omega
  ·have h3:limbs (n / 4294967296)≠[]:=fun e=>h2 (limbs_eq_nil.1 e)
   rw [List.getLast_cons h3]
   exact ih _ (by omega) h3
theorem Canon.tail {x:Nat} {l:List Nat} (h:Canon (x :: l)):Canon l:=
 ⟨h.1.tail,fun hl=>by have:=h.2 (by simp);rwa [List.getLast_cons hl] at this⟩
theorem limbs_val {l:List Nat} (h:Canon l):limbs (val l) = l:=by
 induction l with
 | nil=>exact limbs_zero
 | cons x xs ih=>
  have hx:=h.1.head
  have hne:val (x :: xs)≠0:=by
   intro e
   simp only [val_cons] at e
   have h0:val xs = 0:=by omega
   have:xs = []:=by rw [← ih h.tail,h0,limbs_zero]
   subst this
   exact h.2 (by simp) (by simp;omega)
  rw [limbs_pos hne]
  have e1:val (x :: xs) % 4294967296 = x:=by simp only [val_cons];omega
  have e2:val (x :: xs) / 4294967296 = val xs:=by simp only [val_cons];omega
  rw [e1,e2,ih h.tail]
theorem Canon.eq {l:List Nat} (h:Canon l):l = limbs (val l):=(limbs_val h).symm
theorem limbs_length_le {n k:Nat}:(limbs n).length≤k↔n < 4294967296 ^ k:=by
 constructor
 ·intro h
  have h1:=val_lt (small_limbs n)
  rw [val_limbs] at h1
  exact Nat.lt_of_lt_of_le h1 (Nat.pow_le_pow_right (by omega) h)
 ·intro h
  induction k generalizing n with
  | zero=>simp at h;subst h;simp [limbs_zero]
  | succ k ih=>
   by_cases hn:n = 0
   ·subst hn;simp [limbs_zero]
   ·rw [limbs_pos hn]
    simp only [List.length_cons]
    have:=ih (n:=n / 4294967296) (by rw [Nat.pow_succ] at h;omega)
    omega
theorem take_val {l:List Nat} (n:Nat) (h:∀ i (hi:i < l.length),n≤i→l[i] = 0):val (l.take n) = val l:=by
 rw [val_take_drop l n]
 have:val (l.drop n) = 0:=by
  have e:l.drop n = List.replicate (l.length - n) 0:=by
   apply List.ext_getElem
   ·simp
   ·intro i h1 h2
    simp at h1
    simp
    exact h _ _ (by omega)
  rw [e,val_replicate]
 rw [this];simp
theorem limbs_take {l:List Nat} (hs:Small l) (n:Nat) (hn:n≤l.length) (h:∀ i (hi:i < l.length),n≤i→l[i] = 0)
  (hl:∀ h0:0 < n,l[n - 1]≠0):l.take n = limbs (val l):=by
 have hc:Canon (l.take n):=by
  refine ⟨hs.take n,fun he=>?_⟩
  have h0:0 < n:=by
   rcases Nat.eq_zero_or_pos n with h0 | h0
   ·subst h0;simp at he
   ·exact h0
  have h1:=hl h0
  rw [List.getLast_eq_getElem]
  simp only [List.getElem_take,List.length_take]
  simpa [Nat.min_eq_left hn] using h1
 rw [hc.eq,take_val n h]
end Rc
namespace Rc
def cmpN (a b:Nat):Int:=if a < b then -1 else if a = b then 0 else 1
theorem cmpN_lt {a b:Nat} (h:a < b):cmpN a b = -1:=by simp [cmpN,h]
theorem cmpN_gt {a b:Nat} (h:b < a):cmpN a b = 1:=by
 unfold cmpN;rw [if_neg (by omega),if_neg (by omega)]
theorem cmpN_eq {a b:Nat} (h:a = b):cmpN a b = 0:=by subst h;simp [cmpN]
theorem limbs_length_mono {x y:Nat} (h:x≤y):(limbs x).length≤(limbs y).length:=
 limbs_length_le.2 (Nat.lt_of_le_of_lt h (limbs_length_le.1 (Nat.le_refl _)))
theorem lt_of_length {x y:Nat} (h:(limbs x).length < (limbs y).length):x < y:=by
 rcases Nat.lt_or_ge x y with h1 | h1
 ·exact h1
 ·have:=limbs_length_mono h1;omega
theorem limbs_val_length {l:List Nat} (hs:Small l):(limbs (val l)).length≤l.length:=limbs_length_le.2 (val_lt hs)
theorem val_split (l:List Nat) (n:Nat) (h:n < l.length):val l = val (l.take n) + 4294967296 ^ n * (l[n] + 4294967296 * val (l.drop (n + 1))):=by
 have h1:=val_take_drop l n
 rw [Nat.min_eq_left (Nat.le_of_lt h),List.drop_eq_getElem_cons h,val_cons] at h1
 exact h1
theorem cmp_at {a b:List Nat} {n:Nat} (ha:Small a) (hn:n < a.length) (hn':n < b.length) (h:a.drop (n + 1) = b.drop (n + 1)) (hlt:a[n] < b[n]):val a < val b:=by
 rw [val_split a n hn,val_split b n hn',h]
 have h1:=val_lt (ha.take n)
 rw [List.length_take,Nat.min_eq_left (Nat.le_of_lt hn)] at h1
 generalize val (b.drop (n + 1)) = d
 have h2:4294967296 ^ n * (a[n] + 4294967296 * d + 1)≤4294967296 ^ n * (b[n] + 4294967296 * d):=Nat.mul_le_mul_left _ (by omega)
 rw [Nat.mul_add,Nat.mul_one] at h2
 omega
theorem drop_succ_eq {a b:List Nat} {n:Nat} (hn:n < a.length) (hn':n < b.length) (h:a.drop (n + 1) = b.drop (n + 1)) (he:a[n] = b[n]):a.drop n = b.drop n:=by
 rw [List.drop_eq_getElem_cons hn,List.drop_eq_getElem_cons hn',h,he]
theorem val_set_take (out:List Nat) (k x:Nat) (h:k < out.length):val ((out.set k x).take (k + 1)) = val (out.take k) + 4294967296 ^ k * x:=by
 rw [val_take_succ _ _ (by simpa using h),List.take_set_of_le (Nat.le_refl k),List.getElem_set_self]
theorem val_take_all (l:List Nat) (k:Nat) (h:l.length≤k):val (l.take k) = val l:=by rw [List.take_of_length_le h]
theorem getD_of {l:List Nat} {k:Nat} (h:k < l.length):l.getD k 0 = l[k]:=by simp [List.getD,h]
theorem getD_out {l:List Nat} {k:Nat} (h:l.length≤k):l.getD k 0 = 0:=by simp [List.getD,h]
theorem add_step {a b out:List Nat} {k c s:Nat} (hk:k < a.length) (hl:k < out.length) (h:val (out.take k) + c * 4294967296 ^ k = val (a.take k) + val (b.take k)) (hs:s = c + a[k] + b.getD k 0) :
  val ((out.set k (s % 4294967296)).take (k + 1)) + (s / 4294967296) * 4294967296 ^ (k + 1) = val (a.take (k + 1)) + val (b.take (k + 1)):=by
 rw [val_set_take out k _ hl,val_take_succ a k hk,val_take_getD b k,Nat.pow_succ]
 have e:4294967296 ^ k * s = 4294967296 ^ k * (s % 4294967296) + s / 4294967296 * (4294967296 ^ k * 4294967296):=by
  conv=>lhs;rw [← Nat.mod_add_div s 4294967296]
  grind
 rw [hs] at e
 rw [hs]
 have e2:4294967296 ^ k * (c + a[k] + b.getD k 0) = c * 4294967296 ^ k + 4294967296 ^ k * a[k] + 4294967296 ^ k * b.getD k 0:=by grind
 omega
theorem sub_step {a b out:List Nat} {k c x:Nat} (hk:k < a.length) (hl:k < out.length) (ha:Small a) (hb:Small b) (hc:c≤1)
  (h:val (out.take k) + val (b.take k) = val (a.take k) + c * 4294967296 ^ k) (hx:x = (18446744073709551616 + a[k] - c - b.getD k 0) % 18446744073709551616) :
  val ((out.set k (x % 4294967296)).take (k + 1)) + val (b.take (k + 1)) = val (a.take (k + 1)) + (x / 9223372036854775808) * 4294967296 ^ (k + 1):=by
 rw [val_set_take out k _ hl,val_take_succ a k hk,val_take_getD b k,Nat.pow_succ]
 have h1:=ha.get k hk
 have h2:=hb.getD k
 generalize a[k] = p at *
 generalize b.getD k 0 = q at *
 have e:x % 4294967296 + q + c = p + (x / 9223372036854775808) * 4294967296:=by omega
 have e2:4294967296 ^ k * (x % 4294967296 + q + c) = 4294967296 ^ k * (p + (x / 9223372036854775808) * 4294967296):=by rw [e]
 have e3:4294967296 ^ k * (x % 4294967296 + q + c) = 4294967296 ^ k * (x % 4294967296) + 4294967296 ^ k * q + c * 4294967296 ^ k:=by grind
 have e4:4294967296 ^ k * (p + (x / 9223372036854775808) * 4294967296) = 4294967296 ^ k * p + (x / 9223372036854775808) * (4294967296 ^ k * 4294967296):=by grind
 omega
theorem val_set (l:List Nat) (i x:Nat) (h:i < l.length):val (l.set i x) + 4294967296 ^ i * l[i] = val l + 4294967296 ^ i * x:=by
 rw [val_split l i h,val_split (l.set i x) i (by simpa using h)]
 rw [List.take_set_of_le (Nat.le_refl i),List.getElem_set_self,List.drop_set_of_lt (by omega)]
 grind
theorem mul_step {b out:List Nat} {i k c x:Nat} (hk:k < b.length) (hl:i + k < out.length) (base:Nat) (h:val out + c * 4294967296 ^ (i + k) = base + 4294967296 ^ i * (x * val (b.take k))) :
  val (out.set (i + k) ((c + (x * b[k] + out[i + k])) % 4294967296)) + ((c + (x * b[k] + out[i + k])) / 4294967296) * 4294967296 ^ (i + (k + 1)) = base + 4294967296 ^ i * (x * val (b.take (k + 1))):=by
 have h1:=val_set out (i + k) ((c + (x * b[k] + out[i + k])) % 4294967296) hl
 rw [val_take_succ b k hk,show i + (k + 1) = (i + k) + 1 from rfl,Nat.pow_succ]
 generalize hs:c + (x * b[k] + out[i + k]) = s at *
 have e1:4294967296 ^ (i + k) * s = 4294967296 ^ (i + k) * (s % 4294967296) + s / 4294967296 * (4294967296 ^ (i + k) * 4294967296):=by
  conv=>lhs;rw [← Nat.mod_add_div s 4294967296]
  grind
 have e2:4294967296 ^ (i + k) * s = c * 4294967296 ^ (i + k) + 4294967296 ^ i * (x * (4294967296 ^ k * b[k])) + 4294967296 ^ (i + k) * out[i + k]:=by
  rw [← hs,Nat.pow_add];grind
 have e3:4294967296 ^ i * (x * (val (b.take k) + 4294967296 ^ k * b[k])) = 4294967296 ^ i * (x * val (b.take k)) + 4294967296 ^ i * (x * (4294967296 ^ k * b[k])):=by grind
 omega
theorem mul_carry {c x y o:Nat} (hc:c < 4294967296) (hx:x < 4294967296) (hy:y < 4294967296) (ho:o < 4294967296):c + (x * y + o) < 18446744073709551616∧(c + (x * y + o)) / 4294967296 < 4294967296∧x * y≤18446744065119617025:=by
 have h1:x * y≤4294967295 * 4294967295:=Nat.mul_le_mul (by omega) (by omega)
 omega
end Rc
namespace Rc
def bl (n:Nat):Nat:=if n = 0 then 0 else Nat.log2 n + 1
theorem bl_lt (n:Nat):n < 2 ^ bl n:=by
 unfold bl;split
 ·rename_i h;subst h;simp
 ·exact Nat.lt_log2_self
theorem bl_le {n:Nat} (h:n≠0):2 ^ (bl n - 1)≤n:=by
 unfold bl;rw [if_neg h];simpa using Nat.log2_self_le h
theorem bl_unique {n k:Nat} (h1:n < 2 ^ k) (h2:0 < k→2 ^ (k - 1)≤n):bl n = k:=by
 by_cases h0:n = 0
 ·subst h0
  rcases Nat.eq_zero_or_pos k with hk | hk
  ·subst hk;rfl
  ·have:=h2 hk;have:=Nat.pow_pos (n:=k - 1) (show 0 < 2 from by omega);omega
 ·have hk:0 < k:=by
   rcases Nat.eq_zero_or_pos k with hk | hk
   ·subst hk;simp at h1;omega
   ·exact hk
  unfold bl
  rw [if_neg h0,(Nat.log2_eq_iff h0).2 ⟨h2 hk,by rw [show k - 1 + 1 = k from by omega];exact h1⟩]
  omega
theorem bl_zero:bl 0 = 0:=rfl
theorem bl_pos {n:Nat} (h:n≠0):0 < bl n:=by unfold bl;rw [if_neg h];omega
theorem bl_div {n k:Nat} (h:2 ^ k≤n):bl n = bl (n / 2 ^ k) + k:=by
 have hp:0 < 2 ^ k:=Nat.pow_pos (by omega)
 have hq:n / 2 ^ k≠0:=Nat.ne_of_gt (Nat.div_pos h hp)
 apply bl_unique
 ·have:=bl_lt (n / 2 ^ k)
  rw [Nat.pow_add]
  rwa [Nat.div_lt_iff_lt_mul hp] at this
 ·intro _
  have:=bl_le hq
  have h3:=bl_pos hq
  rw [show bl (n / 2 ^ k) + k - 1 = (bl (n / 2 ^ k) - 1) + k from by omega,Nat.pow_add]
  rwa [Nat.le_div_iff_mul_le hp] at this
theorem bl_le_of_lt {n k:Nat} (h:n < 2 ^ k):bl n≤k:=by
 rcases Nat.lt_or_ge k (bl n) with h1 | h1
 ·exfalso
  have h0:n≠0:=by intro e;subst e;simp [bl] at h1
  have:=bl_le h0
  have h2:2 ^ k≤2 ^ (bl n - 1):=Nat.pow_le_pow_right (by omega) (by omega)
  omega
 ·exact h1
theorem bl_add_mul {lo hi k:Nat} (h:lo < 2 ^ k) (hh:hi≠0):bl (lo + 2 ^ k * hi) = k + bl hi:=by
 have hp:0 < 2 ^ k:=Nat.pow_pos (by omega)
 have e:(lo + 2 ^ k * hi) / 2 ^ k = hi:=by
  rw [Nat.add_mul_div_left _ _ hp,Nat.div_eq_of_lt h,Nat.zero_add]
 have h1:2 ^ k≤lo + 2 ^ k * hi:=by
  have:2 ^ k * 1≤2 ^ k * hi:=Nat.mul_le_mul_left _ (by omega)
  omega
 rw [bl_div h1,e,Nat.add_comm]
theorem pow32 (k:Nat):4294967296 ^ k = 2 ^ (32 * k):=by rw [Nat.pow_mul]
theorem bl_limbs {l:List Nat} (hc:Canon l) (h:0 < l.length):bl (val l) = 32 * (l.length - 1) + bl (l[l.length - 1]'(by omega)):=by
 have h1:=val_split l (l.length - 1) (by omega)
 have h2:l.drop (l.length - 1 + 1) = []:=List.drop_of_length_le (by omega)
 rw [h2] at h1
 simp only [val_nil,Nat.mul_zero,Nat.add_zero] at h1
 have h3:=val_lt (hc.1.take (l.length - 1))
 rw [List.length_take,Nat.min_eq_left (by omega),pow32] at h3
 rw [h1,pow32]
 refine bl_add_mul h3 ?_
 have:=hc.2 (by intro e;rw [e] at h;simp at h)
 rwa [List.getLast_eq_getElem] at this
theorem left_step {a out:List Nat} {i k:Nat} (hi:i < a.length) (hl:i + 1 < out.length) (h:val (out.take (i + 1)) = val (a.take i) * 2 ^ k) (x:Nat) (hx:x = a[i] * 2 ^ k) :
  val (((out.set i (out[i] + x % 4294967296)).set (i + 1) (x / 4294967296)).take (i + 1 + 1)) = val (a.take (i + 1)) * 2 ^ k:=by
 rw [val_set_take _ (i + 1) _ (by simpa using hl)]
 rw [val_set_take out i _ (by omega)]
 rw [val_take_succ out i (by omega)] at h
 rw [val_take_succ a i hi,Nat.add_mul,← h,Nat.pow_succ]
 have e:4294967296 ^ i * x = 4294967296 ^ i * (x % 4294967296) + 4294967296 ^ i * 4294967296 * (x / 4294967296):=by
  conv=>lhs;rw [← Nat.mod_add_div x 4294967296]
  grind
 have e2:4294967296 ^ i * a[i] * 2 ^ k = 4294967296 ^ i * x:=by rw [hx];grind
 have e3:4294967296 ^ i * (out[i] + x % 4294967296) = 4294967296 ^ i * out[i] + 4294967296 ^ i * (x % 4294967296):=by grind
 omega
theorem val_drop_div (l:List Nat) (hs:Small l) (i:Nat):val l / 4294967296 ^ i = val (l.drop i):=by
 have hp:0 < 4294967296 ^ i:=Nat.pow_pos (by omega)
 by_cases hi:i≤l.length
 ·have h1:=val_take_drop l i
  have h2:=val_lt (hs.take i)
  rw [List.length_take,Nat.min_eq_left hi] at h2
  rw [Nat.min_eq_left hi] at h1
  rw [h1,Nat.add_mul_div_left _ _ hp,Nat.div_eq_of_lt h2,Nat.zero_add]
 ·have h1:=val_lt hs
  have h2:4294967296 ^ l.length≤4294967296 ^ i:=Nat.pow_le_pow_right (by omega) (by omega)
  rw [List.drop_of_length_le (by omega),Nat.div_eq_of_lt (by omega)];rfl
theorem shr_step {a out:List Nat} {i s:Nat} (ha:Small a) (hi:i < a.length) (hl:i < out.length) (hs:s < 32) (h:val (out.take i) = val a / 2 ^ s % 4294967296 ^ i) (x:Nat) (hx:x = a[i] + 4294967296 * a.getD (i + 1) 0) :
  val ((out.set i (x / 2 ^ s % 4294967296)).take (i + 1)) = val a / 2 ^ s % 4294967296 ^ (i + 1):=by
 rw [val_set_take out i _ hl,h,Nat.pow_succ,Nat.mod_mul,Nat.div_div_eq_div_mul,Nat.mul_comm (2 ^ s),← Nat.div_div_eq_div_mul,val_drop_div a ha i]
 congr 2
 rw [List.drop_eq_getElem_cons hi,val_cons]
 have e:val (a.drop (i + 1)) = a.getD (i + 1) 0 + 4294967296 * val (a.drop (i + 2)):=by
  by_cases h2:i + 1 < a.length
  ·rw [List.drop_eq_getElem_cons h2,val_cons,getD_of h2]
  ·rw [List.drop_of_length_le (by omega),List.drop_of_length_le (by omega),getD_out (by omega)];rfl
 rw [e,hx]
 have e2:(4294967296:Nat) = 2 ^ s * 2 ^ (32 - s):=by rw [← Nat.pow_add,show s + (32 - s) = 32 from by omega]
 have e3:a[i] + 4294967296 * (a.getD (i + 1) 0 + 4294967296 * val (a.drop (i + 2))) = (a[i] + 4294967296 * a.getD (i + 1) 0) + 2 ^ s * (4294967296 * (2 ^ (32 - s) * val (a.drop (i + 2)))):=by
  have:4294967296 * (4294967296 * val (a.drop (i + 2))) = 2 ^ s * (4294967296 * (2 ^ (32 - s) * val (a.drop (i + 2)))):=by
   conv=>lhs;lhs;rw [e2]
   grind
  grind
 rw [e3,Nat.add_mul_div_left _ _ (Nat.pow_pos (by omega)),Nat.add_mul_mod_self_left]
theorem short_step {a out:List Nat} {n d r:Nat} (hn:0 < n) (hna:n≤a.length) (hnl:n≤out.length) (h:val (a.drop n) = val (out.drop n) * d + r) (t:Nat) (ht:t = r * 4294967296 + a[n - 1]'(by omega)) :
  val (a.drop (n - 1)) = val ((out.set (n - 1) (t / d)).drop (n - 1)) * d + t % d:=by
 rw [List.drop_eq_getElem_cons (show n - 1 < a.length from by omega),List.drop_eq_getElem_cons (show n - 1 < (out.set (n - 1) (t / d)).length from by simp;omega)]
 rw [List.getElem_set_self,List.drop_set_of_lt (by omega),show n - 1 + 1 = n from by omega]
 simp only [val_cons]
 rw [h]
 have:=Nat.div_add_mod t d
 grind
end Rc
namespace Rc
def padL (n x:Nat):List Nat:=(List.range n).map fun i=>x / 4294967296 ^ i % 4294967296
theorem padL_length (n x:Nat):(padL n x).length = n:=by simp [padL]
theorem padL_eq {l:List Nat} (hs:Small l):l = padL l.length (val l):=by
 apply List.ext_getElem
 ·simp [padL]
 ·intro i h1 h2
  simp only [padL,List.getElem_map,List.getElem_range]
  rw [val_drop_div l hs i,List.drop_eq_getElem_cons h1,val_cons]
  have:=hs.get i h1
  omega
theorem padL_of {l:List Nat} {n x:Nat} (hs:Small l) (hl:l.length = n) (hv:val l = x):l = padL n x:=by subst hl;subst hv;exact padL_eq hs
theorem small_padL (n x:Nat):Small (padL n x):=by
 intro y hy
 simp only [padL,List.mem_map] at hy
 obtain ⟨i,_,rfl⟩:=hy
 omega
theorem val_padL {n x:Nat} (h:x < 4294967296 ^ n):val (padL n x) = x:=by
 have e:padL n x = limbs x ++ List.replicate (n - (limbs x).length) 0:=by
  refine (padL_of ((small_limbs x).append (Small.replicate _)) ?_ ?_).symm
  ·have:=limbs_length_le.2 h;simp;omega
  ·rw [val_append,val_replicate,val_limbs];simp
 rw [e,val_append,val_replicate,val_limbs];simp
theorem left_or {o d k:Nat} (hk:k < 32) (ho:o < 2 ^ k):(d * 2 ^ k % 4294967296) % 2 ^ k = 0∧d * 2 ^ k % 4294967296 + o < 4294967296:=by
 have e:(4294967296:Nat) = 2 ^ (32 - k) * 2 ^ k:=by rw [← Nat.pow_add,show 32 - k + k = 32 from by omega]
 have h1:d * 2 ^ k % 4294967296 = (d % 2 ^ (32 - k)) * 2 ^ k:=by rw [e,Nat.mul_mod_mul_right]
 have hp:0 < 2 ^ (32 - k):=Nat.pow_pos (by omega)
 have h2:d % 2 ^ (32 - k) < 2 ^ (32 - k):=Nat.mod_lt _ hp
 rw [h1]
 refine ⟨Nat.mul_mod_left _ _,?_⟩
 rw [e]
 generalize 2 ^ (32 - k) = m at *
 generalize 2 ^ k = p at *
 have:(d % m + 1) * p≤m * p:=Nat.mul_le_mul_right _ h2
 rw [Nat.add_mul,Nat.one_mul] at this
 omega
theorem left_bound {d k:Nat} (hk:k < 32) (hd:d < 4294967296):d * 2 ^ k < 18446744073709551616∧d * 2 ^ k / 4294967296 < 2 ^ k∧(2:Nat) ^ k≤2147483648:=by
 have h1:(2:Nat) ^ k≤2 ^ 31:=Nat.pow_le_pow_right (by omega) (by omega)
 have hp:0 < (2:Nat) ^ k:=Nat.pow_pos (by omega)
 have h2:d * 2 ^ k≤4294967295 * 2 ^ k:=Nat.mul_le_mul_right _ (by omega)
 refine ⟨by omega,?_,by omega⟩
 rw [Nat.div_lt_iff_lt_mul (by omega)]
 omega
theorem shift_split (x k:Nat):x / 4294967296 ^ (k / 32) / 2 ^ (k % 32) = x / 2 ^ k:=by
 rw [pow32,Nat.div_div_eq_div_mul,← Nat.pow_add,Nat.div_add_mod]
end Rc
namespace Rc
open Go
theorem or_add {a b:Nat} (i:Nat) (ha:a % 2 ^ i = 0) (hb:b < 2 ^ i):a ||| b = a + b:=by
 have h:a = (a / 2 ^ i) <<< i:=by
  rw [Nat.shiftLeft_eq]
  have:=Nat.div_add_mod a (2 ^ i)
  rw [ha,Nat.add_zero] at this
  rw [Nat.mul_comm];exact this.symm
 rw [h,← Nat.shiftLeft_add_eq_or_of_lt hb]
theorem ofInt_nat (w n:Nat) (h:n < 2 ^ w):(BitVec.ofInt w (n:Int)).toNat = n:=by
 rw [show (BitVec.ofInt w (n:Int)) = BitVec.ofNat w n from by
  apply BitVec.eq_of_toNat_eq
  rw [BitVec.toNat_ofInt,BitVec.toNat_ofNat]
  have:((n:Int) % ((2 ^ w:Nat):Int)) = ((n % 2 ^ w:Nat):Int):=by rw [Int.natCast_emod]
  rw [this];rfl]
 rw [BitVec.toNat_ofNat,Nat.mod_eq_of_lt h]
theorem wrap_nat_u64 {n:Nat} (h:n < 18446744073709551616):IntKind.u64.wrap (n:Int) = n:=wu64 (by omega)
theorem wrap_nat_u32 {n:Nat} (h:n < 4294967296):IntKind.u32.wrap (n:Int) = n:=wu32 (by omega)
theorem or64 {a b:Nat} (i:Nat) (ha:a % 2 ^ i = 0) (hb:b < 2 ^ i) (h:a + b < 18446744073709551616) :
  IntKind.u64.wrap ((BitVec.ofInt IntKind.u64.bits (a:Int) ||| BitVec.ofInt IntKind.u64.bits (b:Int)).toNat) = ((a + b:Nat):Int):=by
 rw [BitVec.toNat_or,ofInt_nat _ a (by simp only [IntKind.bits];omega),ofInt_nat _ b (by simp only [IntKind.bits];omega),or_add i ha hb]
 exact wrap_nat_u64 h
theorem or64' {a b:Nat} (i:Nat) (ha:a % 2 ^ i = 0) (hb:b < 2 ^ i) (h:a + b < 18446744073709551616) :
  IntKind.u64.wrap ((BitVec.ofInt IntKind.u64.bits (b:Int) ||| BitVec.ofInt IntKind.u64.bits (a:Int)).toNat) = ((b + a:Nat):Int):=by
 rw [BitVec.toNat_or,ofInt_nat _ a (by simp only [IntKind.bits];omega),ofInt_nat _ b (by simp only [IntKind.bits];omega),Nat.or_comm,or_add i ha hb,Nat.add_comm b a]
 exact wrap_nat_u64 h
theorem or32' {a b:Nat} (i:Nat) (ha:a % 2 ^ i = 0) (hb:b < 2 ^ i) (h:a + b < 4294967296) :
  IntKind.u32.wrap ((BitVec.ofInt IntKind.u32.bits (b:Int) ||| BitVec.ofInt IntKind.u32.bits (a:Int)).toNat) = ((b + a:Nat):Int):=by
 rw [BitVec.toNat_or,ofInt_nat _ a (by simp only [IntKind.bits];omega),ofInt_nat _ b (by simp only [IntKind.bits];omega),Nat.or_comm,or_add i ha hb,Nat.add_comm b a]
 exact wrap_nat_u32 h
theorem shl64 {c:Int} (x c':Nat) (hc:min c.toNat IntKind.u64.bits = c') (h:x * 2 ^ c' < 18446744073709551616):IntKind.u64.wrap ((x:Int) * 2 ^ (min c.toNat IntKind.u64.bits)) = ((x * 2 ^ c':Nat):Int):=by
 rw [hc,show ((x:Int) * 2 ^ c') = ((x * 2 ^ c':Nat):Int) from by rw [Int.natCast_mul,Int.natCast_pow];rfl]
 exact wrap_nat_u64 h
theorem minbits64 {c:Nat} (h:c≤64):min ((c:Int)).toNat IntKind.u64.bits = c:=by simp only [IntKind.bits];omega
theorem wu8 {x r:Int} (h:x % 256 = r):IntKind.u8.wrap x = r:=by
 subst h;simp [IntKind.wrap,IntKind.bits,IntKind.signed]
theorem tdivN (a b:Nat):((a:Int)).tdiv (b:Int) = ((a / b:Nat):Int):=by rw [Int.tdiv_eq_ediv_of_nonneg (by omega)];rfl
theorem tmodN (a b:Nat):((a:Int)).tmod (b:Int) = ((a % b:Nat):Int):=by rw [Int.tmod_eq_emod_of_nonneg (by omega)];rfl
theorem getElem?_bytes (s:ByteArray) (j:Nat):s[j]? = s.data.toList[j]?:=by
 by_cases h:j < s.size
 ·rw [getElem?_pos s j h]
  have h':j < s.data.toList.length:=by simpa using h
  rw [List.getElem?_eq_getElem h']
  rfl
 ·rw [getElem?_neg s j h,List.getElem?_eq_none (by simpa using h)]
theorem len8_get {s:ByteArray} (hs:s.data.toList = (List.range 256).map fun i=>UInt8.ofNat (bl i)) {x:Nat} (hx:x < 256):s[x]? = some (UInt8.ofNat (bl x)):=by
 rw [getElem?_bytes,hs];simp [hx]
theorem len8_val {x:Nat} (hx:x < 256):((UInt8.ofNat (bl x)).toNat:Int) = (bl x:Int):=by
 have:=bl_le_of_lt (n:=x) (k:=8) hx
 rw [UInt8.toNat_ofNat_of_lt' (by simp [UInt8.size];omega)]
end Rc
namespace Rc
open Go Go.RowKit
set_option maxRecDepth 10000
def est (top s2 v1 v2:Nat):Nat:=
 if top < 4294967296 then min ((top * 4294967296 + s2) / (v1 * 4294967296 + v2)) 4294967295
 else max (min ((top * 4294967296 + s2) / (v1 * 4294967296 + v2)) 4294967295) ((top - 4294967296) / v1)
theorem est_a1 {A r s2 b:Nat} (h:r * 4294967296 + s2 < b):(A + r) * 4294967296 + s2 < A * 4294967296 + b:=by
 rw [Nat.add_mul,Nat.add_assoc];exact Nat.add_lt_add_left h _
theorem est_a2 {a W T p:Nat} (h:a + W≤T) (hp:p≤W):a + p≤T:=Nat.le_trans (Nat.add_le_add_left hp _) h
theorem est_stop1 {top s2 v1 v2 q r:Nat} (h1:0 < v1) (hq:q < 4294967296) (h:q * v2≤r * 4294967296 + s2) (ht:q * v1 + r = top):q≤est top s2 v1 v2:=by
 have hW:q≤(top * 4294967296 + s2) / (v1 * 4294967296 + v2):=by
  rw [Nat.le_div_iff_mul_le (by omega)]
  subst ht
  have:q * (v1 * 4294967296 + v2) = q * v1 * 4294967296 + q * v2:=by grind
  rw [this];omega
 have hm:q≤min ((top * 4294967296 + s2) / (v1 * 4294967296 + v2)) 4294967295:=Nat.le_min.2 ⟨hW,by omega⟩
 unfold est
 split
 ·exact hm
 ·exact Nat.le_trans hm (Nat.le_max_left _ _)
theorem est_stop2 {top s2 v1 v2 q r:Nat} (h1:0 < v1) (hr:4294967296≤r) (ht:q * v1 + r = top):q≤est top s2 v1 v2:=by
 have hm:q≤(top - 4294967296) / v1:=by
  rw [Nat.le_div_iff_mul_le h1];omega
 unfold est
 rw [if_neg (by omega)]
 exact Nat.le_trans hm (Nat.le_max_right _ _)
theorem est_lt {top s2 v1 v2 q r:Nat} (h1:0 < v1) (hr:r < 4294967296) (ht:q * v1 + r = top) (h:4294967296≤q ∨ r * 4294967296 + s2 < q * v2):est top s2 v1 v2 < q:=by
 have hm:min ((top * 4294967296 + s2) / (v1 * 4294967296 + v2)) 4294967295 < q:=by
  rcases h with h | h
  ·exact Nat.lt_of_le_of_lt (Nat.min_le_right _ _) (Nat.lt_of_lt_of_le (Nat.lt_succ_self 4294967295) h)
  ·refine Nat.lt_of_le_of_lt (Nat.min_le_left _ _) ?_
   rw [Nat.div_lt_iff_lt_mul (by omega)]
   subst ht
   have:q * (v1 * 4294967296 + v2) = q * v1 * 4294967296 + q * v2:=by grind
   rw [this];exact est_a1 h
 unfold est
 split
 ·exact hm
 ·refine Nat.max_lt.2 ⟨hm,?_⟩
  rw [Nat.div_lt_iff_lt_mul h1];omega
theorem est_le {top s2 v1 v2:Nat} (h1:0 < v1) (h2:s2 < 4294967296):est top s2 v1 v2≤top / v1:=by
 have hm:min ((top * 4294967296 + s2) / (v1 * 4294967296 + v2)) 4294967295≤top / v1:=by
  refine Nat.le_trans (Nat.min_le_left _ _) ?_
  rw [Nat.le_div_iff_mul_le h1]
  have hd:=Nat.div_mul_le_self (top * 4294967296 + s2) (v1 * 4294967296 + v2)
  generalize (top * 4294967296 + s2) / (v1 * 4294967296 + v2) = q at *
  have:q * (v1 * 4294967296 + v2) = q * v1 * 4294967296 + q * v2:=by grind
  rw [this] at hd
  omega
 unfold est
 split
 ·exact hm
 ·exact Nat.max_le.2 ⟨hm,Nat.div_le_div_right (by omega)⟩
theorem est_bounds {top s2 v1 v2 lo lov e S V:Nat} (he:0 < e) (hv1:2147483648≤v1) (hv1':v1 < 4294967296) (hv2:v2 < 4294967296) (hs2:s2 < 4294967296) (hlo:lo < e) (hlov:lov < e)
  (hS:S = lo + e * (top * 4294967296 + s2)) (hV:V = lov + e * (v1 * 4294967296 + v2)) (hSV:S < V * 4294967296) :
  S / V≤est top s2 v1 v2∧est top s2 v1 v2≤S / V + 1:=by
 have hVpos:0 < V:=by
  rw [hV];have:0 < e * (v1 * 4294967296 + v2):=Nat.mul_pos he (by omega)
  omega
 have hqB:S / V < 4294967296:=by rw [Nat.div_lt_iff_lt_mul hVpos,Nat.mul_comm];exact hSV
 have htop:top < (v1 + 1) * 4294967296:=by
  have h1:e * (top * 4294967296) < e * ((v1 * 4294967296 + v2 + 1) * 4294967296):=by
   have h2:e * (top * 4294967296)≤S:=by rw [hS,Nat.mul_add];omega
   have h3:V≤e * (v1 * 4294967296 + v2 + 1):=by rw [hV,Nat.mul_add e _ 1,Nat.mul_one];omega
   have h4:V * 4294967296≤e * (v1 * 4294967296 + v2 + 1) * 4294967296:=Nat.mul_le_mul_right _ h3
   rw [Nat.mul_assoc] at h4
   omega
  have:=Nat.lt_of_mul_lt_mul_left h1
  omega
 constructor
 ·have hd:=Nat.div_mul_le_self S V
  have hm:S / V≤min ((top * 4294967296 + s2) / (v1 * 4294967296 + v2)) 4294967295:=by
   refine Nat.le_min.2 ⟨?_,by omega⟩
   rw [Nat.le_div_iff_mul_le (by omega)]
   have h1:e * (S / V * (v1 * 4294967296 + v2)) < e * (top * 4294967296 + s2 + 1):=by
    have h2:S / V * (e * (v1 * 4294967296 + v2))≤S / V * V:=Nat.mul_le_mul_left _ (by rw [hV];omega)
    have h3:e * (S / V * (v1 * 4294967296 + v2)) = S / V * (e * (v1 * 4294967296 + v2)):=by grind
    rw [Nat.mul_add e _ 1,Nat.mul_one,h3]
    omega
   have:=Nat.lt_of_mul_lt_mul_left h1
   omega
  unfold est
  split
  ·exact hm
  ·exact Nat.le_trans hm (Nat.le_max_left _ _)
 ·
  have hqW:∀ q,q≤est top s2 v1 v2→q≤4294967296∧q * (v1 * 4294967296 + v2)≤top * 4294967296 + s2 ∨ q≤4294967295∧q * (v1 * 4294967296 + v2)≤top * 4294967296 + s2:=by
   intro q hq
   have hleft:q≤min ((top * 4294967296 + s2) / (v1 * 4294967296 + v2)) 4294967295→q≤4294967295∧q * (v1 * 4294967296 + v2)≤top * 4294967296 + s2:=by
    intro h
    obtain ⟨h1,h2⟩:=Nat.le_min.1 h
    exact ⟨h2,(Nat.le_div_iff_mul_le (by omega)).1 h1⟩
   unfold est at hq
   split at hq
   ·exact .inr (hleft hq)
   ·by_cases hc:q≤min ((top * 4294967296 + s2) / (v1 * 4294967296 + v2)) 4294967295
    ·exact .inr (hleft hc)
    ·have h2:q≤(top - 4294967296) / v1:=by
      rcases Nat.le_total (min ((top * 4294967296 + s2) / (v1 * 4294967296 + v2)) 4294967295) ((top - 4294967296) / v1) with h | h
      ·rwa [Nat.max_eq_right h] at hq
      ·rw [Nat.max_eq_left h] at hq;exact absurd hq hc
     have h3:q * v1≤top - 4294967296:=(Nat.le_div_iff_mul_le (by omega)).1 h2
     have h4:q≤4294967296:=by
      apply Classical.byContradiction
      intro hn
      have:4294967297 * v1≤q * v1:=Nat.mul_le_mul_right _ (by omega)
      omega
     refine .inl ⟨h4,?_⟩
     have h5:q * v2≤4294967296 * 4294967295:=Nat.mul_le_mul h4 (by omega)
     have:q * (v1 * 4294967296 + v2) = q * v1 * 4294967296 + q * v2:=by grind
     rw [this];omega
  have hq:=hqW _ (Nat.le_refl _)
  generalize est top s2 v1 v2 = q at *
  have hq':q≤4294967296∧q * (v1 * 4294967296 + v2)≤top * 4294967296 + s2:=by rcases hq with h | h <;> exact ⟨by omega,h.2⟩
  obtain ⟨hqB',hqW'⟩:=hq'
  rcases Nat.eq_zero_or_pos q with h0 | h0
  ·rw [h0];exact Nat.zero_le _
  ·have:q - 1≤S / V:=by
    rw [Nat.le_div_iff_mul_le hVpos]
    obtain ⟨p,rfl⟩:∃ p,q = p + 1:=⟨q - 1,by omega⟩
    simp only [Nat.add_sub_cancel]
    have h3:V≤e * (v1 * 4294967296 + v2 + 1):=by rw [hV,Nat.mul_add e _ 1,Nat.mul_one];omega
    have h4:p * V≤p * (e * (v1 * 4294967296 + v2 + 1)):=Nat.mul_le_mul_left _ h3
    have h5:p * (e * (v1 * 4294967296 + v2 + 1)) = e * (p * (v1 * 4294967296 + v2) + p):=by grind
    have h6:p * (v1 * 4294967296 + v2) + p≤top * 4294967296 + s2:=by
     rw [Nat.add_mul,Nat.one_mul] at hqW'
     have hW:p≤v1 * 4294967296 + v2:=by omega
     exact est_a2 hqW' hW
    have h7:=Nat.mul_le_mul_left e h6
    rw [hS]
    omega
   generalize S / V = z at *
   omega
theorem get_part {pre s post:List Nat} {j i:Nat} (hj:j = pre.length + i) (h:i < s.length):((pre ++ s ++ post).map u32L)[j]? = some (u32L s[i]):=by
 subst hj
 rw [List.getElem?_map,List.getElem?_append_left (by simp;omega),List.getElem?_append_right (by omega)]
 simp [h]
theorem splice_part {pre s post:List Nat} {j i x:Nat} (hj:j = pre.length + i) (h:i < s.length):splice ((pre ++ s ++ post).map u32L) j [u32L x] = (pre ++ s.set i x ++ post).map u32L:=by
 subst hj
 rw [splice_u32 (by simp;omega),List.set_append_left _ _ (by simp;omega),List.set_append_right _ _ (by omega)]
 simp
theorem red_step {s0 s v:List Nat} {i c b q:Nat} (hi:i < s.length) (hi0:i < s0.length) (hv:i < v.length) (h:val (s.take i) + q * val (v.take i) = val (s0.take i) + (c + b) * 4294967296 ^ i)
  (hsi:s.drop i = s0.drop i) (x b' t:Nat) (ht:t = c + q * v[i]) (hx:x + t % 4294967296 + b = s[i] + 4294967296 * b') :
  val ((s.set i x).take (i + 1)) + q * val (v.take (i + 1)) = val (s0.take (i + 1)) + (t / 4294967296 + b') * 4294967296 ^ (i + 1):=by
 rw [val_set_take _ _ _ hi,val_take_succ v i hv,val_take_succ s0 i hi0]
 have he:s0[i] = s[i]:=by
  have:=congrArg (fun l=>l[0]?) hsi
  simp only [List.getElem?_drop,Nat.add_zero] at this
  rw [List.getElem?_eq_getElem hi,List.getElem?_eq_getElem hi0] at this
  simpa using this.symm
 rw [he,Nat.pow_succ]
 have hd:=Nat.div_add_mod t 4294967296
 generalize t / 4294967296 = T at *
 generalize t % 4294967296 = m at *
 generalize 4294967296 ^ i = p at *
 generalize val (s.take i) = A at *
 generalize val (v.take i) = Bv at *
 generalize val (s0.take i) = C at *
 have e1:p * x + p * m + p * b = p * s[i] + p * (4294967296 * b'):=by rw [← Nat.mul_add,← Nat.mul_add,← Nat.mul_add,hx]
 have e2:p * (4294967296 * T) + p * m = p * c + p * (q * v[i]):=by rw [← Nat.mul_add,hd,ht,Nat.mul_add]
 grind
theorem red_drop {s0 s:List Nat} {i x:Nat} (h:s.drop i = s0.drop i):(s.set i x).drop (i + 1) = s0.drop (i + 1):=by
 rw [List.drop_set_of_lt (by omega)]
 have:=congrArg (List.drop 1) h
 simpa [List.drop_drop,Nat.add_comm] using this
theorem get_of_drop {s0 s:List Nat} {i:Nat} (h:s.drop i = s0.drop i) (hi:i < s.length) (hi0:i < s0.length):s[i] = s0[i]:=by
 have:=congrArg (fun l=>l[0]?) h
 simp only [List.getElem?_drop,Nat.add_zero] at this
 rw [List.getElem?_eq_getElem hi,List.getElem?_eq_getElem hi0] at this
 simpa using this
theorem sub_digit {s l b:Nat} (hs:s < 4294967296) (hl:l + b≤4294967296) :
  let x:=(s + (18446744073709551616 - (l + b))) % 18446744073709551616
  x % 4294967296 + l + b = s + 4294967296 * (x / 9223372036854775808)∧x / 9223372036854775808≤1:=by
 intro x
 by_cases h:l + b≤s
 ·have:x = s - (l + b):=by show _ % _ = _;omega
  rw [this];omega
 ·have:x = s + (18446744073709551616 - (l + b)):=Nat.mod_eq_of_lt (by omega)
  rw [this];omega
theorem red_total {s0 s v:List Nat} {n c b q x b':Nat} (hl:s.length = n + 1) (hl0:s0.length = n + 1) (hvl:v.length = n) (h:val (s.take n) + q * val (v.take n) = val (s0.take n) + (c + b) * 4294967296 ^ n)
  (hd:s.drop n = s0.drop n) (hx:x + c + b = s[n] + 4294967296 * b'):val (s.set n x) + q * val v = val s0 + b' * 4294967296 ^ (n + 1):=by
 have e1:=val_set_take s n x (by omega)
 rw [val_take_all _ _ (by simp;omega)] at e1
 have e2:=val_take_succ s0 n (by omega)
 rw [val_take_all _ _ (by omega)] at e2
 rw [val_take_all v _ (by omega)] at h
 have e3:=get_of_drop hd (by omega) (by omega)
 rw [e1,e2,Nat.pow_succ]
 rw [e3] at hx
 generalize 4294967296 ^ n = p at *
 have e4:p * x + p * c + p * b = p * s0[n] + p * (4294967296 * b'):=by rw [← Nat.mul_add,← Nat.mul_add,← Nat.mul_add,hx]
 grind
theorem red_fin0 {a S V q:Nat} (hq:q = S / V ∨ q = S / V + 1) (hV:0 < V) (h:a + q * V = S):q = S / V∧a = S % V:=by
 have h1:q≤S / V:=by rw [Nat.le_div_iff_mul_le hV];omega
 have h2:q = S / V:=by rcases hq with h | h <;> omega
 have h3:=Nat.div_add_mod S V
 rw [Nat.mul_comm] at h3
 rw [← h2] at h3
 exact ⟨h2,by omega⟩
theorem red_fin1 {a S V q M:Nat} (hq:q = S / V ∨ q = S / V + 1) (hV:0 < V) (ha:a < M) (h:a + q * V = S + M):q = S / V + 1∧a + V = M + S % V:=by
 have h3:=Nat.div_add_mod S V
 rw [Nat.mul_comm] at h3
 have h4:=Nat.mod_lt S hV
 rcases hq with h' | h'
 ·rw [h'] at h;generalize S / V * V = z at *;omega
 ·refine ⟨h',?_⟩
  rw [h',Nat.add_mul,Nat.one_mul] at h
  generalize S / V * V = z at *
  omega
theorem red_back {s3 s2 v:List Nat} {n c V R:Nat} (hs3:Small s3) (hl:s3.length = n + 1) (hl2:s2.length = n + 1) (hvl:v.length = n) (h:val (s3.take n) + c * 4294967296 ^ n = val (s2.take n) + val (v.take n)) (hd:s3.drop n = s2.drop n)
  (hV:val v = V) (hR:R < 4294967296 ^ (n + 1)) (ht:val s2 + V = 4294967296 ^ (n + 1) + R):val (s3.set n ((s3[n] + c) % 4294967296)) = R:=by
 have e1:=val_set_take s3 n ((s3[n] + c) % 4294967296) (by omega)
 rw [val_take_all _ _ (by simp;omega)] at e1
 have e2:=val_take_succ s2 n (by omega)
 rw [val_take_all _ _ (by omega)] at e2
 rw [val_take_all v _ (by omega),hV] at h
 have e3:=get_of_drop hd (by omega) (by omega)
 have hlt:=val_lt (hs3.set n ((s3[n] + c) % 4294967296) (Nat.mod_lt _ (by decide)))
 have hlen:(s3.set n ((s3[n] + c) % 4294967296)).length = n + 1:=by simp [hl]
 rw [hlen] at hlt
 have hdm:=Nat.div_add_mod (s3[n] + c) 4294967296
 rw [e1] at hlt ⊢
 rw [e2,← e3] at ht
 generalize hm:(s3[n] + c) % 4294967296 = m at *
 generalize hz:(s3[n] + c) / 4294967296 = z at *
 rw [Nat.pow_succ] at hlt hR ht
 generalize 4294967296 ^ n = p at *
 generalize val (s3.take n) = A at *
 generalize val (s2.take n) = C at *
 have e4:p * (4294967296 * z) + p * m = p * s3[n] + p * c:=by rw [← Nat.mul_add,← Nat.mul_add,hdm]
 have e5:A + p * m + p * 4294967296 * z = p * 4294967296 + R:=by grind
 have hz1:z = 1:=by
  rcases Nat.lt_or_ge z 1 with h1 | h1
  ·have:z = 0:=by omega
   subst this;omega
  ·rcases Nat.lt_or_ge 1 z with h2 | h2
   ·have:=Nat.mul_le_mul_left (p * 4294967296) h2
    omega
   ·omega
 subst hz1
 omega
theorem norm_div {b:List Nat} (hc:Canon b) (hn:0 < b.length):0 < b[b.length - 1]'(by omega)∧32 - bl (b[b.length - 1]'(by omega)) < 32∧(limbs (val b * 2 ^ (32 - bl (b[b.length - 1]'(by omega))))).length = b.length ∧
  2147483648≤(limbs (val b * 2 ^ (32 - bl (b[b.length - 1]'(by omega))))).getD (b.length - 1) 0:=by
 have htop:b[b.length - 1]'(by omega)≠0:=by
  have h:=hc.2 (by intro e;rw [e] at hn;simp at hn)
  rwa [List.getLast_eq_getElem] at h
 have hs:=hc.1.get (b.length - 1) (by omega)
 have h1:=bl_pos htop
 have h2:bl (b[b.length - 1]'(by omega))≤32:=bl_le_of_lt hs
 have hb:=bl_limbs hc hn
 generalize b[b.length - 1]'(by omega) = t at *
 have hv0:val b≠0:=by intro e;rw [e,bl_zero] at hb;omega
 have g1:=bl_lt (val b)
 have g2:=bl_le hv0
 have hbl:bl (val b * 2 ^ (32 - bl t)) = 32 * b.length:=by
  apply bl_unique
  ·have:32 * b.length = bl (val b) + (32 - bl t):=by omega
   rw [this,Nat.pow_add]
   exact Nat.mul_lt_mul_of_pos_right g1 (Nat.pow_pos (by decide))
  ·intro _
   have:32 * b.length - 1 = (bl (val b) - 1) + (32 - bl t):=by omega
   rw [this,Nat.pow_add]
   exact Nat.mul_le_mul_right _ g2
 have hlt:=bl_lt (val b * 2 ^ (32 - bl t))
 have hV0:val b * 2 ^ (32 - bl t)≠0:=Nat.mul_ne_zero hv0 (Nat.ne_of_gt (Nat.pow_pos (by decide)))
 have hle:=bl_le hV0
 rw [hbl] at hlt hle
 generalize val b * 2 ^ (32 - bl t) = V at *
 have hl1:(limbs V).length≤b.length:=limbs_length_le.2 (by rw [pow32];exact hlt)
 have hl2:¬ (limbs V).length≤b.length - 1:=by
  rw [limbs_length_le,pow32]
  have:=Nat.pow_le_pow_right (n:=2) (by decide) (show 32 * (b.length - 1)≤32 * b.length - 1 by omega)
  omega
 have hl:(limbs V).length = b.length:=by omega
 refine ⟨by omega,by omega,hl,?_⟩
 have hb2:=bl_limbs (canon_limbs V) (by omega)
 rw [val_limbs,hbl] at hb2
 rw [getD_of (by omega)]
 have e:(limbs V)[(limbs V).length - 1]'(by omega) = (limbs V)[b.length - 1]'(by omega):=by congr 1;omega
 rw [e] at hb2
 have h32:bl ((limbs V)[b.length - 1]'(by omega)) = 32:=by omega
 have:=bl_le (n:=(limbs V)[b.length - 1]'(by omega)) (by intro e0;rw [e0] at h32;simp [bl_zero] at h32)
 rw [h32] at this
 simpa using this
theorem dm_split {us:List Nat} {k n:Nat} (hk:0 < k) (h:k + n≤us.length):∃ pre s post,us = pre ++ s ++ post∧pre.length = k - 1∧s.length = n + 1:=
 ⟨us.take (k - 1),(us.drop (k - 1)).take (n + 1),(us.drop (k - 1)).drop (n + 1),by rw [List.append_assoc,List.take_append_drop,List.take_append_drop],by simp;omega,by simp;omega⟩
theorem dm_seg {pre s post:List Nat} {n V:Nat} (hs:Small (pre ++ s ++ post)) (hl:s.length = n + 1) (hV:V < 4294967296 ^ n) (h:val ((pre ++ s ++ post).drop (pre.length + 1)) < V):Small s∧Small pre∧Small post∧val post = 0∧val s < V * 4294967296:=by
 have h1:Small s:=fun x hx=>hs x (by simp [hx])
 refine ⟨h1,fun x hx=>hs x (by simp [hx]),fun x hx=>hs x (by simp [hx]),?_⟩
 match s,hl with
 | d :: t,hl=>
  have hd:(pre ++ (d :: t) ++ post).drop (pre.length + 1) = t ++ post:=by
   rw [List.append_assoc,← List.drop_drop,List.drop_left];rfl
  rw [hd,val_append] at h
  have ht:t.length = n:=by simpa using hl
  rw [ht] at h
  have hp:val post = 0:=by
   rcases Nat.eq_zero_or_pos (val post) with h0 | h0
   ·exact h0
   ·have:=Nat.mul_le_mul_left (4294967296 ^ n) h0
    omega
  refine ⟨hp,?_⟩
  have hd:=h1.head
  rw [hp] at h
  simp only [val]
  omega
theorem dm_step {pre s post out:List Nat} {n V A k:Nat} (hk:pre.length = k) (hko:k < out.length) (hp:val post = 0) (hV0:0 < V) (hV:V < 4294967296 ^ n)
  (h:val (pre ++ s ++ post) + V * (4294967296 ^ (k + 1) * val (out.drop (k + 1))) = A) :
  val (pre ++ padL (n + 1) (val s % V) ++ post) + V * (4294967296 ^ k * val ((out.set k (val s / V)).drop k)) = A∧val ((pre ++ padL (n + 1) (val s % V) ++ post).drop k) < V:=by
 have hm:=Nat.mod_lt (val s) hV0
 have hpl:val (padL (n + 1) (val s % V)) = val s % V:=val_padL (Nat.lt_trans hm (Nat.lt_of_lt_of_le hV (Nat.pow_le_pow_right (by decide) (by omega))))
 constructor
 ·rw [List.drop_eq_getElem_cons (show k < (out.set k (val s / V)).length by simpa using hko),List.getElem_set_self,List.drop_set_of_lt (by omega)]
  simp only [val]
  rw [val_append,val_append,hp,hpl,hk]
  rw [val_append,val_append,hp,hk] at h
  have:=Nat.div_add_mod (val s) V
  generalize val s / V = q at *
  generalize val s % V = r at *
  rw [← h,← this,Nat.pow_succ]
  simp only [Nat.mul_zero,Nat.add_zero]
  generalize 4294967296 ^ k = p at *
  grind
 ·subst hk
  rw [List.append_assoc,List.drop_left,val_append,hp,hpl]
  simpa using hm
theorem dm_fin {x va vb sh o:Nat} (h:x + vb * 2 ^ sh * o = va * 2 ^ sh) (hx:x < vb * 2 ^ sh):o = va / vb∧x / 2 ^ sh = va % vb:=by
 have hp:0 < 2 ^ sh:=Nat.pow_pos (by decide)
 have hvb:0 < vb:=by
  rcases Nat.eq_zero_or_pos vb with h0 | h0
  ·subst h0;simp at hx
  ·exact h0
 have hdv:2 ^ sh ∣ x:=by
  have h1:2 ^ sh ∣ va * 2 ^ sh:=Nat.dvd_mul_left _ _
  rw [← h] at h1
  exact (Nat.dvd_add_left ⟨vb * o,by grind⟩).1 h1
 obtain ⟨y,rfl⟩:=hdv
 have hy:y + vb * o = va:=by
  have:2 ^ sh * (y + vb * o) = 2 ^ sh * va:=by grind
  exact Nat.eq_of_mul_eq_mul_left hp this
 have hyb:y < vb:=by
  rw [Nat.mul_comm] at hx
  exact Nat.lt_of_mul_lt_mul_right hx
 rw [Nat.mul_div_cancel_left _ hp,← hy]
 refine ⟨?_,?_⟩
 ·rw [Nat.add_comm,Nat.mul_add_div hvb,Nat.div_eq_of_lt hyb,Nat.add_zero]
 ·rw [Nat.add_comm,Nat.mul_add_mod,Nat.mod_eq_of_lt hyb]
theorem dm_start {a:List Nat} {n sh V A L:Nat} (hs:Small a) (hL:L = a.length + 1) (hA:A = val a * 2 ^ sh) (hsh:sh < 32) (hn:n≤a.length) (hV:4294967296 ^ (n - 1) * 2 ^ sh≤V) (hn0:0 < n) :
  A < 4294967296 ^ L∧val ((padL L A).drop (a.length - n + 1)) < V:=by
 have hlt:=val_lt hs
 have hsh2:2 ^ sh < 4294967296:=Nat.lt_of_lt_of_le (Nat.pow_lt_pow_right (by decide) hsh) (by decide)
 have hp:0 < 2 ^ sh:=Nat.pow_pos (by decide)
 have hA1:A < 4294967296 ^ a.length * 2 ^ sh:=by subst hA;exact Nat.mul_lt_mul_of_pos_right hlt hp
 have hAL:A < 4294967296 ^ L:=by
  subst hL;rw [Nat.pow_succ]
  exact Nat.lt_of_lt_of_le hA1 (Nat.mul_le_mul_left _ (by omega))
 refine ⟨hAL,?_⟩
 rw [← val_drop_div _ (small_padL _ _),val_padL hAL]
 refine Nat.lt_of_lt_of_le ?_ hV
 rw [Nat.div_lt_iff_lt_mul (Nat.pow_pos (by decide))]
 refine Nat.lt_of_lt_of_le hA1 (Nat.le_of_eq ?_)
 have:a.length = (n - 1) + (a.length - n + 1):=by omega
 conv=>lhs;rw [this,Nat.pow_add]
 grind
theorem estimate_bounds {s v:List Nat} (hs:Small s) (hv:Small v) (hsl:s.length = v.length + 1) (hn:2≤v.length) (htop:2147483648≤v.getD (v.length - 1) 0) (hlt:val s < val v * 4294967296) :
  val s / val v≤est (s.getD v.length 0 * 4294967296 + s.getD (v.length - 1) 0) (s.getD (v.length - 2) 0) (v.getD (v.length - 1) 0) (v.getD (v.length - 2) 0) ∧
  est (s.getD v.length 0 * 4294967296 + s.getD (v.length - 1) 0) (s.getD (v.length - 2) 0) (v.getD (v.length - 1) 0) (v.getD (v.length - 2) 0)≤val s / val v + 1:=by
 obtain ⟨n,hn2⟩:∃ n,v.length = n + 2:=⟨v.length - 2,by omega⟩
 have e1:=val_take_getD s n
 have e2:=val_take_getD s (n + 1)
 have e3:=val_take_getD s (n + 2)
 have g1:=val_take_getD v n
 have g2:=val_take_getD v (n + 1)
 rw [val_take_all s (n + 2 + 1) (by omega)] at e3
 rw [val_take_all v (n + 1 + 1) (by omega)] at g2
 rw [hn2] at htop ⊢
 simp only [Nat.add_sub_cancel,show n + 2 - 1 = n + 1 from rfl] at htop ⊢
 have l1:=val_lt (hs.take n)
 have l2:=val_lt (hv.take n)
 rw [List.length_take,Nat.min_eq_left (by omega)] at l1 l2
 refine est_bounds (lo:=val (s.take n)) (lov:=val (v.take n)) (e:=4294967296 ^ n) (Nat.pow_pos (by decide)) htop (hv.getD _) (hv.getD _) (hs.getD _) l1 l2 ?_ ?_ hlt
 ·rw [e3,e2,e1,Nat.pow_succ,Nat.pow_succ];grind
 ·rw [g2,g1,Nat.pow_succ];grind
theorem norm_ex {b:List Nat} (hc:Canon b) (hn:0 < b.length):∃ sh,32 - bl (b[b.length - 1]'(by omega)) = sh∧sh < 32∧(limbs (val b * 2 ^ sh)).length = b.length∧2147483648≤(limbs (val b * 2 ^ sh)).getD (b.length - 1) 0:=
 let ⟨_,h2,h3,h4⟩:=norm_div hc hn
 ⟨_,rfl,h2,h3,h4⟩
end Rc
namespace Rc
open Go
structure Zr where
 neg:Bool
 m:List Nat
 hm:Small m
def Zr.z (x:Zr):Int:=sgn x.neg (val x.m)
@[reducible] def zV (x:Zr):V:=V.agg [Leaf.val (.bool x.neg),natL x.m]
@[reducible] def zOf (z:Int):Zr:=⟨decide (z < 0),limbs z.natAbs,small_limbs _⟩
theorem zOf_z (z:Int):(zOf z).z = z:=by
 show sgn (decide (z < 0)) (val (limbs z.natAbs)) = z
 rw [val_limbs];exact sgn_natAbs z
structure Qr where
 neg:Bool
 n:List Nat
 d:List Nat
 hn:Small n
 hd:Small d
def Qr.q (x:Qr):Rat:=rq x.neg (val x.n) (val x.d)
@[reducible] def qV (x:Qr):V:=V.agg [Leaf.val (.bool x.neg),natL x.n,natL x.d]
@[reducible] def qOf (q:Rat):Qr:=⟨cneg q,limbs (cnum q),limbs (cden q),small_limbs _,small_limbs _⟩
theorem qOf_q (q:Rat):(qOf q).q = q:=by
 show rq (cneg q) (val (limbs (cnum q))) (val (limbs (cden q))) = q
 rw [val_limbs,val_limbs];exact rq_canon q
@[reducible] def qZero:Qr:=⟨false,[],[],Small.nil,Small.nil⟩
theorem qZero_q:qZero.q = 0:=by
 show rq false 0 0 = 0
 exact rq_zero _ _
theorem qV_zero:qV qZero = qV (qOf 0):=by
 show V.agg _ = V.agg [Leaf.val (.bool (cneg 0)),natL (limbs (cnum 0)),natL (limbs (cden 0))]
 rw [cneg_zero,cnum_zero,cden_zero,limbs_zero]
class Bn (n:Nat) (k:outParam Nat):Prop where
 le:(limbs n).length≤k
theorem Bn.use {n k k':Nat} [h:Bn n k] (hk:k≤k'):(limbs n).length≤k':=Nat.le_trans h.le hk
theorem Bn.lt {n k:Nat} (h:Bn n k):n < 4294967296 ^ k:=limbs_length_le.1 h.le
theorem Bn.of {n k:Nat} (h:n < 4294967296 ^ k):Bn n k:=⟨limbs_length_le.2 h⟩
theorem Bn.val {l:List Nat} {k:Nat} (hs:Small l) (h:l.length≤k):Bn (val l) k:=⟨Nat.le_trans (limbs_val_length hs) h⟩
theorem Bn.of_lt {n k:Nat} (h:n < 18446744073709551616) (hk:2≤k):(limbs n).length≤k:=Nat.le_trans (limbs_length_le (k:=2).2 h) hk
theorem mul_lt_pow {a b i j:Nat} (ha:a < 4294967296 ^ i) (hb:b < 4294967296 ^ j):a * b < 4294967296 ^ (i + j):=by
 rw [Nat.pow_add]
 rcases Nat.eq_zero_or_pos b with h | h
 ·subst h;exact Nat.mul_pos (Nat.pow_pos (by decide)) (Nat.pow_pos (by decide))
 ·exact Nat.lt_of_lt_of_le (Nat.mul_lt_mul_of_pos_right ha h) (Nat.mul_le_mul_left _ (Nat.le_of_lt hb))
theorem add_lt_pow {a b i j:Nat} (ha:a < 4294967296 ^ i) (hb:b < 4294967296 ^ j):a + b < 4294967296 ^ (i + j + 1):=by
 have h1:4294967296 ^ i≤4294967296 ^ (i + j):=Nat.pow_le_pow_right (by decide) (by omega)
 have h2:4294967296 ^ j≤4294967296 ^ (i + j):=Nat.pow_le_pow_right (by decide) (by omega)
 rw [Nat.pow_succ]
 omega
instance Bn.mul {a b i j:Nat} [ha:Bn a i] [hb:Bn b j]:Bn (a * b) (i + j):=Bn.of (mul_lt_pow ha.lt hb.lt)
instance Bn.add {a b i j:Nat} [ha:Bn a i] [hb:Bn b j]:Bn (a + b) (i + j + 1):=Bn.of (add_lt_pow ha.lt hb.lt)
instance Bn.dn {a i:Nat} [ha:Bn a i]:Bn (dn a) (i + 1):=by
 refine Bn.of ?_
 have:=ha.lt
 unfold Rc.dn
 split
 ·exact Nat.one_lt_pow (by omega) (by decide)
 ·rw [Nat.pow_succ];omega
theorem Bn.mono {a b i:Nat} (h:a≤b) (hb:Bn b i):Bn a i:=Bn.of (Nat.lt_of_le_of_lt h hb.lt)
instance Bn.div {a b i:Nat} [ha:Bn a i]:Bn (a / b) i:=Bn.mono (Nat.div_le_self _ _) ha
instance Bn.sub {a b i:Nat} [ha:Bn a i]:Bn (a - b) i:=Bn.mono (Nat.sub_le _ _) ha
instance Bn.mod {a b i:Nat} [ha:Bn a i]:Bn (a % b) i:=Bn.mono (Nat.mod_le _ _) ha
class Bz (z:Int) (k:outParam Nat):Prop where
 le:(limbs z.natAbs).length≤k
theorem Bz.use {z:Int} {k k':Nat} [h:Bz z k] (hk:k≤k'):(limbs z.natAbs).length≤k':=Nat.le_trans h.le hk
theorem Bz.bn {z:Int} {k:Nat} (h:Bz z k):Bn z.natAbs k:=⟨h.le⟩
instance Bz.sgn {b:Bool} {n i:Nat} [h:Bn n i]:Bz (Rc.sgn b n) i:=⟨by rw [natAbs_sgn];exact h.le⟩
instance Bz.nat {n i:Nat} [h:Bn n i]:Bz ((n:Nat):Int) i:=⟨by simpa using h.le⟩
instance Bz.mul {a b:Int} {i j:Nat} [ha:Bz a i] [hb:Bz b j]:Bz (a * b) (i + j):=
 ⟨by rw [Int.natAbs_mul];exact (@Bn.mul _ _ _ _ ha.bn hb.bn).le⟩
instance Bz.add {a b:Int} {i j:Nat} [ha:Bz a i] [hb:Bz b j]:Bz (a + b) (i + j + 1):=
 ⟨(Bn.mono (by omega) (@Bn.add _ _ _ _ ha.bn hb.bn)).le⟩
instance Bz.sub {a b:Int} {i j:Nat} [ha:Bz a i] [hb:Bz b j]:Bz (a - b) (i + j + 1):=
 ⟨(Bn.mono (by omega) (@Bn.add _ _ _ _ ha.bn hb.bn)).le⟩
instance Bz.neg {a:Int} {i:Nat} [ha:Bz a i]:Bz (-a) i:=⟨by rw [Int.natAbs_neg];exact ha.le⟩
structure Fit (k:Nat) (x:Qr):Prop where
 n:x.n.length≤k
 d:x.d.length≤k
theorem Fit.mono {k k':Nat} {x:Qr} (h:Fit k x) (hk:k≤k'):Fit k' x:=⟨Nat.le_trans h.n hk,Nat.le_trans h.d hk⟩
class Br (r:Rat) (k:outParam Nat):Prop where
 fit:Fit k (qOf r)
theorem Br.use {r:Rat} {k k':Nat} [h:Br r k] (hk:k≤k'):Fit k' (qOf r):=h.fit.mono hk
theorem qZero_fit {k:Nat}:Fit k qZero:=⟨Nat.zero_le _,Nat.zero_le _⟩
theorem Br.num {r:Rat} {k:Nat} (h:Br r k):cnum r < 4294967296 ^ k:=limbs_length_le.1 h.fit.n
theorem Br.den {r:Rat} {k:Nat} (h:Br r k):r.den≤4294967296 ^ k:=by
 have h1:cden r < 4294967296 ^ k:=limbs_length_le.1 h.fit.d
 rw [← dn_cden]
 have h2:0 < 4294967296 ^ k:=Nat.pow_pos (by decide)
 unfold dn;split <;> omega
theorem Br.of {r:Rat} {k:Nat} (h1:r.num.natAbs < 4294967296 ^ k) (h2:r.den < 4294967296 ^ k):Br r k:=
 ⟨limbs_length_le.2 h1,limbs_length_le.2 (by unfold cden;split <;> omega)⟩
theorem Br.rq {b:Bool} {n d k:Nat} (h1:n < 4294967296 ^ k) (h2:d < 4294967296 ^ k):Br (rq b n d) k:=by
 refine ⟨limbs_length_le.2 ?_,limbs_length_le.2 ?_⟩
 ·rw [cnum_rq];exact Nat.lt_of_le_of_lt (Nat.div_le_self _ _) h1
 ·have h3:(Rc.rq b n d).den≤dn d:=by rw [den_rq];exact Nat.div_le_self _ _
  unfold cden
  split
  ·omega
  ·rename_i h4
   unfold dn at h3
   have:=(Rc.rq b n d).den_pos
   split at h3 <;> omega
theorem Br.q {x:Qr} {k:Nat} (h:Fit k x):Br x.q k:=
 Br.rq (Nat.lt_of_lt_of_le (val_lt x.hn) (Nat.pow_le_pow_right (by decide) h.n)) (Nat.lt_of_lt_of_le (val_lt x.hd) (Nat.pow_le_pow_right (by decide) h.d))
theorem Br.rqn {b:Bool} {n d i j:Nat} (h1:n < 4294967296 ^ i) (h2:d≤4294967296 ^ j) (hj:j < i):Br (Rc.rq b n d) i:=
 Br.rq h1 (Nat.lt_of_le_of_lt h2 (Nat.pow_lt_pow_right (by decide) hj))
theorem rq_of (q:Rat):Rc.rq (cneg q) (cnum q) q.den = q:=by rw [← dn_cden,rq_dn,rq_canon]
instance Br.mul {r s:Rat} {i j:Nat} [hr:Br r i] [hs:Br s j]:Br (r * s) (i + j + 1):=by
 rw [← rq_of r,← rq_of s,← rq_mul,dn_of (Nat.ne_of_gt r.den_pos),dn_of (Nat.ne_of_gt s.den_pos)]
 refine Br.rqn (j:=i + j) (Nat.lt_trans (mul_lt_pow hr.num hs.num) (Nat.pow_lt_pow_right (by decide) (by omega))) ?_ (by omega)
 rw [Nat.pow_add];exact Nat.mul_le_mul hr.den hs.den
instance Br.add {r s:Rat} {i j:Nat} [hr:Br r i] [hs:Br s j]:Br (r + s) (i + j + 1):=by
 rw [← rq_of r,← rq_of s,← rq_add _ _ _ _ _ _ _ rfl,dn_of (Nat.ne_of_gt r.den_pos),dn_of (Nat.ne_of_gt s.den_pos)]
 refine Br.rqn (j:=i + j) ?_ ?_ (by omega)
 ·have h1:cnum r * s.den < 4294967296 ^ (i + j) ∨ cnum r * s.den = 0:=by
   rcases Nat.eq_zero_or_pos (cnum r) with h | h
   ·exact .inr (by rw [h,Nat.zero_mul])
   ·left;rw [Nat.pow_add]
    exact Nat.lt_of_lt_of_le (Nat.mul_lt_mul_of_pos_right hr.num s.den_pos) (Nat.mul_le_mul_left _ hs.den)
  have h2:cnum s * r.den < 4294967296 ^ (i + j) ∨ cnum s * r.den = 0:=by
   rcases Nat.eq_zero_or_pos (cnum s) with h | h
   ·exact .inr (by rw [h,Nat.zero_mul])
   ·left;rw [Nat.pow_add,Nat.mul_comm (4294967296 ^ i)]
    exact Nat.lt_of_lt_of_le (Nat.mul_lt_mul_of_pos_right hs.num r.den_pos) (Nat.mul_le_mul_left _ hr.den)
  have h0:0 < 4294967296 ^ (i + j):=Nat.pow_pos (by decide)
  have h3:∀ (a b:Bool) (m n:Nat),(sgn a m + sgn b n).natAbs≤m + n:=by
   intro a b m n;cases a <;> cases b <;> simp <;> omega
  have h4:=h3 (cneg r) (cneg s) (cnum r * s.den) (cnum s * r.den)
  refine Nat.lt_of_le_of_lt h4 ?_
  rw [Nat.pow_succ]
  omega
 ·rw [Nat.pow_add];exact Nat.mul_le_mul hr.den hs.den
theorem cnum_neg (r:Rat):cnum (-r) = cnum r:=by unfold cnum;rw [show (-r).num = -r.num from rfl,Int.natAbs_neg]
theorem cden_neg (r:Rat):cden (-r) = cden r:=rfl
instance Br.neg {r:Rat} {i:Nat} [hr:Br r i]:Br (-r) i:=⟨⟨by show (limbs (cnum (-r))).length≤i;rw [cnum_neg];exact hr.fit.n,by show (limbs (cden (-r))).length≤i;rw [cden_neg];exact hr.fit.d⟩⟩
instance Br.sub {r s:Rat} {i j:Nat} [hr:Br r i] [hs:Br s j]:Br (r - s) (i + j + 1):=by
 rw [Rat.sub_eq_add_neg];exact Br.add
theorem Br.mono {r:Rat} {i j:Nat} (h:Br r i) (hij:i≤j):Br r j:=⟨h.fit.mono hij⟩
def mn (r s:Rat):Rat:=if r≤s then r else s
def mx (r s:Rat):Rat:=if s≤r then r else s
instance Br.mn {r s:Rat} {i j:Nat} [hr:Br r i] [hs:Br s j]:Br (mn r s) (i + j):=by
 unfold Rc.mn;split
 ·exact hr.mono (by omega)
 ·exact hs.mono (by omega)
instance Br.mx {r s:Rat} {i j:Nat} [hr:Br r i] [hs:Br s j]:Br (mx r s) (i + j):=by
 unfold Rc.mx;split
 ·exact hr.mono (by omega)
 ·exact hs.mono (by omega)
instance Br.zero:Br 0 0:=⟨⟨by show (limbs (cnum 0)).length≤0;rw [cnum_zero,limbs_zero];exact Nat.le_refl _,by show (limbs (cden 0)).length≤0;rw [cden_zero,limbs_zero];exact Nat.le_refl _⟩⟩
instance Br.inv {r:Rat} {i:Nat} [hr:Br r i]:Br r⁻¹ (i + 1):=by
 by_cases h:r = 0
 ·subst h;rw [Rat.inv_zero];exact Br.zero.mono (Nat.zero_le _)
 ·have hn:r.num≠0:=fun e=>h (Rat.num_eq_zero.1 e)
  refine Br.of ?_ ?_
  ·rw [Rat.num_inv,Int.natAbs_mul]
   have h1:r.num.sign.natAbs≤1:=by rw [Int.natAbs_sign];split <;> omega
   have h2:=hr.den
   have h3:r.num.sign.natAbs * (r.den:Int).natAbs≤1 * r.den:=Nat.mul_le_mul h1 (by simp)
   have h0:0 < 4294967296 ^ i:=Nat.pow_pos (by decide)
   rw [Nat.pow_succ]
   generalize r.num.sign.natAbs * (r.den:Int).natAbs = a at *
   omega
  ·rw [Rat.den_inv,if_neg hn]
   have:=hr.num
   unfold cnum at this
   rw [Nat.pow_succ];omega
instance Br.div {r s:Rat} {i j:Nat} [hr:Br r i] [hs:Br s j]:Br (r / s) (i + (j + 1) + 1):=by
 rw [Rat.div_def];exact Br.mul
def sgz (z:Int):Int:=if z < 0 then -1 else if z = 0 then 0 else 1
def cmpz (a b:Int):Int:=if a < b then -1 else if a = b then 0 else 1
theorem rq_neg_iff (b:Bool) (n d:Nat):rq b n d < 0↔sgn b n < 0:=by
 have h:=rq_lt b false n 0 d 0
 rw [rq_zero] at h
 rw [h];simp [dn]
theorem sg_rq (b:Bool) (n d:Nat):sg (rq b n d) = sgz (sgn b n):=by
 unfold sg sgz
 have h1:=rq_neg_iff b n d
 have h2:rq b n d = 0↔sgn b n = 0:=by rw [rq_eq_zero];cases b <;> simp
 simp only [h1,h2]
theorem cmpq_rq (a b:Bool) (m n d e:Nat):cmpq (rq a m d) (rq b n e) = cmpz (sgn a m * dn e) (sgn b n * dn d):=by
 unfold cmpq cmpz
 simp only [rq_lt,rq_eq]
theorem cmpq_le {p q:Rat}:cmpq p q≤0↔p≤q:=by
 unfold cmpq
 split
 ·rename_i h;exact ⟨fun _=>Rat.le_of_lt h,fun _=>by decide⟩
 ·split
  ·rename_i h;subst h;exact ⟨fun _=>Rat.le_refl,fun _=>by decide⟩
  ·rename_i h1 h2;exact ⟨fun h=>absurd h (by decide),fun h=>by grind⟩
theorem cmpq_ge {p q:Rat}:0≤cmpq p q↔q≤p:=by
 unfold cmpq
 split
 ·rename_i h;exact ⟨fun h=>absurd h (by decide),fun h'=>by grind⟩
 ·rename_i h;exact ⟨fun _=>by grind,fun _=>by split <;> decide⟩
theorem cmpq_gt {p q:Rat}:0 < cmpq p q↔q < p:=by
 unfold cmpq
 split
 ·rename_i h;exact ⟨fun h=>absurd h (by decide),fun h'=>by grind⟩
 ·split
  ·rename_i h;exact ⟨fun h=>absurd h (by decide),fun h'=>by grind⟩
  ·rename_i h1 h2;exact ⟨fun _=>by grind,fun _=>by decide⟩
theorem cmpq_lt {p q:Rat}:cmpq p q < 0↔p < q:=by
 unfold cmpq
 split
 ·rename_i h;exact ⟨fun _=>h,fun _=>by decide⟩
 ·rename_i h;exact ⟨fun h'=>by split at h' <;> simp at h',fun h'=>absurd h' h⟩
theorem sg_lt {p:Rat}:sg p < 0↔p < 0:=by
 unfold sg
 split
 ·rename_i h;exact ⟨fun _=>h,fun _=>by decide⟩
 ·rename_i h;exact ⟨fun h'=>by split at h' <;> simp at h',fun h'=>absurd h' h⟩
end Rc
namespace Rc
open Go
theorem val_take_lt {a:List Nat} (ha:Small a) (n:Nat):val (a.take n) < 4294967296 ^ n:=by
 refine Nat.lt_of_lt_of_le (val_lt (ha.take n)) (Nat.pow_le_pow_right (by decide) ?_)
 exact List.length_take_le n a
theorem val_take_common {a b:List Nat} {n:Nat} (h:∀ i,n≤i→a.getD i 0 = b.getD i 0):∀ m,∃ c,val (a.take (n + m)) = val (a.take n) + c∧val (b.take (n + m)) = val (b.take n) + c:=by
 intro m
 induction m with
 | zero=>exact ⟨0,rfl,rfl⟩
 | succ m ih=>
  obtain ⟨c,h1,h2⟩:=ih
  refine ⟨c + 4294967296 ^ (n + m) * a.getD (n + m) 0,?_,?_⟩
  ·rw [← Nat.add_assoc,val_take_getD,h1];omega
  ·rw [← Nat.add_assoc,val_take_getD,h2,h (n + m) (by omega)];omega
theorem val_take_all_common {a b:List Nat} {n:Nat} (h:∀ i,n≤i→a.getD i 0 = b.getD i 0):∃ c,val a = val (a.take n) + c∧val b = val (b.take n) + c:=by
 obtain ⟨c,h1,h2⟩:=val_take_common h (a.length + b.length)
 rw [val_take_all a _ (by omega)] at h1
 rw [val_take_all b _ (by omega)] at h2
 exact ⟨c,h1,h2⟩
theorem cmp_getD {a b:List Nat} {n:Nat} (ha:Small a) (h:∀ i,n + 1≤i→a.getD i 0 = b.getD i 0) (hlt:a.getD n 0 < b.getD n 0):val a < val b:=by
 obtain ⟨c,h1,h2⟩:=val_take_all_common h
 rw [h1,h2,val_take_getD,val_take_getD]
 have h3:=val_take_lt ha n
 have h4:4294967296 ^ n * (a.getD n 0 + 1)≤4294967296 ^ n * b.getD n 0:=Nat.mul_le_mul_left _ hlt
 rw [Nat.mul_add,Nat.mul_one] at h4
 omega
theorem eq_getD {a b:List Nat} (h:∀ i,0≤i→a.getD i 0 = b.getD i 0):val a = val b:=by
 obtain ⟨c,h1,h2⟩:=val_take_all_common h
 rw [h1,h2];simp
theorem add_app {a b out:List Nat} {k c s:Nat} (hl:out.length = k) (h:val out + c * 4294967296 ^ k = val (a.take k) + val (b.take k)) (hs:s = c + (a.getD k 0 + b.getD k 0)) :
  val (out ++ [s % 4294967296]) + (s / 4294967296) * 4294967296 ^ (k + 1) = val (a.take (k + 1)) + val (b.take (k + 1)):=by
 rw [val_append,hl,val_take_getD a k,val_take_getD b k,Nat.pow_succ]
 simp only [val_cons,val_nil,Nat.mul_zero,Nat.add_zero]
 have e:4294967296 ^ k * s = 4294967296 ^ k * (s % 4294967296) + s / 4294967296 * (4294967296 ^ k * 4294967296):=by
  conv=>lhs;rw [← Nat.mod_add_div s 4294967296]
  grind
 rw [hs] at e
 rw [hs]
 have e2:4294967296 ^ k * (c + (a.getD k 0 + b.getD k 0)) = c * 4294967296 ^ k + 4294967296 ^ k * a.getD k 0 + 4294967296 ^ k * b.getD k 0:=by grind
 omega
theorem sub_app {a b out:List Nat} {k c d c':Nat} (hl:out.length = k) (h:val out + val (b.take k) = val (a.take k) + c * 4294967296 ^ k) (hd:d + (b.getD k 0 + c) = a.getD k 0 + c' * 4294967296) :
  val (out ++ [d]) + val (b.take (k + 1)) = val (a.take (k + 1)) + c' * 4294967296 ^ (k + 1):=by
 rw [val_append,hl,val_take_getD a k,val_take_getD b k,Nat.pow_succ]
 simp only [val_cons,val_nil,Nat.mul_zero,Nat.add_zero]
 have e:4294967296 ^ k * (d + (b.getD k 0 + c)) = 4294967296 ^ k * (a.getD k 0 + c' * 4294967296):=by rw [hd]
 have e1:4294967296 ^ k * (d + (b.getD k 0 + c)) = 4294967296 ^ k * d + 4294967296 ^ k * b.getD k 0 + c * 4294967296 ^ k:=by grind
 have e2:4294967296 ^ k * (a.getD k 0 + c' * 4294967296) = 4294967296 ^ k * a.getD k 0 + c' * (4294967296 ^ k * 4294967296):=by grind
 omega
theorem sub_end {a b out:List Nat} {c:Nat} (ha:Small a) (hs:Small out) (hl:out.length = a.length) (hge:val b≤val a) (h:val out + val (b.take a.length) = val (a.take a.length) + c * 4294967296 ^ a.length):val out = val a - val b:=by
 rw [val_take_all a _ (Nat.le_refl _)] at h
 have h1:=val_lt ha
 have h2:=val_lt hs
 rw [hl] at h2
 have h3:=val_take_drop b a.length
 have h4:val (b.take a.length) = val b:=by
  by_cases h5:a.length≤b.length
  ·rw [Nat.min_eq_left h5] at h3
   have h6:val (b.drop a.length) = 0:=by
    rcases Nat.eq_zero_or_pos (val (b.drop a.length)) with h7 | h7
    ·exact h7
    ·have:4294967296 ^ a.length * 1≤4294967296 ^ a.length * val (b.drop a.length):=Nat.mul_le_mul_left _ h7
     omega
   rw [h6,Nat.mul_zero,Nat.add_zero] at h3
   exact h3.symm
  ·exact val_take_all b _ (by omega)
 rw [h4] at h
 rcases Nat.eq_zero_or_pos c with h5 | h5
 ·subst h5;omega
 ·have:1 * 4294967296 ^ a.length≤c * 4294967296 ^ a.length:=Nat.mul_le_mul_right _ h5
  omega
theorem mul_stepD {b out:List Nat} {i k c x:Nat} (hl:i + k < out.length) (base:Nat) (h:val out + c * 4294967296 ^ (i + k) = base + 4294967296 ^ i * (x * val (b.take k))) :
  val (out.set (i + k) ((c + (x * b.getD k 0 + out[i + k])) % 4294967296)) + ((c + (x * b.getD k 0 + out[i + k])) / 4294967296) * 4294967296 ^ (i + (k + 1)) = base + 4294967296 ^ i * (x * val (b.take (k + 1))):=by
 have h1:=val_set out (i + k) ((c + (x * b.getD k 0 + out[i + k])) % 4294967296) hl
 rw [val_take_getD b k,show i + (k + 1) = (i + k) + 1 from rfl,Nat.pow_succ]
 generalize b.getD k 0 = y at *
 generalize hs:c + (x * y + out[i + k]) = s at *
 have e1:4294967296 ^ (i + k) * s = 4294967296 ^ (i + k) * (s % 4294967296) + s / 4294967296 * (4294967296 ^ (i + k) * 4294967296):=by
  conv=>lhs;rw [← Nat.mod_add_div s 4294967296]
  grind
 have e2:4294967296 ^ (i + k) * s = c * 4294967296 ^ (i + k) + 4294967296 ^ i * (x * (4294967296 ^ k * y)) + 4294967296 ^ (i + k) * out[i + k]:=by
  rw [← hs,Nat.pow_add];grind
 have e3:4294967296 ^ i * (x * (val (b.take k) + 4294967296 ^ k * y)) = 4294967296 ^ i * (x * val (b.take k)) + 4294967296 ^ i * (x * (4294967296 ^ k * y)):=by grind
 omega
theorem mul_end {a b o:List Nat} {i c:Nat} (ha:Small a) (hb:Small b) (hi:i < a.length) (h:val o + c * 4294967296 ^ (i + (b.length + 1)) = val (a.take i) * val b + 4294967296 ^ i * (a[i] * val (b.take (b.length + 1)))) :
  val o = val (a.take (i + 1)) * val b:=by
 rw [val_take_all b _ (by omega)] at h
 have e:val (a.take i) * val b + 4294967296 ^ i * (a[i] * val b) = val (a.take (i + 1)) * val b:=by
  rw [val_take_succ a i hi];grind
 rw [e] at h
 have h1:=val_take_lt ha (i + 1)
 have h2:=val_lt hb
 have h3:val (a.take (i + 1)) * val b < 4294967296 ^ (i + (b.length + 1)):=by
  rw [show i + (b.length + 1) = (i + 1) + b.length from by omega,Nat.pow_add]
  rcases Nat.eq_zero_or_pos (val b) with h | h
  ·rw [h,Nat.mul_zero];exact Nat.mul_pos (Nat.pow_pos (by decide)) (Nat.pow_pos (by decide))
  ·exact Nat.lt_of_lt_of_le (Nat.mul_lt_mul_of_pos_right h1 h) (Nat.mul_le_mul_left _ (Nat.le_of_lt h2))
 rcases Nat.eq_zero_or_pos c with h5 | h5
 ·subst h5;omega
 ·have:1 * 4294967296 ^ (i + (b.length + 1))≤c * 4294967296 ^ (i + (b.length + 1)):=Nat.mul_le_mul_right _ h5
  omega
theorem shl_app {a out:List Nat} {i k c x:Nat} (hi:i < a.length) (hl:out.length = k / 32 + i) (h:val out + c * 4294967296 ^ out.length = val (a.take i) * 2 ^ k) (hx:x = c + a[i] * 2 ^ (k % 32)) :
  val (out ++ [x % 4294967296]) + (x / 4294967296) * 4294967296 ^ (out.length + 1) = val (a.take (i + 1)) * 2 ^ k:=by
 rw [val_append,val_take_succ a i hi,Nat.pow_succ]
 simp only [val_cons,val_nil,Nat.mul_zero,Nat.add_zero]
 have e:4294967296 ^ out.length * x = 4294967296 ^ out.length * (x % 4294967296) + x / 4294967296 * (4294967296 ^ out.length * 4294967296):=by
  conv=>lhs;rw [← Nat.mod_add_div x 4294967296]
  grind
 have e2:4294967296 ^ out.length * 2 ^ (k % 32) = 4294967296 ^ i * 2 ^ k:=by
  rw [hl,pow32,pow32,← Nat.pow_add,← Nat.pow_add];congr 1;omega
 have e3:4294967296 ^ out.length * x = c * 4294967296 ^ out.length + a[i] * (4294967296 ^ out.length * 2 ^ (k % 32)):=by rw [hx];grind
 rw [e2] at e3
 have e4:(val (a.take i) + 4294967296 ^ i * a[i]) * 2 ^ k = val (a.take i) * 2 ^ k + a[i] * (4294967296 ^ i * 2 ^ k):=by grind
 omega
theorem shl_bound {d c s:Nat} (hs:s < 32) (hd:d < 4294967296) (hc:c < 2 ^ s):d * 2 ^ s < 18446744073709551616∧c + d * 2 ^ s < 18446744073709551616∧(c + d * 2 ^ s) / 4294967296 < 2 ^ s∧2 ^ s≤2147483648:=by
 have h1:(2:Nat) ^ s≤2 ^ 31:=Nat.pow_le_pow_right (by omega) (by omega)
 have h2:d * 2 ^ s≤4294967295 * 2 ^ s:=Nat.mul_le_mul_right _ (by omega)
 refine ⟨by omega,by omega,?_,by omega⟩
 rw [Nat.div_lt_iff_lt_mul (by omega)]
 omega
theorem bl_half {x:Nat} (h:0 < x):bl x = bl (x / 2) + 1:=by
 by_cases h2:2≤x
 ·have:=bl_div (n:=x) (k:=1) (by simpa using h2)
  simpa using this
 ·have:x = 1:=by omega
  subst this;decide
theorem val_app1 (out:List Nat) (c:Nat):val (out ++ [c]) = val out + c * 4294967296 ^ out.length:=by
 rw [val_append];simp [Nat.mul_comm]
theorem small_app1 {out:List Nat} {c:Nat} (h:Small out) (hc:c < 4294967296):Small (out ++ [c]):=h.append (Small.cons hc Small.nil)
theorem bit_of {a:List Nat} (ha:Small a) {n:Nat} (h:n / 32 < a.length):a[n / 32] / 2 ^ (n % 32) % 2 = val a / 2 ^ n % 2:=by
 rw [← shift_split (val a) n,val_drop_div a ha,List.drop_eq_getElem_cons h,val_cons]
 have e:(4294967296:Nat) = 2 ^ (n % 32) * (2 * 2 ^ (31 - n % 32)):=by
  rw [← Nat.pow_succ',← Nat.pow_add,show n % 32 + (31 - n % 32).succ = 32 from by omega]
 rw [e,Nat.mul_assoc,Nat.add_mul_div_left _ _ (Nat.pow_pos (by decide)),Nat.mul_assoc,Nat.add_mul_mod_self_left]
theorem and_one {x:Nat} (h:x < 4294967296):IntKind.u32.wrap ((BitVec.ofInt IntKind.u32.bits (x:Int) &&& BitVec.ofInt IntKind.u32.bits (1:Int)).toNat) = ((x % 2:Nat):Int):=by
 rw [BitVec.toNat_and,show (1:Int) = ((1:Nat):Int) from rfl,ofInt_nat _ x (by simp only [IntKind.bits];omega),ofInt_nat _ 1 (by simp only [IntKind.bits];omega),Nat.and_one_is_mod]
 exact wrap_nat_u32 (by omega)
theorem div_bit_step {A n Q b r:Nat} (h:A / 2 ^ (n + 1) = Q * b + r):A / 2 ^ n = 2 * Q * b + (2 * r + A / 2 ^ n % 2):=by
 have h1:A / 2 ^ (n + 1) = A / 2 ^ n / 2:=by rw [Nat.pow_succ,Nat.div_div_eq_div_mul]
 rw [h1] at h
 have h2:=Nat.div_add_mod (A / 2 ^ n) 2
 rw [h] at h2
 have e:2 * (Q * b + r) = 2 * Q * b + 2 * r:=by grind
 omega
theorem set_bit {o:List Nat} {n Q:Nat} (ho:Small o) (hn:n / 32 < o.length) (h:val o = 2 ^ (n + 1) * Q) :
  o[n / 32] % 2 ^ (n % 32 + 1) = 0∧o[n / 32] + 2 ^ (n % 32) < 4294967296∧val (o.set (n / 32) (o[n / 32] + 2 ^ (n % 32))) = 2 ^ n * (2 * Q + 1):=by
 have h1:=val_drop_div o ho (n / 32)
 rw [List.drop_eq_getElem_cons hn,val_cons] at h1
 have e1:2 ^ (n + 1) = 4294967296 ^ (n / 32) * 2 ^ (n % 32 + 1):=by
  rw [pow32,← Nat.pow_add];congr 1;omega
 rw [h,e1,Nat.mul_assoc,Nat.mul_div_cancel_left _ (Nat.pow_pos (by decide))] at h1
 have e2:(4294967296:Nat) = 2 ^ (n % 32 + 1) * 2 ^ (31 - n % 32):=by rw [← Nat.pow_add,show n % 32 + 1 + (31 - n % 32) = 32 from by omega]
 have hd:=ho.get (n / 32) hn
 have h2:o[n / 32] % 2 ^ (n % 32 + 1) = 0:=by
  have h3:(o[n / 32] + 4294967296 * val (o.drop (n / 32 + 1))) % 2 ^ (n % 32 + 1) = 0:=by rw [← h1];exact Nat.mul_mod_right _ _
  rw [e2,Nat.mul_assoc,Nat.add_mul_mod_self_left] at h3
  exact h3
 refine ⟨h2,?_,?_⟩
 ·obtain ⟨y,hy⟩:=Nat.dvd_of_mod_eq_zero h2
  rw [hy] at hd ⊢
  have hp:0 < 2 ^ (n % 32):=Nat.pow_pos (by decide)
  have hy2:y < 2 ^ (31 - n % 32):=by
   rw [e2] at hd
   exact Nat.lt_of_mul_lt_mul_left hd
  have h4:2 ^ (n % 32 + 1) * (y + 1)≤2 ^ (n % 32 + 1) * 2 ^ (31 - n % 32):=Nat.mul_le_mul_left _ hy2
  rw [← e2,Nat.mul_add,Nat.mul_one] at h4
  have h5:(2:Nat) ^ (n % 32 + 1) = 2 * 2 ^ (n % 32):=Nat.pow_succ'
  omega
 ·have h3:=val_set o (n / 32) (o[n / 32] + 2 ^ (n % 32)) hn
  have e3:2 ^ n = 4294967296 ^ (n / 32) * 2 ^ (n % 32):=by rw [pow32,← Nat.pow_add];congr 1;omega
  rw [h] at h3
  rw [Nat.mul_add,← e3,Nat.pow_succ] at h3
  have e4:2 ^ n * 2 * Q = 2 ^ n * (2 * Q):=by grind
  rw [e4] at h3
  rw [Nat.mul_add,Nat.mul_one]
  omega
theorem or32 {a b:Nat} (i:Nat) (ha:a % 2 ^ i = 0) (hb:b < 2 ^ i) (h:a + b < 4294967296) :
  IntKind.u32.wrap ((BitVec.ofInt IntKind.u32.bits (a:Int) ||| BitVec.ofInt IntKind.u32.bits (b:Int)).toNat) = ((a + b:Nat):Int):=by
 rw [BitVec.toNat_or,ofInt_nat _ a (by simp only [IntKind.bits];omega),ofInt_nat _ b (by simp only [IntKind.bits];omega),or_add i ha hb]
 exact wrap_nat_u32 h
theorem bits_index {x n L:Nat} (h1:x < 4294967296 ^ L) (hn:n < bl x):n / 32 < L:=by
 have h2:bl x≤32 * L:=bl_le_of_lt (by rw [← pow32];exact h1)
 omega
end Rc
namespace Rc
open Go
theorem zr_eq {b:Bool} {m:List Nat} {hm:Small m} {v:Nat} (h:val m = v):(Zr.mk b m hm).z = sgn b v:=by subst h;rfl
theorem qr_eq {b:Bool} {n d:List Nat} {hn:Small n} {hd:Small d} {vn vd:Nat} (h1:val n = vn) (h2:val d = vd):(Qr.mk b n d hn hd).q = rq b vn vd:=by subst h1;subst h2;rfl
theorem qr_neg {x:Qr} {r:Rat} (h:x.q = r):(Qr.mk (!x.neg) x.n x.d x.hn x.hd).q = -r:=by
 subst h;exact rq_neg x.neg (val x.n) (val x.d)
theorem Fit.neg {k:Nat} {x:Qr} (h:Fit k x):Fit k (Qr.mk (!x.neg) x.n x.d x.hn x.hd):=⟨h.n,h.d⟩
theorem limbs_len_pos {n:Nat}:0 < (limbs n).length↔n≠0:=by
 constructor
 ·intro h e;subst e;rw [limbs_zero] at h;simp at h
 ·intro h
  exact Nat.pos_of_ne_zero (fun e=>h (limbs_eq_nil.1 (List.eq_nil_of_length_eq_zero e)))
theorem zret_f (n:Nat):V.agg [Leaf.val (.bool false),natL (limbs n)] = zV (zOf (sgn false n)):=by
 show V.agg _ = V.agg [Leaf.val (.bool (decide (sgn false n < 0))),natL (limbs (sgn false n).natAbs)]
 rw [natAbs_sgn,decide_eq_false (by rw [sgn_false];omega)]
theorem zret_t (n:Nat):V.agg [Leaf.val (.bool (decide ((0:Int) < ((limbs n).length:Nat)))),natL (limbs n)] = zV (zOf (sgn true n)):=by
 show V.agg _ = V.agg [Leaf.val (.bool (decide (sgn true n < 0))),natL (limbs (sgn true n).natAbs)]
 rw [natAbs_sgn]
 have h:=limbs_len_pos (n:=n)
 have e:decide ((0:Int) < ((limbs n).length:Nat)) = decide (sgn true n < 0):=decide_eq_decide.2 (by rw [sgn_true];omega)
 rw [e]
theorem bl_eq_zero {n:Nat}:bl n = 0↔n = 0:=by
 constructor
 ·intro h
  by_cases e:n = 0
  ·exact e
  ·have:=bl_pos e;omega
 ·rintro rfl;rfl
theorem sgz_zero {x:Zr} (h:bl (val x.m) = 0):sgz x.z = 0:=by
 unfold Zr.z;rw [bl_eq_zero.1 h];cases x.neg <;> rfl
theorem sgz_zero' {x:Zr} (h:val x.m = 0):sgz x.z = 0:=by
 unfold Zr.z;rw [h];cases x.neg <;> rfl
theorem sgz_neg {x:Zr} (h:val x.m≠0) (hn:x.neg = true):sgz x.z = -1:=by
 unfold Zr.z sgz;rw [hn,sgn_true,if_pos (by omega)]
theorem sgz_pos {x:Zr} (h:val x.m≠0) (hn:x.neg = false):sgz x.z = 1:=by
 unfold Zr.z sgz;rw [hn,sgn_false,if_neg (by omega),if_neg (by omega)]
theorem zadd_same {x y:Zr} (h:x.neg = y.neg):sgn x.neg (val x.m + val y.m) = x.z + y.z:=by
 unfold Zr.z;rw [← h];cases x.neg <;> simp <;> omega
theorem zadd_lt {x y:Zr} (h:x.neg≠y.neg) (hlt:val x.m≤val y.m):sgn y.neg (val y.m - val x.m) = x.z + y.z:=by
 unfold Zr.z
 cases hx:x.neg <;> cases hy:y.neg <;> simp [hx,hy] at h ⊢ <;> omega
theorem zadd_ge {x y:Zr} (h:x.neg≠y.neg) (hge:val y.m≤val x.m):sgn x.neg (val x.m - val y.m) = x.z + y.z:=by
 unfold Zr.z
 cases hx:x.neg <;> cases hy:y.neg <;> simp [hx,hy] at h ⊢ <;> omega
theorem sgz_cases (z:Int):(z < 0∧sgz z = -1) ∨ (z = 0∧sgz z = 0) ∨ (0 < z∧sgz z = 1):=by
 unfold sgz
 split
 ·exact .inl ⟨by assumption,rfl⟩
 ·split
  ·exact .inr (.inl ⟨by assumption,rfl⟩)
  ·exact .inr (.inr ⟨by omega,rfl⟩)
theorem cmpz_lt {a b:Int} (h:a < b):cmpz a b = -1:=by unfold cmpz;rw [if_pos h]
theorem cmpz_gt {a b:Int} (h:b < a):cmpz a b = 1:=by unfold cmpz;rw [if_neg (by omega),if_neg (by omega)]
theorem cmpz_sg_lt {a b:Int} (h:sgz a < sgz b):cmpz a b = -1:=by
 have h1:=sgz_cases a;have h2:=sgz_cases b
 exact cmpz_lt (by omega)
theorem cmpz_sg_gt {a b:Int} (h:sgz b < sgz a):cmpz a b = 1:=by
 have h1:=sgz_cases a;have h2:=sgz_cases b
 exact cmpz_gt (by omega)
theorem cmpz_neg {x y:Zr} (h:sgz x.z = sgz y.z) (hn:sgz x.z < 0):cmpN (val y.m) (val x.m) = cmpz x.z y.z:=by
 have h1:=sgz_cases x.z;have h2:=sgz_cases y.z
 have a1:x.z < 0:=by omega
 have a2:y.z < 0:=by omega
 clear h1 h2 h hn
 unfold Zr.z at *
 cases hx:x.neg <;> cases hy:y.neg <;> rw [hx] at a1 <;> rw [hy] at a2 <;> simp at a1 a2
 ·omega
 ·omega
 ·omega
 ·simp only [sgn_true]
  unfold cmpN cmpz
  repeat' split
  all_goals omega
theorem cmpz_pos {x y:Zr} (h:sgz x.z = sgz y.z) (hn:¬ sgz x.z < 0):cmpN (val x.m) (val y.m) = cmpz x.z y.z:=by
 have h1:=sgz_cases x.z;have h2:=sgz_cases y.z
 have a:(x.z = 0∧y.z = 0) ∨ (0 < x.z∧0 < y.z):=by omega
 clear h1 h2 h hn
 have e1:x.z = val x.m:=by
  unfold Zr.z at *
  cases hx:x.neg <;> rw [hx] at a <;> simp at a ⊢ <;> omega
 have e2:y.z = val y.m:=by
  unfold Zr.z at *
  cases hy:y.neg <;> rw [hy] at a <;> simp at a ⊢ <;> omega
 rw [e1,e2]
 unfold cmpN cmpz
 repeat' split
 all_goals omega
def dl (d:List Nat):List Nat:=if val d = 0 then [1] else d
theorem val_dl (d:List Nat):val (dl d) = dn (val d):=by unfold dl dn;split <;> simp_all
theorem small_dl {d:List Nat} (h:Small d):Small (dl d):=by
 unfold dl;split
 ·exact Small.cons (by omega) Small.nil
 ·exact h
theorem len_dl {d:List Nat} {k k':Nat} (h:d.length≤k) (hk:k + 1≤k'):(dl d).length≤k':=by
 unfold dl;split
 ·simp;omega
 ·omega
theorem dl_zero {d:List Nat} (h:bl (val d) = 0):dl d = [1]:=by unfold dl;rw [if_pos (bl_eq_zero.1 h)]
theorem dl_of {d:List Nat} (h:¬ bl (val d) = 0):dl d = d:=by unfold dl;rw [if_neg (fun e=>h (bl_eq_zero.2 e))]
theorem limbs_one:limbs 1 = [1]:=by rw [limbs_pos (by decide)];simp [limbs_zero]
theorem limbs_eq_one {n:Nat}:limbs n = [1]↔n = 1:=by
 constructor
 ·intro h;have:=val_limbs n;rw [h] at this;simpa using this.symm
 ·rintro rfl;exact limbs_one
theorem quot_ret (b:Bool) {n d:Nat} (hn:n≠0) (hd:d≠0) :
  qV (qOf (rq b n d)) = V.agg [Leaf.val (.bool b),natL (limbs (n / Nat.gcd n d)),natL (limbs (if d / Nat.gcd n d = 1 then 0 else d / Nat.gcd n d))]:=by
 show V.agg [Leaf.val (.bool (cneg (rq b n d))),natL (limbs (cnum (rq b n d))),natL (limbs (cden (rq b n d)))] = _
 rw [cneg_rq,cnum_rq,dn_of hd,decide_eq_true hn,Bool.and_true]
 unfold cden
 rw [den_rq,dn_of hd]
theorem quot_ret' (b:Bool) {n d:Nat} (hd:d≠0) :
  qV (qOf (rq b n d)) = V.agg [Leaf.val (.bool (b && decide (n≠0))),natL (limbs (n / Nat.gcd n d)),natL (limbs (if d / Nat.gcd n d = 1 then 0 else d / Nat.gcd n d))]:=by
 show V.agg [Leaf.val (.bool (cneg (rq b n d))),natL (limbs (cnum (rq b n d))),natL (limbs (cden (rq b n d)))] = _
 rw [cneg_rq,cnum_rq,dn_of hd]
 unfold cden
 rw [den_rq,dn_of hd]
theorem quot_zero (b:Bool) (d:Nat):qV qZero = qV (qOf (rq b 0 d)):=by rw [rq_zero];exact qV_zero
theorem div_ne {n g:Nat} (hn:n≠0) (h:g ∣ n):n / g≠0:=by
 obtain ⟨k,rfl⟩:=h
 have hg:0 < g:=Nat.pos_of_ne_zero (fun e=>hn (by rw [e,Nat.zero_mul]))
 rw [Nat.mul_div_cancel_left _ hg]
 intro e;exact hn (by rw [e,Nat.mul_zero])
theorem q_add (a b:Bool) (m n d e:Nat) (S:Int) (hS:S = sgn a m * sgn false (dn e) + sgn b n * sgn false (dn d)) :
  rq (decide (S < 0)) S.natAbs (dn d * dn e) = rq a m d + rq b n e:=by
 refine rq_add a b m n d e S ?_
 rw [hS]
 cases a <;> cases b <;> simp [Int.neg_mul]
theorem q_add' (a b:Bool) (m n d e:Nat) (S:Int) (hS:S = sgn a (m * dn e) + sgn b (n * dn d)) :
  rq (decide (S < 0)) S.natAbs (dn d * dn e) = rq a m d + rq b n e:=rq_add a b m n d e S hS
theorem cmpq_cross (a b:Bool) (m n d e:Nat):cmpz (sgn a m * sgn false (dn e)) (sgn b n * sgn false (dn d)) = cmpq (rq a m d) (rq b n e):=(cmpq_rq a b m n d e).symm
theorem cmpq_sg_lt {p q:Rat} (h:sg p < sg q):cmpq p q = -1:=by
 unfold cmpq
 rw [if_pos]
 unfold sg at h
 grind
theorem cmpq_sg_gt {p q:Rat} (h:sg p≠sg q) (h':¬ sg p < sg q):cmpq p q = 1:=by
 unfold cmpq
 unfold sg at h h'
 rw [if_neg,if_neg] <;> grind
theorem mx_ge {r s:Rat} (h:0≤cmpq r s):mx r s = r:=by unfold mx;rw [if_pos (cmpq_ge.1 h)]
theorem mx_lt {r s:Rat} (h:¬ 0≤cmpq r s):mx r s = s:=by unfold mx;rw [if_neg (fun e=>h (cmpq_ge.2 e))]
def isC (x:Qr):Bool:=(x.neg == cneg x.q) && decide (x.n = limbs (cnum x.q)) && decide (x.d = limbs (cden x.q))
theorem isC_iff {x:Qr}:isC x = true↔x = qOf x.q:=by
 unfold isC
 rw [Bool.and_eq_true,Bool.and_eq_true,beq_iff_eq,decide_eq_true_eq,decide_eq_true_eq]
 constructor
 ·rintro ⟨⟨h1,h2⟩,h3⟩
  obtain ⟨b,n,d,hn,hd⟩:=x
  simp only at h1 h2 h3
  show _ = Qr.mk _ _ _ _ _
  congr
 ·intro h
  refine ⟨⟨?_,?_⟩,?_⟩
  ·have:=congrArg Qr.neg h;exact this
  ·have:=congrArg Qr.n h;exact this
  ·have:=congrArg Qr.d h;exact this
theorem small_ext {a b:List Nat} (ha:Small a) (hb:Small b) (hl:a.length = b.length) (hv:val a = val b):a = b:=by
 rw [padL_eq ha,padL_eq hb,hl,hv]
theorem cmpN_zero {a b:Nat}:cmpN a b = 0↔a = b:=by
 unfold cmpN
 split
 ·exact ⟨fun h=>absurd h (by decide),fun h=>by omega⟩
 ·split
  ·exact ⟨fun _=>by assumption,fun _=>rfl⟩
  ·exact ⟨fun h=>absurd h (by decide),fun h=>absurd h (by assumption)⟩
theorem isC_int {x:Qr} (hd:x.d.length = 0):isC x = (decide (∀ h:x.n≠[],x.n.getLast h≠0) && (!x.neg || decide (0 < x.n.length))):=by
 obtain ⟨b,n,d,hn,hdd⟩:=x
 simp only at hd
 have hd0:=List.eq_nil_of_length_eq_zero hd
 subst hd0
 have hq:(Qr.mk b n [] hn hdd).q = rq b (val n) 0:=rfl
 apply Bool.eq_iff_iff.2
 unfold isC
 rw [hq]
 simp only []
 rw [cneg_rq,cnum_rq]
 have hden:cden (rq b (val n) 0) = 0:=by unfold cden;rw [den_rq];simp
 rw [hden,limbs_zero]
 simp only [dn_zero,Nat.gcd_one_right,Nat.div_one,Bool.and_eq_true,decide_eq_true_eq,beq_iff_eq,Bool.or_eq_true,Bool.not_eq_true',ne_eq,decide_true,and_true]
 constructor
 ·rintro ⟨h1,h2⟩
  have hc:=canon_limbs (val n)
  rw [← h2] at hc
  refine ⟨fun h=>hc.2 h,?_⟩
  cases b with
  | false=>exact .inl rfl
  | true=>
   right
   simp at h1
   rw [h2];exact limbs_len_pos.2 h1
 ·rintro ⟨h1,h2⟩
  have hc:Canon n:=⟨hn,fun h=>h1 h⟩
  refine ⟨?_,hc.eq⟩
  rcases h2 with h2 | h2
  ·subst h2;simp
  ·have:val n≠0:=by
    rw [hc.eq] at h2
    exact limbs_len_pos.1 h2
   simp [this]
theorem isC_cmp {x:Qr}:isC x = ((x.neg == cneg x.q) && ((x.n.length:Int) == ((limbs (cnum x.q)).length:Nat)) && ((x.d.length:Int) == ((limbs (cden x.q)).length:Nat)) && (cmpN (val x.n) (cnum x.q) == 0) && (cmpN (val x.d) (cden x.q) == 0)):=by
 apply Bool.eq_iff_iff.2
 unfold isC
 simp only [Bool.and_eq_true,beq_iff_eq,decide_eq_true_eq,cmpN_zero]
 constructor
 ·rintro ⟨⟨h1,h2⟩,h3⟩
  exact ⟨⟨⟨⟨h1,by rw [← h2]⟩,by rw [← h3]⟩,by rw [h2,val_limbs]⟩,by rw [h3,val_limbs]⟩
 ·rintro ⟨⟨⟨⟨h1,h2⟩,h3⟩,h4⟩,h5⟩
  exact ⟨⟨h1,small_ext x.hn (small_limbs _) (by omega) (by rw [val_limbs];exact h4)⟩,small_ext x.hd (small_limbs _) (by omega) (by rw [val_limbs];exact h5)⟩
end Rc
set_option linter.unusedSimpArgs false
set_option linter.unusedVariables false
namespace Rc
open Go Go.RowKit
abbrev Tm:Type:=Nat × Rat
def qL (r:Rat):List Leaf:=[Leaf.val (.bool (cneg r)),natL (limbs (cnum r)),natL (limbs (cden r))]
def tmE:El Tm:=⟨fun t=>[Leaf.val (.int .i64 (t.1:Int)),Leaf.val (.bool (cneg t.2)),natL (limbs (cnum t.2)),natL (limbs (cden t.2))],4,fun _=>rfl,fun _=>rfl⟩
structure Af where
 ts:List Tm
 c:Rat
@[reducible] def afL (f:Af):List Leaf:=[tmE.row f.ts,Leaf.val (.bool (cneg f.c)),natL (limbs (cnum f.c)),natL (limbs (cden f.c))]
@[reducible] def afV (f:Af):V:=V.agg (afL f)
def afE:El Af:=⟨fun f=>[tmE.row f.ts,Leaf.val (.bool (cneg f.c)),natL (limbs (cnum f.c)),natL (limbs (cden f.c))],4,fun _=>rfl,fun _=>rfl⟩
def nz (l:List Tm) (t:Tm):List Tm:=if t.2 = 0 then l else l ++ [t]
theorem nz_pos {l:List Tm} {v:Nat} {c:Rat} (h:c = 0):nz l (v,c) = l:=if_pos h
theorem nz_neg {l:List Tm} {v:Nat} {c:Rat} (h:¬ c = 0):nz l (v,c) = l ++ [(v,c)]:=if_neg h
theorem nz_le (l:List Tm) (t:Tm):(tmE.all l).length≤(tmE.all (nz l t)).length:=by
 unfold nz
 split
 ·exact Nat.le_refl _
 ·rw [El.all_append,List.length_append];omega
theorem sg_ne {c:Rat} (h:¬ c = 0):sg c≠0:=by
 unfold sg
 rw [if_neg h]
 split <;> decide
def scT (ts:List Tm) (c:Rat):List Tm:=ts.foldl (fun out t=>nz out (t.1,t.2 * c)) []
theorem scT_snoc (ts:List Tm) (t:Tm) (c:Rat):scT (ts ++ [t]) c = nz (scT ts c) (t.1,t.2 * c):=by
 unfold scT
 rw [List.foldl_append]
 rfl
theorem take_snoc {α:Type} {l:List α} {i:Nat} {x:α} (h:l[i]? = some x):l.take (i + 1) = l.take i ++ [x]:=by
 rw [List.take_add_one,h];rfl
theorem scT_take {ts:List Tm} {i:Nat} {x:Tm} {c:Rat} (h:ts[i]? = some x):scT (ts.take (i + 1)) c = nz (scT (ts.take i) c) (x.1,x.2 * c):=by
 rw [take_snoc h,scT_snoc]
theorem nz_len (l:List Tm) (t:Tm):(nz l t).length≤l.length + 1:=by
 unfold nz
 split <;> simp
theorem scT_len (ts:List Tm) (c:Rat):(scT ts c).length≤ts.length:=by
 have:∀ (ts out:List Tm),(ts.foldl (fun out t=>nz out (t.1,t.2 * c)) out).length≤out.length + ts.length:=by
  intro ts
  induction ts with
  | nil=>intro out;simp
  | cons t ts ih=>
   intro out
   have h1:=ih (nz out (t.1,t.2 * c))
   have h2:=nz_len out (t.1,t.2 * c)
   simp only [List.foldl_cons,List.length_cons]
   omega
 have:=this ts []
 simpa [scT] using this
def addT:List Tm→Nat→Rat→List Tm
 | [],v,c=>if c = 0 then [] else [(v,c)]
 | (w,d) :: ts,v,c=>if w = v then (if d + c = 0 then ts else (w,d + c) :: ts) else if v < w then (if c = 0 then (w,d) :: ts else (v,c) :: (w,d) :: ts) else (w,d) :: addT ts v c
def CanT:List Tm→Prop
 | []=>True
 | (w,d) :: ts=>d≠0∧(∀ t∈ts,w < t.1)∧CanT ts
def co:List Tm→Nat→Rat
 | [],_=>0
 | (w,d) :: ts,v=>if w = v then d else co ts v
theorem co_none {ts:List Tm} {v:Nat} (h:∀ t∈ts,v < t.1):co ts v = 0:=by
 induction ts with
 | nil=>rfl
 | cons t ts ih=>
  have h1:=h t (by simp)
  unfold co
  rw [if_neg (by omega)]
  exact ih fun u hu=>h u (by simp [hu])
theorem co_ext:∀ {a b:List Tm},CanT a→CanT b→(∀ v,co a v = co b v)→a = b
 | [],[],_,_,_=>rfl
 | [],(w,d) :: b,_,hb,h=>by
  have:=h w
  unfold co at this
  rw [if_pos rfl] at this
  exact absurd this.symm hb.1
 | (w,d) :: a,[],ha,_,h=>by
  have:=h w
  unfold co at this
  rw [if_pos rfl] at this
  exact absurd this ha.1
 | (w,d) :: a,(x,e) :: b,ha,hb,h=>by
  obtain ⟨a1,a2,a3⟩:=ha
  obtain ⟨b1,b2,b3⟩:=hb
  have hw:=h w
  have hx:=h x
  unfold co at hw hx
  rw [if_pos rfl] at hw hx
  by_cases e1:w = x
  ·subst e1
   rw [if_pos rfl] at hw
   subst hw
   rw [co_ext a3 b3 fun v=>?_]
   have:=h v
   unfold co at this
   by_cases e2:w = v
   ·subst e2
    rw [co_none a2,co_none b2]
   ·rwa [if_neg e2,if_neg e2] at this
  ·exfalso
   rw [if_neg (fun e=>e1 e.symm)] at hw
   rw [if_neg e1] at hx
   by_cases e2:w < x
   ·rw [co_none (fun t ht=>Nat.lt_trans e2 (b2 t ht))] at hw
    exact a1 hw
   ·rw [co_none (fun t ht=>Nat.lt_trans (show x < w by omega) (a2 t ht))] at hx
    exact b1 hx.symm
theorem addT_mem {ts:List Tm} {v:Nat} {c:Rat} {t:Tm} (h:t∈addT ts v c):t.1 = v ∨ ∃ u∈ts,u.1 = t.1:=by
 induction ts with
 | nil=>
  unfold addT at h
  split at h
  ·simp at h
  ·simp at h;subst h;exact .inl rfl
 | cons u ts ih=>
  obtain ⟨w,d⟩:=u
  unfold addT at h
  split at h
  ·split at h
   ·exact .inr ⟨t,by simp [h],rfl⟩
   ·rcases List.mem_cons.1 h with h | h
    ·subst h;exact .inr ⟨(w,d),by simp,rfl⟩
    ·exact .inr ⟨t,by simp [h],rfl⟩
  ·split at h
   ·split at h
    ·exact .inr ⟨t,h,rfl⟩
    ·rcases List.mem_cons.1 h with h | h
     ·subst h;exact .inl rfl
     ·exact .inr ⟨t,h,rfl⟩
   ·rcases List.mem_cons.1 h with h | h
    ·subst h;exact .inr ⟨(w,d),by simp,rfl⟩
    ·rcases ih h with h | ⟨u,hu,he⟩
     ·exact .inl h
     ·exact .inr ⟨u,by simp [hu],he⟩
theorem addT_can:∀ {ts:List Tm} {v:Nat} {c:Rat},CanT ts→CanT (addT ts v c)
 | [],v,c,_=>by
  unfold addT
  split
  ·trivial
  ·rename_i h;exact ⟨h,fun t ht=>by simp at ht,trivial⟩
 | (w,d) :: ts,v,c,h=>by
  obtain ⟨h1,h2,h3⟩:=h
  unfold addT
  split
  ·split
   ·exact h3
   ·rename_i h4;exact ⟨h4,h2,h3⟩
  ·split
   ·rename_i h4
    split
    ·exact ⟨h1,h2,h3⟩
    ·rename_i h5
     refine ⟨h5,fun t ht=>?_,h1,h2,h3⟩
     rcases List.mem_cons.1 ht with ht | ht
     ·subst ht;exact h4
     ·exact Nat.lt_trans h4 (h2 t ht)
   ·refine ⟨h1,fun t ht=>?_,addT_can h3⟩
    rcases addT_mem ht with ht | ⟨u,hu,he⟩
    ·omega
    ·rw [← he];exact h2 u hu
theorem co_addT:∀ {ts:List Tm} {v:Nat} {c:Rat},CanT ts→∀ x,co (addT ts v c) x = co ts x + if x = v then c else 0
 | [],v,c,_,x=>by
  unfold addT
  by_cases h:c = 0
  ·rw [if_pos h]
   subst h
   simp [co];grind
  ·rw [if_neg h]
   by_cases e:x = v
   ·subst e;simp [co];grind
   ·rw [if_neg e];unfold co;rw [if_neg (fun e'=>e e'.symm)];simp [co];grind
 | (w,d) :: ts,v,c,h,x=>by
  obtain ⟨h1,h2,h3⟩:=h
  unfold addT
  by_cases e1:w = v
  ·subst e1
   rw [if_pos rfl]
   by_cases e2:d + c = 0
   ·rw [if_pos e2]
    by_cases e3:x = w
    ·subst e3
     rw [if_pos rfl,co_none h2]
     unfold co
     rw [if_pos rfl,e2]
    ·rw [if_neg e3]
     show co ts x = (if w = x then d else co ts x) + 0
     rw [if_neg (fun e=>e3 e.symm)];grind
   ·rw [if_neg e2]
    by_cases e3:x = w
    ·subst e3
     unfold co
     rw [if_pos rfl,if_pos rfl,if_pos rfl]
    ·rw [if_neg e3]
     unfold co
     rw [if_neg (fun e=>e3 e.symm),if_neg (fun e=>e3 e.symm)];grind
  ·rw [if_neg e1]
   by_cases e2:v < w
   ·rw [if_pos e2]
    by_cases e3:c = 0
    ·rw [if_pos e3]
     subst e3
     simp;grind
    ·rw [if_neg e3]
     by_cases e4:x = v
     ·subst e4
      rw [if_pos rfl,co_none (ts:=(w,d) :: ts) (fun t ht=>by
       rcases List.mem_cons.1 ht with ht | ht
       ·subst ht;exact e2
       ·exact Nat.lt_trans e2 (h2 t ht))]
      show (if x = x then c else _) = _
      rw [if_pos rfl];grind
     ·rw [if_neg e4]
      show (if v = x then c else co ((w,d) :: ts) x) = _
      rw [if_neg (fun e=>e4 e.symm)];grind
   ·rw [if_neg e2]
    show (if w = x then d else co (addT ts v c) x) = (if w = x then d else co ts x) + _
    by_cases e3:w = x
    ·subst e3
     rw [if_pos rfl,if_pos rfl,if_neg e1];grind
    ·rw [if_neg e3,if_neg e3]
     exact co_addT h3 x
theorem CanT.get:∀ {ts:List Tm} {i:Nat} {x:Tm},CanT ts→ts[i]? = some x→x.2≠0∧(∀ t∈ts.drop (i + 1),x.1 < t.1)∧∀ t∈ts.take i,t.1 < x.1
 | [],i,x,_,h=>by simp at h
 | (w,d) :: ts,0,x,hc,h=>by
  simp at h
  subst h
  exact ⟨hc.1,by simpa using hc.2.1,by simp⟩
 | (w,d) :: ts,i + 1,x,hc,h=>by
  obtain ⟨h1,h2,h3⟩:=hc
  have hx:ts[i]? = some x:=by simpa using h
  obtain ⟨q1,q2,q3⟩:=h3.get hx
  refine ⟨q1,by simpa using q2,fun t ht=>?_⟩
  rw [List.take_succ_cons] at ht
  rcases List.mem_cons.1 ht with ht | ht
  ·subst ht;exact h2 x (List.mem_of_getElem? hx)
  ·exact q3 t ht
theorem CanT.prev {ts:List Tm} {i:Nat} {x y:Tm} (h:CanT ts) (hi:0 < i) (hx:ts[i]? = some x) (hy:ts[i - 1]? = some y):y.1 < x.1:=by
 refine (h.get hx).2.2 y ?_
 rw [List.mem_take_iff_getElem]
 obtain ⟨h1,h2⟩:=List.getElem?_eq_some_iff.1 hy
 exact ⟨i - 1,by omega,h2⟩
def PlI (ts:List Tm) (v:Nat) (c:Rat) (i:Nat) (out:List Tm) (done:Bool):Prop:=
 if done = true then out ++ ts.drop i = addT ts v c∧∀ t∈ts.drop i,v < t.1 else out = ts.take i∧∀ t∈ts.take i,t.1 < v
theorem drop_get {α:Type} {l:List α} {i:Nat} {x:α} (h:l[i]? = some x):l.drop i = x :: l.drop (i + 1):=by
 obtain ⟨h1,h2⟩:=List.getElem?_eq_some_iff.1 h
 rw [List.drop_eq_getElem_cons h1,h2]
theorem addT_far {w v:Nat} {d c:Rat} {ts:List Tm} (h:w < v):addT ((w,d) :: ts) v c = (w,d) :: addT ts v c:=by
 show (if w = v then _ else if v < w then _ else _) = _
 rw [if_neg (show ¬ w = v by omega),if_neg (show ¬ v < w by omega)]
theorem addT_ins {w v:Nat} {d c:Rat} {ts:List Tm} (h:v < w):addT ((w,d) :: ts) v c = if c = 0 then (w,d) :: ts else (v,c) :: (w,d) :: ts:=by
 show (if w = v then _ else if v < w then _ else _) = _
 rw [if_neg (show ¬ w = v by omega),if_pos h]
theorem addT_eq {w:Nat} {d c:Rat} {ts:List Tm}:addT ((w,d) :: ts) w c = if d + c = 0 then ts else (w,d + c) :: ts:=by
 show (if w = w then _ else _) = _
 rw [if_pos rfl]
theorem addT_lt:∀ {a b:List Tm} {v:Nat} {c:Rat},(∀ t∈a,t.1 < v)→addT (a ++ b) v c = a ++ addT b v c
 | [],b,v,c,_=>rfl
 | (w,d) :: a,b,v,c,h=>by
  have h1:w < v:=h (w,d) (by simp)
  show addT ((w,d) :: (a ++ b)) v c = (w,d) :: (a ++ addT b v c)
  rw [addT_far h1,addT_lt fun t ht=>h t (by simp [ht])]
theorem PlI.start (ts:List Tm) (v:Nat) (c:Rat):PlI ts v c 0 [] false:=by
 unfold PlI
 rw [if_neg (by decide)]
 exact ⟨by simp,by simp⟩
theorem PlI.eq {ts:List Tm} {v i:Nat} {c:Rat} {out:List Tm} {done:Bool} {x:Tm} (hc:CanT ts) (h:PlI ts v c i out done) (hx:ts[i]? = some x) (e:x.1 = v):PlI ts v c (i + 1) (nz out (x.1,x.2 + c)) true:=by
 cases hd:done with
 | true=>
  subst hd
  unfold PlI at h
  rw [if_pos rfl] at h
  have:=h.2 x (by rw [drop_get hx];simp)
  omega
 | false=>
  subst hd
  unfold PlI at h ⊢
  rw [if_neg (by decide)] at h
  rw [if_pos rfl]
  obtain ⟨h1,h2⟩:=h
  subst e
  refine ⟨?_,(hc.get hx).2.1⟩
  have h3:ts = ts.take i ++ x :: ts.drop (i + 1):=by rw [← drop_get hx,List.take_append_drop]
  rw [show addT ts x.1 c = ts.take i ++ addT (x :: ts.drop (i + 1)) x.1 c from by
   conv=>lhs;rw [h3]
   exact addT_lt h2]
  obtain ⟨w,d⟩:=x
  rw [addT_eq,h1]
  by_cases e0:d + c = 0
  ·rw [if_pos e0,nz_pos e0]
  ·rw [if_neg e0,nz_neg e0];simp
theorem PlI.ins {ts:List Tm} {v i:Nat} {c:Rat} {out:List Tm} {x:Tm} (hc:CanT ts) (h:PlI ts v c i out false) (hx:ts[i]? = some x) (e:v < x.1):PlI ts v c (i + 1) (nz (nz out (v,c)) (x.1,x.2)) true:=by
 unfold PlI at h ⊢
 rw [if_neg (by decide)] at h
 rw [if_pos rfl]
 obtain ⟨h1,h2⟩:=h
 obtain ⟨q1,q2,q3⟩:=hc.get hx
 refine ⟨?_,fun t ht=>Nat.lt_trans e (q2 t ht)⟩
 have h3:ts = ts.take i ++ x :: ts.drop (i + 1):=by rw [← drop_get hx,List.take_append_drop]
 rw [show addT ts v c = ts.take i ++ addT (x :: ts.drop (i + 1)) v c from by
  conv=>lhs;rw [h3]
  exact addT_lt h2]
 obtain ⟨w,d⟩:=x
 have q1:d≠0:=q1
 rw [addT_ins e,nz_neg q1,h1]
 by_cases e0:c = 0
 ·rw [if_pos e0,nz_pos e0];simp
 ·rw [if_neg e0,nz_neg e0];simp
theorem PlI.less {ts:List Tm} {v i:Nat} {c:Rat} {out:List Tm} {x:Tm} (hc:CanT ts) (h:PlI ts v c i out false) (hx:ts[i]? = some x) (e:x.1 < v):PlI ts v c (i + 1) (nz out (x.1,x.2)) false:=by
 unfold PlI at h ⊢
 rw [if_neg (by decide)] at h ⊢
 obtain ⟨h1,h2⟩:=h
 obtain ⟨q1,q2,q3⟩:=hc.get hx
 rw [take_snoc hx,nz_neg q1,h1]
 refine ⟨rfl,fun t ht=>?_⟩
 rcases List.mem_append.1 ht with ht | ht
 ·exact h2 t ht
 ·simp at ht;subst ht;exact e
theorem PlI.rest {ts:List Tm} {v i:Nat} {c:Rat} {out:List Tm} {x:Tm} (hc:CanT ts) (h:PlI ts v c i out true) (hx:ts[i]? = some x):PlI ts v c (i + 1) (nz out (x.1,x.2)) true:=by
 unfold PlI at h ⊢
 rw [if_pos rfl] at h ⊢
 obtain ⟨h1,h2⟩:=h
 obtain ⟨q1,q2,q3⟩:=hc.get hx
 rw [drop_get hx] at h1 h2
 rw [nz_neg q1]
 exact ⟨by rw [← h1];simp,fun t ht=>h2 t (by simp [ht])⟩
theorem PlI.fin_t {ts:List Tm} {v i:Nat} {c:Rat} {out:List Tm} (h:PlI ts v c i out true) (hi:ts.length≤i):out = addT ts v c:=by
 unfold PlI at h
 rw [if_pos rfl,List.drop_of_length_le hi] at h
 simpa using h.1
theorem PlI.fin_f {ts:List Tm} {v i:Nat} {c:Rat} {out:List Tm} (h:PlI ts v c i out false) (hi:ts.length≤i):nz out (v,c) = addT ts v c:=by
 unfold PlI at h
 rw [if_neg (by decide),List.take_of_length_le hi] at h
 obtain ⟨h1,h2⟩:=h
 subst h1
 rw [show addT out v c = addT (out ++ []) v c from by rw [List.append_nil],addT_lt h2]
 show nz out (v,c) = out ++ (if c = 0 then [] else [(v,c)])
 by_cases e0:c = 0
 ·rw [if_pos e0,nz_pos e0];simp
 ·rw [if_neg e0,nz_neg e0]
theorem take_all {ts:List Tm} {i n:Nat} {x:Tm} (h:ts[i]? = some x) (ha:∀ t∈ts.take i,t.1 < n) (hx:x.1 < n):∀ t∈ts.take (i + 1),t.1 < n:=by
 rw [take_snoc h]
 intro t ht
 rcases List.mem_append.1 ht with ht | ht
 ·exact ha t ht
 ·simp at ht;subst ht;exact hx
theorem bad_var {ts:List Tm} {i n:Nat} {x:Tm} (h:ts[i]? = some x) (hx:n≤x.1):decide (∀ t∈ts,t.1 < n) = false:=by
 refine decide_eq_false fun ha=>?_
 have:=ha x (List.mem_of_getElem? h)
 omega
theorem af0 (ts:List Tm):afV ⟨ts,0⟩ = V.agg [tmE.row ts,Leaf.val (.bool false),nilL,nilL]:=by
 show V.agg [tmE.row ts,Leaf.val (.bool (cneg 0)),natL (limbs (cnum 0)),natL (limbs (cden 0))] = _
 rw [cnum_zero,cden_zero,limbs_zero]
 rfl
def sumT (f g:List Tm):List Tm:=g.foldl (fun a t=>addT a t.1 t.2) f
theorem sumT_snoc (f g:List Tm) (t:Tm):sumT f (g ++ [t]) = addT (sumT f g) t.1 t.2:=by
 unfold sumT
 rw [List.foldl_append]
 rfl
theorem sumT_take {f g:List Tm} {i:Nat} {x:Tm} (h:g[i]? = some x):sumT f (g.take (i + 1)) = addT (sumT f (g.take i)) x.1 x.2:=by
 rw [take_snoc h,sumT_snoc]
theorem sumT_can:∀ {g f:List Tm},CanT f→CanT (sumT f g)
 | [],f,h=>h
 | t :: g,f,h=>sumT_can (g:=g) (addT_can (v:=t.1) (c:=t.2) h)
theorem co_sumT:∀ {g f:List Tm},CanT f→CanT g→∀ x,co (sumT f g) x = co f x + co g x
 | [],f,_,_,x=>by show co f x = co f x + 0;grind
 | (w,d) :: g,f,hf,hg,x=>by
  show co (sumT (addT f w d) g) x = _
  rw [co_sumT (addT_can hf) hg.2.2 x,co_addT hf x]
  show _ = co f x + (if w = x then d else co g x)
  by_cases e:x = w
  ·subst e
   rw [if_pos rfl,if_pos rfl,co_none hg.2.1];grind
  ·rw [if_neg e,if_neg (fun h=>e h.symm)];grind
theorem canT_take:∀ {l:List Tm} {i:Nat},CanT l→CanT (l.take i)
 | [],i,_=>by simp [CanT]
 | (w,d) :: l,0,_=>trivial
 | (w,d) :: l,i + 1,h=>⟨h.1,fun t ht=>h.2.1 t (List.mem_of_mem_take ht),canT_take h.2.2⟩
theorem mem_co:∀ {l:List Tm} {t:Tm},CanT l→t∈l→co l t.1 = t.2
 | (w,d) :: l,t,h,ht=>by
  rcases List.mem_cons.1 ht with ht | ht
  ·subst ht
   show (if w = w then d else _) = d
   rw [if_pos rfl]
  ·have:=h.2.1 t ht
   show (if w = t.1 then d else co l t.1) = t.2
   rw [if_neg (by omega)]
   exact mem_co h.2.2 ht
theorem co_bd {l:List Tm} {B:Nat} (h:∀ t∈l,Br t.2 B) (x:Nat):Br (co l x) B:=by
 induction l with
 | nil=>exact Br.zero.mono (Nat.zero_le _)
 | cons t l ih=>
  obtain ⟨w,d⟩:=t
  show Br (if w = x then d else co l x) B
  split
  ·exact h (w,d) (by simp)
  ·exact ih fun u hu=>h u (by simp [hu])
theorem sumT_bd {f g:List Tm} {B C:Nat} (hf:CanT f) (hg:CanT g) (h1:∀ t∈f,Br t.2 B) (h2:∀ t∈g,Br t.2 C):∀ t∈sumT f g,Br t.2 (B + C + 1):=by
 intro t ht
 rw [← mem_co (sumT_can hf) ht,co_sumT hf hg]
 haveI:=co_bd h1 t.1
 haveI:=co_bd h2 t.1
 exact Br.add
theorem addT_len (ts:List Tm) (v:Nat) (c:Rat):(addT ts v c).length≤ts.length + 1:=by
 induction ts with
 | nil=>unfold addT;split <;> simp
 | cons t ts ih=>
  obtain ⟨w,d⟩:=t
  unfold addT
  split
  ·split <;> simp;omega
  ·split
   ·split <;> simp
   ·simp only [List.length_cons];omega
theorem sumT_len:∀ (g f:List Tm),(sumT f g).length≤f.length + g.length
 | [],f=>by show f.length≤_;simp
 | t :: g,f=>by
  have h1:=sumT_len g (addT f t.1 t.2)
  have h2:=addT_len f t.1 t.2
  show (sumT (addT f t.1 t.2) g).length≤_
  simp only [List.length_cons]
  omega
theorem sumT_var {n:Nat}:∀ {g f:List Tm},(∀ t∈f,t.1 < n)→(∀ t∈g,t.1 < n)→∀ t∈sumT f g,t.1 < n
 | [],f,h1,_=>h1
 | u :: g,f,h1,h2=>by
  refine sumT_var (g:=g) (f:=addT f u.1 u.2) (fun t ht=>?_) (fun t ht=>h2 t (by simp [ht]))
  rcases addT_mem ht with h | ⟨w,hw,he⟩
  ·rw [h];exact h2 u (by simp)
  ·rw [← he];exact h1 w hw
def scR (c:Rat):List Tm→List Tm
 | []=>[]
 | t :: ts=>if t.2 * c = 0 then scR c ts else (t.1,t.2 * c) :: scR c ts
theorem scT_eq (ts:List Tm) (c:Rat):scT ts c = scR c ts:=by
 have:∀ (ts out:List Tm),ts.foldl (fun out t=>nz out (t.1,t.2 * c)) out = out ++ scR c ts:=by
  intro ts
  induction ts with
  | nil=>intro out;simp [scR]
  | cons t ts ih=>
   intro out
   rw [List.foldl_cons,ih]
   show nz out (t.1,t.2 * c) ++ scR c ts = out ++ (if t.2 * c = 0 then scR c ts else (t.1,t.2 * c) :: scR c ts)
   by_cases e:t.2 * c = 0
   ·rw [nz_pos e,if_pos e]
   ·rw [nz_neg e,if_neg e];simp
 have:=this ts []
 simpa [scT] using this
theorem scR_mem {c:Rat}:∀ {ts:List Tm} {t:Tm},t∈scR c ts→∃ u∈ts,u.1 = t.1∧t.2 = u.2 * c∧t.2≠0
 | u :: ts,t,h=>by
  unfold scR at h
  split at h
  ·obtain ⟨w,h1,h2⟩:=scR_mem h
   exact ⟨w,by simp [h1],h2⟩
  ·rename_i h0
   rcases List.mem_cons.1 h with h | h
   ·subst h;exact ⟨u,by simp,rfl,rfl,h0⟩
   ·obtain ⟨w,h1,h2⟩:=scR_mem h
    exact ⟨w,by simp [h1],h2⟩
theorem scR_can {c:Rat}:∀ {ts:List Tm},CanT ts→CanT (scR c ts)
 | [],_=>trivial
 | (w,d) :: ts,h=>by
  unfold scR
  split
  ·exact scR_can h.2.2
  ·rename_i h0
   refine ⟨h0,fun t ht=>?_,scR_can h.2.2⟩
   obtain ⟨u,h1,h2,_⟩:=scR_mem ht
   rw [← h2];exact h.2.1 u h1
theorem co_scR {c:Rat}:∀ {ts:List Tm},CanT ts→∀ x,co (scR c ts) x = co ts x * c
 | [],_,x=>by show (0:Rat) = 0 * c;grind
 | (w,d) :: ts,h,x=>by
  unfold scR
  by_cases e:w = x
  ·subst e
   show _ = (if w = w then d else _) * c
   rw [if_pos rfl]
   split
   ·rename_i h0
    rw [co_scR h.2.2,co_none h.2.1]
    have h0:d * c = 0:=h0
    rw [h0];grind
   ·show (if w = w then _ else _) = _
    rw [if_pos rfl]
  ·show _ = (if w = x then d else co ts x) * c
   rw [if_neg e]
   split
   ·exact co_scR h.2.2 x
   ·show (if w = x then _ else _) = _
    rw [if_neg e];exact co_scR h.2.2 x
class Fm (ts:List Tm) (B n:outParam Nat):Prop where
 can:CanT ts
 bd:∀ t∈ts,Br t.2 B
 len:ts.length≤n
 var:∀ t∈ts,t.1 < 1000000
instance Fm.nil:Fm [] 0 0:=⟨trivial,fun t h=>by simp at h,Nat.le_refl _,fun t h=>by simp at h⟩
instance Fm.sum {f g:List Tm} {B n C m:Nat} [hf:Fm f B n] [hg:Fm g C m]:Fm (sumT f g) (B + C + 1) (n + m):=
 ⟨sumT_can hf.can,sumT_bd hf.can hg.can hf.bd hg.bd,by have:=sumT_len g f;have:=hf.len;have:=hg.len;omega,sumT_var hf.var hg.var⟩
instance Fm.sc {f:List Tm} {c:Rat} {B n C:Nat} [hf:Fm f B n] [hc:Br c C]:Fm (scT f c) (B + C + 1) n:=by
 rw [scT_eq]
 refine ⟨scR_can hf.can,fun t ht=>?_,?_,fun t ht=>?_⟩
 ·obtain ⟨u,h1,h2,h3,_⟩:=scR_mem ht
  rw [h3]
  haveI:=hf.bd u h1
  exact Br.mul
 ·rw [← scT_eq];exact Nat.le_trans (scT_len _ _) hf.len
 ·obtain ⟨u,h1,h2,_⟩:=scR_mem ht
  rw [← h2];exact hf.var u h1
theorem Fm.one {v:Nat} {c:Rat} {B:Nat} (hv:v < 1000000) (hc:c≠0) [hb:Br c B]:Fm [(v,c)] B 1:=
 ⟨⟨hc,fun t h=>by simp at h,trivial⟩,fun t h=>by simp at h;subst h;exact hb,Nat.le_refl _,fun t h=>by simp at h;subst h;exact hv⟩
theorem Fm.mono {f:List Tm} {B C n m:Nat} (h:Fm f B n) (h1:B≤C) (h2:n≤m):Fm f C m:=⟨h.can,fun t ht=>(h.bd t ht).mono h1,Nat.le_trans h.len h2,h.var⟩
theorem takeA {l:List Af} {i n:Nat} {x:Af} (h:l[i]? = some x) (ha:∀ f∈l.take i,∀ t∈f.ts,t.1 < n) (hx:∀ t∈x.ts,t.1 < n):∀ f∈l.take (i + 1),∀ t∈f.ts,t.1 < n:=by
 rw [take_snoc h]
 intro f hf
 rcases List.mem_append.1 hf with hf | hf
 ·exact ha f hf
 ·rw [List.mem_singleton.1 hf];exact hx
theorem badA {l:List Af} {i n:Nat} {x:Af} (h:l[i]? = some x) (hx:¬ ∀ t∈x.ts,t.1 < n):decide (∀ f∈l,∀ t∈f.ts,t.1 < n) = false:=
 decide_eq_false fun ha=>hx (ha x (List.mem_of_getElem? h))
end Rc
set_option linter.unusedSimpArgs false
set_option linter.unusedVariables false
namespace Go.Proofs.YtmpkandbccallaaGreatDoor
open Go Go.RowKit Rc
set_option maxRecDepth 10000 in
theorem trim_spec (l:List Nat) (hs:Small l):Ctr Tryz.prog 161 [V.one (natL l)] (R.one (V.one (natL (limbs (val l))))):=by
 refine bd_ Tryz.func161 Tryz.ntmps161 rfl (fun w0 A0=>?_)
 refine zc 1 rfl ?_
 refine Tc_len (s:=0) rfl (fun hm=>?_)
 refine zc 7 rfl (tq_ rfl (jln rfl) (zl 5 rfl (lpR_ (fun m Γ H=>∃ (n:Nat),n = m∧Γ = [(0,some (D.v (V.one (natL l)))),(3,some (D.int n))]∧H = []∧n≤l.length∧∀ i (hi:i < l.length),n≤i→l[i] = 0) ⟨l.length,rfl,rfl,rfl,Nat.le_refl _,fun i hi h=>absurd hi (by omega)⟩ rfl ?_)))
 rintro m Γ H ⟨n,rfl,rfl,rfl,h⟩
 refine zc 4 rfl ?_
 by_cases hp:0 < n
 ·refine tq_ rfl (gtT rfl) (zl 3 rfl (tq_ rfl (jsb (n - 1) rfl) (tq_ rfl (ji1 rfl (get_u32 (by omega))) (tq_ rfl (jli rfl) ?_))))
  by_cases hz:l[n - 1]'(by omega) = 0
  ·refine tq_ rfl (eqT rfl) (zl 9 rfl (tq_ rfl (jsb (n - 1) rfl) (zl 3 rfl ?_)))
   exact nx_ ⟨n - 1,rfl,rfl,rfl,by omega,fun i hi h1=>(if e:i = n - 1 then by subst e;exact hz else h.2 i hi (by omega))⟩ rfl
  ·refine tq_ rfl (eqF rfl) (zl 13 rfl (tq_ rfl (eqF rfl) (zl 9 rfl (tq_ rfl (Jq_slice_hi_nat rfl rfl rfl un25 ty164 (by omega)) (zl 3 rfl ?_)))))
   exact r1_ hq_ rfl (by rw [← limbs_take hs n h.1 h.2 (fun _=>hz)])
 ·refine tq_ rfl (gtF rfl) (zl 20 rfl (tq_ rfl (eqT rfl) (zl 8 rfl ?_)))
  exact r1_ hq_ rfl (by rw [← limbs_take hs n h.1 h.2 (fun h0=>absurd h0 hp),show n = 0 from by omega] <;> rfl)
end Go.Proofs.YtmpkandbccallaaGreatDoor
set_option linter.unusedSimpArgs false
set_option linter.unusedVariables false
namespace Go.Proofs.YtmpkandbccallaaGreatDoor
open Go Go.RowKit Rc
set_option maxRecDepth 10000 in
theorem clone_spec (l:List Nat) (hl:l.length≤10000000000000):Ctr Tryz.prog 192 [V.one (natL l)] (R.one (V.one (natL l))):=by
 refine bd_ Tryz.func192 Tryz.ntmps192 rfl (fun w0 A0=>?_)
 refine zc 9 rfl ?_
 refine Tl_eqnil rfl rfl rfl rfl rfl un25 (fun b1 hb1=>?_)
 refine zl 2 rfl ?_
 refine Tc_cond rfl (fun hc4=>?_) (fun hc4=>?_)
 ·refine zc 5 rfl ?_
  exact r1_ hq_ rfl (by obtain ⟨h1,h2⟩:=hb1 hc4;have:=List.eq_nil_of_length_eq_zero h1;subst this;rfl)
 ·refine zc 4 rfl (Tl_build0 rfl rfl rfl rfl un25 ty164 rfl (zl 1 rfl ?_))
  obtain ⟨ti2,hi2,hz2,hs2,hb2⟩:=in164
  refine Tl_append rfl rfl rfl rfl rfl rfl rfl rfl rfl (by simp) (by simp) (by decide) un25 un25 hi2 hz2 hs2 rfl (by simp only [maxLen];omega) (by rw [hb2];omega) (nm:=l.length) (by simp) (ls:=(l.map u32L)) (by simp) (zl 3 rfl (Tc_share_nat 2 (l) rfl rfl rfl rfl rfl ?_))
  exact r1_ hq_ rfl rfl
set_option maxRecDepth 10000 in
theorem make_spec (l:List Nat) (hs:Small l) (hl:l.length≤10000000000000):Ctr Tryz.prog 157 [V.one (natL l)] (R.one (V.one (natL (limbs (val l))))):=by
 refine bd_ Tryz.func157 Tryz.ntmps157 rfl (fun w0 A0=>?_)
 refine zc 8 rfl (tc_ fn161 rfl (trim_spec l hs) (tc_ fn192 rfl (clone_spec _ (Nat.le_trans (limbs_val_length hs) hl)) (zl 3 rfl ?_)))
 exact r1_ hq_ rfl rfl
set_option maxRecDepth 10000 in
theorem cmp_spec (la lb:List Nat) (hsa:Small la) (hsb:Small lb):Ctr Tryz.prog 146 [V.one (natL la),V.one (natL lb)] (R.one (V.one (Leaf.val (.int .i64 (cmpN (val la) (val lb)))))):=by
 refine bd_ Tryz.func146 Tryz.ntmps146 rfl (fun w0 A0=>?_)
 refine zc 1 rfl ?_
 refine Tc_len (s:=0) rfl (fun hma=>?_)
 refine Tc_len (s:=1) rfl (fun hmb=>?_)
 refine zc 7 rfl (tc_ fn161 rfl (trim_spec la hsa) (zl 1 rfl (tc_ fn161 rfl (trim_spec lb hsb) (zl 6 rfl ?_))))
 have hla:=limbs_val_length hsa;have hlb:=limbs_val_length hsb
 have va:=val_limbs (val la);have vb:=val_limbs (val lb);have sa:=small_limbs (val la);have sb:=small_limbs (val lb)
 have hlt1:(limbs (val la)).length < (limbs (val lb)).length→val la < val lb:=lt_of_length
 have hlt2:(limbs (val lb)).length < (limbs (val la)).length→val lb < val la:=lt_of_length
 generalize limbs (val la) = a at *
 generalize limbs (val lb) = b at *
 refine zc 2 rfl (tq_ rfl (jln rfl) (zl 1 rfl (tq_ rfl (jln rfl) ?_)))
 by_cases hne:a.length≠b.length
 ·refine tq_ rfl (neT rfl) (zl 7 rfl (tq_ rfl (jln rfl) (zl 1 rfl (tq_ rfl (jln rfl) ?_))))
  by_cases hlt:a.length < b.length
  ·refine tq_ rfl (ltT rfl) (zl 8 rfl ?_)
   exact r1_ hq_ rfl (by rw [cmpN_lt (hlt1 hlt)])
  ·refine tq_ rfl (ltF rfl) (zl 10 rfl ?_)
   exact r1_ hq_ rfl (by rw [cmpN_gt (hlt2 (by omega))])
 ·refine tq_ rfl (neF rfl) (zl 9 rfl (tq_ rfl (jln rfl) (tq_ rfl (Jq_sub rfl rfl rfl (r:=(a.length:Int) - 1) (w64 (by omega) (by omega) (by omega))) (zl 4 rfl ?_))))
  refine lpR_ (fun m Γ H=>∃ (n:Nat),n = m∧Γ = [(0,some (D.v (V.one (natL a)))),(1,some (D.v (V.one (natL b)))),(5,some (D.int ((n:Int) - 1)))]∧H = []∧n≤a.length∧a.drop n = b.drop n) ⟨a.length,rfl,rfl,rfl,Nat.le_refl _,by rw [List.drop_of_length_le (Nat.le_refl _),List.drop_of_length_le (by omega)]⟩ rfl ?_
  rintro m Γ H ⟨n,rfl,rfl,rfl,h⟩
  refine zc 4 rfl ?_
  by_cases hp:0 < n
  ·refine tq_ rfl (geT rfl) (zl 8 rfl ?_)
   by_cases hz:a[n - 1]'(by omega) = b[n - 1]'(by omega)
   ·refine dr_ 0 [] [] (dz 2 rfl (kq_ rfl (ji1 rfl (get_u32i (n - 1) (by omega) (by omega))) (kq_ rfl (jli rfl) (dz 2 rfl (kq_ rfl (ji1 rfl (get_u32i (n - 1) (by omega) (by omega))) (kq_ rfl (jli rfl) (kq_ rfl (neF rfl) (DK_nil (za 7 rfl ?_)))))))))
    refine tq_ rfl (Jq_sub rfl rfl rfl (r:=((n - 1:Nat):Int) - 1) (w64 (by omega) (by omega) (by omega))) (zl 2 rfl ?_)
    exact nx_ ⟨n - 1,rfl,rfl,rfl,by omega,drop_succ_eq (by omega) (by omega) (by rw [show n - 1 + 1 = n from by omega];exact h.2) hz⟩ rfl
   ·refine dr_ 0 [] [] (dz 2 rfl (kq_ rfl (ji1 rfl (get_u32i (n - 1) (by omega) (by omega))) (kq_ rfl (jli rfl) (dz 2 rfl (kq_ rfl (ji1 rfl (get_u32i (n - 1) (by omega) (by omega))) (kq_ rfl (jli rfl) (kq_ rfl (neT rfl) (DK_nil (za 4 rfl ?_)))))))))
    by_cases hy:a[n - 1]'(by omega) < b[n - 1]'(by omega)
    ·refine dr_ 0 [] [] (dz 2 rfl (kq_ rfl (ji1 rfl (get_u32i (n - 1) (by omega) (by omega))) (kq_ rfl (jli rfl) (dz 2 rfl (kq_ rfl (ji1 rfl (get_u32i (n - 1) (by omega) (by omega))) (kq_ rfl (jli rfl) (kq_ rfl (ltT rfl) (DK_nil (za 7 rfl ?_)))))))))
     exact r1_ hq_ rfl (by rw [cmpN_lt (by rw [← va,← vb];exact cmp_at (n:=n - 1) sa (by omega) (by omega) (by rw [show n - 1 + 1 = n from by omega];exact h.2) hy)])
    ·refine dr_ 0 [] [] (dz 2 rfl (kq_ rfl (ji1 rfl (get_u32i (n - 1) (by omega) (by omega))) (kq_ rfl (jli rfl) (dz 2 rfl (kq_ rfl (ji1 rfl (get_u32i (n - 1) (by omega) (by omega))) (kq_ rfl (jli rfl) (kq_ rfl (ltF rfl) (DK_nil (za 9 rfl ?_)))))))))
     exact r1_ hq_ rfl (by rw [cmpN_gt (by rw [← va,← vb];exact cmp_at (n:=n - 1) sb (by omega) (by omega) (by rw [show n - 1 + 1 = n from by omega];exact h.2.symm) (by omega))])
  ·refine tq_ rfl (geF rfl) (zl 13 rfl ?_)
   exact r1_ hq_ rfl (by rw [cmpN_eq (by rw [← va,← vb];have h2:=h.2;rw [show n = 0 from by omega] at h2;rw [show a = b from h2])])
set_option maxRecDepth 10000 in
theorem of_spec (x:Nat) (hx:x < 18446744073709551616):Ctr Tryz.prog 183 [V.one (Leaf.val (.int .u64 x))] (R.one (V.one (natL (limbs x)))):=by
 refine bd_ Tryz.func183 Tryz.ntmps183 rfl (fun w0 A0=>?_)
 refine zc 8 rfl (tq_ rfl (jc3 (x % 4294967296) rfl) (zl 1 rfl (tq_ rfl (Jq_shr rfl rfl rfl (by decide) (r:=((x / 4294967296:Nat):Int)) (shr_nat x 32 rfl)) (tq_ rfl (jc3 (x / 4294967296) rfl) (te_ rfl (Je_buildSlice rfl un25 ty164 tz164 rfl (by decide) (by decide) rfl (by decide) rfl) ?_)))))
 refine tc_ fn161 rfl (trim_spec [x % 4294967296,x / 4294967296] (Small.cons (by omega) (Small.cons (by omega) Small.nil))) (zl 3 rfl ?_)
 exact r1_ hq_ rfl (by rw [show val [x % 4294967296,x / 4294967296] = x from by simp;omega])
end Go.Proofs.YtmpkandbccallaaGreatDoor
