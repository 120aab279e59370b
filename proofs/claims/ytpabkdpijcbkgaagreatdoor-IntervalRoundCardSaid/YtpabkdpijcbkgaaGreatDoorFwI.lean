/- Numbers of fixed width: or, shifts. -/
import Derived.Test.YtpabkdpijcbkgaaGreatDoorFwH
import Derived.Test.YtpabkdpijcbkgaaGreatDoorNatM
namespace Rc
open Go

theorem or_add {a b : Nat} (i : Nat) (ha : a % 2 ^ i = 0) (hb : b < 2 ^ i) : a ||| b = a + b := by
  have h : a = (a / 2 ^ i) <<< i := by
    rw [Nat.shiftLeft_eq]
    have := Nat.div_add_mod a (2 ^ i)
    rw [ha, Nat.add_zero] at this
    rw [Nat.mul_comm]; exact this.symm
  rw [h, ← Nat.shiftLeft_add_eq_or_of_lt hb]
theorem ofInt_nat (w n : Nat) (h : n < 2 ^ w) : (BitVec.ofInt w (n : Int)).toNat = n := by
  rw [show (BitVec.ofInt w (n : Int)) = BitVec.ofNat w n from by
    apply BitVec.eq_of_toNat_eq
    rw [BitVec.toNat_ofInt, BitVec.toNat_ofNat]
    have : ((n : Int) % ((2 ^ w : Nat) : Int)) = ((n % 2 ^ w : Nat) : Int) := by rw [Int.natCast_emod]
    rw [this]; rfl]
  rw [BitVec.toNat_ofNat, Nat.mod_eq_of_lt h]
theorem wrap_nat_u64 {n : Nat} (h : n < 18446744073709551616) : IntKind.u64.wrap (n : Int) = n := wu64 (by omega)
theorem wrap_nat_u32 {n : Nat} (h : n < 4294967296) : IntKind.u32.wrap (n : Int) = n := wu32 (by omega)
/-- a | b where a is a multiple of 2^i and b is less. -/
theorem or64 {a b : Nat} (i : Nat) (ha : a % 2 ^ i = 0) (hb : b < 2 ^ i) (h : a + b < 18446744073709551616) :
    IntKind.u64.wrap ((BitVec.ofInt IntKind.u64.bits (a : Int) ||| BitVec.ofInt IntKind.u64.bits (b : Int)).toNat) = ((a + b : Nat) : Int) := by
  rw [BitVec.toNat_or, ofInt_nat _ a (by simp only [IntKind.bits]; omega), ofInt_nat _ b (by simp only [IntKind.bits]; omega), or_add i ha hb]
  exact wrap_nat_u64 h
theorem or64' {a b : Nat} (i : Nat) (ha : a % 2 ^ i = 0) (hb : b < 2 ^ i) (h : a + b < 18446744073709551616) :
    IntKind.u64.wrap ((BitVec.ofInt IntKind.u64.bits (b : Int) ||| BitVec.ofInt IntKind.u64.bits (a : Int)).toNat) = ((b + a : Nat) : Int) := by
  rw [BitVec.toNat_or, ofInt_nat _ a (by simp only [IntKind.bits]; omega), ofInt_nat _ b (by simp only [IntKind.bits]; omega), Nat.or_comm, or_add i ha hb, Nat.add_comm b a]
  exact wrap_nat_u64 h
theorem or32' {a b : Nat} (i : Nat) (ha : a % 2 ^ i = 0) (hb : b < 2 ^ i) (h : a + b < 4294967296) :
    IntKind.u32.wrap ((BitVec.ofInt IntKind.u32.bits (b : Int) ||| BitVec.ofInt IntKind.u32.bits (a : Int)).toNat) = ((b + a : Nat) : Int) := by
  rw [BitVec.toNat_or, ofInt_nat _ a (by simp only [IntKind.bits]; omega), ofInt_nat _ b (by simp only [IntKind.bits]; omega), Nat.or_comm, or_add i ha hb, Nat.add_comm b a]
  exact wrap_nat_u32 h
/-- x << c in 64 bits, where nothing is lost. -/
theorem shl64 {c : Int} (x c' : Nat) (hc : min c.toNat IntKind.u64.bits = c') (h : x * 2 ^ c' < 18446744073709551616) : IntKind.u64.wrap ((x : Int) * 2 ^ (min c.toNat IntKind.u64.bits)) = ((x * 2 ^ c' : Nat) : Int) := by
  rw [hc, show ((x : Int) * 2 ^ c') = ((x * 2 ^ c' : Nat) : Int) from by rw [Int.natCast_mul, Int.natCast_pow]; rfl]
  exact wrap_nat_u64 h
theorem minbits64 {c : Nat} (h : c ≤ 64) : min ((c : Int)).toNat IntKind.u64.bits = c := by simp only [IntKind.bits]; omega
theorem wu8 {x r : Int} (h : x % 256 = r) : IntKind.u8.wrap x = r := by
  subst h; simp [IntKind.wrap, IntKind.bits, IntKind.signed]
theorem tdivN (a b : Nat) : ((a : Int)).tdiv (b : Int) = ((a / b : Nat) : Int) := by rw [Int.tdiv_eq_ediv_of_nonneg (by omega)]; rfl
theorem tmodN (a b : Nat) : ((a : Int)).tmod (b : Int) = ((a % b : Nat) : Int) := by rw [Int.tmod_eq_emod_of_nonneg (by omega)]; rfl
theorem getElem?_bytes (s : ByteArray) (j : Nat) : s[j]? = s.data.toList[j]? := by
  by_cases h : j < s.size
  · rw [getElem?_pos s j h]
    have h' : j < s.data.toList.length := by simpa using h
    rw [List.getElem?_eq_getElem h']
    rfl
  · rw [getElem?_neg s j h, List.getElem?_eq_none (by simpa using h)]
theorem len8_get {s : ByteArray} (hs : s.data.toList = (List.range 256).map fun i => UInt8.ofNat (bl i)) {x : Nat} (hx : x < 256) : s[x]? = some (UInt8.ofNat (bl x)) := by
  rw [getElem?_bytes, hs]; simp [hx]
theorem len8_val {x : Nat} (hx : x < 256) : ((UInt8.ofNat (bl x)).toNat : Int) = (bl x : Int) := by
  have := bl_le_of_lt (n := x) (k := 8) hx
  rw [UInt8.toNat_ofNat_of_lt' (by simp [UInt8.size]; omega)]
end Rc
