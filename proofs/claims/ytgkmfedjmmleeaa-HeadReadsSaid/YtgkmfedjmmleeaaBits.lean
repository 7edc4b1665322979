/- Bits of int as sums; bytes of a string. No program in sight. -/
import Derived.Test.YtgkmfedjmmleeaaHeadPure
import Derived.WalkKit
import Derived.Laws.BitsAllLaws
namespace Go.Proofs.Ytgkmfedjmmleeaa
open Go.RowKit

theorem ofInt_i64 (a : Nat) (ha : a < 9223372036854775808) : (BitVec.ofInt 64 (a : Int)).toNat = a := by
  rw [BitVec.ofInt_natCast, BitVec.toNat_ofNat]; exact Nat.mod_eq_of_lt (by omega)
theorem i64_or_nat (a b : Nat) (ha : a < 9223372036854775808) (hb : b < 9223372036854775808) : bits .or .i64 (a : Int) (b : Int) = ((a ||| b : Nat) : Int) := by
  have hx : a ||| b < 2 ^ 63 := Nat.or_lt_two_pow (by omega) (by omega)
  show IntKind.i64.wrap ((BitVec.ofInt 64 (a : Int) ||| BitVec.ofInt 64 (b : Int)).toNat : Int) = _
  rw [BitVec.toNat_or, ofInt_i64 a ha, ofInt_i64 b hb, IntKind.wrap_i64]
  omega
theorem i64_and_nat (a b : Nat) (ha : a < 9223372036854775808) (hb : b < 9223372036854775808) : bits .and .i64 (a : Int) (b : Int) = ((a &&& b : Nat) : Int) := by
  have hx : a &&& b < 2 ^ 63 := Nat.and_lt_two_pow _ (by omega)
  show IntKind.i64.wrap ((BitVec.ofInt 64 (a : Int) &&& BitVec.ofInt 64 (b : Int)).toNat : Int) = _
  rw [BitVec.toNat_and, ofInt_i64 a ha, ofInt_i64 b hb, IntKind.wrap_i64]
  omega
theorem i64_or_add (k a b : Nat) (hb : b < 2 ^ k) (ha : 2 ^ k * a + b < 9223372036854775808) : bits .or .i64 ((2 ^ k * a : Nat) : Int) (b : Int) = ((2 ^ k * a + b : Nat) : Int) := by
  rw [i64_or_nat _ _ (by omega) (by omega), ← Nat.two_pow_add_eq_or_of_lt hb]

theorem or4 (a b c d : Nat) (ha : a < 256) (hb : b < 256) (hc : c < 256) (hd : d < 256) :
    bits .or .i64 (bits .or .i64 (bits .or .i64 (wrap64 (wrap64 (a : Int) * 16777216)) (wrap64 (wrap64 (b : Int) * 65536))) (wrap64 (wrap64 (c : Int) * 256))) (wrap64 (d : Int)) = (a : Int) * 16777216 + (b : Int) * 65536 + (c : Int) * 256 + (d : Int) := by
  have e1 : wrap64 (wrap64 (a : Int) * 16777216) = ((2 ^ 24 * a : Nat) : Int) := by unfold wrap64; omega
  have e2 : wrap64 (wrap64 (b : Int) * 65536) = ((2 ^ 16 * b : Nat) : Int) := by unfold wrap64; omega
  have e3 : wrap64 (wrap64 (c : Int) * 256) = ((2 ^ 8 * c : Nat) : Int) := by unfold wrap64; omega
  have e4 : wrap64 (d : Int) = (d : Int) := by unfold wrap64; omega
  rw [e1, e2, e3, e4]
  rw [i64_or_add 24 a (2 ^ 16 * b) (by omega) (by omega)]
  rw [show (2 ^ 24 * a + 2 ^ 16 * b : Nat) = 2 ^ 16 * (2 ^ 8 * a + b) by omega]
  rw [i64_or_add 16 (2 ^ 8 * a + b) (2 ^ 8 * c) (by omega) (by omega)]
  rw [show (2 ^ 16 * (2 ^ 8 * a + b) + 2 ^ 8 * c : Nat) = 2 ^ 8 * (2 ^ 16 * a + 2 ^ 8 * b + c) by omega]
  rw [i64_or_add 8 _ d (by omega) (by omega)]
  omega

theorem getD_data (s : ByteArray) (i : Nat) (h : i < s.size) : s.data.getD i 0 = s[i] := by
  have h' : i < s.data.size := h
  show (if _ : i < s.data.size then s.data[i] else 0) = s[i]
  rw [dif_pos h']
  rfl
theorem wrap_byte (c : UInt8) : IntKind.i64.wrap (c.toNat : Int) = (c.toNat : Int) := by
  rw [IntKind.wrap_i64]; have := c.toNat_lt; omega
theorem byte_lt (c : UInt8) : c.toNat < 256 := c.toNat_lt
theorem byteAt_eq (s : ByteArray) (i : Nat) (h : i < s.size) : byteAt s i = (s[i].toNat : Int) := by
  unfold byteAt
  rw [getD_data s i h]
theorem byteAt_range (s : ByteArray) (i : Nat) : 0 ≤ byteAt s i ∧ byteAt s i ≤ 255 := by
  unfold byteAt
  have := byte_lt (s.data.getD i 0)
  omega
theorem big4_eq (s : ByteArray) (i : Nat) : big4 s i = byteAt s i * 16777216 + byteAt s (i + 1) * 65536 + byteAt s (i + 2) * 256 + byteAt s (i + 3) := rfl
theorem byteAt_extract (s : ByteArray) (a i : Nat) (h : a + i < s.size) : byteAt (s.extract a s.size) i = byteAt s (a + i) := by
  unfold byteAt
  congr 2
  simp only [Array.getD_eq_getD_getElem?, ByteArray.data_extract]
  have hd : s.data.size = s.size := rfl
  rw [Array.getElem?_extract_of_lt (by omega), Array.getElem?_eq_getElem (by omega)]

end Go.Proofs.Ytgkmfedjmmleeaa
