/- A token's sum over 32 bits: one step is a xor and a product by an odd number, so it is one to one in each of its two arguments. No condition but the stated bounds. -/
import Derived.Laws.BitsAllLaws
namespace Go.Proofs.Ytnikhfcjnimbdaa.TokMath
open Go

/-- One step of the sum, as the walk spells it. -/
def mI (s b : Int) : Int := ((bits .xor .u32 s (b % 4294967296)) * 16777619) % 4294967296

theorem ofInt_mod (b : Int) : BitVec.ofInt 32 (b % 4294967296) = BitVec.ofInt 32 b := by
  apply BitVec.eq_of_toNat_eq
  simp only [BitVec.toNat_ofInt]
  omega

theorem mI_eq (s b : Int) : mI s b = (((BitVec.ofInt 32 s ^^^ BitVec.ofInt 32 b) * 16777619#32).toNat : Int) := by
  unfold mI
  have h : bits .xor .u32 s (b % 4294967296) = IntKind.u32.wrap ((BitVec.ofInt 32 s ^^^ BitVec.ofInt 32 (b % 4294967296)).toNat : Int) := rfl
  rw [h, ofInt_mod, IntKind.wrap_u32', BitVec.toNat_mul]
  have e : (16777619#32 : BitVec 32).toNat = 16777619 := rfl
  rw [e]
  omega

theorem mul_cancel {x y : BitVec 32} (h : x * 16777619#32 = y * 16777619#32) : x = y := by
  have e : (16777619#32 : BitVec 32) * 899433627#32 = 1#32 := by decide
  have h2 : x * 16777619#32 * 899433627#32 = y * 16777619#32 * 899433627#32 := by rw [h]
  rwa [BitVec.mul_assoc, BitVec.mul_assoc, e, BitVec.mul_one, BitVec.mul_one] at h2

theorem xor_cancel {s x y : BitVec 32} (h : s ^^^ x = s ^^^ y) : x = y := by
  have h2 : s ^^^ (s ^^^ x) = s ^^^ (s ^^^ y) := by rw [h]
  rwa [← BitVec.xor_assoc, ← BitVec.xor_assoc, BitVec.xor_self, BitVec.zero_xor, BitVec.zero_xor] at h2

theorem ofInt_inj {a b : Int} (ha : 0 ≤ a) (ha' : a < 4294967296) (hb : 0 ≤ b) (hb' : b < 4294967296) (h : BitVec.ofInt 32 a = BitVec.ofInt 32 b) : a = b := by
  have h2 := congrArg BitVec.toNat h
  simp only [BitVec.toNat_ofInt] at h2
  omega

theorem mI_right {s a b : Int} (ha : 0 ≤ a) (ha' : a < 4294967296) (hb : 0 ≤ b) (hb' : b < 4294967296) (h : mI s a = mI s b) : a = b := by
  rw [mI_eq, mI_eq] at h
  exact ofInt_inj ha ha' hb hb' (xor_cancel (mul_cancel (BitVec.eq_of_toNat_eq (Int.ofNat.inj h))))

theorem mI_left {s t a : Int} (hs : 0 ≤ s) (hs' : s < 4294967296) (ht : 0 ≤ t) (ht' : t < 4294967296) (h : mI s a = mI t a) : s = t := by
  rw [mI_eq, mI_eq] at h
  have h2 := mul_cancel (BitVec.eq_of_toNat_eq (Int.ofNat.inj h))
  rw [BitVec.xor_comm, BitVec.xor_comm (BitVec.ofInt 32 t)] at h2
  exact ofInt_inj hs hs' ht ht' (xor_cancel h2)

theorem mI_lo (s b : Int) : 0 ≤ mI s b := by unfold mI; omega
theorem mI_hi (s b : Int) : mI s b < 4294967296 := by unfold mI; omega

end Go.Proofs.Ytnikhfcjnimbdaa.TokMath
