/- Bits of bytes that are turned round, one behind the other. -/
import Derived.Test.YtabegniabilcpaaMark
namespace Go.Proofs.Ytabegniabilcpaa.Mark
open Go.RowKit Go.Proofs.YtabegniabilcpaaW.PrintWords Go.Proofs.YtabegniabilcpaaW.PrintLast

/-- The k-th bit turned round. -/
def flipL (l : List UInt8) (k : Nat) : List UInt8 := l.set (k / 8) (l.getD (k / 8) 0 ^^^ UInt8.ofNat (128 / 2 ^ (k % 8)))
/-- The k-th bit and those behind it, as the n highest bits of a number tell. -/
def turnL : Nat → List UInt8 → Nat → Nat → List UInt8
  | 0, l, _, _ => l
  | n + 1, l, k, b => turnL n (if b / 2147483648 = 1 then flipL l k else l) (k + 1) (b % 2147483648 * 2)
theorem flipL_length (l : List UInt8) (k : Nat) : (flipL l k).length = l.length := by unfold flipL; rw [List.length_set]
theorem turnL_length : ∀ n l k b, (turnL n l k b).length = l.length
  | 0, _, _, _ => rfl
  | n + 1, l, k, b => by
    rw [turnL, turnL_length n]
    split
    · exact flipL_length l k
    · rfl
/-- A byte's bit turned round, as numbers. -/
theorem flip_byte (l : List UInt8) (k j : Nat) : Go.bits .xor .u8 ((l.getD k 0).toNat : Int) ((128 / 2 ^ j : Nat) : Int) = ((l.getD k 0 ^^^ UInt8.ofNat (128 / 2 ^ j)).toNat : Int) := by
  have h1 : (l.getD k 0).toNat < 256 := (l.getD k 0).toNat_lt
  have h2 : 128 / 2 ^ j < 256 := Nat.lt_of_le_of_lt (Nat.div_le_self _ _) (by decide)
  rw [u8_xor_nat _ _ h1 h2, UInt8.toNat_xor, UInt8.toNat_ofNat', Nat.mod_eq_of_lt h2]
theorem half_bit (j : Nat) : 128 / 2 ^ j / 2 = 128 / 2 ^ (j + 1) := by rw [Nat.pow_succ, Nat.div_div_eq_div_mul]
theorem flip_cells (l : List UInt8) (z k m s x y : Nat) (hm : m = k / 8) (hs : s = k % 8) (hx : x = 128 / 2 ^ s) (hy : y = (l.getD m 0).toNat) (hl : m < l.length) : (mcells l z).setIfInBounds m (.int .u8 (Go.bits .xor .u8 (y : Int) (x : Int))) = mcells (flipL l k) z := by
  subst hx hy
  rw [flip_byte, mcells_set l z m _ hl, hm, hs]
  rfl
theorem strOf_toList (l : List UInt8) : (⟨l.toArray⟩ : ByteArray).data.toList = l := rfl
end Go.Proofs.Ytabegniabilcpaa.Mark
