/- Bits of bytes that are turned round, one behind the other. -/
import Derived.Test.YtmaojfeikbdkhaaMark
import Derived.Laws.BitsAllLaws
namespace Go.Proofs.Ytmaojfeikbdkhaa.Mark
open Go.RowKit Go.Proofs.YtmaojfeikbdkhaaW.PrintWords Go.Proofs.YtmaojfeikbdkhaaW.PrintLast

/-- The k-th bit turned round. -/
def flipL (l : List UInt8) (k : Nat) : List UInt8 := l.set (k / 8) (l.getD (k / 8) 0 ^^^ UInt8.ofNat (128 / 2 ^ (k % 8)))
/-- The k-th bit and those behind it, as the n highest bits of a number tell. -/
def turnL : Nat → List UInt8 → Nat → Nat → List UInt8
  | 0, l, _, _ => l
  | n + 1, l, k, b => turnL n (if b / 2147483648 = 1 then flipL l k else l) (k + 1) (b % 2147483648 * 2)
theorem flipL_length (l : List UInt8) (k : Nat) : (flipL l k).length = l.length := by unfold flipL; rw [List.length_set]
theorem turnL_length : ∀ n l k b, (turnL n l k b).length = l.length
  | 0, _, _, _ => rfl
  | n + 1, l, k, b => by
    rw [turnL, turnL_length n]
    split
    · exact flipL_length l k
    · rfl
/-- A byte's bit turned round, as numbers. -/
theorem flip_byte (l : List UInt8) (k j : Nat) : Go.bits .xor .u8 ((l.getD k 0).toNat : Int) ((128 / 2 ^ j : Nat) : Int) = ((l.getD k 0 ^^^ UInt8.ofNat (128 / 2 ^ j)).toNat : Int) := by
  have h1 : (l.getD k 0).toNat < 256 := (l.getD k 0).toNat_lt
  have h2 : 128 / 2 ^ j < 256 := Nat.lt_of_le_of_lt (Nat.div_le_self _ _) (by decide)
  rw [u8_xor_nat _ _ h1 h2, UInt8.toNat_xor, UInt8.toNat_ofNat', Nat.mod_eq_of_lt h2]
theorem half_bit (j : Nat) : 128 / 2 ^ j / 2 = 128 / 2 ^ (j + 1) := by rw [Nat.pow_succ, Nat.div_div_eq_div_mul]
theorem flip_cells (l : List UInt8) (z k m s x y : Nat) (hm : m = k / 8) (hs : s = k % 8) (hx : x = 128 / 2 ^ s) (hy : y = (l.getD m 0).toNat) (hl : m < l.length) : (mcells l z).setIfInBounds m (.int .u8 (Go.bits .xor .u8 (y : Int) (x : Int))) = mcells (flipL l k) z := by
  subst hx hy
  rw [flip_byte, mcells_set l z m _ hl, hm, hs]
  rfl
/-- The numbers of a round. -/
theorem turn_nums (a i size : Nat) (hi : i < 32) (ha : a + 32 ≤ 8 * size) (hq : size ≤ 1152921504606846975) : ∃ k m n n7 n31 : Nat, (k = a + i ∧ m = k / 8 ∧ n = k % 8 ∧ n7 + n = 7 ∧ n31 + i = 31 ∧ m < size) ∧ wrap64 ((a : Int) + (i : Int)) = (k : Int) ∧ wrap64 (Int.tdiv (k : Int) 8) = (m : Int) ∧ wrap64 ((k : Int) / 8) = (m : Int) ∧ (k : Int) % 8 = (n : Int) ∧ Int.tmod (k : Int) 8 = (n : Int) ∧ wrap64 (7 - (n : Int)) = (n7 : Int) ∧ wrap64 (31 - (i : Int)) = (n31 : Int) ∧ ¬ (size ≤ m) ∧ decide ((i : Int) < 32) = true ∧ (0 ≤ (m : Int)) = True ∧ ((m : Int) < (size : Int)) = True := by
  refine ⟨a + i, (a + i) / 8, (a + i) % 8, 7 - (a + i) % 8, 31 - i, ⟨rfl, rfl, rfl, by omega, by omega, by omega⟩, ?_, ?_, ?_, ?_, ?_, ?_, ?_, by omega, decide_eq_true (by omega), eq_true (by omega), eq_true (by omega)⟩
  · unfold wrap64; omega
  · rw [Int.tdiv_eq_ediv_of_nonneg (by omega)]; unfold wrap64; omega
  · unfold wrap64; omega
  · omega
  · rw [Int.tmod_eq_emod_of_nonneg (by omega)]; omega
  · unfold wrap64; omega
  · unfold wrap64; omega
theorem wrap_32 (a a32 size : Nat) (h : a32 = a + 32) (ha : a + 32 ≤ 8 * size) (hq : size ≤ 1152921504606846975) : wrap64 ((a : Int) + 32) = (a32 : Int) := by
  unfold wrap64
  omega
theorem turn_nums2 (k size : Nat) (hk : k < 8 * size) (hq : size ≤ 1152921504606846975) : ∃ m n : Nat, (m = k / 8 ∧ n = k % 8 ∧ m < size) ∧ wrap64 (Int.tdiv (k : Int) 8) = (m : Int) ∧ wrap64 ((k : Int) / 8) = (m : Int) ∧ (k : Int) % 8 = (n : Int) ∧ Int.tmod (k : Int) 8 = (n : Int) ∧ ¬ (size ≤ m) ∧ (0 ≤ (m : Int)) = True ∧ ((m : Int) < (size : Int)) = True ∧ wrap64 ((k : Int) + 1) = ((k + 1 : Nat) : Int) := by
  refine ⟨k / 8, k % 8, ⟨rfl, rfl, by omega⟩, ?_, ?_, ?_, ?_, by omega, eq_true (by omega), eq_true (by omega), ?_⟩
  · rw [Int.tdiv_eq_ediv_of_nonneg (by omega)]; unfold wrap64; omega
  · unfold wrap64; omega
  · omega
  · rw [Int.tmod_eq_emod_of_nonneg (by omega)]; omega
  · unfold wrap64; omega
/-- A cell of the bytes that is read and written. -/
theorem byte_at {w : World} {g c z m : Nat} {t : TypeId} {l : List UInt8} (h : w.heap[g]? = some (.cells (mcells l z) t (c, c + 1))) (hc : c = l.length + z) (hm : m < l.length) : ∃ y : Nat, y = (l.getD m 0).toNat ∧ w.cell? ⟨g, m, none⟩ = some (.int .u8 (y : Int)) ∧ w.frozen? ⟨g, m, none⟩ = false := by
  refine ⟨_, rfl, ?_, ?_⟩
  · rw [cell_of_row w g m _ _ _ h, mcells_get l z m hm, List.getD_eq_getElem?_getD, List.getElem?_eq_getElem hm]
    rfl
  · exact frozen_behind h (.inr (by rw [mcells_size, hc]; exact Nat.le_refl _)) (by rw [mcells_size]; omega)
/-- The bit that is shifted to its place. -/
theorem bit_shifted (b n31 n i : Nat) (hb : b < 4294967296) (hn : n < 8) (hi : n31 + i = 31) : Go.bits .and .u32 ((b : Int) / 2 ^ min n31 32) 1 % 256 * 2 ^ (7 - n) % 256 = (((if b * 2 ^ i % 4294967296 / 2147483648 = 1 then 128 / 2 ^ n else 0 : Nat)) : Int) := by
  have hm : min n31 32 = n31 := by omega
  have hp : (4294967296 : Nat) = 2 ^ i * 2 ^ n31 * 2 := by rw [← Nat.pow_add, show i + n31 = 31 by omega]
  have hp2 : (2147483648 : Nat) = 2 ^ i * 2 ^ n31 := by rw [← Nat.pow_add, show i + n31 = 31 by omega]
  have e1 : b * 2 ^ i % 4294967296 / 2147483648 = b / 2 ^ n31 % 2 := by
    rw [hp, hp2, Nat.mod_mul_right_div_self, Nat.mul_comm b, Nat.mul_div_mul_left _ _ (Nat.two_pow_pos i)]
  have hq : b / 2 ^ n31 < 4294967296 := Nat.lt_of_le_of_lt (Nat.div_le_self _ _) hb
  have e2 : (b : Int) / 2 ^ n31 = ((b / 2 ^ n31 : Nat) : Int) := by
    rw [Int.natCast_ediv, Int.natCast_pow]
    rfl
  rw [hm, e2, show (1 : Int) = ((1 : Nat) : Int) from rfl, u32_and_nat _ _ hq (by omega), e1, Nat.and_one_is_mod]
  generalize b / 2 ^ n31 = q
  have h8 : ∀ n : Fin 8, (1 : Int) % 256 * 2 ^ (7 - n.val) % 256 = ((128 / 2 ^ n.val : Nat) : Int) := by decide
  rcases Nat.mod_two_eq_zero_or_one q with h | h
  · rw [h, if_neg (by decide)]
    simp
  · rw [h, if_pos rfl]
    exact h8 ⟨n, hn⟩
theorem turn_cells (l : List UInt8) (z k m n i n31 y b : Nat) (hm : m = k / 8) (hn : n = k % 8) (hy : y = (l.getD m 0).toNat) (hl : m < l.length) (hb : b < 4294967296) (hi : n31 + i = 31) :
    (mcells l z).setIfInBounds m (.int .u8 (Go.bits .xor .u8 (y : Int) (Go.bits .and .u32 ((b : Int) / 2 ^ min n31 32) 1 % 256 * 2 ^ (7 - n) % 256))) = mcells (if b * 2 ^ i % 4294967296 / 2147483648 = 1 then flipL l k else l) z := by
  rw [bit_shifted b n31 n i hb (by omega) hi]
  split
  · exact flip_cells l z k m n _ y hm hn rfl hy hl
  · have hy2 : y < 256 := by rw [hy]; exact (l.getD m 0).toNat_lt
    rw [u8_xor_nat _ _ hy2 (by omega), Nat.xor_zero, hy, mcells_set l z m _ hl, List.getD_eq_getElem?_getD, List.getElem?_eq_getElem hl, Option.getD_some, List.set_getElem_self]
theorem turn_on (l : List UInt8) (a i k k2 b : Nat) (f : List UInt8) (hk : k = a + i) (h : turnL (k2 + 1) l (a + i) (b * 2 ^ i % 4294967296) = f) : turnL k2 (if b * 2 ^ i % 4294967296 / 2147483648 = 1 then flipL l k else l) (a + (i + 1)) (b * 2 ^ (i + 1) % 4294967296) = f := by
  subst hk
  rw [← h, turnL, Nat.pow_succ, ← Nat.mul_assoc]
  have e : b * 2 ^ i % 4294967296 % 2147483648 * 2 = b * 2 ^ i * 2 % 4294967296 := by
    generalize b * 2 ^ i = q
    omega
  rw [e]
  rfl
theorem turned_length (l : List UInt8) (k x n : Nat) (h : l.length = n) : (if x = 1 then flipL l k else l).length = n := by
  split
  · rw [flipL_length, h]
  · exact h
/-- What a burst makes of slots. -/
def burst_f {β : Type} (l0_0 : List ByteArray) (l0_1 : β) (a0_2 : Int) (a0_3 : Bool) (a1 a2 a3 : Int) : Option (List ByteArray × β × Int × Bool × Int) := if l0_0.length < 8796093022208 ∧ (rdOf ByteArray.empty l0_0 a1).size ≤ 1152921504606846975 ∧ 0 ≤ a3 ∧ a3 < 4294967296 then (if 0 ≤ a1 ∧ a1 < (l0_0.length : Int) then (if a2 < 0 then some (l0_0, l0_1, a0_2, a0_3, 1) else if a2 > 8 * ((rdOf ByteArray.empty l0_0 a1).size : Int) - 32 then some (l0_0, l0_1, a0_2, a0_3, 1) else some (l0_0.set a1.toNat ⟨(turnL 32 (rdOf ByteArray.empty l0_0 a1).data.toList a2.toNat a3.toNat).toArray⟩, l0_1, a0_2, a0_3, 0)) else some (l0_0, l0_1, a0_2, a0_3, 1)) else none
theorem strOf_toList (l : List UInt8) : (⟨l.toArray⟩ : ByteArray).data.toList = l := rfl
end Go.Proofs.Ytmaojfeikbdkhaa.Mark
