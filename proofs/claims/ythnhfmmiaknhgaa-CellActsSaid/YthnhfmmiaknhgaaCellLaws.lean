/- Small facts for the pure statements: wrapping, a list from its j-th element on, loops by rounds. A register of 32 bits, stepped bit by bit and byte by byte: it is linear, two unlike registers stay unlike, a byte may be stepped by a table. The crc package's sum, and the reference's, as registers of 32 bits. The crc package's functions, and the reference's, as registers of 32 bits. What opens, of the program and of the reference. The vlq package's numbers and texts, and the reference's, as lists of bytes. A disk over lists alone. The program's disk over lists. The document's disk over lists. The document's crash over lists. What a cell's functions come to, over lists alone, of the program and of the document. What a cell reads, and what a write makes of its disk, over lists alone, of the program and of the document. What the laws of the cells need, over lists alone. -/
import Derived.Test.YthnhfmmiaknhgaaWMore
import Derived.Lib.Strings
import Derived.Lib.SmallJoins
import Derived.WideShapes
import Derived.Laws.BitsAllLaws
import Derived.Test.YthnhfmmiaknhgaaPAllx2
import Derived.Test.YthnhfmmiaknhgaaPAllx17
import Derived.Test.YthnhfmmiaknhgaaPAllx9
import Derived.Test.YthnhfmmiaknhgaaPAllx3
import Derived.Test.YthnhfmmiaknhgaaPAllx18
import Derived.Test.YthnhfmmiaknhgaaPAllx5
import Derived.Test.YthnhfmmiaknhgaaPAllx10
import Derived.Test.YthnhfmmiaknhgaaPAllx19
import Derived.Test.YthnhfmmiaknhgaaPAllx22
import Derived.Test.YthnhfmmiaknhgaaPAllx4
import Derived.Test.YthnhfmmiaknhgaaPAllx6
import Derived.Test.YthnhfmmiaknhgaaPAllx24
import Derived.Test.YthnhfmmiaknhgaaPAllx20
import Derived.Test.YthnhfmmiaknhgaaPAllx13
import Derived.Test.YthnhfmmiaknhgaaPAllx15
import Derived.Test.YthnhfmmiaknhgaaPAllx27
import Derived.Test.YthnhfmmiaknhgaaPAllx12
import Derived.Test.YthnhfmmiaknhgaaPAllx26
import Derived.Test.YthnhfmmiaknhgaaPAllx14
import Derived.Test.YthnhfmmiaknhgaaPAllx11
import Derived.Test.YthnhfmmiaknhgaaPAllx23
import Derived.Test.YthnhfmmiaknhgaaPAllx21
import Derived.Test.YthnhfmmiaknhgaaPAllx25
import Derived.Test.YthnhfmmiaknhgaaPAllx8
import Derived.Test.YthnhfmmiaknhgaaPAllx16
namespace Go.Proofs.Ythnhfmmiaknhgaa.PB
open Go.RowKit Go.Proofs.YthnhfmmiaknhgaaW.PrintWords Go.Proofs.YthnhfmmiaknhgaaW.PrintLast

def InR (x : Int) : Prop := -9223372036854775808 ≤ x ∧ x ≤ 9223372036854775807
theorem wrap_in {x : Int} (h : InR x) : wrap64 x = x := by
  unfold InR at h
  unfold wrap64
  omega
theorem wrap_succ {i n : Nat} (h : i < n) (hn : n ≤ 9223372036854775807) : wrap64 ((i : Int) + 1) = ((i + 1 : Nat) : Int) := by
  unfold wrap64
  omega
theorem drop_getD {α : Type} {l : List α} {j : Nat} (z : α) (h : j < l.length) : l.drop j = l.getD j z :: l.drop (j + 1) := by
  rw [List.drop_eq_getElem_cons h, List.getD_eq_getElem?_getD, List.getElem?_eq_getElem h]
  rfl
theorem getD_mem {α : Type} {l : List α} {j : Nat} (z : α) (h : j < l.length) : l.getD j z ∈ l := by
  rw [List.getD_eq_getElem?_getD, List.getElem?_eq_getElem h]
  exact List.getElem_mem h
theorem succ_of {k d : Nat} (h : d < k) : ∃ m, k = m + 1 := ⟨k - 1, by omega⟩
/-! texts as lists of bytes -/
def L (s : ByteArray) : List UInt8 := s.data.toList
theorem L_toList (s : ByteArray) : s.toList = L s := ByteArray.toList_eq s
theorem L_inj {a b : ByteArray} (h : L a = L b) : a = b := Go.WideShapes.bytes_inj h
theorem L_length (s : ByteArray) : (L s).length = s.size := data_length s
theorem L_append (a b : ByteArray) : L (a ++ b) = L a ++ L b := by
  unfold L
  rw [ByteArray.data_append, Array.toList_append]
theorem L_extract (s : ByteArray) (a b : Nat) : L (s.extract a b) = ((L s).drop a).take (b - a) := Lib.extract_data s a b
theorem L_from (s : ByteArray) (a : Nat) : L (s.extract a s.size) = (L s).drop a := by
  rw [L_extract, List.take_of_length_le]
  rw [List.length_drop, L_length]
  omega
theorem L_upto (s : ByteArray) (b : Nat) : L (s.extract 0 b) = (L s).take b := by rw [L_extract, List.drop_zero, Nat.sub_zero]
theorem L_nums (xs : List Int) : L (strOfNums xs) = xs.map fun n => UInt8.ofNat n.toNat := rfl
theorem size_append (a b : ByteArray) : (a ++ b).size = a.size + b.size := by rw [← L_length, L_append, List.length_append, L_length, L_length]
theorem size_nums (xs : List Int) : (strOfNums xs).size = xs.length := by rw [← L_length, L_nums, List.length_map]
theorem bt_L (s : ByteArray) (j : Nat) (h : j < s.size) : bt s (j : Int) = ((L s)[j]'(by rw [L_length]; exact h)).toNat := by
  unfold bt
  have h2 : (j : Int).toNat < s.size := by simpa using h
  rw [dif_pos h2]
  rfl
theorem size_le_upto (s : ByteArray) (b : Nat) (h : b ≤ s.size) : (s.extract 0 b).size = b := by
  rw [← L_length, L_upto, List.length_take, L_length]
  omega
end Go.Proofs.Ythnhfmmiaknhgaa.PB
namespace Go.Proofs.Ythnhfmmiaknhgaa.CM
open Go.Proofs.Ythnhfmmiaknhgaa.PB

def poly : BitVec 32 := 79764919#32
/-- One bit more, none put in. -/
def s1 (r : BitVec 32) : BitVec 32 := if r.msb then (r <<< 1) ^^^ poly else r <<< 1
def s8 (r : BitVec 32) : BitVec 32 := s1 (s1 (s1 (s1 (s1 (s1 (s1 (s1 r)))))))
/-- A byte put in at the top. -/
def top (b : BitVec 8) : BitVec 32 := b.setWidth 32 <<< 24
def stepB (r : BitVec 32) (b : BitVec 8) : BitVec 32 := s8 (r ^^^ top b)

theorem s1_eq (r : BitVec 32) : s1 r = (r <<< 1) ^^^ (if r.msb then poly else 0#32) := by
  unfold s1
  split
  · rfl
  · rw [BitVec.xor_zero]
theorem s1_xor (a b : BitVec 32) : s1 (a ^^^ b) = s1 a ^^^ s1 b := by
  rw [s1_eq, s1_eq, s1_eq, BitVec.msb_xor, BitVec.shiftLeft_xor_distrib]
  cases a.msb <;> cases b.msb <;> simp only [Bool.xor_false, Bool.xor_true, Bool.not_false, Bool.not_true, Bool.false_eq_true, if_true, if_false, BitVec.xor_zero]
  · rw [BitVec.xor_assoc]
  · rw [BitVec.xor_assoc, BitVec.xor_assoc, BitVec.xor_comm (b <<< 1)]
  · have : a <<< 1 ^^^ poly ^^^ (b <<< 1 ^^^ poly) = a <<< 1 ^^^ b <<< 1 ^^^ (poly ^^^ poly) := by
      rw [BitVec.xor_assoc, BitVec.xor_assoc, ← BitVec.xor_assoc poly, BitVec.xor_comm poly (b <<< 1), BitVec.xor_assoc]
    rw [this, BitVec.xor_self, BitVec.xor_zero]
theorem s8_xor (a b : BitVec 32) : s8 (a ^^^ b) = s8 a ^^^ s8 b := by unfold s8; simp only [s1_xor]
theorem top_xor (x y : BitVec 8) : top (x ^^^ y) = top x ^^^ top y := by
  unfold top
  rw [BitVec.setWidth_xor, BitVec.shiftLeft_xor_distrib]
theorem toNat_top (b : BitVec 8) : (top b).toNat = b.toNat * 16777216 := by
  unfold top
  rw [BitVec.toNat_shiftLeft, BitVec.toNat_setWidth, Nat.shiftLeft_eq]
  have := b.isLt
  omega
/-- A register below 2^24 is shifted alone. -/
theorem s1_small (n : Nat) (h : n < 2147483648) : s1 (BitVec.ofNat 32 n) = BitVec.ofNat 32 (2 * n) := by
  unfold s1
  have hm : (BitVec.ofNat 32 n).msb = false := by
    rw [BitVec.msb_eq_decide, BitVec.toNat_ofNat]
    simp
    omega
  rw [hm, if_neg (by simp)]
  apply BitVec.eq_of_toNat_eq
  rw [BitVec.toNat_shiftLeft, BitVec.toNat_ofNat, BitVec.toNat_ofNat, Nat.shiftLeft_eq]
  omega
theorem s8_small (n : Nat) (h : n < 16777216) : s8 (BitVec.ofNat 32 n) = BitVec.ofNat 32 (256 * n) := by
  unfold s8
  rw [s1_small _ (by omega), s1_small _ (by omega), s1_small _ (by omega), s1_small _ (by omega), s1_small _ (by omega), s1_small _ (by omega), s1_small _ (by omega), s1_small _ (by omega)]
  exact congrArg (BitVec.ofNat 32) (by omega)
/-- The register's highest byte. -/
def hi (r : BitVec 32) : BitVec 8 := BitVec.ofNat 8 (r.toNat / 16777216)
theorem toNat_hi (r : BitVec 32) : (hi r).toNat = r.toNat / 16777216 := by
  unfold hi
  rw [BitVec.toNat_ofNat]
  have := r.isLt
  omega
theorem split_top (r : BitVec 32) : r = top (hi r) ^^^ BitVec.ofNat 32 (r.toNat % 16777216) := by
  apply BitVec.eq_of_toNat_eq
  rw [BitVec.toNat_xor, toNat_top, toNat_hi, BitVec.toNat_ofNat]
  have h1 : r.toNat % 16777216 % 2 ^ 32 = r.toNat % 16777216 := by omega
  rw [h1]
  have h2 : r.toNat / 16777216 * 16777216 ^^^ r.toNat % 16777216 = r.toNat / 16777216 * 16777216 + r.toNat % 16777216 := by
    have := Nat.two_pow_add_eq_or_of_lt (i := 24) (b := r.toNat % 16777216) (by omega) (r.toNat / 16777216)
    have h3 : r.toNat / 16777216 * 16777216 = 2 ^ 24 * (r.toNat / 16777216) := by omega
    rw [h3, this]
    apply Nat.eq_of_testBit_eq
    intro i
    rw [Nat.testBit_xor, Nat.testBit_or]
    by_cases hi : i < 24
    · have : (2 ^ 24 * (r.toNat / 16777216)).testBit i = false := by
        rw [Nat.testBit_two_pow_mul]
        simp
        omega
      rw [this]
      simp
    · have : (r.toNat % 16777216).testBit i = false := by
        apply Nat.testBit_lt_two_pow
        have : 2 ^ 24 ≤ 2 ^ i := Nat.pow_le_pow_right (by omega) (by omega)
        omega
      rw [this]
      simp
  rw [h2]
  omega
/-- A byte by the table. -/
theorem stepB_table (r : BitVec 32) (b : BitVec 8) : stepB r b = (r <<< 8) ^^^ stepB 0#32 (hi r ^^^ b) := by
  unfold stepB
  have e : r ^^^ top b = top (hi r ^^^ b) ^^^ BitVec.ofNat 32 (r.toNat % 16777216) := by
    rw [top_xor]
    conv => lhs; rw [split_top r]
    rw [BitVec.xor_assoc, BitVec.xor_assoc, BitVec.xor_comm (BitVec.ofNat 32 _)]
  rw [e, s8_xor, s8_small _ (by omega), BitVec.zero_xor, BitVec.xor_comm]
  congr 1
  apply BitVec.eq_of_toNat_eq
  rw [BitVec.toNat_ofNat, BitVec.toNat_shiftLeft, Nat.shiftLeft_eq]
  omega

/-- The register behind bytes. -/
def foldB (r : BitVec 32) (l : List (BitVec 8)) : BitVec 32 := l.foldl stepB r
/-- A register's four bytes, the highest one first. -/
def four (r : BitVec 32) : List (BitVec 8) := [BitVec.ofNat 8 (r.toNat / 16777216), BitVec.ofNat 8 (r.toNat / 65536), BitVec.ofNat 8 (r.toNat / 256), BitVec.ofNat 8 r.toNat]
/-! ### numbers -/
theorem xor32 (a b : BitVec 32) : Go.bits .xor .u32 (a.toNat : Int) (b.toNat : Int) = ((a ^^^ b).toNat : Int) := by
  rw [u32_xor_nat _ _ a.isLt b.isLt, BitVec.toNat_xor]
theorem xor8 (a b : BitVec 8) : Go.bits .xor .u8 (a.toNat : Int) (b.toNat : Int) = ((a ^^^ b).toNat : Int) := by
  rw [u8_xor_nat _ _ a.isLt b.isLt, BitVec.toNat_xor]
theorem shl1 (r : BitVec 32) : ((r.toNat : Int) * (2 : Int)) % (4294967296 : Int) = ((r <<< 1).toNat : Int) := by
  rw [BitVec.toNat_shiftLeft, Nat.shiftLeft_eq]
  omega
theorem msb_iff (r : BitVec 32) : (r.toNat : Int) / 2147483648 = 1 ↔ r.msb = true := by
  rw [BitVec.msb_eq_decide]
  have := r.isLt
  simp
  omega
end Go.Proofs.Ythnhfmmiaknhgaa.CM
namespace Go.Proofs.Ythnhfmmiaknhgaa.CP
open Go.RowKit Go.Proofs.YthnhfmmiaknhgaaW.PrintWords Go.Proofs.YthnhfmmiaknhgaaW.PrintLast Go.Proofs.Ythnhfmmiaknhgaa.PAll Go.Proofs.Ythnhfmmiaknhgaa.PB Go.Proofs.Ythnhfmmiaknhgaa.CM

theorem l0_step (k : Nat) (r : BitVec 32) (i : Nat) (hi : i < 8) : crc_Step.l0 (k + 1) ((r.toNat : Int)) i = crc_Step.l0 k (((s1 r).toNat : Int)) ((i + 1 : Nat) : Int) := by
  simp only [crc_Step.l0]
  rw [if_pos (by omega), wrap_succ (n := 8) hi (by omega)]
  by_cases h : r.msb = true
  · rw [if_pos ((msb_iff r).2 h), shl1]
    have e : (79764919 : Int) = (poly.toNat : Int) := by decide
    rw [e, xor32]
    unfold s1
    rw [if_pos h]
  · rw [if_neg (fun h' => h ((msb_iff r).1 h')), shl1]
    unfold s1
    rw [if_neg h]
theorem l0_end (k : Nat) (x : Int) : crc_Step.l0 (k + 1) x (8 : Nat) = some x := by
  simp only [crc_Step.l0]
  rw [if_neg (by omega)]
theorem step_num (k : Nat) (hk : 9 ≤ k) (r : BitVec 32) (b : BitVec 8) : crc_Step.f k ((r.toNat : Int)) (b.toNat : Int) = some (((stepB r b).toNat : Int)) := by
  obtain ⟨k, rfl⟩ : ∃ m, k = m + 9 := ⟨k - 9, by omega⟩
  unfold crc_Step.f
  have hb := b.isLt
  have e : ((b.toNat : Int) % 4294967296 * 16777216) % 4294967296 = ((top b).toNat : Int) := by rw [toNat_top]; omega
  rw [e, xor32]
  have h := l0_step (k + 8) (r ^^^ top b) 0 (by omega)
  refine h.trans ?_
  rw [l0_step (k + 7) _ 1 (by omega), l0_step (k + 6) _ 2 (by omega), l0_step (k + 5) _ 3 (by omega), l0_step (k + 4) _ 4 (by omega), l0_step (k + 3) _ 5 (by omega), l0_step (k + 2) _ 6 (by omega), l0_step (k + 1) _ 7 (by omega), l0_end]
  rfl
theorem tab_num (i : BitVec 8) : crc_tabAt i.toNat = ((stepB 0#32 i).toNat : Int) := by
  unfold crc_tabAt
  have h := step_num 10 (by omega) 0#32 i
  have e : ((0#32).toNat : Int) = 0 := rfl
  rw [e] at h
  rw [h]
  rfl
theorem one_num (r : BitVec 32) (b : BitVec 8) : crc_one ((r.toNat : Int)) (b.toNat : Int) = ((stepB r b).toNat : Int) := by
  unfold crc_one crc_idx
  have hr := r.isLt
  have e1 : (r.toNat : Int) / 16777216 % 256 = ((hi r).toNat : Int) := by rw [toNat_hi]; omega
  have e2 : (r.toNat : Int) * (256 : Int) % (4294967296 : Int) = ((r <<< 8).toNat : Int) := by rw [BitVec.toNat_shiftLeft, Nat.shiftLeft_eq]; omega
  rw [e1, xor8, Int.toNat_natCast, tab_num, e2, xor32, ← stepB_table]
/-- The register behind bytes. -/
def foldU (r : BitVec 32) (l : List UInt8) : BitVec 32 := foldB r (l.map UInt8.toBitVec)
theorem fold_num : ∀ (l : List UInt8) (r : BitVec 32), crc_fold ((r.toNat : Int)) l = ((foldU r l).toNat : Int)
  | [], _ => rfl
  | c :: l, r => by
    show crc_fold (crc_one ((r.toNat : Int)) (c.toNat : Int)) l = _
    have h := one_num r c.toBitVec
    rw [show ((c.toNat : Int)) = (c.toBitVec.toNat : Int) from rfl, h]
    exact fold_num l (stepB r c.toBitVec)
def ones : BitVec 32 := 4294967295#32
/-- A text's sum. -/
def sumB (l : List UInt8) : BitVec 32 := foldU ones l ^^^ ones
theorem sum_num (s : ByteArray) (h : s.size ≤ 9223372036854775807) : crc_Sum.f s = some (((sumB (L s)).toNat : Int)) := by
  unfold crc_Sum.f
  rw [if_pos h]
  have e : (4294967295 : Int) = (ones.toNat : Int) := rfl
  rw [e, fold_num]
  show some (Go.bits .xor .u32 (ones.toNat : Int) ((foldU ones (L s)).toNat : Int)) = _
  rw [xor32, BitVec.xor_comm]
  rfl
theorem tdiv_nat (a b : Nat) : Int.tdiv (a : Int) (b : Int) = ((a / b : Nat) : Int) := by rw [Int.tdiv_eq_ediv_of_nonneg (by omega)]; omega
theorem tmod_nat (a b : Nat) : Int.tmod (a : Int) (b : Int) = ((a % b : Nat) : Int) := by rw [Int.tmod_eq_emod_of_nonneg (by omega)]; omega
/-- One round of the reference: a bit of the byte's is put in. -/
theorem ref_round (k : Nat) (r : BitVec 32) (c : BitVec 8) (i : Nat) (hi : i < 8) : hogsheadref02_Step.l0 (k + 1) ((r.toNat : Int)) (c.toNat : Int) i = hogsheadref02_Step.l0 k (((s1 (r ^^^ (if c.msb then 2147483648#32 else 0#32))).toNat : Int)) ((c <<< 1).toNat : Int) ((i + 1 : Nat) : Int) := by
  have hr := r.isLt
  have hc := c.isLt
  simp only [hogsheadref02_Step.l0]
  rw [if_pos (by omega), wrap_succ (n := 8) hi (by omega)]
  have e0 : (2147483648 : Int) = ((2147483648 : Nat) : Int) := rfl
  have e1 : (128 : Int) = ((128 : Nat) : Int) := rfl
  rw [e0, e1, tdiv_nat, tdiv_nat, tmod_nat, tmod_nat]
  have hb : ((c.toNat % 128 : Nat) : Int) * (2 : Int) % (256 : Int) = ((c <<< 1).toNat : Int) := by rw [BitVec.toNat_shiftLeft, Nat.shiftLeft_eq]; omega
  rw [hb]
  have mc : c.msb = decide (128 ≤ c.toNat) := by rw [BitVec.msb_eq_decide]
  have mr : r.msb = decide (2147483648 ≤ r.toNat) := by rw [BitVec.msb_eq_decide]
  have mx : (r ^^^ (if c.msb then 2147483648#32 else 0#32)).msb = (r.msb != c.msb) := by
    rw [BitVec.msb_xor]
    cases c.msb <;> cases r.msb <;> rfl
  have sx : (r ^^^ (if c.msb then 2147483648#32 else 0#32)) <<< 1 = r <<< 1 := by
    rw [BitVec.shiftLeft_xor_distrib]
    have : (if c.msb then 2147483648#32 else 0#32) <<< 1 = 0#32 := by cases c.msb <;> rfl
    rw [this, BitVec.xor_zero]
  have hx : ((r.toNat % 2147483648 : Nat) : Int) * (2 : Int) % (4294967296 : Int) = ((r <<< 1).toNat : Int) := by rw [BitVec.toNat_shiftLeft, Nat.shiftLeft_eq]; omega
  have a1 : ((r.toNat / 2147483648 : Nat) : Int) % 4294967296 = ((r.toNat / 2147483648 : Nat) : Int) := by omega
  have a2 : ((c.toNat / 128 : Nat) : Int) % 256 = ((c.toNat / 128 : Nat) : Int) := by omega
  rw [hx, a1, a2, u32_xor_nat _ _ (by omega) (by omega)]
  have ht : ((((r.toNat / 2147483648) ^^^ (c.toNat / 128) : Nat) : Int) = 1) ↔ (r.msb != c.msb) = true := by
    rw [mr, mc]
    by_cases h1 : 2147483648 ≤ r.toNat
    · have q1 : r.toNat / 2147483648 = 1 := by omega
      by_cases h2 : 128 ≤ c.toNat
      · have q2 : c.toNat / 128 = 1 := by omega
        rw [q1, q2]; simp [h1, h2]
      · have q2 : c.toNat / 128 = 0 := by omega
        rw [q1, q2]; simp [h1, h2]
    · have q1 : r.toNat / 2147483648 = 0 := by omega
      by_cases h2 : 128 ≤ c.toNat
      · have q2 : c.toNat / 128 = 1 := by omega
        rw [q1, q2]; simp [h1, h2]
      · have q2 : c.toNat / 128 = 0 := by omega
        rw [q1, q2]; simp [h1, h2]
  unfold s1
  rw [mx, sx]
  by_cases hm : (r.msb != c.msb) = true
  · rw [if_pos (ht.2 hm), if_pos hm]
    have e : (79764919 : Int) = (poly.toNat : Int) := by decide
    rw [e, xor32]
  · rw [if_neg (fun h => hm (ht.1 h)), if_neg hm]
theorem ref_end (k : Nat) (x y : Int) : hogsheadref02_Step.l0 (k + 1) x y (8 : Nat) = some x := by
  simp only [hogsheadref02_Step.l0]
  rw [if_neg (by omega)]
/-- The register behind so many bits of a byte. -/
def bitsIn : Nat → BitVec 32 → BitVec 8 → BitVec 32
  | 0, r, _ => r
  | n + 1, r, c => bitsIn n (s1 (r ^^^ (if c.msb then 2147483648#32 else 0#32))) (c <<< 1)
theorem bitsIn_xor : ∀ (n : Nat) (a b : BitVec 32) (c : BitVec 8), bitsIn n (a ^^^ b) c = bitsIn n a 0#8 ^^^ bitsIn n b c
  | 0, _, _, _ => rfl
  | n + 1, a, b, c => by
    simp only [bitsIn]
    have h0 : (0#8).msb = false := by decide
    have h1 : (0#8 <<< 1) = 0#8 := by decide
    rw [h0, h1, BitVec.xor_assoc, s1_xor, bitsIn_xor n]
    simp
theorem bitsIn_zero (r : BitVec 32) : bitsIn 8 r 0#8 = s8 r := by
  have h0 : (0#8).msb = false := by decide
  have h1 : (0#8 <<< 1) = 0#8 := by decide
  simp only [bitsIn, h0, h1, Bool.false_eq_true, if_false, BitVec.xor_zero]
  rfl
theorem bitsIn_byte : ∀ c : BitVec 8, bitsIn 8 0#32 c = s8 (top c) := by
  have h : ∀ n : Nat, n < 256 → bitsIn 8 0#32 (BitVec.ofNat 8 n) = s8 (top (BitVec.ofNat 8 n)) := by decide +kernel
  intro c
  have := h c.toNat c.isLt
  rwa [BitVec.ofNat_toNat, BitVec.setWidth_eq] at this
theorem bitsIn_step (r : BitVec 32) (c : BitVec 8) : bitsIn 8 r c = stepB r c := by
  have h := bitsIn_xor 8 r 0#32 c
  rw [BitVec.xor_zero, bitsIn_zero, bitsIn_byte] at h
  rw [h, ← s8_xor]
  rfl
theorem ref_step (k : Nat) (hk : 9 ≤ k) (r : BitVec 32) (b : BitVec 8) : hogsheadref02_Step.f k ((r.toNat : Int)) (b.toNat : Int) = some (((stepB r b).toNat : Int)) := by
  obtain ⟨k, rfl⟩ : ∃ m, k = m + 9 := ⟨k - 9, by omega⟩
  unfold hogsheadref02_Step.f
  have h := ref_round (k + 8) r b 0 (by omega)
  refine h.trans ?_
  rw [ref_round (k + 7) _ _ 1 (by omega), ref_round (k + 6) _ _ 2 (by omega), ref_round (k + 5) _ _ 3 (by omega), ref_round (k + 4) _ _ 4 (by omega), ref_round (k + 3) _ _ 5 (by omega), ref_round (k + 2) _ _ 6 (by omega), ref_round (k + 1) _ _ 7 (by omega), ref_end, ← bitsIn_step]
  rfl
theorem ref_sum_l0 (s : ByteArray) (hs : s.size ≤ 9223372036854775807) : ∀ (d j : Nat), j ≤ s.size → s.size - j = d → ∀ (k : Nat) (r : BitVec 32), d + 9 < k → hogsheadref02_Sum.l0 k s ((r.toNat : Int)) j = some (((foldU r ((L s).drop j) ^^^ ones).toNat : Int)) := by
  intro d
  induction d with
  | zero =>
    intro j hj hd k r hk
    obtain ⟨k, rfl⟩ := succ_of (show 0 < k by omega)
    simp only [hogsheadref02_Sum.l0]
    rw [if_neg (by omega), List.drop_of_length_le (by rw [L_length]; omega)]
    have e : (4294967295 : Int) = (ones.toNat : Int) := rfl
    rw [e, xor32]
    rfl
  | succ d ih =>
    intro j hj hd k r hk
    have hlt : j < s.size := by omega
    obtain ⟨k, rfl⟩ := succ_of (show 0 < k by omega)
    simp only [hogsheadref02_Sum.l0]
    rw [if_pos (by omega), if_pos (by omega), bt_L s j hlt, wrap_succ hlt hs]
    rw [show (((L s)[j]'(by rw [L_length]; exact hlt)).toNat : Int) = (((L s)[j]'(by rw [L_length]; exact hlt)).toBitVec.toNat : Int) from rfl, ref_step k (by omega)]
    simp only [Option.bind_some]
    rw [ih (j + 1) (by omega) (by omega) k _ (by omega), List.drop_eq_getElem_cons (i := j) (by rw [L_length]; exact hlt)]
    rfl
theorem ref_sum (s : ByteArray) (hs : s.size ≤ 9223372036854775807) (k : Nat) (hk : s.size + 9 < k) : hogsheadref02_Sum.f k s = some (((sumB (L s)).toNat : Int)) := by
  have h := ref_sum_l0 s hs s.size 0 (by omega) (by omega) k ones hk
  rw [List.drop_zero] at h
  exact h
end Go.Proofs.Ythnhfmmiaknhgaa.CP
namespace Go.Proofs.Ythnhfmmiaknhgaa.CP
open Go.RowKit Go.Proofs.YthnhfmmiaknhgaaW.PrintWords Go.Proofs.YthnhfmmiaknhgaaW.PrintLast Go.Proofs.Ythnhfmmiaknhgaa.PAll Go.Proofs.Ythnhfmmiaknhgaa.PB Go.Proofs.Ythnhfmmiaknhgaa.CM

/-- A sum's bytes. -/
def four8 (v : BitVec 32) : List UInt8 := (four v).map UInt8.ofBitVec
theorem ofNat_mod (n : Nat) : UInt8.ofNat (n % 256) = UInt8.ofBitVec (BitVec.ofNat 8 n) := by
  apply UInt8.toNat_inj.1
  rw [UInt8.toNat_ofNat']
  show _ = (BitVec.ofNat 8 n).toNat
  rw [BitVec.toNat_ofNat]
  omega
theorem laid_num (v : BitVec 32) : ∃ s, crc_laid.f ((v.toNat : Int)) = some s ∧ L s = four8 v := by
  refine ⟨_, rfl, ?_⟩
  rw [L_nums]
  have hv := v.isLt
  have h0 : ((v.toNat : Int) / 16777216 % 256).toNat = v.toNat / 16777216 % 256 := by omega
  have h1 : ((v.toNat : Int) / 65536 % 256).toNat = v.toNat / 65536 % 256 := by omega
  have h2 : ((v.toNat : Int) / 256 % 256).toNat = v.toNat / 256 % 256 := by omega
  have h3 : ((v.toNat : Int) % 256).toNat = v.toNat % 256 := by omega
  simp only [List.map_cons, List.map_nil, h0, h1, h2, h3, ofNat_mod]
  rfl
theorem four8_length (v : BitVec 32) : (four8 v).length = 4 := rfl
/-- A text with its sum. -/
def sealed (l : List UInt8) : List UInt8 := l ++ four8 (sumB l)
theorem seal_num (s : ByteArray) (h : s.size ≤ 9223372036854775803) : ∃ f, crc_Seal.f s = some f ∧ L f = sealed (L s) := by
  obtain ⟨q, hq, hL⟩ := laid_num (sumB (L s))
  have hs : q.size = 4 := by rw [← L_length, hL, four8_length]
  refine ⟨s ++ q, ?_, by rw [L_append, hL]; rfl⟩
  unfold crc_Seal.f
  rw [sum_num s (by omega)]
  simp only [Option.bind_some]
  rw [hq]
  simp only [Option.bind_some]
  rw [if_pos (by omega)]

/-! the reference -/
theorem ref_seal (s : ByteArray) (hs : s.size ≤ 9223372036854775803) (k : Nat) (hk : s.size + 9 < k) : ∃ f, hogsheadref02_Seal.f k s = some f ∧ L f = sealed (L s) := by
  unfold hogsheadref02_Seal.f
  rw [ref_sum s (by omega) k hk]
  simp only [Option.bind_some]
  rw [size_nums]
  rw [if_pos (by simp; omega)]
  refine ⟨_, rfl, ?_⟩
  rw [L_append, L_nums]
  unfold sealed
  congr 1
  have hv := (sumB (L s)).isLt
  generalize sumB (L s) = v at *
  have e3 : (16777216 : Int) = ((16777216 : Nat) : Int) := rfl
  have e2 : (65536 : Int) = ((65536 : Nat) : Int) := rfl
  have e1 : (256 : Int) = ((256 : Nat) : Int) := rfl
  have h0 : (Int.tdiv ((v.toNat : Int)) 16777216 % 4294967296 % 256).toNat = v.toNat / 16777216 % 256 := by rw [e3, tdiv_nat]; omega
  have h1 : (Int.tdiv ((v.toNat : Int)) 65536 % 4294967296 % 256).toNat = v.toNat / 65536 % 256 := by rw [e2, tdiv_nat]; omega
  have h2 : (Int.tdiv ((v.toNat : Int)) 256 % 4294967296 % 256).toNat = v.toNat / 256 % 256 := by rw [e1, tdiv_nat]; omega
  have h3 : (Int.tmod ((v.toNat : Int)) 256 % 256).toNat = v.toNat % 256 := by rw [e1, tmod_nat]; omega
  simp only [List.map_cons, List.map_nil, h0, h1, h2, h3, ofNat_mod]
  rfl
end Go.Proofs.Ythnhfmmiaknhgaa.CP
namespace Go.Proofs.Ythnhfmmiaknhgaa.CP
open Go.RowKit Go.Proofs.YthnhfmmiaknhgaaW.PrintWords Go.Proofs.YthnhfmmiaknhgaaW.PrintLast Go.Proofs.Ythnhfmmiaknhgaa.PAll Go.Proofs.Ythnhfmmiaknhgaa.PB Go.Proofs.Ythnhfmmiaknhgaa.CM

/-- What a text opens to. -/
def opened (l : List UInt8) : List UInt8 × Int := if l.length < 4 then ([], 2) else if sealed (l.take (l.length - 4)) = l then (l.take (l.length - 4), 0) else ([], 13)
theorem four8_eq {l : List UInt8} (h : 4 ≤ l.length) (v : BitVec 32) : l.drop (l.length - 4) = four8 v ↔ l.take (l.length - 4) ++ four8 v = l := by
  constructor
  · intro e
    rw [← e, List.take_append_drop]
  · intro e
    have h2 := congrArg (List.drop (l.length - 4)) e
    rw [List.drop_append_of_le_length (by rw [List.length_take]; omega), List.drop_of_length_le (by rw [List.length_take]; omega), List.nil_append] at h2
    exact h2.symm
theorem open_num (f : ByteArray) (h : f.size ≤ 9223372036854775807) : ∃ s e, crc_Open.f f = some (s, e) ∧ L s = (opened (L f)).1 ∧ e = (opened (L f)).2 := by
  unfold crc_Open.f opened
  rw [L_length]
  have hw : wrap64 ((f.size : Int) - 4) = (f.size : Int) - 4 := wrap_in (by unfold InR; omega)
  rw [hw]
  by_cases h4 : f.size < 4
  · rw [if_pos (by omega), if_pos h4]
    exact ⟨_, _, rfl, rfl, rfl⟩
  · have et : ((f.size : Int) - 4).toNat = f.size - 4 := by omega
    rw [if_neg (by omega), if_neg h4, if_pos (by omega), if_pos (by omega), et, sum_num _ (by rw [size_le_upto _ _ (by omega)]; omega)]
    simp only [Option.bind_some]
    obtain ⟨q, hq, hL⟩ := laid_num (sumB (L (f.extract 0 (f.size - 4))))
    rw [hq]
    simp only [Option.bind_some]
    rw [L_toList, L_toList, hL, L_from, L_upto]
    have h8 := four8_eq (l := L f) (by rw [L_length]; omega) (sumB ((L f).take (f.size - 4)))
    rw [L_length] at h8
    change _ ↔ sealed ((L f).take (f.size - 4)) = L f at h8
    by_cases hc : (L f).drop (f.size - 4) = four8 (sumB ((L f).take (f.size - 4)))
    · rw [if_pos hc, if_pos (h8.1 hc)]
      exact ⟨_, _, rfl, L_upto _ _, rfl⟩
    · rw [if_neg hc, if_neg (fun h' => hc (h8.2 h'))]
      exact ⟨_, _, rfl, rfl, rfl⟩
theorem ref_open (f : ByteArray) (h : f.size ≤ 9223372036854775807) (k : Nat) (hk : f.size + 9 < k) : ∃ s e, hogsheadref02_Open.f k f = some (s, e) ∧ L s = (opened (L f)).1 ∧ e = (opened (L f)).2 := by
  unfold hogsheadref02_Open.f opened
  rw [L_length]
  by_cases h4 : f.size < 4
  · rw [if_pos (by omega), if_pos h4]
    exact ⟨_, _, rfl, rfl, rfl⟩
  · have hw : wrap64 ((f.size : Int) - 4) = (f.size : Int) - 4 := wrap_in (by unfold InR; omega)
    have et : ((f.size : Int) - 4).toNat = f.size - 4 := by omega
    have hsz := size_le_upto f (f.size - 4) (by omega)
    rw [if_neg (by omega), if_neg h4, hw, if_pos (by omega), if_pos (by omega), et]
    obtain ⟨q, hq, hL⟩ := ref_seal (f.extract 0 (f.size - 4)) (by omega) k (by omega)
    rw [hq]
    simp only [Option.bind_some]
    rw [L_toList, L_toList, hL, L_upto]
    by_cases hc : sealed ((L f).take (f.size - 4)) = L f
    · rw [if_pos hc, if_pos hc]
      exact ⟨_, _, rfl, L_upto _ _, rfl⟩
    · rw [if_neg hc, if_neg hc]
      exact ⟨_, _, rfl, rfl, rfl⟩
end Go.Proofs.Ythnhfmmiaknhgaa.CP
namespace Go.Proofs.Ythnhfmmiaknhgaa.VP
open Go.RowKit Go.Proofs.YthnhfmmiaknhgaaW.PrintWords Go.Proofs.YthnhfmmiaknhgaaW.PrintLast Go.Proofs.Ythnhfmmiaknhgaa.PAll Go.Proofs.Ythnhfmmiaknhgaa.PB

/-- A text of bytes. -/
def B (l : List UInt8) : ByteArray := ⟨l.toArray⟩
theorem L_B (l : List UInt8) : L (B l) = l := rfl
theorem B_size (l : List UInt8) : (B l).size = l.length := by rw [← L_length, L_B]
theorem B_append (a b : List UInt8) : B a ++ B b = B (a ++ b) := L_inj (by rw [L_append, L_B, L_B, L_B])
theorem from_B (s : ByteArray) (a : Nat) : s.extract a s.size = B ((L s).drop a) := L_inj (by rw [L_from, L_B])
theorem upto_B (s : ByteArray) (b : Nat) : s.extract 0 b = B ((L s).take b) := L_inj (by rw [L_upto, L_B])
/-! ### taking -/
/-- The number that goes on behind v. -/
def tk : Nat → List UInt8 → Nat × List UInt8 × Int
  | _, [] => (0, [], 2)
  | v, c :: l => if v > 144115188075855871 then (0, [], 3) else if c.toNat < 128 then (v * 128 + c.toNat, l, 0) else tk (v * 128 + c.toNat % 128) l
/-- The number that begins bytes, what stands behind it, and the error. -/
def takeN (l : List UInt8) : Nat × List UInt8 × Int :=
  match l with
  | [] => (0, [], 2)
  | c :: _ => if c.toNat = 128 then (0, [], 3) else tk 0 l
theorem tk_bound : ∀ (l : List UInt8) (v : Nat), (tk v l).1 < 18446744073709551616
  | [], _ => by simp [tk]
  | c :: l, v => by
    unfold tk
    have := c.toNat_lt
    split
    · simp
    · split
      · simp only
        omega
      · exact tk_bound l _
theorem takeN_bound (l : List UInt8) : (takeN l).1 < 18446744073709551616 := by
  unfold takeN
  split
  · simp
  · split
    · simp
    · exact tk_bound _ _
theorem tk_len : ∀ (l : List UInt8) (v : Nat), (tk v l).2.1.length ≤ l.length
  | [], _ => by simp [tk]
  | c :: l, v => by
    unfold tk
    split
    · simp
    · split
      · simp
      · have := tk_len l (v * 128 + c.toNat % 128)
        simp only [List.length_cons]
        omega
theorem takeN_len (l : List UInt8) : (takeN l).2.1.length ≤ l.length := by
  unfold takeN
  split
  · simp
  · split
    · simp
    · exact tk_len _ _
theorem u64_in {x : Int} (h : 0 ≤ x ∧ x ≤ 18446744073709551615) : IntKind.u64.wrap x = x := by
  rw [IntKind.wrap_u64]
  omega
theorem byte_and (c : Nat) (h : c < 256) : Go.bits .and .u8 (c : Int) 127 = ((c % 128 : Nat) : Int) := by
  rw [show (127 : Int) = ((127 : Nat) : Int) from rfl, u8_and_nat _ _ h (by omega), show (127 : Nat) = 2 ^ 7 - 1 from rfl, Nat.and_two_pow_sub_one_eq_mod]
theorem or_add (v c : Nat) (hv : v ≤ 144115188075855871) (hc : c < 128) : Go.bits .or .u64 ((v * 128 : Nat) : Int) (c : Int) = ((v * 128 + c : Nat) : Int) := by
  rw [u64_or_nat _ _ (by omega) (by omega)]
  have := Nat.two_pow_add_eq_or_of_lt (i := 7) (b := c) (by omega) v
  have e : v * 128 = 2 ^ 7 * v := by omega
  rw [e, this]
theorem take_l0 (s : ByteArray) (hs : s.size ≤ 9223372036854775807) : ∀ (d j : Nat), j ≤ s.size → s.size - j = d → ∀ (k v : Nat), d < k →
    vlq_TakeNum.l0 k s (v : Int) s.size j = some (((tk v ((L s).drop j)).1 : Int), B (tk v ((L s).drop j)).2.1, (tk v ((L s).drop j)).2.2) := by
  intro d
  induction d with
  | zero =>
    intro j hj hd k v hk
    obtain ⟨k, rfl⟩ := succ_of hk
    simp only [vlq_TakeNum.l0]
    rw [if_neg (by omega), List.drop_of_length_le (by rw [L_length]; omega)]
    rfl
  | succ d ih =>
    intro j hj hd k v hk
    have hlt : j < s.size := by omega
    have hlt' : j < (L s).length := by rw [L_length]; exact hlt
    obtain ⟨k, rfl⟩ := succ_of hk
    simp only [vlq_TakeNum.l0]
    rw [if_pos (by omega), List.drop_eq_getElem_cons hlt']
    simp only [tk]
    by_cases hv : v > 144115188075855871
    · rw [if_pos (by omega), if_pos hv]
      rfl
    · have hc := ((L s)[j]).toNat_lt
      rw [if_neg (by omega), if_neg hv, if_pos (by omega), if_pos (by omega), bt_L s j hlt, wrap_succ hlt hs]
      have e1 : IntKind.u64.wrap ((v : Int) * 128) = ((v * 128 : Nat) : Int) := by rw [u64_in (by omega)]; omega
      rw [byte_and _ hc, e1, u64_in (x := (((L s)[j].toNat % 128 : Nat) : Int)) (by omega), or_add v _ (by omega) (by omega)]
      by_cases h8 : (L s)[j].toNat < 128
      · rw [if_pos (by omega), if_pos h8, if_pos (by omega), if_pos (by omega), Int.toNat_natCast, from_B]
        have e2 : (L s)[j].toNat % 128 = (L s)[j].toNat := by omega
        rw [e2]
      · rw [if_neg (by omega), if_neg h8]
        exact ih (j + 1) (by omega) (by omega) k _ (by omega)
theorem take_num (s : ByteArray) (hs : s.size ≤ 9223372036854775807) (k : Nat) (hk : s.size < k) :
    vlq_TakeNum.f k s = some (((takeN (L s)).1 : Int), B (takeN (L s)).2.1, (takeN (L s)).2.2) := by
  unfold vlq_TakeNum.f takeN
  rw [L_toList]
  have hl := L_length s
  have h0 := take_l0 s hs s.size 0 (by omega) (by omega) k 0 hk
  rw [List.drop_zero] at h0
  have hb := bt_L s 0
  cases hL : L s with
  | nil => rw [if_pos rfl]; rfl
  | cons c l =>
    rw [hL, List.length_cons] at hl
    have hb := hb (by omega)
    simp only [hL, List.getElem_cons_zero] at hb
    rw [if_neg (by simp), if_pos (by omega), show bt s 0 = (c.toNat : Int) from hb]
    simp only
    by_cases h : c.toNat = 128
    · rw [if_pos (by omega), if_pos h]
      rfl
    · rw [if_neg (by omega), if_neg h, ← hL]
      exact h0
/-! the reference -/
theorem rtake_l0 (s : ByteArray) (hs : s.size ≤ 9223372036854775807) : ∀ (d j : Nat), j ≤ s.size → s.size - j = d → ∀ (k v : Nat), d < k →
    hogsheadref01_TakeNum.l0 k s (v : Int) j = some (((tk v ((L s).drop j)).1 : Int), B (tk v ((L s).drop j)).2.1, (tk v ((L s).drop j)).2.2) := by
  intro d
  induction d with
  | zero =>
    intro j hj hd k v hk
    obtain ⟨k, rfl⟩ := succ_of hk
    simp only [hogsheadref01_TakeNum.l0]
    rw [if_neg (by omega), List.drop_of_length_le (by rw [L_length]; omega)]
    rfl
  | succ d ih =>
    intro j hj hd k v hk
    have hlt : j < s.size := by omega
    have hlt' : j < (L s).length := by rw [L_length]; exact hlt
    obtain ⟨k, rfl⟩ := succ_of hk
    simp only [hogsheadref01_TakeNum.l0]
    rw [if_pos (by omega), List.drop_eq_getElem_cons hlt']
    simp only [tk]
    by_cases hv : v > 144115188075855871
    · rw [if_pos (by omega), if_pos hv]
      rfl
    · have hc := ((L s)[j]).toNat_lt
      rw [if_neg (by omega), if_neg hv, if_pos (by omega), bt_L s j hlt, wrap_succ hlt hs]
      have e0 : Int.tmod ((L s)[j].toNat : Int) 128 = (((L s)[j].toNat % 128 : Nat) : Int) := by rw [Int.tmod_eq_emod_of_nonneg (by omega)]; omega
      have e1 : IntKind.u64.wrap ((v : Int) * 128) = ((v * 128 : Nat) : Int) := by rw [u64_in (by omega)]; omega
      have e3 : IntKind.u64.wrap (((v * 128 : Nat) : Int) + (((L s)[j].toNat % 128 : Nat) : Int)) = ((v * 128 + (L s)[j].toNat % 128 : Nat) : Int) := by rw [u64_in (by omega)]; omega
      rw [e0, e1, u64_in (x := (((L s)[j].toNat % 128 : Nat) : Int)) (by omega), e3]
      by_cases h8 : (L s)[j].toNat < 128
      · rw [if_pos (by omega), if_pos h8, if_pos (by omega), if_pos (by omega), Int.toNat_natCast, from_B]
        have e2 : (L s)[j].toNat % 128 = (L s)[j].toNat := by omega
        rw [e2]
      · rw [if_neg (by omega), if_neg h8]
        exact ih (j + 1) (by omega) (by omega) k _ (by omega)
theorem rtake_num (s : ByteArray) (hs : s.size ≤ 9223372036854775807) (k : Nat) (hk : s.size < k) :
    hogsheadref01_TakeNum.f k s = some (((takeN (L s)).1 : Int), B (takeN (L s)).2.1, (takeN (L s)).2.2) := by
  unfold hogsheadref01_TakeNum.f takeN
  have hl := L_length s
  have h0 := rtake_l0 s hs s.size 0 (by omega) (by omega) k 0 hk
  rw [List.drop_zero] at h0
  have hb := bt_L s 0
  cases hL : L s with
  | nil =>
    rw [hL, List.length_nil] at hl
    rw [if_pos (by omega)]
    rfl
  | cons c l =>
    rw [hL, List.length_cons] at hl
    have hb := hb (by omega)
    simp only [hL, List.getElem_cons_zero] at hb
    rw [if_neg (by omega), if_pos (by omega), show bt s 0 = (c.toNat : Int) from hb]
    simp only
    by_cases h : c.toNat = 128
    · rw [if_pos (by omega), if_pos h]
      rfl
    · rw [if_neg (by omega), if_neg h, ← hL]
      exact h0

/-- The text that begins bytes, what stands behind it, and the error. -/
def takeT (l : List UInt8) (most : Int) : List UInt8 × List UInt8 × Int :=
  if (takeN l).2.2 = 0 then
    if most < 0 ∨ ((takeN l).1 : Int) > most then ([], [], 4)
    else if (takeN l).1 > (takeN l).2.1.length then ([], [], 2) else ((takeN l).2.1.take (takeN l).1, (takeN l).2.1.drop (takeN l).1, 0)
  else ([], [], (takeN l).2.2)
theorem take_text (s : ByteArray) (most : Int) (hm : InR most) (hs : s.size ≤ 9223372036854775807) (k : Nat) (hk : s.size + 1 < k) :
    vlq_TakeText.f k s most = some (B (takeT (L s) most).1, B (takeT (L s) most).2.1, (takeT (L s) most).2.2) := by
  unfold vlq_TakeText.f takeT
  unfold InR at hm
  rw [take_num s hs k (by omega)]
  simp only [Option.bind_some]
  have hb := takeN_bound (L s)
  have hl := takeN_len (L s)
  rw [L_length] at hl
  generalize takeN (L s) = t at *
  by_cases he : t.2.2 = 0
  · rw [if_pos he, if_pos he]
    obtain ⟨k, rfl⟩ := succ_of (show 0 < k by omega)
    simp only [vlq_TakeText.j0, B_size]
    by_cases h1 : most < 0
    · rw [if_pos h1, if_pos trivial, if_pos (.inl h1)]
      rfl
    · rw [if_neg h1, u64_in (x := most) (by omega), u64_in (x := ((t.2.1.length : Nat) : Int)) (by omega)]
      by_cases h2 : (t.1 : Int) > most
      · rw [if_pos (decide_eq_true h2), if_pos (.inr h2)]
        rfl
      · rw [if_neg (by simpa using h2), if_neg (show ¬ (most < 0 ∨ (t.1 : Int) > most) by omega)]
        by_cases h3 : t.1 > t.2.1.length
        · rw [if_pos (by omega), if_pos h3]
          rfl
        · rw [if_neg (by omega), if_neg h3, if_pos (by omega), if_pos (by omega), Int.toNat_natCast, ← B_size, from_B, upto_B, L_B]
  · rw [if_neg he, if_neg he]
    rfl
theorem rtake_text (s : ByteArray) (most : Int) (hm : InR most) (hs : s.size ≤ 9223372036854775807) (k : Nat) (hk : s.size + 1 < k) :
    hogsheadref01_TakeText.f k s most = some (B (takeT (L s) most).1, B (takeT (L s) most).2.1, (takeT (L s) most).2.2) := by
  unfold hogsheadref01_TakeText.f takeT
  unfold InR at hm
  rw [rtake_num s hs k (by omega)]
  simp only [Option.bind_some]
  have hb := takeN_bound (L s)
  have hl := takeN_len (L s)
  rw [L_length] at hl
  generalize takeN (L s) = t at *
  by_cases he : t.2.2 = 0
  · rw [if_pos he, if_pos he]
    obtain ⟨k, rfl⟩ := succ_of (show 0 < k by omega)
    simp only [hogsheadref01_TakeText.j0, B_size]
    by_cases h1 : most < 0
    · rw [if_pos h1, if_pos trivial, if_pos (.inl h1)]
      rfl
    · rw [if_neg h1, u64_in (x := most) (by omega), u64_in (x := ((t.2.1.length : Nat) : Int)) (by omega)]
      by_cases h2 : (t.1 : Int) > most
      · rw [if_pos (decide_eq_true h2), if_pos (.inr h2)]
        rfl
      · rw [if_neg (by simpa using h2), if_neg (show ¬ (most < 0 ∨ (t.1 : Int) > most) by omega)]
        by_cases h3 : t.1 > t.2.1.length
        · rw [if_pos (by omega), if_pos h3]
          rfl
        · rw [if_neg (by omega), if_neg h3, if_pos (by omega), if_pos (by omega), Int.toNat_natCast, ← B_size, from_B, upto_B, L_B]
  · rw [if_neg he, if_neg he]
    rfl

/-! ### writing -/
/-- The groups of x, each with 128 besides. -/
def hiG : Nat → Nat → List UInt8
  | 0, _ => []
  | n + 1, x => if x = 0 then [] else hiG n (x / 128) ++ [UInt8.ofNat (x % 128 + 128)]
/-- A number's bytes. -/
def numL (v : Nat) : List UInt8 := hiG 10 (v / 128) ++ [UInt8.ofNat (v % 128)]
theorem more_hiG : ∀ (n x : Nat) (acc : List Int), (vlq_more n x acc).map (fun y => UInt8.ofNat y.toNat) = hiG n x ++ acc.map fun y => UInt8.ofNat y.toNat
  | 0, _, _ => rfl
  | n + 1, x, acc => by
    unfold vlq_more hiG
    split
    · rfl
    · rw [more_hiG n, List.append_assoc, List.map_cons]
      congr 2
theorem num_num (v : Nat) (h : v < 18446744073709551616) : vlq_Num.f (v : Int) = some (B (numL v)) := by
  unfold vlq_Num.f
  rw [if_pos (by omega), if_pos (by omega), Int.toNat_natCast]
  refine congrArg some (L_inj ?_)
  rw [L_nums, L_B]
  unfold vlq_digits numL
  rw [more_hiG]
  rfl
theorem hiG_length_le : ∀ (n x : Nat), (hiG n x).length ≤ n
  | 0, _ => by simp [hiG]
  | n + 1, x => by
    unfold hiG
    split
    · simp
    · have := hiG_length_le n (x / 128)
      simp
      omega
theorem numL_length_le (v : Nat) : (numL v).length ≤ 11 := by
  have := hiG_length_le 10 (v / 128)
  unfold numL
  simp
  omega
theorem rnum_l0 : ∀ (n x k : Nat) (l : List UInt8), x < 128 ^ n → n < k → x < 18446744073709551616 → l.length + n ≤ 1000 → hogsheadref01_Num.l0 k (x : Int) (B l) = some (B (hiG n x ++ l))
  | 0, x, k, l, h, hk, _, _ => by
    obtain ⟨k, rfl⟩ := succ_of hk
    have : x = 0 := by simpa using h
    subst this
    simp only [hogsheadref01_Num.l0]
    rw [if_neg (by omega)]
    rfl
  | n + 1, x, k, l, h, hk, hx, hl => by
    obtain ⟨k, rfl⟩ := succ_of (show 0 < k by omega)
    rw [Nat.pow_succ] at h
    simp only [hogsheadref01_Num.l0]
    by_cases h0 : x = 0
    · subst h0
      rw [if_neg (by omega)]
      rfl
    · rw [if_pos (by omega)]
      simp only [Option.bind_some]
      have e0 : Int.tmod (x : Int) 128 = ((x % 128 : Nat) : Int) := by rw [Int.tmod_eq_emod_of_nonneg (by omega)]; omega
      have e1 : Int.tdiv (x : Int) 128 = ((x / 128 : Nat) : Int) := by rw [Int.tdiv_eq_ediv_of_nonneg (by omega)]; omega
      have e2 : (((x % 128 : Nat) : Int) % 256 + 128) % 256 = ((x % 128 + 128 : Nat) : Int) := by omega
      rw [e0, e1, e2, u64_in (by omega)]
      have e3 : strOfNums [((x % 128 + 128 : Nat) : Int)] = B [UInt8.ofNat (x % 128 + 128)] := by
        refine L_inj ?_
        rw [L_nums]
        rfl
      rw [e3, B_append, B_size, B_size, if_pos (by simp; omega), rnum_l0 n (x / 128) k _ (by omega) (by omega) (by omega) (by simp; omega)]
      rw [hiG, if_neg h0, List.append_assoc]
  termination_by n => n
theorem rnum_num (v : Nat) (h : v < 18446744073709551616) (k : Nat) (hk : 10 < k) : hogsheadref01_Num.f k (v : Int) = some (B (numL v)) := by
  unfold hogsheadref01_Num.f
  have e0 : Int.tmod (v : Int) 128 = ((v % 128 : Nat) : Int) := by rw [Int.tmod_eq_emod_of_nonneg (by omega)]; omega
  have e1 : Int.tdiv (v : Int) 128 = ((v / 128 : Nat) : Int) := by rw [Int.tdiv_eq_ediv_of_nonneg (by omega)]; omega
  rw [e0, e1, u64_in (by omega)]
  have e3 : strOfNums [((v % 128 : Nat) : Int) % 256] = B [UInt8.ofNat (v % 128)] := by
    refine L_inj ?_
    rw [L_nums, L_B, List.map_cons, List.map_nil]
    have : (((v % 128 : Nat) : Int) % 256).toNat = v % 128 := by omega
    rw [this]
  rw [e3, rnum_l0 10 (v / 128) k _ (by omega) hk (by omega) (by simp)]
  rfl
/-- A text's bytes. -/
def textL (l : List UInt8) : List UInt8 := numL l.length ++ l
theorem text_num (s : ByteArray) (hs : s.size ≤ 9223372036854775700) : vlq_Text.f s = some (B (textL (L s))) := by
  unfold vlq_Text.f
  rw [u64_in (by omega), num_num _ (by omega)]
  have hl := numL_length_le s.size
  simp only [Option.bind_some]
  rw [B_size, if_pos (by omega)]
  refine congrArg some (L_inj ?_)
  rw [L_append, L_B, L_B]
  unfold textL
  rw [L_length]
theorem rtext_num (s : ByteArray) (hs : s.size ≤ 9223372036854775700) (k : Nat) (hk : 10 < k) : hogsheadref01_Text.f k s = some (B (textL (L s))) := by
  unfold hogsheadref01_Text.f
  rw [u64_in (by omega), rnum_num _ (by omega) k hk]
  have hl := numL_length_le s.size
  simp only [Option.bind_some]
  rw [B_size, if_pos (by omega)]
  refine congrArg some (L_inj ?_)
  rw [L_append, L_B, L_B]
  unfold textL
  rw [L_length]

end Go.Proofs.Ythnhfmmiaknhgaa.VP
namespace Go.Proofs.Ythnhfmmiaknhgaa.DP
open Go.RowKit Go.Proofs.YthnhfmmiaknhgaaW.PrintWords Go.Proofs.YthnhfmmiaknhgaaW.PrintLast Go.Proofs.Ythnhfmmiaknhgaa.PAll Go.Proofs.Ythnhfmmiaknhgaa.PB
abbrev W := S77
/-- One write that is done, and all of a list. -/
def wr1 (s : List ByteArray) (x : W) : List ByteArray := if 0 ≤ x.f0 ∧ x.f0 < (s.length : Int) then s.set x.f0.toNat x.f1 else s
def wrs (l : List W) (s : List ByteArray) : List ByteArray := l.foldl wr1 s
theorem wr1_length (s : List ByteArray) (x : W) : (wr1 s x).length = s.length := by
  unfold wr1
  split
  · simp
  · rfl
theorem wrs_length (l : List W) : ∀ s : List ByteArray, (wrs l s).length = s.length := by
  induction l with
  | nil => intro s; rfl
  | cons x l ih =>
    intro s
    show (wrs l (wr1 s x)).length = _
    rw [ih, wr1_length]
/-- What Put comes to. -/
def putD (l0 : List ByteArray) (l1 : List W) (a2 : Int) (a3 : Bool) (slot : Int) (s : ByteArray) : List ByteArray × List W × Int × Bool × Int :=
  if a3 = true then (l0, l1, a2, a3, 6) else if 0 ≤ slot ∧ slot < (l0.length : Int) then
    if (s.size : Int) > 1024 then (l0, l1, a2, a3, 4) else
      if a2 = 0 then (l0, l1 ++ [⟨slot, s⟩], a2, true, 6) else if a2 > 0 then (l0, l1 ++ [⟨slot, s⟩], wrap64 (a2 - 1), a3, 0) else (l0, l1 ++ [⟨slot, s⟩], a2, a3, 0)
    else (l0, l1, a2, a3, 1)
/-- What Get comes to. -/
def getD (l0 : List ByteArray) (l1 : List W) (slot : Int) : ByteArray × Int := if 0 ≤ slot ∧ slot < (l0.length : Int) then (disk_last l1 slot (l0.getD slot.toNat ⟨#[]⟩), 0) else (⟨#[]⟩, 1)
/-- How many writes a crash keeps, and what it makes of the next one. -/
def keptN (l1 : List W) (keep : Int) : Nat := min keep.toNat l1.length
def tornW (x : W) (tear : Int) : W := ⟨x.f0, x.f1.extract 0 (min tear.toNat x.f1.size)⟩
def crashS (l0 : List ByteArray) (l1 : List W) (keep tear : Int) : List ByteArray :=
  if 0 ≤ tear then wrs ((l1.drop (keptN l1 keep)).take 1 |>.map (tornW · tear)) (wrs (l1.take (keptN l1 keep)) l0) else wrs (l1.take (keptN l1 keep)) l0
/-- Whatever Put answers, its slots stay, and at most one write more waits. -/
theorem put_any (l0 : List ByteArray) (l1 : List W) (a2 : Int) (a3 : Bool) (slot : Int) (s : ByteArray) :
    (putD l0 l1 a2 a3 slot s).1 = l0 ∧ ((putD l0 l1 a2 a3 slot s).2.1 = l1 ∨ (putD l0 l1 a2 a3 slot s).2.1 = l1 ++ [⟨slot, s⟩]) := by
  unfold putD
  split
  · exact ⟨rfl, .inl rfl⟩
  · split
    · split
      · exact ⟨rfl, .inl rfl⟩
      · split
        · exact ⟨rfl, .inr rfl⟩
        · split
          · exact ⟨rfl, .inr rfl⟩
          · exact ⟨rfl, .inr rfl⟩
    · exact ⟨rfl, .inl rfl⟩
end Go.Proofs.Ythnhfmmiaknhgaa.DP
namespace Go.Proofs.Ythnhfmmiaknhgaa.DP
open Go.RowKit Go.Proofs.YthnhfmmiaknhgaaW.PrintWords Go.Proofs.YthnhfmmiaknhgaaW.PrintLast Go.Proofs.Ythnhfmmiaknhgaa.PAll Go.Proofs.Ythnhfmmiaknhgaa.PB
theorem has_is (l0 : List ByteArray) (l1 : List W) (a2 : Int) (a3 : Bool) (i : Int) : disk_has.f l0 l1 a2 a3 i = some (decide (0 ≤ i ∧ i < (l0.length : Int))) := by
  unfold disk_has.f
  by_cases h0 : i ≥ 0
  · rw [if_pos h0]
    simp [h0]
  · rw [if_neg h0]
    simp [h0]
theorem put_is (l0 : List ByteArray) (l1 : List W) (a2 : Int) (a3 : Bool) (slot : Int) (s : ByteArray) (h1 : l1.length < 5864062014805) : disk_Put.f l0 l1 a2 a3 slot s = some (putD l0 l1 a2 a3 slot s) := by
  unfold disk_Put.f putD
  rw [has_is, Option.bind_some]
  have hc : api_Write.f l1 = some l1 := by
    unfold api_Write.f
    rw [if_pos (by omega)]
  rw [hc]
  simp only [Option.bind_some, if_pos h1]
  by_cases c1 : a3 = true
  · simp [c1]
  · by_cases c2 : 0 ≤ slot ∧ slot < (l0.length : Int)
    · simp only [if_neg c1, if_pos c2, decide_eq_true c2, if_true]
      by_cases c3 : (s.size : Int) > 1024
      · simp only [if_pos c3]
      · simp only [if_neg c3]
        by_cases c4 : a2 = 0
        · simp only [if_pos c4]
        · simp only [if_neg c4]
          by_cases c5 : a2 > 0
          · simp only [if_pos c5]
          · simp only [if_neg c5]
    · simp only [if_neg c1, if_neg c2, decide_eq_false c2]
      rfl
theorem get_is (l0 : List ByteArray) (l1 : List W) (a2 : Int) (a3 : Bool) (slot : Int) : disk_Get.f l0 l1 a2 a3 slot = some (getD l0 l1 slot) := by
  unfold disk_Get.f getD
  split <;> rfl
end Go.Proofs.Ythnhfmmiaknhgaa.DP
namespace Go.Proofs.Ythnhfmmiaknhgaa.DP
open Go.RowKit Go.Proofs.YthnhfmmiaknhgaaW.PrintWords Go.Proofs.YthnhfmmiaknhgaaW.PrintLast Go.Proofs.Ythnhfmmiaknhgaa.PAll Go.Proofs.Ythnhfmmiaknhgaa.PB
theorem rput_is (l0 : List ByteArray) (l1 : List W) (a2 : Int) (a3 : Bool) (slot : Int) (s : ByteArray) (h1 : l1.length < 5864062014805) (k : Nat) (hk : 0 < k) : hogsheadref08_Put.f k l0 l1 a2 a3 slot s = some (putD l0 l1 a2 a3 slot s) := by
  obtain ⟨k, rfl⟩ := succ_of hk
  unfold hogsheadref08_Put.f putD
  by_cases c1 : a3 = true
  · rw [if_pos c1, if_pos c1]
  · rw [if_neg c1, if_neg c1]
    by_cases c2 : 0 ≤ slot ∧ slot < (l0.length : Int)
    · rw [if_neg (by omega), decide_eq_false (by omega), hogsheadref08_Put.j0, if_neg (by decide), if_pos c2]
      by_cases c3 : (s.size : Int) > 1024
      · rw [if_pos c3, if_pos c3]
      · rw [if_neg c3, if_neg c3]
        simp only [Option.bind_some, List.nil_append, List.length_nil, Nat.zero_add]
        rw [if_pos h1, if_pos h1]
        by_cases c4 : a2 = 0
        · rw [if_pos c4, if_pos c4]
        · rw [if_neg c4, if_neg c4]
          by_cases c5 : a2 > 0
          · rw [if_pos c5, if_pos c5]
          · rw [if_neg c5, if_neg c5]
    · rw [if_neg c2]
      by_cases c0 : slot < 0
      · rw [if_pos c0, hogsheadref08_Put.j0, if_pos rfl]
      · rw [if_neg c0, decide_eq_true (by omega), hogsheadref08_Put.j0, if_pos rfl]

theorem rget_loop (l0 : List ByteArray) (l1 : List W) (a2 : Int) (a3 : Bool) (slot : Int) (hl : l1.length ≤ 9223372036854775807) :
    ∀ (m i k : Nat) (s : ByteArray), i + m = l1.length → m < k → hogsheadref08_Get.l0 k slot s i l0 l1 a2 a3 = some (disk_last (l1.drop i) slot s, 0)
  | 0, i, k, s, hi, hk => by
    obtain ⟨k, rfl⟩ := succ_of hk
    rw [hogsheadref08_Get.l0, if_neg (by omega), List.drop_eq_nil_of_le (by omega)]
    rfl
  | m + 1, i, k, s, hi, hk => by
    obtain ⟨k, rfl⟩ := succ_of (show 0 < k by omega)
    have hx : l1.drop i = rd_T77 l1 (i : Int) :: l1.drop (i + 1) := by
      rw [List.drop_eq_getElem_cons (by omega)]
      unfold rd_T77
      rw [Int.toNat_natCast, List.getD_eq_getElem?_getD, List.getElem?_eq_getElem (by omega)]
      rfl
    rw [hogsheadref08_Get.l0, if_pos (by omega), if_pos (by omega), hx, wrap_succ (n := l1.length) (by omega) hl]
    generalize rd_T77 l1 (i : Int) = x
    show _ = some (disk_last (l1.drop (i + 1)) slot (if x.f0 = slot then x.f1 else s), 0)
    by_cases e : x.f0 = slot
    · rw [if_pos e, if_pos e]
      exact rget_loop l0 l1 a2 a3 slot hl m (i + 1) k _ (by omega) (by omega)
    · rw [if_neg e, if_neg e]
      exact rget_loop l0 l1 a2 a3 slot hl m (i + 1) k _ (by omega) (by omega)
theorem rget_is (l0 : List ByteArray) (l1 : List W) (a2 : Int) (a3 : Bool) (slot : Int) (hl : l1.length ≤ 9223372036854775807) (k : Nat) (hk : l1.length + 1 < k) : hogsheadref08_Get.f k l0 l1 a2 a3 slot = some (getD l0 l1 slot) := by
  obtain ⟨k, rfl⟩ := succ_of (show 0 < k by omega)
  unfold hogsheadref08_Get.f getD
  by_cases c2 : 0 ≤ slot ∧ slot < (l0.length : Int)
  · rw [if_neg (by omega), decide_eq_false (by omega), hogsheadref08_Get.j0, if_neg (by decide), if_pos c2.1, if_pos c2.2, if_pos c2]
    have := rget_loop l0 l1 a2 a3 slot hl l1.length 0 k (l0.getD slot.toNat ⟨#[]⟩) (by omega) (by omega)
    rw [List.drop_zero] at this
    exact this
  · rw [if_neg c2]
    by_cases c0 : slot < 0
    · rw [if_pos c0, hogsheadref08_Get.j0, if_pos rfl]
    · rw [if_neg c0, decide_eq_true (by omega), hogsheadref08_Get.j0, if_pos rfl]

theorem rdone_loop (l0 : List ByteArray) (l1 : List W) (a2 : Int) (a3 : Bool) (n : Nat) (hn : n ≤ l1.length) (hl : l1.length ≤ 9223372036854775807) :
    ∀ (m i : Nat) (s : List ByteArray) (k : Nat), i + m = n → m < k → hogsheadref08_done.l0 k n s i l0 l1 a2 a3 = some (wrs ((l1.take n).drop i) s)
  | 0, i, s, k, hi, hk => by
    obtain ⟨k, rfl⟩ := succ_of hk
    rw [hogsheadref08_done.l0, if_neg (by omega), List.drop_eq_nil_of_le (by rw [List.length_take]; omega)]
    rfl
  | m + 1, i, s, k, hi, hk => by
    obtain ⟨k, rfl⟩ := succ_of (show 0 < k by omega)
    have hx : (l1.take n).drop i = rd_T77 l1 (i : Int) :: (l1.take n).drop (i + 1) := by
      rw [List.drop_eq_getElem_cons (by rw [List.length_take]; omega), List.getElem_take]
      unfold rd_T77
      rw [Int.toNat_natCast, List.getD_eq_getElem?_getD, List.getElem?_eq_getElem (by omega)]
      rfl
    rw [hogsheadref08_done.l0, if_pos (by omega), if_pos (by omega), if_pos (by omega), hx]
    rw [wrap_succ (n := n) (by omega) (by omega)]
    generalize rd_T77 l1 (i : Int) = x
    show _ = some (wrs _ (wr1 s x))
    unfold wr1
    by_cases h0 : x.f0 ≥ 0
    · rw [if_pos h0]
      by_cases h1 : x.f0 < (s.length : Int)
      · rw [if_pos h1, if_pos h0, if_pos ⟨h0, h1⟩]
        exact rdone_loop l0 l1 a2 a3 n hn hl m (i + 1) _ k (by omega) (by omega)
      · rw [if_neg h1, if_neg (by omega)]
        exact rdone_loop l0 l1 a2 a3 n hn hl m (i + 1) _ k (by omega) (by omega)
    · rw [if_neg h0, if_neg (by omega)]
      exact rdone_loop l0 l1 a2 a3 n hn hl m (i + 1) _ k (by omega) (by omega)
theorem rdone_is (l0 : List ByteArray) (l1 : List W) (a2 : Int) (a3 : Bool) (n : Nat) (hn : n ≤ l1.length) (hl : l1.length ≤ 9223372036854775807) (h0 : l0.length < 8796093022208) (k : Nat) (hk : n < k) :
    hogsheadref08_done.f k l0 l1 a2 a3 n = some (wrs (l1.take n) l0) := by
  unfold hogsheadref08_done.f
  rw [Option.bind_some, List.nil_append, List.length_nil, Nat.zero_add, if_pos h0]
  exact rdone_loop l0 l1 a2 a3 n hn hl n 0 l0 k (by omega) hk
theorem rflush_is (l0 : List ByteArray) (l1 : List W) (a2 : Int) (a3 : Bool) (hl : l1.length ≤ 9223372036854775807) (h0 : l0.length < 8796093022208) (k : Nat) (hk : l1.length < k) :
    hogsheadref08_Flush.f k l0 l1 a2 a3 = some (if a3 = true then (l0, l1, a2, a3, 6) else (wrs l1 l0, [], a2, false, 0)) := by
  unfold hogsheadref08_Flush.f
  rw [rdone_is l0 l1 a2 a3 l1.length (Nat.le_refl _) hl h0 k hk, List.take_length, Option.bind_some]
  split <;> rfl

/-- Are two lists of texts the same? -/
theorem rsame_loop (a b : List ByteArray) (hl : a.length = b.length) (hm : a.length ≤ 9223372036854775807) :
    ∀ (m i k : Nat), i + m = a.length → m < k → hogsheadref01_Same.l0 k a b i = some (decide (a.drop i = b.drop i))
  | 0, i, k, hi, hk => by
    obtain ⟨k, rfl⟩ := succ_of hk
    rw [hogsheadref01_Same.l0, if_neg (by omega), List.drop_eq_nil_of_le (by omega), List.drop_eq_nil_of_le (by omega)]
    rfl
  | m + 1, i, k, hi, hk => by
    obtain ⟨k, rfl⟩ := succ_of (show 0 < k by omega)
    rw [hogsheadref01_Same.l0, if_pos (by omega), if_pos (by omega), if_pos (by omega), wrap_succ (n := a.length) (by omega) hm, rsame_loop a b hl hm m (i + 1) k (by omega) (by omega)]
    rw [drop_getD (l := a) (j := i) ByteArray.empty (by omega), drop_getD (l := b) (j := i) ByteArray.empty (by omega)]
    show (if (a.getD i ByteArray.empty).toList = (b.getD i ByteArray.empty).toList then _ else _) = _
    by_cases e : a.getD i ByteArray.empty = b.getD i ByteArray.empty
    · rw [if_pos (by rw [e]), e]
      simp
    · rw [if_neg (fun h => e (L_inj (by rw [← L_toList, ← L_toList]; exact h)))]
      symm
      rw [Option.some_inj, decide_eq_false_iff_not]
      intro h
      injection h with h1 h2
      exact e h1
theorem rsame_is (a b : List ByteArray) (hm : a.length ≤ 9223372036854775807) (k : Nat) (hk : a.length < k) : hogsheadref01_Same.f k a b = some (decide (a = b)) := by
  unfold hogsheadref01_Same.f
  by_cases c : (a.length : Int) = (b.length : Int)
  · rw [if_pos c, show (0 : Int) = ((0 : Nat) : Int) from rfl, rsame_loop a b (by omega) hm a.length 0 k (by omega) hk]
    simp
  · rw [if_neg c, decide_eq_false]
    intro e
    exact c (by rw [e])

noncomputable instance decW : DecidableEq W := fun _ _ => Classical.propDecidable _
theorem w_eq {x y : W} : (!(x.f0 == y.f0) || (!(x.f1.toList == y.f1.toList))) = true ↔ x ≠ y := by
  cases x with
  | mk a b =>
    cases y with
    | mk c d =>
      simp only [Bool.or_eq_true, Bool.not_eq_true', beq_eq_false_iff_ne, ne_eq, L_toList]
      constructor
      · rintro h e
        injection e with e1 e2
        rcases h with h | h
        · exact h e1
        · exact h (by rw [e2])
      · intro h
        by_cases e : a = c
        · exact .inr (fun h2 => h (by rw [e, L_inj h2]))
        · exact .inl e
theorem wsame_loop (l0 : List ByteArray) (l1 : List W) (a2 : Int) (a3 : Bool) (m0 : List ByteArray) (m1 : List W) (b2 : Int) (b3 : Bool) (hl : l1.length = m1.length) (hm : l1.length ≤ 9223372036854775807) :
    ∀ (m i k : Nat), i + m = l1.length → m < k → hogsheadref08_Same.l0 k i l0 l1 a2 a3 m0 m1 b2 b3 = some (decide (l1.drop i = m1.drop i))
  | 0, i, k, hi, hk => by
    obtain ⟨k, rfl⟩ := succ_of hk
    rw [hogsheadref08_Same.l0, if_neg (by omega), List.drop_eq_nil_of_le (by omega), List.drop_eq_nil_of_le (by omega)]
    simp
  | m + 1, i, k, hi, hk => by
    obtain ⟨k, rfl⟩ := succ_of (show 0 < k by omega)
    rw [hogsheadref08_Same.l0, if_pos (by omega), if_pos (by omega), if_pos (by omega), wrap_succ (n := l1.length) (by omega) hm, wsame_loop l0 l1 a2 a3 m0 m1 b2 b3 hl hm m (i + 1) k (by omega) (by omega)]
    rw [drop_getD (l := l1) (j := i) z77 (by omega), drop_getD (l := m1) (j := i) z77 (by omega)]
    have e1 : rd_T77 l1 (i : Int) = l1.getD i z77 := rfl
    have e2 : rd_T77 m1 (i : Int) = m1.getD i z77 := rfl
    rw [e1, e2]
    by_cases e : l1.getD i z77 = m1.getD i z77
    · rw [if_neg (fun h => (w_eq.1 h) e), e]
      simp
    · rw [if_pos (w_eq.2 e)]
      symm
      rw [Option.some_inj, decide_eq_false_iff_not]
      intro h
      injection h with h1 h2
      exact e h1
/-- Are two disks the same? -/
theorem dsame_is (l0 : List ByteArray) (l1 : List W) (a2 : Int) (a3 : Bool) (m0 : List ByteArray) (m1 : List W) (b2 : Int) (b3 : Bool) (h0 : l0.length ≤ 9223372036854775807) (h1 : l1.length ≤ 9223372036854775807) (k : Nat) (hk : l0.length + l1.length + 2 < k) :
    hogsheadref08_Same.f k l0 l1 a2 a3 m0 m1 b2 b3 = some (decide (l0 = m0 ∧ l1 = m1 ∧ a2 = b2 ∧ a3 = b3)) := by
  unfold hogsheadref08_Same.f
  rw [rsame_is l0 m0 h0 k (by omega), Option.bind_some]
  obtain ⟨k, rfl⟩ := succ_of (show 0 < k by omega)
  by_cases c0 : l0 = m0
  · rw [if_pos (decide_eq_true c0)]
    by_cases c1 : (l1.length : Int) = (m1.length : Int)
    · rw [if_pos c1]
      by_cases c2 : a2 = b2
      · rw [if_pos c2, hogsheadref08_Same.j0]
        by_cases c3 : a3 = b3
        · rw [if_neg (by rw [c3]; simp), show (0 : Int) = ((0 : Nat) : Int) from rfl, wsame_loop _ _ _ _ _ _ _ _ (by omega) h1 l1.length 0 k (by omega) (by omega)]
          simp [c0, c2, c3]
        · rw [if_pos (by simpa using c3)]
          simp [c3]
      · rw [if_neg c2, hogsheadref08_Same.j0, if_pos rfl]
        simp [c2]
    · rw [if_neg c1, hogsheadref08_Same.j0, if_pos rfl]
      symm
      rw [Option.some_inj, decide_eq_false_iff_not]
      rintro ⟨_, e, _⟩
      exact c1 (by rw [e])
  · rw [if_neg (by simpa using c0), hogsheadref08_Same.j0, if_pos rfl]
    simp [c0]
theorem dsame_refl (l0 : List ByteArray) (l1 : List W) (a2 : Int) (a3 : Bool) (h0 : l0.length ≤ 9223372036854775807) (h1 : l1.length ≤ 9223372036854775807) (k : Nat) (hk : l0.length + l1.length + 2 < k) :
    hogsheadref08_Same.f k l0 l1 a2 a3 l0 l1 a2 a3 = some true := by
  rw [dsame_is _ _ _ _ _ _ _ _ h0 h1 k hk]
  simp
theorem rnew_is (n : Int) : hogsheadref08_New.f n = some (if 1 ≤ n ∧ n ≤ 256 then (List.replicate n.toNat ⟨#[]⟩, [], -1, false, 0) else ([], [], 0, false, 1)) := by
  unfold hogsheadref08_New.f
  by_cases c1 : n < 1
  · rw [if_pos c1, if_neg (by omega)]
  · rw [if_neg c1]
    by_cases c2 : n > 256
    · rw [if_pos c2, if_neg (by omega)]
    · rw [if_neg c2, if_pos (by omega), if_pos (by omega), if_pos (by omega)]
end Go.Proofs.Ythnhfmmiaknhgaa.DP
namespace Go.Proofs.Ythnhfmmiaknhgaa.DP
open Go.RowKit Go.Proofs.YthnhfmmiaknhgaaW.PrintWords Go.Proofs.YthnhfmmiaknhgaaW.PrintLast Go.Proofs.Ythnhfmmiaknhgaa.PAll Go.Proofs.Ythnhfmmiaknhgaa.PB

theorem extract_all (s : ByteArray) : s.extract 0 s.size = s := L_inj (by rw [L_upto, List.take_of_length_le (by rw [L_length]; omega)])
theorem rcrash_j1 (l0 : List ByteArray) (l1 : List W) (a2 : Int) (a3 : Bool) (keep tear : Int) (hl : l1.length ≤ 9223372036854775807) (h0 : l0.length < 8796093022208) (k : Nat) (hk : l1.length + 3 < k) :
    hogsheadref08_Crash.j1 k tear (keptN l1 keep : Nat) l0 l1 a2 a3 = some (crashS l0 l1 keep tear, [], -1, false) := by
  have hle : keptN l1 keep ≤ l1.length := Nat.min_le_right _ _
  obtain ⟨k, rfl⟩ := succ_of (show 2 < k by omega)
  obtain ⟨k, rfl⟩ := succ_of (show 1 < k by omega)
  obtain ⟨k, rfl⟩ := succ_of (show 0 < k by omega)
  rw [hogsheadref08_Crash.j1, rdone_is l0 l1 a2 a3 _ hle hl h0 _ (by omega), Option.bind_some]
  unfold crashS
  by_cases c : keptN l1 keep < l1.length
  · rw [if_pos (by omega), List.drop_eq_getElem_cons c, List.take_succ_cons, List.take_zero, List.map_cons, List.map_nil]
    have hx : rd_T77 l1 ((keptN l1 keep : Nat) : Int) = l1[keptN l1 keep] := by
      unfold rd_T77
      rw [Int.toNat_natCast, List.getD_eq_getElem?_getD, List.getElem?_eq_getElem c]
      rfl
    rw [hogsheadref08_Crash.j2, hx]
    generalize l1[keptN l1 keep] = x
    have hw : (wrs (l1.take (keptN l1 keep)) l0).length = l0.length := wrs_length _ _
    by_cases c2 : 0 ≤ tear
    · rw [if_pos (decide_eq_true c2), if_pos (by omega), if_pos (by omega), if_pos c2]
      show _ = some (wr1 _ (tornW x tear), _)
      unfold wr1 tornW
      rw [hw]
      by_cases c3 : 0 ≤ x.f0 ∧ x.f0 < (l0.length : Int)
      · rw [if_pos c3.1, if_pos c3, decide_eq_true c3.2, hogsheadref08_Crash.j3, if_pos rfl, if_pos c3.1, if_pos (by omega), Option.bind_some]
        by_cases c4 : tear < (x.f1.size : Int)
        · rw [if_pos c4, if_pos c2, if_pos (by omega), List.set_set, show min tear.toNat x.f1.size = tear.toNat by omega]
        · rw [if_neg c4, show min tear.toNat x.f1.size = x.f1.size by omega, extract_all]
      · rw [if_neg c3]
        by_cases c0 : x.f0 ≥ 0
        · rw [if_pos c0, decide_eq_false (by omega), hogsheadref08_Crash.j3, if_neg (by decide)]
        · rw [if_neg c0, hogsheadref08_Crash.j3, if_neg (by decide)]
    · rw [if_neg (by simpa using c2), if_neg c2]
  · have hd : List.drop (keptN l1 keep) l1 = [] := List.drop_eq_nil_of_le (by omega)
    rw [if_neg (by omega), hogsheadref08_Crash.j2, if_neg (by decide), hd]
    split <;> rfl
theorem rcrash_loop (l0 : List ByteArray) (l1 : List W) (a2 : Int) (a3 : Bool) (keep tear : Int) (hl : l1.length ≤ 9223372036854775807) (h0 : l0.length < 8796093022208) :
    ∀ (m i k : Nat), i + m = keptN l1 keep → m + l1.length + 4 < k → hogsheadref08_Crash.l0 k keep tear i l0 l1 a2 a3 = some (crashS l0 l1 keep tear, [], -1, false)
  | 0, i, k, hi, hk => by
    obtain ⟨k, rfl⟩ := succ_of (show 0 < k by omega)
    obtain rfl : i = keptN l1 keep := by omega
    rw [hogsheadref08_Crash.l0]
    by_cases c : ((keptN l1 keep : Nat) : Int) < (l1.length : Int)
    · rw [if_pos c, if_neg (by unfold keptN at c ⊢; omega)]
      exact rcrash_j1 l0 l1 a2 a3 keep tear hl h0 k (by omega)
    · rw [if_neg c]
      exact rcrash_j1 l0 l1 a2 a3 keep tear hl h0 k (by omega)
  | m + 1, i, k, hi, hk => by
    obtain ⟨k, rfl⟩ := succ_of (show 0 < k by omega)
    have hle : keptN l1 keep ≤ l1.length := Nat.min_le_right _ _
    have hkk : ((keptN l1 keep : Nat) : Int) ≤ keep := by unfold keptN at hi ⊢; omega
    rw [hogsheadref08_Crash.l0, if_pos (by omega), if_pos (by omega), wrap_succ (n := l1.length) (by omega) hl]
    exact rcrash_loop l0 l1 a2 a3 keep tear hl h0 m (i + 1) k (by omega) (by omega)
theorem rcrash_is (l0 : List ByteArray) (l1 : List W) (a2 : Int) (a3 : Bool) (keep tear : Int) (hl : l1.length ≤ 9223372036854775807) (h0 : l0.length < 8796093022208) (k : Nat) (hk : 2 * l1.length + 5 < k) :
    hogsheadref08_Crash.f k l0 l1 a2 a3 keep tear = some (crashS l0 l1 keep tear, [], -1, false) := by
  unfold hogsheadref08_Crash.f
  exact rcrash_loop l0 l1 a2 a3 keep tear hl h0 (keptN l1 keep) 0 k (by omega) (by unfold keptN; omega)
end Go.Proofs.Ythnhfmmiaknhgaa.DP
namespace Go.Proofs.Ythnhfmmiaknhgaa.CE
open Go.RowKit Go.Proofs.YthnhfmmiaknhgaaW.PrintWords Go.Proofs.YthnhfmmiaknhgaaW.PrintLast Go.Proofs.Ythnhfmmiaknhgaa.PAll Go.Proofs.Ythnhfmmiaknhgaa.PB Go.Proofs.Ythnhfmmiaknhgaa.DP Go.Proofs.Ythnhfmmiaknhgaa.VP Go.Proofs.Ythnhfmmiaknhgaa.CP

theorem in1000 : InR 1000 := by unfold InR; omega
/-- What bytes read as: a turn, a value, whether they do. -/
def recL (l : List UInt8) : Nat × List UInt8 × Int :=
  if (opened l).2 = 0 ∧ (takeN (opened l).1).2.2 = 0 ∧ (takeT (takeN (opened l).1).2.1 1000).2.2 = 0 ∧ (takeT (takeN (opened l).1).2.1 1000).2.1 = [] then
    ((takeN (opened l).1).1, (takeT (takeN (opened l).1).2.1 1000).1, 0) else (0, [], 3)
theorem opened_len (l : List UInt8) : (opened l).1.length ≤ l.length := by
  unfold opened
  split
  · simp
  · split
    · rw [List.length_take]; omega
    · simp
theorem recL_bound (l : List UInt8) : (recL l).1 < 18446744073709551616 := by
  unfold recL
  split
  · exact takeN_bound _
  · simp
theorem L_nil_iff (s : ByteArray) : s.toList = ([] : List UInt8) ↔ L s = [] := by rw [L_toList]
theorem take_is (s : ByteArray) (hs : s.size ≤ 9223372036854775807) (k : Nat) (hk : s.size + 2 < k) : cell_Take.f k s = some (((recL (L s)).1 : Int), B (recL (L s)).2.1, (recL (L s)).2.2) := by
  obtain ⟨o, e, ho, hL, he⟩ := open_num s hs
  have hlen := opened_len (L s)
  rw [← hL, L_length, L_length] at hlen
  unfold cell_Take.f recL
  rw [ho, Option.bind_some, ← hL, ← he]
  dsimp only
  rw [take_num o (by omega) k (by omega), Option.bind_some]
  dsimp only
  have h2 := takeN_len (L o)
  rw [L_length] at h2
  rw [take_text (B (takeN (L o)).2.1) 1000 in1000 (by rw [B_size]; omega) k (by rw [B_size]; omega), Option.bind_some, L_B]
  dsimp only
  simp only [L_nil_iff, L_B]
  by_cases c1 : e = 0
  · by_cases c2 : (takeN (L o)).2.2 = 0
    · by_cases c3 : (takeT (takeN (L o)).2.1 1000).2.2 = 0
      · by_cases c4 : (takeT (takeN (L o)).2.1 1000).2.1 = []
        · rw [if_pos c1, if_pos c2, if_pos c3, if_pos c4, if_pos ⟨c1, c2, c3, c4⟩]
        · rw [if_pos c1, if_pos c2, if_pos c3, if_neg c4, if_neg (fun h => c4 h.2.2.2)]
          rfl
      · rw [if_pos c1, if_pos c2, if_neg c3, if_neg (fun h => c3 h.2.2.1)]
        rfl
    · rw [if_pos c1, if_neg c2, if_neg (fun h => c2 h.2.1)]
      rfl
  · rw [if_neg c1, if_neg (fun h => c1 h.1)]
    rfl
theorem rtake_is (s : ByteArray) (hs : s.size ≤ 9223372036854775807) (k : Nat) (hk : s.size + 20 < k) : hogsheadref09_Take.f k s = some (((recL (L s)).1 : Int), B (recL (L s)).2.1, (recL (L s)).2.2) := by
  obtain ⟨o, e, ho, hL, he⟩ := ref_open s hs k (by omega)
  have hlen := opened_len (L s)
  rw [← hL, L_length, L_length] at hlen
  unfold hogsheadref09_Take.f recL
  rw [ho, Option.bind_some, ← hL, ← he]
  dsimp only
  have h2 := takeN_len (L o)
  rw [L_length] at h2
  rw [rtake_num o (by omega) k (by omega), Option.bind_some, rtake_text (B (takeN (L o)).2.1) 1000 in1000 (by rw [B_size]; omega) k (by rw [B_size]; omega), Option.bind_some, L_B]
  dsimp only
  by_cases c1 : e = 0
  · by_cases c2 : (takeN (L o)).2.2 = 0
    · by_cases c3 : (takeT (takeN (L o)).2.1 1000).2.2 = 0
      · by_cases c4 : (takeT (takeN (L o)).2.1 1000).2.1 = []
        · rw [if_pos c1, if_pos c2, if_pos c3, if_neg (by rw [B_size, c4]; simp), if_pos ⟨c1, c2, c3, c4⟩]
        · have : 0 < (takeT (takeN (L o)).2.1 1000).2.1.length := List.length_pos_iff.mpr c4
          rw [if_pos c1, if_pos c2, if_pos c3, if_pos (by rw [B_size]; omega), if_neg (fun h => c4 h.2.2.2)]
          rfl
      · rw [if_pos c1, if_pos c2, if_neg c3, if_neg (fun h => c3 h.2.2.1)]
        rfl
    · rw [if_pos c1, if_neg c2, if_neg (fun h => c2 h.2.1)]
      rfl
  · rw [if_neg c1, if_neg (fun h => c1 h.1)]
    rfl
/-- A record's bytes. -/
def recB (turn : Nat) (v : List UInt8) : List UInt8 := sealed (numL turn ++ textL v)
theorem record_is (turn : Nat) (ht : turn < 18446744073709551616) (v : ByteArray) : cell_Record.f (turn : Int) v = some (if v.size > 1000 then ((⟨#[]⟩ : ByteArray), 4) else (B (recB turn (L v)), 0)) := by
  unfold cell_Record.f
  by_cases c : v.size > 1000
  · rw [if_pos (by omega), if_pos c]
  · rw [if_neg (by omega), if_neg c, num_num turn ht, Option.bind_some, text_num v (by omega), Option.bind_some]
    have h1 := numL_length_le turn
    have h2 := numL_length_le (L v).length
    have hs : (B (numL turn) ++ B (textL (L v))).size ≤ 1100 := by
      rw [size_append, B_size, B_size]
      unfold textL
      rw [List.length_append, L_length]
      rw [L_length] at h2
      omega
    rw [if_pos (by rw [← size_append]; omega)]
    obtain ⟨f, hf, hL⟩ := seal_num (B (numL turn) ++ B (textL (L v))) (by omega)
    rw [hf, Option.bind_some]
    have : f = B (recB turn (L v)) := L_inj (by rw [hL, L_append, L_B, L_B, L_B]; rfl)
    rw [this]
theorem rrecord_is (turn : Nat) (ht : turn < 18446744073709551616) (v : ByteArray) (k : Nat) (hk : 1200 < k) : hogsheadref09_Record.f k (turn : Int) v = some (if v.size > 1000 then ((⟨#[]⟩ : ByteArray), 4) else (B (recB turn (L v)), 0)) := by
  unfold hogsheadref09_Record.f
  by_cases c : v.size > 1000
  · rw [if_pos (by omega), if_pos c]
  · rw [if_neg (by omega), if_neg c, rnum_num turn ht k (by omega), Option.bind_some, rtext_num v (by omega) k (by omega), Option.bind_some]
    have h1 := numL_length_le turn
    have h2 := numL_length_le (L v).length
    have hs : (B (numL turn) ++ B (textL (L v))).size ≤ 1100 := by
      rw [size_append, B_size, B_size]
      unfold textL
      rw [List.length_append, L_length]
      rw [L_length] at h2
      omega
    rw [if_pos (by rw [← size_append]; omega)]
    obtain ⟨f, hf, hL⟩ := ref_seal (B (numL turn) ++ B (textL (L v))) (by omega) k (by omega)
    rw [hf, Option.bind_some]
    have : f = B (recB turn (L v)) := L_inj (by rw [hL, L_append, L_B, L_B, L_B]; rfl)
    rw [this]
end Go.Proofs.Ythnhfmmiaknhgaa.CE
namespace Go.Proofs.Ythnhfmmiaknhgaa.CE
open Go.RowKit Go.Proofs.YthnhfmmiaknhgaaW.PrintWords Go.Proofs.YthnhfmmiaknhgaaW.PrintLast Go.Proofs.Ythnhfmmiaknhgaa.PAll Go.Proofs.Ythnhfmmiaknhgaa.PB Go.Proofs.Ythnhfmmiaknhgaa.DP Go.Proofs.Ythnhfmmiaknhgaa.VP Go.Proofs.Ythnhfmmiaknhgaa.CP

/-- A disk whose texts are within the reach. -/
def Fits (l0 : List ByteArray) (l1 : List W) : Prop := (∀ s ∈ l0, s.size ≤ 140737488351232) ∧ (∀ x ∈ l1, x.f1.size ≤ 140737488351232)
theorem last_size (slot : Int) : ∀ (l1 : List W) (d : ByteArray), (∀ x ∈ l1, x.f1.size ≤ 140737488351232) → d.size ≤ 140737488351232 → (disk_last l1 slot d).size ≤ 140737488351232
  | [], _, _, hd => hd
  | x :: l, d, h, hd => by
    show (disk_last l slot (if x.f0 = slot then x.f1 else d)).size ≤ _
    refine last_size slot l _ (fun y hy => h y (by simp [hy])) ?_
    split
    · exact h x (by simp)
    · exact hd
theorem got_size {l0 : List ByteArray} {l1 : List W} (h : Fits l0 l1) (slot : Int) : (getD l0 l1 slot).1.size ≤ 140737488351232 := by
  unfold getD
  split
  · rename_i c
    refine last_size slot l1 _ h.2 (h.1 _ ?_)
    exact getD_mem _ (by omega)
  · show (⟨#[]⟩ : ByteArray).size ≤ _
    decide
/-- What a slot reads as. -/
def slotR (l0 : List ByteArray) (l1 : List W) (slot : Int) : Nat × List UInt8 × Int := recL (L (getD l0 l1 slot).1)
/-- The record that counts: its slot, its turn, its value, whether there is one. -/
def curS (l0 : List ByteArray) (l1 : List W) (base : Int) : Int × Nat × List UInt8 × Bool :=
  if (slotR l0 l1 base).2.2 = 0 ∧ ((slotR l0 l1 (base + 1)).2.2 ≠ 0 ∨ (slotR l0 l1 (base + 1)).1 ≤ (slotR l0 l1 base).1) then (base, (slotR l0 l1 base).1, (slotR l0 l1 base).2.1, true)
  else if (slotR l0 l1 (base + 1)).2.2 = 0 then (base + 1, (slotR l0 l1 (base + 1)).1, (slotR l0 l1 (base + 1)).2.1, true) else (base + 1, 0, [], false)
theorem best_is (l0 : List ByteArray) (l1 : List W) (a2 : Int) (a3 : Bool) (base : Int) (hf : Fits l0 l1) (k : Nat) (hk : 140737488351332 < k) :
    cell_best.f k l0 l1 a2 a3 [base, base + 1] = some (if (curS l0 l1 base).2.2.2 = true then ((curS l0 l1 base).1, ((curS l0 l1 base).2.1 : Int), B (curS l0 l1 base).2.2.1, true) else (0, 0, ⟨#[]⟩, false)) := by
  have h1 := got_size hf base
  have h2 := got_size hf (base + 1)
  unfold cell_best.f
  simp only [cell_best.go]
  rw [get_is, Option.bind_some, take_is _ (by omega) k (by omega), Option.bind_some, get_is, Option.bind_some, take_is _ (by omega) k (by omega), Option.bind_some]
  have e1 : recL (L (getD l0 l1 base).1) = slotR l0 l1 base := rfl
  have e2 : recL (L (getD l0 l1 (base + 1)).1) = slotR l0 l1 (base + 1) := rfl
  rw [e1, e2]
  dsimp only
  unfold curS
  generalize slotR l0 l1 base = a
  generalize slotR l0 l1 (base + 1) = b
  by_cases ca : a.2.2 = 0
  · by_cases cb : b.2.2 = 0
    · by_cases cl : b.1 ≤ a.1
      · have cl' : ¬ ((b.1 : Int) > (a.1 : Int)) := by omega
        simp [ca, cb, cl, cl']
      · have cl' : (b.1 : Int) > (a.1 : Int) := by omega
        simp [ca, cb, cl, cl']
    · simp [ca, cb]
  · by_cases cb : b.2.2 = 0
    · simp [ca, cb]
    · simp [ca, cb]
theorem cur_is (l0 : List ByteArray) (l1 : List W) (a2 : Int) (a3 : Bool) (base : Int) (hf : Fits l0 l1) (hl : l1.length ≤ 140737488351232) (hb : wrap64 (base + 1) = base + 1) (k : Nat) (hk : 140737488351332 < k) :
    hogsheadref09_current.f k l0 l1 a2 a3 base = some ((curS l0 l1 base).1, ((curS l0 l1 base).2.1 : Int), B (curS l0 l1 base).2.2.1, (curS l0 l1 base).2.2.2) := by
  have h1 := got_size hf base
  have h2 := got_size hf (base + 1)
  obtain ⟨k, rfl⟩ := succ_of (show 0 < k by omega)
  unfold hogsheadref09_current.f
  rw [hb, rget_is _ _ _ _ _ (by omega) _ (by omega), Option.bind_some, rget_is _ _ _ _ _ (by omega) _ (by omega), Option.bind_some, rtake_is _ (by omega) _ (by omega), Option.bind_some, rtake_is _ (by omega) _ (by omega), Option.bind_some]
  have e1 : recL (L (getD l0 l1 base).1) = slotR l0 l1 base := rfl
  have e2 : recL (L (getD l0 l1 (base + 1)).1) = slotR l0 l1 (base + 1) := rfl
  rw [e1, e2]
  simp only [hogsheadref09_current.j0, hb]
  unfold curS
  generalize slotR l0 l1 base = a
  generalize slotR l0 l1 (base + 1) = b
  by_cases ca : a.2.2 = 0
  · by_cases cb : b.2.2 = 0
    · by_cases cl : b.1 ≤ a.1
      · simp [ca, cb, cl]
      · simp [ca, cb, cl]
    · simp [ca, cb]
  · by_cases cb : b.2.2 = 0
    · simp [ca, cb]
    · simp [ca, cb]
      rfl
/-- Is there a cell? -/
def inC (l0 : List ByteArray) (base : Int) : Prop := 0 ≤ base ∧ base + 1 < (l0.length : Int)
instance (l0 : List ByteArray) (base : Int) : Decidable (inC l0 base) := by unfold inC; exact inferInstance
theorem chas_is (l0 : List ByteArray) (l1 : List W) (a2 : Int) (a3 : Bool) (base : Int) (hl : l0.length ≤ 9223372036854775807) : cell_has.f l0 l1 a2 a3 base = some (decide (inC l0 base)) := by
  unfold cell_has.f
  rw [wrap_in (x := (l0.length : Int) - 1) (by unfold InR; omega)]
  by_cases c : inC l0 base
  · have c' := c
    unfold inC at c'
    rw [decide_eq_true c, if_pos (by omega), decide_eq_true (by omega)]
  · have c' := c
    unfold inC at c'
    rw [decide_eq_false c]
    by_cases h0 : base ≥ 0
    · rw [if_pos h0, decide_eq_false (by omega)]
    · rw [if_neg h0]
def readS (l0 : List ByteArray) (l1 : List W) (base : Int) : ByteArray × Int × Int :=
  if inC l0 base then if (curS l0 l1 base).2.2.2 = true then (B (curS l0 l1 base).2.2.1, ((curS l0 l1 base).2.1 : Int), 0) else (⟨#[]⟩, 0, 7) else (⟨#[]⟩, 0, 1)
theorem base_wrap {l0 : List ByteArray} {base : Int} (h : inC l0 base) (hl : l0.length ≤ 9223372036854775807) : wrap64 (base + 1) = base + 1 := wrap_in (by unfold inC at h; unfold InR; omega)
theorem read_is (l0 : List ByteArray) (l1 : List W) (a2 : Int) (a3 : Bool) (base : Int) (hf : Fits l0 l1) (h0 : l0.length ≤ 140737488351232) (k : Nat) (hk : 140737488351332 < k) : cell_Read.f k l0 l1 a2 a3 base = some (readS l0 l1 base) := by
  unfold cell_Read.f readS
  rw [chas_is _ _ _ _ _ (by omega), Option.bind_some]
  by_cases c : inC l0 base
  · rw [if_pos (decide_eq_true c), if_pos c, base_wrap c (by omega), best_is l0 l1 a2 a3 base hf k hk, Option.bind_some]
    by_cases h : (curS l0 l1 base).2.2.2 = true
    · rw [if_pos h, if_pos h]
      rfl
    · rw [if_neg h, if_neg h]
      rfl
  · rw [if_neg (by simpa using c), if_neg c]
theorem rread_is (l0 : List ByteArray) (l1 : List W) (a2 : Int) (a3 : Bool) (base : Int) (hf : Fits l0 l1) (h0 : l0.length ≤ 140737488351232) (hl : l1.length ≤ 140737488351232) (k : Nat) (hk : 140737488351333 < k) : hogsheadref09_Read.f k l0 l1 a2 a3 base = some (readS l0 l1 base) := by
  obtain ⟨k, rfl⟩ := succ_of (show 0 < k by omega)
  unfold hogsheadref09_Read.f readS
  simp only [hogsheadref09_Read.j0]
  by_cases c : inC l0 base
  · have c' := c
    unfold inC at c'
    rw [if_neg (by omega), if_neg (by omega), wrap_in (x := (l0.length : Int) - base) (by unfold InR; omega), decide_eq_false (by omega), if_neg (by decide), if_pos c, cur_is l0 l1 a2 a3 base hf hl (base_wrap c (by omega)) k (by omega), Option.bind_some]
    dsimp only
    split <;> rfl
  · rw [if_neg c]
    unfold inC at c
    by_cases c0 : base < 0
    · rw [if_pos c0, if_pos trivial]
    · rw [if_neg c0]
      by_cases c1 : base ≥ (l0.length : Int)
      · rw [if_pos c1, if_pos trivial]
      · rw [if_neg c1, wrap_in (x := (l0.length : Int) - base) (by unfold InR; omega), decide_eq_true (by omega), if_pos rfl]
/-- The slot that a write goes to. -/
def oslot (c : Int × Nat × List UInt8 × Bool) (base : Int) : Int := if c.1 = base then base + 1 else base
theorem curS_bound (l0 : List ByteArray) (l1 : List W) (base : Int) : (curS l0 l1 base).2.1 < 18446744073709551616 := by
  unfold curS
  split
  · exact recL_bound _
  · split
    · exact recL_bound _
    · simp
theorem curS_slot (l0 : List ByteArray) (l1 : List W) (base : Int) : (curS l0 l1 base).1 = base ∨ (curS l0 l1 base).1 = base + 1 := by
  unfold curS
  split
  · exact .inl rfl
  · split
    · exact .inr rfl
    · exact .inr rfl
theorem curS_none (l0 : List ByteArray) (l1 : List W) (base : Int) (h : (curS l0 l1 base).2.2.2 = false) : curS l0 l1 base = (base + 1, 0, [], false) := by
  unfold curS at h ⊢
  split
  · rename_i c
    rw [if_pos c] at h
    cases h
  · split
    · rename_i c c2
      rw [if_neg c, if_pos c2] at h
      cases h
    · rfl
def writeS (l0 : List ByteArray) (l1 : List W) (a2 : Int) (a3 : Bool) (base : Int) (v : ByteArray) : List ByteArray × List W × Int × Bool × Int :=
  if inC l0 base then if v.size > 1000 then (l0, l1, a2, a3, 4) else if (curS l0 l1 base).2.1 + 1 = 18446744073709551616 then (l0, l1, a2, a3, 5)
    else putD l0 l1 a2 a3 (oslot (curS l0 l1 base) base) (B (recB ((curS l0 l1 base).2.1 + 1) (L v))) else (l0, l1, a2, a3, 1)
theorem wj_is (l0 : List ByteArray) (l1 : List W) (a2 : Int) (a3 : Bool) (base : Int) (v : ByteArray) (h1 : l1.length < 5864062014805) (hb : -4611686018427387904 ≤ base ∧ base ≤ 4611686018427387000) (c : Int × Nat × List UInt8 × Bool) (x : ByteArray) (hc : c.2.1 < 18446744073709551616) (hs : c.1 = base ∨ c.1 = base + 1) (k : Nat) (hk : 0 < k) :
    cell_Write.j0 k base v l0 l1 a2 a3 c.1 (c.2.1 : Int) x = some (if v.size > 1000 then (l0, l1, a2, a3, 4) else if c.2.1 + 1 = 18446744073709551616 then (l0, l1, a2, a3, 5) else putD l0 l1 a2 a3 (oslot c base) (B (recB (c.2.1 + 1) (L v)))) := by
  obtain ⟨k, rfl⟩ := succ_of hk
  rw [cell_Write.j0]
  have eo : wrap64 (wrap64 (wrap64 (2 * base) + 1) - c.1) = oslot c base := by
    unfold oslot wrap64
    rcases hs with hs | hs
    · rw [if_pos hs, hs]
      omega
    · rw [if_neg (by omega), hs]
      omega
  rw [eo]
  by_cases cf : c.2.1 + 1 = 18446744073709551616
  · have ew : IntKind.u64.wrap ((c.2.1 : Int) + 1) = ((0 : Nat) : Int) := by rw [IntKind.wrap_u64]; omega
    rw [ew, record_is 0 (by omega), Option.bind_some]
    by_cases cs : v.size > 1000
    · rw [if_pos cs, if_pos cs]
      rfl
    · rw [if_neg cs, if_neg cs, if_pos cf]
      rfl
  · have ew : IntKind.u64.wrap ((c.2.1 : Int) + 1) = ((c.2.1 + 1 : Nat) : Int) := by rw [IntKind.wrap_u64]; omega
    rw [ew, record_is (c.2.1 + 1) (by omega), Option.bind_some]
    by_cases cs : v.size > 1000
    · rw [if_pos cs, if_pos cs]
      rfl
    · rw [if_neg cs, if_neg cs, if_neg cf]
      dsimp only
      rw [if_pos rfl, if_neg (by omega), put_is _ _ _ _ _ _ h1]
      rfl
theorem write_is (l0 : List ByteArray) (l1 : List W) (a2 : Int) (a3 : Bool) (base : Int) (v : ByteArray) (hf : Fits l0 l1) (h0 : l0.length ≤ 140737488351232) (h1 : l1.length < 5864062014805) (k : Nat) (hk : 140737488351332 < k) : cell_Write.f k l0 l1 a2 a3 base v = some (writeS l0 l1 a2 a3 base v) := by
  unfold cell_Write.f writeS
  rw [chas_is _ _ _ _ _ (by omega), Option.bind_some]
  by_cases c : inC l0 base
  · have c' := c
    unfold inC at c'
    rw [if_pos (decide_eq_true c), if_pos c, base_wrap c (by omega), best_is l0 l1 a2 a3 base hf k hk, Option.bind_some]
    by_cases h : (curS l0 l1 base).2.2.2 = true
    · rw [if_pos h]
      dsimp only
      rw [if_pos rfl, wj_is l0 l1 a2 a3 base v h1 (by omega) (curS l0 l1 base) _ (curS_bound _ _ _) (curS_slot _ _ _) k (by omega)]
    · have hn := curS_none l0 l1 base (by simpa using h)
      rw [if_neg h]
      dsimp only
      rw [if_neg (by decide)]
      have := wj_is l0 l1 a2 a3 base v h1 (by omega) (base + 1, 0, [], false) ⟨#[]⟩ (Nat.zero_lt_succ _) (.inr rfl) k (by omega)
      dsimp only at this
      rw [hn]
      exact this
  · rw [if_neg (by simpa using c), if_neg c]
theorem rwrite_is (l0 : List ByteArray) (l1 : List W) (a2 : Int) (a3 : Bool) (base : Int) (v : ByteArray) (hf : Fits l0 l1) (h0 : l0.length ≤ 140737488351232) (h1 : l1.length < 5864062014805) (k : Nat) (hk : 140737488351333 < k) : hogsheadref09_Write.f k l0 l1 a2 a3 base v = some (writeS l0 l1 a2 a3 base v) := by
  obtain ⟨k, rfl⟩ := succ_of (show 0 < k by omega)
  unfold hogsheadref09_Write.f writeS
  simp only [hogsheadref09_Write.j0]
  by_cases c : inC l0 base
  · have c' := c
    unfold inC at c'
    have hcb := curS_bound l0 l1 base
    rw [if_neg (by omega), if_neg (by omega), wrap_in (x := (l0.length : Int) - base) (by unfold InR; omega), decide_eq_false (by omega), if_neg (by decide), if_pos c]
    by_cases cs : v.size > 1000
    · rw [if_pos (by omega), if_pos cs]
    · rw [if_neg (by omega), if_neg cs, cur_is l0 l1 a2 a3 base hf (by omega) (base_wrap c (by omega)) k (by omega), Option.bind_some]
      dsimp only
      by_cases cf : (curS l0 l1 base).2.1 + 1 = 18446744073709551616
      · rw [if_pos (by omega), if_pos cf]
      · have ew : IntKind.u64.wrap (((curS l0 l1 base).2.1 : Int) + 1) = (((curS l0 l1 base).2.1 + 1 : Nat) : Int) := by rw [IntKind.wrap_u64]; omega
        rw [if_neg (by omega), if_neg cf, ew, rrecord_is _ (by omega) v k (by omega), Option.bind_some, if_neg cs]
        dsimp only
        unfold oslot
        by_cases co : (curS l0 l1 base).1 = base
        · rw [if_pos co, if_pos co, base_wrap c (by omega), rput_is _ _ _ _ _ _ h1 k (by omega)]
          rfl
        · rw [if_neg co, if_neg co, rput_is _ _ _ _ _ _ h1 k (by omega)]
          rfl
  · rw [if_neg c]
    unfold inC at c
    by_cases c0 : base < 0
    · rw [if_pos c0, if_pos trivial]
    · rw [if_neg c0]
      by_cases c1 : base ≥ (l0.length : Int)
      · rw [if_pos c1, if_pos trivial]
      · rw [if_neg c1, wrap_in (x := (l0.length : Int) - base) (by unfold InR; omega), decide_eq_true (by omega), if_pos rfl]
end Go.Proofs.Ythnhfmmiaknhgaa.CE
namespace Go.Proofs.Ythnhfmmiaknhgaa.CE
open Go.RowKit Go.Proofs.YthnhfmmiaknhgaaW.PrintWords Go.Proofs.YthnhfmmiaknhgaaW.PrintLast Go.Proofs.Ythnhfmmiaknhgaa.PAll Go.Proofs.Ythnhfmmiaknhgaa.PB Go.Proofs.Ythnhfmmiaknhgaa.DP Go.Proofs.Ythnhfmmiaknhgaa.VP Go.Proofs.Ythnhfmmiaknhgaa.CP

/-- Whatever a write answers: its slots stay, and at most one write more waits. -/
theorem write_any (l0 : List ByteArray) (l1 : List W) (a2 : Int) (a3 : Bool) (base : Int) (v : ByteArray) :
    (writeS l0 l1 a2 a3 base v).1 = l0 ∧ ((writeS l0 l1 a2 a3 base v).2.1 = l1 ∨ (inC l0 base ∧ v.size ≤ 1000 ∧ (curS l0 l1 base).2.1 + 1 < 18446744073709551616 ∧ ((writeS l0 l1 a2 a3 base v).2.2.2.2 = 0 ∨ (writeS l0 l1 a2 a3 base v).2.2.2.2 = 6) ∧ (writeS l0 l1 a2 a3 base v).2.1 = l1 ++ [⟨oslot (curS l0 l1 base) base, B (recB ((curS l0 l1 base).2.1 + 1) (L v))⟩])) := by
  have hb := curS_bound l0 l1 base
  unfold writeS
  by_cases c : inC l0 base
  · rw [if_pos c]
    by_cases cs : v.size > 1000
    · rw [if_pos cs]
      exact ⟨rfl, .inl rfl⟩
    · rw [if_neg cs]
      by_cases cf : (curS l0 l1 base).2.1 + 1 = 18446744073709551616
      · rw [if_pos cf]
        exact ⟨rfl, .inl rfl⟩
      · rw [if_neg cf]
        have hp := put_any l0 l1 a2 a3 (oslot (curS l0 l1 base) base) (B (recB ((curS l0 l1 base).2.1 + 1) (L v)))
        refine ⟨hp.1, ?_⟩
        rcases hp.2 with h | h
        · exact .inl h
        · refine .inr ⟨c, by omega, by omega, ?_, h⟩
          unfold putD at h ⊢
          split
          · exact .inr rfl
          · split
            · split
              · rename_i h1 h2 h3
                rw [if_neg h1, if_pos h2, if_pos h3] at h
                exact absurd (congrArg List.length (show l1 = _ from h)) (by simp)
              · split
                · exact .inr rfl
                · split
                  · exact .inl rfl
                  · exact .inl rfl
            · rename_i h1 h2
              rw [if_neg h1, if_neg h2] at h
              exact absurd (congrArg List.length (show l1 = _ from h)) (by simp)
  · rw [if_neg c]
    exact ⟨rfl, .inl rfl⟩
/-- The document's example. -/
theorem shown_is (k : Nat) (hk : 140737488351340 < k) : hogsheadlaw09_shown.f k = some true := by
  have e0 : (List.replicate (2 : Int).toNat (⟨#[]⟩ : ByteArray)) = [⟨#[]⟩, ⟨#[]⟩] := rfl
  have f0 : Fits [⟨#[]⟩, ⟨#[]⟩] [] := ⟨by decide, fun _ h => by cases h⟩
  have w1 : writeS [⟨#[]⟩, ⟨#[]⟩] [] (-1) false 0 ⟨#[120]⟩ = ([⟨#[]⟩, ⟨#[]⟩], [⟨0, B (recB 1 [120])⟩], -1, false, 0) := by kernel_rfl
  have f1 : Fits [B (recB 1 [120]), ⟨#[]⟩] [] := ⟨by decide +kernel, fun _ h => by cases h⟩
  have w2 : writeS [B (recB 1 [120]), ⟨#[]⟩] [] (-1) false 0 ⟨#[121]⟩ = ([B (recB 1 [120]), ⟨#[]⟩], [⟨1, B (recB 2 [121])⟩], -1, false, 0) := by kernel_rfl
  have f2 : Fits (crashS [B (recB 1 [120]), ⟨#[]⟩] [⟨1, B (recB 2 [121])⟩] 0 3) [] := ⟨by decide +kernel, fun _ h => by cases h⟩
  have r2 : readS (crashS [B (recB 1 [120]), ⟨#[]⟩] [⟨1, B (recB 2 [121])⟩] 0 3) [] 0 = (⟨#[120]⟩, 1, 0) := by kernel_rfl
  obtain ⟨k', hk'⟩ := succ_of (show 0 < k by omega)
  unfold hogsheadlaw09_shown.f
  rw [rnew_is, if_pos (by decide), e0, Option.bind_some]
  dsimp only
  rw [write_is _ _ _ _ _ _ f0 (by decide) (by decide) k (by omega), w1, Option.bind_some]
  dsimp only
  rw [rflush_is _ _ _ _ (by decide) (by decide) k (by simp only [List.length_cons, List.length_nil]; omega), if_neg (by decide), Option.bind_some]
  have e1 : wrs [(⟨0, B (recB 1 [120])⟩ : W)] [⟨#[]⟩, ⟨#[]⟩] = [B (recB 1 [120]), ⟨#[]⟩] := rfl
  rw [e1]
  dsimp only
  rw [write_is _ _ _ _ _ _ f1 (by decide) (by decide) k (by omega), w2, Option.bind_some]
  dsimp only
  rw [rcrash_is _ _ _ _ _ _ (by decide) (by decide) k (by simp only [List.length_cons, List.length_nil]; omega), Option.bind_some]
  dsimp only
  rw [read_is _ _ _ _ _ f2 (by decide +kernel) k (by omega), r2, Option.bind_some]
  dsimp only
  rw [if_pos rfl, if_pos rfl, if_pos rfl, hk', L_toList, if_pos (show L ⟨#[120]⟩ = [120] from rfl), hogsheadlaw09_shown.j0]
  rfl
end Go.Proofs.Ythnhfmmiaknhgaa.CE
