/- A register of 32 bits, stepped bit by bit and byte by byte: it is linear, two unlike registers stay unlike, a byte may be stepped by a table. The crc package's sum, and the reference's, as registers of 32 bits. The crc package's functions, and the reference's, as registers of 32 bits. What opens, of the program and of the reference. The vlq package's numbers and texts, and the reference's, as lists of bytes. What a shard's bytes are, and what bytes read as a shard, over lists alone, of the program and of the document. What a shelf's functions come to, over lists alone, of the program. The bad slots and the empty ones, over lists alone, of the program. What the other functions of a shelf come to, over lists alone, of the program. The document's disk over lists. What the laws of the shelf need, over lists alone. Which shards a disk's slots have, and what writes change of it. What a shelf's functions come to, over lists alone, of the document. What dropping changes of what a disk's slots have; a disk's bulk. What putting and dropping come to, over lists alone, of the document. -/
import Derived.Test.YtffjbbedjddpmaaBase
import Derived.Laws.BitsAllLaws
import Derived.Test.YtffjbbedjddpmaaPAllx5
import Derived.Test.YtffjbbedjddpmaaPAllx20
import Derived.Test.YtffjbbedjddpmaaPAllx14
import Derived.Test.YtffjbbedjddpmaaPAllx6
import Derived.Test.YtffjbbedjddpmaaPAllx23
import Derived.Test.YtffjbbedjddpmaaPAllx8
import Derived.Test.YtffjbbedjddpmaaPAllx24
import Derived.Test.YtffjbbedjddpmaaPAllx21
import Derived.Test.YtffjbbedjddpmaaPAllx7
import Derived.Test.YtffjbbedjddpmaaPAllx4
import Derived.Test.YtffjbbedjddpmaaPAllx9
import Derived.Test.YtffjbbedjddpmaaPAllx15
import Derived.Test.YtffjbbedjddpmaaPAllx25
import Derived.Test.YtffjbbedjddpmaaPAllx22
import Derived.Test.YtffjbbedjddpmaaDiskProg
import Derived.Test.YtffjbbedjddpmaaPAllx13
import Derived.Test.YtffjbbedjddpmaaPAllx12
import Derived.Test.YtffjbbedjddpmaaPAllx17
import Derived.Test.YtffjbbedjddpmaaPAllx39
import Derived.Test.YtffjbbedjddpmaaDiskList
import Derived.Test.YtffjbbedjddpmaaPAllx37
import Derived.Test.YtffjbbedjddpmaaPAllx28
import Derived.Test.YtffjbbedjddpmaaPAllx18
import Derived.Test.YtffjbbedjddpmaaPAllx42
import Derived.Test.YtffjbbedjddpmaaPAllx41
import Derived.Test.YtffjbbedjddpmaaPAllx19
import Derived.Test.YtffjbbedjddpmaaPAllx29
import Derived.Test.YtffjbbedjddpmaaPAllx33
import Derived.Test.YtffjbbedjddpmaaPAllKinds
import Derived.Test.YtffjbbedjddpmaaPAllx38
import Derived.Test.YtffjbbedjddpmaaPAllx40
namespace Go.Proofs.Ytffjbbedjddpmaa.CM
open Go.Proofs.Ytffjbbedjddpmaa.PB

def poly : BitVec 32 := 79764919#32
/-- One bit more, none put in. -/
def s1 (r : BitVec 32) : BitVec 32 := if r.msb then (r <<< 1) ^^^ poly else r <<< 1
def s8 (r : BitVec 32) : BitVec 32 := s1 (s1 (s1 (s1 (s1 (s1 (s1 (s1 r)))))))
/-- A byte put in at the top. -/
def top (b : BitVec 8) : BitVec 32 := b.setWidth 32 <<< 24
def stepB (r : BitVec 32) (b : BitVec 8) : BitVec 32 := s8 (r ^^^ top b)

theorem s1_eq (r : BitVec 32) : s1 r = (r <<< 1) ^^^ (if r.msb then poly else 0#32) := by
  unfold s1
  split
  · rfl
  · rw [BitVec.xor_zero]
theorem s1_xor (a b : BitVec 32) : s1 (a ^^^ b) = s1 a ^^^ s1 b := by
  rw [s1_eq, s1_eq, s1_eq, BitVec.msb_xor, BitVec.shiftLeft_xor_distrib]
  cases a.msb <;> cases b.msb <;> simp only [Bool.xor_false, Bool.xor_true, Bool.not_false, Bool.not_true, Bool.false_eq_true, if_true, if_false, BitVec.xor_zero]
  · rw [BitVec.xor_assoc]
  · rw [BitVec.xor_assoc, BitVec.xor_assoc, BitVec.xor_comm (b <<< 1)]
  · have : a <<< 1 ^^^ poly ^^^ (b <<< 1 ^^^ poly) = a <<< 1 ^^^ b <<< 1 ^^^ (poly ^^^ poly) := by
      rw [BitVec.xor_assoc, BitVec.xor_assoc, ← BitVec.xor_assoc poly, BitVec.xor_comm poly (b <<< 1), BitVec.xor_assoc]
    rw [this, BitVec.xor_self, BitVec.xor_zero]
theorem s8_xor (a b : BitVec 32) : s8 (a ^^^ b) = s8 a ^^^ s8 b := by unfold s8; simp only [s1_xor]
theorem top_xor (x y : BitVec 8) : top (x ^^^ y) = top x ^^^ top y := by
  unfold top
  rw [BitVec.setWidth_xor, BitVec.shiftLeft_xor_distrib]
theorem toNat_top (b : BitVec 8) : (top b).toNat = b.toNat * 16777216 := by
  unfold top
  rw [BitVec.toNat_shiftLeft, BitVec.toNat_setWidth, Nat.shiftLeft_eq]
  have := b.isLt
  omega
/-- A register below 2^24 is shifted alone. -/
theorem s1_small (n : Nat) (h : n < 2147483648) : s1 (BitVec.ofNat 32 n) = BitVec.ofNat 32 (2 * n) := by
  unfold s1
  have hm : (BitVec.ofNat 32 n).msb = false := by
    rw [BitVec.msb_eq_decide, BitVec.toNat_ofNat]
    simp
    omega
  rw [hm, if_neg (by simp)]
  apply BitVec.eq_of_toNat_eq
  rw [BitVec.toNat_shiftLeft, BitVec.toNat_ofNat, BitVec.toNat_ofNat, Nat.shiftLeft_eq]
  omega
theorem s8_small (n : Nat) (h : n < 16777216) : s8 (BitVec.ofNat 32 n) = BitVec.ofNat 32 (256 * n) := by
  unfold s8
  rw [s1_small _ (by omega), s1_small _ (by omega), s1_small _ (by omega), s1_small _ (by omega), s1_small _ (by omega), s1_small _ (by omega), s1_small _ (by omega), s1_small _ (by omega)]
  exact congrArg (BitVec.ofNat 32) (by omega)
/-- The register's highest byte. -/
def hi (r : BitVec 32) : BitVec 8 := BitVec.ofNat 8 (r.toNat / 16777216)
theorem toNat_hi (r : BitVec 32) : (hi r).toNat = r.toNat / 16777216 := by
  unfold hi
  rw [BitVec.toNat_ofNat]
  have := r.isLt
  omega
theorem split_top (r : BitVec 32) : r = top (hi r) ^^^ BitVec.ofNat 32 (r.toNat % 16777216) := by
  apply BitVec.eq_of_toNat_eq
  rw [BitVec.toNat_xor, toNat_top, toNat_hi, BitVec.toNat_ofNat]
  have h1 : r.toNat % 16777216 % 2 ^ 32 = r.toNat % 16777216 := by omega
  rw [h1]
  have h2 : r.toNat / 16777216 * 16777216 ^^^ r.toNat % 16777216 = r.toNat / 16777216 * 16777216 + r.toNat % 16777216 := by
    have := Nat.two_pow_add_eq_or_of_lt (i := 24) (b := r.toNat % 16777216) (by omega) (r.toNat / 16777216)
    have h3 : r.toNat / 16777216 * 16777216 = 2 ^ 24 * (r.toNat / 16777216) := by omega
    rw [h3, this]
    apply Nat.eq_of_testBit_eq
    intro i
    rw [Nat.testBit_xor, Nat.testBit_or]
    by_cases hi : i < 24
    · have : (2 ^ 24 * (r.toNat / 16777216)).testBit i = false := by
        rw [Nat.testBit_two_pow_mul]
        simp
        omega
      rw [this]
      simp
    · have : (r.toNat % 16777216).testBit i = false := by
        apply Nat.testBit_lt_two_pow
        have : 2 ^ 24 ≤ 2 ^ i := Nat.pow_le_pow_right (by omega) (by omega)
        omega
      rw [this]
      simp
  rw [h2]
  omega
/-- A byte by the table. -/
theorem stepB_table (r : BitVec 32) (b : BitVec 8) : stepB r b = (r <<< 8) ^^^ stepB 0#32 (hi r ^^^ b) := by
  unfold stepB
  have e : r ^^^ top b = top (hi r ^^^ b) ^^^ BitVec.ofNat 32 (r.toNat % 16777216) := by
    rw [top_xor]
    conv => lhs; rw [split_top r]
    rw [BitVec.xor_assoc, BitVec.xor_assoc, BitVec.xor_comm (BitVec.ofNat 32 _)]
  rw [e, s8_xor, s8_small _ (by omega), BitVec.zero_xor, BitVec.xor_comm]
  congr 1
  apply BitVec.eq_of_toNat_eq
  rw [BitVec.toNat_ofNat, BitVec.toNat_shiftLeft, Nat.shiftLeft_eq]
  omega

/-- The register behind bytes. -/
def foldB (r : BitVec 32) (l : List (BitVec 8)) : BitVec 32 := l.foldl stepB r
/-- A register's four bytes, the highest one first. -/
def four (r : BitVec 32) : List (BitVec 8) := [BitVec.ofNat 8 (r.toNat / 16777216), BitVec.ofNat 8 (r.toNat / 65536), BitVec.ofNat 8 (r.toNat / 256), BitVec.ofNat 8 r.toNat]
/-! ### numbers -/
theorem xor32 (a b : BitVec 32) : Go.bits .xor .u32 (a.toNat : Int) (b.toNat : Int) = ((a ^^^ b).toNat : Int) := by
  rw [u32_xor_nat _ _ a.isLt b.isLt, BitVec.toNat_xor]
theorem xor8 (a b : BitVec 8) : Go.bits .xor .u8 (a.toNat : Int) (b.toNat : Int) = ((a ^^^ b).toNat : Int) := by
  rw [u8_xor_nat _ _ a.isLt b.isLt, BitVec.toNat_xor]
theorem shl1 (r : BitVec 32) : ((r.toNat : Int) * (2 : Int)) % (4294967296 : Int) = ((r <<< 1).toNat : Int) := by
  rw [BitVec.toNat_shiftLeft, Nat.shiftLeft_eq]
  omega
theorem msb_iff (r : BitVec 32) : (r.toNat : Int) / 2147483648 = 1 ↔ r.msb = true := by
  rw [BitVec.msb_eq_decide]
  have := r.isLt
  simp
  omega
end Go.Proofs.Ytffjbbedjddpmaa.CM
namespace Go.Proofs.Ytffjbbedjddpmaa.CP
open Go.RowKit Go.Proofs.YtffjbbedjddpmaaW.PrintWords Go.Proofs.YtffjbbedjddpmaaW.PrintLast Go.Proofs.Ytffjbbedjddpmaa.PAll Go.Proofs.Ytffjbbedjddpmaa.PB Go.Proofs.Ytffjbbedjddpmaa.CM

theorem l0_step (k : Nat) (r : BitVec 32) (i : Nat) (hi : i < 8) : crc_Step.l0 (k + 1) ((r.toNat : Int)) i = crc_Step.l0 k (((s1 r).toNat : Int)) ((i + 1 : Nat) : Int) := by
  simp only [crc_Step.l0]
  rw [if_pos (by omega), wrap_succ (n := 8) hi (by omega)]
  by_cases h : r.msb = true
  · rw [if_pos ((msb_iff r).2 h), shl1]
    have e : (79764919 : Int) = (poly.toNat : Int) := by decide
    rw [e, xor32]
    unfold s1
    rw [if_pos h]
  · rw [if_neg (fun h' => h ((msb_iff r).1 h')), shl1]
    unfold s1
    rw [if_neg h]
theorem l0_end (k : Nat) (x : Int) : crc_Step.l0 (k + 1) x (8 : Nat) = some x := by
  simp only [crc_Step.l0]
  rw [if_neg (by omega)]
theorem step_num (k : Nat) (hk : 9 ≤ k) (r : BitVec 32) (b : BitVec 8) : crc_Step.f k ((r.toNat : Int)) (b.toNat : Int) = some (((stepB r b).toNat : Int)) := by
  obtain ⟨k, rfl⟩ : ∃ m, k = m + 9 := ⟨k - 9, by omega⟩
  unfold crc_Step.f
  have hb := b.isLt
  have e : ((b.toNat : Int) % 4294967296 * 16777216) % 4294967296 = ((top b).toNat : Int) := by rw [toNat_top]; omega
  rw [e, xor32]
  have h := l0_step (k + 8) (r ^^^ top b) 0 (by omega)
  refine h.trans ?_
  rw [l0_step (k + 7) _ 1 (by omega), l0_step (k + 6) _ 2 (by omega), l0_step (k + 5) _ 3 (by omega), l0_step (k + 4) _ 4 (by omega), l0_step (k + 3) _ 5 (by omega), l0_step (k + 2) _ 6 (by omega), l0_step (k + 1) _ 7 (by omega), l0_end]
  rfl
theorem tab_num (i : BitVec 8) : crc_tabAt i.toNat = ((stepB 0#32 i).toNat : Int) := by
  unfold crc_tabAt
  have h := step_num 10 (by omega) 0#32 i
  have e : ((0#32).toNat : Int) = 0 := rfl
  rw [e] at h
  rw [h]
  rfl
theorem one_num (r : BitVec 32) (b : BitVec 8) : crc_one ((r.toNat : Int)) (b.toNat : Int) = ((stepB r b).toNat : Int) := by
  unfold crc_one crc_idx
  have hr := r.isLt
  have e1 : (r.toNat : Int) / 16777216 % 256 = ((hi r).toNat : Int) := by rw [toNat_hi]; omega
  have e2 : (r.toNat : Int) * (256 : Int) % (4294967296 : Int) = ((r <<< 8).toNat : Int) := by rw [BitVec.toNat_shiftLeft, Nat.shiftLeft_eq]; omega
  rw [e1, xor8, Int.toNat_natCast, tab_num, e2, xor32, ← stepB_table]
/-- The register behind bytes. -/
def foldU (r : BitVec 32) (l : List UInt8) : BitVec 32 := foldB r (l.map UInt8.toBitVec)
theorem fold_num : ∀ (l : List UInt8) (r : BitVec 32), crc_fold ((r.toNat : Int)) l = ((foldU r l).toNat : Int)
  | [], _ => rfl
  | c :: l, r => by
    show crc_fold (crc_one ((r.toNat : Int)) (c.toNat : Int)) l = _
    have h := one_num r c.toBitVec
    rw [show ((c.toNat : Int)) = (c.toBitVec.toNat : Int) from rfl, h]
    exact fold_num l (stepB r c.toBitVec)
def ones : BitVec 32 := 4294967295#32
/-- A text's sum. -/
def sumB (l : List UInt8) : BitVec 32 := foldU ones l ^^^ ones
theorem sum_num (s : ByteArray) (h : s.size ≤ 9223372036854775807) : crc_Sum.f s = some (((sumB (L s)).toNat : Int)) := by
  unfold crc_Sum.f
  rw [if_pos h]
  have e : (4294967295 : Int) = (ones.toNat : Int) := rfl
  rw [e, fold_num]
  show some (Go.bits .xor .u32 (ones.toNat : Int) ((foldU ones (L s)).toNat : Int)) = _
  rw [xor32, BitVec.xor_comm]
  rfl
theorem tdiv_nat (a b : Nat) : Int.tdiv (a : Int) (b : Int) = ((a / b : Nat) : Int) := by rw [Int.tdiv_eq_ediv_of_nonneg (by omega)]; omega
theorem tmod_nat (a b : Nat) : Int.tmod (a : Int) (b : Int) = ((a % b : Nat) : Int) := by rw [Int.tmod_eq_emod_of_nonneg (by omega)]; omega
/-- One round of the reference: a bit of the byte's is put in. -/
theorem ref_round (k : Nat) (r : BitVec 32) (c : BitVec 8) (i : Nat) (hi : i < 8) : hogsheadref02_Step.l0 (k + 1) ((r.toNat : Int)) (c.toNat : Int) i = hogsheadref02_Step.l0 k (((s1 (r ^^^ (if c.msb then 2147483648#32 else 0#32))).toNat : Int)) ((c <<< 1).toNat : Int) ((i + 1 : Nat) : Int) := by
  have hr := r.isLt
  have hc := c.isLt
  simp only [hogsheadref02_Step.l0]
  rw [if_pos (by omega), wrap_succ (n := 8) hi (by omega)]
  have e0 : (2147483648 : Int) = ((2147483648 : Nat) : Int) := rfl
  have e1 : (128 : Int) = ((128 : Nat) : Int) := rfl
  rw [e0, e1, tdiv_nat, tdiv_nat, tmod_nat, tmod_nat]
  have hb : ((c.toNat % 128 : Nat) : Int) * (2 : Int) % (256 : Int) = ((c <<< 1).toNat : Int) := by rw [BitVec.toNat_shiftLeft, Nat.shiftLeft_eq]; omega
  rw [hb]
  have mc : c.msb = decide (128 ≤ c.toNat) := by rw [BitVec.msb_eq_decide]
  have mr : r.msb = decide (2147483648 ≤ r.toNat) := by rw [BitVec.msb_eq_decide]
  have mx : (r ^^^ (if c.msb then 2147483648#32 else 0#32)).msb = (r.msb != c.msb) := by
    rw [BitVec.msb_xor]
    cases c.msb <;> cases r.msb <;> rfl
  have sx : (r ^^^ (if c.msb then 2147483648#32 else 0#32)) <<< 1 = r <<< 1 := by
    rw [BitVec.shiftLeft_xor_distrib]
    have : (if c.msb then 2147483648#32 else 0#32) <<< 1 = 0#32 := by cases c.msb <;> rfl
    rw [this, BitVec.xor_zero]
  have hx : ((r.toNat % 2147483648 : Nat) : Int) * (2 : Int) % (4294967296 : Int) = ((r <<< 1).toNat : Int) := by rw [BitVec.toNat_shiftLeft, Nat.shiftLeft_eq]; omega
  have a1 : ((r.toNat / 2147483648 : Nat) : Int) % 4294967296 = ((r.toNat / 2147483648 : Nat) : Int) := by omega
  have a2 : ((c.toNat / 128 : Nat) : Int) % 256 = ((c.toNat / 128 : Nat) : Int) := by omega
  rw [hx, a1, a2, u32_xor_nat _ _ (by omega) (by omega)]
  have ht : ((((r.toNat / 2147483648) ^^^ (c.toNat / 128) : Nat) : Int) = 1) ↔ (r.msb != c.msb) = true := by
    rw [mr, mc]
    by_cases h1 : 2147483648 ≤ r.toNat
    · have q1 : r.toNat / 2147483648 = 1 := by omega
      by_cases h2 : 128 ≤ c.toNat
      · have q2 : c.toNat / 128 = 1 := by omega
        rw [q1, q2]; simp [h1, h2]
      · have q2 : c.toNat / 128 = 0 := by omega
        rw [q1, q2]; simp [h1, h2]
    · have q1 : r.toNat / 2147483648 = 0 := by omega
      by_cases h2 : 128 ≤ c.toNat
      · have q2 : c.toNat / 128 = 1 := by omega
        rw [q1, q2]; simp [h1, h2]
      · have q2 : c.toNat / 128 = 0 := by omega
        rw [q1, q2]; simp [h1, h2]
  unfold s1
  rw [mx, sx]
  by_cases hm : (r.msb != c.msb) = true
  · rw [if_pos (ht.2 hm), if_pos hm]
    have e : (79764919 : Int) = (poly.toNat : Int) := by decide
    rw [e, xor32]
  · rw [if_neg (fun h => hm (ht.1 h)), if_neg hm]
theorem ref_end (k : Nat) (x y : Int) : hogsheadref02_Step.l0 (k + 1) x y (8 : Nat) = some x := by
  simp only [hogsheadref02_Step.l0]
  rw [if_neg (by omega)]
/-- The register behind so many bits of a byte. -/
def bitsIn : Nat → BitVec 32 → BitVec 8 → BitVec 32
  | 0, r, _ => r
  | n + 1, r, c => bitsIn n (s1 (r ^^^ (if c.msb then 2147483648#32 else 0#32))) (c <<< 1)
theorem bitsIn_xor : ∀ (n : Nat) (a b : BitVec 32) (c : BitVec 8), bitsIn n (a ^^^ b) c = bitsIn n a 0#8 ^^^ bitsIn n b c
  | 0, _, _, _ => rfl
  | n + 1, a, b, c => by
    simp only [bitsIn]
    have h0 : (0#8).msb = false := by decide
    have h1 : (0#8 <<< 1) = 0#8 := by decide
    rw [h0, h1, BitVec.xor_assoc, s1_xor, bitsIn_xor n]
    simp
theorem bitsIn_zero (r : BitVec 32) : bitsIn 8 r 0#8 = s8 r := by
  have h0 : (0#8).msb = false := by decide
  have h1 : (0#8 <<< 1) = 0#8 := by decide
  simp only [bitsIn, h0, h1, Bool.false_eq_true, if_false, BitVec.xor_zero]
  rfl
theorem bitsIn_byte : ∀ c : BitVec 8, bitsIn 8 0#32 c = s8 (top c) := by
  have h : ∀ n : Nat, n < 256 → bitsIn 8 0#32 (BitVec.ofNat 8 n) = s8 (top (BitVec.ofNat 8 n)) := by decide +kernel
  intro c
  have := h c.toNat c.isLt
  rwa [BitVec.ofNat_toNat, BitVec.setWidth_eq] at this
theorem bitsIn_step (r : BitVec 32) (c : BitVec 8) : bitsIn 8 r c = stepB r c := by
  have h := bitsIn_xor 8 r 0#32 c
  rw [BitVec.xor_zero, bitsIn_zero, bitsIn_byte] at h
  rw [h, ← s8_xor]
  rfl
theorem ref_step (k : Nat) (hk : 9 ≤ k) (r : BitVec 32) (b : BitVec 8) : hogsheadref02_Step.f k ((r.toNat : Int)) (b.toNat : Int) = some (((stepB r b).toNat : Int)) := by
  obtain ⟨k, rfl⟩ : ∃ m, k = m + 9 := ⟨k - 9, by omega⟩
  unfold hogsheadref02_Step.f
  have h := ref_round (k + 8) r b 0 (by omega)
  refine h.trans ?_
  rw [ref_round (k + 7) _ _ 1 (by omega), ref_round (k + 6) _ _ 2 (by omega), ref_round (k + 5) _ _ 3 (by omega), ref_round (k + 4) _ _ 4 (by omega), ref_round (k + 3) _ _ 5 (by omega), ref_round (k + 2) _ _ 6 (by omega), ref_round (k + 1) _ _ 7 (by omega), ref_end, ← bitsIn_step]
  rfl
theorem ref_sum_l0 (s : ByteArray) (hs : s.size ≤ 9223372036854775807) : ∀ (d j : Nat), j ≤ s.size → s.size - j = d → ∀ (k : Nat) (r : BitVec 32), d + 9 < k → hogsheadref02_Sum.l0 k s ((r.toNat : Int)) j = some (((foldU r ((L s).drop j) ^^^ ones).toNat : Int)) := by
  intro d
  induction d with
  | zero =>
    intro j hj hd k r hk
    obtain ⟨k, rfl⟩ := succ_of (show 0 < k by omega)
    simp only [hogsheadref02_Sum.l0]
    rw [if_neg (by omega), List.drop_of_length_le (by rw [L_length]; omega)]
    have e : (4294967295 : Int) = (ones.toNat : Int) := rfl
    rw [e, xor32]
    rfl
  | succ d ih =>
    intro j hj hd k r hk
    have hlt : j < s.size := by omega
    obtain ⟨k, rfl⟩ := succ_of (show 0 < k by omega)
    simp only [hogsheadref02_Sum.l0]
    rw [if_pos (by omega), if_pos (by omega), bt_L s j hlt, wrap_succ hlt hs]
    rw [show (((L s)[j]'(by rw [L_length]; exact hlt)).toNat : Int) = (((L s)[j]'(by rw [L_length]; exact hlt)).toBitVec.toNat : Int) from rfl, ref_step k (by omega)]
    simp only [Option.bind_some]
    rw [ih (j + 1) (by omega) (by omega) k _ (by omega), List.drop_eq_getElem_cons (i := j) (by rw [L_length]; exact hlt)]
    rfl
theorem ref_sum (s : ByteArray) (hs : s.size ≤ 9223372036854775807) (k : Nat) (hk : s.size + 9 < k) : hogsheadref02_Sum.f k s = some (((sumB (L s)).toNat : Int)) := by
  have h := ref_sum_l0 s hs s.size 0 (by omega) (by omega) k ones hk
  rw [List.drop_zero] at h
  exact h
end Go.Proofs.Ytffjbbedjddpmaa.CP
namespace Go.Proofs.Ytffjbbedjddpmaa.CP
open Go.RowKit Go.Proofs.YtffjbbedjddpmaaW.PrintWords Go.Proofs.YtffjbbedjddpmaaW.PrintLast Go.Proofs.Ytffjbbedjddpmaa.PAll Go.Proofs.Ytffjbbedjddpmaa.PB Go.Proofs.Ytffjbbedjddpmaa.CM

/-- A sum's bytes. -/
def four8 (v : BitVec 32) : List UInt8 := (four v).map UInt8.ofBitVec
theorem ofNat_mod (n : Nat) : UInt8.ofNat (n % 256) = UInt8.ofBitVec (BitVec.ofNat 8 n) := by
  apply UInt8.toNat_inj.1
  rw [UInt8.toNat_ofNat']
  show _ = (BitVec.ofNat 8 n).toNat
  rw [BitVec.toNat_ofNat]
  omega
theorem laid_num (v : BitVec 32) : ∃ s, crc_laid.f ((v.toNat : Int)) = some s ∧ L s = four8 v := by
  refine ⟨_, rfl, ?_⟩
  rw [L_nums]
  have hv := v.isLt
  have h0 : ((v.toNat : Int) / 16777216 % 256).toNat = v.toNat / 16777216 % 256 := by omega
  have h1 : ((v.toNat : Int) / 65536 % 256).toNat = v.toNat / 65536 % 256 := by omega
  have h2 : ((v.toNat : Int) / 256 % 256).toNat = v.toNat / 256 % 256 := by omega
  have h3 : ((v.toNat : Int) % 256).toNat = v.toNat % 256 := by omega
  simp only [List.map_cons, List.map_nil, h0, h1, h2, h3, ofNat_mod]
  rfl
theorem four8_length (v : BitVec 32) : (four8 v).length = 4 := rfl
/-- A text with its sum. -/
def sealed (l : List UInt8) : List UInt8 := l ++ four8 (sumB l)
theorem seal_num (s : ByteArray) (h : s.size ≤ 9223372036854775803) : ∃ f, crc_Seal.f s = some f ∧ L f = sealed (L s) := by
  obtain ⟨q, hq, hL⟩ := laid_num (sumB (L s))
  have hs : q.size = 4 := by rw [← L_length, hL, four8_length]
  refine ⟨s ++ q, ?_, by rw [L_append, hL]; rfl⟩
  unfold crc_Seal.f
  rw [sum_num s (by omega)]
  simp only [Option.bind_some]
  rw [hq]
  simp only [Option.bind_some]
  rw [if_pos (by omega)]

/-! the reference -/
theorem ref_seal (s : ByteArray) (hs : s.size ≤ 9223372036854775803) (k : Nat) (hk : s.size + 9 < k) : ∃ f, hogsheadref02_Seal.f k s = some f ∧ L f = sealed (L s) := by
  unfold hogsheadref02_Seal.f
  rw [ref_sum s (by omega) k hk]
  simp only [Option.bind_some]
  rw [size_nums]
  rw [if_pos (by simp; omega)]
  refine ⟨_, rfl, ?_⟩
  rw [L_append, L_nums]
  unfold sealed
  congr 1
  have hv := (sumB (L s)).isLt
  generalize sumB (L s) = v at *
  have e3 : (16777216 : Int) = ((16777216 : Nat) : Int) := rfl
  have e2 : (65536 : Int) = ((65536 : Nat) : Int) := rfl
  have e1 : (256 : Int) = ((256 : Nat) : Int) := rfl
  have h0 : (Int.tdiv ((v.toNat : Int)) 16777216 % 4294967296 % 256).toNat = v.toNat / 16777216 % 256 := by rw [e3, tdiv_nat]; omega
  have h1 : (Int.tdiv ((v.toNat : Int)) 65536 % 4294967296 % 256).toNat = v.toNat / 65536 % 256 := by rw [e2, tdiv_nat]; omega
  have h2 : (Int.tdiv ((v.toNat : Int)) 256 % 4294967296 % 256).toNat = v.toNat / 256 % 256 := by rw [e1, tdiv_nat]; omega
  have h3 : (Int.tmod ((v.toNat : Int)) 256 % 256).toNat = v.toNat % 256 := by rw [e1, tmod_nat]; omega
  simp only [List.map_cons, List.map_nil, h0, h1, h2, h3, ofNat_mod]
  rfl
end Go.Proofs.Ytffjbbedjddpmaa.CP
namespace Go.Proofs.Ytffjbbedjddpmaa.CP
open Go.RowKit Go.Proofs.YtffjbbedjddpmaaW.PrintWords Go.Proofs.YtffjbbedjddpmaaW.PrintLast Go.Proofs.Ytffjbbedjddpmaa.PAll Go.Proofs.Ytffjbbedjddpmaa.PB Go.Proofs.Ytffjbbedjddpmaa.CM

/-- What a text opens to. -/
def opened (l : List UInt8) : List UInt8 × Int := if l.length < 4 then ([], 2) else if sealed (l.take (l.length - 4)) = l then (l.take (l.length - 4), 0) else ([], 13)
theorem four8_eq {l : List UInt8} (h : 4 ≤ l.length) (v : BitVec 32) : l.drop (l.length - 4) = four8 v ↔ l.take (l.length - 4) ++ four8 v = l := by
  constructor
  · intro e
    rw [← e, List.take_append_drop]
  · intro e
    have h2 := congrArg (List.drop (l.length - 4)) e
    rw [List.drop_append_of_le_length (by rw [List.length_take]; omega), List.drop_of_length_le (by rw [List.length_take]; omega), List.nil_append] at h2
    exact h2.symm
theorem open_num (f : ByteArray) (h : f.size ≤ 9223372036854775807) : ∃ s e, crc_Open.f f = some (s, e) ∧ L s = (opened (L f)).1 ∧ e = (opened (L f)).2 := by
  unfold crc_Open.f opened
  rw [L_length]
  have hw : wrap64 ((f.size : Int) - 4) = (f.size : Int) - 4 := wrap_in (by unfold InR; omega)
  rw [hw]
  by_cases h4 : f.size < 4
  · rw [if_pos (by omega), if_pos h4]
    exact ⟨_, _, rfl, rfl, rfl⟩
  · have et : ((f.size : Int) - 4).toNat = f.size - 4 := by omega
    rw [if_neg (by omega), if_neg h4, if_pos (by omega), if_pos (by omega), et, sum_num _ (by rw [size_le_upto _ _ (by omega)]; omega)]
    simp only [Option.bind_some]
    obtain ⟨q, hq, hL⟩ := laid_num (sumB (L (f.extract 0 (f.size - 4))))
    rw [hq]
    simp only [Option.bind_some]
    rw [L_toList, L_toList, hL, L_from, L_upto]
    have h8 := four8_eq (l := L f) (by rw [L_length]; omega) (sumB ((L f).take (f.size - 4)))
    rw [L_length] at h8
    change _ ↔ sealed ((L f).take (f.size - 4)) = L f at h8
    by_cases hc : (L f).drop (f.size - 4) = four8 (sumB ((L f).take (f.size - 4)))
    · rw [if_pos hc, if_pos (h8.1 hc)]
      exact ⟨_, _, rfl, L_upto _ _, rfl⟩
    · rw [if_neg hc, if_neg (fun h' => hc (h8.2 h'))]
      exact ⟨_, _, rfl, rfl, rfl⟩
theorem ref_open (f : ByteArray) (h : f.size ≤ 9223372036854775807) (k : Nat) (hk : f.size + 9 < k) : ∃ s e, hogsheadref02_Open.f k f = some (s, e) ∧ L s = (opened (L f)).1 ∧ e = (opened (L f)).2 := by
  unfold hogsheadref02_Open.f opened
  rw [L_length]
  by_cases h4 : f.size < 4
  · rw [if_pos (by omega), if_pos h4]
    exact ⟨_, _, rfl, rfl, rfl⟩
  · have hw : wrap64 ((f.size : Int) - 4) = (f.size : Int) - 4 := wrap_in (by unfold InR; omega)
    have et : ((f.size : Int) - 4).toNat = f.size - 4 := by omega
    have hsz := size_le_upto f (f.size - 4) (by omega)
    rw [if_neg (by omega), if_neg h4, hw, if_pos (by omega), if_pos (by omega), et]
    obtain ⟨q, hq, hL⟩ := ref_seal (f.extract 0 (f.size - 4)) (by omega) k (by omega)
    rw [hq]
    simp only [Option.bind_some]
    rw [L_toList, L_toList, hL, L_upto]
    by_cases hc : sealed ((L f).take (f.size - 4)) = L f
    · rw [if_pos hc, if_pos hc]
      exact ⟨_, _, rfl, L_upto _ _, rfl⟩
    · rw [if_neg hc, if_neg hc]
      exact ⟨_, _, rfl, rfl, rfl⟩
end Go.Proofs.Ytffjbbedjddpmaa.CP
namespace Go.Proofs.Ytffjbbedjddpmaa.VP
open Go.RowKit Go.Proofs.YtffjbbedjddpmaaW.PrintWords Go.Proofs.YtffjbbedjddpmaaW.PrintLast Go.Proofs.Ytffjbbedjddpmaa.PAll Go.Proofs.Ytffjbbedjddpmaa.PB

/-- A text of bytes. -/
def B (l : List UInt8) : ByteArray := ⟨l.toArray⟩
theorem L_B (l : List UInt8) : L (B l) = l := rfl
theorem B_size (l : List UInt8) : (B l).size = l.length := by rw [← L_length, L_B]
theorem B_append (a b : List UInt8) : B a ++ B b = B (a ++ b) := L_inj (by rw [L_append, L_B, L_B, L_B])
theorem from_B (s : ByteArray) (a : Nat) : s.extract a s.size = B ((L s).drop a) := L_inj (by rw [L_from, L_B])
theorem upto_B (s : ByteArray) (b : Nat) : s.extract 0 b = B ((L s).take b) := L_inj (by rw [L_upto, L_B])
/-! ### taking -/
/-- The number that goes on behind v. -/
def tk : Nat → List UInt8 → Nat × List UInt8 × Int
  | _, [] => (0, [], 2)
  | v, c :: l => if v > 144115188075855871 then (0, [], 3) else if c.toNat < 128 then (v * 128 + c.toNat, l, 0) else tk (v * 128 + c.toNat % 128) l
/-- The number that begins bytes, what stands behind it, and the error. -/
def takeN (l : List UInt8) : Nat × List UInt8 × Int :=
  match l with
  | [] => (0, [], 2)
  | c :: _ => if c.toNat = 128 then (0, [], 3) else tk 0 l
theorem tk_bound : ∀ (l : List UInt8) (v : Nat), (tk v l).1 < 18446744073709551616
  | [], _ => by simp [tk]
  | c :: l, v => by
    unfold tk
    have := c.toNat_lt
    split
    · simp
    · split
      · simp only
        omega
      · exact tk_bound l _
theorem takeN_bound (l : List UInt8) : (takeN l).1 < 18446744073709551616 := by
  unfold takeN
  split
  · simp
  · split
    · simp
    · exact tk_bound _ _
theorem tk_len : ∀ (l : List UInt8) (v : Nat), (tk v l).2.1.length ≤ l.length
  | [], _ => by simp [tk]
  | c :: l, v => by
    unfold tk
    split
    · simp
    · split
      · simp
      · have := tk_len l (v * 128 + c.toNat % 128)
        simp only [List.length_cons]
        omega
theorem takeN_len (l : List UInt8) : (takeN l).2.1.length ≤ l.length := by
  unfold takeN
  split
  · simp
  · split
    · simp
    · exact tk_len _ _
theorem u64_in {x : Int} (h : 0 ≤ x ∧ x ≤ 18446744073709551615) : IntKind.u64.wrap x = x := by
  rw [IntKind.wrap_u64]
  omega
theorem byte_and (c : Nat) (h : c < 256) : Go.bits .and .u8 (c : Int) 127 = ((c % 128 : Nat) : Int) := by
  rw [show (127 : Int) = ((127 : Nat) : Int) from rfl, u8_and_nat _ _ h (by omega), show (127 : Nat) = 2 ^ 7 - 1 from rfl, Nat.and_two_pow_sub_one_eq_mod]
theorem or_add (v c : Nat) (hv : v ≤ 144115188075855871) (hc : c < 128) : Go.bits .or .u64 ((v * 128 : Nat) : Int) (c : Int) = ((v * 128 + c : Nat) : Int) := by
  rw [u64_or_nat _ _ (by omega) (by omega)]
  have := Nat.two_pow_add_eq_or_of_lt (i := 7) (b := c) (by omega) v
  have e : v * 128 = 2 ^ 7 * v := by omega
  rw [e, this]
theorem take_l0 (s : ByteArray) (hs : s.size ≤ 9223372036854775807) : ∀ (d j : Nat), j ≤ s.size → s.size - j = d → ∀ (k v : Nat), d < k →
    vlq_TakeNum.l0 k s (v : Int) s.size j = some (((tk v ((L s).drop j)).1 : Int), B (tk v ((L s).drop j)).2.1, (tk v ((L s).drop j)).2.2) := by
  intro d
  induction d with
  | zero =>
    intro j hj hd k v hk
    obtain ⟨k, rfl⟩ := succ_of hk
    simp only [vlq_TakeNum.l0]
    rw [if_neg (by omega), List.drop_of_length_le (by rw [L_length]; omega)]
    rfl
  | succ d ih =>
    intro j hj hd k v hk
    have hlt : j < s.size := by omega
    have hlt' : j < (L s).length := by rw [L_length]; exact hlt
    obtain ⟨k, rfl⟩ := succ_of hk
    simp only [vlq_TakeNum.l0]
    rw [if_pos (by omega), List.drop_eq_getElem_cons hlt']
    simp only [tk]
    by_cases hv : v > 144115188075855871
    · rw [if_pos (by omega), if_pos hv]
      rfl
    · have hc := ((L s)[j]).toNat_lt
      rw [if_neg (by omega), if_neg hv, if_pos (by omega), if_pos (by omega), bt_L s j hlt, wrap_succ hlt hs]
      have e1 : IntKind.u64.wrap ((v : Int) * 128) = ((v * 128 : Nat) : Int) := by rw [u64_in (by omega)]; omega
      rw [byte_and _ hc, e1, u64_in (x := (((L s)[j].toNat % 128 : Nat) : Int)) (by omega), or_add v _ (by omega) (by omega)]
      by_cases h8 : (L s)[j].toNat < 128
      · rw [if_pos (by omega), if_pos h8, if_pos (by omega), if_pos (by omega), Int.toNat_natCast, from_B]
        have e2 : (L s)[j].toNat % 128 = (L s)[j].toNat := by omega
        rw [e2]
      · rw [if_neg (by omega), if_neg h8]
        exact ih (j + 1) (by omega) (by omega) k _ (by omega)
theorem take_num (s : ByteArray) (hs : s.size ≤ 9223372036854775807) (k : Nat) (hk : s.size < k) :
    vlq_TakeNum.f k s = some (((takeN (L s)).1 : Int), B (takeN (L s)).2.1, (takeN (L s)).2.2) := by
  unfold vlq_TakeNum.f takeN
  rw [L_toList]
  have hl := L_length s
  have h0 := take_l0 s hs s.size 0 (by omega) (by omega) k 0 hk
  rw [List.drop_zero] at h0
  have hb := bt_L s 0
  cases hL : L s with
  | nil => rw [if_pos rfl]; rfl
  | cons c l =>
    rw [hL, List.length_cons] at hl
    have hb := hb (by omega)
    simp only [hL, List.getElem_cons_zero] at hb
    rw [if_neg (by simp), if_pos (by omega), show bt s 0 = (c.toNat : Int) from hb]
    simp only
    by_cases h : c.toNat = 128
    · rw [if_pos (by omega), if_pos h]
      rfl
    · rw [if_neg (by omega), if_neg h, ← hL]
      exact h0
/-! the reference -/
theorem rtake_l0 (s : ByteArray) (hs : s.size ≤ 9223372036854775807) : ∀ (d j : Nat), j ≤ s.size → s.size - j = d → ∀ (k v : Nat), d < k →
    hogsheadref01_TakeNum.l0 k s (v : Int) j = some (((tk v ((L s).drop j)).1 : Int), B (tk v ((L s).drop j)).2.1, (tk v ((L s).drop j)).2.2) := by
  intro d
  induction d with
  | zero =>
    intro j hj hd k v hk
    obtain ⟨k, rfl⟩ := succ_of hk
    simp only [hogsheadref01_TakeNum.l0]
    rw [if_neg (by omega), List.drop_of_length_le (by rw [L_length]; omega)]
    rfl
  | succ d ih =>
    intro j hj hd k v hk
    have hlt : j < s.size := by omega
    have hlt' : j < (L s).length := by rw [L_length]; exact hlt
    obtain ⟨k, rfl⟩ := succ_of hk
    simp only [hogsheadref01_TakeNum.l0]
    rw [if_pos (by omega), List.drop_eq_getElem_cons hlt']
    simp only [tk]
    by_cases hv : v > 144115188075855871
    · rw [if_pos (by omega), if_pos hv]
      rfl
    · have hc := ((L s)[j]).toNat_lt
      rw [if_neg (by omega), if_neg hv, if_pos (by omega), bt_L s j hlt, wrap_succ hlt hs]
      have e0 : Int.tmod ((L s)[j].toNat : Int) 128 = (((L s)[j].toNat % 128 : Nat) : Int) := by rw [Int.tmod_eq_emod_of_nonneg (by omega)]; omega
      have e1 : IntKind.u64.wrap ((v : Int) * 128) = ((v * 128 : Nat) : Int) := by rw [u64_in (by omega)]; omega
      have e3 : IntKind.u64.wrap (((v * 128 : Nat) : Int) + (((L s)[j].toNat % 128 : Nat) : Int)) = ((v * 128 + (L s)[j].toNat % 128 : Nat) : Int) := by rw [u64_in (by omega)]; omega
      rw [e0, e1, u64_in (x := (((L s)[j].toNat % 128 : Nat) : Int)) (by omega), e3]
      by_cases h8 : (L s)[j].toNat < 128
      · rw [if_pos (by omega), if_pos h8, if_pos (by omega), if_pos (by omega), Int.toNat_natCast, from_B]
        have e2 : (L s)[j].toNat % 128 = (L s)[j].toNat := by omega
        rw [e2]
      · rw [if_neg (by omega), if_neg h8]
        exact ih (j + 1) (by omega) (by omega) k _ (by omega)
theorem rtake_num (s : ByteArray) (hs : s.size ≤ 9223372036854775807) (k : Nat) (hk : s.size < k) :
    hogsheadref01_TakeNum.f k s = some (((takeN (L s)).1 : Int), B (takeN (L s)).2.1, (takeN (L s)).2.2) := by
  unfold hogsheadref01_TakeNum.f takeN
  have hl := L_length s
  have h0 := rtake_l0 s hs s.size 0 (by omega) (by omega) k 0 hk
  rw [List.drop_zero] at h0
  have hb := bt_L s 0
  cases hL : L s with
  | nil =>
    rw [hL, List.length_nil] at hl
    rw [if_pos (by omega)]
    rfl
  | cons c l =>
    rw [hL, List.length_cons] at hl
    have hb := hb (by omega)
    simp only [hL, List.getElem_cons_zero] at hb
    rw [if_neg (by omega), if_pos (by omega), show bt s 0 = (c.toNat : Int) from hb]
    simp only
    by_cases h : c.toNat = 128
    · rw [if_pos (by omega), if_pos h]
      rfl
    · rw [if_neg (by omega), if_neg h, ← hL]
      exact h0

/-- The text that begins bytes, what stands behind it, and the error. -/
def takeT (l : List UInt8) (most : Int) : List UInt8 × List UInt8 × Int :=
  if (takeN l).2.2 = 0 then
    if most < 0 ∨ ((takeN l).1 : Int) > most then ([], [], 4)
    else if (takeN l).1 > (takeN l).2.1.length then ([], [], 2) else ((takeN l).2.1.take (takeN l).1, (takeN l).2.1.drop (takeN l).1, 0)
  else ([], [], (takeN l).2.2)
theorem take_text (s : ByteArray) (most : Int) (hm : InR most) (hs : s.size ≤ 9223372036854775807) (k : Nat) (hk : s.size + 1 < k) :
    vlq_TakeText.f k s most = some (B (takeT (L s) most).1, B (takeT (L s) most).2.1, (takeT (L s) most).2.2) := by
  unfold vlq_TakeText.f takeT
  unfold InR at hm
  rw [take_num s hs k (by omega)]
  simp only [Option.bind_some]
  have hb := takeN_bound (L s)
  have hl := takeN_len (L s)
  rw [L_length] at hl
  generalize takeN (L s) = t at *
  by_cases he : t.2.2 = 0
  · rw [if_pos he, if_pos he]
    obtain ⟨k, rfl⟩ := succ_of (show 0 < k by omega)
    simp only [vlq_TakeText.j0, B_size]
    by_cases h1 : most < 0
    · rw [if_pos h1, if_pos trivial, if_pos (.inl h1)]
      rfl
    · rw [if_neg h1, u64_in (x := most) (by omega), u64_in (x := ((t.2.1.length : Nat) : Int)) (by omega)]
      by_cases h2 : (t.1 : Int) > most
      · rw [if_pos (decide_eq_true h2), if_pos (.inr h2)]
        rfl
      · rw [if_neg (by simpa using h2), if_neg (show ¬ (most < 0 ∨ (t.1 : Int) > most) by omega)]
        by_cases h3 : t.1 > t.2.1.length
        · rw [if_pos (by omega), if_pos h3]
          rfl
        · rw [if_neg (by omega), if_neg h3, if_pos (by omega), if_pos (by omega), Int.toNat_natCast, ← B_size, from_B, upto_B, L_B]
  · rw [if_neg he, if_neg he]
    rfl
theorem rtake_text (s : ByteArray) (most : Int) (hm : InR most) (hs : s.size ≤ 9223372036854775807) (k : Nat) (hk : s.size + 1 < k) :
    hogsheadref01_TakeText.f k s most = some (B (takeT (L s) most).1, B (takeT (L s) most).2.1, (takeT (L s) most).2.2) := by
  unfold hogsheadref01_TakeText.f takeT
  unfold InR at hm
  rw [rtake_num s hs k (by omega)]
  simp only [Option.bind_some]
  have hb := takeN_bound (L s)
  have hl := takeN_len (L s)
  rw [L_length] at hl
  generalize takeN (L s) = t at *
  by_cases he : t.2.2 = 0
  · rw [if_pos he, if_pos he]
    obtain ⟨k, rfl⟩ := succ_of (show 0 < k by omega)
    simp only [hogsheadref01_TakeText.j0, B_size]
    by_cases h1 : most < 0
    · rw [if_pos h1, if_pos trivial, if_pos (.inl h1)]
      rfl
    · rw [if_neg h1, u64_in (x := most) (by omega), u64_in (x := ((t.2.1.length : Nat) : Int)) (by omega)]
      by_cases h2 : (t.1 : Int) > most
      · rw [if_pos (decide_eq_true h2), if_pos (.inr h2)]
        rfl
      · rw [if_neg (by simpa using h2), if_neg (show ¬ (most < 0 ∨ (t.1 : Int) > most) by omega)]
        by_cases h3 : t.1 > t.2.1.length
        · rw [if_pos (by omega), if_pos h3]
          rfl
        · rw [if_neg (by omega), if_neg h3, if_pos (by omega), if_pos (by omega), Int.toNat_natCast, ← B_size, from_B, upto_B, L_B]
  · rw [if_neg he, if_neg he]
    rfl

/-! ### writing -/
/-- The groups of x, each with 128 besides. -/
def hiG : Nat → Nat → List UInt8
  | 0, _ => []
  | n + 1, x => if x = 0 then [] else hiG n (x / 128) ++ [UInt8.ofNat (x % 128 + 128)]
/-- A number's bytes. -/
def numL (v : Nat) : List UInt8 := hiG 10 (v / 128) ++ [UInt8.ofNat (v % 128)]
theorem more_hiG : ∀ (n x : Nat) (acc : List Int), (vlq_more n x acc).map (fun y => UInt8.ofNat y.toNat) = hiG n x ++ acc.map fun y => UInt8.ofNat y.toNat
  | 0, _, _ => rfl
  | n + 1, x, acc => by
    unfold vlq_more hiG
    split
    · rfl
    · rw [more_hiG n, List.append_assoc, List.map_cons]
      congr 2
theorem num_num (v : Nat) (h : v < 18446744073709551616) : vlq_Num.f (v : Int) = some (B (numL v)) := by
  unfold vlq_Num.f
  rw [if_pos (by omega), if_pos (by omega), Int.toNat_natCast]
  refine congrArg some (L_inj ?_)
  rw [L_nums, L_B]
  unfold vlq_digits numL
  rw [more_hiG]
  rfl
theorem hiG_length_le : ∀ (n x : Nat), (hiG n x).length ≤ n
  | 0, _ => by simp [hiG]
  | n + 1, x => by
    unfold hiG
    split
    · simp
    · have := hiG_length_le n (x / 128)
      simp
      omega
theorem numL_length_le (v : Nat) : (numL v).length ≤ 11 := by
  have := hiG_length_le 10 (v / 128)
  unfold numL
  simp
  omega
theorem rnum_l0 : ∀ (n x k : Nat) (l : List UInt8), x < 128 ^ n → n < k → x < 18446744073709551616 → l.length + n ≤ 1000 → hogsheadref01_Num.l0 k (x : Int) (B l) = some (B (hiG n x ++ l))
  | 0, x, k, l, h, hk, _, _ => by
    obtain ⟨k, rfl⟩ := succ_of hk
    have : x = 0 := by simpa using h
    subst this
    simp only [hogsheadref01_Num.l0]
    rw [if_neg (by omega)]
    rfl
  | n + 1, x, k, l, h, hk, hx, hl => by
    obtain ⟨k, rfl⟩ := succ_of (show 0 < k by omega)
    rw [Nat.pow_succ] at h
    simp only [hogsheadref01_Num.l0]
    by_cases h0 : x = 0
    · subst h0
      rw [if_neg (by omega)]
      rfl
    · rw [if_pos (by omega)]
      simp only [Option.bind_some]
      have e0 : Int.tmod (x : Int) 128 = ((x % 128 : Nat) : Int) := by rw [Int.tmod_eq_emod_of_nonneg (by omega)]; omega
      have e1 : Int.tdiv (x : Int) 128 = ((x / 128 : Nat) : Int) := by rw [Int.tdiv_eq_ediv_of_nonneg (by omega)]; omega
      have e2 : (((x % 128 : Nat) : Int) % 256 + 128) % 256 = ((x % 128 + 128 : Nat) : Int) := by omega
      rw [e0, e1, e2, u64_in (by omega)]
      have e3 : strOfNums [((x % 128 + 128 : Nat) : Int)] = B [UInt8.ofNat (x % 128 + 128)] := by
        refine L_inj ?_
        rw [L_nums]
        rfl
      rw [e3, B_append, B_size, B_size, if_pos (by simp; omega), rnum_l0 n (x / 128) k _ (by omega) (by omega) (by omega) (by simp; omega)]
      rw [hiG, if_neg h0, List.append_assoc]
  termination_by n => n
theorem rnum_num (v : Nat) (h : v < 18446744073709551616) (k : Nat) (hk : 10 < k) : hogsheadref01_Num.f k (v : Int) = some (B (numL v)) := by
  unfold hogsheadref01_Num.f
  have e0 : Int.tmod (v : Int) 128 = ((v % 128 : Nat) : Int) := by rw [Int.tmod_eq_emod_of_nonneg (by omega)]; omega
  have e1 : Int.tdiv (v : Int) 128 = ((v / 128 : Nat) : Int) := by rw [Int.tdiv_eq_ediv_of_nonneg (by omega)]; omega
  rw [e0, e1, u64_in (by omega)]
  have e3 : strOfNums [((v % 128 : Nat) : Int) % 256] = B [UInt8.ofNat (v % 128)] := by
    refine L_inj ?_
    rw [L_nums, L_B, List.map_cons, List.map_nil]
    have : (((v % 128 : Nat) : Int) % 256).toNat = v % 128 := by omega
    rw [this]
  rw [e3, rnum_l0 10 (v / 128) k _ (by omega) hk (by omega) (by simp)]
  rfl
/-- A text's bytes. -/
def textL (l : List UInt8) : List UInt8 := numL l.length ++ l
theorem text_num (s : ByteArray) (hs : s.size ≤ 9223372036854775700) : vlq_Text.f s = some (B (textL (L s))) := by
  unfold vlq_Text.f
  rw [u64_in (by omega), num_num _ (by omega)]
  have hl := numL_length_le s.size
  simp only [Option.bind_some]
  rw [B_size, if_pos (by omega)]
  refine congrArg some (L_inj ?_)
  rw [L_append, L_B, L_B]
  unfold textL
  rw [L_length]
theorem rtext_num (s : ByteArray) (hs : s.size ≤ 9223372036854775700) (k : Nat) (hk : 10 < k) : hogsheadref01_Text.f k s = some (B (textL (L s))) := by
  unfold hogsheadref01_Text.f
  rw [u64_in (by omega), rnum_num _ (by omega) k hk]
  have hl := numL_length_le s.size
  simp only [Option.bind_some]
  rw [B_size, if_pos (by omega)]
  refine congrArg some (L_inj ?_)
  rw [L_append, L_B, L_B]
  unfold textL
  rw [L_length]

end Go.Proofs.Ytffjbbedjddpmaa.VP
namespace Go.Proofs.Ytffjbbedjddpmaa.SH
open Go.RowKit Go.Proofs.YtffjbbedjddpmaaW.PrintWords Go.Proofs.YtffjbbedjddpmaaW.PrintLast Go.Proofs.Ytffjbbedjddpmaa.PAll Go.Proofs.Ytffjbbedjddpmaa.PB Go.Proofs.Ytffjbbedjddpmaa.VP Go.Proofs.Ytffjbbedjddpmaa.CP

theorem in512 : InR 512 := by unfold InR; omega
/-- May such a shard be? -/
def MayS (v x : Int) (n : Nat) : Prop := 1 ≤ v ∧ v ≤ 1048576 ∧ 0 ≤ x ∧ x ≤ 1024 ∧ n ≤ 512
instance (v x : Int) (n : Nat) : Decidable (MayS v x n) := inferInstanceAs (Decidable (_ ∧ _))
theorem may_is (v x : Int) (b : ByteArray) : shelf_May.f v x b = some (decide (MayS v x b.size)) := by
  unfold shelf_May.f
  by_cases c1 : v ≥ 1
  · rw [if_pos c1]
    by_cases c2 : v ≤ 1048576
    · rw [if_pos c2]
      by_cases c3 : x ≥ 0
      · rw [if_pos c3]
        by_cases c4 : x ≤ 1024
        · rw [if_pos c4]
          by_cases c5 : (b.size : Int) ≤ 512
          · rw [decide_eq_true c5, decide_eq_true (show MayS v x b.size from ⟨c1, c2, c3, c4, by omega⟩)]
          · rw [decide_eq_false c5, decide_eq_false (show ¬ MayS v x b.size from fun h => c5 (by have := h.2.2.2.2; omega))]
        · rw [if_neg c4, decide_eq_false (show ¬ MayS v x b.size from fun h => c4 h.2.2.2.1)]
      · rw [if_neg c3, decide_eq_false (show ¬ MayS v x b.size from fun h => c3 h.2.2.1)]
    · rw [if_neg c2, decide_eq_false (show ¬ MayS v x b.size from fun h => c2 h.2.1)]
  · rw [if_neg c1, decide_eq_false (show ¬ MayS v x b.size from fun h => c1 h.1)]
theorem rmay_is (v x : Int) (b : ByteArray) : hogsheadref10_May.f v x b = some (decide (MayS v x b.size)) := by
  rw [← may_is]
  rfl
/-- What bytes read as: a volume, a number in it, the bytes, whether they do. -/
def recS (l : List UInt8) : Nat × Nat × List UInt8 × Int :=
  if (opened l).2 = 0 ∧ (takeN (opened l).1).2.2 = 0 ∧ (takeN (takeN (opened l).1).2.1).2.2 = 0 ∧ (takeT (takeN (takeN (opened l).1).2.1).2.1 512).2.2 = 0 ∧ (takeT (takeN (takeN (opened l).1).2.1).2.1 512).2.1 = [] ∧ (1 ≤ (takeN (opened l).1).1 ∧ (takeN (opened l).1).1 ≤ 1048576) ∧ (takeN (takeN (opened l).1).2.1).1 ≤ 1024 then
    ((takeN (opened l).1).1, (takeN (takeN (opened l).1).2.1).1, (takeT (takeN (takeN (opened l).1).2.1).2.1 512).1, 0) else (0, 0, [], 3)
theorem opened_len (l : List UInt8) : (opened l).1.length ≤ l.length := by
  unfold opened
  split
  · simp
  · split
    · rw [List.length_take]; omega
    · simp
theorem L_nil_iff (s : ByteArray) : s.toList = ([] : List UInt8) ↔ L s = [] := by rw [L_toList]
theorem takeT_len (l : List UInt8) (m : Int) : (takeT l m).2.2 = 0 → ((takeT l m).1.length : Int) ≤ m := by
  unfold VP.takeT
  intro h
  split at h
  · rename_i h0
    rw [if_pos h0]
    split at h
    · exact absurd h (by decide)
    · rename_i h1
      rw [if_neg h1]
      split at h
      · exact absurd h (by decide)
      · rename_i h2
        rw [if_neg h2]
        simp only [List.length_take]
        omega
  · rename_i h0
    exact absurd h h0
theorem wrap_small {n : Nat} (h : n ≤ 1048576) : wrap64 (n : Int) = n := wrap_nat (by omega)
theorem take_is (s : ByteArray) (hs : s.size ≤ 9223372036854775807) (k : Nat) (hk : s.size + 2 < k) : shelf_Take.f k s = some (((recS (L s)).1 : Int), ((recS (L s)).2.1 : Int), B (recS (L s)).2.2.1, (recS (L s)).2.2.2) := by
  obtain ⟨o, e, ho, hL, he⟩ := open_num s hs
  have hlen := opened_len (L s)
  rw [← hL, L_length, L_length] at hlen
  obtain ⟨k, rfl⟩ := succ_of (show 0 < k by omega)
  unfold shelf_Take.f recS
  rw [ho, Option.bind_some, ← hL, ← he]
  dsimp only
  rw [take_num o (by omega) _ (by omega), Option.bind_some]
  dsimp only
  have h2 := takeN_len (L o)
  rw [L_length] at h2
  rw [take_num (B (takeN (L o)).2.1) (by rw [B_size]; omega) _ (by rw [B_size]; omega), Option.bind_some, L_B]
  dsimp only
  have h3 := takeN_len (takeN (L o)).2.1
  rw [take_text (B (takeN (takeN (L o)).2.1).2.1) 512 in512 (by rw [B_size]; omega) _ (by rw [B_size]; omega), Option.bind_some, L_B]
  dsimp only
  have hT := takeT_len (takeN (takeN (L o)).2.1).2.1 512
  simp only [L_nil_iff, L_B]
  generalize takeT (takeN (takeN (L o)).2.1).2.1 512 = d at *
  generalize takeN (takeN (L o)).2.1 = c at *
  generalize takeN (L o) = b at *
  clear ho hL he h2 h3 hlen
  by_cases c1 : e = 0
  · rw [if_pos c1]
    by_cases c2 : b.2.2 = 0
    · rw [if_pos c2]
      by_cases c3 : c.2.2 = 0
      · rw [if_pos c3]
        by_cases c4 : d.2.2 = 0
        · rw [if_pos c4]
          by_cases c5 : d.2.1 = []
          · rw [if_pos c5]
            by_cases c6 : (b.1 : Int) > 1048576
            · rw [if_pos c6, shelf_Take.j0, if_pos rfl, if_neg (fun h => by omega)]
              rfl
            · rw [if_neg c6, shelf_Take.j0]
              by_cases c7 : (c.1 : Int) > 1024
              · rw [if_pos (decide_eq_true c7), if_neg (fun h => by omega)]
                rfl
              · rw [if_neg (by simpa using c7), wrap_small (by omega), wrap_small (by omega), may_is, Option.bind_some, B_size]
                have hd := hT c4
                by_cases c8 : 1 ≤ b.1
                · rw [decide_eq_true (show MayS _ _ _ from ⟨by omega, by omega, by omega, by omega, by omega⟩), if_pos rfl, if_pos ⟨c1, c2, c3, c4, c5, ⟨c8, by omega⟩, by omega⟩]
                · rw [decide_eq_false (show ¬ MayS _ _ _ from fun h => by have := h.1; omega), if_neg (by decide), if_neg (fun h => c8 h.2.2.2.2.2.1.1)]
                  rfl
          · rw [if_neg c5, shelf_Take.j0, if_pos rfl, if_neg (fun h => c5 h.2.2.2.2.1)]
            rfl
        · rw [if_neg c4, shelf_Take.j0, if_pos rfl, if_neg (fun h => c4 h.2.2.2.1)]
          rfl
      · rw [if_neg c3, shelf_Take.j0, if_pos rfl, if_neg (fun h => c3 h.2.2.1)]
        rfl
    · rw [if_neg c2, shelf_Take.j0, if_pos rfl, if_neg (fun h => c2 h.2.1)]
      rfl
  · rw [if_neg c1, shelf_Take.j0, if_pos rfl, if_neg (fun h => c1 h.1)]
    rfl
theorem rtake_is (s : ByteArray) (hs : s.size ≤ 9223372036854775807) (k : Nat) (hk : s.size + 20 < k) : hogsheadref10_Take.f k s = some (((recS (L s)).1 : Int), ((recS (L s)).2.1 : Int), B (recS (L s)).2.2.1, (recS (L s)).2.2.2) := by
  obtain ⟨o, e, ho, hL, he⟩ := ref_open s hs k (by omega)
  have hlen := opened_len (L s)
  rw [← hL, L_length, L_length] at hlen
  have hb := takeN_bound (L o)
  unfold hogsheadref10_Take.f recS
  rw [ho, Option.bind_some, ← hL, ← he]
  dsimp only
  obtain ⟨k, rfl⟩ := succ_of (show 1 < k by omega)
  obtain ⟨k, rfl⟩ := succ_of (show 0 < k by omega)
  have h2 := takeN_len (L o)
  rw [L_length] at h2
  have h3 := takeN_len (takeN (L o)).2.1
  by_cases c1 : e = 0
  · rw [if_pos c1, rtake_num o (by omega) _ (by omega), Option.bind_some]
    dsimp only
    by_cases c2 : (takeN (L o)).2.2 = 0
    · rw [if_pos c2]
      by_cases c6 : ((takeN (L o)).1 : Int) < 1
      · rw [if_pos c6, hogsheadref10_Take.j0, if_pos rfl, if_neg (fun h => by have := h.2.2.2.2.2.1.1; omega)]
        rfl
      · rw [if_neg c6, hogsheadref10_Take.j0]
        by_cases c7 : ((takeN (L o)).1 : Int) > 1048576
        · rw [if_pos (decide_eq_true c7), if_neg (fun h => by have := h.2.2.2.2.2.1.2; omega)]
          rfl
        · rw [if_neg (by simpa using c7), rtake_num (B (takeN (L o)).2.1) (by rw [B_size]; omega) _ (by rw [B_size]; omega), Option.bind_some, L_B]
          dsimp only
          by_cases c3 : (takeN (takeN (L o)).2.1).2.2 = 0
          · rw [if_pos c3, hogsheadref10_Take.j1]
            by_cases c8 : ((takeN (takeN (L o)).2.1).1 : Int) > 1024
            · rw [if_pos (decide_eq_true c8), if_neg (fun h => by have := h.2.2.2.2.2.2; omega)]
              rfl
            · rw [if_neg (by simpa using c8), rtake_text (B (takeN (takeN (L o)).2.1).2.1) 512 in512 (by rw [B_size]; omega) _ (by rw [B_size]; omega), Option.bind_some, L_B]
              dsimp only
              by_cases c4 : (takeT (takeN (takeN (L o)).2.1).2.1 512).2.2 = 0
              · rw [if_pos c4, B_size]
                by_cases c5 : (takeT (takeN (takeN (L o)).2.1).2.1 512).2.1 = []
                · rw [if_neg (by rw [c5]; simp), wrap_small (by omega), wrap_small (by omega), if_pos ⟨c1, c2, c3, c4, c5, ⟨by omega, by omega⟩, by omega⟩]
                · have := List.length_pos_iff.mpr c5
                  rw [if_pos (by omega), if_neg (fun h => c5 h.2.2.2.2.1)]
                  rfl
              · rw [if_neg c4, if_neg (fun h => c4 h.2.2.2.1)]
                rfl
          · rw [if_neg c3, hogsheadref10_Take.j1, if_pos rfl, if_neg (fun h => c3 h.2.2.1)]
            rfl
    · rw [if_neg c2, hogsheadref10_Take.j0, if_pos rfl, if_neg (fun h => c2 h.2.1)]
      rfl
  · rw [if_neg c1, if_neg (fun h => c1 h.1)]
    rfl
/-- A shard's bytes. -/
def recB (v x : Nat) (b : List UInt8) : List UInt8 := sealed (numL v ++ numL x ++ textL b)
theorem record_size {v x : Nat} {b : ByteArray} (hb : b.size ≤ 512) : (B (numL v) ++ B (numL x) ++ B (textL (L b))).size ≤ 600 := by
  have h1 := numL_length_le v
  have h2 := numL_length_le x
  have h3 := numL_length_le (L b).length
  rw [size_append, size_append, B_size, B_size, B_size]
  unfold textL
  rw [List.length_append, L_length]
  rw [L_length] at h3
  omega
theorem record_is (v x : Int) (b : ByteArray) : shelf_Record.f v x b = some (if MayS v x b.size then (B (recB v.toNat x.toNat (L b)), 0) else (⟨#[]⟩, 1)) := by
  unfold shelf_Record.f
  rw [may_is, Option.bind_some]
  by_cases c : MayS v x b.size
  · obtain ⟨a1, a2, a3, a4, a5⟩ := c
    obtain ⟨v, rfl⟩ := Int.eq_ofNat_of_zero_le (show 0 ≤ v by omega)
    obtain ⟨x, rfl⟩ := Int.eq_ofNat_of_zero_le a3
    rw [decide_eq_true (show MayS _ _ _ from ⟨a1, a2, a3, a4, a5⟩), if_pos rfl, if_pos (show MayS _ _ _ from ⟨a1, a2, a3, a4, a5⟩), u64_in (by omega), u64_in (by omega), num_num v (by omega), Option.bind_some, num_num x (by omega), Option.bind_some]
    have hs := record_size (v := v) (x := x) a5
    have hs2 := hs
    rw [size_append] at hs2
    have hs3 := hs2
    rw [size_append] at hs3
    rw [if_pos (by omega), text_num b (by omega), Option.bind_some, if_pos (by omega)]
    obtain ⟨f, hf, hL⟩ := seal_num (B (numL v) ++ B (numL x) ++ B (textL (L b))) (by omega)
    rw [hf, Option.bind_some]
    have : f = B (recB v x (L b)) := L_inj (by rw [hL, L_append, L_append, L_B, L_B, L_B, L_B]; rfl)
    rw [this]
    rfl
  · rw [decide_eq_false c, if_neg (by decide), if_neg c]
theorem rrecord_is (v x : Int) (b : ByteArray) (k : Nat) (hk : 1200 < k) : hogsheadref10_Record.f k v x b = some (if MayS v x b.size then (B (recB v.toNat x.toNat (L b)), 0) else (⟨#[]⟩, 1)) := by
  unfold hogsheadref10_Record.f
  rw [rmay_is, Option.bind_some]
  by_cases c : MayS v x b.size
  · obtain ⟨a1, a2, a3, a4, a5⟩ := c
    obtain ⟨v, rfl⟩ := Int.eq_ofNat_of_zero_le (show 0 ≤ v by omega)
    obtain ⟨x, rfl⟩ := Int.eq_ofNat_of_zero_le a3
    rw [decide_eq_true (show MayS _ _ _ from ⟨a1, a2, a3, a4, a5⟩), if_pos rfl, if_pos (show MayS _ _ _ from ⟨a1, a2, a3, a4, a5⟩), u64_in (by omega), u64_in (by omega), rnum_num v (by omega) k (by omega), Option.bind_some, rnum_num x (by omega) k (by omega), Option.bind_some]
    have hs := record_size (v := v) (x := x) a5
    have hs2 := hs
    rw [size_append] at hs2
    have hs3 := hs2
    rw [size_append] at hs3
    rw [if_pos (by omega), rtext_num b (by omega) k (by omega), Option.bind_some, if_pos (by omega)]
    obtain ⟨f, hf, hL⟩ := ref_seal (B (numL v) ++ B (numL x) ++ B (textL (L b))) (by omega) k (by omega)
    rw [hf, Option.bind_some]
    have : f = B (recB v x (L b)) := L_inj (by rw [hL, L_append, L_append, L_B, L_B, L_B, L_B]; rfl)
    rw [this]
    rfl
  · rw [decide_eq_false c, if_neg (by decide), if_neg c]
theorem recS_bound (l : List UInt8) : (recS l).1 ≤ 1048576 ∧ (recS l).2.1 ≤ 1024 ∧ ((recS l).2.2.2 = 0 ∨ (recS l).2.2.2 = 3) := by
  unfold recS
  split
  · rename_i h
    exact ⟨h.2.2.2.2.2.1.2, h.2.2.2.2.2.2, .inl rfl⟩
  · exact ⟨by simp, by simp, .inr rfl⟩
theorem recS_empty : recS [] = (0, 0, [], 3) := by
  unfold recS
  rw [if_neg]
  rintro ⟨h0, _⟩
  exact absurd h0 (by decide)
end Go.Proofs.Ytffjbbedjddpmaa.SH
namespace Go.Proofs.Ytffjbbedjddpmaa.SH
open Go.RowKit Go.Proofs.YtffjbbedjddpmaaW.PrintWords Go.Proofs.YtffjbbedjddpmaaW.PrintLast Go.Proofs.Ytffjbbedjddpmaa.PAll Go.Proofs.Ytffjbbedjddpmaa.PB Go.Proofs.Ytffjbbedjddpmaa.DP Go.Proofs.Ytffjbbedjddpmaa.VP Go.Proofs.Ytffjbbedjddpmaa.CP

/-- A disk whose texts are within the reach. -/
def Fits (l0 : List ByteArray) (l1 : List W) : Prop := (∀ s ∈ l0, s.size ≤ 140737488351232) ∧ (∀ x ∈ l1, x.f1.size ≤ 140737488351232)
theorem last_size (slot : Int) : ∀ (l1 : List W) (d : ByteArray), (∀ x ∈ l1, x.f1.size ≤ 140737488351232) → d.size ≤ 140737488351232 → (disk_last l1 slot d).size ≤ 140737488351232
  | [], _, _, hd => hd
  | x :: l, d, h, hd => by
    show (disk_last l slot (if x.f0 = slot then x.f1 else d)).size ≤ _
    refine last_size slot l _ (fun y hy => h y (by simp [hy])) ?_
    split
    · exact h x (by simp)
    · exact hd
theorem got_size {l0 : List ByteArray} {l1 : List W} (h : Fits l0 l1) (slot : Int) : (getD l0 l1 slot).1.size ≤ 140737488351232 := by
  unfold getD
  split
  · rename_i c
    refine last_size slot l1 _ h.2 (h.1 _ ?_)
    exact getD_mem _ (by omega)
  · show (⟨#[]⟩ : ByteArray).size ≤ _
    decide
theorem fits_snoc {l0 : List ByteArray} {l1 : List W} (h : Fits l0 l1) (x : W) (hx : x.f1.size ≤ 140737488351232) : Fits l0 (l1 ++ [x]) := by
  refine ⟨h.1, fun y hy => ?_⟩
  rcases List.mem_append.1 hy with hy | hy
  · exact h.2 y hy
  · rw [List.mem_singleton.1 hy]
    exact hx
/-- What a text in a slot makes of it. -/
def spotOf (i : Int) (s : ByteArray) : Spot := (i, decide (L s = []), !decide (L s = []) && decide ((recS (L s)).2.2.2 ≠ 0), ((recS (L s)).1 : Int), ((recS (L s)).2.1 : Int), B (recS (L s)).2.2.1)
theorem full_of (i : Int) (s : ByteArray) : spotFull (spotOf i s) = decide ((recS (L s)).2.2.2 = 0) := by
  unfold spotFull spotOf
  dsimp only
  by_cases c : L s = []
  · rw [c, recS_empty]
    rfl
  · rw [decide_eq_false c]
    by_cases h : (recS (L s)).2.2.2 = 0
    · simp [h]
    · simp [h]
def spotAt (l0 : List ByteArray) (l1 : List W) (i : Nat) : Spot := spotOf (i : Int) (getD l0 l1 (i : Int)).1
/-- What the slots of a disk have. -/
def spots (l0 : List ByteArray) (l1 : List W) : List Spot := (List.range l0.length).map (spotAt l0 l1)
theorem spots_length (l0 : List ByteArray) (l1 : List W) : (spots l0 l1).length = l0.length := by
  unfold spots
  rw [List.length_map, List.length_range]
theorem spots_get (l0 : List ByteArray) (l1 : List W) (i : Nat) (h : i < l0.length) : (spots l0 l1)[i]? = some (spotAt l0 l1 i) := by
  unfold spots
  rw [List.getElem?_map, List.getElem?_range h]
  rfl
theorem spots_drop (l0 : List ByteArray) (l1 : List W) (i : Nat) (h : i < l0.length) : (spots l0 l1).drop i = spotAt l0 l1 i :: (spots l0 l1).drop (i + 1) := by
  have hl : i < (spots l0 l1).length := by rw [spots_length]; exact h
  have h2 := spots_get l0 l1 i h
  rw [List.getElem?_eq_getElem hl] at h2
  rw [List.drop_eq_getElem_cons hl, Option.some.inj h2]
theorem go_is (l0 : List ByteArray) (l1 : List W) (a2 : Int) (a3 : Bool) (hf : Fits l0 l1) (k : Nat) (hk : 140737488351236 < k) : ∀ (m i : Nat), shelf_go k l0 l1 a2 a3 m i = some ((List.range' i m).map (spotAt l0 l1))
  | 0, i => rfl
  | m + 1, i => by
    have hs := got_size hf (i : Int)
    have hb := (recS_bound (L (getD l0 l1 (i : Int)).1)).2.2
    rw [shelf_go, get_is, Option.bind_some, take_is _ (by omega) k (by omega), Option.bind_some, go_is l0 l1 a2 a3 hf k hk m (i + 1), Option.bind_some, List.range'_succ, List.map_cons]
    have e : (((i : Int), decide ((getD l0 l1 (i : Int)).1.toList = []), !decide ((getD l0 l1 (i : Int)).1.toList = []) && decide ((recS (L (getD l0 l1 (i : Int)).1)).2.2.2 ≠ 0), (if (recS (L (getD l0 l1 (i : Int)).1)).2.2.2 = 0 then ((recS (L (getD l0 l1 (i : Int)).1)).1 : Int) else 0), (if (recS (L (getD l0 l1 (i : Int)).1)).2.2.2 = 0 then ((recS (L (getD l0 l1 (i : Int)).1)).2.1 : Int) else 0), B (recS (L (getD l0 l1 (i : Int)).1)).2.2.1) : Spot) = spotAt l0 l1 i := by
      unfold spotAt spotOf
      simp only [L_toList]
      by_cases c : (recS (L (getD l0 l1 (i : Int)).1)).2.2.2 = 0
      · rw [if_pos c, if_pos c]
      · rw [if_neg c, if_neg c]
        have hz : recS (L (getD l0 l1 (i : Int)).1) = (0, 0, [], 3) := by
          unfold recS at c ⊢
          split
          · rename_i h
            rw [if_pos h] at c
            exact absurd rfl c
          · rfl
        rw [hz]
        rfl
    exact congrArg some (congrArg (· :: _) e)
theorem all_is (l0 : List ByteArray) (l1 : List W) (a2 : Int) (a3 : Bool) (hf : Fits l0 l1) (k : Nat) (hk : 140737488351236 < k) : shelf_go k l0 l1 a2 a3 l0.length 0 = some (spots l0 l1) := by
  rw [go_is l0 l1 a2 a3 hf k hk, ← List.range_eq_range']
  rfl
theorem find_is (l0 : List ByteArray) (l1 : List W) (a2 : Int) (a3 : Bool) (v x : Int) (hf : Fits l0 l1) (k : Nat) (hk : 140737488351236 < k) : shelf_Find.f k l0 l1 a2 a3 v x = some (spotFind v x (spots l0 l1)) := by
  unfold shelf_Find.f
  rw [all_is l0 l1 a2 a3 hf k hk, Option.bind_some]
theorem wf_small {n : Nat} (h : n ≤ 1048576) : Wf64 (n : Int) := by
  unfold Wf64
  have : -9223372036854775808 ≤ (n : Int) ∧ (n : Int) ≤ 9223372036854775807 := by omega
  simpa [Lit.wf, IntKind.min, IntKind.max, IntKind.signed, IntKind.bits] using this
theorem mem_spots {l0 : List ByteArray} {l1 : List W} {p : Spot} (h : p ∈ spots l0 l1) : ∃ i, i < l0.length ∧ p = spotAt l0 l1 i := by
  unfold spots at h
  obtain ⟨i, hi, rfl⟩ := List.mem_map.mp h
  exact ⟨i, List.mem_range.mp hi, rfl⟩
theorem list_is (l0 : List ByteArray) (l1 : List W) (a2 : Int) (a3 : Bool) (hf : Fits l0 l1) (hl : l0.length ≤ 8796093022208) (k : Nat) (hk : 140737488351236 < k) : shelf_List.f k l0 l1 a2 a3 = some (spotKeys (spots l0 l1)) := by
  unfold shelf_List.f
  rw [if_pos hl, all_is l0 l1 a2 a3 hf k hk, Option.bind_some, if_pos]
  intro p hp
  obtain ⟨i, hi, rfl⟩ := mem_spots hp
  have hb := recS_bound (L (getD l0 l1 (i : Int)).1)
  exact ⟨wf_small hb.1, wf_small (Nat.le_trans hb.2.1 (by decide))⟩
/-- What Put makes of a disk. -/
def putS (l0 : List ByteArray) (l1 : List W) (a2 : Int) (a3 : Bool) (v x : Int) (b : ByteArray) : List ByteArray × List W × Int × Bool × Int :=
  if MayS v x b.size then
    if (spotFind v x (spots l0 l1)).2 = 0 then (l0, l1, a2, a3, if L (spotFind v x (spots l0 l1)).1 = L b then 0 else 8)
    else match spotRoom (spots l0 l1) with
      | none => (l0, l1, a2, a3, 5)
      | some i => putD l0 l1 a2 a3 i (B (recB v.toNat x.toNat (L b)))
  else (l0, l1, a2, a3, 1)
theorem putS_is (l0 : List ByteArray) (l1 : List W) (a2 : Int) (a3 : Bool) (v x : Int) (b : ByteArray) (hf : Fits l0 l1) (h1 : l1.length < 5864062014805) (k : Nat) (hk : 140737488351236 < k) : shelf_Put.f k l0 l1 a2 a3 v x b = some (putS l0 l1 a2 a3 v x b) := by
  unfold shelf_Put.f putS
  rw [record_is, Option.bind_some]
  by_cases c : MayS v x b.size
  · rw [if_pos c, if_pos c]
    dsimp only
    rw [if_pos rfl, find_is l0 l1 a2 a3 v x hf k hk, Option.bind_some]
    by_cases c2 : (spotFind v x (spots l0 l1)).2 = 0
    · rw [if_pos c2, if_pos c2]
      simp only [L_toList]
    · rw [if_neg c2, if_neg c2, all_is l0 l1 a2 a3 hf k hk, Option.bind_some]
      cases spotRoom (spots l0 l1) with
      | none => rfl
      | some i => exact put_is l0 l1 a2 a3 i _ h1
  · rw [if_neg c, if_neg c]
    dsimp only
    rw [if_neg (by decide)]
end Go.Proofs.Ytffjbbedjddpmaa.SH
namespace Go.Proofs.Ytffjbbedjddpmaa.SH
open Go.RowKit Go.Proofs.YtffjbbedjddpmaaW.PrintWords Go.Proofs.YtffjbbedjddpmaaW.PrintLast Go.Proofs.Ytffjbbedjddpmaa.PAll Go.Proofs.Ytffjbbedjddpmaa.PB Go.Proofs.Ytffjbbedjddpmaa.DP Go.Proofs.Ytffjbbedjddpmaa.VP Go.Proofs.Ytffjbbedjddpmaa.CP
theorem wipe_grows (l0 : List ByteArray) (l1 : List W) (a2 : Int) (a3 : Bool) (i : Int) (s : ByteArray) : (putD l0 l1 a2 a3 i s).2.1.length ≤ l1.length + 1 := by
  rcases (put_any l0 l1 a2 a3 i s).2 with h | h
  · rw [h]; omega
  · rw [h, List.length_append]; simp
/-- What dropping makes of a disk, over what its slots had. -/
def dropsS (v x : Int) : List Spot → List ByteArray → List W → Int → Bool → List ByteArray × List W × Int × Bool × Int
  | [], l0, l1, a2, a3 => (l0, l1, a2, a3, 0)
  | p :: l, l0, l1, a2, a3 => if spotFull p = true ∧ p.2.2.2.1 = v ∧ p.2.2.2.2.1 = x then
      (if (putD l0 l1 a2 a3 p.1 ⟨#[]⟩).2.2.2.2 = 0 then dropsS v x l (putD l0 l1 a2 a3 p.1 ⟨#[]⟩).1 (putD l0 l1 a2 a3 p.1 ⟨#[]⟩).2.1 (putD l0 l1 a2 a3 p.1 ⟨#[]⟩).2.2.1 (putD l0 l1 a2 a3 p.1 ⟨#[]⟩).2.2.2.1 else putD l0 l1 a2 a3 p.1 ⟨#[]⟩)
    else dropsS v x l l0 l1 a2 a3
theorem drops_is (v x : Int) : ∀ (l : List Spot) (l0 : List ByteArray) (l1 : List W) (a2 : Int) (a3 : Bool), l.length + l1.length < 5864062014805 → shelf_drops v x l l0 l1 a2 a3 = some (dropsS v x l l0 l1 a2 a3)
  | [], _, _, _, _, _ => rfl
  | p :: l, l0, l1, a2, a3, h => by
    rw [List.length_cons] at h
    have hg := wipe_grows l0 l1 a2 a3 p.1 ⟨#[]⟩
    rw [shelf_drops, dropsS]
    by_cases c : spotFull p = true ∧ p.2.2.2.1 = v ∧ p.2.2.2.2.1 = x
    · rw [if_pos c, if_pos c, put_is _ _ _ _ _ _ (by omega), Option.bind_some]
      by_cases c2 : (putD l0 l1 a2 a3 p.1 ⟨#[]⟩).2.2.2.2 = 0
      · rw [if_pos c2, if_pos c2, drops_is v x l _ _ _ _ (by omega)]
      · rw [if_neg c2, if_neg c2]
    · rw [if_neg c, if_neg c, drops_is v x l _ _ _ _ (by omega)]
def dropS (l0 : List ByteArray) (l1 : List W) (a2 : Int) (a3 : Bool) (v x : Int) : List ByteArray × List W × Int × Bool × Int :=
  if (spotFind v x (spots l0 l1)).2 = 0 then dropsS v x (spots l0 l1) l0 l1 a2 a3 else (l0, l1, a2, a3, (spotFind v x (spots l0 l1)).2)
theorem dropS_is (l0 : List ByteArray) (l1 : List W) (a2 : Int) (a3 : Bool) (v x : Int) (hf : Fits l0 l1) (h1 : l0.length + l1.length < 5864062014805) (k : Nat) (hk : 140737488351236 < k) : shelf_Drop.f k l0 l1 a2 a3 v x = some (dropS l0 l1 a2 a3 v x) := by
  unfold shelf_Drop.f dropS
  rw [if_pos h1, find_is l0 l1 a2 a3 v x hf k hk, Option.bind_some]
  by_cases c : (spotFind v x (spots l0 l1)).2 = 0
  · rw [if_pos c, if_pos c, all_is l0 l1 a2 a3 hf k hk, Option.bind_some, drops_is v x _ _ _ _ _ (by rw [spots_length]; omega)]
  · rw [if_neg c, if_neg c]
end Go.Proofs.Ytffjbbedjddpmaa.SH
namespace Go.Proofs.Ytffjbbedjddpmaa.DP
open Go.RowKit Go.Proofs.YtffjbbedjddpmaaW.PrintWords Go.Proofs.YtffjbbedjddpmaaW.PrintLast Go.Proofs.Ytffjbbedjddpmaa.PAll Go.Proofs.Ytffjbbedjddpmaa.PB
theorem rput_is (l0 : List ByteArray) (l1 : List W) (a2 : Int) (a3 : Bool) (slot : Int) (s : ByteArray) (h1 : l1.length < 5864062014805) (k : Nat) (hk : 0 < k) : hogsheadref08_Put.f k l0 l1 a2 a3 slot s = some (putD l0 l1 a2 a3 slot s) := by
  obtain ⟨k, rfl⟩ := succ_of hk
  unfold hogsheadref08_Put.f putD
  by_cases c1 : a3 = true
  · rw [if_pos c1, if_pos c1]
  · rw [if_neg c1, if_neg c1]
    by_cases c2 : 0 ≤ slot ∧ slot < (l0.length : Int)
    · rw [if_neg (by omega), decide_eq_false (by omega), hogsheadref08_Put.j0, if_neg (by decide), if_pos c2]
      by_cases c3 : (s.size : Int) > 1024
      · rw [if_pos c3, if_pos c3]
      · rw [if_neg c3, if_neg c3]
        simp only [Option.bind_some, List.nil_append, List.length_nil, Nat.zero_add]
        rw [if_pos h1, if_pos h1]
        by_cases c4 : a2 = 0
        · rw [if_pos c4, if_pos c4]
        · rw [if_neg c4, if_neg c4]
          by_cases c5 : a2 > 0
          · rw [if_pos c5, if_pos c5]
          · rw [if_neg c5, if_neg c5]
    · rw [if_neg c2]
      by_cases c0 : slot < 0
      · rw [if_pos c0, hogsheadref08_Put.j0, if_pos rfl]
      · rw [if_neg c0, decide_eq_true (by omega), hogsheadref08_Put.j0, if_pos rfl]

theorem rget_loop (l0 : List ByteArray) (l1 : List W) (a2 : Int) (a3 : Bool) (slot : Int) (hl : l1.length ≤ 9223372036854775807) :
    ∀ (m i k : Nat) (s : ByteArray), i + m = l1.length → m < k → hogsheadref08_Get.l0 k slot s i l0 l1 a2 a3 = some (disk_last (l1.drop i) slot s, 0)
  | 0, i, k, s, hi, hk => by
    obtain ⟨k, rfl⟩ := succ_of hk
    rw [hogsheadref08_Get.l0, if_neg (by omega), List.drop_eq_nil_of_le (by omega)]
    rfl
  | m + 1, i, k, s, hi, hk => by
    obtain ⟨k, rfl⟩ := succ_of (show 0 < k by omega)
    have hx : l1.drop i = rd_T94 l1 (i : Int) :: l1.drop (i + 1) := by
      rw [List.drop_eq_getElem_cons (by omega)]
      unfold rd_T94
      rw [Int.toNat_natCast, List.getD_eq_getElem?_getD, List.getElem?_eq_getElem (by omega)]
      rfl
    rw [hogsheadref08_Get.l0, if_pos (by omega), if_pos (by omega), hx, wrap_succ (n := l1.length) (by omega) hl]
    generalize rd_T94 l1 (i : Int) = x
    show _ = some (disk_last (l1.drop (i + 1)) slot (if x.f0 = slot then x.f1 else s), 0)
    by_cases e : x.f0 = slot
    · rw [if_pos e, if_pos e]
      exact rget_loop l0 l1 a2 a3 slot hl m (i + 1) k _ (by omega) (by omega)
    · rw [if_neg e, if_neg e]
      exact rget_loop l0 l1 a2 a3 slot hl m (i + 1) k _ (by omega) (by omega)
theorem rget_is (l0 : List ByteArray) (l1 : List W) (a2 : Int) (a3 : Bool) (slot : Int) (hl : l1.length ≤ 9223372036854775807) (k : Nat) (hk : l1.length + 1 < k) : hogsheadref08_Get.f k l0 l1 a2 a3 slot = some (getD l0 l1 slot) := by
  obtain ⟨k, rfl⟩ := succ_of (show 0 < k by omega)
  unfold hogsheadref08_Get.f getD
  by_cases c2 : 0 ≤ slot ∧ slot < (l0.length : Int)
  · rw [if_neg (by omega), decide_eq_false (by omega), hogsheadref08_Get.j0, if_neg (by decide), if_pos c2.1, if_pos c2.2, if_pos c2]
    have := rget_loop l0 l1 a2 a3 slot hl l1.length 0 k (l0.getD slot.toNat ⟨#[]⟩) (by omega) (by omega)
    rw [List.drop_zero] at this
    exact this
  · rw [if_neg c2]
    by_cases c0 : slot < 0
    · rw [if_pos c0, hogsheadref08_Get.j0, if_pos rfl]
    · rw [if_neg c0, decide_eq_true (by omega), hogsheadref08_Get.j0, if_pos rfl]

/-- Are two lists of texts the same? -/
theorem rsame_loop (a b : List ByteArray) (hl : a.length = b.length) (hm : a.length ≤ 9223372036854775807) :
    ∀ (m i k : Nat), i + m = a.length → m < k → hogsheadref01_Same.l0 k a b i = some (decide (a.drop i = b.drop i))
  | 0, i, k, hi, hk => by
    obtain ⟨k, rfl⟩ := succ_of hk
    rw [hogsheadref01_Same.l0, if_neg (by omega), List.drop_eq_nil_of_le (by omega), List.drop_eq_nil_of_le (by omega)]
    rfl
  | m + 1, i, k, hi, hk => by
    obtain ⟨k, rfl⟩ := succ_of (show 0 < k by omega)
    rw [hogsheadref01_Same.l0, if_pos (by omega), if_pos (by omega), if_pos (by omega), wrap_succ (n := a.length) (by omega) hm, rsame_loop a b hl hm m (i + 1) k (by omega) (by omega)]
    rw [drop_getD (l := a) (j := i) ByteArray.empty (by omega), drop_getD (l := b) (j := i) ByteArray.empty (by omega)]
    show (if (a.getD i ByteArray.empty).toList = (b.getD i ByteArray.empty).toList then _ else _) = _
    by_cases e : a.getD i ByteArray.empty = b.getD i ByteArray.empty
    · rw [if_pos (by rw [e]), e]
      simp
    · rw [if_neg (fun h => e (L_inj (by rw [← L_toList, ← L_toList]; exact h)))]
      symm
      rw [Option.some_inj, decide_eq_false_iff_not]
      intro h
      injection h with h1 h2
      exact e h1
theorem rsame_is (a b : List ByteArray) (hm : a.length ≤ 9223372036854775807) (k : Nat) (hk : a.length < k) : hogsheadref01_Same.f k a b = some (decide (a = b)) := by
  unfold hogsheadref01_Same.f
  by_cases c : (a.length : Int) = (b.length : Int)
  · rw [if_pos c, show (0 : Int) = ((0 : Nat) : Int) from rfl, rsame_loop a b (by omega) hm a.length 0 k (by omega) hk]
    simp
  · rw [if_neg c, decide_eq_false]
    intro e
    exact c (by rw [e])

noncomputable instance decW : DecidableEq W := fun _ _ => Classical.propDecidable _
theorem w_eq {x y : W} : (!(x.f0 == y.f0) || (!(x.f1.toList == y.f1.toList))) = true ↔ x ≠ y := by
  cases x with
  | mk a b =>
    cases y with
    | mk c d =>
      simp only [Bool.or_eq_true, Bool.not_eq_true', beq_eq_false_iff_ne, ne_eq, L_toList]
      constructor
      · rintro h e
        injection e with e1 e2
        rcases h with h | h
        · exact h e1
        · exact h (by rw [e2])
      · intro h
        by_cases e : a = c
        · exact .inr (fun h2 => h (by rw [e, L_inj h2]))
        · exact .inl e
theorem wsame_loop (l0 : List ByteArray) (l1 : List W) (a2 : Int) (a3 : Bool) (m0 : List ByteArray) (m1 : List W) (b2 : Int) (b3 : Bool) (hl : l1.length = m1.length) (hm : l1.length ≤ 9223372036854775807) :
    ∀ (m i k : Nat), i + m = l1.length → m < k → hogsheadref08_Same.l0 k i l0 l1 a2 a3 m0 m1 b2 b3 = some (decide (l1.drop i = m1.drop i))
  | 0, i, k, hi, hk => by
    obtain ⟨k, rfl⟩ := succ_of hk
    rw [hogsheadref08_Same.l0, if_neg (by omega), List.drop_eq_nil_of_le (by omega), List.drop_eq_nil_of_le (by omega)]
    simp
  | m + 1, i, k, hi, hk => by
    obtain ⟨k, rfl⟩ := succ_of (show 0 < k by omega)
    rw [hogsheadref08_Same.l0, if_pos (by omega), if_pos (by omega), if_pos (by omega), wrap_succ (n := l1.length) (by omega) hm, wsame_loop l0 l1 a2 a3 m0 m1 b2 b3 hl hm m (i + 1) k (by omega) (by omega)]
    rw [drop_getD (l := l1) (j := i) z94 (by omega), drop_getD (l := m1) (j := i) z94 (by omega)]
    have e1 : rd_T94 l1 (i : Int) = l1.getD i z94 := rfl
    have e2 : rd_T94 m1 (i : Int) = m1.getD i z94 := rfl
    rw [e1, e2]
    by_cases e : l1.getD i z94 = m1.getD i z94
    · rw [if_neg (fun h => (w_eq.1 h) e), e]
      simp
    · rw [if_pos (w_eq.2 e)]
      symm
      rw [Option.some_inj, decide_eq_false_iff_not]
      intro h
      injection h with h1 h2
      exact e h1
/-- Are two disks the same? -/
theorem dsame_is (l0 : List ByteArray) (l1 : List W) (a2 : Int) (a3 : Bool) (m0 : List ByteArray) (m1 : List W) (b2 : Int) (b3 : Bool) (h0 : l0.length ≤ 9223372036854775807) (h1 : l1.length ≤ 9223372036854775807) (k : Nat) (hk : l0.length + l1.length + 2 < k) :
    hogsheadref08_Same.f k l0 l1 a2 a3 m0 m1 b2 b3 = some (decide (l0 = m0 ∧ l1 = m1 ∧ a2 = b2 ∧ a3 = b3)) := by
  unfold hogsheadref08_Same.f
  rw [rsame_is l0 m0 h0 k (by omega), Option.bind_some]
  obtain ⟨k, rfl⟩ := succ_of (show 0 < k by omega)
  by_cases c0 : l0 = m0
  · rw [if_pos (decide_eq_true c0)]
    by_cases c1 : (l1.length : Int) = (m1.length : Int)
    · rw [if_pos c1]
      by_cases c2 : a2 = b2
      · rw [if_pos c2, hogsheadref08_Same.j0]
        by_cases c3 : a3 = b3
        · rw [if_neg (by rw [c3]; simp), show (0 : Int) = ((0 : Nat) : Int) from rfl, wsame_loop _ _ _ _ _ _ _ _ (by omega) h1 l1.length 0 k (by omega) (by omega)]
          simp [c0, c2, c3]
        · rw [if_pos (by simpa using c3)]
          simp [c3]
      · rw [if_neg c2, hogsheadref08_Same.j0, if_pos rfl]
        simp [c2]
    · rw [if_neg c1, hogsheadref08_Same.j0, if_pos rfl]
      symm
      rw [Option.some_inj, decide_eq_false_iff_not]
      rintro ⟨_, e, _⟩
      exact c1 (by rw [e])
  · rw [if_neg (by simpa using c0), hogsheadref08_Same.j0, if_pos rfl]
    simp [c0]
theorem dsame_refl (l0 : List ByteArray) (l1 : List W) (a2 : Int) (a3 : Bool) (h0 : l0.length ≤ 9223372036854775807) (h1 : l1.length ≤ 9223372036854775807) (k : Nat) (hk : l0.length + l1.length + 2 < k) :
    hogsheadref08_Same.f k l0 l1 a2 a3 l0 l1 a2 a3 = some true := by
  rw [dsame_is _ _ _ _ _ _ _ _ h0 h1 k hk]
  simp
theorem rnew_is (n : Int) : hogsheadref08_New.f n = some (if 1 ≤ n ∧ n ≤ 256 then (List.replicate n.toNat ⟨#[]⟩, [], -1, false, 0) else ([], [], 0, false, 1)) := by
  unfold hogsheadref08_New.f
  by_cases c1 : n < 1
  · rw [if_pos c1, if_neg (by omega)]
  · rw [if_neg c1]
    by_cases c2 : n > 256
    · rw [if_pos c2, if_neg (by omega)]
    · rw [if_neg c2, if_pos (by omega), if_pos (by omega), if_pos (by omega)]
end Go.Proofs.Ytffjbbedjddpmaa.DP
namespace Go.Proofs.Ytffjbbedjddpmaa.SH
open Go.RowKit Go.Proofs.YtffjbbedjddpmaaW.PrintWords Go.Proofs.YtffjbbedjddpmaaW.PrintLast Go.Proofs.Ytffjbbedjddpmaa.PAll Go.Proofs.Ytffjbbedjddpmaa.PB Go.Proofs.Ytffjbbedjddpmaa.DP Go.Proofs.Ytffjbbedjddpmaa.VP Go.Proofs.Ytffjbbedjddpmaa.CP
/-- Whatever Put answers: its slots stay, and at most one write more waits: into a slot that had no shard, of the shard's bytes. -/
theorem putS_any (l0 : List ByteArray) (l1 : List W) (a2 : Int) (a3 : Bool) (v x : Int) (b : ByteArray) :
    (putS l0 l1 a2 a3 v x b).1 = l0 ∧ ((putS l0 l1 a2 a3 v x b).2.1 = l1 ∨ (MayS v x b.size ∧ (spotFind v x (spots l0 l1)).2 ≠ 0 ∧ ∃ i, spotRoom (spots l0 l1) = some i ∧ (putS l0 l1 a2 a3 v x b).2.1 = l1 ++ [⟨i, B (recB v.toNat x.toNat (L b))⟩] ∧ putS l0 l1 a2 a3 v x b = putD l0 l1 a2 a3 i (B (recB v.toNat x.toNat (L b))))) := by
  unfold putS
  by_cases c : MayS v x b.size
  · rw [if_pos c]
    by_cases c2 : (spotFind v x (spots l0 l1)).2 = 0
    · rw [if_pos c2]
      exact ⟨rfl, .inl rfl⟩
    · rw [if_neg c2]
      cases hr : spotRoom (spots l0 l1) with
      | none => exact ⟨rfl, .inl rfl⟩
      | some i =>
        have hp := put_any l0 l1 a2 a3 i (B (recB v.toNat x.toNat (L b)))
        refine ⟨hp.1, ?_⟩
        rcases hp.2 with h | h
        · exact .inl h
        · exact .inr ⟨c, c2, i, rfl, h, rfl⟩
  · rw [if_neg c]
    exact ⟨rfl, .inl rfl⟩
theorem putS_len (l0 : List ByteArray) (l1 : List W) (a2 : Int) (a3 : Bool) (v x : Int) (b : ByteArray) : (putS l0 l1 a2 a3 v x b).2.1.length ≤ l1.length + 1 := by
  rcases (putS_any l0 l1 a2 a3 v x b).2 with h | ⟨_, _, i, _, h, _⟩
  · rw [h]; omega
  · rw [h, List.length_append]; simp
/-- The document's example. -/
theorem shown_is (k : Nat) (hk : 140737488351340 < k) : hogsheadlaw10_shown.f k = some true := by
  have e0 : (List.replicate (2 : Int).toNat (⟨#[]⟩ : ByteArray)) = [⟨#[]⟩, ⟨#[]⟩] := rfl
  have f0 : Fits [⟨#[]⟩, ⟨#[]⟩] [] := ⟨by decide, fun _ h => by cases h⟩
  have w1 : putS [⟨#[]⟩, ⟨#[]⟩] [] (-1) false 1 0 ⟨#[97, 98]⟩ = ([⟨#[]⟩, ⟨#[]⟩], [⟨0, B (recB 1 0 [97, 98])⟩], -1, false, 0) := by kernel_rfl
  have f1 : Fits [⟨#[]⟩, ⟨#[]⟩] [⟨0, B (recB 1 0 [97, 98])⟩] := fits_snoc f0 _ (by decide +kernel)
  have w2 : (putS [⟨#[]⟩, ⟨#[]⟩] [⟨0, B (recB 1 0 [97, 98])⟩] (-1) false 1 0 ⟨#[99, 100]⟩).2.2.2.2 = 8 := by kernel_rfl
  have w3 : spotKeys (spots [⟨#[]⟩, ⟨#[]⟩] [⟨0, B (recB 1 0 [97, 98])⟩]) = [⟨1, 0⟩] := by kernel_rfl
  obtain ⟨k', hk'⟩ := succ_of (show 0 < k by omega)
  unfold hogsheadlaw10_shown.f
  rw [rnew_is, if_pos (by decide), e0, Option.bind_some]
  dsimp only
  rw [putS_is _ _ _ _ _ _ _ f0 (by decide) k (by omega), w1, Option.bind_some]
  dsimp only
  rw [putS_is _ _ _ _ _ _ _ f1 (by decide) k (by omega), Option.bind_some, w2, list_is _ _ _ _ f1 (by decide) k (by omega), w3, Option.bind_some, if_pos rfl, if_pos rfl, show ((([⟨1, 0⟩] : List S27).length : Nat) : Int) = 1 from rfl, if_pos rfl, if_pos (by decide), hk', hogsheadlaw10_shown.j0]
  rfl
end Go.Proofs.Ytffjbbedjddpmaa.SH
namespace Go.Proofs.Ytffjbbedjddpmaa.SH
open Go.RowKit Go.Proofs.YtffjbbedjddpmaaW.PrintWords Go.Proofs.YtffjbbedjddpmaaW.PrintLast Go.Proofs.Ytffjbbedjddpmaa.PAll Go.Proofs.Ytffjbbedjddpmaa.PB Go.Proofs.Ytffjbbedjddpmaa.DP Go.Proofs.Ytffjbbedjddpmaa.VP Go.Proofs.Ytffjbbedjddpmaa.CP
/-- A shard is found, or there is none. -/
theorem find_or (v x : Int) : ∀ l : List Spot, (Miss v x l ∧ spotFind v x l = (⟨#[]⟩, 7)) ∨ ∃ A p C, l = A ++ p :: C ∧ Miss v x A ∧ spotHit v x p ∧ spotFind v x l = (p.2.2.2.2.2, 0)
  | [] => .inl ⟨Miss.nil v x, rfl⟩
  | p :: l => by
    by_cases c : spotHit v x p
    · exact .inr ⟨[], p, l, rfl, Miss.nil v x, c, spotFind_hit l c⟩
    · have e : spotFind v x (p :: l) = spotFind v x l := if_neg c
      rcases find_or v x l with ⟨h1, h2⟩ | ⟨A, q, C, h1, h2, h3, h4⟩
      · refine .inl ⟨fun q hq => ?_, by rw [e, h2]⟩
        rcases List.mem_cons.mp hq with rfl | hq
        · exact c
        · exact h1 q hq
      · refine .inr ⟨p :: A, q, C, by rw [h1]; rfl, fun r hr => ?_, h3, by rw [e, h4]⟩
        rcases List.mem_cons.mp hr with rfl | hr
        · exact c
        · exact h2 r hr
theorem find_seven (v x : Int) (l : List Spot) : (spotFind v x l).2 = 0 ∨ spotFind v x l = (⟨#[]⟩, 7) := by
  rcases find_or v x l with ⟨_, h2⟩ | ⟨A, p, C, _, _, _, h4⟩
  · exact .inr h2
  · exact .inl (by rw [h4])
end Go.Proofs.Ytffjbbedjddpmaa.SH
namespace Go.Proofs.Ytffjbbedjddpmaa.SH
open Go.RowKit Go.Proofs.YtffjbbedjddpmaaW.PrintWords Go.Proofs.YtffjbbedjddpmaaW.PrintLast Go.Proofs.Ytffjbbedjddpmaa.PAll Go.Proofs.Ytffjbbedjddpmaa.PB Go.Proofs.Ytffjbbedjddpmaa.DP Go.Proofs.Ytffjbbedjddpmaa.VP Go.Proofs.Ytffjbbedjddpmaa.CP

theorem at_is (l0 : List ByteArray) (l1 : List W) (a2 : Int) (a3 : Bool) (hf : Fits l0 l1) (hl : l1.length ≤ 140737488351232) (i : Int) (k : Nat) (hk : 140737488351300 < k) :
    hogsheadref10_at.f k l0 l1 a2 a3 i = some (((recS (L (getD l0 l1 i).1)).1 : Int), ((recS (L (getD l0 l1 i).1)).2.1 : Int), B (recS (L (getD l0 l1 i).1)).2.2.1, ((recS (L (getD l0 l1 i).1)).2.2.2 == 0), (((getD l0 l1 i).1.size : Int) == 0)) := by
  have hs := got_size hf i
  unfold hogsheadref10_at.f
  rw [rget_is _ _ _ _ _ (by omega) _ (by omega), Option.bind_some, rtake_is _ (by omega) _ (by omega), Option.bind_some]
theorem err_beq (l : List UInt8) : ((recS l).2.2.2 == 0) = decide ((recS l).2.2.2 = 0) := by
  rw [Bool.eq_iff_iff]
  simp
theorem rfind_loop (l0 : List ByteArray) (l1 : List W) (a2 : Int) (a3 : Bool) (v x : Int) (hf : Fits l0 l1) (h0 : l0.length ≤ 140737488351232) (hl : l1.length ≤ 140737488351232) :
    ∀ (m i k : Nat), i + m = l0.length → m + 140737488351300 < k → hogsheadref10_Find.l0 k i l0 l1 a2 a3 v x = some (spotFind v x ((spots l0 l1).drop i))
  | 0, i, k, hi, hk => by
    obtain ⟨k, rfl⟩ := succ_of (show 0 < k by omega)
    rw [hogsheadref10_Find.l0, if_neg (by omega), List.drop_eq_nil_of_le (by rw [spots_length]; omega)]
    rfl
  | m + 1, i, k, hi, hk => by
    obtain ⟨k, rfl⟩ := succ_of (show 0 < k by omega)
    have ih := rfind_loop l0 l1 a2 a3 v x hf h0 hl m (i + 1) k (by omega) (by omega)
    rw [hogsheadref10_Find.l0, if_pos (by omega), at_is l0 l1 a2 a3 hf hl _ _ (by omega), Option.bind_some, spots_drop l0 l1 i (by omega), spotFind, wrap_succ (n := l0.length) (by omega) (by omega), ih]
    dsimp only
    rw [err_beq]
    show _ = some (if spotFull (spotOf _ _) = true ∧ ((recS (L (getD l0 l1 (i : Int)).1)).1 : Int) = v ∧ ((recS (L (getD l0 l1 (i : Int)).1)).2.1 : Int) = x then (B (recS (L (getD l0 l1 (i : Int)).1)).2.2.1, 0) else _)
    rw [full_of]
    by_cases c1 : decide ((recS (L (getD l0 l1 (i : Int)).1)).2.2.2 = 0) = true
    · rw [if_pos c1]
      by_cases c2 : ((recS (L (getD l0 l1 (i : Int)).1)).1 : Int) = v
      · rw [if_pos c2]
        by_cases c3 : ((recS (L (getD l0 l1 (i : Int)).1)).2.1 : Int) = x
        · rw [if_pos c3, if_pos ⟨c1, c2, c3⟩]
        · rw [if_neg c3, if_neg (fun h => c3 h.2.2)]
      · rw [if_neg c2, if_neg (fun h => c2 h.2.1)]
    · rw [if_neg c1, if_neg (fun h => c1 h.1)]
theorem rfind_is (l0 : List ByteArray) (l1 : List W) (a2 : Int) (a3 : Bool) (v x : Int) (hf : Fits l0 l1) (h0 : l0.length ≤ 140737488351232) (hl : l1.length ≤ 140737488351232) (k : Nat) (hk : 281474976702600 < k) :
    hogsheadref10_Find.f k l0 l1 a2 a3 v x = some (spotFind v x (spots l0 l1)) := by
  unfold hogsheadref10_Find.f
  exact rfind_loop l0 l1 a2 a3 v x hf h0 hl l0.length 0 k (by omega) (by omega)
end Go.Proofs.Ytffjbbedjddpmaa.SH
namespace Go.Proofs.Ytffjbbedjddpmaa.SH
open Go.RowKit Go.Proofs.YtffjbbedjddpmaaW.PrintWords Go.Proofs.YtffjbbedjddpmaaW.PrintLast Go.Proofs.Ytffjbbedjddpmaa.PAll Go.Proofs.Ytffjbbedjddpmaa.Open Go.Proofs.Ytffjbbedjddpmaa.PB Go.Proofs.Ytffjbbedjddpmaa.DP Go.Proofs.Ytffjbbedjddpmaa.VP Go.Proofs.Ytffjbbedjddpmaa.CP
/-- A disk of a small bulk. -/
theorem bulk_disk {d : S25} {n : Nat} (h : o25.wt d ≤ n) : d.f0.length ≤ n ∧ d.f1.length ≤ n ∧ (∀ s ∈ d.f0, s.size ≤ n) ∧ (∀ x ∈ d.f1, x.f1.size ≤ n) := by
  have e : o25.wt d = os_s.wt d.f0 + os_o94.wt d.f1 + 1 + 1 + 1 := rfl
  rw [e] at h
  unfold os_s.wt os_o94.wt at h
  have h1 := length_le_sumW (fun x : ByteArray => x.size + 1) (fun x => by omega) d.f0
  have h2 := length_le_sumW (fun x => o94.wt x) (fun x => by unfold o94.wt; omega) d.f1
  refine ⟨by omega, by omega, fun s hs => ?_, fun x hx => ?_⟩
  · have := sumW_mem (fun x : ByteArray => x.size + 1) hs
    omega
  · have := sumW_mem (fun x => o94.wt x) hx
    unfold o94.wt at this h
    omega
end Go.Proofs.Ytffjbbedjddpmaa.SH
namespace Go.Proofs.Ytffjbbedjddpmaa.SH
open Go.RowKit Go.Proofs.YtffjbbedjddpmaaW.PrintWords Go.Proofs.YtffjbbedjddpmaaW.PrintLast Go.Proofs.Ytffjbbedjddpmaa.PAll Go.Proofs.Ytffjbbedjddpmaa.PB Go.Proofs.Ytffjbbedjddpmaa.DP Go.Proofs.Ytffjbbedjddpmaa.VP Go.Proofs.Ytffjbbedjddpmaa.CP
def roomPut (l0 : List ByteArray) (l1 : List W) (a2 : Int) (a3 : Bool) (s : ByteArray) : Option Int → List ByteArray × List W × Int × Bool × Int
  | none => (l0, l1, a2, a3, 5)
  | some i => putD l0 l1 a2 a3 i s
theorem rroom_loop (l0 : List ByteArray) (l1 : List W) (a2 : Int) (a3 : Bool) (s : ByteArray) (hf : Fits l0 l1) (h0 : l0.length ≤ 140737488351232) (hl : l1.length < 5864062014805) :
    ∀ (m i k : Nat), i + m = l0.length → m + 140737488351300 < k → hogsheadref10_Put.l0 k s i l0 l1 a2 a3 = some (roomPut l0 l1 a2 a3 s (spotRoom ((spots l0 l1).drop i)))
  | 0, i, k, hi, hk => by
    obtain ⟨k, rfl⟩ := succ_of (show 0 < k by omega)
    rw [hogsheadref10_Put.l0, if_neg (by omega), List.drop_eq_nil_of_le (by rw [spots_length]; omega)]
    rfl
  | m + 1, i, k, hi, hk => by
    obtain ⟨k, rfl⟩ := succ_of (show 0 < k by omega)
    rw [hogsheadref10_Put.l0, if_pos (by omega), at_is l0 l1 a2 a3 hf (by omega) _ _ (by omega), Option.bind_some, spots_drop l0 l1 i (by omega), spotRoom, wrap_succ (n := l0.length) (by omega) (by omega), rroom_loop l0 l1 a2 a3 s hf h0 hl m (i + 1) k (by omega) (by omega)]
    dsimp only
    rw [err_beq]
    have e : spotFull (spotAt l0 l1 i) = decide ((recS (L (getD l0 l1 (i : Int)).1)).2.2.2 = 0) := full_of _ _
    rw [e]
    by_cases c : decide ((recS (L (getD l0 l1 (i : Int)).1)).2.2.2 = 0) = true
    · rw [if_pos c, if_pos c]
    · rw [if_neg c, if_neg c, rput_is _ _ _ _ _ _ hl k (by omega), Option.bind_some]
      rfl
theorem rputS_is (l0 : List ByteArray) (l1 : List W) (a2 : Int) (a3 : Bool) (v x : Int) (b : ByteArray) (hf : Fits l0 l1) (h0 : l0.length ≤ 8796093022208) (h1 : l1.length < 5864062014805) (k : Nat) (hk : 281474976702700 < k) : hogsheadref10_Put.f k l0 l1 a2 a3 v x b = some (putS l0 l1 a2 a3 v x b) := by
  obtain ⟨k, rfl⟩ := succ_of (show 0 < k by omega)
  unfold hogsheadref10_Put.f putS
  rw [rrecord_is _ _ _ _ (by omega), Option.bind_some]
  by_cases c : MayS v x b.size
  · rw [if_pos c, if_pos c]
    dsimp only
    rw [if_pos rfl, rfind_is l0 l1 a2 a3 v x hf (by omega) (by omega) _ (by omega), Option.bind_some]
    by_cases c2 : (spotFind v x (spots l0 l1)).2 = 0
    · rw [if_pos c2, if_pos c2, hogsheadref10_Put.j0]
      by_cases cb : L (spotFind v x (spots l0 l1)).1 = L b
      · rw [if_pos (by rw [L_toList, L_toList]; simpa using cb), if_pos cb]
      · rw [if_neg (by rw [L_toList, L_toList]; simpa using cb), if_pos c2, if_neg cb]
    · rw [if_neg c2, if_neg c2, hogsheadref10_Put.j0, if_neg (by decide), if_neg c2]
      have h := rroom_loop l0 l1 a2 a3 (B (recB v.toNat x.toNat (L b))) hf (by omega) h1 l0.length 0 k (by omega) (by omega)
      rw [List.drop_zero] at h
      refine h.trans (congrArg some ?_)
      unfold roomPut
      cases spotRoom (spots l0 l1) <;> rfl
  · rw [if_neg c, if_neg c]
    dsimp only
    rw [if_neg (by decide)]
theorem rdrop_loop (l0 : List ByteArray) (l1 : List W) (a2 : Int) (a3 : Bool) (v x : Int) (hf : Fits l0 l1) (h0 : l0.length ≤ 140737488351232) (hl : l1.length ≤ 140737488351232) :
    ∀ (m i k : Nat) (m0 : List ByteArray) (m1 : List W) (b2 : Int) (b3 : Bool), i + m = l0.length → m1.length + m < 5864062014805 → 2 * m + 140737488351300 < k → hogsheadref10_Drop.l0 k i m0 m1 b2 b3 v x l0 l1 a2 a3 = some (dropsS v x ((spots l0 l1).drop i) m0 m1 b2 b3)
  | 0, i, k, m0, m1, b2, b3, hi, hm, hk => by
    obtain ⟨k, rfl⟩ := succ_of (show 0 < k by omega)
    rw [hogsheadref10_Drop.l0, if_neg (by omega), List.drop_eq_nil_of_le (by rw [spots_length]; omega)]
    rfl
  | m + 1, i, k, m0, m1, b2, b3, hi, hm, hk => by
    obtain ⟨k, rfl⟩ := succ_of (show 1 < k by omega)
    obtain ⟨k, rfl⟩ := succ_of (show 0 < k by omega)
    rw [hogsheadref10_Drop.l0, if_pos (by omega), at_is l0 l1 a2 a3 hf hl _ _ (by omega), Option.bind_some, spots_drop l0 l1 i (by omega), dropsS]
    dsimp only
    rw [err_beq]
    have e : spotFull (spotAt l0 l1 i) = decide ((recS (L (getD l0 l1 (i : Int)).1)).2.2.2 = 0) := full_of _ _
    have e1 : (spotAt l0 l1 i).2.2.2.1 = ((recS (L (getD l0 l1 (i : Int)).1)).1 : Int) := rfl
    have e2 : (spotAt l0 l1 i).2.2.2.2.1 = ((recS (L (getD l0 l1 (i : Int)).1)).2.1 : Int) := rfl
    have e3 : (spotAt l0 l1 i).1 = (i : Int) := rfl
    rw [e, e1, e2, e3]
    have hmiss : ¬ (decide ((recS (L (getD l0 l1 (i : Int)).1)).2.2.2 = 0) = true ∧ ((recS (L (getD l0 l1 (i : Int)).1)).1 : Int) = v ∧ ((recS (L (getD l0 l1 (i : Int)).1)).2.1 : Int) = x) → hogsheadref10_Drop.j1 (k + 1) i true m0 m1 b2 b3 v x l0 l1 a2 a3 = some (dropsS v x ((spots l0 l1).drop (i + 1)) m0 m1 b2 b3) := fun _ => by
      rw [hogsheadref10_Drop.j1, if_pos rfl, wrap_succ (n := l0.length) (by omega) (by omega)]
      exact rdrop_loop l0 l1 a2 a3 v x hf h0 hl m (i + 1) k m0 m1 b2 b3 (by omega) (by omega) (by omega)
    by_cases c1 : decide ((recS (L (getD l0 l1 (i : Int)).1)).2.2.2 = 0) = true
    · rw [if_pos c1]
      by_cases c2 : ((recS (L (getD l0 l1 (i : Int)).1)).1 : Int) = v
      · rw [if_pos c2]
        by_cases c3 : ((recS (L (getD l0 l1 (i : Int)).1)).2.1 : Int) = x
        · rw [if_pos ⟨c1, c2, c3⟩, hogsheadref10_Drop.j1, if_neg (by simp [c3]), rput_is _ _ _ _ _ _ (by omega) k (by omega), Option.bind_some]
          have hg := wipe_grows m0 m1 b2 b3 (i : Int) ⟨#[]⟩
          by_cases c4 : (putD m0 m1 b2 b3 (i : Int) ⟨#[]⟩).2.2.2.2 = 0
          · rw [if_pos c4, if_pos c4, wrap_succ (n := l0.length) (by omega) (by omega)]
            exact rdrop_loop l0 l1 a2 a3 v x hf h0 hl m (i + 1) k _ _ _ _ (by omega) (by omega) (by omega)
          · rw [if_neg c4, if_neg c4]
        · have hn : ¬ (decide ((recS (L (getD l0 l1 (i : Int)).1)).2.2.2 = 0) = true ∧ ((recS (L (getD l0 l1 (i : Int)).1)).1 : Int) = v ∧ ((recS (L (getD l0 l1 (i : Int)).1)).2.1 : Int) = x) := fun h => c3 h.2.2
          have hb : (((recS (L (getD l0 l1 (i : Int)).1)).2.1 : Int) != x) = true := by simpa using c3
          rw [if_neg hn, hb]
          exact hmiss hn
      · have hn : ¬ (decide ((recS (L (getD l0 l1 (i : Int)).1)).2.2.2 = 0) = true ∧ ((recS (L (getD l0 l1 (i : Int)).1)).1 : Int) = v ∧ ((recS (L (getD l0 l1 (i : Int)).1)).2.1 : Int) = x) := fun h => c2 h.2.1
        rw [if_neg c2, if_neg hn]
        exact hmiss hn
    · have hn : ¬ (decide ((recS (L (getD l0 l1 (i : Int)).1)).2.2.2 = 0) = true ∧ ((recS (L (getD l0 l1 (i : Int)).1)).1 : Int) = v ∧ ((recS (L (getD l0 l1 (i : Int)).1)).2.1 : Int) = x) := fun h => c1 h.1
      rw [if_neg c1, if_neg hn]
      exact hmiss hn
theorem rdropS_is (l0 : List ByteArray) (l1 : List W) (a2 : Int) (a3 : Bool) (v x : Int) (hf : Fits l0 l1) (h0 : l0.length ≤ 8796093022208) (h1 : l0.length + l1.length < 5864062014805) (k : Nat) (hk : 281474976702700 < k) : hogsheadref10_Drop.f k l0 l1 a2 a3 v x = some (dropS l0 l1 a2 a3 v x) := by
  unfold hogsheadref10_Drop.f dropS
  rw [rfind_is l0 l1 a2 a3 v x hf (by omega) (by omega) _ (by omega), Option.bind_some]
  rcases find_seven v x (spots l0 l1) with c | c
  · rw [if_pos c, if_pos c]
    have h := rdrop_loop l0 l1 a2 a3 v x hf (by omega) (by omega) l0.length 0 k l0 l1 a2 a3 (by omega) (by omega) (by omega)
    rw [List.drop_zero] at h
    exact h
  · rw [c, if_neg (show ¬ (((⟨#[]⟩ : ByteArray), (7 : Int)).2 = 0) from (show ¬ (7 : Int) = 0 by decide)), if_neg (show ¬ (((⟨#[]⟩ : ByteArray), (7 : Int)).2 = 0) from (show ¬ (7 : Int) = 0 by decide))]
theorem drops_len (v x : Int) : ∀ (S : List Spot) (l0 : List ByteArray) (l1 : List W) (a2 : Int) (a3 : Bool), (dropsS v x S l0 l1 a2 a3).1.length = l0.length ∧ (dropsS v x S l0 l1 a2 a3).2.1.length ≤ l1.length + S.length
  | [], _, _, _, _ => ⟨rfl, Nat.le_refl _⟩
  | p :: S, l0, l1, a2, a3 => by
    have hg := wipe_grows l0 l1 a2 a3 p.1 ⟨#[]⟩
    have h0 := (put_any l0 l1 a2 a3 p.1 ⟨#[]⟩).1
    rw [dropsS, List.length_cons]
    split
    · split
      · have ih := drops_len v x S (putD l0 l1 a2 a3 p.1 ⟨#[]⟩).1 (putD l0 l1 a2 a3 p.1 ⟨#[]⟩).2.1 (putD l0 l1 a2 a3 p.1 ⟨#[]⟩).2.2.1 (putD l0 l1 a2 a3 p.1 ⟨#[]⟩).2.2.2.1
        refine ⟨by rw [ih.1, h0], by omega⟩
      · exact ⟨by rw [h0], by omega⟩
    · have ih := drops_len v x S l0 l1 a2 a3
      exact ⟨ih.1, by omega⟩
theorem drop_len (l0 : List ByteArray) (l1 : List W) (a2 : Int) (a3 : Bool) (v x : Int) : (dropS l0 l1 a2 a3 v x).1.length = l0.length ∧ (dropS l0 l1 a2 a3 v x).2.1.length ≤ l1.length + l0.length := by
  unfold dropS
  split
  · have h := drops_len v x (spots l0 l1) l0 l1 a2 a3
    rw [spots_length] at h
    exact h
  · exact ⟨rfl, by show l1.length ≤ _; omega⟩
end Go.Proofs.Ytffjbbedjddpmaa.SH
