/- A register of 32 bits, stepped bit by bit and byte by byte: it is linear, two unlike registers stay unlike, a byte may be stepped by a table. -/
import Derived.Test.YtabegniabilcpaaBase
import Derived.Laws.BitsAllLaws
namespace Go.Proofs.Ytabegniabilcpaa.CM
open Go.Proofs.Ytabegniabilcpaa.PB

def poly : BitVec 32 := 79764919#32
/-- One bit more, none put in. -/
def s1 (r : BitVec 32) : BitVec 32 := if r.msb then (r <<< 1) ^^^ poly else r <<< 1
def s8 (r : BitVec 32) : BitVec 32 := s1 (s1 (s1 (s1 (s1 (s1 (s1 (s1 r)))))))
/-- A byte put in at the top. -/
def top (b : BitVec 8) : BitVec 32 := b.setWidth 32 <<< 24
def stepB (r : BitVec 32) (b : BitVec 8) : BitVec 32 := s8 (r ^^^ top b)

theorem s1_eq (r : BitVec 32) : s1 r = (r <<< 1) ^^^ (if r.msb then poly else 0#32) := by
  unfold s1
  split
  · rfl
  · rw [BitVec.xor_zero]
theorem s1_xor (a b : BitVec 32) : s1 (a ^^^ b) = s1 a ^^^ s1 b := by
  rw [s1_eq, s1_eq, s1_eq, BitVec.msb_xor, BitVec.shiftLeft_xor_distrib]
  cases a.msb <;> cases b.msb <;> simp only [Bool.xor_false, Bool.xor_true, Bool.not_false, Bool.not_true, Bool.false_eq_true, if_true, if_false, BitVec.xor_zero]
  · rw [BitVec.xor_assoc]
  · rw [BitVec.xor_assoc, BitVec.xor_assoc, BitVec.xor_comm (b <<< 1)]
  · have : a <<< 1 ^^^ poly ^^^ (b <<< 1 ^^^ poly) = a <<< 1 ^^^ b <<< 1 ^^^ (poly ^^^ poly) := by
      rw [BitVec.xor_assoc, BitVec.xor_assoc, ← BitVec.xor_assoc poly, BitVec.xor_comm poly (b <<< 1), BitVec.xor_assoc]
    rw [this, BitVec.xor_self, BitVec.xor_zero]
theorem s1_zero : s1 0#32 = 0#32 := by decide
theorem s8_xor (a b : BitVec 32) : s8 (a ^^^ b) = s8 a ^^^ s8 b := by unfold s8; simp only [s1_xor]
theorem s8_zero : s8 0#32 = 0#32 := by decide

theorem s1_low (r : BitVec 32) : (s1 r).getLsbD 0 = r.msb := by
  rw [s1_eq, BitVec.getLsbD_xor]
  have h1 : (r <<< 1).getLsbD 0 = false := by simp
  rw [h1]
  cases r.msb <;> simp <;> decide
theorem shl_inj {a b : BitVec 32} (hm : a.msb = b.msb) (h : a <<< 1 = b <<< 1) : a = b := by
  have ha := BitVec.msb_eq_decide a
  have hb := BitVec.msb_eq_decide b
  have h2 : (a <<< 1).toNat = (b <<< 1).toNat := by rw [h]
  rw [BitVec.toNat_shiftLeft, BitVec.toNat_shiftLeft, Nat.shiftLeft_eq, Nat.shiftLeft_eq] at h2
  have la := a.isLt
  have lb := b.isLt
  apply BitVec.eq_of_toNat_eq
  rw [ha, hb] at hm
  have hm' : (2 ^ (32 - 1) ≤ a.toNat) ↔ (2 ^ (32 - 1) ≤ b.toNat) := by simpa using hm
  omega
theorem s1_inj {a b : BitVec 32} (h : s1 a = s1 b) : a = b := by
  have hm : a.msb = b.msb := by rw [← s1_low, ← s1_low, h]
  refine shl_inj hm ?_
  rw [s1_eq, s1_eq, hm] at h
  have := congrArg (· ^^^ (if b.msb then poly else 0#32)) h
  simpa [BitVec.xor_assoc] using this
theorem s8_inj {a b : BitVec 32} (h : s8 a = s8 b) : a = b := by
  unfold s8 at h
  exact s1_inj (s1_inj (s1_inj (s1_inj (s1_inj (s1_inj (s1_inj (s1_inj h)))))))
theorem xor_right_inj {a b c : BitVec 32} (h : a ^^^ c = b ^^^ c) : a = b := by
  have := congrArg (· ^^^ c) h
  simpa [BitVec.xor_assoc] using this
theorem xor_left_inj {a b c : BitVec 32} (h : c ^^^ a = c ^^^ b) : a = b := by
  rw [BitVec.xor_comm c, BitVec.xor_comm c] at h
  exact xor_right_inj h
theorem top_xor (x y : BitVec 8) : top (x ^^^ y) = top x ^^^ top y := by
  unfold top
  rw [BitVec.setWidth_xor, BitVec.shiftLeft_xor_distrib]
theorem toNat_top (b : BitVec 8) : (top b).toNat = b.toNat * 16777216 := by
  unfold top
  rw [BitVec.toNat_shiftLeft, BitVec.toNat_setWidth, Nat.shiftLeft_eq]
  have := b.isLt
  omega
theorem top_inj {x y : BitVec 8} (h : top x = top y) : x = y := by
  have h2 : (top x).toNat = (top y).toNat := by rw [h]
  rw [toNat_top, toNat_top] at h2
  apply BitVec.eq_of_toNat_eq
  omega
theorem stepB_xor (a b : BitVec 32) (x y : BitVec 8) : stepB (a ^^^ b) (x ^^^ y) = stepB a x ^^^ stepB b y := by
  unfold stepB
  rw [top_xor, ← s8_xor]
  refine congrArg s8 ?_
  rw [BitVec.xor_assoc, BitVec.xor_assoc, ← BitVec.xor_assoc b, BitVec.xor_comm b (top x), BitVec.xor_assoc]
theorem stepB_inj {a b : BitVec 32} {x : BitVec 8} (h : stepB a x = stepB b x) : a = b := xor_right_inj (s8_inj h)
theorem stepB_inj_byte {a : BitVec 32} {x y : BitVec 8} (h : stepB a x = stepB a y) : x = y := top_inj (xor_left_inj (s8_inj h))
theorem stepB_zero : stepB 0#32 0#8 = 0#32 := by decide

/-- A register below 2^24 is shifted alone. -/
theorem s1_small (n : Nat) (h : n < 2147483648) : s1 (BitVec.ofNat 32 n) = BitVec.ofNat 32 (2 * n) := by
  unfold s1
  have hm : (BitVec.ofNat 32 n).msb = false := by
    rw [BitVec.msb_eq_decide, BitVec.toNat_ofNat]
    simp
    omega
  rw [hm, if_neg (by simp)]
  apply BitVec.eq_of_toNat_eq
  rw [BitVec.toNat_shiftLeft, BitVec.toNat_ofNat, BitVec.toNat_ofNat, Nat.shiftLeft_eq]
  omega
theorem s8_small (n : Nat) (h : n < 16777216) : s8 (BitVec.ofNat 32 n) = BitVec.ofNat 32 (256 * n) := by
  unfold s8
  rw [s1_small _ (by omega), s1_small _ (by omega), s1_small _ (by omega), s1_small _ (by omega), s1_small _ (by omega), s1_small _ (by omega), s1_small _ (by omega), s1_small _ (by omega)]
  exact congrArg (BitVec.ofNat 32) (by omega)
/-- The register's highest byte. -/
def hi (r : BitVec 32) : BitVec 8 := BitVec.ofNat 8 (r.toNat / 16777216)
theorem toNat_hi (r : BitVec 32) : (hi r).toNat = r.toNat / 16777216 := by
  unfold hi
  rw [BitVec.toNat_ofNat]
  have := r.isLt
  omega
theorem split_top (r : BitVec 32) : r = top (hi r) ^^^ BitVec.ofNat 32 (r.toNat % 16777216) := by
  apply BitVec.eq_of_toNat_eq
  rw [BitVec.toNat_xor, toNat_top, toNat_hi, BitVec.toNat_ofNat]
  have h1 : r.toNat % 16777216 % 2 ^ 32 = r.toNat % 16777216 := by omega
  rw [h1]
  have h2 : r.toNat / 16777216 * 16777216 ^^^ r.toNat % 16777216 = r.toNat / 16777216 * 16777216 + r.toNat % 16777216 := by
    have := Nat.two_pow_add_eq_or_of_lt (i := 24) (b := r.toNat % 16777216) (by omega) (r.toNat / 16777216)
    have h3 : r.toNat / 16777216 * 16777216 = 2 ^ 24 * (r.toNat / 16777216) := by omega
    rw [h3, this]
    apply Nat.eq_of_testBit_eq
    intro i
    rw [Nat.testBit_xor, Nat.testBit_or]
    by_cases hi : i < 24
    · have : (2 ^ 24 * (r.toNat / 16777216)).testBit i = false := by
        rw [Nat.testBit_two_pow_mul]
        simp
        omega
      rw [this]
      simp
    · have : (r.toNat % 16777216).testBit i = false := by
        apply Nat.testBit_lt_two_pow
        have : 2 ^ 24 ≤ 2 ^ i := Nat.pow_le_pow_right (by omega) (by omega)
        omega
      rw [this]
      simp
  rw [h2]
  omega
/-- A byte by the table. -/
theorem stepB_table (r : BitVec 32) (b : BitVec 8) : stepB r b = (r <<< 8) ^^^ stepB 0#32 (hi r ^^^ b) := by
  unfold stepB
  have e : r ^^^ top b = top (hi r ^^^ b) ^^^ BitVec.ofNat 32 (r.toNat % 16777216) := by
    rw [top_xor]
    conv => lhs; rw [split_top r]
    rw [BitVec.xor_assoc, BitVec.xor_assoc, BitVec.xor_comm (BitVec.ofNat 32 _)]
  rw [e, s8_xor, s8_small _ (by omega), BitVec.zero_xor, BitVec.xor_comm]
  congr 1
  apply BitVec.eq_of_toNat_eq
  rw [BitVec.toNat_ofNat, BitVec.toNat_shiftLeft, Nat.shiftLeft_eq]
  omega

/-- The register behind bytes. -/
def foldB (r : BitVec 32) (l : List (BitVec 8)) : BitVec 32 := l.foldl stepB r
theorem foldB_append (r : BitVec 32) (l m : List (BitVec 8)) : foldB r (l ++ m) = foldB (foldB r l) m := by unfold foldB; rw [List.foldl_append]
theorem foldB_inj : ∀ (l : List (BitVec 8)) {a b : BitVec 32}, foldB a l = foldB b l → a = b
  | [], _, _, h => h
  | x :: l, a, b, h => stepB_inj (foldB_inj l (a := stepB a x) (b := stepB b x) h)
theorem foldB_xor : ∀ (l m : List (BitVec 8)) (a b : BitVec 32), l.length = m.length → foldB (a ^^^ b) (List.zipWith (· ^^^ ·) l m) = foldB a l ^^^ foldB b m
  | [], [], _, _, _ => rfl
  | x :: l, y :: m, a, b, h => by
    have h' : l.length = m.length := by simpa using h
    show foldB (stepB (a ^^^ b) (x ^^^ y)) (List.zipWith (· ^^^ ·) l m) = _
    rw [stepB_xor]
    exact foldB_xor l m _ _ h'
  | [], _ :: _, _, _, h => by simp at h
  | _ :: _, [], _, _, h => by simp at h
/-- A register's four bytes, the highest one first. -/
def four (r : BitVec 32) : List (BitVec 8) := [BitVec.ofNat 8 (r.toNat / 16777216), BitVec.ofNat 8 (r.toNat / 65536), BitVec.ofNat 8 (r.toNat / 256), BitVec.ofNat 8 r.toNat]
theorem step_own (r : BitVec 32) : stepB r (hi r) = r <<< 8 := by
  rw [stepB_table, BitVec.xor_self, stepB_zero, BitVec.xor_zero]
theorem fold_own (r : BitVec 32) : foldB r (four r) = 0#32 := by
  have h0 : BitVec.ofNat 8 (r.toNat / 16777216) = hi r := rfl
  have hlt := r.isLt
  have h1 : BitVec.ofNat 8 (r.toNat / 65536) = hi (r <<< 8) := by
    unfold hi
    apply BitVec.eq_of_toNat_eq
    simp only [BitVec.toNat_ofNat, BitVec.toNat_shiftLeft, Nat.shiftLeft_eq]
    omega
  have h2 : BitVec.ofNat 8 (r.toNat / 256) = hi (r <<< 8 <<< 8) := by
    unfold hi
    apply BitVec.eq_of_toNat_eq
    simp only [BitVec.toNat_ofNat, BitVec.toNat_shiftLeft, Nat.shiftLeft_eq]
    omega
  have h3 : BitVec.ofNat 8 r.toNat = hi (r <<< 8 <<< 8 <<< 8) := by
    unfold hi
    apply BitVec.eq_of_toNat_eq
    simp only [BitVec.toNat_ofNat, BitVec.toNat_shiftLeft, Nat.shiftLeft_eq]
    omega
  unfold four foldB
  simp only [List.foldl_cons, List.foldl_nil]
  rw [h0, step_own, h1, step_own, h2, step_own, h3, step_own]
  apply BitVec.eq_of_toNat_eq
  simp only [BitVec.toNat_shiftLeft, Nat.shiftLeft_eq, BitVec.toNat_ofNat]
  omega
theorem four_xor (a b : BitVec 32) : four (a ^^^ b) = List.zipWith (· ^^^ ·) (four a) (four b) := by
  have h : ∀ m : Nat, BitVec.ofNat 8 ((a ^^^ b).toNat >>> m) = BitVec.ofNat 8 (a.toNat >>> m) ^^^ BitVec.ofNat 8 (b.toNat >>> m) := by
    intro m
    rw [BitVec.toNat_xor, Nat.shiftRight_xor_distrib]
    apply BitVec.eq_of_toNat_eq
    rw [BitVec.toNat_xor, BitVec.toNat_ofNat, BitVec.toNat_ofNat, BitVec.toNat_ofNat, Nat.xor_mod_two_pow]
  have e24 : ∀ x : Nat, x / 16777216 = x >>> 24 := fun x => by rw [Nat.shiftRight_eq_div_pow]
  have e16 : ∀ x : Nat, x / 65536 = x >>> 16 := fun x => by rw [Nat.shiftRight_eq_div_pow]
  have e8 : ∀ x : Nat, x / 256 = x >>> 8 := fun x => by rw [Nat.shiftRight_eq_div_pow]
  have e0 : ∀ x : Nat, x = x >>> 0 := fun x => rfl
  unfold four
  rw [e24, e24, e24, e16, e16, e16, e8, e8, e8, h, h, h]
  have := h 0
  simp only [Nat.shiftRight_zero] at this
  rw [this]
  rfl
/-- Whatever the register is: behind the bytes of it turned round it is the same one. -/
theorem fold_rest (r : BitVec 32) : foldB r (four (r ^^^ 4294967295#32)) = 3338984827#32 := by
  have h := foldB_xor (four r) (four 4294967295#32) r 0#32 rfl
  rw [BitVec.xor_zero] at h
  rw [four_xor, h, fold_own, BitVec.zero_xor]
  decide +kernel

/-! ### numbers -/
theorem xor32 (a b : BitVec 32) : Go.bits .xor .u32 (a.toNat : Int) (b.toNat : Int) = ((a ^^^ b).toNat : Int) := by
  rw [u32_xor_nat _ _ a.isLt b.isLt, BitVec.toNat_xor]
theorem xor8 (a b : BitVec 8) : Go.bits .xor .u8 (a.toNat : Int) (b.toNat : Int) = ((a ^^^ b).toNat : Int) := by
  rw [u8_xor_nat _ _ a.isLt b.isLt, BitVec.toNat_xor]
theorem of_u32 {x : Int} (h : 0 ≤ x ∧ x ≤ 4294967295) : ∃ r : BitVec 32, x = (r.toNat : Int) := ⟨BitVec.ofNat 32 x.toNat, by rw [BitVec.toNat_ofNat]; omega⟩
theorem of_u8 {x : Int} (h : 0 ≤ x ∧ x ≤ 255) : ∃ b : BitVec 8, x = (b.toNat : Int) := ⟨BitVec.ofNat 8 x.toNat, by rw [BitVec.toNat_ofNat]; omega⟩
theorem shl1 (r : BitVec 32) : ((r.toNat : Int) * (2 : Int)) % (4294967296 : Int) = ((r <<< 1).toNat : Int) := by
  rw [BitVec.toNat_shiftLeft, Nat.shiftLeft_eq]
  omega
theorem msb_iff (r : BitVec 32) : (r.toNat : Int) / 2147483648 = 1 ↔ r.msb = true := by
  rw [BitVec.msb_eq_decide]
  have := r.isLt
  simp
  omega
end Go.Proofs.Ytabegniabilcpaa.CM
