/- A register of 32 bits, stepped bit by bit and byte by byte: it is linear, two unlike registers stay unlike, a byte may be stepped by a table. A register that is stepped bit by bit: 32 bits that stand together, turned round, are told. Bits turned round twice, and what is turned round by a number: the number is 0 where nothing changes. What a disk's functions come to, over lists alone. What the laws of the disks need, over lists alone. What the document's functions of a disk come to, over lists alone. What bursts and crashes come to, over lists alone. -/
import Derived.Test.YtmaojfeikbdkhaaBase
import Derived.Laws.BitsAllLaws
import Derived.Test.YtmaojfeikbdkhaaFlip
import Derived.Test.YtmaojfeikbdkhaaPAllx2
import Derived.Test.YtmaojfeikbdkhaaPAllx3
import Derived.Test.YtmaojfeikbdkhaaPAllx4
namespace Go.Proofs.Ytmaojfeikbdkhaa.CM
open Go.Proofs.Ytmaojfeikbdkhaa.PB

def poly : BitVec 32 := 79764919#32
/-- One bit more, none put in. -/
def s1 (r : BitVec 32) : BitVec 32 := if r.msb then (r <<< 1) ^^^ poly else r <<< 1
def s8 (r : BitVec 32) : BitVec 32 := s1 (s1 (s1 (s1 (s1 (s1 (s1 (s1 r)))))))
/-- A byte put in at the top. -/
def top (b : BitVec 8) : BitVec 32 := b.setWidth 32 <<< 24
def stepB (r : BitVec 32) (b : BitVec 8) : BitVec 32 := s8 (r ^^^ top b)

theorem s1_eq (r : BitVec 32) : s1 r = (r <<< 1) ^^^ (if r.msb then poly else 0#32) := by
  unfold s1
  split
  · rfl
  · rw [BitVec.xor_zero]
theorem s1_xor (a b : BitVec 32) : s1 (a ^^^ b) = s1 a ^^^ s1 b := by
  rw [s1_eq, s1_eq, s1_eq, BitVec.msb_xor, BitVec.shiftLeft_xor_distrib]
  cases a.msb <;> cases b.msb <;> simp only [Bool.xor_false, Bool.xor_true, Bool.not_false, Bool.not_true, Bool.false_eq_true, if_true, if_false, BitVec.xor_zero]
  · rw [BitVec.xor_assoc]
  · rw [BitVec.xor_assoc, BitVec.xor_assoc, BitVec.xor_comm (b <<< 1)]
  · have : a <<< 1 ^^^ poly ^^^ (b <<< 1 ^^^ poly) = a <<< 1 ^^^ b <<< 1 ^^^ (poly ^^^ poly) := by
      rw [BitVec.xor_assoc, BitVec.xor_assoc, ← BitVec.xor_assoc poly, BitVec.xor_comm poly (b <<< 1), BitVec.xor_assoc]
    rw [this, BitVec.xor_self, BitVec.xor_zero]
theorem s8_xor (a b : BitVec 32) : s8 (a ^^^ b) = s8 a ^^^ s8 b := by unfold s8; simp only [s1_xor]
theorem s1_low (r : BitVec 32) : (s1 r).getLsbD 0 = r.msb := by
  rw [s1_eq, BitVec.getLsbD_xor]
  have h1 : (r <<< 1).getLsbD 0 = false := by simp
  rw [h1]
  cases r.msb <;> simp <;> decide
theorem shl_inj {a b : BitVec 32} (hm : a.msb = b.msb) (h : a <<< 1 = b <<< 1) : a = b := by
  have ha := BitVec.msb_eq_decide a
  have hb := BitVec.msb_eq_decide b
  have h2 : (a <<< 1).toNat = (b <<< 1).toNat := by rw [h]
  rw [BitVec.toNat_shiftLeft, BitVec.toNat_shiftLeft, Nat.shiftLeft_eq, Nat.shiftLeft_eq] at h2
  have la := a.isLt
  have lb := b.isLt
  apply BitVec.eq_of_toNat_eq
  rw [ha, hb] at hm
  have hm' : (2 ^ (32 - 1) ≤ a.toNat) ↔ (2 ^ (32 - 1) ≤ b.toNat) := by simpa using hm
  omega
theorem s1_inj {a b : BitVec 32} (h : s1 a = s1 b) : a = b := by
  have hm : a.msb = b.msb := by rw [← s1_low, ← s1_low, h]
  refine shl_inj hm ?_
  rw [s1_eq, s1_eq, hm] at h
  have := congrArg (· ^^^ (if b.msb then poly else 0#32)) h
  simpa [BitVec.xor_assoc] using this
theorem xor_right_inj {a b c : BitVec 32} (h : a ^^^ c = b ^^^ c) : a = b := by
  have := congrArg (· ^^^ c) h
  simpa [BitVec.xor_assoc] using this
/-- The register's highest byte. -/
def hi (r : BitVec 32) : BitVec 8 := BitVec.ofNat 8 (r.toNat / 16777216)
/-- The register behind bytes. -/
def foldB (r : BitVec 32) (l : List (BitVec 8)) : BitVec 32 := l.foldl stepB r
end Go.Proofs.Ytmaojfeikbdkhaa.CM
namespace Go.Proofs.Ytmaojfeikbdkhaa.CM

/-- One bit put in. -/
def t1 (r : BitVec 32) (b : Bool) : BitVec 32 := s1 (r ^^^ (if b then 2147483648#32 else 0#32))
def foldT (r : BitVec 32) (l : List Bool) : BitVec 32 := l.foldl t1 r
/-- A byte's bits, the highest one first. -/
def bits8 (b : BitVec 8) : List Bool := [b.getLsbD 7, b.getLsbD 6, b.getLsbD 5, b.getLsbD 4, b.getLsbD 3, b.getLsbD 2, b.getLsbD 1, b.getLsbD 0]
theorem t1_xor (a b : BitVec 32) (x y : Bool) : t1 (a ^^^ b) (x ^^ y) = t1 a x ^^^ t1 b y := by
  unfold t1
  rw [← s1_xor]
  refine congrArg s1 ?_
  have h : (if (x ^^ y) = true then 2147483648#32 else 0#32) = (if x = true then 2147483648#32 else 0#32) ^^^ (if y = true then 2147483648#32 else 0#32) := by cases x <;> cases y <;> decide
  rw [h, BitVec.xor_assoc, BitVec.xor_assoc, ← BitVec.xor_assoc b, BitVec.xor_comm b (if x = true then _ else _), BitVec.xor_assoc]
theorem t1_inj {a b : BitVec 32} {x : Bool} (h : t1 a x = t1 b x) : a = b := xor_right_inj (s1_inj h)
theorem foldT_append (r : BitVec 32) (l m : List Bool) : foldT r (l ++ m) = foldT (foldT r l) m := by unfold foldT; rw [List.foldl_append]
theorem foldT_inj : ∀ (l : List Bool) {a b : BitVec 32}, foldT a l = foldT b l → a = b
  | [], _, _, h => h
  | x :: l, a, b, h => t1_inj (foldT_inj l (a := t1 a x) (b := t1 b x) h)
theorem foldT_xor : ∀ (l m : List Bool) (a b : BitVec 32), l.length = m.length → foldT (a ^^^ b) (List.zipWith (· ^^ ·) l m) = foldT a l ^^^ foldT b m
  | [], [], _, _, _ => rfl
  | x :: l, y :: m, a, b, h => by
    have h' : l.length = m.length := by simpa using h
    show foldT (t1 (a ^^^ b) (x ^^ y)) (List.zipWith (· ^^ ·) l m) = _
    rw [t1_xor]
    exact foldT_xor l m _ _ h'
  | [], _ :: _, _, _, h => by simp at h
  | _ :: _, [], _, _, h => by simp at h
theorem foldT_byte0 : ∀ b : BitVec 8, foldT 0#32 (bits8 b) = s8 (top b) := by decide +kernel
theorem stepB_bits (r : BitVec 32) (b : BitVec 8) : stepB r b = foldT r (bits8 b) := by
  have h := foldT_xor [false, false, false, false, false, false, false, false] (bits8 b) r 0#32 rfl
  rw [BitVec.xor_zero, foldT_byte0] at h
  have h1 : List.zipWith (· ^^ ·) [false, false, false, false, false, false, false, false] (bits8 b) = bits8 b := by
    unfold bits8
    simp only [List.zipWith_cons_cons, List.zipWith_nil_left, Bool.false_xor]
  have h0 : foldT r [false, false, false, false, false, false, false, false] = s8 r := by
    unfold foldT s8 t1
    simp only [List.foldl_cons, List.foldl_nil, Bool.false_eq_true, if_false, BitVec.xor_zero]
  rw [h1, h0] at h
  rw [h]
  unfold stepB
  rw [s8_xor]
def bitsOf (l : List (BitVec 8)) : List Bool := l.flatMap bits8
theorem bitsOf_length : ∀ l : List (BitVec 8), (bitsOf l).length = 8 * l.length
  | [] => rfl
  | b :: l => by
    show (bits8 b ++ bitsOf l).length = _
    rw [List.length_append, bitsOf_length l, List.length_cons]
    show 8 + _ = _
    omega
theorem foldB_bits : ∀ (l : List (BitVec 8)) (r : BitVec 32), foldB r l = foldT r (bitsOf l)
  | [], _ => rfl
  | b :: l, r => by
    show foldB (stepB r b) l = foldT r (bits8 b ++ bitsOf l)
    rw [foldT_append, stepB_bits, foldB_bits l]
/-- The first n bits of a register, the highest one first. -/
def bitsN : Nat → BitVec 32 → List Bool
  | 0, _ => []
  | n + 1, r => r.msb :: bitsN n (r <<< 1)
theorem bitsN_length : ∀ n r, (bitsN n r).length = n
  | 0, _ => rfl
  | n + 1, r => by rw [bitsN, List.length_cons, bitsN_length n]
theorem t1_own (r : BitVec 32) : t1 r r.msb = r <<< 1 := by
  unfold t1
  cases h : r.msb
  · rw [if_neg (by decide), BitVec.xor_zero]
    unfold s1
    rw [h, if_neg (by decide)]
  · rw [if_pos rfl]
    unfold s1
    have h2 : (r ^^^ 2147483648#32).msb = false := by
      rw [BitVec.msb_xor, h]
      decide
    rw [h2, if_neg (by decide), BitVec.shiftLeft_xor_distrib]
    have h3 : (2147483648#32 : BitVec 32) <<< 1 = 0#32 := by decide
    rw [h3, BitVec.xor_zero]
theorem foldT_own : ∀ n r, foldT r (bitsN n r) = r <<< n
  | 0, r => by simp [bitsN, foldT]
  | n + 1, r => by
    show foldT (t1 r r.msb) (bitsN n (r <<< 1)) = _
    rw [t1_own, foldT_own n, ← BitVec.shiftLeft_add, Nat.add_comm]
/-- A burst is told. -/
theorem burst_told (p X q : List Bool) (a r : BitVec 32) (hX : X.length = 32) (h : foldT a (p ++ X ++ q) = foldT a (p ++ List.zipWith (· ^^ ·) X (bitsN 32 r) ++ q)) : r = 0#32 := by
  rw [foldT_append, foldT_append, foldT_append, foldT_append] at h
  have h1 := foldT_inj q h
  have h2 := foldT_xor X (bitsN 32 r) (foldT a p) 0#32 (by rw [hX, bitsN_length])
  rw [BitVec.xor_zero, ← h1] at h2
  have h3 : foldT 0#32 (bitsN 32 r) = 0#32 := by
    have := congrArg (foldT (foldT a p) X ^^^ ·) h2
    simp only [← BitVec.xor_assoc, BitVec.xor_self, BitVec.zero_xor] at this
    exact this.symm
  have h4 : foldT r (bitsN 32 r) = 0#32 := by
    rw [foldT_own]
    apply BitVec.eq_of_toNat_eq
    simp only [BitVec.toNat_shiftLeft, Nat.shiftLeft_eq, BitVec.toNat_ofNat]
    omega
  exact foldT_inj _ (h4.trans h3.symm)
theorem mod_left (f : Bool → Bool) : ∀ (l m : List Bool) (k : Nat), k < l.length → (l ++ m).modify k f = l.modify k f ++ m
  | [], _, _, h => absurd h (Nat.not_lt_zero _)
  | _ :: _, _, 0, _ => rfl
  | x :: l, m, k + 1, h => congrArg (x :: ·) (mod_left f l m k (Nat.lt_of_succ_lt_succ h))
theorem mod_right (f : Bool → Bool) : ∀ (l m : List Bool) (k : Nat), (l ++ m).modify (l.length + k) f = l ++ m.modify k f
  | [], m, k => by rw [List.length_nil, Nat.zero_add]; rfl
  | x :: l, m, k => by
    rw [List.length_cons, show l.length + 1 + k = (l.length + k) + 1 by omega]
    exact congrArg (x :: ·) (mod_right f l m k)
/-- Bits turned round from the k-th on. -/
def xorAt : List Bool → Nat → List Bool → List Bool
  | bs, _, [] => bs
  | bs, k, m :: ms => xorAt (if m then bs.modify k not else bs) (k + 1) ms
theorem xorAt_mid : ∀ (m p X q : List Bool), X.length = m.length → xorAt (p ++ X ++ q) p.length m = p ++ List.zipWith (· ^^ ·) X m ++ q
  | [], p, X, q, h => by
    have : X = [] := List.length_eq_zero_iff.mp h
    subst this
    rfl
  | m :: ms, p, [], q, h => by simp at h
  | m :: ms, p, x :: X, q, h => by
    have h' : X.length = ms.length := by simpa using h
    have e : (if m then (p ++ x :: X ++ q).modify p.length not else (p ++ x :: X ++ q)) = (p ++ [x ^^ m]) ++ X ++ q := by
      cases m
      · simp
      · have h2 := mod_right not p (x :: X ++ q) 0
        rw [Nat.add_zero] at h2
        rw [if_pos rfl, List.append_assoc, h2]
        simp
    unfold xorAt
    rw [e, show p.length + 1 = (p ++ [x ^^ m]).length by simp, xorAt_mid ms (p ++ [x ^^ m]) X q h']
    simp
/-- A bit of bytes turned round. -/
def flipAt (l : List (BitVec 8)) (k : Nat) : List (BitVec 8) := l.modify (k / 8) (· ^^^ (128#8 >>> (k % 8)))
theorem bits8_flip : ∀ (b : BitVec 8) (j : Fin 8), bits8 (b ^^^ (128#8 >>> j.val)) = (bits8 b).modify j.val not := by decide +kernel
theorem bitsOf_flip : ∀ (l : List (BitVec 8)) (k : Nat), bitsOf (flipAt l k) = (bitsOf l).modify k not
  | [], k => by simp [bitsOf, flipAt]
  | b :: l, k => by
    by_cases c : k < 8
    · have e : flipAt (b :: l) k = (b ^^^ (128#8 >>> k)) :: l := by
        unfold flipAt
        rw [show k / 8 = 0 by omega, show k % 8 = k by omega]
        rfl
      rw [e]
      show bits8 _ ++ bitsOf l = (bits8 b ++ bitsOf l).modify k not
      rw [bits8_flip b ⟨k, c⟩, mod_left not _ _ _ (by show k < 8; exact c)]
    · have e : flipAt (b :: l) k = b :: flipAt l (k - 8) := by
        unfold flipAt
        rw [show k / 8 = (k - 8) / 8 + 1 by omega, show k % 8 = (k - 8) % 8 by omega]
        rfl
      rw [e]
      show bits8 b ++ bitsOf (flipAt l (k - 8)) = (bits8 b ++ bitsOf l).modify k not
      have h2 := mod_right not (bits8 b) (bitsOf l) (k - 8)
      rw [show (bits8 b).length + (k - 8) = k from by show 8 + (k - 8) = k; omega] at h2
      rw [bitsOf_flip l (k - 8), h2]
/-- What the first n bits of a register turn round, from the k-th bit on. -/
def flips : Nat → List (BitVec 8) → Nat → BitVec 32 → List (BitVec 8)
  | 0, l, _, _ => l
  | n + 1, l, k, r => flips n (if r.msb then flipAt l k else l) (k + 1) (r <<< 1)
theorem bitsOf_flips : ∀ n l k r, bitsOf (flips n l k r) = xorAt (bitsOf l) k (bitsN n r)
  | 0, _, _, _ => rfl
  | n + 1, l, k, r => by
    rw [flips, bitsOf_flips n, bitsN, xorAt]
    congr 1
    cases r.msb
    · rfl
    · rw [if_pos rfl, if_pos rfl, bitsOf_flip]
/-- Bytes of which 32 bits were turned round leave the same register only where none was. -/
theorem flips_told (l : List (BitVec 8)) (k : Nat) (a r : BitVec 32) (hk : k + 32 ≤ 8 * l.length) (h : foldB a (flips 32 l k r) = foldB a l) : r = 0#32 := by
  rw [foldB_bits, foldB_bits, bitsOf_flips] at h
  have hlen := bitsOf_length l
  have e : bitsOf l = (bitsOf l).take k ++ ((bitsOf l).drop k).take 32 ++ ((bitsOf l).drop k).drop 32 := by
    rw [List.append_assoc, List.take_append_drop, List.take_append_drop]
  have hp : ((bitsOf l).take k).length = k := by rw [List.length_take]; omega
  have hX : (((bitsOf l).drop k).take 32).length = 32 := by rw [List.length_take, List.length_drop]; omega
  generalize (bitsOf l).take k = p at *
  generalize ((bitsOf l).drop k).take 32 = X at *
  generalize ((bitsOf l).drop k).drop 32 = q at *
  rw [e] at h
  subst hp
  rw [xorAt_mid _ p X q (by rw [hX, bitsN_length])] at h
  exact burst_told p X q a r hX h.symm
end Go.Proofs.Ytmaojfeikbdkhaa.CM
namespace Go.Proofs.Ytmaojfeikbdkhaa.FP
open Go.RowKit Go.Proofs.YtmaojfeikbdkhaaW.PrintWords Go.Proofs.YtmaojfeikbdkhaaW.PrintLast Go.Proofs.Ytmaojfeikbdkhaa.PB Go.Proofs.Ytmaojfeikbdkhaa.CM

theorem bit_vec : ∀ j : Fin 8, (UInt8.ofNat (128 / 2 ^ j.val)).toBitVec = 128#8 >>> j.val := by decide
theorem flip_vec (l : List UInt8) (k : Nat) : (Mark.flipL l k).map UInt8.toBitVec = flipAt (l.map UInt8.toBitVec) k := by
  unfold Mark.flipL flipAt
  apply List.ext_getElem?
  intro i
  have hb := bit_vec ⟨k % 8, Nat.mod_lt _ (by decide)⟩
  simp only at hb
  rw [List.getElem?_map, List.getElem?_set, List.getElem?_modify, List.getElem?_map]
  by_cases c : k / 8 = i
  · subst c
    rw [if_pos rfl]
    by_cases hl : k / 8 < l.length
    · rw [if_pos hl, List.getElem?_eq_getElem hl, List.getD_eq_getElem?_getD, List.getElem?_eq_getElem hl]
      simp [hb]
    · rw [if_neg hl, List.getElem?_eq_none (by omega)]
      rfl
  · rw [if_neg c]
    simp [c]
theorem turn_vec : ∀ (n : Nat) (l : List UInt8) (k b : Nat), b < 4294967296 → (Mark.turnL n l k b).map UInt8.toBitVec = flips n (l.map UInt8.toBitVec) k (BitVec.ofNat 32 b)
  | 0, _, _, _, _ => rfl
  | n + 1, l, k, b, hb => by
    rw [Mark.turnL, flips, turn_vec n _ _ _ (by omega)]
    have hm : (BitVec.ofNat 32 b).msb = true ↔ b / 2147483648 = 1 := by
      rw [BitVec.msb_eq_decide, BitVec.toNat_ofNat]
      simp
      omega
    have hs : BitVec.ofNat 32 (b % 2147483648 * 2) = BitVec.ofNat 32 b <<< 1 := by
      apply BitVec.eq_of_toNat_eq
      rw [BitVec.toNat_shiftLeft, BitVec.toNat_ofNat, BitVec.toNat_ofNat, Nat.shiftLeft_eq]
      omega
    rw [hs]
    by_cases c : b / 2147483648 = 1
    · rw [if_pos c, if_pos (hm.2 c), flip_vec]
    · rw [if_neg c, if_neg (fun h => c (hm.1 h))]
theorem flip_flip (l : List UInt8) (k : Nat) : Mark.flipL (Mark.flipL l k) k = l := by
  unfold Mark.flipL
  rw [List.set_set]
  by_cases hl : k / 8 < l.length
  · rw [List.getD_eq_getElem?_getD, List.getElem?_set_self hl, Option.getD_some, List.getD_eq_getElem?_getD, List.getElem?_eq_getElem hl, Option.getD_some, UInt8.xor_assoc, UInt8.xor_self, UInt8.xor_zero, List.set_getElem_self]
  · rw [List.set_eq_of_length_le (by omega)]
theorem flip_comm (l : List UInt8) (j k : Nat) : Mark.flipL (Mark.flipL l j) k = Mark.flipL (Mark.flipL l k) j := by
  unfold Mark.flipL
  generalize UInt8.ofNat (128 / 2 ^ (j % 8)) = x
  generalize UInt8.ofNat (128 / 2 ^ (k % 8)) = y
  generalize j / 8 = p
  generalize k / 8 = q
  by_cases e : p = q
  · subst e
    rw [List.set_set, List.set_set]
    by_cases hl : p < l.length
    · rw [List.getD_eq_getElem?_getD, List.getElem?_set_self hl, List.getD_eq_getElem?_getD, List.getD_eq_getElem?_getD, List.getElem?_set_self hl, Option.getD_some, Option.getD_some, UInt8.xor_assoc, UInt8.xor_assoc, UInt8.xor_comm x y]
    · rw [List.set_eq_of_length_le (by omega), List.set_eq_of_length_le (by omega)]
  · rw [List.getD_eq_getElem?_getD (i := q) (l := l.set p _), List.getElem?_set_ne e, List.getD_eq_getElem?_getD (i := p) (l := l.set q _), List.getElem?_set_ne (Ne.symm e), ← List.getD_eq_getElem?_getD, ← List.getD_eq_getElem?_getD]
    exact List.set_comm _ _ e
theorem turn_flip : ∀ (n : Nat) (l : List UInt8) (j k b : Nat), Mark.turnL n (Mark.flipL l j) k b = Mark.flipL (Mark.turnL n l k b) j
  | 0, _, _, _, _ => rfl
  | n + 1, l, j, k, b => by
    rw [Mark.turnL, Mark.turnL]
    by_cases c : b / 2147483648 = 1
    · rw [if_pos c, if_pos c, flip_comm, turn_flip n]
    · rw [if_neg c, if_neg c, turn_flip n]
theorem turn_turn : ∀ (n : Nat) (l : List UInt8) (k b : Nat), Mark.turnL n (Mark.turnL n l k b) k b = l
  | 0, _, _, _ => rfl
  | n + 1, l, k, b => by
    rw [Mark.turnL, Mark.turnL]
    by_cases c : b / 2147483648 = 1
    · rw [if_pos c, if_pos c, turn_flip n, turn_flip n, turn_flip n, flip_flip, turn_turn n]
    · rw [if_neg c, if_neg c, turn_turn n]
theorem turn_zero : ∀ (n : Nat) (l : List UInt8) (k : Nat), Mark.turnL n l k 0 = l
  | 0, _, _ => rfl
  | n + 1, l, k => by
    rw [Mark.turnL, if_neg (by decide)]
    exact turn_zero n l (k + 1)
theorem turn_same (l : List UInt8) (k b : Nat) (hk : k + 32 ≤ 8 * l.length) (hb : b < 4294967296) : Mark.turnL 32 l k b = l ↔ b = 0 := by
  constructor
  · intro h
    have h2 := turn_vec 32 l k b hb
    rw [h] at h2
    have hz := flips_told (l.map UInt8.toBitVec) k 0#32 (BitVec.ofNat 32 b) (by rw [List.length_map]; exact hk) (by rw [← h2])
    have hz2 := congrArg BitVec.toNat hz
    rw [BitVec.toNat_ofNat] at hz2
    simp at hz2
    omega
  · rintro rfl
    exact turn_zero 32 l k
end Go.Proofs.Ytmaojfeikbdkhaa.FP
namespace Go.Proofs.Ytmaojfeikbdkhaa.DP
open Go.RowKit Go.Proofs.YtmaojfeikbdkhaaW.PrintWords Go.Proofs.YtmaojfeikbdkhaaW.PrintLast Go.Proofs.Ytmaojfeikbdkhaa.PAll Go.Proofs.Ytmaojfeikbdkhaa.PB

abbrev W := S47
/-- One write that is done, and all of a list. -/
def wr1 (s : List ByteArray) (x : W) : List ByteArray := if 0 ≤ x.f0 ∧ x.f0 < (s.length : Int) then s.set x.f0.toNat x.f1 else s
def wrs (l : List W) (s : List ByteArray) : List ByteArray := l.foldl wr1 s
theorem wr1_length (s : List ByteArray) (x : W) : (wr1 s x).length = s.length := by
  unfold wr1
  split
  · simp
  · rfl
theorem wrs_length (l : List W) : ∀ s : List ByteArray, (wrs l s).length = s.length := by
  induction l with
  | nil => intro s; rfl
  | cons x l ih =>
    intro s
    show (wrs l (wr1 s x)).length = _
    rw [ih, wr1_length]
theorem done_loop (l0 : List ByteArray) (l1 : List W) (a2 : Int) (a3 : Bool) (n : Nat) (hn : n ≤ l1.length) (hl : l1.length ≤ 9223372036854775807) :
    ∀ (m i : Nat) (s : List ByteArray) (k : Nat), i + m = n → m < k → s.length = l0.length → disk_done.l0 k s n i l0 l1 a2 a3 = some (wrs ((l1.take n).drop i) s)
  | 0, i, s, k, hi, hk, _ => by
    obtain ⟨k, rfl⟩ := succ_of hk
    rw [disk_done.l0, if_neg (by omega), List.drop_eq_nil_of_le (by rw [List.length_take]; omega)]
    rfl
  | m + 1, i, s, k, hi, hk, hs => by
    obtain ⟨k, rfl⟩ := succ_of hk
    have hx : (l1.take n).drop i = rd_T47 l1 (i : Int) :: (l1.take n).drop (i + 1) := by
      rw [List.drop_eq_getElem_cons (by rw [List.length_take]; omega), List.getElem_take]
      unfold rd_T47
      rw [Int.toNat_natCast, List.getD_eq_getElem?_getD, List.getElem?_eq_getElem (by omega)]
      rfl
    rw [disk_done.l0, if_pos (by omega), if_pos (by omega), if_pos (by omega), hx]
    rw [wrap_succ (n := n) (by omega) (by omega)]
    generalize rd_T47 l1 (i : Int) = x
    show _ = some (wrs _ (wr1 s x))
    unfold disk_has.f wr1
    by_cases h0 : x.f0 ≥ 0
    · rw [if_pos h0, Option.bind_some]
      by_cases h1 : x.f0 < (l0.length : Int)
      · rw [if_pos (decide_eq_true h1), if_pos h0, if_pos (by omega), if_pos ⟨h0, by omega⟩]
        exact done_loop l0 l1 a2 a3 n hn hl m (i + 1) _ k (by omega) (by omega) (by rw [List.length_set, hs])
      · rw [if_neg (by simpa using h1), if_neg (by omega)]
        exact done_loop l0 l1 a2 a3 n hn hl m (i + 1) _ k (by omega) (by omega) hs
    · rw [if_neg h0, Option.bind_some, if_neg (by decide), if_neg (by omega)]
      exact done_loop l0 l1 a2 a3 n hn hl m (i + 1) _ k (by omega) (by omega) hs
theorem done_is (l0 : List ByteArray) (l1 : List W) (a2 : Int) (a3 : Bool) (n : Nat) (hn : n ≤ l1.length) (hl : l1.length ≤ 9223372036854775807) (h0 : l0.length ≤ 8796093022208) (k : Nat) (hk : n < k) :
    disk_done.f k l0 l1 a2 a3 n = some (wrs (l1.take n) l0) := by
  unfold disk_done.f slices_Clone_string_string.f
  rw [if_pos h0, Option.bind_some]
  exact done_loop l0 l1 a2 a3 n hn hl n 0 l0 k (by omega) hk rfl

theorem has_is (l0 : List ByteArray) (l1 : List W) (a2 : Int) (a3 : Bool) (i : Int) : disk_has.f l0 l1 a2 a3 i = some (decide (0 ≤ i ∧ i < (l0.length : Int))) := by
  unfold disk_has.f
  by_cases h0 : i ≥ 0
  · rw [if_pos h0]
    simp [h0]
  · rw [if_neg h0]
    simp [h0]
/-- What Put comes to. -/
def putD (l0 : List ByteArray) (l1 : List W) (a2 : Int) (a3 : Bool) (slot : Int) (s : ByteArray) : List ByteArray × List W × Int × Bool × Int :=
  if a3 = true then (l0, l1, a2, a3, 6) else if 0 ≤ slot ∧ slot < (l0.length : Int) then
    if (s.size : Int) > 1024 then (l0, l1, a2, a3, 4) else
      if a2 = 0 then (l0, l1 ++ [⟨slot, s⟩], a2, true, 6) else if a2 > 0 then (l0, l1 ++ [⟨slot, s⟩], wrap64 (a2 - 1), a3, 0) else (l0, l1 ++ [⟨slot, s⟩], a2, a3, 0)
    else (l0, l1, a2, a3, 1)
theorem put_is (l0 : List ByteArray) (l1 : List W) (a2 : Int) (a3 : Bool) (slot : Int) (s : ByteArray) (h1 : l1.length < 5864062014805) : disk_Put.f l0 l1 a2 a3 slot s = some (putD l0 l1 a2 a3 slot s) := by
  unfold disk_Put.f putD
  rw [has_is, Option.bind_some]
  have hc : api_Write_28.f l1 = some l1 := by
    unfold api_Write_28.f
    rw [if_pos (by omega)]
  rw [hc]
  simp only [Option.bind_some, if_pos h1]
  by_cases c1 : a3 = true
  · simp [c1]
  · by_cases c2 : 0 ≤ slot ∧ slot < (l0.length : Int)
    · simp only [if_neg c1, if_pos c2, decide_eq_true c2, if_true]
      by_cases c3 : (s.size : Int) > 1024
      · simp only [if_pos c3]
      · simp only [if_neg c3]
        by_cases c4 : a2 = 0
        · simp only [if_pos c4]
        · simp only [if_neg c4]
          by_cases c5 : a2 > 0
          · simp only [if_pos c5]
          · simp only [if_neg c5]
    · simp only [if_neg c1, if_neg c2, decide_eq_false c2]
      rfl
theorem flush_is (l0 : List ByteArray) (l1 : List W) (a2 : Int) (a3 : Bool) (hl : l1.length ≤ 9223372036854775807) (h0 : l0.length ≤ 8796093022208) (k : Nat) (hk : l1.length < k) :
    disk_Flush.f k l0 l1 a2 a3 = some (if a3 = true then (l0, l1, a2, a3, 6) else (wrs l1 l0, [], a2, a3, 0)) := by
  unfold disk_Flush.f
  rw [done_is l0 l1 a2 a3 l1.length (Nat.le_refl _) hl h0 k hk, List.take_length, Option.bind_some]
  split <;> rfl
/-- What Get comes to. -/
def getD (l0 : List ByteArray) (l1 : List W) (slot : Int) : ByteArray × Int := if 0 ≤ slot ∧ slot < (l0.length : Int) then (disk_last l1 slot (l0.getD slot.toNat ⟨#[]⟩), 0) else (⟨#[]⟩, 1)
theorem get_is (l0 : List ByteArray) (l1 : List W) (a2 : Int) (a3 : Bool) (slot : Int) : disk_Get.f l0 l1 a2 a3 slot = some (getD l0 l1 slot) := by
  unfold disk_Get.f getD
  split <;> rfl
/-- How many writes a crash keeps, and what it makes of the next one. -/
def keptN (l1 : List W) (keep : Int) : Nat := min keep.toNat l1.length
def tornW (x : W) (tear : Int) : W := ⟨x.f0, x.f1.extract 0 (min tear.toNat x.f1.size)⟩
def crashS (l0 : List ByteArray) (l1 : List W) (keep tear : Int) : List ByteArray :=
  if 0 ≤ tear then wrs ((l1.drop (keptN l1 keep)).take 1 |>.map (tornW · tear)) (wrs (l1.take (keptN l1 keep)) l0) else wrs (l1.take (keptN l1 keep)) l0
theorem crash_is (l0 : List ByteArray) (l1 : List W) (a2 : Int) (a3 : Bool) (keep tear : Int) (hl : l1.length ≤ 9223372036854775807) (h0 : l0.length ≤ 8796093022208) (k : Nat) (hk : l1.length < k) :
    disk_Crash.f k l0 l1 a2 a3 keep tear = some (crashS l0 l1 keep tear, [], -1, false) := by
  have hm : mn (mx keep 0) (l1.length : Int) = (keptN l1 keep : Int) := by
    unfold mn mx keptN
    omega
  have hle : keptN l1 keep ≤ l1.length := Nat.min_le_right _ _
  unfold disk_Crash.f crashS
  rw [hm, done_is l0 l1 a2 a3 _ hle hl h0 k (by omega), Option.bind_some]
  obtain ⟨k, rfl⟩ := succ_of (show 0 < k by omega)
  by_cases c : keptN l1 keep < l1.length
  · rw [if_pos (by omega), List.drop_eq_getElem_cons c, List.take_succ_cons, List.take_zero, List.map_cons, List.map_nil]
    have hx : rd_T47 l1 ((keptN l1 keep : Nat) : Int) = l1[keptN l1 keep] := by
      unfold rd_T47
      rw [Int.toNat_natCast, List.getD_eq_getElem?_getD, List.getElem?_eq_getElem c]
      rfl
    rw [disk_Crash.j0, hx]
    generalize l1[keptN l1 keep] = x
    by_cases c2 : 0 ≤ tear
    · rw [if_pos (decide_eq_true c2), if_pos (by omega), if_pos (by omega), has_is, Option.bind_some, if_pos c2]
      show _ = some (wr1 _ (tornW x tear), _)
      have hw : (wrs (l1.take (keptN l1 keep)) l0).length = l0.length := wrs_length _ _
      unfold wr1 tornW
      rw [hw]
      by_cases c3 : 0 ≤ x.f0 ∧ x.f0 < (l0.length : Int)
      · have ht : mn tear (x.f1.size : Int) = ((min tear.toNat x.f1.size : Nat) : Int) := by
          unfold mn
          omega
        rw [if_pos (decide_eq_true c3), ht, if_pos (by omega), if_pos (by omega), if_pos c3.1, if_pos (by omega), if_pos c3, Int.toNat_natCast]
      · rw [if_neg (by simpa using c3), if_neg c3]
    · rw [if_neg (by simpa using c2), if_neg c2]
  · have hd : List.drop (keptN l1 keep) l1 = [] := List.drop_eq_nil_of_le (by omega)
    rw [if_neg (by omega), disk_Crash.j0, if_neg (by decide), hd]
    split <;> rfl

/-- The document's example. -/
theorem shown_is (k : Nat) (hk : 10 ≤ k) : hogsheadlaw08_shown.f k = some true := by
  have hn : disk_New.f 2 = some ([⟨#[]⟩, ⟨#[]⟩], [], -1, false, 0) := rfl
  have h1 : putD [⟨#[]⟩, ⟨#[]⟩] [] (-1) false 0 ⟨#[97]⟩ = ([⟨#[]⟩, ⟨#[]⟩], [⟨0, ⟨#[97]⟩⟩], -1, false, 0) := rfl
  have h2 : wrs [(⟨0, ⟨#[97]⟩⟩ : W)] [⟨#[]⟩, ⟨#[]⟩] = [⟨#[97]⟩, ⟨#[]⟩] := rfl
  have h3 : putD [⟨#[97]⟩, ⟨#[]⟩] [] (-1) false 0 ⟨#[98, 99]⟩ = ([⟨#[97]⟩, ⟨#[]⟩], [⟨0, ⟨#[98, 99]⟩⟩], -1, false, 0) := rfl
  have h4 : crashS [⟨#[97]⟩, ⟨#[]⟩] [⟨0, ⟨#[98, 99]⟩⟩] 0 1 = [⟨#[98]⟩, ⟨#[]⟩] := by
    have e : (⟨#[98, 99]⟩ : ByteArray).extract 0 1 = ⟨#[98]⟩ := by decide
    show [(⟨#[98, 99]⟩ : ByteArray).extract 0 1, ⟨#[]⟩] = _
    rw [e]
  have h5 : getD [⟨#[98]⟩, ⟨#[]⟩] [] 0 = (⟨#[98]⟩, 0) := rfl
  unfold hogsheadlaw08_shown.f
  rw [hn]
  simp only [Option.bind_some]
  rw [put_is _ _ _ _ _ _ (by decide), h1]
  simp only [Option.bind_some]
  rw [flush_is _ _ _ _ (by decide) (by decide) k (by simp only [List.length_cons, List.length_nil]; omega), h2]
  simp only [Option.bind_some, Bool.false_eq_true, if_false]
  rw [put_is _ _ _ _ _ _ (by decide), h3]
  simp only [Option.bind_some]
  rw [crash_is _ _ _ _ _ _ (by decide) (by decide) k (by simp only [List.length_cons, List.length_nil]; omega), h4]
  simp only [Option.bind_some]
  rw [get_is, h5]
  simp only [Option.bind_some]
  obtain ⟨k, rfl⟩ := succ_of (show 0 < k by omega)
  simp only [if_true, L_toList]
  rfl
end Go.Proofs.Ytmaojfeikbdkhaa.DP
namespace Go.Proofs.Ytmaojfeikbdkhaa.DP
open Go.RowKit Go.Proofs.YtmaojfeikbdkhaaW.PrintWords Go.Proofs.YtmaojfeikbdkhaaW.PrintLast Go.Proofs.Ytmaojfeikbdkhaa.PAll Go.Proofs.Ytmaojfeikbdkhaa.PB

/-- Are two lists of texts the same? -/
theorem rsame_loop (a b : List ByteArray) (hl : a.length = b.length) (hm : a.length ≤ 9223372036854775807) :
    ∀ (m i k : Nat), i + m = a.length → m < k → hogsheadref01_Same.l0 k a b i = some (decide (a.drop i = b.drop i))
  | 0, i, k, hi, hk => by
    obtain ⟨k, rfl⟩ := succ_of hk
    rw [hogsheadref01_Same.l0, if_neg (by omega), List.drop_eq_nil_of_le (by omega), List.drop_eq_nil_of_le (by omega)]
    rfl
  | m + 1, i, k, hi, hk => by
    obtain ⟨k, rfl⟩ := succ_of (show 0 < k by omega)
    rw [hogsheadref01_Same.l0, if_pos (by omega), if_pos (by omega), if_pos (by omega), wrap_succ (n := a.length) (by omega) hm, rsame_loop a b hl hm m (i + 1) k (by omega) (by omega)]
    rw [drop_getD (l := a) (j := i) ByteArray.empty (by omega), drop_getD (l := b) (j := i) ByteArray.empty (by omega)]
    show (if (a.getD i ByteArray.empty).toList = (b.getD i ByteArray.empty).toList then _ else _) = _
    by_cases e : a.getD i ByteArray.empty = b.getD i ByteArray.empty
    · rw [if_pos (by rw [e]), e]
      simp
    · rw [if_neg (fun h => e (L_inj (by rw [← L_toList, ← L_toList]; exact h)))]
      symm
      rw [Option.some_inj, decide_eq_false_iff_not]
      intro h
      injection h with h1 h2
      exact e h1
theorem rsame_is (a b : List ByteArray) (hm : a.length ≤ 9223372036854775807) (k : Nat) (hk : a.length < k) : hogsheadref01_Same.f k a b = some (decide (a = b)) := by
  unfold hogsheadref01_Same.f
  by_cases c : (a.length : Int) = (b.length : Int)
  · rw [if_pos c, show (0 : Int) = ((0 : Nat) : Int) from rfl, rsame_loop a b (by omega) hm a.length 0 k (by omega) hk]
    simp
  · rw [if_neg c, decide_eq_false]
    intro e
    exact c (by rw [e])

noncomputable instance decW : DecidableEq W := fun _ _ => Classical.propDecidable _
theorem w_eq {x y : W} : (!(x.f0 == y.f0) || (!(x.f1.toList == y.f1.toList))) = true ↔ x ≠ y := by
  cases x with
  | mk a b =>
    cases y with
    | mk c d =>
      simp only [Bool.or_eq_true, Bool.not_eq_true', beq_eq_false_iff_ne, ne_eq, L_toList]
      constructor
      · rintro h e
        injection e with e1 e2
        rcases h with h | h
        · exact h e1
        · exact h (by rw [e2])
      · intro h
        by_cases e : a = c
        · exact .inr (fun h2 => h (by rw [e, L_inj h2]))
        · exact .inl e
theorem wsame_loop (l0 : List ByteArray) (l1 : List W) (a2 : Int) (a3 : Bool) (m0 : List ByteArray) (m1 : List W) (b2 : Int) (b3 : Bool) (hl : l1.length = m1.length) (hm : l1.length ≤ 9223372036854775807) :
    ∀ (m i k : Nat), i + m = l1.length → m < k → hogsheadref08_Same.l0 k i l0 l1 a2 a3 m0 m1 b2 b3 = some (decide (l1.drop i = m1.drop i))
  | 0, i, k, hi, hk => by
    obtain ⟨k, rfl⟩ := succ_of hk
    rw [hogsheadref08_Same.l0, if_neg (by omega), List.drop_eq_nil_of_le (by omega), List.drop_eq_nil_of_le (by omega)]
    simp
  | m + 1, i, k, hi, hk => by
    obtain ⟨k, rfl⟩ := succ_of (show 0 < k by omega)
    rw [hogsheadref08_Same.l0, if_pos (by omega), if_pos (by omega), if_pos (by omega), wrap_succ (n := l1.length) (by omega) hm, wsame_loop l0 l1 a2 a3 m0 m1 b2 b3 hl hm m (i + 1) k (by omega) (by omega)]
    rw [drop_getD (l := l1) (j := i) z47 (by omega), drop_getD (l := m1) (j := i) z47 (by omega)]
    have e1 : rd_T47 l1 (i : Int) = l1.getD i z47 := rfl
    have e2 : rd_T47 m1 (i : Int) = m1.getD i z47 := rfl
    rw [e1, e2]
    by_cases e : l1.getD i z47 = m1.getD i z47
    · rw [if_neg (fun h => (w_eq.1 h) e), e]
      simp
    · rw [if_pos (w_eq.2 e)]
      symm
      rw [Option.some_inj, decide_eq_false_iff_not]
      intro h
      injection h with h1 h2
      exact e h1
/-- Are two disks the same? -/
theorem dsame_is (l0 : List ByteArray) (l1 : List W) (a2 : Int) (a3 : Bool) (m0 : List ByteArray) (m1 : List W) (b2 : Int) (b3 : Bool) (h0 : l0.length ≤ 9223372036854775807) (h1 : l1.length ≤ 9223372036854775807) (k : Nat) (hk : l0.length + l1.length + 2 < k) :
    hogsheadref08_Same.f k l0 l1 a2 a3 m0 m1 b2 b3 = some (decide (l0 = m0 ∧ l1 = m1 ∧ a2 = b2 ∧ a3 = b3)) := by
  unfold hogsheadref08_Same.f
  rw [rsame_is l0 m0 h0 k (by omega), Option.bind_some]
  obtain ⟨k, rfl⟩ := succ_of (show 0 < k by omega)
  by_cases c0 : l0 = m0
  · rw [if_pos (decide_eq_true c0)]
    by_cases c1 : (l1.length : Int) = (m1.length : Int)
    · rw [if_pos c1]
      by_cases c2 : a2 = b2
      · rw [if_pos c2, hogsheadref08_Same.j0]
        by_cases c3 : a3 = b3
        · rw [if_neg (by rw [c3]; simp), show (0 : Int) = ((0 : Nat) : Int) from rfl, wsame_loop _ _ _ _ _ _ _ _ (by omega) h1 l1.length 0 k (by omega) (by omega)]
          simp [c0, c2, c3]
        · rw [if_pos (by simpa using c3)]
          simp [c3]
      · rw [if_neg c2, hogsheadref08_Same.j0, if_pos rfl]
        simp [c2]
    · rw [if_neg c1, hogsheadref08_Same.j0, if_pos rfl]
      symm
      rw [Option.some_inj, decide_eq_false_iff_not]
      rintro ⟨_, e, _⟩
      exact c1 (by rw [e])
  · rw [if_neg (by simpa using c0), hogsheadref08_Same.j0, if_pos rfl]
    simp [c0]
theorem dsame_refl (l0 : List ByteArray) (l1 : List W) (a2 : Int) (a3 : Bool) (h0 : l0.length ≤ 9223372036854775807) (h1 : l1.length ≤ 9223372036854775807) (k : Nat) (hk : l0.length + l1.length + 2 < k) :
    hogsheadref08_Same.f k l0 l1 a2 a3 l0 l1 a2 a3 = some true := by
  rw [dsame_is _ _ _ _ _ _ _ _ h0 h1 k hk]
  simp
end Go.Proofs.Ytmaojfeikbdkhaa.DP
namespace Go.Proofs.Ytmaojfeikbdkhaa.DP
open Go.RowKit Go.Proofs.YtmaojfeikbdkhaaW.PrintWords Go.Proofs.YtmaojfeikbdkhaaW.PrintLast Go.Proofs.Ytmaojfeikbdkhaa.PAll Go.Proofs.Ytmaojfeikbdkhaa.PB

/-- What a burst comes to. -/
def burstD (l0 : List ByteArray) (l1 : List W) (a2 : Int) (a3 : Bool) (slot at_ : Int) (b : Nat) : List ByteArray × List W × Int × Bool × Int :=
  if 0 ≤ slot ∧ slot < (l0.length : Int) then if at_ < 0 then (l0, l1, a2, a3, 1) else if at_ > 8 * ((rdOf ByteArray.empty l0 slot).size : Int) - 32 then (l0, l1, a2, a3, 1) else (l0.set slot.toNat ⟨(Mark.turnL 32 (rdOf ByteArray.empty l0 slot).data.toList at_.toNat b).toArray⟩, l1, a2, a3, 0) else (l0, l1, a2, a3, 1)
theorem rd_small {l0 : List ByteArray} (h : ∀ x ∈ l0, x.size ≤ 140737488351232) (slot : Int) : (rdOf ByteArray.empty l0 slot).size ≤ 140737488351232 := by
  unfold rdOf
  rw [List.getD_eq_getElem?_getD]
  cases hc : l0[slot.toNat]? with
  | none => exact Nat.zero_le _
  | some x => exact h x (List.mem_of_getElem? hc)
theorem burst_is (l0 : List ByteArray) (l1 : List W) (a2 : Int) (a3 : Bool) (slot at_ : Int) (b : Nat) (hl : l0.length < 8796093022208) (hs : (rdOf ByteArray.empty l0 slot).size ≤ 140737488351232) (hb : b < 4294967296) : disk_Burst.f l0 l1 a2 a3 slot at_ b = some (burstD l0 l1 a2 a3 slot at_ b) := by
  unfold disk_Burst.f Mark.burst_f burstD
  rw [if_pos ⟨hl, by omega, by omega, by omega⟩, Int.toNat_natCast]
  by_cases c : 0 ≤ slot ∧ slot < (l0.length : Int)
  · rw [if_pos c, if_pos c]
    by_cases c2 : at_ < 0
    · rw [if_pos c2, if_pos c2]
    · rw [if_neg c2, if_neg c2]
      by_cases c3 : at_ > 8 * ((rdOf ByteArray.empty l0 slot).size : Int) - 32
      · rw [if_pos c3, if_pos c3]
      · rw [if_neg c3, if_neg c3]
  · rw [if_neg c, if_neg c]
end Go.Proofs.Ytmaojfeikbdkhaa.DP
