/- A register that is stepped bit by bit: 32 bits that stand together, turned round, are told. -/
import Derived.Test.YtabegniabilcpaaCrcMath
namespace Go.Proofs.Ytabegniabilcpaa.CM

/-- One bit put in. -/
def t1 (r : BitVec 32) (b : Bool) : BitVec 32 := s1 (r ^^^ (if b then 2147483648#32 else 0#32))
def foldT (r : BitVec 32) (l : List Bool) : BitVec 32 := l.foldl t1 r
/-- A byte's bits, the highest one first. -/
def bits8 (b : BitVec 8) : List Bool := [b.getLsbD 7, b.getLsbD 6, b.getLsbD 5, b.getLsbD 4, b.getLsbD 3, b.getLsbD 2, b.getLsbD 1, b.getLsbD 0]
theorem t1_xor (a b : BitVec 32) (x y : Bool) : t1 (a ^^^ b) (x ^^ y) = t1 a x ^^^ t1 b y := by
  unfold t1
  rw [← s1_xor]
  refine congrArg s1 ?_
  have h : (if (x ^^ y) = true then 2147483648#32 else 0#32) = (if x = true then 2147483648#32 else 0#32) ^^^ (if y = true then 2147483648#32 else 0#32) := by cases x <;> cases y <;> decide
  rw [h, BitVec.xor_assoc, BitVec.xor_assoc, ← BitVec.xor_assoc b, BitVec.xor_comm b (if x = true then _ else _), BitVec.xor_assoc]
theorem t1_inj {a b : BitVec 32} {x : Bool} (h : t1 a x = t1 b x) : a = b := xor_right_inj (s1_inj h)
theorem foldT_append (r : BitVec 32) (l m : List Bool) : foldT r (l ++ m) = foldT (foldT r l) m := by unfold foldT; rw [List.foldl_append]
theorem foldT_inj : ∀ (l : List Bool) {a b : BitVec 32}, foldT a l = foldT b l → a = b
  | [], _, _, h => h
  | x :: l, a, b, h => t1_inj (foldT_inj l (a := t1 a x) (b := t1 b x) h)
theorem foldT_xor : ∀ (l m : List Bool) (a b : BitVec 32), l.length = m.length → foldT (a ^^^ b) (List.zipWith (· ^^ ·) l m) = foldT a l ^^^ foldT b m
  | [], [], _, _, _ => rfl
  | x :: l, y :: m, a, b, h => by
    have h' : l.length = m.length := by simpa using h
    show foldT (t1 (a ^^^ b) (x ^^ y)) (List.zipWith (· ^^ ·) l m) = _
    rw [t1_xor]
    exact foldT_xor l m _ _ h'
  | [], _ :: _, _, _, h => by simp at h
  | _ :: _, [], _, _, h => by simp at h
theorem foldT_byte0 : ∀ b : BitVec 8, foldT 0#32 (bits8 b) = s8 (top b) := by decide +kernel
theorem stepB_bits (r : BitVec 32) (b : BitVec 8) : stepB r b = foldT r (bits8 b) := by
  have h := foldT_xor [false, false, false, false, false, false, false, false] (bits8 b) r 0#32 rfl
  rw [BitVec.xor_zero, foldT_byte0] at h
  have h1 : List.zipWith (· ^^ ·) [false, false, false, false, false, false, false, false] (bits8 b) = bits8 b := by
    unfold bits8
    simp only [List.zipWith_cons_cons, List.zipWith_nil_left, Bool.false_xor]
  have h0 : foldT r [false, false, false, false, false, false, false, false] = s8 r := by
    unfold foldT s8 t1
    simp only [List.foldl_cons, List.foldl_nil, Bool.false_eq_true, if_false, BitVec.xor_zero]
  rw [h1, h0] at h
  rw [h]
  unfold stepB
  rw [s8_xor]
def bitsOf (l : List (BitVec 8)) : List Bool := l.flatMap bits8
theorem bitsOf_length : ∀ l : List (BitVec 8), (bitsOf l).length = 8 * l.length
  | [] => rfl
  | b :: l => by
    show (bits8 b ++ bitsOf l).length = _
    rw [List.length_append, bitsOf_length l, List.length_cons]
    show 8 + _ = _
    omega
theorem bitsOf_append (l m : List (BitVec 8)) : bitsOf (l ++ m) = bitsOf l ++ bitsOf m := by unfold bitsOf; rw [List.flatMap_append]
theorem foldB_bits : ∀ (l : List (BitVec 8)) (r : BitVec 32), foldB r l = foldT r (bitsOf l)
  | [], _ => rfl
  | b :: l, r => by
    show foldB (stepB r b) l = foldT r (bits8 b ++ bitsOf l)
    rw [foldT_append, stepB_bits, foldB_bits l]
/-- The first n bits of a register, the highest one first. -/
def bitsN : Nat → BitVec 32 → List Bool
  | 0, _ => []
  | n + 1, r => r.msb :: bitsN n (r <<< 1)
theorem bitsN_length : ∀ n r, (bitsN n r).length = n
  | 0, _ => rfl
  | n + 1, r => by rw [bitsN, List.length_cons, bitsN_length n]
theorem t1_own (r : BitVec 32) : t1 r r.msb = r <<< 1 := by
  unfold t1
  cases h : r.msb
  · rw [if_neg (by decide), BitVec.xor_zero]
    unfold s1
    rw [h, if_neg (by decide)]
  · rw [if_pos rfl]
    unfold s1
    have h2 : (r ^^^ 2147483648#32).msb = false := by
      rw [BitVec.msb_xor, h]
      decide
    rw [h2, if_neg (by decide), BitVec.shiftLeft_xor_distrib]
    have h3 : (2147483648#32 : BitVec 32) <<< 1 = 0#32 := by decide
    rw [h3, BitVec.xor_zero]
theorem foldT_own : ∀ n r, foldT r (bitsN n r) = r <<< n
  | 0, r => by simp [bitsN, foldT]
  | n + 1, r => by
    show foldT (t1 r r.msb) (bitsN n (r <<< 1)) = _
    rw [t1_own, foldT_own n, ← BitVec.shiftLeft_add, Nat.add_comm]
/-- A burst is told. -/
theorem burst_told (p X q : List Bool) (a r : BitVec 32) (hX : X.length = 32) (h : foldT a (p ++ X ++ q) = foldT a (p ++ List.zipWith (· ^^ ·) X (bitsN 32 r) ++ q)) : r = 0#32 := by
  rw [foldT_append, foldT_append, foldT_append, foldT_append] at h
  have h1 := foldT_inj q h
  have h2 := foldT_xor X (bitsN 32 r) (foldT a p) 0#32 (by rw [hX, bitsN_length])
  rw [BitVec.xor_zero, ← h1] at h2
  have h3 : foldT 0#32 (bitsN 32 r) = 0#32 := by
    have := congrArg (foldT (foldT a p) X ^^^ ·) h2
    simp only [← BitVec.xor_assoc, BitVec.xor_self, BitVec.zero_xor] at this
    exact this.symm
  have h4 : foldT r (bitsN 32 r) = 0#32 := by
    rw [foldT_own]
    apply BitVec.eq_of_toNat_eq
    simp only [BitVec.toNat_shiftLeft, Nat.shiftLeft_eq, BitVec.toNat_ofNat]
    omega
  exact foldT_inj _ (h4.trans h3.symm)
theorem mod_left (f : Bool → Bool) : ∀ (l m : List Bool) (k : Nat), k < l.length → (l ++ m).modify k f = l.modify k f ++ m
  | [], _, _, h => absurd h (Nat.not_lt_zero _)
  | _ :: _, _, 0, _ => rfl
  | x :: l, m, k + 1, h => congrArg (x :: ·) (mod_left f l m k (Nat.lt_of_succ_lt_succ h))
theorem mod_right (f : Bool → Bool) : ∀ (l m : List Bool) (k : Nat), (l ++ m).modify (l.length + k) f = l ++ m.modify k f
  | [], m, k => by rw [List.length_nil, Nat.zero_add]; rfl
  | x :: l, m, k => by
    rw [List.length_cons, show l.length + 1 + k = (l.length + k) + 1 by omega]
    exact congrArg (x :: ·) (mod_right f l m k)
/-- Bits turned round from the k-th on. -/
def xorAt : List Bool → Nat → List Bool → List Bool
  | bs, _, [] => bs
  | bs, k, m :: ms => xorAt (if m then bs.modify k not else bs) (k + 1) ms
theorem xorAt_mid : ∀ (m p X q : List Bool), X.length = m.length → xorAt (p ++ X ++ q) p.length m = p ++ List.zipWith (· ^^ ·) X m ++ q
  | [], p, X, q, h => by
    have : X = [] := List.length_eq_zero_iff.mp h
    subst this
    rfl
  | m :: ms, p, [], q, h => by simp at h
  | m :: ms, p, x :: X, q, h => by
    have h' : X.length = ms.length := by simpa using h
    have e : (if m then (p ++ x :: X ++ q).modify p.length not else (p ++ x :: X ++ q)) = (p ++ [x ^^ m]) ++ X ++ q := by
      cases m
      · simp
      · have h2 := mod_right not p (x :: X ++ q) 0
        rw [Nat.add_zero] at h2
        rw [if_pos rfl, List.append_assoc, h2]
        simp
    unfold xorAt
    rw [e, show p.length + 1 = (p ++ [x ^^ m]).length by simp, xorAt_mid ms (p ++ [x ^^ m]) X q h']
    simp
/-- A bit of bytes turned round. -/
def flipAt (l : List (BitVec 8)) (k : Nat) : List (BitVec 8) := l.modify (k / 8) (· ^^^ (128#8 >>> (k % 8)))
theorem flipAt_length (l : List (BitVec 8)) (k : Nat) : (flipAt l k).length = l.length := by unfold flipAt; rw [List.length_modify]
theorem bits8_flip : ∀ (b : BitVec 8) (j : Fin 8), bits8 (b ^^^ (128#8 >>> j.val)) = (bits8 b).modify j.val not := by decide +kernel
theorem bitsOf_flip : ∀ (l : List (BitVec 8)) (k : Nat), bitsOf (flipAt l k) = (bitsOf l).modify k not
  | [], k => by simp [bitsOf, flipAt]
  | b :: l, k => by
    by_cases c : k < 8
    · have e : flipAt (b :: l) k = (b ^^^ (128#8 >>> k)) :: l := by
        unfold flipAt
        rw [show k / 8 = 0 by omega, show k % 8 = k by omega]
        rfl
      rw [e]
      show bits8 _ ++ bitsOf l = (bits8 b ++ bitsOf l).modify k not
      rw [bits8_flip b ⟨k, c⟩, mod_left not _ _ _ (by show k < 8; exact c)]
    · have e : flipAt (b :: l) k = b :: flipAt l (k - 8) := by
        unfold flipAt
        rw [show k / 8 = (k - 8) / 8 + 1 by omega, show k % 8 = (k - 8) % 8 by omega]
        rfl
      rw [e]
      show bits8 b ++ bitsOf (flipAt l (k - 8)) = (bits8 b ++ bitsOf l).modify k not
      have h2 := mod_right not (bits8 b) (bitsOf l) (k - 8)
      rw [show (bits8 b).length + (k - 8) = k from by show 8 + (k - 8) = k; omega] at h2
      rw [bitsOf_flip l (k - 8), h2]
/-- What the first n bits of a register turn round, from the k-th bit on. -/
def flips : Nat → List (BitVec 8) → Nat → BitVec 32 → List (BitVec 8)
  | 0, l, _, _ => l
  | n + 1, l, k, r => flips n (if r.msb then flipAt l k else l) (k + 1) (r <<< 1)
theorem flips_length : ∀ n l k r, (flips n l k r).length = l.length
  | 0, _, _, _ => rfl
  | n + 1, l, k, r => by
    rw [flips, flips_length n]
    split
    · rw [flipAt_length]
    · rfl
theorem bitsOf_flips : ∀ n l k r, bitsOf (flips n l k r) = xorAt (bitsOf l) k (bitsN n r)
  | 0, _, _, _ => rfl
  | n + 1, l, k, r => by
    rw [flips, bitsOf_flips n, bitsN, xorAt]
    congr 1
    cases r.msb
    · rfl
    · rw [if_pos rfl, if_pos rfl, bitsOf_flip]
/-- Bytes of which 32 bits were turned round leave the same register only where none was. -/
theorem flips_told (l : List (BitVec 8)) (k : Nat) (a r : BitVec 32) (hk : k + 32 ≤ 8 * l.length) (h : foldB a (flips 32 l k r) = foldB a l) : r = 0#32 := by
  rw [foldB_bits, foldB_bits, bitsOf_flips] at h
  have hlen := bitsOf_length l
  have e : bitsOf l = (bitsOf l).take k ++ ((bitsOf l).drop k).take 32 ++ ((bitsOf l).drop k).drop 32 := by
    rw [List.append_assoc, List.take_append_drop, List.take_append_drop]
  have hp : ((bitsOf l).take k).length = k := by rw [List.length_take]; omega
  have hX : (((bitsOf l).drop k).take 32).length = 32 := by rw [List.length_take, List.length_drop]; omega
  generalize (bitsOf l).take k = p at *
  generalize ((bitsOf l).drop k).take 32 = X at *
  generalize ((bitsOf l).drop k).drop 32 = q at *
  rw [e] at h
  subst hp
  rw [xorAt_mid _ p X q (by rw [hX, bitsN_length])] at h
  exact burst_told p X q a r hX h.symm
end Go.Proofs.Ytabegniabilcpaa.CM
