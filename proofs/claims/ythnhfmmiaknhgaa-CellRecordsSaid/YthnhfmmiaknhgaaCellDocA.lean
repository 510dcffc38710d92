/- Small facts for the pure statements: wrapping, a list from its j-th element on, loops by rounds. A register of 32 bits, stepped bit by bit and byte by byte: it is linear, two unlike registers stay unlike, a byte may be stepped by a table. The crc package's sum, and the reference's, as registers of 32 bits. The crc package's functions, and the reference's, as registers of 32 bits. What opens, of the program and of the reference. The vlq package's numbers and texts, and the reference's, as lists of bytes. A disk over lists alone. The program's disk over lists. The document's disk over lists. The document's crash over lists. What a cell's functions come to, over lists alone, of the program and of the document. What a cell reads, and what a write makes of its disk, over lists alone, of the program and of the document. What the laws of the cells need, over lists alone. -/
import Derived.Test.YthnhfmmiaknhgaaWMore
import Derived.Lib.Strings
import Derived.Lib.SmallJoins
import Derived.WideShapes
import Derived.Laws.BitsAllLaws
import Derived.Test.YthnhfmmiaknhgaaPAllx17
import Derived.Test.YthnhfmmiaknhgaaPAllx18
import Derived.Test.YthnhfmmiaknhgaaPAllx20
import Derived.Test.YthnhfmmiaknhgaaPAllx19
import Derived.Test.YthnhfmmiaknhgaaCellLaws
namespace Go.Proofs.Ythnhfmmiaknhgaa.CP
open Go.RowKit Go.Proofs.YthnhfmmiaknhgaaW.PrintWords Go.Proofs.YthnhfmmiaknhgaaW.PrintLast Go.Proofs.Ythnhfmmiaknhgaa.PAll Go.Proofs.Ythnhfmmiaknhgaa.PB Go.Proofs.Ythnhfmmiaknhgaa.CM

/-- One round of the reference: a bit of the byte's is put in. -/
theorem ref_round (k : Nat) (r : BitVec 32) (c : BitVec 8) (i : Nat) (hi : i < 8) : hogsheadref02_Step.l0 (k + 1) ((r.toNat : Int)) (c.toNat : Int) i = hogsheadref02_Step.l0 k (((s1 (r ^^^ (if c.msb then 2147483648#32 else 0#32))).toNat : Int)) ((c <<< 1).toNat : Int) ((i + 1 : Nat) : Int) := by
  have hr := r.isLt
  have hc := c.isLt
  simp only [hogsheadref02_Step.l0]
  rw [if_pos (by omega), wrap_succ (n := 8) hi (by omega)]
  have e0 : (2147483648 : Int) = ((2147483648 : Nat) : Int) := rfl
  have e1 : (128 : Int) = ((128 : Nat) : Int) := rfl
  rw [e0, e1, tdiv_nat, tdiv_nat, tmod_nat, tmod_nat]
  have hb : ((c.toNat % 128 : Nat) : Int) * (2 : Int) % (256 : Int) = ((c <<< 1).toNat : Int) := by rw [BitVec.toNat_shiftLeft, Nat.shiftLeft_eq]; omega
  rw [hb]
  have mc : c.msb = decide (128 ≤ c.toNat) := by rw [BitVec.msb_eq_decide]
  have mr : r.msb = decide (2147483648 ≤ r.toNat) := by rw [BitVec.msb_eq_decide]
  have mx : (r ^^^ (if c.msb then 2147483648#32 else 0#32)).msb = (r.msb != c.msb) := by
    rw [BitVec.msb_xor]
    cases c.msb <;> cases r.msb <;> rfl
  have sx : (r ^^^ (if c.msb then 2147483648#32 else 0#32)) <<< 1 = r <<< 1 := by
    rw [BitVec.shiftLeft_xor_distrib]
    have : (if c.msb then 2147483648#32 else 0#32) <<< 1 = 0#32 := by cases c.msb <;> rfl
    rw [this, BitVec.xor_zero]
  have hx : ((r.toNat % 2147483648 : Nat) : Int) * (2 : Int) % (4294967296 : Int) = ((r <<< 1).toNat : Int) := by rw [BitVec.toNat_shiftLeft, Nat.shiftLeft_eq]; omega
  have a1 : ((r.toNat / 2147483648 : Nat) : Int) % 4294967296 = ((r.toNat / 2147483648 : Nat) : Int) := by omega
  have a2 : ((c.toNat / 128 : Nat) : Int) % 256 = ((c.toNat / 128 : Nat) : Int) := by omega
  rw [hx, a1, a2, u32_xor_nat _ _ (by omega) (by omega)]
  have ht : ((((r.toNat / 2147483648) ^^^ (c.toNat / 128) : Nat) : Int) = 1) ↔ (r.msb != c.msb) = true := by
    rw [mr, mc]
    by_cases h1 : 2147483648 ≤ r.toNat
    · have q1 : r.toNat / 2147483648 = 1 := by omega
      by_cases h2 : 128 ≤ c.toNat
      · have q2 : c.toNat / 128 = 1 := by omega
        rw [q1, q2]; simp [h1, h2]
      · have q2 : c.toNat / 128 = 0 := by omega
        rw [q1, q2]; simp [h1, h2]
    · have q1 : r.toNat / 2147483648 = 0 := by omega
      by_cases h2 : 128 ≤ c.toNat
      · have q2 : c.toNat / 128 = 1 := by omega
        rw [q1, q2]; simp [h1, h2]
      · have q2 : c.toNat / 128 = 0 := by omega
        rw [q1, q2]; simp [h1, h2]
  unfold s1
  rw [mx, sx]
  by_cases hm : (r.msb != c.msb) = true
  · rw [if_pos (ht.2 hm), if_pos hm]
    have e : (79764919 : Int) = (poly.toNat : Int) := by decide
    rw [e, xor32]
  · rw [if_neg (fun h => hm (ht.1 h)), if_neg hm]
theorem ref_end (k : Nat) (x y : Int) : hogsheadref02_Step.l0 (k + 1) x y (8 : Nat) = some x := by
  simp only [hogsheadref02_Step.l0]
  rw [if_neg (by omega)]
theorem ref_step (k : Nat) (hk : 9 ≤ k) (r : BitVec 32) (b : BitVec 8) : hogsheadref02_Step.f k ((r.toNat : Int)) (b.toNat : Int) = some (((stepB r b).toNat : Int)) := by
  obtain ⟨k, rfl⟩ : ∃ m, k = m + 9 := ⟨k - 9, by omega⟩
  unfold hogsheadref02_Step.f
  have h := ref_round (k + 8) r b 0 (by omega)
  refine h.trans ?_
  rw [ref_round (k + 7) _ _ 1 (by omega), ref_round (k + 6) _ _ 2 (by omega), ref_round (k + 5) _ _ 3 (by omega), ref_round (k + 4) _ _ 4 (by omega), ref_round (k + 3) _ _ 5 (by omega), ref_round (k + 2) _ _ 6 (by omega), ref_round (k + 1) _ _ 7 (by omega), ref_end, ← bitsIn_step]
  rfl
theorem ref_sum_l0 (s : ByteArray) (hs : s.size ≤ 9223372036854775807) : ∀ (d j : Nat), j ≤ s.size → s.size - j = d → ∀ (k : Nat) (r : BitVec 32), d + 9 < k → hogsheadref02_Sum.l0 k s ((r.toNat : Int)) j = some (((foldU r ((L s).drop j) ^^^ ones).toNat : Int)) := by
  intro d
  induction d with
  | zero =>
    intro j hj hd k r hk
    obtain ⟨k, rfl⟩ := succ_of (show 0 < k by omega)
    simp only [hogsheadref02_Sum.l0]
    rw [if_neg (by omega), List.drop_of_length_le (by rw [L_length]; omega)]
    have e : (4294967295 : Int) = (ones.toNat : Int) := rfl
    rw [e, xor32]
    rfl
  | succ d ih =>
    intro j hj hd k r hk
    have hlt : j < s.size := by omega
    obtain ⟨k, rfl⟩ := succ_of (show 0 < k by omega)
    simp only [hogsheadref02_Sum.l0]
    rw [if_pos (by omega), if_pos (by omega), bt_L s j hlt, wrap_succ hlt hs]
    rw [show (((L s)[j]'(by rw [L_length]; exact hlt)).toNat : Int) = (((L s)[j]'(by rw [L_length]; exact hlt)).toBitVec.toNat : Int) from rfl, ref_step k (by omega)]
    simp only [Option.bind_some]
    rw [ih (j + 1) (by omega) (by omega) k _ (by omega), List.drop_eq_getElem_cons (i := j) (by rw [L_length]; exact hlt)]
    rfl
theorem ref_sum (s : ByteArray) (hs : s.size ≤ 9223372036854775807) (k : Nat) (hk : s.size + 9 < k) : hogsheadref02_Sum.f k s = some (((sumB (L s)).toNat : Int)) := by
  have h := ref_sum_l0 s hs s.size 0 (by omega) (by omega) k ones hk
  rw [List.drop_zero] at h
  exact h
end Go.Proofs.Ythnhfmmiaknhgaa.CP
namespace Go.Proofs.Ythnhfmmiaknhgaa.CP
open Go.RowKit Go.Proofs.YthnhfmmiaknhgaaW.PrintWords Go.Proofs.YthnhfmmiaknhgaaW.PrintLast Go.Proofs.Ythnhfmmiaknhgaa.PAll Go.Proofs.Ythnhfmmiaknhgaa.PB Go.Proofs.Ythnhfmmiaknhgaa.CM

/-! the reference -/
theorem ref_seal (s : ByteArray) (hs : s.size ≤ 9223372036854775803) (k : Nat) (hk : s.size + 9 < k) : ∃ f, hogsheadref02_Seal.f k s = some f ∧ L f = sealed (L s) := by
  unfold hogsheadref02_Seal.f
  rw [ref_sum s (by omega) k hk]
  simp only [Option.bind_some]
  rw [size_nums]
  rw [if_pos (by simp; omega)]
  refine ⟨_, rfl, ?_⟩
  rw [L_append, L_nums]
  unfold sealed
  congr 1
  have hv := (sumB (L s)).isLt
  generalize sumB (L s) = v at *
  have e3 : (16777216 : Int) = ((16777216 : Nat) : Int) := rfl
  have e2 : (65536 : Int) = ((65536 : Nat) : Int) := rfl
  have e1 : (256 : Int) = ((256 : Nat) : Int) := rfl
  have h0 : (Int.tdiv ((v.toNat : Int)) 16777216 % 4294967296 % 256).toNat = v.toNat / 16777216 % 256 := by rw [e3, tdiv_nat]; omega
  have h1 : (Int.tdiv ((v.toNat : Int)) 65536 % 4294967296 % 256).toNat = v.toNat / 65536 % 256 := by rw [e2, tdiv_nat]; omega
  have h2 : (Int.tdiv ((v.toNat : Int)) 256 % 4294967296 % 256).toNat = v.toNat / 256 % 256 := by rw [e1, tdiv_nat]; omega
  have h3 : (Int.tmod ((v.toNat : Int)) 256 % 256).toNat = v.toNat % 256 := by rw [e1, tmod_nat]; omega
  simp only [List.map_cons, List.map_nil, h0, h1, h2, h3, ofNat_mod]
  rfl
end Go.Proofs.Ythnhfmmiaknhgaa.CP
namespace Go.Proofs.Ythnhfmmiaknhgaa.CP
open Go.RowKit Go.Proofs.YthnhfmmiaknhgaaW.PrintWords Go.Proofs.YthnhfmmiaknhgaaW.PrintLast Go.Proofs.Ythnhfmmiaknhgaa.PAll Go.Proofs.Ythnhfmmiaknhgaa.PB Go.Proofs.Ythnhfmmiaknhgaa.CM

theorem ref_open (f : ByteArray) (h : f.size ≤ 9223372036854775807) (k : Nat) (hk : f.size + 9 < k) : ∃ s e, hogsheadref02_Open.f k f = some (s, e) ∧ L s = (opened (L f)).1 ∧ e = (opened (L f)).2 := by
  unfold hogsheadref02_Open.f opened
  rw [L_length]
  by_cases h4 : f.size < 4
  · rw [if_pos (by omega), if_pos h4]
    exact ⟨_, _, rfl, rfl, rfl⟩
  · have hw : wrap64 ((f.size : Int) - 4) = (f.size : Int) - 4 := wrap_in (by unfold InR; omega)
    have et : ((f.size : Int) - 4).toNat = f.size - 4 := by omega
    have hsz := size_le_upto f (f.size - 4) (by omega)
    rw [if_neg (by omega), if_neg h4, hw, if_pos (by omega), if_pos (by omega), et]
    obtain ⟨q, hq, hL⟩ := ref_seal (f.extract 0 (f.size - 4)) (by omega) k (by omega)
    rw [hq]
    simp only [Option.bind_some]
    rw [L_toList, L_toList, hL, L_upto]
    by_cases hc : sealed ((L f).take (f.size - 4)) = L f
    · rw [if_pos hc, if_pos hc]
      exact ⟨_, _, rfl, L_upto _ _, rfl⟩
    · rw [if_neg hc, if_neg hc]
      exact ⟨_, _, rfl, rfl, rfl⟩
end Go.Proofs.Ythnhfmmiaknhgaa.CP
namespace Go.Proofs.Ythnhfmmiaknhgaa.VP
open Go.RowKit Go.Proofs.YthnhfmmiaknhgaaW.PrintWords Go.Proofs.YthnhfmmiaknhgaaW.PrintLast Go.Proofs.Ythnhfmmiaknhgaa.PAll Go.Proofs.Ythnhfmmiaknhgaa.PB

/-! the reference -/
theorem rtake_l0 (s : ByteArray) (hs : s.size ≤ 9223372036854775807) : ∀ (d j : Nat), j ≤ s.size → s.size - j = d → ∀ (k v : Nat), d < k →
    hogsheadref01_TakeNum.l0 k s (v : Int) j = some (((tk v ((L s).drop j)).1 : Int), B (tk v ((L s).drop j)).2.1, (tk v ((L s).drop j)).2.2) := by
  intro d
  induction d with
  | zero =>
    intro j hj hd k v hk
    obtain ⟨k, rfl⟩ := succ_of hk
    simp only [hogsheadref01_TakeNum.l0]
    rw [if_neg (by omega), List.drop_of_length_le (by rw [L_length]; omega)]
    rfl
  | succ d ih =>
    intro j hj hd k v hk
    have hlt : j < s.size := by omega
    have hlt' : j < (L s).length := by rw [L_length]; exact hlt
    obtain ⟨k, rfl⟩ := succ_of hk
    simp only [hogsheadref01_TakeNum.l0]
    rw [if_pos (by omega), List.drop_eq_getElem_cons hlt']
    simp only [tk]
    by_cases hv : v > 144115188075855871
    · rw [if_pos (by omega), if_pos hv]
      rfl
    · have hc := ((L s)[j]).toNat_lt
      rw [if_neg (by omega), if_neg hv, if_pos (by omega), bt_L s j hlt, wrap_succ hlt hs]
      have e0 : Int.tmod ((L s)[j].toNat : Int) 128 = (((L s)[j].toNat % 128 : Nat) : Int) := by rw [Int.tmod_eq_emod_of_nonneg (by omega)]; omega
      have e1 : IntKind.u64.wrap ((v : Int) * 128) = ((v * 128 : Nat) : Int) := by rw [u64_in (by omega)]; omega
      have e3 : IntKind.u64.wrap (((v * 128 : Nat) : Int) + (((L s)[j].toNat % 128 : Nat) : Int)) = ((v * 128 + (L s)[j].toNat % 128 : Nat) : Int) := by rw [u64_in (by omega)]; omega
      rw [e0, e1, u64_in (x := (((L s)[j].toNat % 128 : Nat) : Int)) (by omega), e3]
      by_cases h8 : (L s)[j].toNat < 128
      · rw [if_pos (by omega), if_pos h8, if_pos (by omega), if_pos (by omega), Int.toNat_natCast, from_B]
        have e2 : (L s)[j].toNat % 128 = (L s)[j].toNat := by omega
        rw [e2]
      · rw [if_neg (by omega), if_neg h8]
        exact ih (j + 1) (by omega) (by omega) k _ (by omega)
theorem rtake_num (s : ByteArray) (hs : s.size ≤ 9223372036854775807) (k : Nat) (hk : s.size < k) :
    hogsheadref01_TakeNum.f k s = some (((takeN (L s)).1 : Int), B (takeN (L s)).2.1, (takeN (L s)).2.2) := by
  unfold hogsheadref01_TakeNum.f takeN
  have hl := L_length s
  have h0 := rtake_l0 s hs s.size 0 (by omega) (by omega) k 0 hk
  rw [List.drop_zero] at h0
  have hb := bt_L s 0
  cases hL : L s with
  | nil =>
    rw [hL, List.length_nil] at hl
    rw [if_pos (by omega)]
    rfl
  | cons c l =>
    rw [hL, List.length_cons] at hl
    have hb := hb (by omega)
    simp only [hL, List.getElem_cons_zero] at hb
    rw [if_neg (by omega), if_pos (by omega), show bt s 0 = (c.toNat : Int) from hb]
    simp only
    by_cases h : c.toNat = 128
    · rw [if_pos (by omega), if_pos h]
      rfl
    · rw [if_neg (by omega), if_neg h, ← hL]
      exact h0

theorem rtake_text (s : ByteArray) (most : Int) (hm : InR most) (hs : s.size ≤ 9223372036854775807) (k : Nat) (hk : s.size + 1 < k) :
    hogsheadref01_TakeText.f k s most = some (B (takeT (L s) most).1, B (takeT (L s) most).2.1, (takeT (L s) most).2.2) := by
  unfold hogsheadref01_TakeText.f takeT
  unfold InR at hm
  rw [rtake_num s hs k (by omega)]
  simp only [Option.bind_some]
  have hb := takeN_bound (L s)
  have hl := takeN_len (L s)
  rw [L_length] at hl
  generalize takeN (L s) = t at *
  by_cases he : t.2.2 = 0
  · rw [if_pos he, if_pos he]
    obtain ⟨k, rfl⟩ := succ_of (show 0 < k by omega)
    simp only [hogsheadref01_TakeText.j0, B_size]
    by_cases h1 : most < 0
    · rw [if_pos h1, if_pos trivial, if_pos (.inl h1)]
      rfl
    · rw [if_neg h1, u64_in (x := most) (by omega), u64_in (x := ((t.2.1.length : Nat) : Int)) (by omega)]
      by_cases h2 : (t.1 : Int) > most
      · rw [if_pos (decide_eq_true h2), if_pos (.inr h2)]
        rfl
      · rw [if_neg (by simpa using h2), if_neg (show ¬ (most < 0 ∨ (t.1 : Int) > most) by omega)]
        by_cases h3 : t.1 > t.2.1.length
        · rw [if_pos (by omega), if_pos h3]
          rfl
        · rw [if_neg (by omega), if_neg h3, if_pos (by omega), if_pos (by omega), Int.toNat_natCast, ← B_size, from_B, upto_B, L_B]
  · rw [if_neg he, if_neg he]
    rfl

theorem rnum_l0 : ∀ (n x k : Nat) (l : List UInt8), x < 128 ^ n → n < k → x < 18446744073709551616 → l.length + n ≤ 1000 → hogsheadref01_Num.l0 k (x : Int) (B l) = some (B (hiG n x ++ l))
  | 0, x, k, l, h, hk, _, _ => by
    obtain ⟨k, rfl⟩ := succ_of hk
    have : x = 0 := by simpa using h
    subst this
    simp only [hogsheadref01_Num.l0]
    rw [if_neg (by omega)]
    rfl
  | n + 1, x, k, l, h, hk, hx, hl => by
    obtain ⟨k, rfl⟩ := succ_of (show 0 < k by omega)
    rw [Nat.pow_succ] at h
    simp only [hogsheadref01_Num.l0]
    by_cases h0 : x = 0
    · subst h0
      rw [if_neg (by omega)]
      rfl
    · rw [if_pos (by omega)]
      simp only [Option.bind_some]
      have e0 : Int.tmod (x : Int) 128 = ((x % 128 : Nat) : Int) := by rw [Int.tmod_eq_emod_of_nonneg (by omega)]; omega
      have e1 : Int.tdiv (x : Int) 128 = ((x / 128 : Nat) : Int) := by rw [Int.tdiv_eq_ediv_of_nonneg (by omega)]; omega
      have e2 : (((x % 128 : Nat) : Int) % 256 + 128) % 256 = ((x % 128 + 128 : Nat) : Int) := by omega
      rw [e0, e1, e2, u64_in (by omega)]
      have e3 : strOfNums [((x % 128 + 128 : Nat) : Int)] = B [UInt8.ofNat (x % 128 + 128)] := by
        refine L_inj ?_
        rw [L_nums]
        rfl
      rw [e3, B_append, B_size, B_size, if_pos (by simp; omega), rnum_l0 n (x / 128) k _ (by omega) (by omega) (by omega) (by simp; omega)]
      rw [hiG, if_neg h0, List.append_assoc]
  termination_by n => n
theorem rnum_num (v : Nat) (h : v < 18446744073709551616) (k : Nat) (hk : 10 < k) : hogsheadref01_Num.f k (v : Int) = some (B (numL v)) := by
  unfold hogsheadref01_Num.f
  have e0 : Int.tmod (v : Int) 128 = ((v % 128 : Nat) : Int) := by rw [Int.tmod_eq_emod_of_nonneg (by omega)]; omega
  have e1 : Int.tdiv (v : Int) 128 = ((v / 128 : Nat) : Int) := by rw [Int.tdiv_eq_ediv_of_nonneg (by omega)]; omega
  rw [e0, e1, u64_in (by omega)]
  have e3 : strOfNums [((v % 128 : Nat) : Int) % 256] = B [UInt8.ofNat (v % 128)] := by
    refine L_inj ?_
    rw [L_nums, L_B, List.map_cons, List.map_nil]
    have : (((v % 128 : Nat) : Int) % 256).toNat = v % 128 := by omega
    rw [this]
  rw [e3, rnum_l0 10 (v / 128) k _ (by omega) hk (by omega) (by simp)]
  rfl
theorem rtext_num (s : ByteArray) (hs : s.size ≤ 9223372036854775700) (k : Nat) (hk : 10 < k) : hogsheadref01_Text.f k s = some (B (textL (L s))) := by
  unfold hogsheadref01_Text.f
  rw [u64_in (by omega), rnum_num _ (by omega) k hk]
  have hl := numL_length_le s.size
  simp only [Option.bind_some]
  rw [B_size, if_pos (by omega)]
  refine congrArg some (L_inj ?_)
  rw [L_append, L_B, L_B]
  unfold textL
  rw [L_length]

end Go.Proofs.Ythnhfmmiaknhgaa.VP
namespace Go.Proofs.Ythnhfmmiaknhgaa.CE
open Go.RowKit Go.Proofs.YthnhfmmiaknhgaaW.PrintWords Go.Proofs.YthnhfmmiaknhgaaW.PrintLast Go.Proofs.Ythnhfmmiaknhgaa.PAll Go.Proofs.Ythnhfmmiaknhgaa.PB Go.Proofs.Ythnhfmmiaknhgaa.DP Go.Proofs.Ythnhfmmiaknhgaa.VP Go.Proofs.Ythnhfmmiaknhgaa.CP

theorem rtake_is (s : ByteArray) (hs : s.size ≤ 9223372036854775807) (k : Nat) (hk : s.size + 20 < k) : hogsheadref09_Take.f k s = some (((recL (L s)).1 : Int), B (recL (L s)).2.1, (recL (L s)).2.2) := by
  obtain ⟨o, e, ho, hL, he⟩ := ref_open s hs k (by omega)
  have hlen := opened_len (L s)
  rw [← hL, L_length, L_length] at hlen
  unfold hogsheadref09_Take.f recL
  rw [ho, Option.bind_some, ← hL, ← he]
  dsimp only
  have h2 := takeN_len (L o)
  rw [L_length] at h2
  rw [rtake_num o (by omega) k (by omega), Option.bind_some, rtake_text (B (takeN (L o)).2.1) 1000 in1000 (by rw [B_size]; omega) k (by rw [B_size]; omega), Option.bind_some, L_B]
  dsimp only
  by_cases c1 : e = 0
  · by_cases c2 : (takeN (L o)).2.2 = 0
    · by_cases c3 : (takeT (takeN (L o)).2.1 1000).2.2 = 0
      · by_cases c4 : (takeT (takeN (L o)).2.1 1000).2.1 = []
        · rw [if_pos c1, if_pos c2, if_pos c3, if_neg (by rw [B_size, c4]; simp), if_pos ⟨c1, c2, c3, c4⟩]
        · have : 0 < (takeT (takeN (L o)).2.1 1000).2.1.length := List.length_pos_iff.mpr c4
          rw [if_pos c1, if_pos c2, if_pos c3, if_pos (by rw [B_size]; omega), if_neg (fun h => c4 h.2.2.2)]
          rfl
      · rw [if_pos c1, if_pos c2, if_neg c3, if_neg (fun h => c3 h.2.2.1)]
        rfl
    · rw [if_pos c1, if_neg c2, if_neg (fun h => c2 h.2.1)]
      rfl
  · rw [if_neg c1, if_neg (fun h => c1 h.1)]
    rfl
theorem rrecord_is (turn : Nat) (ht : turn < 18446744073709551616) (v : ByteArray) (k : Nat) (hk : 1200 < k) : hogsheadref09_Record.f k (turn : Int) v = some (if v.size > 1000 then ((⟨#[]⟩ : ByteArray), 4) else (B (recB turn (L v)), 0)) := by
  unfold hogsheadref09_Record.f
  by_cases c : v.size > 1000
  · rw [if_pos (by omega), if_pos c]
  · rw [if_neg (by omega), if_neg c, rnum_num turn ht k (by omega), Option.bind_some, rtext_num v (by omega) k (by omega), Option.bind_some]
    have h1 := numL_length_le turn
    have h2 := numL_length_le (L v).length
    have hs : (B (numL turn) ++ B (textL (L v))).size ≤ 1100 := by
      rw [size_append, B_size, B_size]
      unfold textL
      rw [List.length_append, L_length]
      rw [L_length] at h2
      omega
    rw [if_pos (by rw [← size_append]; omega)]
    obtain ⟨f, hf, hL⟩ := ref_seal (B (numL turn) ++ B (textL (L v))) (by omega) k (by omega)
    rw [hf, Option.bind_some]
    have : f = B (recB turn (L v)) := L_inj (by rw [hL, L_append, L_B, L_B, L_B]; rfl)
    rw [this]
end Go.Proofs.Ythnhfmmiaknhgaa.CE
