/- The vlq package's numbers and texts, and the reference's, as lists of bytes. -/
import Derived.Test.YtbmgglgacgkffaaBase
import Derived.Test.YtbmgglgacgkffaaPAllx3
import Derived.Test.YtbmgglgacgkffaaPAllx8
import Derived.Test.YtbmgglgacgkffaaPAllx6
import Derived.Test.YtbmgglgacgkffaaPAllx10
import Derived.Test.YtbmgglgacgkffaaPAllx1
import Derived.Test.YtbmgglgacgkffaaPAllx2
import Derived.Test.YtbmgglgacgkffaaPAllx5
import Derived.Test.YtbmgglgacgkffaaPAllx9
import Derived.Laws.BitsAllLaws
namespace Go.Proofs.Ytbmgglgacgkffaa.VP
open Go.RowKit Go.Proofs.YtbmgglgacgkffaaW.PrintWords Go.Proofs.YtbmgglgacgkffaaW.PrintLast Go.Proofs.Ytbmgglgacgkffaa.PAll Go.Proofs.Ytbmgglgacgkffaa.PB

/-- A text of bytes. -/
def B (l : List UInt8) : ByteArray := ⟨l.toArray⟩
theorem L_B (l : List UInt8) : L (B l) = l := rfl
theorem B_L (s : ByteArray) : B (L s) = s := L_inj rfl
theorem B_size (l : List UInt8) : (B l).size = l.length := by rw [← L_length, L_B]
theorem B_append (a b : List UInt8) : B a ++ B b = B (a ++ b) := L_inj (by rw [L_append, L_B, L_B, L_B])
theorem from_B (s : ByteArray) (a : Nat) : s.extract a s.size = B ((L s).drop a) := L_inj (by rw [L_from, L_B])
theorem upto_B (s : ByteArray) (b : Nat) : s.extract 0 b = B ((L s).take b) := L_inj (by rw [L_upto, L_B])
theorem B_nil : (⟨#[]⟩ : ByteArray) = B [] := rfl

/-! ### taking -/
/-- The number that goes on behind v. -/
def tk : Nat → List UInt8 → Nat × List UInt8 × Int
  | _, [] => (0, [], 2)
  | v, c :: l => if v > 144115188075855871 then (0, [], 3) else if c.toNat < 128 then (v * 128 + c.toNat, l, 0) else tk (v * 128 + c.toNat % 128) l
/-- The number that begins bytes, what stands behind it, and the error. -/
def takeN (l : List UInt8) : Nat × List UInt8 × Int :=
  match l with
  | [] => (0, [], 2)
  | c :: _ => if c.toNat = 128 then (0, [], 3) else tk 0 l
theorem tk_bound : ∀ (l : List UInt8) (v : Nat), (tk v l).1 < 18446744073709551616
  | [], _ => by simp [tk]
  | c :: l, v => by
    unfold tk
    have := c.toNat_lt
    split
    · simp
    · split
      · simp only
        omega
      · exact tk_bound l _
theorem takeN_bound (l : List UInt8) : (takeN l).1 < 18446744073709551616 := by
  unfold takeN
  split
  · simp
  · split
    · simp
    · exact tk_bound _ _
theorem tk_len : ∀ (l : List UInt8) (v : Nat), (tk v l).2.1.length ≤ l.length
  | [], _ => by simp [tk]
  | c :: l, v => by
    unfold tk
    split
    · simp
    · split
      · simp
      · have := tk_len l (v * 128 + c.toNat % 128)
        simp only [List.length_cons]
        omega
theorem takeN_len (l : List UInt8) : (takeN l).2.1.length ≤ l.length := by
  unfold takeN
  split
  · simp
  · split
    · simp
    · exact tk_len _ _
theorem u64_in {x : Int} (h : 0 ≤ x ∧ x ≤ 18446744073709551615) : IntKind.u64.wrap x = x := by
  rw [IntKind.wrap_u64]
  omega
theorem byte_and (c : Nat) (h : c < 256) : Go.bits .and .u8 (c : Int) 127 = ((c % 128 : Nat) : Int) := by
  rw [show (127 : Int) = ((127 : Nat) : Int) from rfl, u8_and_nat _ _ h (by omega), show (127 : Nat) = 2 ^ 7 - 1 from rfl, Nat.and_two_pow_sub_one_eq_mod]
theorem or_add (v c : Nat) (hv : v ≤ 144115188075855871) (hc : c < 128) : Go.bits .or .u64 ((v * 128 : Nat) : Int) (c : Int) = ((v * 128 + c : Nat) : Int) := by
  rw [u64_or_nat _ _ (by omega) (by omega)]
  have := Nat.two_pow_add_eq_or_of_lt (i := 7) (b := c) (by omega) v
  have e : v * 128 = 2 ^ 7 * v := by omega
  rw [e, this]
theorem take_l0 (s : ByteArray) (hs : s.size ≤ 9223372036854775807) : ∀ (d j : Nat), j ≤ s.size → s.size - j = d → ∀ (k v : Nat), d < k →
    vlq_TakeNum.l0 k s (v : Int) s.size j = some (((tk v ((L s).drop j)).1 : Int), B (tk v ((L s).drop j)).2.1, (tk v ((L s).drop j)).2.2) := by
  intro d
  induction d with
  | zero =>
    intro j hj hd k v hk
    obtain ⟨k, rfl⟩ := succ_of hk
    simp only [vlq_TakeNum.l0]
    rw [if_neg (by omega), List.drop_of_length_le (by rw [L_length]; omega)]
    rfl
  | succ d ih =>
    intro j hj hd k v hk
    have hlt : j < s.size := by omega
    have hlt' : j < (L s).length := by rw [L_length]; exact hlt
    obtain ⟨k, rfl⟩ := succ_of hk
    simp only [vlq_TakeNum.l0]
    rw [if_pos (by omega), List.drop_eq_getElem_cons hlt']
    simp only [tk]
    by_cases hv : v > 144115188075855871
    · rw [if_pos (by omega), if_pos hv]
      rfl
    · have hc := ((L s)[j]).toNat_lt
      rw [if_neg (by omega), if_neg hv, if_pos (by omega), if_pos (by omega), bt_L s j hlt, wrap_succ hlt hs]
      have e1 : IntKind.u64.wrap ((v : Int) * 128) = ((v * 128 : Nat) : Int) := by rw [u64_in (by omega)]; omega
      rw [byte_and _ hc, e1, u64_in (x := (((L s)[j].toNat % 128 : Nat) : Int)) (by omega), or_add v _ (by omega) (by omega)]
      by_cases h8 : (L s)[j].toNat < 128
      · rw [if_pos (by omega), if_pos h8, if_pos (by omega), if_pos (by omega), Int.toNat_natCast, from_B]
        have e2 : (L s)[j].toNat % 128 = (L s)[j].toNat := by omega
        rw [e2]
      · rw [if_neg (by omega), if_neg h8]
        exact ih (j + 1) (by omega) (by omega) k _ (by omega)
theorem take_num (s : ByteArray) (hs : s.size ≤ 9223372036854775807) (k : Nat) (hk : s.size < k) :
    vlq_TakeNum.f k s = some (((takeN (L s)).1 : Int), B (takeN (L s)).2.1, (takeN (L s)).2.2) := by
  unfold vlq_TakeNum.f takeN
  rw [L_toList]
  have hl := L_length s
  have h0 := take_l0 s hs s.size 0 (by omega) (by omega) k 0 hk
  rw [List.drop_zero] at h0
  have hb := bt_L s 0
  cases hL : L s with
  | nil => rw [if_pos rfl]; rfl
  | cons c l =>
    rw [hL, List.length_cons] at hl
    have hb := hb (by omega)
    simp only [hL, List.getElem_cons_zero] at hb
    rw [if_neg (by simp), if_pos (by omega), show bt s 0 = (c.toNat : Int) from hb]
    simp only
    by_cases h : c.toNat = 128
    · rw [if_pos (by omega), if_pos h]
      rfl
    · rw [if_neg (by omega), if_neg h, ← hL]
      exact h0
/-! the reference -/
theorem rtake_l0 (s : ByteArray) (hs : s.size ≤ 9223372036854775807) : ∀ (d j : Nat), j ≤ s.size → s.size - j = d → ∀ (k v : Nat), d < k →
    hogsheadref01_TakeNum.l0 k s (v : Int) j = some (((tk v ((L s).drop j)).1 : Int), B (tk v ((L s).drop j)).2.1, (tk v ((L s).drop j)).2.2) := by
  intro d
  induction d with
  | zero =>
    intro j hj hd k v hk
    obtain ⟨k, rfl⟩ := succ_of hk
    simp only [hogsheadref01_TakeNum.l0]
    rw [if_neg (by omega), List.drop_of_length_le (by rw [L_length]; omega)]
    rfl
  | succ d ih =>
    intro j hj hd k v hk
    have hlt : j < s.size := by omega
    have hlt' : j < (L s).length := by rw [L_length]; exact hlt
    obtain ⟨k, rfl⟩ := succ_of hk
    simp only [hogsheadref01_TakeNum.l0]
    rw [if_pos (by omega), List.drop_eq_getElem_cons hlt']
    simp only [tk]
    by_cases hv : v > 144115188075855871
    · rw [if_pos (by omega), if_pos hv]
      rfl
    · have hc := ((L s)[j]).toNat_lt
      rw [if_neg (by omega), if_neg hv, if_pos (by omega), bt_L s j hlt, wrap_succ hlt hs]
      have e0 : Int.tmod ((L s)[j].toNat : Int) 128 = (((L s)[j].toNat % 128 : Nat) : Int) := by rw [Int.tmod_eq_emod_of_nonneg (by omega)]; omega
      have e1 : IntKind.u64.wrap ((v : Int) * 128) = ((v * 128 : Nat) : Int) := by rw [u64_in (by omega)]; omega
      have e3 : IntKind.u64.wrap (((v * 128 : Nat) : Int) + (((L s)[j].toNat % 128 : Nat) : Int)) = ((v * 128 + (L s)[j].toNat % 128 : Nat) : Int) := by rw [u64_in (by omega)]; omega
      rw [e0, e1, u64_in (x := (((L s)[j].toNat % 128 : Nat) : Int)) (by omega), e3]
      by_cases h8 : (L s)[j].toNat < 128
      · rw [if_pos (by omega), if_pos h8, if_pos (by omega), if_pos (by omega), Int.toNat_natCast, from_B]
        have e2 : (L s)[j].toNat % 128 = (L s)[j].toNat := by omega
        rw [e2]
      · rw [if_neg (by omega), if_neg h8]
        exact ih (j + 1) (by omega) (by omega) k _ (by omega)
theorem rtake_num (s : ByteArray) (hs : s.size ≤ 9223372036854775807) (k : Nat) (hk : s.size < k) :
    hogsheadref01_TakeNum.f k s = some (((takeN (L s)).1 : Int), B (takeN (L s)).2.1, (takeN (L s)).2.2) := by
  unfold hogsheadref01_TakeNum.f takeN
  have hl := L_length s
  have h0 := rtake_l0 s hs s.size 0 (by omega) (by omega) k 0 hk
  rw [List.drop_zero] at h0
  have hb := bt_L s 0
  cases hL : L s with
  | nil =>
    rw [hL, List.length_nil] at hl
    rw [if_pos (by omega)]
    rfl
  | cons c l =>
    rw [hL, List.length_cons] at hl
    have hb := hb (by omega)
    simp only [hL, List.getElem_cons_zero] at hb
    rw [if_neg (by omega), if_pos (by omega), show bt s 0 = (c.toNat : Int) from hb]
    simp only
    by_cases h : c.toNat = 128
    · rw [if_pos (by omega), if_pos h]
      rfl
    · rw [if_neg (by omega), if_neg h, ← hL]
      exact h0

/-- The text that begins bytes, what stands behind it, and the error. -/
def takeT (l : List UInt8) (most : Int) : List UInt8 × List UInt8 × Int :=
  if (takeN l).2.2 = 0 then
    if most < 0 ∨ ((takeN l).1 : Int) > most then ([], [], 4)
    else if (takeN l).1 > (takeN l).2.1.length then ([], [], 2) else ((takeN l).2.1.take (takeN l).1, (takeN l).2.1.drop (takeN l).1, 0)
  else ([], [], (takeN l).2.2)
theorem take_text (s : ByteArray) (most : Int) (hm : InR most) (hs : s.size ≤ 9223372036854775807) (k : Nat) (hk : s.size + 1 < k) :
    vlq_TakeText.f k s most = some (B (takeT (L s) most).1, B (takeT (L s) most).2.1, (takeT (L s) most).2.2) := by
  unfold vlq_TakeText.f takeT
  unfold InR at hm
  rw [take_num s hs k (by omega)]
  simp only [Option.bind_some]
  have hb := takeN_bound (L s)
  have hl := takeN_len (L s)
  rw [L_length] at hl
  generalize takeN (L s) = t at *
  by_cases he : t.2.2 = 0
  · rw [if_pos he, if_pos he]
    obtain ⟨k, rfl⟩ := succ_of (show 0 < k by omega)
    simp only [vlq_TakeText.j0, B_size]
    by_cases h1 : most < 0
    · rw [if_pos h1, if_pos trivial, if_pos (.inl h1)]
      rfl
    · rw [if_neg h1, u64_in (x := most) (by omega), u64_in (x := ((t.2.1.length : Nat) : Int)) (by omega)]
      by_cases h2 : (t.1 : Int) > most
      · rw [if_pos (decide_eq_true h2), if_pos (.inr h2)]
        rfl
      · rw [if_neg (by simpa using h2), if_neg (show ¬ (most < 0 ∨ (t.1 : Int) > most) by omega)]
        by_cases h3 : t.1 > t.2.1.length
        · rw [if_pos (by omega), if_pos h3]
          rfl
        · rw [if_neg (by omega), if_neg h3, if_pos (by omega), if_pos (by omega), Int.toNat_natCast, ← B_size, from_B, upto_B, L_B]
  · rw [if_neg he, if_neg he]
    rfl
theorem rtake_text (s : ByteArray) (most : Int) (hm : InR most) (hs : s.size ≤ 9223372036854775807) (k : Nat) (hk : s.size + 1 < k) :
    hogsheadref01_TakeText.f k s most = some (B (takeT (L s) most).1, B (takeT (L s) most).2.1, (takeT (L s) most).2.2) := by
  unfold hogsheadref01_TakeText.f takeT
  unfold InR at hm
  rw [rtake_num s hs k (by omega)]
  simp only [Option.bind_some]
  have hb := takeN_bound (L s)
  have hl := takeN_len (L s)
  rw [L_length] at hl
  generalize takeN (L s) = t at *
  by_cases he : t.2.2 = 0
  · rw [if_pos he, if_pos he]
    obtain ⟨k, rfl⟩ := succ_of (show 0 < k by omega)
    simp only [hogsheadref01_TakeText.j0, B_size]
    by_cases h1 : most < 0
    · rw [if_pos h1, if_pos trivial, if_pos (.inl h1)]
      rfl
    · rw [if_neg h1, u64_in (x := most) (by omega), u64_in (x := ((t.2.1.length : Nat) : Int)) (by omega)]
      by_cases h2 : (t.1 : Int) > most
      · rw [if_pos (decide_eq_true h2), if_pos (.inr h2)]
        rfl
      · rw [if_neg (by simpa using h2), if_neg (show ¬ (most < 0 ∨ (t.1 : Int) > most) by omega)]
        by_cases h3 : t.1 > t.2.1.length
        · rw [if_pos (by omega), if_pos h3]
          rfl
        · rw [if_neg (by omega), if_neg h3, if_pos (by omega), if_pos (by omega), Int.toNat_natCast, ← B_size, from_B, upto_B, L_B]
  · rw [if_neg he, if_neg he]
    rfl

/-! ### writing -/
/-- The groups of x, each with 128 besides. -/
def hiG : Nat → Nat → List UInt8
  | 0, _ => []
  | n + 1, x => if x = 0 then [] else hiG n (x / 128) ++ [UInt8.ofNat (x % 128 + 128)]
/-- A number's bytes. -/
def numL (v : Nat) : List UInt8 := hiG 10 (v / 128) ++ [UInt8.ofNat (v % 128)]
theorem more_hiG : ∀ (n x : Nat) (acc : List Int), (vlq_more n x acc).map (fun y => UInt8.ofNat y.toNat) = hiG n x ++ acc.map fun y => UInt8.ofNat y.toNat
  | 0, _, _ => rfl
  | n + 1, x, acc => by
    unfold vlq_more hiG
    split
    · rfl
    · rw [more_hiG n, List.append_assoc, List.map_cons]
      congr 2
theorem num_num (v : Nat) (h : v < 18446744073709551616) : vlq_Num.f (v : Int) = some (B (numL v)) := by
  unfold vlq_Num.f
  rw [if_pos (by omega), if_pos (by omega), Int.toNat_natCast]
  refine congrArg some (L_inj ?_)
  rw [L_nums, L_B]
  unfold vlq_digits numL
  rw [more_hiG]
  rfl
/-- More room changes nothing. -/
theorem hiG_fuel : ∀ (n x : Nat), x < 128 ^ n → hiG (n + 1) x = hiG n x
  | 0, x, h => by
    have : x = 0 := by simpa using h
    subst this
    rfl
  | n + 1, x, h => by
    rw [Nat.pow_succ] at h
    have ih := hiG_fuel n (x / 128) (by omega)
    rw [hiG, ih]
    rfl
theorem hiG_length_le : ∀ (n x : Nat), (hiG n x).length ≤ n
  | 0, _ => by simp [hiG]
  | n + 1, x => by
    unfold hiG
    split
    · simp
    · have := hiG_length_le n (x / 128)
      simp
      omega
theorem numL_length_le (v : Nat) : (numL v).length ≤ 11 := by
  have := hiG_length_le 10 (v / 128)
  unfold numL
  simp
  omega
theorem ofNat_toNat' (n : Nat) (h : n < 256) : (UInt8.ofNat n).toNat = n := by
  rw [UInt8.toNat_ofNat']
  omega
theorem rnum_l0 : ∀ (n x k : Nat) (l : List UInt8), x < 128 ^ n → n < k → x < 18446744073709551616 → l.length + n ≤ 1000 → hogsheadref01_Num.l0 k (x : Int) (B l) = some (B (hiG n x ++ l))
  | 0, x, k, l, h, hk, _, _ => by
    obtain ⟨k, rfl⟩ := succ_of hk
    have : x = 0 := by simpa using h
    subst this
    simp only [hogsheadref01_Num.l0]
    rw [if_neg (by omega)]
    rfl
  | n + 1, x, k, l, h, hk, hx, hl => by
    obtain ⟨k, rfl⟩ := succ_of (show 0 < k by omega)
    rw [Nat.pow_succ] at h
    simp only [hogsheadref01_Num.l0]
    by_cases h0 : x = 0
    · subst h0
      rw [if_neg (by omega)]
      rfl
    · rw [if_pos (by omega)]
      simp only [Option.bind_some]
      have e0 : Int.tmod (x : Int) 128 = ((x % 128 : Nat) : Int) := by rw [Int.tmod_eq_emod_of_nonneg (by omega)]; omega
      have e1 : Int.tdiv (x : Int) 128 = ((x / 128 : Nat) : Int) := by rw [Int.tdiv_eq_ediv_of_nonneg (by omega)]; omega
      have e2 : (((x % 128 : Nat) : Int) % 256 + 128) % 256 = ((x % 128 + 128 : Nat) : Int) := by omega
      rw [e0, e1, e2, u64_in (by omega)]
      have e3 : strOfNums [((x % 128 + 128 : Nat) : Int)] = B [UInt8.ofNat (x % 128 + 128)] := by
        refine L_inj ?_
        rw [L_nums]
        rfl
      rw [e3, B_append, B_size, B_size, if_pos (by simp; omega), rnum_l0 n (x / 128) k _ (by omega) (by omega) (by omega) (by simp; omega)]
      rw [hiG, if_neg h0, List.append_assoc]
  termination_by n => n
theorem rnum_num (v : Nat) (h : v < 18446744073709551616) (k : Nat) (hk : 10 < k) : hogsheadref01_Num.f k (v : Int) = some (B (numL v)) := by
  unfold hogsheadref01_Num.f
  have e0 : Int.tmod (v : Int) 128 = ((v % 128 : Nat) : Int) := by rw [Int.tmod_eq_emod_of_nonneg (by omega)]; omega
  have e1 : Int.tdiv (v : Int) 128 = ((v / 128 : Nat) : Int) := by rw [Int.tdiv_eq_ediv_of_nonneg (by omega)]; omega
  rw [e0, e1, u64_in (by omega)]
  have e3 : strOfNums [((v % 128 : Nat) : Int) % 256] = B [UInt8.ofNat (v % 128)] := by
    refine L_inj ?_
    rw [L_nums, L_B, List.map_cons, List.map_nil]
    have : (((v % 128 : Nat) : Int) % 256).toNat = v % 128 := by omega
    rw [this]
  rw [e3, rnum_l0 10 (v / 128) k _ (by omega) hk (by omega) (by simp)]
  rfl
/-- A text's bytes. -/
def textL (l : List UInt8) : List UInt8 := numL l.length ++ l
theorem text_num (s : ByteArray) (hs : s.size ≤ 9223372036854775700) : vlq_Text.f s = some (B (textL (L s))) := by
  unfold vlq_Text.f
  rw [u64_in (by omega), num_num _ (by omega)]
  have hl := numL_length_le s.size
  simp only [Option.bind_some]
  rw [B_size, if_pos (by omega)]
  refine congrArg some (L_inj ?_)
  rw [L_append, L_B, L_B]
  unfold textL
  rw [L_length]
theorem rtext_num (s : ByteArray) (hs : s.size ≤ 9223372036854775700) (k : Nat) (hk : 10 < k) : hogsheadref01_Text.f k s = some (B (textL (L s))) := by
  unfold hogsheadref01_Text.f
  rw [u64_in (by omega), rnum_num _ (by omega) k hk]
  have hl := numL_length_le s.size
  simp only [Option.bind_some]
  rw [B_size, if_pos (by omega)]
  refine congrArg some (L_inj ?_)
  rw [L_append, L_B, L_B]
  unfold textL
  rw [L_length]

/-! ### what was written is taken -/
theorem tk_hiG : ∀ (n x : Nat) (tail : List UInt8), x < 128 ^ n → x < 18446744073709551616 → tk 0 (hiG n x ++ tail) = tk x tail
  | 0, x, tail, h, _ => by
    have : x = 0 := by simpa using h
    subst this
    rfl
  | n + 1, x, tail, h, hx => by
    rw [Nat.pow_succ] at h
    unfold hiG
    split
    · rename_i h0
      subst h0
      rfl
    · rw [List.append_assoc, tk_hiG n (x / 128) _ (by omega) (by omega)]
      show tk (x / 128) (UInt8.ofNat (x % 128 + 128) :: tail) = _
      unfold tk
      rw [ofNat_toNat' _ (by omega), if_neg (by omega), if_neg (by omega)]
      have e : x / 128 * 128 + (x % 128 + 128) % 128 = x := by omega
      rw [e]
      cases tail <;> rfl
theorem hiG_head : ∀ (n x : Nat) (c : UInt8) (l : List UInt8), x < 128 ^ n → hiG n x = c :: l → c.toNat ≠ 128
  | 0, _, _, _, _, h => by simp [hiG] at h
  | n + 1, x, c, l, hx, h => by
    rw [Nat.pow_succ] at hx
    unfold hiG at h
    split at h
    · cases h
    · rename_i h0
      cases hq : hiG n (x / 128) with
      | nil =>
        rw [hq, List.nil_append] at h
        injection h with h1 h2
        subst h1
        rw [ofNat_toNat' _ (by omega)]
        have : x / 128 = 0 := by
          cases n with
          | zero => rw [Nat.pow_zero] at hx; omega
          | succ n =>
            unfold hiG at hq
            split at hq
            · assumption
            · simp at hq
        omega
      | cons d m =>
        rw [hq, List.cons_append] at h
        injection h with h1 h2
        subst h1
        exact hiG_head n (x / 128) d m (by omega) hq
theorem take_numL (v : Nat) (h : v < 18446744073709551616) (more : List UInt8) : takeN (numL v ++ more) = (v, more, 0) := by
  have ht : tk 0 (numL v ++ more) = (v, more, 0) := by
    unfold numL
    rw [List.append_assoc, tk_hiG 10 (v / 128) _ (by omega) (by omega)]
    show tk (v / 128) (UInt8.ofNat (v % 128) :: more) = _
    unfold tk
    rw [ofNat_toNat' _ (by omega), if_neg (by omega), if_pos (by omega)]
    have e : v / 128 * 128 + v % 128 = v := by omega
    rw [e]
  unfold takeN
  cases hq : numL v ++ more with
  | nil =>
    unfold numL at hq
    simp at hq
  | cons c l =>
    simp only
    rw [if_neg, ← hq, ht]
    unfold numL at hq
    cases hh : hiG 10 (v / 128) with
    | nil =>
      rw [hh] at hq
      simp at hq
      rw [← hq.1, ofNat_toNat' _ (by omega)]
      omega
    | cons d m =>
      rw [hh] at hq
      injection hq with h1 h2
      rw [← h1]
      exact hiG_head 10 (v / 128) d m (by omega) hh
/-! ### what is taken is written by the same bytes -/
theorem tk_back : ∀ (l : List UInt8) (u y : Nat) (left : List UInt8), tk u l = (y, left, 0) → (0 < u ∨ ∀ c r, l = c :: r → c.toNat ≠ 128) → u < 128 ^ 9 → ∃ mid, l = mid ++ left ∧ numL y = hiG 10 u ++ mid
  | [], _, _, _, h, _, _ => by simp [tk] at h
  | c :: l, u, y, left, h, hu, hb => by
    have hc := c.toNat_lt
    unfold tk at h
    split at h
    · simp at h
    · rename_i hle
      split at h
      · rename_i h8
        simp only [Prod.mk.injEq] at h
        obtain ⟨rfl, rfl, _⟩ := h
        refine ⟨[c], rfl, ?_⟩
        unfold numL
        have e1 : (u * 128 + c.toNat) / 128 = u := by omega
        have e2 : (u * 128 + c.toNat) % 128 = c.toNat := by omega
        rw [e1, e2, UInt8.ofNat_toNat]
      · rename_i h8
        have hpos : 0 < u * 128 + c.toNat % 128 := by
          rcases hu with hu | hu
          · omega
          · have := hu c l rfl
            omega
        have hbb : u * 128 + c.toNat % 128 < 128 ^ 9 * 128 := by omega
        by_cases hsm : u * 128 + c.toNat % 128 < 128 ^ 9
        · obtain ⟨mid, h1, h2⟩ := tk_back l _ y left h (.inl hpos) hsm
          refine ⟨c :: mid, by rw [h1]; rfl, ?_⟩
          rw [h2]
          have e1 : (u * 128 + c.toNat % 128) / 128 = u := by omega
          have e2 : (u * 128 + c.toNat % 128) % 128 + 128 = c.toNat := by omega
          conv => lhs; rw [hiG]
          rw [if_neg (by omega), e1, e2, UInt8.ofNat_toNat, List.append_assoc, ← hiG_fuel 9 u hb]
          rfl
        · cases l with
          | nil => simp [tk] at h
          | cons d r =>
            unfold tk at h
            rw [if_pos (by omega)] at h
            simp at h
theorem takeN_back (l : List UInt8) (y : Nat) (left : List UInt8) (h : takeN l = (y, left, 0)) : numL y ++ left = l := by
  unfold takeN at h
  cases l with
  | nil => simp at h
  | cons c r =>
    simp only at h
    split at h
    · simp at h
    · rename_i hc
      obtain ⟨mid, h1, h2⟩ := tk_back (c :: r) 0 y left h (.inr (fun d m e => by injection e with e1 _; rw [← e1]; exact hc)) (by omega)
      rw [h2, h1]
      rfl
end Go.Proofs.Ytbmgglgacgkffaa.VP
