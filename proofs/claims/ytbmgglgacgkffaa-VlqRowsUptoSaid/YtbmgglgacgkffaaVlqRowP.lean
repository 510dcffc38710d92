/- Rows of texts, over lists alone: their bytes, how they are taken, and that none of their beginnings is one. -/
import Derived.Test.YtbmgglgacgkffaaPAllx4
import Derived.Test.YtbmgglgacgkffaaPAllx9
import Derived.Test.YtbmgglgacgkffaaPAllx8
import Derived.Test.YtbmgglgacgkffaaVlqLaws
import Derived.Test.YtbmgglgacgkffaaOpen
namespace Go.Proofs.Ytbmgglgacgkffaa.VP
open Go.RowKit Go.Proofs.YtbmgglgacgkffaaW.PrintWords Go.Proofs.YtbmgglgacgkffaaW.PrintLast Go.Proofs.Ytbmgglgacgkffaa.PAll Go.Proofs.Ytbmgglgacgkffaa.PB Go.Proofs.Ytbmgglgacgkffaa.Open

/-- The bytes of texts, one behind the other. -/
def textsL (l : List ByteArray) : List UInt8 := l.flatMap fun t => textL (L t)
theorem textsL_cons (t : ByteArray) (l : List ByteArray) : textsL (t :: l) = textL (L t) ++ textsL l := rfl
theorem textL_length (t : ByteArray) : (textL (L t)).length ≤ t.size + 11 := by
  unfold textL
  rw [List.length_append]
  have := numL_length_le (L t).length
  rw [L_length] at *
  omega
theorem texts_len : ∀ l : List ByteArray, (textsL l).length ≤ 12 * sumW (fun x => x.size + 1) l
  | [] => Nat.le_refl _
  | t :: l => by
    have h1 := textL_length t
    have h2 := texts_len l
    rw [textsL_cons, List.length_append]
    simp only [sumW]
    omega
/-- A row's bytes. -/
def rowL (l : List ByteArray) : List UInt8 := numL l.length ++ textsL l
theorem rowL_length (l : List ByteArray) : (rowL l).length ≤ 12 * sumW (fun x => x.size + 1) l + 11 := by
  unfold rowL
  rw [List.length_append]
  have h1 := numL_length_le l.length
  have h2 := texts_len l
  omega
theorem numL_ne (v : Nat) : numL v ≠ [] := by
  unfold numL
  simp
theorem row_go : ∀ (l : List ByteArray) (acc : List UInt8), (∀ t ∈ l, t.size ≤ 9223372036854775700) → acc.length + (textsL l).length ≤ 140737488355328 → vlq_Row.go l acc = some (acc ++ textsL l)
  | [], acc, _, _ => by
    show some acc = some (acc ++ [])
    rw [List.append_nil]
  | t :: l, acc, h, hn => by
    have e : textsL (t :: l) = textL (L t) ++ textsL l := rfl
    rw [e] at hn ⊢
    rw [List.length_append] at hn
    rw [vlq_Row.go, text_num t (h t (List.mem_cons_self ..)), Option.bind_some, if_pos (by rw [B_size]; omega)]
    have e2 : (B (textL (L t))).data.toList = textL (L t) := rfl
    rw [e2, row_go l _ (fun x hx => h x (List.mem_cons_of_mem _ hx)) (by rw [List.length_append]; omega), List.append_assoc]
theorem row_is (l : List ByteArray) (h : sumW (fun x : ByteArray => x.size + 1) l ≤ 1048576) : vlq_Row.f l = some (B (rowL l)) := by
  have hl := length_le_sumW (fun x : ByteArray => x.size + 1) (fun x => by omega) l
  have hn := numL_length_le l.length
  have ht := texts_len l
  unfold vlq_Row.f
  rw [u64_in (by omega), num_num _ (by omega), Option.bind_some]
  have e2 : (B (numL l.length)).data.toList = numL l.length := rfl
  rw [e2, if_pos ⟨numL_ne _, by rw [B_size]; omega⟩, row_go l _ (fun t ht => by have := sumW_mem (fun x : ByteArray => x.size + 1) ht; omega) (by omega)]
  rfl
theorem takeT_textL (t more : List UInt8) (most : Int) (h : (t.length : Int) ≤ most) (h2 : t.length < 18446744073709551616) : takeT (textL t ++ more) most = (t, more, 0) := by
  unfold takeT textL
  rw [List.append_assoc, take_numL _ h2]
  simp only
  rw [if_pos trivial, if_neg (by omega), if_neg (by rw [List.length_append]; omega), List.take_left, List.drop_left]
/-- What was written is taken. -/
theorem several_row (most : Int) (hm : InR most) (n : Nat) (hn : n ≤ 1048576) : ∀ (l : List ByteArray) (more : List UInt8) (out : List ByteArray) (i k : Nat), i + l.length = n → (∀ t ∈ l, (t.size : Int) ≤ most) → out.length ≤ i → (textsL l).length + more.length ≤ 9223372036854775807 → (textsL l).length + more.length + l.length + 2 < k →
    vlq_several.l0 k most n (B (textsL l ++ more)) out i = some (out ++ l, B more, 0)
  | [], more, out, i, k, hi, _, _, _, hk => by
    obtain ⟨k, rfl⟩ := succ_of hk
    simp only [List.length_nil, Nat.add_zero] at hi
    subst hi
    rw [vlq_several.l0, if_neg (by omega), List.append_nil]
    rfl
  | t :: l, more, out, i, k, hi, hm2, ho, hs, hk => by
    obtain ⟨k, rfl⟩ := succ_of hk
    rw [textsL_cons] at hs hk ⊢
    simp only [List.length_cons, List.length_append] at hi hs hk
    have h1 := hm2 t (List.mem_cons_self ..)
    have hsz : (B (textL (L t) ++ textsL l ++ more)).size = (textL (L t)).length + (textsL l).length + more.length := by rw [B_size, List.length_append, List.length_append]
    unfold InR at hm
    rw [vlq_several.l0, if_pos (by omega), take_text _ most hm (by omega) k (by omega), L_B, List.append_assoc, takeT_textL (L t) _ most (by rw [L_length]; exact h1) (by rw [L_length]; omega), Option.bind_some]
    simp only
    rw [if_pos trivial, if_pos (by omega), B_L]
    have e : IntKind.u64.wrap ((i : Int) + 1) = ((i + 1 : Nat) : Int) := by rw [u64_in (by omega)]; omega
    rw [e, several_row most hm n hn l more (out ++ [t]) (i + 1) k (by omega) (fun x hx => hm2 x (List.mem_cons_of_mem _ hx)) (by rw [List.length_append]; simp; omega) (by omega) (by omega), List.append_assoc]
    rfl
theorem takeRow_is (l : List ByteArray) (more : List UInt8) (most : Int) (hm : InR most) (h : sumW (fun x : ByteArray => x.size + 1) l ≤ 1048576) (hmost : ∀ t ∈ l, (t.size : Int) ≤ most) (hmore : more.length ≤ 1048576) (k : Nat) (hk : 100000000 ≤ k) :
    vlq_TakeRow.f k (B (rowL l ++ more)) l.length most = some (l, B more, 0) := by
  have hl := length_le_sumW (fun x : ByteArray => x.size + 1) (fun x => by omega) l
  have hr := rowL_length l
  have ht := texts_len l
  unfold vlq_TakeRow.f
  rw [take_num _ (by rw [B_size, List.length_append]; omega) k (by rw [B_size, List.length_append]; omega), Option.bind_some, L_B]
  unfold rowL
  rw [List.append_assoc, take_numL _ (by omega)]
  simp only
  rw [if_pos trivial, if_neg (by omega), u64_in (by omega), if_neg (by omega)]
  exact several_row most hm l.length (by omega) l more [] 0 k (by omega) hmost (by simp) (by omega) (by omega)
theorem same_self (l : List ByteArray) (hm : l.length ≤ 9223372036854775807) : ∀ (d i k : Nat), i + d = l.length → d < k → hogsheadref01_Same.l0 k l l i = some true
  | 0, i, k, hi, hk => by
    obtain ⟨k, rfl⟩ := succ_of hk
    rw [hogsheadref01_Same.l0, if_neg (by omega)]
  | d + 1, i, k, hi, hk => by
    obtain ⟨k, rfl⟩ := succ_of hk
    rw [hogsheadref01_Same.l0, if_pos (by omega), if_pos (by omega), if_pos (by omega), if_pos rfl, wrap_succ (n := l.length) (by omega) hm, same_self l hm d (i + 1) k (by omega) (by omega)]
theorem same_is (l : List ByteArray) (hm : l.length ≤ 9223372036854775807) (k : Nat) (hk : l.length < k) : hogsheadref01_Same.f k l l = some true := by
  unfold hogsheadref01_Same.f
  rw [if_pos rfl]
  exact same_self l hm l.length 0 k (by omega) hk

/-! ### no beginning is one -/
/-- A number that is taken from more than p is none of p alone. -/
theorem tk_cut : ∀ (p : List UInt8) (u y : Nat) (c : UInt8) (q left : List UInt8), tk u (p ++ c :: q) = (y, left, 0) → left.length ≤ q.length → tk u p = (0, [], 2)
  | [], _, _, _, _, _, _, _ => rfl
  | d :: p, u, y, c, q, left, h, hl => by
    rw [List.cons_append] at h
    unfold tk at h ⊢
    split at h
    · simp at h
    · rename_i h1
      rw [if_neg h1]
      split at h
      · simp only [Prod.mk.injEq] at h
        have := congrArg List.length h.2.1
        rw [List.length_append, List.length_cons] at this
        omega
      · rename_i h2
        rw [if_neg h2]
        exact tk_cut p _ y c q left h hl
theorem takeN_cut (p : List UInt8) (y : Nat) (c : UInt8) (q left : List UInt8) (h : takeN (p ++ c :: q) = (y, left, 0)) (hl : left.length ≤ q.length) : takeN p = (0, [], 2) := by
  cases p with
  | nil => rfl
  | cons d p =>
    rw [List.cons_append] at h
    unfold takeN at h ⊢
    simp only at h ⊢
    split at h
    · simp at h
    · rename_i h1
      rw [if_neg h1]
      exact tk_cut (d :: p) 0 y c q left h hl
theorem split_at {l : List UInt8} {j : Nat} (h : j < l.length) : l = l.take j ++ l[j] :: l.drop (j + 1) := by
  rw [← List.drop_eq_getElem_cons h, List.take_append_drop]
theorem num_cut (v j : Nat) (hv : v < 18446744073709551616) (hj : j < (numL v).length) : takeN ((numL v).take j) = (0, [], 2) := by
  have h := take_numL v hv []
  rw [List.append_nil, split_at hj] at h
  exact takeN_cut _ _ _ _ _ h (Nat.zero_le _)
theorem text_cut (t : List UInt8) (j : Nat) (most : Int) (ht : t.length < 18446744073709551616) (hj : j < (textL t).length) : (takeT ((textL t).take j) most).2.2 ≠ 0 := by
  unfold textL at hj ⊢
  by_cases c : j < (numL t.length).length
  · rw [List.take_append_of_le_length (by omega)]
    unfold takeT
    rw [num_cut _ _ ht c, if_neg (show ¬ ((0, ([] : List UInt8), (2 : Int)) : Nat × List UInt8 × Int).2.2 = 0 by decide)]
    decide
  · have e : (numL t.length ++ t).take j = numL t.length ++ t.take (j - (numL t.length).length) := by
      rw [List.take_append, List.take_of_length_le (by omega)]
    rw [List.length_append] at hj
    rw [e]
    unfold takeT
    rw [take_numL _ ht]
    simp only
    rw [if_pos trivial]
    split
    · decide
    · rw [if_pos (by rw [List.length_take]; omega)]
      decide
/-- Of a beginning of texts no so many texts are taken. -/
theorem several_cut (most : Int) (hm : InR most) (n : Nat) (hn : n ≤ 1048576) : ∀ (l : List ByteArray) (j : Nat) (out : List ByteArray) (i k : Nat), i + l.length = n → (∀ t ∈ l, (t.size : Int) ≤ most) → out.length ≤ i → (textsL l).length ≤ 9223372036854775807 → (textsL l).length + l.length + 2 < k → j < (textsL l).length →
    ∃ x y z, vlq_several.l0 k most n (B ((textsL l).take j)) out i = some (x, y, z) ∧ z ≠ 0
  | [], j, _, _, _, _, _, _, _, _, hj => absurd hj (Nat.not_lt_zero _)
  | t :: l, j, out, i, k, hi, hm2, ho, hs, hk, hj => by
    obtain ⟨k, rfl⟩ := succ_of hk
    rw [textsL_cons] at hs hk hj ⊢
    simp only [List.length_cons, List.length_append] at hi hs hk hj
    have h1 := hm2 t (List.mem_cons_self ..)
    unfold InR at hm
    have hsz : (B ((textL (L t) ++ textsL l).take j)).size ≤ (textL (L t)).length + (textsL l).length := by
      rw [B_size, List.length_take, List.length_append]
      omega
    rw [vlq_several.l0, if_pos (by omega), take_text _ most hm (by omega) k (by omega), L_B, Option.bind_some]
    by_cases c : j < (textL (L t)).length
    · rw [List.take_append_of_le_length (by omega)]
      have hc := text_cut (L t) j most (by rw [L_length]; omega) c
      simp only
      rw [if_neg hc]
      exact ⟨_, _, _, rfl, hc⟩
    · have e : (textL (L t) ++ textsL l).take j = textL (L t) ++ (textsL l).take (j - (textL (L t)).length) := by
        rw [List.take_append, List.take_of_length_le (by omega)]
      rw [e, takeT_textL (L t) _ most (by rw [L_length]; exact h1) (by rw [L_length]; omega)]
      simp only
      rw [if_pos trivial, if_pos (by omega)]
      have e : IntKind.u64.wrap ((i : Int) + 1) = ((i + 1 : Nat) : Int) := by rw [u64_in (by omega)]; omega
      rw [e]
      exact several_cut most hm n hn l _ _ (i + 1) k (by omega) (fun x hx => hm2 x (List.mem_cons_of_mem _ hx)) (by rw [List.length_append]; simp; omega) (by omega) (by omega) (by omega)
theorem takeRow_cut (l : List ByteArray) (most : Int) (hm : InR most) (h : sumW (fun x : ByteArray => x.size + 1) l ≤ 1048576) (hmost : ∀ t ∈ l, (t.size : Int) ≤ most) (j : Nat) (hj : j < (rowL l).length) (k : Nat) (hk : 100000000 ≤ k) :
    ∃ x y z, vlq_TakeRow.f k (B ((rowL l).take j)) l.length most = some (x, y, z) ∧ z ≠ 0 := by
  have hl := length_le_sumW (fun x : ByteArray => x.size + 1) (fun x => by omega) l
  have hr := rowL_length l
  have ht := texts_len l
  have hsz : (B ((rowL l).take j)).size ≤ (rowL l).length := by
    rw [B_size, List.length_take]
    omega
  unfold vlq_TakeRow.f
  rw [take_num _ (by omega) k (by omega), Option.bind_some, L_B]
  unfold rowL at hj ⊢
  rw [List.length_append] at hj
  by_cases c : j < (numL l.length).length
  · rw [List.take_append_of_le_length (by omega), num_cut _ _ (by omega) c]
    exact ⟨_, _, _, rfl, by decide⟩
  · have e : (numL l.length ++ textsL l).take j = numL l.length ++ (textsL l).take (j - (numL l.length).length) := by
      rw [List.take_append, List.take_of_length_le (by omega)]
    rw [e, take_numL _ (by omega)]
    simp only
    rw [if_pos trivial, if_neg (by omega), u64_in (by omega), if_neg (by omega)]
    exact several_cut most hm l.length (by omega) l _ [] 0 k (by omega) hmost (by simp) (by omega) (by omega) (by omega)
end Go.Proofs.Ytbmgglgacgkffaa.VP
