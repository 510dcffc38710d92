/- A row's bytes, and the row that bytes begin with, are as the document says: for rows and bytes that hold together at most 1048576 values and letters. -/
import Derived.Test.YtbmgglgacgkffaaStVlqRows
import Derived.Test.YtbmgglgacgkffaaVlqRowP
import Derived.Test.YtbmgglgacgkffaaPAllx7
import Derived.Test.YtbmgglgacgkffaaPAllx10
namespace Go.Proofs.Ytbmgglgacgkffaa.Pure
open Go.RowKit Go.Proofs.YtbmgglgacgkffaaW.PrintWords Go.Proofs.YtbmgglgacgkffaaW.PrintLast Go.Proofs.Ytbmgglgacgkffaa.PAll Go.Proofs.Ytbmgglgacgkffaa.Open Go.Proofs.Ytbmgglgacgkffaa.PB Go.Proofs.Ytbmgglgacgkffaa.VP

theorem rrow_go (k : Nat) (hk : 10 < k) : ∀ (l : List ByteArray) (acc : List UInt8), (∀ t ∈ l, t.size ≤ 9223372036854775700) → acc.length + (textsL l).length ≤ 140737488355328 → hogsheadref01_Row.go k l acc = some (acc ++ textsL l)
  | [], acc, _, _ => by
    show some acc = some (acc ++ [])
    rw [List.append_nil]
  | t :: l, acc, h, hn => by
    have e : textsL (t :: l) = textL (L t) ++ textsL l := rfl
    rw [e] at hn ⊢
    rw [List.length_append] at hn
    rw [hogsheadref01_Row.go, rtext_num t (h t (List.mem_cons_self ..)) k hk, Option.bind_some, if_pos (by rw [B_size]; omega)]
    have e2 : (B (textL (L t))).data.toList = textL (L t) := rfl
    rw [e2, rrow_go k hk l _ (fun x hx => h x (List.mem_cons_of_mem _ hx)) (by rw [List.length_append]; omega), List.append_assoc]
theorem rrow_is (l : List ByteArray) (h : sumW (fun x : ByteArray => x.size + 1) l ≤ 1048576) (k : Nat) (hk : 10 < k) : hogsheadref01_Row.f k l = some (B (rowL l)) := by
  have hl := length_le_sumW (fun x : ByteArray => x.size + 1) (fun x => by omega) l
  have hn := numL_length_le l.length
  have ht := texts_len l
  unfold hogsheadref01_Row.f
  rw [u64_in (by omega), rnum_num _ (by omega) k hk, Option.bind_some]
  have e2 : (B (numL l.length)).data.toList = numL l.length := rfl
  rw [e2, if_pos (by rw [B_size]; omega), rrow_go k hk l _ (fun t ht => by have := sumW_mem (fun x : ByteArray => x.size + 1) ht; omega) (by omega)]
  rfl
/-- A text that is taken takes a byte at least. -/
theorem tk_less : ∀ (l : List UInt8) (v : Nat), (tk v l).2.2 = 0 → (tk v l).2.1.length < l.length
  | [], _, h => by simp [tk] at h
  | c :: l, v, h => by
    unfold tk at h ⊢
    split at h
    · simp at h
    · rename_i h1
      rw [if_neg h1]
      split at h
      · rename_i h2
        rw [if_pos h2]
        simp
      · rename_i h2
        rw [if_neg h2]
        have := tk_less l _ h
        simp only [List.length_cons]
        omega
theorem takeT_less (l : List UInt8) (most : Int) (h : (VP.takeT l most).2.2 = 0) : (VP.takeT l most).2.1.length < l.length := by
  have hn : (takeN l).2.2 = 0 → (takeN l).2.1.length < l.length := by
    intro h
    unfold takeN at h ⊢
    cases l with
    | nil => simp at h
    | cons c r =>
      simp only at h ⊢
      split at h
      · simp at h
      · rename_i h1
        rw [if_neg h1]
        exact tk_less _ _ h
  unfold VP.takeT at h ⊢
  split at h
  · rename_i h1
    have := hn h1
    rw [if_pos h1]
    split at h
    · simp at h
    · rename_i h2
      rw [if_neg h2]
      split at h
      · simp at h
      · rename_i h3
        rw [if_neg h3]
        simp only [List.length_drop]
        omega
  · rename_i h1
    exact absurd h h1
theorem several_both (most : Int) (hm : InR most) (n : Int) (hn : n ≤ 18446744073709551615) : ∀ (d : Nat) (l : List UInt8) (out : List ByteArray) (i : Int) (k k' : Nat), 0 ≤ i → l.length ≤ d → out.length + d ≤ 3000000 → 2 * d + 2 < k → 2 * d + 2 < k' →
    ∃ r, vlq_several.l0 k most n (B l) out i = some r ∧ hogsheadref01_TakeRow.l0 k' most n (B l) out i = some r
  | d, l, out, i, k, k', hi, hl, ho, hk, hk' => by
    obtain ⟨k, rfl⟩ := succ_of hk
    obtain ⟨k', rfl⟩ := succ_of hk'
    rw [vlq_several.l0, hogsheadref01_TakeRow.l0]
    by_cases c : i < n
    · rw [if_pos c, if_pos c, take_text _ most hm (by rw [B_size]; omega) k (by rw [B_size]; omega), rtake_text _ most hm (by rw [B_size]; omega) k' (by rw [B_size]; omega), L_B, Option.bind_some, Option.bind_some]
      simp only
      by_cases c2 : (VP.takeT l most).2.2 = 0
      · have hless := takeT_less l most c2
        rw [if_pos c2, if_pos c2, if_pos (by omega), if_pos (by omega)]
        cases d with
        | zero => exact absurd hless (by omega)
        | succ d =>
          have e : IntKind.u64.wrap (i + 1) = i + 1 := by rw [u64_in (by omega)]
          rw [e]
          exact several_both most hm n hn d _ _ (i + 1) k k' (by omega) (by omega) (by rw [List.length_append]; simp; omega) (by omega) (by omega)
      · rw [if_neg c2, if_neg c2]
        exact ⟨_, rfl, rfl⟩
    · rw [if_neg c, if_neg c]
      exact ⟨_, rfl, rfl⟩
theorem takeRow_both (s : ByteArray) (many most : Int) (hm : InR most) (hs : s.size ≤ 1048576) (k : Nat) (hk : 10000000 ≤ k) : ∃ r, vlq_TakeRow.f k s many most = some r ∧ hogsheadref01_TakeRow.f k s many most = some r := by
  have hb := takeN_bound (L s)
  have hlen := takeN_len (L s)
  rw [L_length] at hlen
  obtain ⟨k1, hk1⟩ := succ_of (show 0 < k by omega)
  obtain ⟨r, h1, h2⟩ := several_both most hm ((takeN (L s)).1 : Int) (by omega) s.size (takeN (L s)).2.1 [] 0 k k1 (by omega) hlen (by simp; omega) (by omega) (by omega)
  unfold vlq_TakeRow.f hogsheadref01_TakeRow.f
  rw [take_num s (by omega) k (by omega), rtake_num s (by omega) k (by omega), Option.bind_some, Option.bind_some]
  simp only
  by_cases c : (takeN (L s)).2.2 = 0
  · rw [if_pos c, if_pos c]
    by_cases c1 : many < 0
    · rw [if_pos c1, if_pos c1, hk1, hogsheadref01_TakeRow.j0, if_pos rfl]
      exact ⟨_, rfl, rfl⟩
    · rw [if_neg c1, if_neg c1]
      by_cases c2 : ((takeN (L s)).1 : Int) > IntKind.u64.wrap many
      · rw [if_pos c2, decide_eq_true c2, hk1, hogsheadref01_TakeRow.j0, if_pos rfl]
        exact ⟨_, rfl, rfl⟩
      · rw [if_neg c2, decide_eq_false c2, h1, hk1, hogsheadref01_TakeRow.j0, if_neg (by decide)]
        exact ⟨r, rfl, h2⟩
  · rw [if_neg c, if_neg c]
    exact ⟨_, rfl, rfl⟩
theorem takeRow_short (s : ByteArray) (many most : Int) (k : Nat) (r : List ByteArray × ByteArray × Int) (h : vlq_TakeRow.f k s many most = some r) : r.1.length ≤ 8796093022208 := by
  have hsev : ∀ (k : Nat) (most n : Int) (s : ByteArray) (out : List ByteArray) (i : Int) (r : List ByteArray × ByteArray × Int), out.length ≤ 8796093022208 → vlq_several.l0 k most n s out i = some r → r.1.length ≤ 8796093022208 := by
    intro k
    induction k with
    | zero => intro _ _ _ _ _ _ _ h; simp [vlq_several.l0] at h
    | succ k ih =>
      intro most n s out i r ho h
      rw [vlq_several.l0] at h
      split at h
      · obtain ⟨t, _, h⟩ := Option.bind_eq_some_iff.mp h
        split at h
        · split at h
          · exact ih _ _ _ _ _ _ (by rw [List.length_append]; simp; omega) h
          · cases h
        · obtain rfl := Option.some.inj h
          exact Nat.zero_le _
      · obtain rfl := Option.some.inj h
        exact ho
  unfold vlq_TakeRow.f at h
  obtain ⟨t, _, h⟩ := Option.bind_eq_some_iff.mp h
  split at h
  · split at h
    · obtain rfl := Option.some.inj h
      exact Nat.zero_le _
    · split at h
      · obtain rfl := Option.some.inj h
        exact Nat.zero_le _
      · exact hsev _ _ _ _ _ _ _ (Nat.zero_le _) h
  · obtain rfl := Option.some.inj h
    exact Nat.zero_le _
theorem VlqRowsUpto : hogsheadlaw01_VlqRows.PureUpto := by
  intro x hw hs
  obtain ⟨l, s, many, most⟩ := x
  obtain ⟨_, _, _, hmost⟩ := hw
  unfold o42.wt os_s.wt at hs
  dsimp only at hs hmost ⊢
  refine ⟨10000000000000, ?_⟩
  obtain ⟨r, h1, h2⟩ := takeRow_both s many most (wf_in hmost) (by omega) 10000000000000 (by omega)
  have hr := takeRow_short s many most _ r h1
  unfold hogsheadlaw01_VlqRows.f
  rw [shown_true _ (by omega), Option.bind_some, h1, Option.bind_some, h2, Option.bind_some, same_is _ (by omega) _ (by omega), Option.bind_some, if_pos rfl, row_is l (by omega), Option.bind_some, rrow_is l (by omega) _ (by omega), Option.bind_some, if_pos rfl, if_pos rfl, if_pos rfl]
  simp
end Go.Proofs.Ytbmgglgacgkffaa.Pure
