/- No beginning of a number's bytes, or of a row's, is one: for rows that hold together at most 1048576 values and letters. -/
import Derived.Test.YtbmgglgacgkffaaStVlqCut
import Derived.Test.YtbmgglgacgkffaaVlqRowP
namespace Go.Proofs.Ytbmgglgacgkffaa.Pure
open Go.RowKit Go.Proofs.YtbmgglgacgkffaaW.PrintWords Go.Proofs.YtbmgglgacgkffaaW.PrintLast Go.Proofs.Ytbmgglgacgkffaa.PAll Go.Proofs.Ytbmgglgacgkffaa.Open Go.Proofs.Ytbmgglgacgkffaa.PB Go.Proofs.Ytbmgglgacgkffaa.VP

theorem cut_j0 (l : List ByteArray) (h : sumW (fun x : ByteArray => x.size + 1) l ≤ 1048576) (c : Int) (h0 : 0 ≤ c) (k : Nat) (hk : 100000001 ≤ k) : hogsheadlaw01_VlqCut.j0 k l c true (B (rowL l)) = some true := by
  obtain ⟨k, rfl⟩ := succ_of (show 0 < k by omega)
  obtain ⟨j, rfl⟩ := Int.eq_ofNat_of_zero_le h0
  rw [hogsheadlaw01_VlqCut.j0, B_size]
  by_cases hj : j < (rowL l).length
  · obtain ⟨x, y, z, h1, h2⟩ := takeRow_cut l 1073741824 (by unfold InR; omega) h (fun t ht => by have := sumW_mem (fun x : ByteArray => x.size + 1) ht; omega) j hj k (by omega)
    rw [if_pos (by omega), if_pos (by omega), if_pos (by omega), upto_B, L_B, Int.toNat_natCast, h1, Option.bind_some]
    simp only
    rw [if_neg h2]
  · rw [if_neg (by omega)]
theorem VlqCutUpto : hogsheadlaw01_VlqCut.PureUpto := by
  intro v l c hv hl hc hs
  unfold os_s.wt at hs
  have hlen := length_le_sumW (fun x : ByteArray => x.size + 1) (fun x => by omega) l
  obtain ⟨h0, h1⟩ := wf_u64 hv
  obtain ⟨v, rfl⟩ := Int.eq_ofNat_of_zero_le h0
  have hn := numL_length_le v
  refine ⟨300000000, ?_⟩
  unfold hogsheadlaw01_VlqCut.f
  rw [shown_true _ (by omega), Option.bind_some, num_num v (by omega), Option.bind_some, row_is l (by omega), Option.bind_some]
  by_cases c0 : c < 0
  · rw [if_pos c0]
  · rw [if_neg c0, B_size]
    by_cases c1 : c < ((numL v).length : Int)
    · have hsz : ((B (numL v)).extract 0 c.toNat).size ≤ 11 := by
        rw [upto_B, B_size, L_B, List.length_take]
        omega
      rw [if_pos c1, if_pos (by omega), if_pos (by omega), take_num _ (by omega) _ (by omega), Option.bind_some]
      have e : takeN (L ((B (numL v)).extract 0 c.toNat)) = (0, [], 2) := by
        rw [upto_B, L_B, L_B]
        exact num_cut v c.toNat (by omega) (by omega)
      simp only [e]
      rw [if_pos trivial]
      exact cut_j0 l (by omega) c (by omega) _ (by omega)
    · rw [if_neg c1]
      exact cut_j0 l (by omega) c (by omega) _ (by omega)
end Go.Proofs.Ytbmgglgacgkffaa.Pure
