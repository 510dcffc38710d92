/- A number that was written is taken, whatever stands behind it; what is taken is written by the same bytes. -/
import Derived.Test.YtbmgglgacgkffaaStVlqBack
import Derived.Test.YtbmgglgacgkffaaVlqLaws
namespace Go.Proofs.Ytbmgglgacgkffaa.Pure
open Go.RowKit Go.Proofs.YtbmgglgacgkffaaW.PrintWords Go.Proofs.YtbmgglgacgkffaaW.PrintLast Go.Proofs.Ytbmgglgacgkffaa.PAll Go.Proofs.Ytbmgglgacgkffaa.Open Go.Proofs.Ytbmgglgacgkffaa.PB Go.Proofs.Ytbmgglgacgkffaa.VP

theorem VlqBack : hogsheadlaw01_VlqBack.Pure := by
  intro v s more hv _ _ hs hm
  obtain ⟨h0, h1⟩ := wf_u64 hv
  obtain ⟨v, rfl⟩ := Int.eq_ofNat_of_zero_le h0
  have hl := numL_length_le v
  have hsz : (B (numL v) ++ more).size = (numL v).length + more.size := by rw [size_append, B_size]
  refine ⟨s.size + more.size + 20, ?_⟩
  unfold hogsheadlaw01_VlqBack.f
  rw [shown_true _ (by omega), num_num v (by omega)]
  simp only [Option.bind_some]
  rw [B_size, if_pos (by omega), take_num _ (by rw [hsz]; omega) _ (by rw [hsz]; omega), L_append, L_B, take_numL v (by omega)]
  simp only [Option.bind_some, L_toList, L_B]
  rw [if_pos trivial, if_pos trivial]
  obtain ⟨k, hk⟩ := succ_of (show 0 < s.size + more.size + 20 by omega)
  rw [hk]
  simp only [hogsheadlaw01_VlqBack.j0]
  rw [if_neg (by decide), take_num s (by omega) k (by omega)]
  simp only [Option.bind_some]
  have hb := takeN_bound (L s)
  have hn := takeN_len (L s)
  rw [L_length] at hn
  rw [if_pos trivial]
  by_cases he : (takeN (L s)).2.2 = 0
  · have hback := takeN_back (L s) (takeN (L s)).1 (takeN (L s)).2.1 (by rw [← he])
    have hl2 := numL_length_le (takeN (L s)).1
    rw [if_pos he, num_num _ hb]
    simp only [Option.bind_some]
    rw [B_size, B_size, if_pos (by omega), L_toList, L_toList, L_append, L_B, L_B, hback]
    simp
  · rw [if_neg he]
end Go.Proofs.Ytbmgglgacgkffaa.Pure
