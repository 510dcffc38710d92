/- A row that was written is taken, whatever stands behind it: for rows and bytes that hold together at most 1048576 values and letters. -/
import Derived.Test.YtbmgglgacgkffaaStVlqRowBack
import Derived.Test.YtbmgglgacgkffaaVlqRowP
namespace Go.Proofs.Ytbmgglgacgkffaa.Pure
open Go.RowKit Go.Proofs.YtbmgglgacgkffaaW.PrintWords Go.Proofs.YtbmgglgacgkffaaW.PrintLast Go.Proofs.Ytbmgglgacgkffaa.PAll Go.Proofs.Ytbmgglgacgkffaa.Open Go.Proofs.Ytbmgglgacgkffaa.PB Go.Proofs.Ytbmgglgacgkffaa.VP

theorem rowBack_l0 (l : List ByteArray) (more : ByteArray) (h : sumW (fun x : ByteArray => x.size + 1) l ≤ 1048576) (hmore : more.size ≤ 1048576) : ∀ (d i k : Nat), i + d = l.length → 200000000 + d < k → hogsheadlaw01_VlqRowBack.l0 k l more true i = some true
  | 0, i, k, hi, hk => by
    have hl := length_le_sumW (fun x : ByteArray => x.size + 1) (fun x => by omega) l
    have hr := rowL_length l
    obtain ⟨k, rfl⟩ := succ_of hk
    rw [hogsheadlaw01_VlqRowBack.l0, if_neg (by omega), row_is l h, Option.bind_some, if_pos (by rw [B_size]; omega)]
    have e : B (rowL l) ++ more = B (rowL l ++ L more) := by rw [← B_append, B_L]
    rw [e, takeRow_is l (L more) 1073741824 (by unfold InR; omega) h (fun t ht => by have := sumW_mem (fun x : ByteArray => x.size + 1) ht; omega) (by rw [L_length]; exact hmore) k (by omega), Option.bind_some]
    simp only
    rw [same_is l (by omega) k (by omega), Option.bind_some, if_pos rfl, if_pos trivial, B_L, if_pos rfl]
    rfl
  | d + 1, i, k, hi, hk => by
    have hl := length_le_sumW (fun x : ByteArray => x.size + 1) (fun x => by omega) l
    obtain ⟨k, rfl⟩ := succ_of hk
    have hx : ((rdOf ByteArray.empty l (i : Int)).size : Int) ≤ 1048576 := by
      have hm : rdOf ByteArray.empty l (i : Int) ∈ l := by
        unfold rdOf
        rw [Int.toNat_natCast]
        exact getD_mem _ (by omega)
      have := sumW_mem (fun x : ByteArray => x.size + 1) hm
      omega
    rw [hogsheadlaw01_VlqRowBack.l0, if_pos (by omega), if_pos (by omega), if_neg (by omega), wrap_succ (n := l.length) (by omega) (by omega)]
    exact rowBack_l0 l more h hmore d (i + 1) k (by omega) (by omega)
theorem VlqRowBackUpto : hogsheadlaw01_VlqRowBack.PureUpto := by
  intro l more hl hm hs
  unfold os_s.wt at hs
  have hlen := length_le_sumW (fun x : ByteArray => x.size + 1) (fun x => by omega) l
  refine ⟨300000000, ?_⟩
  unfold hogsheadlaw01_VlqRowBack.f
  rw [shown_true _ (by omega), Option.bind_some]
  exact rowBack_l0 l more (by omega) (by omega) l.length 0 _ (by omega) (by omega)
end Go.Proofs.Ytbmgglgacgkffaa.Pure
