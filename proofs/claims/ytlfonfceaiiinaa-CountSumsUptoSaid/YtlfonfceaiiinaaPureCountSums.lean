/- Weights that are added up in two parts are those that are added up in one, where both parts hold together at most 1048576 values. -/
import Derived.Test.YtlfonfceaiiinaaStCountSums
import Derived.Test.YtlfonfceaiiinaaPureCountDues
namespace Go.Proofs.Ytlfonfceaiiinaa.Pure
open Go.RowKit Go.Proofs.YtlfonfceaiiinaaW.PrintWords Go.Proofs.YtlfonfceaiiinaaW.PrintLast Go.Proofs.Ytlfonfceaiiinaa.PAll Go.Proofs.Ytlfonfceaiiinaa.Open Go.Proofs.Ytlfonfceaiiinaa.PB

theorem foldl_addW : ∀ (l : List S29) (t : Int × Int × Int × Int), In4 t →
    l.foldl addW t = (wrap64 (t.1 + (l.map S29.f0).sum), wrap64 (t.2.1 + (l.map S29.f1).sum), wrap64 (t.2.2.1 + (l.map S29.f2).sum), wrap64 (t.2.2.2 + (l.map S29.f3).sum))
  | [], t, h => by
    simp only [List.foldl_nil, List.map_nil, List.sum_nil]
    rw [wrap_add_zero h.1, wrap_add_zero h.2.1, wrap_add_zero h.2.2.1, wrap_add_zero h.2.2.2]
  | w :: l, t, h => by
    rw [List.foldl_cons, foldl_addW l (addW t w) ⟨in_wrap _, in_wrap _, in_wrap _, in_wrap _⟩]
    simp only [addW, wrap_wrap_add, List.map_cons, List.sum_cons, Int.add_assoc]

theorem CountSumsUpto : hogsheadlaw19_CountSums.PureUpto := by
  intro a b ha hb hbulk
  have la : a.length ≤ 1048576 := by
    have := length_le_sumW (fun x => o29.wt x) (fun x => by unfold o29.wt; omega) a
    unfold os_o29.wt at hbulk
    omega
  have lb : b.length ≤ 1048576 := by
    have := length_le_sumW (fun x => o29.wt x) (fun x => by unfold o29.wt; omega) b
    unfold os_o29.wt at hbulk
    omega
  refine ⟨3000000, ?_⟩
  unfold hogsheadlaw19_CountSums.f
  rw [shown_all _ (by omega)]
  simp only [Option.bind_some, List.nil_append, List.length_nil]
  rw [if_pos (by omega), if_pos (by omega), if_pos trivial, sum_all a (by omega) _ (by omega), sum_all b (by omega) _ (by omega)]
  simp only [Option.bind_some]
  rw [sum_two _ _ _ (by omega), sum_all (a ++ b) (by rw [List.length_append]; omega) _ (by rw [List.length_append]; omega), sum_all [] (by simp) _ (by simp)]
  simp only [Option.bind_some]
  have hA : In4 (a.foldl addW (0, 0, 0, 0)) := by rw [foldl_addW _ _ in4_zero]; exact ⟨in_wrap _, in_wrap _, in_wrap _, in_wrap _⟩
  have e : (a ++ b).foldl addW (0, 0, 0, 0) = (wrap64 ((a.foldl addW (0, 0, 0, 0)).1 + (b.foldl addW (0, 0, 0, 0)).1), wrap64 ((a.foldl addW (0, 0, 0, 0)).2.1 + (b.foldl addW (0, 0, 0, 0)).2.1), wrap64 ((a.foldl addW (0, 0, 0, 0)).2.2.1 + (b.foldl addW (0, 0, 0, 0)).2.2.1), wrap64 ((a.foldl addW (0, 0, 0, 0)).2.2.2 + (b.foldl addW (0, 0, 0, 0)).2.2.2)) := by
    rw [List.foldl_append, foldl_addW b _ hA, foldl_addW b _ in4_zero]
    simp only [Int.zero_add, wrap_add_wrap]
  rw [e]
  simp
end Go.Proofs.Ytlfonfceaiiinaa.Pure
