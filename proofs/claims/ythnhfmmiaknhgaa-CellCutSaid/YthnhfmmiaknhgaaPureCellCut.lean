/- A beginning of a record is none. -/
import Derived.Test.YthnhfmmiaknhgaaStCellCut
import Derived.Test.YthnhfmmiaknhgaaCellLaws
namespace Go.Proofs.Ythnhfmmiaknhgaa.Pure
open Go.RowKit Go.Proofs.YthnhfmmiaknhgaaW.PrintWords Go.Proofs.YthnhfmmiaknhgaaW.PrintLast Go.Proofs.Ythnhfmmiaknhgaa.PAll Go.Proofs.Ythnhfmmiaknhgaa.Open Go.Proofs.Ythnhfmmiaknhgaa.PB Go.Proofs.Ythnhfmmiaknhgaa.DP Go.Proofs.Ythnhfmmiaknhgaa.VP Go.Proofs.Ythnhfmmiaknhgaa.CP Go.Proofs.Ythnhfmmiaknhgaa.CE

theorem CellCut : hogsheadlaw09_CellCut.Pure := by
  intro t v cut ht hv hc hs
  obtain ⟨h0, h1⟩ := wf_u64 ht
  obtain ⟨t, rfl⟩ := Int.eq_ofNat_of_zero_le h0
  refine ⟨140737488351400, ?_⟩
  obtain ⟨k, hk⟩ := succ_of (show 1 < 140737488351400 by omega)
  obtain ⟨k, rfl⟩ := succ_of (show 0 < k by omega)
  unfold hogsheadlaw09_CellCut.f
  rw [shown_is _ (by omega), Option.bind_some, record_is t (by omega) v, Option.bind_some, hk]
  by_cases c : v.size > 1000
  · rw [if_pos c, if_neg (show ¬ (4 : Int) = 0 by decide), hogsheadlaw09_CellCut.j0, if_pos rfl]
  · have hvl : (L v).length ≤ 1000 := by rw [L_length]; omega
    have hrs := rec_size t (L v) hvl
    rw [if_neg c]
    dsimp only
    rw [if_pos rfl]
    by_cases c0 : cut < 0
    · rw [if_pos c0, hogsheadlaw09_CellCut.j0, if_pos rfl]
    · rw [if_neg c0, hogsheadlaw09_CellCut.j0]
      by_cases c1 : cut ≥ ((B (recB t (L v))).size : Int)
      · rw [if_pos (decide_eq_true c1)]
      · rw [if_neg (by simpa using c1), if_pos (by omega), if_pos (by omega)]
        have hcs := size_le_upto (B (recB t (L v))) cut.toNat (by omega)
        rw [take_is _ (by omega) _ (by omega), Option.bind_some, take_is _ (by omega) _ (by omega), Option.bind_some, L_upto, L_B, recL_recB t (by omega) _ hvl, recL_cut t (by omega) _ hvl _ (by rw [B_size] at c1; omega)]
        dsimp only
        rw [if_pos rfl, if_pos rfl, if_pos rfl, B_L, if_pos rfl, hogsheadlaw09_CellCut.j1]
        rfl
end Go.Proofs.Ythnhfmmiaknhgaa.Pure
