/- The program's disk over lists. -/
import Derived.Test.YtffjbbedjddpmaaDiskList
import Derived.Test.YtffjbbedjddpmaaPAllx16
import Derived.Test.YtffjbbedjddpmaaPAllx9
namespace Go.Proofs.Ytffjbbedjddpmaa.DP
open Go.RowKit Go.Proofs.YtffjbbedjddpmaaW.PrintWords Go.Proofs.YtffjbbedjddpmaaW.PrintLast Go.Proofs.Ytffjbbedjddpmaa.PAll Go.Proofs.Ytffjbbedjddpmaa.PB
theorem has_is (l0 : List ByteArray) (l1 : List W) (a2 : Int) (a3 : Bool) (i : Int) : disk_has.f l0 l1 a2 a3 i = some (decide (0 ≤ i ∧ i < (l0.length : Int))) := by
  unfold disk_has.f
  by_cases h0 : i ≥ 0
  · rw [if_pos h0]
    simp [h0]
  · rw [if_neg h0]
    simp [h0]
theorem put_is (l0 : List ByteArray) (l1 : List W) (a2 : Int) (a3 : Bool) (slot : Int) (s : ByteArray) (h1 : l1.length < 5864062014805) : disk_Put.f l0 l1 a2 a3 slot s = some (putD l0 l1 a2 a3 slot s) := by
  unfold disk_Put.f putD
  rw [has_is, Option.bind_some]
  have hc : api_Write.f l1 = some l1 := by
    unfold api_Write.f
    rw [if_pos (by omega)]
  rw [hc]
  simp only [Option.bind_some, if_pos h1]
  by_cases c1 : a3 = true
  · simp [c1]
  · by_cases c2 : 0 ≤ slot ∧ slot < (l0.length : Int)
    · simp only [if_neg c1, if_pos c2, decide_eq_true c2, if_true]
      by_cases c3 : (s.size : Int) > 1024
      · simp only [if_pos c3]
      · simp only [if_neg c3]
        by_cases c4 : a2 = 0
        · simp only [if_pos c4]
        · simp only [if_neg c4]
          by_cases c5 : a2 > 0
          · simp only [if_pos c5]
          · simp only [if_neg c5]
    · simp only [if_neg c1, if_neg c2, decide_eq_false c2]
      rfl
theorem get_is (l0 : List ByteArray) (l1 : List W) (a2 : Int) (a3 : Bool) (slot : Int) : disk_Get.f l0 l1 a2 a3 slot = some (getD l0 l1 slot) := by
  unfold disk_Get.f getD
  split <;> rfl
end Go.Proofs.Ytffjbbedjddpmaa.DP
