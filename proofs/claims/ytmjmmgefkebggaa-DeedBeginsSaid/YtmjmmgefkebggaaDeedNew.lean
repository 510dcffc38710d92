/- The document's New is the program's. -/
import Derived.Test.YtmjmmgefkebggaaDeedPure
import Derived.Test.YtmjmmgefkebggaaPAllx12
namespace Go.Proofs.Ytmjmmgefkebggaa.DD
open Go.RowKit Go.Proofs.YtmjmmgefkebggaaW.PrintWords Go.Proofs.YtmjmmgefkebggaaW.PrintLast Go.Proofs.Ytmjmmgefkebggaa.PAll Go.Proofs.Ytmjmmgefkebggaa.PB
set_option linter.unusedSimpArgs false
theorem rnew_is (client kind : Int) (name bytes : ByteArray) (seq : Int) (k : Nat) (hk : 3 ≤ k) : hogsheadref17_New.f k client kind name bytes seq = some (newS client kind name bytes seq) := by
  obtain ⟨k, rfl⟩ := succ_of (show 2 < k by omega)
  obtain ⟨k, rfl⟩ := succ_of (show 1 < k by omega)
  obtain ⟨k, rfl⟩ := succ_of (show 0 < k by omega)
  unfold hogsheadref17_New.f newS
  simp only [hogsheadref17_New.j0, hogsheadref17_New.j1, hogsheadref17_New.j2]
  by_cases c : 1 ≤ client ∧ client ≤ 16 ∧ 1 ≤ name.size ∧ name.size ≤ 16 ∧ 0 ≤ seq ∧ seq ≤ 1073741822
  · rw [if_neg (by omega), if_neg (by omega), if_pos c]
    have b5 : ¬ (name.size : Int) < 1 := by omega
    have b6 : ¬ (name.size : Int) > 16 := by omega
    have b7 : ¬ seq < 0 := by omega
    have b8 : ¬ seq > 1073741822 := by omega
    by_cases k1 : kind = 1
    · subst k1
      have ka : ¬ (1 : Int) < 1 := by omega
      have kb : ¬ (1 : Int) > 3 := by omega
      have kc : ¬ (1 : Int) = 2 := by omega
      have kd : ¬ (1 : Int) = 3 := by omega
      by_cases s1 : (bytes.size : Int) < 1
      · have s2 : ¬ (1 ≤ bytes.size ∧ bytes.size ≤ 32) := by omega
        simp only [b5, b6, b7, b8, ka, kb, kc, kd, s1, s2, if_true, if_false, decide_true, decide_false, Bool.false_eq_true, reduceIte, true_and, and_true, false_and]
      · by_cases s3 : (bytes.size : Int) > 32
        · have s2 : ¬ (1 ≤ bytes.size ∧ bytes.size ≤ 32) := by omega
          simp only [b5, b6, b7, b8, ka, kb, kc, kd, s1, s2, s3, if_true, if_false, decide_true, decide_false, Bool.false_eq_true, reduceIte, true_and, and_true, false_and]
        · have s2 : 1 ≤ bytes.size ∧ bytes.size ≤ 32 := by omega
          simp only [b5, b6, b7, b8, ka, kb, kc, kd, s1, s2, s3, if_true, if_false, decide_true, decide_false, Bool.false_eq_true, reduceIte, true_and, and_true, false_and]
    · by_cases ka : kind < 1
      · have kc : ¬ kind = 2 := by omega
        have kd : ¬ kind = 3 := by omega
        simp only [b5, b6, b7, b8, k1, ka, kc, kd, if_true, if_false, decide_true, decide_false, Bool.false_eq_true, reduceIte, true_and, and_true, false_and]
      · by_cases kb : kind > 3
        · have kc : ¬ kind = 2 := by omega
          have kd : ¬ kind = 3 := by omega
          simp only [b5, b6, b7, b8, k1, ka, kb, kc, kd, if_true, if_false, decide_true, decide_false, Bool.false_eq_true, reduceIte, true_and, and_true, false_and]
        · by_cases s0 : bytes.size = 0
          · have s1 : ¬ (bytes.size : Int) > 0 := by omega
            by_cases kc : kind = 2
            · have kd : ¬ kind = 3 := by omega
              simp only [b5, b6, b7, b8, k1, ka, kb, eq_true kc, kd, eq_true s0, s1, if_true, if_false, decide_true, decide_false, Bool.false_eq_true, reduceIte, true_and, and_true, false_and]
            · have kd : kind = 3 := by omega
              simp only [b5, b6, b7, b8, k1, ka, kb, kc, eq_true kd, eq_true s0, s1, if_true, if_false, decide_true, decide_false, Bool.false_eq_true, reduceIte, true_and, and_true, false_and]
          · have s1 : (bytes.size : Int) > 0 := by omega
            by_cases kc : kind = 2
            · have kd : ¬ kind = 3 := by omega
              simp only [b5, b6, b7, b8, k1, ka, kb, eq_true kc, kd, s0, s1, if_true, if_false, decide_true, decide_false, Bool.false_eq_true, reduceIte, true_and, and_true, false_and]
            · have kd : kind = 3 := by omega
              simp only [b5, b6, b7, b8, k1, ka, kb, kc, eq_true kd, s0, s1, if_true, if_false, decide_true, decide_false, Bool.false_eq_true, reduceIte, true_and, and_true, false_and]
  · rw [if_neg c]
    by_cases d1 : client < 1
    · rw [if_pos d1, if_pos trivial]
    · rw [if_neg d1]
      by_cases d2 : client > 16
      · rw [if_pos d2, if_pos trivial]
      · rw [if_neg d2]
        by_cases ka : kind < 1
        · rw [if_pos ka, if_pos trivial]
        · rw [if_neg ka]
          by_cases kb : kind > 3
          · rw [if_pos kb, if_pos trivial]
          · rw [if_neg kb]
            by_cases d3 : (name.size : Int) < 1
            · rw [if_pos d3, if_pos trivial]
            · rw [if_neg d3]
              by_cases d4 : (name.size : Int) > 16
              · rw [if_pos d4, if_pos trivial]
              · rw [if_neg d4]
                by_cases d5 : seq < 0
                · rw [if_pos d5, if_pos trivial]
                · rw [if_neg d5, if_pos (by simp; omega)]
end Go.Proofs.Ytmjmmgefkebggaa.DD
