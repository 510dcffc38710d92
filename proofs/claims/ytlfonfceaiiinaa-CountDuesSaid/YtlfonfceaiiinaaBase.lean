/- Small facts for the pure statements: wrapping, a list from its j-th element on, loops by rounds. -/
import Derived.Test.YtlfonfceaiiinaaWMore
namespace Go.Proofs.Ytlfonfceaiiinaa.PB
open Go.RowKit Go.Proofs.YtlfonfceaiiinaaW.PrintWords Go.Proofs.YtlfonfceaiiinaaW.PrintLast

def InR (x : Int) : Prop := -9223372036854775808 ≤ x ∧ x ≤ 9223372036854775807
theorem wrap_in {x : Int} (h : InR x) : wrap64 x = x := by
  unfold InR at h
  unfold wrap64
  omega
theorem in_wrap (x : Int) : InR (wrap64 x) := by
  unfold InR wrap64
  omega
theorem in_zero : InR 0 := by unfold InR; omega
theorem wrap_nat {n : Nat} (h : n ≤ 9223372036854775807) : wrap64 (n : Int) = n := wrap_in (by unfold InR; omega)
theorem wrap_succ {i n : Nat} (h : i < n) (hn : n ≤ 9223372036854775807) : wrap64 ((i : Int) + 1) = ((i + 1 : Nat) : Int) := by
  unfold wrap64
  omega
theorem wrap_add_zero {x : Int} (h : InR x) : wrap64 (x + 0) = x := by rw [Int.add_zero]; exact wrap_in h
theorem wrap_wrap_add (x y : Int) : wrap64 (wrap64 x + y) = wrap64 (x + y) := by
  unfold wrap64
  omega
theorem wrap_add_wrap (x y : Int) : wrap64 (x + wrap64 y) = wrap64 (x + y) := by
  unfold wrap64
  omega
theorem wf_in {x : Int} (h : (Lit.int .i64 x).wf = true) : InR x := by
  have hx : -9223372036854775808 ≤ x ∧ x ≤ 9223372036854775807 := by simpa [Lit.wf, IntKind.min, IntKind.max, IntKind.signed, IntKind.bits] using h
  exact hx
theorem wf_u64 {x : Int} (h : (Lit.int .u64 x).wf = true) : 0 ≤ x ∧ x ≤ 18446744073709551615 := by
  simpa [Lit.wf, IntKind.min, IntKind.max, IntKind.signed, IntKind.bits] using h
theorem wf_u32 {x : Int} (h : (Lit.int .u32 x).wf = true) : 0 ≤ x ∧ x ≤ 4294967295 := by
  simpa [Lit.wf, IntKind.min, IntKind.max, IntKind.signed, IntKind.bits] using h
theorem wf_u8 {x : Int} (h : (Lit.int .u8 x).wf = true) : 0 ≤ x ∧ x ≤ 255 := by
  simpa [Lit.wf, IntKind.min, IntKind.max, IntKind.signed, IntKind.bits] using h

theorem drop_getD {α : Type} {l : List α} {j : Nat} (z : α) (h : j < l.length) : l.drop j = l.getD j z :: l.drop (j + 1) := by
  rw [List.drop_eq_getElem_cons h, List.getD_eq_getElem?_getD, List.getElem?_eq_getElem h]
  rfl
theorem take_getD {α : Type} {l : List α} {j : Nat} (z : α) (h : j < l.length) : l.take (j + 1) = l.take j ++ [l.getD j z] := by
  rw [List.take_succ_eq_append_getElem h, List.getD_eq_getElem?_getD, List.getElem?_eq_getElem h]
  rfl
theorem getD_mem {α : Type} {l : List α} {j : Nat} (z : α) (h : j < l.length) : l.getD j z ∈ l := by
  rw [List.getD_eq_getElem?_getD, List.getElem?_eq_getElem h]
  exact List.getElem_mem h
theorem toNat_cast (j : Nat) : ((j : Int)).toNat = j := Int.toNat_natCast j
theorem succ_of {k d : Nat} (h : d < k) : ∃ m, k = m + 1 := ⟨k - 1, by omega⟩
theorem Ev.ge {α : Type} {g : Nat → Option α} {r : α} (h : Ev g r) (n : Nat) : ∃ K, n ≤ K ∧ ∀ k, K ≤ k → g k = some r := by
  obtain ⟨K, h⟩ := h
  exact ⟨max n K, by omega, fun k hk => h k (by omega)⟩
end Go.Proofs.Ytlfonfceaiiinaa.PB
