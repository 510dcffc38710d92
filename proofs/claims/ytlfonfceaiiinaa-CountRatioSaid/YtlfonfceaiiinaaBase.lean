/- Small facts for the pure statements: wrapping, a list from its j-th element on, loops by rounds. -/
import Derived.Test.YtlfonfceaiiinaaCut
import Derived.Lib.Strings
import Derived.Lib.SmallJoins
import Derived.WideShapes
namespace Go.Proofs.Ytlfonfceaiiinaa.PB
open Go.RowKit Go.Proofs.YtlfonfceaiiinaaW.PrintWords Go.Proofs.YtlfonfceaiiinaaW.PrintLast

def InR (x : Int) : Prop := -9223372036854775808 ≤ x ∧ x ≤ 9223372036854775807
theorem wrap_in {x : Int} (h : InR x) : wrap64 x = x := by
  unfold InR at h
  unfold wrap64
  omega
theorem in_wrap (x : Int) : InR (wrap64 x) := by
  unfold InR wrap64
  omega
theorem in_zero : InR 0 := by unfold InR; omega
theorem wrap_nat {n : Nat} (h : n ≤ 9223372036854775807) : wrap64 (n : Int) = n := wrap_in (by unfold InR; omega)
theorem wrap_succ {i n : Nat} (h : i < n) (hn : n ≤ 9223372036854775807) : wrap64 ((i : Int) + 1) = ((i + 1 : Nat) : Int) := by
  unfold wrap64
  omega
theorem wrap_add_zero {x : Int} (h : InR x) : wrap64 (x + 0) = x := by rw [Int.add_zero]; exact wrap_in h
theorem wrap_wrap_add (x y : Int) : wrap64 (wrap64 x + y) = wrap64 (x + y) := by
  unfold wrap64
  omega
theorem wrap_add_wrap (x y : Int) : wrap64 (x + wrap64 y) = wrap64 (x + y) := by
  unfold wrap64
  omega
theorem wf_in {x : Int} (h : (Lit.int .i64 x).wf = true) : InR x := by
  have hx : -9223372036854775808 ≤ x ∧ x ≤ 9223372036854775807 := by simpa [Lit.wf, IntKind.min, IntKind.max, IntKind.signed, IntKind.bits] using h
  exact hx
theorem wf_u64 {x : Int} (h : (Lit.int .u64 x).wf = true) : 0 ≤ x ∧ x ≤ 18446744073709551615 := by
  simpa [Lit.wf, IntKind.min, IntKind.max, IntKind.signed, IntKind.bits] using h
theorem wf_u32 {x : Int} (h : (Lit.int .u32 x).wf = true) : 0 ≤ x ∧ x ≤ 4294967295 := by
  simpa [Lit.wf, IntKind.min, IntKind.max, IntKind.signed, IntKind.bits] using h
theorem wf_u8 {x : Int} (h : (Lit.int .u8 x).wf = true) : 0 ≤ x ∧ x ≤ 255 := by
  simpa [Lit.wf, IntKind.min, IntKind.max, IntKind.signed, IntKind.bits] using h

theorem drop_getD {α : Type} {l : List α} {j : Nat} (z : α) (h : j < l.length) : l.drop j = l.getD j z :: l.drop (j + 1) := by
  rw [List.drop_eq_getElem_cons h, List.getD_eq_getElem?_getD, List.getElem?_eq_getElem h]
  rfl
theorem take_getD {α : Type} {l : List α} {j : Nat} (z : α) (h : j < l.length) : l.take (j + 1) = l.take j ++ [l.getD j z] := by
  rw [List.take_succ_eq_append_getElem h, List.getD_eq_getElem?_getD, List.getElem?_eq_getElem h]
  rfl
theorem getD_mem {α : Type} {l : List α} {j : Nat} (z : α) (h : j < l.length) : l.getD j z ∈ l := by
  rw [List.getD_eq_getElem?_getD, List.getElem?_eq_getElem h]
  exact List.getElem_mem h
theorem toNat_cast (j : Nat) : ((j : Int)).toNat = j := Int.toNat_natCast j
theorem succ_of {k d : Nat} (h : d < k) : ∃ m, k = m + 1 := ⟨k - 1, by omega⟩
theorem Ev.ge {α : Type} {g : Nat → Option α} {r : α} (h : Ev g r) (n : Nat) : ∃ K, n ≤ K ∧ ∀ k, K ≤ k → g k = some r := by
  obtain ⟨K, h⟩ := h
  exact ⟨max n K, by omega, fun k hk => h k (by omega)⟩

/-! texts as lists of bytes -/
def L (s : ByteArray) : List UInt8 := s.data.toList
theorem L_toList (s : ByteArray) : s.toList = L s := ByteArray.toList_eq s
theorem L_inj {a b : ByteArray} (h : L a = L b) : a = b := Go.WideShapes.bytes_inj h
theorem L_length (s : ByteArray) : (L s).length = s.size := data_length s
theorem L_append (a b : ByteArray) : L (a ++ b) = L a ++ L b := by
  unfold L
  rw [ByteArray.data_append, Array.toList_append]
theorem L_extract (s : ByteArray) (a b : Nat) : L (s.extract a b) = ((L s).drop a).take (b - a) := Lib.extract_data s a b
theorem L_from (s : ByteArray) (a : Nat) : L (s.extract a s.size) = (L s).drop a := by
  rw [L_extract, List.take_of_length_le]
  rw [List.length_drop, L_length]
  omega
theorem L_upto (s : ByteArray) (b : Nat) : L (s.extract 0 b) = (L s).take b := by rw [L_extract, List.drop_zero, Nat.sub_zero]
theorem L_nums (xs : List Int) : L (strOfNums xs) = xs.map fun n => UInt8.ofNat n.toNat := rfl
theorem L_empty : L (⟨#[]⟩ : ByteArray) = [] := rfl
theorem L_mk (l : List UInt8) : L ⟨l.toArray⟩ = l := rfl
theorem size_append (a b : ByteArray) : (a ++ b).size = a.size + b.size := by rw [← L_length, L_append, List.length_append, L_length, L_length]
theorem size_nums (xs : List Int) : (strOfNums xs).size = xs.length := by rw [← L_length, L_nums, List.length_map]
theorem bt_L (s : ByteArray) (j : Nat) (h : j < s.size) : bt s (j : Int) = ((L s)[j]'(by rw [L_length]; exact h)).toNat := by
  unfold bt
  have h2 : (j : Int).toNat < s.size := by simpa using h
  rw [dif_pos h2]
  rfl
theorem bt_getD (s : ByteArray) (j : Nat) (h : j < s.size) : bt s (j : Int) = (((L s).getD j 0).toNat : Int) := by
  rw [bt_L s j h, List.getD_eq_getElem?_getD, List.getElem?_eq_getElem (by rw [L_length]; exact h)]
  rfl
theorem size_le_upto (s : ByteArray) (b : Nat) (h : b ≤ s.size) : (s.extract 0 b).size = b := by
  rw [← L_length, L_upto, List.length_take, L_length]
  omega
end Go.Proofs.Ytlfonfceaiiinaa.PB
