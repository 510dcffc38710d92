/- Functions of the program as plain Lean functions, and that each call comes to what they say. Laid by a program of this session (hprint.py); Lean checks it. -/
import Derived.Test.YtmjmmgefkebggaaProg
import Derived.Below
import Derived.Deep.Draws
import Derived.Deep.AppendLies
import Derived.Maps.AppendAt
import Derived.OwnWalk
import Derived.Laws.BytesArg
import Derived.Laws.MakeOwn
import Derived.Laws.OwnMore
import Derived.Deep.OwnRows
import Derived.Tactics
import Derived.Lib.ConvBytes
import Derived.Laws.Slices
import Derived.WalkKit
import Derived.KernelRfl
import Derived.RowKit3
import Derived.Deep.LoopGhost
import Derived.Deep.QuietTactic
import Derived.BigQuiet
import Derived.WideLaws
import Derived.Deep.DeepCutAuto
import Derived.Deep.CutBlock
import Derived.Deep.RegionHeld3
import Derived.Laws.Rows
import Derived.Lib.AppendStr
import Derived.ArgAppend
import Derived.Laws.IdiomCopy
import Derived.OrdersHeld
import Derived.Laws.BitsLemmas
import Derived.RowKit
import Derived.Handy
import Derived.OpenShut
import Derived.ScopeJumps
import Derived.WalkMore
import Derived.Laws.BitsAllLaws
import Derived.Deep.Slices
import Derived.Lib.SliceRun
import Derived.Test.YtmjmmgefkebggaaWWords
import Derived.Test.YtmjmmgefkebggaaWLast
import Derived.Test.YtmjmmgefkebggaaWTab
import Derived.Test.YtmjmmgefkebggaaWQPut
import Derived.Test.YtmjmmgefkebggaaWApart
import Derived.Test.YtmjmmgefkebggaaWArr
import Derived.Test.YtmjmmgefkebggaaWZeros
import Derived.Test.YtmjmmgefkebggaaWFoot
import Derived.Test.YtmjmmgefkebggaaWKept
import Derived.Test.YtmjmmgefkebggaaWShare
import Derived.Test.YtmjmmgefkebggaaWN
import Derived.Test.YtmjmmgefkebggaaWEqStruct
import Derived.Test.YtmjmmgefkebggaaWRepsOne
import Derived.Test.YtmjmmgefkebggaaWGuard
import Derived.Test.YtmjmmgefkebggaaWNEv
import Derived.Test.YtmjmmgefkebggaaWMore
namespace Go.Proofs.Ytmjmmgefkebggaa.PAll
open Go.RowKit Go.Proofs.YtmjmmgefkebggaaW.PrintWords Go.Proofs.YtmjmmgefkebggaaW.PrintLast Go.Proofs.YtmjmmgefkebggaaW.PrintMore
attribute [local go_sem] max2_int min2_int max_two min_two max_three min_three max_four min_four   -- for this text's walks alone
set_option linter.unusedVariables false
set_option linter.unusedSimpArgs false



def errW : Option Int → Value
  | none => .nilIface
  | some c => .iface 0 (.int .i64 c)
theorem errW_none : errW none = .nilIface := rfl
theorem errW_some (c : Int) : errW (some c) = .iface 0 (.int .i64 c) := rfl

-- the values' own types
/-! #### struct type 69 -/
structure S69 where
  f0 : Int
  f1 : Int
def z69 : S69 := ⟨(0 : Int), (0 : Int)⟩
def k69 : Kd S69 := Kd.iso (Kd.pair (Kd.int .i64) (Kd.int .i64)) (fun x : S69 => (x.f0, x.f1))
theorem k69_open {w : World} {x : S69} {cs : List Value} (h : k69.K w x cs) : cs = [.int .i64 x.f0, .int .i64 x.f1] := by
  obtain ⟨_, _, rfl, rfl, rfl⟩ := h
  exact rfl
theorem k69_openM {w : World} {base : Nat} {ok : Nat → Prop} {x : S69} {cs : List Value} (h : k69.M w base ok x cs) : cs = [.int .i64 x.f0, .int .i64 x.f1] := by
  obtain ⟨_, _, rfl, rfl, rfl⟩ := h
  exact rfl
theorem k69_mk (w : World) (x : S69)  : k69.K w x [.int .i64 x.f0, .int .i64 x.f1] := ⟨[.int .i64 x.f0], [.int .i64 x.f1], rfl, rfl, rfl⟩
theorem k69_mkM (w : World) (base : Nat) (ok : Nat → Prop) (x : S69)  : k69.M w base ok x [.int .i64 x.f0, .int .i64 x.f1] := ⟨[.int .i64 x.f0], [.int .i64 x.f1], rfl, rfl, rfl⟩
def rd_T69 (xs : List S69) (i : Int) : S69 := xs.getD i.toNat z69
theorem at_T69 {w : World} {A : Option Addr} {n : Nat} {xs : List S69} (h : Kd.C k69 w A n xs) (i : Int) (h0 : 0 ≤ i) (h1 : i < n) : ∃ ad , A = some ad ∧ w.cell? (ad.add (i.toNat * 2)) = some (.int .i64 (rd_T69 xs i).f0) ∧ w.cell? ⟨(ad.add (i.toNat * 2)).block, (ad.add (i.toNat * 2)).off + 1, none⟩ = some (.int .i64 (rd_T69 xs i).f1) := by
  obtain ⟨ad, c, e, _, hK, hc0⟩ := Kd.C_get h z69 i h0 h1
  have hc : ∀ j u, c[j]? = some u → w.cell? (ad.add (i.toNat * 2 + j)) = some u := hc0
  obtain rfl := k69_open hK
  exact ⟨ad, e, hc 0 _ rfl, by rw [← add_field _ _ 1 (by omega)]; exact hc 1 _ rfl⟩

/-! #### struct type 23 -/
structure S23 where
  f0 : Int
  f1 : Int
  f2 : ByteArray
  f3 : ByteArray
  f4 : Int
def z23 : S23 := ⟨(0 : Int), (0 : Int), (⟨#[]⟩ : ByteArray), (⟨#[]⟩ : ByteArray), (0 : Int)⟩
def k23 : Kd S23 := Kd.iso (Kd.pair (Kd.int .i64) (Kd.pair (Kd.int .i64) (Kd.pair Kd.string (Kd.pair Kd.string (Kd.int .i64))))) (fun x : S23 => (x.f0, x.f1, x.f2, x.f3, x.f4))
theorem k23_open {w : World} {x : S23} {cs : List Value} (h : k23.K w x cs) : cs = [.int .i64 x.f0, .int .i64 x.f1, .string x.f2, .string x.f3, .int .i64 x.f4] := by
  obtain ⟨_, _, rfl, rfl, ⟨_, _, rfl, rfl, ⟨_, _, rfl, rfl, ⟨_, _, rfl, rfl, rfl⟩⟩⟩⟩ := h
  exact rfl
theorem k23_openM {w : World} {base : Nat} {ok : Nat → Prop} {x : S23} {cs : List Value} (h : k23.M w base ok x cs) : cs = [.int .i64 x.f0, .int .i64 x.f1, .string x.f2, .string x.f3, .int .i64 x.f4] := by
  obtain ⟨_, _, rfl, rfl, ⟨_, _, rfl, rfl, ⟨_, _, rfl, rfl, ⟨_, _, rfl, rfl, rfl⟩⟩⟩⟩ := h
  exact rfl
theorem k23_mk (w : World) (x : S23)  : k23.K w x [.int .i64 x.f0, .int .i64 x.f1, .string x.f2, .string x.f3, .int .i64 x.f4] := ⟨[.int .i64 x.f0], [.int .i64 x.f1, .string x.f2, .string x.f3, .int .i64 x.f4], rfl, rfl, ⟨[.int .i64 x.f1], [.string x.f2, .string x.f3, .int .i64 x.f4], rfl, rfl, ⟨[.string x.f2], [.string x.f3, .int .i64 x.f4], rfl, rfl, ⟨[.string x.f3], [.int .i64 x.f4], rfl, rfl, rfl⟩⟩⟩⟩
theorem k23_mkM (w : World) (base : Nat) (ok : Nat → Prop) (x : S23)  : k23.M w base ok x [.int .i64 x.f0, .int .i64 x.f1, .string x.f2, .string x.f3, .int .i64 x.f4] := ⟨[.int .i64 x.f0], [.int .i64 x.f1, .string x.f2, .string x.f3, .int .i64 x.f4], rfl, rfl, ⟨[.int .i64 x.f1], [.string x.f2, .string x.f3, .int .i64 x.f4], rfl, rfl, ⟨[.string x.f2], [.string x.f3, .int .i64 x.f4], rfl, rfl, ⟨[.string x.f3], [.int .i64 x.f4], rfl, rfl, rfl⟩⟩⟩⟩
def rd_T23 (xs : List S23) (i : Int) : S23 := xs.getD i.toNat z23
theorem at_T23 {w : World} {A : Option Addr} {n : Nat} {xs : List S23} (h : Kd.C k23 w A n xs) (i : Int) (h0 : 0 ≤ i) (h1 : i < n) : ∃ ad , A = some ad ∧ w.cell? (ad.add (i.toNat * 5)) = some (.int .i64 (rd_T23 xs i).f0) ∧ w.cell? ⟨(ad.add (i.toNat * 5)).block, (ad.add (i.toNat * 5)).off + 1, none⟩ = some (.int .i64 (rd_T23 xs i).f1) ∧ w.cell? ⟨(ad.add (i.toNat * 5)).block, (ad.add (i.toNat * 5)).off + 2, none⟩ = some (.string (rd_T23 xs i).f2) ∧ w.cell? ⟨(ad.add (i.toNat * 5)).block, (ad.add (i.toNat * 5)).off + 3, none⟩ = some (.string (rd_T23 xs i).f3) ∧ w.cell? ⟨(ad.add (i.toNat * 5)).block, (ad.add (i.toNat * 5)).off + 4, none⟩ = some (.int .i64 (rd_T23 xs i).f4) := by
  obtain ⟨ad, c, e, _, hK, hc0⟩ := Kd.C_get h z23 i h0 h1
  have hc : ∀ j u, c[j]? = some u → w.cell? (ad.add (i.toNat * 5 + j)) = some u := hc0
  obtain rfl := k23_open hK
  exact ⟨ad, e, hc 0 _ rfl, by rw [← add_field _ _ 1 (by omega)]; exact hc 1 _ rfl, by rw [← add_field _ _ 2 (by omega)]; exact hc 2 _ rfl, by rw [← add_field _ _ 3 (by omega)]; exact hc 3 _ rfl, by rw [← add_field _ _ 4 (by omega)]; exact hc 4 _ rfl⟩

/-! #### struct type 28 -/
structure S28 where
  f0 : Int
  f1 : Int
  f2 : ByteArray
  f3 : ByteArray
  f4 : Int
  f5 : Int
  f6 : Int
  f7 : Int
  f8 : Int
  f9 : Int
  f10 : Int
  f11 : Int
  f12 : ByteArray
  f13 : Bool
def z28 : S28 := ⟨(0 : Int), (0 : Int), (⟨#[]⟩ : ByteArray), (⟨#[]⟩ : ByteArray), (0 : Int), (0 : Int), (0 : Int), (0 : Int), (0 : Int), (0 : Int), (0 : Int), (0 : Int), (⟨#[]⟩ : ByteArray), false⟩
def k28 : Kd S28 := Kd.iso (Kd.pair (Kd.int .i64) (Kd.pair (Kd.int .i64) (Kd.pair Kd.string (Kd.pair Kd.string (Kd.pair (Kd.int .i64) (Kd.pair (Kd.int .i64) (Kd.pair (Kd.int .i64) (Kd.pair (Kd.int .i64) (Kd.pair (Kd.int .i64) (Kd.pair (Kd.int .u32) (Kd.pair (Kd.int .i64) (Kd.pair (Kd.int .i64) (Kd.pair Kd.string Kd.bool))))))))))))) (fun x : S28 => (x.f0, x.f1, x.f2, x.f3, x.f4, x.f5, x.f6, x.f7, x.f8, x.f9, x.f10, x.f11, x.f12, x.f13))
theorem k28_open {w : World} {x : S28} {cs : List Value} (h : k28.K w x cs) : cs = [.int .i64 x.f0, .int .i64 x.f1, .string x.f2, .string x.f3, .int .i64 x.f4, .int .i64 x.f5, .int .i64 x.f6, .int .i64 x.f7, .int .i64 x.f8, .int .u32 x.f9, .int .i64 x.f10, .int .i64 x.f11, .string x.f12, .bool x.f13] := by
  obtain ⟨_, _, rfl, rfl, ⟨_, _, rfl, rfl, ⟨_, _, rfl, rfl, ⟨_, _, rfl, rfl, ⟨_, _, rfl, rfl, ⟨_, _, rfl, rfl, ⟨_, _, rfl, rfl, ⟨_, _, rfl, rfl, ⟨_, _, rfl, rfl, ⟨_, _, rfl, rfl, ⟨_, _, rfl, rfl, ⟨_, _, rfl, rfl, ⟨_, _, rfl, rfl, rfl⟩⟩⟩⟩⟩⟩⟩⟩⟩⟩⟩⟩⟩ := h
  exact rfl
theorem k28_openM {w : World} {base : Nat} {ok : Nat → Prop} {x : S28} {cs : List Value} (h : k28.M w base ok x cs) : cs = [.int .i64 x.f0, .int .i64 x.f1, .string x.f2, .string x.f3, .int .i64 x.f4, .int .i64 x.f5, .int .i64 x.f6, .int .i64 x.f7, .int .i64 x.f8, .int .u32 x.f9, .int .i64 x.f10, .int .i64 x.f11, .string x.f12, .bool x.f13] := by
  obtain ⟨_, _, rfl, rfl, ⟨_, _, rfl, rfl, ⟨_, _, rfl, rfl, ⟨_, _, rfl, rfl, ⟨_, _, rfl, rfl, ⟨_, _, rfl, rfl, ⟨_, _, rfl, rfl, ⟨_, _, rfl, rfl, ⟨_, _, rfl, rfl, ⟨_, _, rfl, rfl, ⟨_, _, rfl, rfl, ⟨_, _, rfl, rfl, ⟨_, _, rfl, rfl, rfl⟩⟩⟩⟩⟩⟩⟩⟩⟩⟩⟩⟩⟩ := h
  exact rfl
theorem k28_mk (w : World) (x : S28)  : k28.K w x [.int .i64 x.f0, .int .i64 x.f1, .string x.f2, .string x.f3, .int .i64 x.f4, .int .i64 x.f5, .int .i64 x.f6, .int .i64 x.f7, .int .i64 x.f8, .int .u32 x.f9, .int .i64 x.f10, .int .i64 x.f11, .string x.f12, .bool x.f13] := ⟨[.int .i64 x.f0], [.int .i64 x.f1, .string x.f2, .string x.f3, .int .i64 x.f4, .int .i64 x.f5, .int .i64 x.f6, .int .i64 x.f7, .int .i64 x.f8, .int .u32 x.f9, .int .i64 x.f10, .int .i64 x.f11, .string x.f12, .bool x.f13], rfl, rfl, ⟨[.int .i64 x.f1], [.string x.f2, .string x.f3, .int .i64 x.f4, .int .i64 x.f5, .int .i64 x.f6, .int .i64 x.f7, .int .i64 x.f8, .int .u32 x.f9, .int .i64 x.f10, .int .i64 x.f11, .string x.f12, .bool x.f13], rfl, rfl, ⟨[.string x.f2], [.string x.f3, .int .i64 x.f4, .int .i64 x.f5, .int .i64 x.f6, .int .i64 x.f7, .int .i64 x.f8, .int .u32 x.f9, .int .i64 x.f10, .int .i64 x.f11, .string x.f12, .bool x.f13], rfl, rfl, ⟨[.string x.f3], [.int .i64 x.f4, .int .i64 x.f5, .int .i64 x.f6, .int .i64 x.f7, .int .i64 x.f8, .int .u32 x.f9, .int .i64 x.f10, .int .i64 x.f11, .string x.f12, .bool x.f13], rfl, rfl, ⟨[.int .i64 x.f4], [.int .i64 x.f5, .int .i64 x.f6, .int .i64 x.f7, .int .i64 x.f8, .int .u32 x.f9, .int .i64 x.f10, .int .i64 x.f11, .string x.f12, .bool x.f13], rfl, rfl, ⟨[.int .i64 x.f5], [.int .i64 x.f6, .int .i64 x.f7, .int .i64 x.f8, .int .u32 x.f9, .int .i64 x.f10, .int .i64 x.f11, .string x.f12, .bool x.f13], rfl, rfl, ⟨[.int .i64 x.f6], [.int .i64 x.f7, .int .i64 x.f8, .int .u32 x.f9, .int .i64 x.f10, .int .i64 x.f11, .string x.f12, .bool x.f13], rfl, rfl, ⟨[.int .i64 x.f7], [.int .i64 x.f8, .int .u32 x.f9, .int .i64 x.f10, .int .i64 x.f11, .string x.f12, .bool x.f13], rfl, rfl, ⟨[.int .i64 x.f8], [.int .u32 x.f9, .int .i64 x.f10, .int .i64 x.f11, .string x.f12, .bool x.f13], rfl, rfl, ⟨[.int .u32 x.f9], [.int .i64 x.f10, .int .i64 x.f11, .string x.f12, .bool x.f13], rfl, rfl, ⟨[.int .i64 x.f10], [.int .i64 x.f11, .string x.f12, .bool x.f13], rfl, rfl, ⟨[.int .i64 x.f11], [.string x.f12, .bool x.f13], rfl, rfl, ⟨[.string x.f12], [.bool x.f13], rfl, rfl, rfl⟩⟩⟩⟩⟩⟩⟩⟩⟩⟩⟩⟩⟩
theorem k28_mkM (w : World) (base : Nat) (ok : Nat → Prop) (x : S28)  : k28.M w base ok x [.int .i64 x.f0, .int .i64 x.f1, .string x.f2, .string x.f3, .int .i64 x.f4, .int .i64 x.f5, .int .i64 x.f6, .int .i64 x.f7, .int .i64 x.f8, .int .u32 x.f9, .int .i64 x.f10, .int .i64 x.f11, .string x.f12, .bool x.f13] := ⟨[.int .i64 x.f0], [.int .i64 x.f1, .string x.f2, .string x.f3, .int .i64 x.f4, .int .i64 x.f5, .int .i64 x.f6, .int .i64 x.f7, .int .i64 x.f8, .int .u32 x.f9, .int .i64 x.f10, .int .i64 x.f11, .string x.f12, .bool x.f13], rfl, rfl, ⟨[.int .i64 x.f1], [.string x.f2, .string x.f3, .int .i64 x.f4, .int .i64 x.f5, .int .i64 x.f6, .int .i64 x.f7, .int .i64 x.f8, .int .u32 x.f9, .int .i64 x.f10, .int .i64 x.f11, .string x.f12, .bool x.f13], rfl, rfl, ⟨[.string x.f2], [.string x.f3, .int .i64 x.f4, .int .i64 x.f5, .int .i64 x.f6, .int .i64 x.f7, .int .i64 x.f8, .int .u32 x.f9, .int .i64 x.f10, .int .i64 x.f11, .string x.f12, .bool x.f13], rfl, rfl, ⟨[.string x.f3], [.int .i64 x.f4, .int .i64 x.f5, .int .i64 x.f6, .int .i64 x.f7, .int .i64 x.f8, .int .u32 x.f9, .int .i64 x.f10, .int .i64 x.f11, .string x.f12, .bool x.f13], rfl, rfl, ⟨[.int .i64 x.f4], [.int .i64 x.f5, .int .i64 x.f6, .int .i64 x.f7, .int .i64 x.f8, .int .u32 x.f9, .int .i64 x.f10, .int .i64 x.f11, .string x.f12, .bool x.f13], rfl, rfl, ⟨[.int .i64 x.f5], [.int .i64 x.f6, .int .i64 x.f7, .int .i64 x.f8, .int .u32 x.f9, .int .i64 x.f10, .int .i64 x.f11, .string x.f12, .bool x.f13], rfl, rfl, ⟨[.int .i64 x.f6], [.int .i64 x.f7, .int .i64 x.f8, .int .u32 x.f9, .int .i64 x.f10, .int .i64 x.f11, .string x.f12, .bool x.f13], rfl, rfl, ⟨[.int .i64 x.f7], [.int .i64 x.f8, .int .u32 x.f9, .int .i64 x.f10, .int .i64 x.f11, .string x.f12, .bool x.f13], rfl, rfl, ⟨[.int .i64 x.f8], [.int .u32 x.f9, .int .i64 x.f10, .int .i64 x.f11, .string x.f12, .bool x.f13], rfl, rfl, ⟨[.int .u32 x.f9], [.int .i64 x.f10, .int .i64 x.f11, .string x.f12, .bool x.f13], rfl, rfl, ⟨[.int .i64 x.f10], [.int .i64 x.f11, .string x.f12, .bool x.f13], rfl, rfl, ⟨[.int .i64 x.f11], [.string x.f12, .bool x.f13], rfl, rfl, ⟨[.string x.f12], [.bool x.f13], rfl, rfl, rfl⟩⟩⟩⟩⟩⟩⟩⟩⟩⟩⟩⟩⟩
def rd_T28 (xs : List S28) (i : Int) : S28 := xs.getD i.toNat z28
theorem at_T28 {w : World} {A : Option Addr} {n : Nat} {xs : List S28} (h : Kd.C k28 w A n xs) (i : Int) (h0 : 0 ≤ i) (h1 : i < n) : ∃ ad , A = some ad ∧ w.cell? (ad.add (i.toNat * 14)) = some (.int .i64 (rd_T28 xs i).f0) ∧ w.cell? ⟨(ad.add (i.toNat * 14)).block, (ad.add (i.toNat * 14)).off + 1, none⟩ = some (.int .i64 (rd_T28 xs i).f1) ∧ w.cell? ⟨(ad.add (i.toNat * 14)).block, (ad.add (i.toNat * 14)).off + 2, none⟩ = some (.string (rd_T28 xs i).f2) ∧ w.cell? ⟨(ad.add (i.toNat * 14)).block, (ad.add (i.toNat * 14)).off + 3, none⟩ = some (.string (rd_T28 xs i).f3) ∧ w.cell? ⟨(ad.add (i.toNat * 14)).block, (ad.add (i.toNat * 14)).off + 4, none⟩ = some (.int .i64 (rd_T28 xs i).f4) ∧ w.cell? ⟨(ad.add (i.toNat * 14)).block, (ad.add (i.toNat * 14)).off + 5, none⟩ = some (.int .i64 (rd_T28 xs i).f5) ∧ w.cell? ⟨(ad.add (i.toNat * 14)).block, (ad.add (i.toNat * 14)).off + 6, none⟩ = some (.int .i64 (rd_T28 xs i).f6) ∧ w.cell? ⟨(ad.add (i.toNat * 14)).block, (ad.add (i.toNat * 14)).off + 7, none⟩ = some (.int .i64 (rd_T28 xs i).f7) ∧ w.cell? ⟨(ad.add (i.toNat * 14)).block, (ad.add (i.toNat * 14)).off + 8, none⟩ = some (.int .i64 (rd_T28 xs i).f8) ∧ w.cell? ⟨(ad.add (i.toNat * 14)).block, (ad.add (i.toNat * 14)).off + 9, none⟩ = some (.int .u32 (rd_T28 xs i).f9) ∧ w.cell? ⟨(ad.add (i.toNat * 14)).block, (ad.add (i.toNat * 14)).off + 10, none⟩ = some (.int .i64 (rd_T28 xs i).f10) ∧ w.cell? ⟨(ad.add (i.toNat * 14)).block, (ad.add (i.toNat * 14)).off + 11, none⟩ = some (.int .i64 (rd_T28 xs i).f11) ∧ w.cell? ⟨(ad.add (i.toNat * 14)).block, (ad.add (i.toNat * 14)).off + 12, none⟩ = some (.string (rd_T28 xs i).f12) ∧ w.cell? ⟨(ad.add (i.toNat * 14)).block, (ad.add (i.toNat * 14)).off + 13, none⟩ = some (.bool (rd_T28 xs i).f13) := by
  obtain ⟨ad, c, e, _, hK, hc0⟩ := Kd.C_get h z28 i h0 h1
  have hc : ∀ j u, c[j]? = some u → w.cell? (ad.add (i.toNat * 14 + j)) = some u := hc0
  obtain rfl := k28_open hK
  exact ⟨ad, e, hc 0 _ rfl, by rw [← add_field _ _ 1 (by omega)]; exact hc 1 _ rfl, by rw [← add_field _ _ 2 (by omega)]; exact hc 2 _ rfl, by rw [← add_field _ _ 3 (by omega)]; exact hc 3 _ rfl, by rw [← add_field _ _ 4 (by omega)]; exact hc 4 _ rfl, by rw [← add_field _ _ 5 (by omega)]; exact hc 5 _ rfl, by rw [← add_field _ _ 6 (by omega)]; exact hc 6 _ rfl, by rw [← add_field _ _ 7 (by omega)]; exact hc 7 _ rfl, by rw [← add_field _ _ 8 (by omega)]; exact hc 8 _ rfl, by rw [← add_field _ _ 9 (by omega)]; exact hc 9 _ rfl, by rw [← add_field _ _ 10 (by omega)]; exact hc 10 _ rfl, by rw [← add_field _ _ 11 (by omega)]; exact hc 11 _ rfl, by rw [← add_field _ _ 12 (by omega)]; exact hc 12 _ rfl, by rw [← add_field _ _ 13 (by omega)]; exact hc 13 _ rfl⟩

/-! #### struct type 42 -/
structure S42 where
  f0 : Int
  f1 : Int
  f2 : Int
  f3 : Int
  f4 : Int
  f5 : Bool
def z42 : S42 := ⟨(0 : Int), (0 : Int), (0 : Int), (0 : Int), (0 : Int), false⟩
def k42 : Kd S42 := Kd.iso (Kd.pair (Kd.int .i64) (Kd.pair (Kd.int .i64) (Kd.pair (Kd.int .i64) (Kd.pair (Kd.int .i64) (Kd.pair (Kd.int .u32) Kd.bool))))) (fun x : S42 => (x.f0, x.f1, x.f2, x.f3, x.f4, x.f5))
theorem k42_open {w : World} {x : S42} {cs : List Value} (h : k42.K w x cs) : cs = [.int .i64 x.f0, .int .i64 x.f1, .int .i64 x.f2, .int .i64 x.f3, .int .u32 x.f4, .bool x.f5] := by
  obtain ⟨_, _, rfl, rfl, ⟨_, _, rfl, rfl, ⟨_, _, rfl, rfl, ⟨_, _, rfl, rfl, ⟨_, _, rfl, rfl, rfl⟩⟩⟩⟩⟩ := h
  exact rfl
theorem k42_openM {w : World} {base : Nat} {ok : Nat → Prop} {x : S42} {cs : List Value} (h : k42.M w base ok x cs) : cs = [.int .i64 x.f0, .int .i64 x.f1, .int .i64 x.f2, .int .i64 x.f3, .int .u32 x.f4, .bool x.f5] := by
  obtain ⟨_, _, rfl, rfl, ⟨_, _, rfl, rfl, ⟨_, _, rfl, rfl, ⟨_, _, rfl, rfl, ⟨_, _, rfl, rfl, rfl⟩⟩⟩⟩⟩ := h
  exact rfl
theorem k42_mk (w : World) (x : S42)  : k42.K w x [.int .i64 x.f0, .int .i64 x.f1, .int .i64 x.f2, .int .i64 x.f3, .int .u32 x.f4, .bool x.f5] := ⟨[.int .i64 x.f0], [.int .i64 x.f1, .int .i64 x.f2, .int .i64 x.f3, .int .u32 x.f4, .bool x.f5], rfl, rfl, ⟨[.int .i64 x.f1], [.int .i64 x.f2, .int .i64 x.f3, .int .u32 x.f4, .bool x.f5], rfl, rfl, ⟨[.int .i64 x.f2], [.int .i64 x.f3, .int .u32 x.f4, .bool x.f5], rfl, rfl, ⟨[.int .i64 x.f3], [.int .u32 x.f4, .bool x.f5], rfl, rfl, ⟨[.int .u32 x.f4], [.bool x.f5], rfl, rfl, rfl⟩⟩⟩⟩⟩
theorem k42_mkM (w : World) (base : Nat) (ok : Nat → Prop) (x : S42)  : k42.M w base ok x [.int .i64 x.f0, .int .i64 x.f1, .int .i64 x.f2, .int .i64 x.f3, .int .u32 x.f4, .bool x.f5] := ⟨[.int .i64 x.f0], [.int .i64 x.f1, .int .i64 x.f2, .int .i64 x.f3, .int .u32 x.f4, .bool x.f5], rfl, rfl, ⟨[.int .i64 x.f1], [.int .i64 x.f2, .int .i64 x.f3, .int .u32 x.f4, .bool x.f5], rfl, rfl, ⟨[.int .i64 x.f2], [.int .i64 x.f3, .int .u32 x.f4, .bool x.f5], rfl, rfl, ⟨[.int .i64 x.f3], [.int .u32 x.f4, .bool x.f5], rfl, rfl, ⟨[.int .u32 x.f4], [.bool x.f5], rfl, rfl, rfl⟩⟩⟩⟩⟩
def rd_T42 (xs : List S42) (i : Int) : S42 := xs.getD i.toNat z42
theorem at_T42 {w : World} {A : Option Addr} {n : Nat} {xs : List S42} (h : Kd.C k42 w A n xs) (i : Int) (h0 : 0 ≤ i) (h1 : i < n) : ∃ ad , A = some ad ∧ w.cell? (ad.add (i.toNat * 6)) = some (.int .i64 (rd_T42 xs i).f0) ∧ w.cell? ⟨(ad.add (i.toNat * 6)).block, (ad.add (i.toNat * 6)).off + 1, none⟩ = some (.int .i64 (rd_T42 xs i).f1) ∧ w.cell? ⟨(ad.add (i.toNat * 6)).block, (ad.add (i.toNat * 6)).off + 2, none⟩ = some (.int .i64 (rd_T42 xs i).f2) ∧ w.cell? ⟨(ad.add (i.toNat * 6)).block, (ad.add (i.toNat * 6)).off + 3, none⟩ = some (.int .i64 (rd_T42 xs i).f3) ∧ w.cell? ⟨(ad.add (i.toNat * 6)).block, (ad.add (i.toNat * 6)).off + 4, none⟩ = some (.int .u32 (rd_T42 xs i).f4) ∧ w.cell? ⟨(ad.add (i.toNat * 6)).block, (ad.add (i.toNat * 6)).off + 5, none⟩ = some (.bool (rd_T42 xs i).f5) := by
  obtain ⟨ad, c, e, _, hK, hc0⟩ := Kd.C_get h z42 i h0 h1
  have hc : ∀ j u, c[j]? = some u → w.cell? (ad.add (i.toNat * 6 + j)) = some u := hc0
  obtain rfl := k42_open hK
  exact ⟨ad, e, hc 0 _ rfl, by rw [← add_field _ _ 1 (by omega)]; exact hc 1 _ rfl, by rw [← add_field _ _ 2 (by omega)]; exact hc 2 _ rfl, by rw [← add_field _ _ 3 (by omega)]; exact hc 3 _ rfl, by rw [← add_field _ _ 4 (by omega)]; exact hc 4 _ rfl, by rw [← add_field _ _ 5 (by omega)]; exact hc 5 _ rfl⟩

/-! #### struct type 44 -/
structure S44 where
  f0 : S28
  f1 : S42
  f2 : Int
  f3 : ByteArray
  f4 : Int
def z44 : S44 := ⟨z28, z42, (0 : Int), (⟨#[]⟩ : ByteArray), (0 : Int)⟩
def k44 : Kd S44 := Kd.iso (Kd.pair k28 (Kd.pair k42 (Kd.pair (Kd.int .i64) (Kd.pair Kd.string (Kd.int .i64))))) (fun x : S44 => (x.f0, x.f1, x.f2, x.f3, x.f4))
theorem k44_open {w : World} {x : S44} {cs : List Value} (h : k44.K w x cs) : cs = [.int .i64 x.f0.f0, .int .i64 x.f0.f1, .string x.f0.f2, .string x.f0.f3, .int .i64 x.f0.f4, .int .i64 x.f0.f5, .int .i64 x.f0.f6, .int .i64 x.f0.f7, .int .i64 x.f0.f8, .int .u32 x.f0.f9, .int .i64 x.f0.f10, .int .i64 x.f0.f11, .string x.f0.f12, .bool x.f0.f13, .int .i64 x.f1.f0, .int .i64 x.f1.f1, .int .i64 x.f1.f2, .int .i64 x.f1.f3, .int .u32 x.f1.f4, .bool x.f1.f5, .int .i64 x.f2, .string x.f3, .int .i64 x.f4] := by
  obtain ⟨_, _, rfl, s0, ⟨_, _, rfl, s14, ⟨_, _, rfl, rfl, ⟨_, _, rfl, rfl, rfl⟩⟩⟩⟩ := h
  obtain rfl := k28_open s0
  obtain rfl := k42_open s14
  exact rfl
theorem k44_openM {w : World} {base : Nat} {ok : Nat → Prop} {x : S44} {cs : List Value} (h : k44.M w base ok x cs) : cs = [.int .i64 x.f0.f0, .int .i64 x.f0.f1, .string x.f0.f2, .string x.f0.f3, .int .i64 x.f0.f4, .int .i64 x.f0.f5, .int .i64 x.f0.f6, .int .i64 x.f0.f7, .int .i64 x.f0.f8, .int .u32 x.f0.f9, .int .i64 x.f0.f10, .int .i64 x.f0.f11, .string x.f0.f12, .bool x.f0.f13, .int .i64 x.f1.f0, .int .i64 x.f1.f1, .int .i64 x.f1.f2, .int .i64 x.f1.f3, .int .u32 x.f1.f4, .bool x.f1.f5, .int .i64 x.f2, .string x.f3, .int .i64 x.f4] := by
  obtain ⟨_, _, rfl, s0, ⟨_, _, rfl, s14, ⟨_, _, rfl, rfl, ⟨_, _, rfl, rfl, rfl⟩⟩⟩⟩ := h
  obtain rfl := k28_openM s0
  obtain rfl := k42_openM s14
  exact rfl
theorem k44_mk (w : World) (x : S44)  : k44.K w x [.int .i64 x.f0.f0, .int .i64 x.f0.f1, .string x.f0.f2, .string x.f0.f3, .int .i64 x.f0.f4, .int .i64 x.f0.f5, .int .i64 x.f0.f6, .int .i64 x.f0.f7, .int .i64 x.f0.f8, .int .u32 x.f0.f9, .int .i64 x.f0.f10, .int .i64 x.f0.f11, .string x.f0.f12, .bool x.f0.f13, .int .i64 x.f1.f0, .int .i64 x.f1.f1, .int .i64 x.f1.f2, .int .i64 x.f1.f3, .int .u32 x.f1.f4, .bool x.f1.f5, .int .i64 x.f2, .string x.f3, .int .i64 x.f4] := ⟨[.int .i64 x.f0.f0, .int .i64 x.f0.f1, .string x.f0.f2, .string x.f0.f3, .int .i64 x.f0.f4, .int .i64 x.f0.f5, .int .i64 x.f0.f6, .int .i64 x.f0.f7, .int .i64 x.f0.f8, .int .u32 x.f0.f9, .int .i64 x.f0.f10, .int .i64 x.f0.f11, .string x.f0.f12, .bool x.f0.f13], [.int .i64 x.f1.f0, .int .i64 x.f1.f1, .int .i64 x.f1.f2, .int .i64 x.f1.f3, .int .u32 x.f1.f4, .bool x.f1.f5, .int .i64 x.f2, .string x.f3, .int .i64 x.f4], rfl, (k28_mk w x.f0 ), ⟨[.int .i64 x.f1.f0, .int .i64 x.f1.f1, .int .i64 x.f1.f2, .int .i64 x.f1.f3, .int .u32 x.f1.f4, .bool x.f1.f5], [.int .i64 x.f2, .string x.f3, .int .i64 x.f4], rfl, (k42_mk w x.f1 ), ⟨[.int .i64 x.f2], [.string x.f3, .int .i64 x.f4], rfl, rfl, ⟨[.string x.f3], [.int .i64 x.f4], rfl, rfl, rfl⟩⟩⟩⟩
theorem k44_mkM (w : World) (base : Nat) (ok : Nat → Prop) (x : S44)  : k44.M w base ok x [.int .i64 x.f0.f0, .int .i64 x.f0.f1, .string x.f0.f2, .string x.f0.f3, .int .i64 x.f0.f4, .int .i64 x.f0.f5, .int .i64 x.f0.f6, .int .i64 x.f0.f7, .int .i64 x.f0.f8, .int .u32 x.f0.f9, .int .i64 x.f0.f10, .int .i64 x.f0.f11, .string x.f0.f12, .bool x.f0.f13, .int .i64 x.f1.f0, .int .i64 x.f1.f1, .int .i64 x.f1.f2, .int .i64 x.f1.f3, .int .u32 x.f1.f4, .bool x.f1.f5, .int .i64 x.f2, .string x.f3, .int .i64 x.f4] := ⟨[.int .i64 x.f0.f0, .int .i64 x.f0.f1, .string x.f0.f2, .string x.f0.f3, .int .i64 x.f0.f4, .int .i64 x.f0.f5, .int .i64 x.f0.f6, .int .i64 x.f0.f7, .int .i64 x.f0.f8, .int .u32 x.f0.f9, .int .i64 x.f0.f10, .int .i64 x.f0.f11, .string x.f0.f12, .bool x.f0.f13], [.int .i64 x.f1.f0, .int .i64 x.f1.f1, .int .i64 x.f1.f2, .int .i64 x.f1.f3, .int .u32 x.f1.f4, .bool x.f1.f5, .int .i64 x.f2, .string x.f3, .int .i64 x.f4], rfl, (k28_mkM w base ok x.f0 ), ⟨[.int .i64 x.f1.f0, .int .i64 x.f1.f1, .int .i64 x.f1.f2, .int .i64 x.f1.f3, .int .u32 x.f1.f4, .bool x.f1.f5], [.int .i64 x.f2, .string x.f3, .int .i64 x.f4], rfl, (k42_mkM w base ok x.f1 ), ⟨[.int .i64 x.f2], [.string x.f3, .int .i64 x.f4], rfl, rfl, ⟨[.string x.f3], [.int .i64 x.f4], rfl, rfl, rfl⟩⟩⟩⟩
def rd_T44 (xs : List S44) (i : Int) : S44 := xs.getD i.toNat z44
theorem at_T44 {w : World} {A : Option Addr} {n : Nat} {xs : List S44} (h : Kd.C k44 w A n xs) (i : Int) (h0 : 0 ≤ i) (h1 : i < n) : ∃ ad , A = some ad ∧ w.cell? (ad.add (i.toNat * 23)) = some (.int .i64 (rd_T44 xs i).f0.f0) ∧ w.cell? ⟨(ad.add (i.toNat * 23)).block, (ad.add (i.toNat * 23)).off + 1, none⟩ = some (.int .i64 (rd_T44 xs i).f0.f1) ∧ w.cell? ⟨(ad.add (i.toNat * 23)).block, (ad.add (i.toNat * 23)).off + 2, none⟩ = some (.string (rd_T44 xs i).f0.f2) ∧ w.cell? ⟨(ad.add (i.toNat * 23)).block, (ad.add (i.toNat * 23)).off + 3, none⟩ = some (.string (rd_T44 xs i).f0.f3) ∧ w.cell? ⟨(ad.add (i.toNat * 23)).block, (ad.add (i.toNat * 23)).off + 4, none⟩ = some (.int .i64 (rd_T44 xs i).f0.f4) ∧ w.cell? ⟨(ad.add (i.toNat * 23)).block, (ad.add (i.toNat * 23)).off + 5, none⟩ = some (.int .i64 (rd_T44 xs i).f0.f5) ∧ w.cell? ⟨(ad.add (i.toNat * 23)).block, (ad.add (i.toNat * 23)).off + 6, none⟩ = some (.int .i64 (rd_T44 xs i).f0.f6) ∧ w.cell? ⟨(ad.add (i.toNat * 23)).block, (ad.add (i.toNat * 23)).off + 7, none⟩ = some (.int .i64 (rd_T44 xs i).f0.f7) ∧ w.cell? ⟨(ad.add (i.toNat * 23)).block, (ad.add (i.toNat * 23)).off + 8, none⟩ = some (.int .i64 (rd_T44 xs i).f0.f8) ∧ w.cell? ⟨(ad.add (i.toNat * 23)).block, (ad.add (i.toNat * 23)).off + 9, none⟩ = some (.int .u32 (rd_T44 xs i).f0.f9) ∧ w.cell? ⟨(ad.add (i.toNat * 23)).block, (ad.add (i.toNat * 23)).off + 10, none⟩ = some (.int .i64 (rd_T44 xs i).f0.f10) ∧ w.cell? ⟨(ad.add (i.toNat * 23)).block, (ad.add (i.toNat * 23)).off + 11, none⟩ = some (.int .i64 (rd_T44 xs i).f0.f11) ∧ w.cell? ⟨(ad.add (i.toNat * 23)).block, (ad.add (i.toNat * 23)).off + 12, none⟩ = some (.string (rd_T44 xs i).f0.f12) ∧ w.cell? ⟨(ad.add (i.toNat * 23)).block, (ad.add (i.toNat * 23)).off + 13, none⟩ = some (.bool (rd_T44 xs i).f0.f13) ∧ w.cell? ⟨(ad.add (i.toNat * 23)).block, (ad.add (i.toNat * 23)).off + 14, none⟩ = some (.int .i64 (rd_T44 xs i).f1.f0) ∧ w.cell? ⟨(ad.add (i.toNat * 23)).block, (ad.add (i.toNat * 23)).off + 15, none⟩ = some (.int .i64 (rd_T44 xs i).f1.f1) ∧ w.cell? ⟨(ad.add (i.toNat * 23)).block, (ad.add (i.toNat * 23)).off + 16, none⟩ = some (.int .i64 (rd_T44 xs i).f1.f2) ∧ w.cell? ⟨(ad.add (i.toNat * 23)).block, (ad.add (i.toNat * 23)).off + 17, none⟩ = some (.int .i64 (rd_T44 xs i).f1.f3) ∧ w.cell? ⟨(ad.add (i.toNat * 23)).block, (ad.add (i.toNat * 23)).off + 18, none⟩ = some (.int .u32 (rd_T44 xs i).f1.f4) ∧ w.cell? ⟨(ad.add (i.toNat * 23)).block, (ad.add (i.toNat * 23)).off + 19, none⟩ = some (.bool (rd_T44 xs i).f1.f5) ∧ w.cell? ⟨(ad.add (i.toNat * 23)).block, (ad.add (i.toNat * 23)).off + 20, none⟩ = some (.int .i64 (rd_T44 xs i).f2) ∧ w.cell? ⟨(ad.add (i.toNat * 23)).block, (ad.add (i.toNat * 23)).off + 21, none⟩ = some (.string (rd_T44 xs i).f3) ∧ w.cell? ⟨(ad.add (i.toNat * 23)).block, (ad.add (i.toNat * 23)).off + 22, none⟩ = some (.int .i64 (rd_T44 xs i).f4) := by
  obtain ⟨ad, c, e, _, hK, hc0⟩ := Kd.C_get h z44 i h0 h1
  have hc : ∀ j u, c[j]? = some u → w.cell? (ad.add (i.toNat * 23 + j)) = some u := hc0
  obtain rfl := k44_open hK
  exact ⟨ad, e, hc 0 _ rfl, by rw [← add_field _ _ 1 (by omega)]; exact hc 1 _ rfl, by rw [← add_field _ _ 2 (by omega)]; exact hc 2 _ rfl, by rw [← add_field _ _ 3 (by omega)]; exact hc 3 _ rfl, by rw [← add_field _ _ 4 (by omega)]; exact hc 4 _ rfl, by rw [← add_field _ _ 5 (by omega)]; exact hc 5 _ rfl, by rw [← add_field _ _ 6 (by omega)]; exact hc 6 _ rfl, by rw [← add_field _ _ 7 (by omega)]; exact hc 7 _ rfl, by rw [← add_field _ _ 8 (by omega)]; exact hc 8 _ rfl, by rw [← add_field _ _ 9 (by omega)]; exact hc 9 _ rfl, by rw [← add_field _ _ 10 (by omega)]; exact hc 10 _ rfl, by rw [← add_field _ _ 11 (by omega)]; exact hc 11 _ rfl, by rw [← add_field _ _ 12 (by omega)]; exact hc 12 _ rfl, by rw [← add_field _ _ 13 (by omega)]; exact hc 13 _ rfl, by rw [← add_field _ _ 14 (by omega)]; exact hc 14 _ rfl, by rw [← add_field _ _ 15 (by omega)]; exact hc 15 _ rfl, by rw [← add_field _ _ 16 (by omega)]; exact hc 16 _ rfl, by rw [← add_field _ _ 17 (by omega)]; exact hc 17 _ rfl, by rw [← add_field _ _ 18 (by omega)]; exact hc 18 _ rfl, by rw [← add_field _ _ 19 (by omega)]; exact hc 19 _ rfl, by rw [← add_field _ _ 20 (by omega)]; exact hc 20 _ rfl, by rw [← add_field _ _ 21 (by omega)]; exact hc 21 _ rfl, by rw [← add_field _ _ 22 (by omega)]; exact hc 22 _ rfl⟩

/-! #### struct type 54 -/
structure S54 where
  f0 : Int
  f1 : Int
  f2 : S42
  f3 : ByteArray
  f4 : Int
def z54 : S54 := ⟨(0 : Int), (0 : Int), z42, (⟨#[]⟩ : ByteArray), (0 : Int)⟩
def k54 : Kd S54 := Kd.iso (Kd.pair (Kd.int .i64) (Kd.pair (Kd.int .i64) (Kd.pair k42 (Kd.pair Kd.string (Kd.int .i64))))) (fun x : S54 => (x.f0, x.f1, x.f2, x.f3, x.f4))
theorem k54_open {w : World} {x : S54} {cs : List Value} (h : k54.K w x cs) : cs = [.int .i64 x.f0, .int .i64 x.f1, .int .i64 x.f2.f0, .int .i64 x.f2.f1, .int .i64 x.f2.f2, .int .i64 x.f2.f3, .int .u32 x.f2.f4, .bool x.f2.f5, .string x.f3, .int .i64 x.f4] := by
  obtain ⟨_, _, rfl, rfl, ⟨_, _, rfl, rfl, ⟨_, _, rfl, s2, ⟨_, _, rfl, rfl, rfl⟩⟩⟩⟩ := h
  obtain rfl := k42_open s2
  exact rfl
theorem k54_openM {w : World} {base : Nat} {ok : Nat → Prop} {x : S54} {cs : List Value} (h : k54.M w base ok x cs) : cs = [.int .i64 x.f0, .int .i64 x.f1, .int .i64 x.f2.f0, .int .i64 x.f2.f1, .int .i64 x.f2.f2, .int .i64 x.f2.f3, .int .u32 x.f2.f4, .bool x.f2.f5, .string x.f3, .int .i64 x.f4] := by
  obtain ⟨_, _, rfl, rfl, ⟨_, _, rfl, rfl, ⟨_, _, rfl, s2, ⟨_, _, rfl, rfl, rfl⟩⟩⟩⟩ := h
  obtain rfl := k42_openM s2
  exact rfl
theorem k54_mk (w : World) (x : S54)  : k54.K w x [.int .i64 x.f0, .int .i64 x.f1, .int .i64 x.f2.f0, .int .i64 x.f2.f1, .int .i64 x.f2.f2, .int .i64 x.f2.f3, .int .u32 x.f2.f4, .bool x.f2.f5, .string x.f3, .int .i64 x.f4] := ⟨[.int .i64 x.f0], [.int .i64 x.f1, .int .i64 x.f2.f0, .int .i64 x.f2.f1, .int .i64 x.f2.f2, .int .i64 x.f2.f3, .int .u32 x.f2.f4, .bool x.f2.f5, .string x.f3, .int .i64 x.f4], rfl, rfl, ⟨[.int .i64 x.f1], [.int .i64 x.f2.f0, .int .i64 x.f2.f1, .int .i64 x.f2.f2, .int .i64 x.f2.f3, .int .u32 x.f2.f4, .bool x.f2.f5, .string x.f3, .int .i64 x.f4], rfl, rfl, ⟨[.int .i64 x.f2.f0, .int .i64 x.f2.f1, .int .i64 x.f2.f2, .int .i64 x.f2.f3, .int .u32 x.f2.f4, .bool x.f2.f5], [.string x.f3, .int .i64 x.f4], rfl, (k42_mk w x.f2 ), ⟨[.string x.f3], [.int .i64 x.f4], rfl, rfl, rfl⟩⟩⟩⟩
theorem k54_mkM (w : World) (base : Nat) (ok : Nat → Prop) (x : S54)  : k54.M w base ok x [.int .i64 x.f0, .int .i64 x.f1, .int .i64 x.f2.f0, .int .i64 x.f2.f1, .int .i64 x.f2.f2, .int .i64 x.f2.f3, .int .u32 x.f2.f4, .bool x.f2.f5, .string x.f3, .int .i64 x.f4] := ⟨[.int .i64 x.f0], [.int .i64 x.f1, .int .i64 x.f2.f0, .int .i64 x.f2.f1, .int .i64 x.f2.f2, .int .i64 x.f2.f3, .int .u32 x.f2.f4, .bool x.f2.f5, .string x.f3, .int .i64 x.f4], rfl, rfl, ⟨[.int .i64 x.f1], [.int .i64 x.f2.f0, .int .i64 x.f2.f1, .int .i64 x.f2.f2, .int .i64 x.f2.f3, .int .u32 x.f2.f4, .bool x.f2.f5, .string x.f3, .int .i64 x.f4], rfl, rfl, ⟨[.int .i64 x.f2.f0, .int .i64 x.f2.f1, .int .i64 x.f2.f2, .int .i64 x.f2.f3, .int .u32 x.f2.f4, .bool x.f2.f5], [.string x.f3, .int .i64 x.f4], rfl, (k42_mkM w base ok x.f2 ), ⟨[.string x.f3], [.int .i64 x.f4], rfl, rfl, rfl⟩⟩⟩⟩
def rd_T54 (xs : List S54) (i : Int) : S54 := xs.getD i.toNat z54
theorem at_T54 {w : World} {A : Option Addr} {n : Nat} {xs : List S54} (h : Kd.C k54 w A n xs) (i : Int) (h0 : 0 ≤ i) (h1 : i < n) : ∃ ad , A = some ad ∧ w.cell? (ad.add (i.toNat * 10)) = some (.int .i64 (rd_T54 xs i).f0) ∧ w.cell? ⟨(ad.add (i.toNat * 10)).block, (ad.add (i.toNat * 10)).off + 1, none⟩ = some (.int .i64 (rd_T54 xs i).f1) ∧ w.cell? ⟨(ad.add (i.toNat * 10)).block, (ad.add (i.toNat * 10)).off + 2, none⟩ = some (.int .i64 (rd_T54 xs i).f2.f0) ∧ w.cell? ⟨(ad.add (i.toNat * 10)).block, (ad.add (i.toNat * 10)).off + 3, none⟩ = some (.int .i64 (rd_T54 xs i).f2.f1) ∧ w.cell? ⟨(ad.add (i.toNat * 10)).block, (ad.add (i.toNat * 10)).off + 4, none⟩ = some (.int .i64 (rd_T54 xs i).f2.f2) ∧ w.cell? ⟨(ad.add (i.toNat * 10)).block, (ad.add (i.toNat * 10)).off + 5, none⟩ = some (.int .i64 (rd_T54 xs i).f2.f3) ∧ w.cell? ⟨(ad.add (i.toNat * 10)).block, (ad.add (i.toNat * 10)).off + 6, none⟩ = some (.int .u32 (rd_T54 xs i).f2.f4) ∧ w.cell? ⟨(ad.add (i.toNat * 10)).block, (ad.add (i.toNat * 10)).off + 7, none⟩ = some (.bool (rd_T54 xs i).f2.f5) ∧ w.cell? ⟨(ad.add (i.toNat * 10)).block, (ad.add (i.toNat * 10)).off + 8, none⟩ = some (.string (rd_T54 xs i).f3) ∧ w.cell? ⟨(ad.add (i.toNat * 10)).block, (ad.add (i.toNat * 10)).off + 9, none⟩ = some (.int .i64 (rd_T54 xs i).f4) := by
  obtain ⟨ad, c, e, _, hK, hc0⟩ := Kd.C_get h z54 i h0 h1
  have hc : ∀ j u, c[j]? = some u → w.cell? (ad.add (i.toNat * 10 + j)) = some u := hc0
  obtain rfl := k54_open hK
  exact ⟨ad, e, hc 0 _ rfl, by rw [← add_field _ _ 1 (by omega)]; exact hc 1 _ rfl, by rw [← add_field _ _ 2 (by omega)]; exact hc 2 _ rfl, by rw [← add_field _ _ 3 (by omega)]; exact hc 3 _ rfl, by rw [← add_field _ _ 4 (by omega)]; exact hc 4 _ rfl, by rw [← add_field _ _ 5 (by omega)]; exact hc 5 _ rfl, by rw [← add_field _ _ 6 (by omega)]; exact hc 6 _ rfl, by rw [← add_field _ _ 7 (by omega)]; exact hc 7 _ rfl, by rw [← add_field _ _ 8 (by omega)]; exact hc 8 _ rfl, by rw [← add_field _ _ 9 (by omega)]; exact hc 9 _ rfl⟩

def rd_L10 (xs : List (List S54)) (i : Int) : (List S54) := xs.getD i.toNat ([] : List S54)
theorem at_L10 {w : World} {A : Option Addr} {n : Nat} {xs : List (List S54)} (h : Kd.C (Kd.slice 54 k54) w A n xs) (i : Int) (h0 : 0 ≤ i) (h1 : i < n) : ∃ ad A0 c0, A = some ad ∧ w.cell? (ad.add i.toNat) = some (.slice A0 (rd_L10 xs i).length c0) ∧ (rd_L10 xs i).length ≤ c0 ∧ k54.C w A0 (rd_L10 xs i).length (rd_L10 xs i) := by
  obtain ⟨ad, c, e, _, hK, hc0⟩ := Kd.C_get h ([] : List S54) i h0 h1
  have hc : ∀ j u, c[j]? = some u → w.cell? (ad.add (i.toNat * 1 + j)) = some u := hc0
  obtain ⟨A0, c0, rfl, l0, g0⟩ := hK
  exact ⟨ad, A0, c0, e, by have hq := hc 0 _ rfl; rwa [Nat.mul_one, Nat.add_zero] at hq, l0, g0⟩

theorem cells5 {w : World} {g t : Nat} {a0 a1 a2 a3 a4 : Value} (h : w.heap[g]? = some (.cells #[a0, a1, a2, a3, a4] t (0, 0))) : w.cell? ⟨g, 0, none⟩ = some a0 ∧ w.cell? ⟨g, 1, none⟩ = some a1 ∧ w.cell? ⟨g, 2, none⟩ = some a2 ∧ w.cell? ⟨g, 3, none⟩ = some a3 ∧ w.cell? ⟨g, 4, none⟩ = some a4 ∧ w.frozen? ⟨g, 0, none⟩ = false ∧ w.frozen? ⟨g, 1, none⟩ = false ∧ w.frozen? ⟨g, 2, none⟩ = false ∧ w.frozen? ⟨g, 3, none⟩ = false ∧ w.frozen? ⟨g, 4, none⟩ = false := by
  exact ⟨(blk_cell h 0).trans rfl, (blk_cell h 1).trans rfl, (blk_cell h 2).trans rfl, (blk_cell h 3).trans rfl, (blk_cell h 4).trans rfl, blk_frozen h 0, blk_frozen h 1, blk_frozen h 2, blk_frozen h 3, blk_frozen h 4⟩
theorem cells6 {w : World} {g t : Nat} {a0 a1 a2 a3 a4 a5 : Value} (h : w.heap[g]? = some (.cells #[a0, a1, a2, a3, a4, a5] t (0, 0))) : w.cell? ⟨g, 0, none⟩ = some a0 ∧ w.cell? ⟨g, 1, none⟩ = some a1 ∧ w.cell? ⟨g, 2, none⟩ = some a2 ∧ w.cell? ⟨g, 3, none⟩ = some a3 ∧ w.cell? ⟨g, 4, none⟩ = some a4 ∧ w.cell? ⟨g, 5, none⟩ = some a5 ∧ w.frozen? ⟨g, 0, none⟩ = false ∧ w.frozen? ⟨g, 1, none⟩ = false ∧ w.frozen? ⟨g, 2, none⟩ = false ∧ w.frozen? ⟨g, 3, none⟩ = false ∧ w.frozen? ⟨g, 4, none⟩ = false ∧ w.frozen? ⟨g, 5, none⟩ = false := by
  exact ⟨(blk_cell h 0).trans rfl, (blk_cell h 1).trans rfl, (blk_cell h 2).trans rfl, (blk_cell h 3).trans rfl, (blk_cell h 4).trans rfl, (blk_cell h 5).trans rfl, blk_frozen h 0, blk_frozen h 1, blk_frozen h 2, blk_frozen h 3, blk_frozen h 4, blk_frozen h 5⟩
theorem cells10 {w : World} {g t : Nat} {a0 a1 a2 a3 a4 a5 a6 a7 a8 a9 : Value} (h : w.heap[g]? = some (.cells #[a0, a1, a2, a3, a4, a5, a6, a7, a8, a9] t (0, 0))) : w.cell? ⟨g, 0, none⟩ = some a0 ∧ w.cell? ⟨g, 1, none⟩ = some a1 ∧ w.cell? ⟨g, 2, none⟩ = some a2 ∧ w.cell? ⟨g, 3, none⟩ = some a3 ∧ w.cell? ⟨g, 4, none⟩ = some a4 ∧ w.cell? ⟨g, 5, none⟩ = some a5 ∧ w.cell? ⟨g, 6, none⟩ = some a6 ∧ w.cell? ⟨g, 7, none⟩ = some a7 ∧ w.cell? ⟨g, 8, none⟩ = some a8 ∧ w.cell? ⟨g, 9, none⟩ = some a9 ∧ w.frozen? ⟨g, 0, none⟩ = false ∧ w.frozen? ⟨g, 1, none⟩ = false ∧ w.frozen? ⟨g, 2, none⟩ = false ∧ w.frozen? ⟨g, 3, none⟩ = false ∧ w.frozen? ⟨g, 4, none⟩ = false ∧ w.frozen? ⟨g, 5, none⟩ = false ∧ w.frozen? ⟨g, 6, none⟩ = false ∧ w.frozen? ⟨g, 7, none⟩ = false ∧ w.frozen? ⟨g, 8, none⟩ = false ∧ w.frozen? ⟨g, 9, none⟩ = false := by
  exact ⟨(blk_cell h 0).trans rfl, (blk_cell h 1).trans rfl, (blk_cell h 2).trans rfl, (blk_cell h 3).trans rfl, (blk_cell h 4).trans rfl, (blk_cell h 5).trans rfl, (blk_cell h 6).trans rfl, (blk_cell h 7).trans rfl, (blk_cell h 8).trans rfl, (blk_cell h 9).trans rfl, blk_frozen h 0, blk_frozen h 1, blk_frozen h 2, blk_frozen h 3, blk_frozen h 4, blk_frozen h 5, blk_frozen h 6, blk_frozen h 7, blk_frozen h 8, blk_frozen h 9⟩
theorem cells12 {w : World} {g t : Nat} {a0 a1 a2 a3 a4 a5 a6 a7 a8 a9 a10 a11 : Value} (h : w.heap[g]? = some (.cells #[a0, a1, a2, a3, a4, a5, a6, a7, a8, a9, a10, a11] t (0, 0))) : w.cell? ⟨g, 0, none⟩ = some a0 ∧ w.cell? ⟨g, 1, none⟩ = some a1 ∧ w.cell? ⟨g, 2, none⟩ = some a2 ∧ w.cell? ⟨g, 3, none⟩ = some a3 ∧ w.cell? ⟨g, 4, none⟩ = some a4 ∧ w.cell? ⟨g, 5, none⟩ = some a5 ∧ w.cell? ⟨g, 6, none⟩ = some a6 ∧ w.cell? ⟨g, 7, none⟩ = some a7 ∧ w.cell? ⟨g, 8, none⟩ = some a8 ∧ w.cell? ⟨g, 9, none⟩ = some a9 ∧ w.cell? ⟨g, 10, none⟩ = some a10 ∧ w.cell? ⟨g, 11, none⟩ = some a11 ∧ w.frozen? ⟨g, 0, none⟩ = false ∧ w.frozen? ⟨g, 1, none⟩ = false ∧ w.frozen? ⟨g, 2, none⟩ = false ∧ w.frozen? ⟨g, 3, none⟩ = false ∧ w.frozen? ⟨g, 4, none⟩ = false ∧ w.frozen? ⟨g, 5, none⟩ = false ∧ w.frozen? ⟨g, 6, none⟩ = false ∧ w.frozen? ⟨g, 7, none⟩ = false ∧ w.frozen? ⟨g, 8, none⟩ = false ∧ w.frozen? ⟨g, 9, none⟩ = false ∧ w.frozen? ⟨g, 10, none⟩ = false ∧ w.frozen? ⟨g, 11, none⟩ = false := by
  exact ⟨(blk_cell h 0).trans rfl, (blk_cell h 1).trans rfl, (blk_cell h 2).trans rfl, (blk_cell h 3).trans rfl, (blk_cell h 4).trans rfl, (blk_cell h 5).trans rfl, (blk_cell h 6).trans rfl, (blk_cell h 7).trans rfl, (blk_cell h 8).trans rfl, (blk_cell h 9).trans rfl, (blk_cell h 10).trans rfl, (blk_cell h 11).trans rfl, blk_frozen h 0, blk_frozen h 1, blk_frozen h 2, blk_frozen h 3, blk_frozen h 4, blk_frozen h 5, blk_frozen h 6, blk_frozen h 7, blk_frozen h 8, blk_frozen h 9, blk_frozen h 10, blk_frozen h 11⟩
theorem cells14 {w : World} {g t : Nat} {a0 a1 a2 a3 a4 a5 a6 a7 a8 a9 a10 a11 a12 a13 : Value} (h : w.heap[g]? = some (.cells #[a0, a1, a2, a3, a4, a5, a6, a7, a8, a9, a10, a11, a12, a13] t (0, 0))) : w.cell? ⟨g, 0, none⟩ = some a0 ∧ w.cell? ⟨g, 1, none⟩ = some a1 ∧ w.cell? ⟨g, 2, none⟩ = some a2 ∧ w.cell? ⟨g, 3, none⟩ = some a3 ∧ w.cell? ⟨g, 4, none⟩ = some a4 ∧ w.cell? ⟨g, 5, none⟩ = some a5 ∧ w.cell? ⟨g, 6, none⟩ = some a6 ∧ w.cell? ⟨g, 7, none⟩ = some a7 ∧ w.cell? ⟨g, 8, none⟩ = some a8 ∧ w.cell? ⟨g, 9, none⟩ = some a9 ∧ w.cell? ⟨g, 10, none⟩ = some a10 ∧ w.cell? ⟨g, 11, none⟩ = some a11 ∧ w.cell? ⟨g, 12, none⟩ = some a12 ∧ w.cell? ⟨g, 13, none⟩ = some a13 ∧ w.frozen? ⟨g, 0, none⟩ = false ∧ w.frozen? ⟨g, 1, none⟩ = false ∧ w.frozen? ⟨g, 2, none⟩ = false ∧ w.frozen? ⟨g, 3, none⟩ = false ∧ w.frozen? ⟨g, 4, none⟩ = false ∧ w.frozen? ⟨g, 5, none⟩ = false ∧ w.frozen? ⟨g, 6, none⟩ = false ∧ w.frozen? ⟨g, 7, none⟩ = false ∧ w.frozen? ⟨g, 8, none⟩ = false ∧ w.frozen? ⟨g, 9, none⟩ = false ∧ w.frozen? ⟨g, 10, none⟩ = false ∧ w.frozen? ⟨g, 11, none⟩ = false ∧ w.frozen? ⟨g, 12, none⟩ = false ∧ w.frozen? ⟨g, 13, none⟩ = false := by
  exact ⟨(blk_cell h 0).trans rfl, (blk_cell h 1).trans rfl, (blk_cell h 2).trans rfl, (blk_cell h 3).trans rfl, (blk_cell h 4).trans rfl, (blk_cell h 5).trans rfl, (blk_cell h 6).trans rfl, (blk_cell h 7).trans rfl, (blk_cell h 8).trans rfl, (blk_cell h 9).trans rfl, (blk_cell h 10).trans rfl, (blk_cell h 11).trans rfl, (blk_cell h 12).trans rfl, (blk_cell h 13).trans rfl, blk_frozen h 0, blk_frozen h 1, blk_frozen h 2, blk_frozen h 3, blk_frozen h 4, blk_frozen h 5, blk_frozen h 6, blk_frozen h 7, blk_frozen h 8, blk_frozen h 9, blk_frozen h 10, blk_frozen h 11, blk_frozen h 12, blk_frozen h 13⟩
theorem cells23 {w : World} {g t : Nat} {a0 a1 a2 a3 a4 a5 a6 a7 a8 a9 a10 a11 a12 a13 a14 a15 a16 a17 a18 a19 a20 a21 a22 : Value} (h : w.heap[g]? = some (.cells #[a0, a1, a2, a3, a4, a5, a6, a7, a8, a9, a10, a11, a12, a13, a14, a15, a16, a17, a18, a19, a20, a21, a22] t (0, 0))) : w.cell? ⟨g, 0, none⟩ = some a0 ∧ w.cell? ⟨g, 1, none⟩ = some a1 ∧ w.cell? ⟨g, 2, none⟩ = some a2 ∧ w.cell? ⟨g, 3, none⟩ = some a3 ∧ w.cell? ⟨g, 4, none⟩ = some a4 ∧ w.cell? ⟨g, 5, none⟩ = some a5 ∧ w.cell? ⟨g, 6, none⟩ = some a6 ∧ w.cell? ⟨g, 7, none⟩ = some a7 ∧ w.cell? ⟨g, 8, none⟩ = some a8 ∧ w.cell? ⟨g, 9, none⟩ = some a9 ∧ w.cell? ⟨g, 10, none⟩ = some a10 ∧ w.cell? ⟨g, 11, none⟩ = some a11 ∧ w.cell? ⟨g, 12, none⟩ = some a12 ∧ w.cell? ⟨g, 13, none⟩ = some a13 ∧ w.cell? ⟨g, 14, none⟩ = some a14 ∧ w.cell? ⟨g, 15, none⟩ = some a15 ∧ w.cell? ⟨g, 16, none⟩ = some a16 ∧ w.cell? ⟨g, 17, none⟩ = some a17 ∧ w.cell? ⟨g, 18, none⟩ = some a18 ∧ w.cell? ⟨g, 19, none⟩ = some a19 ∧ w.cell? ⟨g, 20, none⟩ = some a20 ∧ w.cell? ⟨g, 21, none⟩ = some a21 ∧ w.cell? ⟨g, 22, none⟩ = some a22 ∧ w.frozen? ⟨g, 0, none⟩ = false ∧ w.frozen? ⟨g, 1, none⟩ = false ∧ w.frozen? ⟨g, 2, none⟩ = false ∧ w.frozen? ⟨g, 3, none⟩ = false ∧ w.frozen? ⟨g, 4, none⟩ = false ∧ w.frozen? ⟨g, 5, none⟩ = false ∧ w.frozen? ⟨g, 6, none⟩ = false ∧ w.frozen? ⟨g, 7, none⟩ = false ∧ w.frozen? ⟨g, 8, none⟩ = false ∧ w.frozen? ⟨g, 9, none⟩ = false ∧ w.frozen? ⟨g, 10, none⟩ = false ∧ w.frozen? ⟨g, 11, none⟩ = false ∧ w.frozen? ⟨g, 12, none⟩ = false ∧ w.frozen? ⟨g, 13, none⟩ = false ∧ w.frozen? ⟨g, 14, none⟩ = false ∧ w.frozen? ⟨g, 15, none⟩ = false ∧ w.frozen? ⟨g, 16, none⟩ = false ∧ w.frozen? ⟨g, 17, none⟩ = false ∧ w.frozen? ⟨g, 18, none⟩ = false ∧ w.frozen? ⟨g, 19, none⟩ = false ∧ w.frozen? ⟨g, 20, none⟩ = false ∧ w.frozen? ⟨g, 21, none⟩ = false ∧ w.frozen? ⟨g, 22, none⟩ = false := by
  exact ⟨(blk_cell h 0).trans rfl, (blk_cell h 1).trans rfl, (blk_cell h 2).trans rfl, (blk_cell h 3).trans rfl, (blk_cell h 4).trans rfl, (blk_cell h 5).trans rfl, (blk_cell h 6).trans rfl, (blk_cell h 7).trans rfl, (blk_cell h 8).trans rfl, (blk_cell h 9).trans rfl, (blk_cell h 10).trans rfl, (blk_cell h 11).trans rfl, (blk_cell h 12).trans rfl, (blk_cell h 13).trans rfl, (blk_cell h 14).trans rfl, (blk_cell h 15).trans rfl, (blk_cell h 16).trans rfl, (blk_cell h 17).trans rfl, (blk_cell h 18).trans rfl, (blk_cell h 19).trans rfl, (blk_cell h 20).trans rfl, (blk_cell h 21).trans rfl, (blk_cell h 22).trans rfl, blk_frozen h 0, blk_frozen h 1, blk_frozen h 2, blk_frozen h 3, blk_frozen h 4, blk_frozen h 5, blk_frozen h 6, blk_frozen h 7, blk_frozen h 8, blk_frozen h 9, blk_frozen h 10, blk_frozen h 11, blk_frozen h 12, blk_frozen h 13, blk_frozen h 14, blk_frozen h 15, blk_frozen h 16, blk_frozen h 17, blk_frozen h 18, blk_frozen h 19, blk_frozen h 20, blk_frozen h 21, blk_frozen h 22⟩
theorem far12 {W : World} {g i0 i1 i2 i3 i4 i5 i6 i7 i8 i9 i10 i11 : Nat} {u0 u1 u2 u3 u4 u5 u6 u7 u8 u9 u10 u11 : Value} {a : Addr} (h : a.block ≠ g) : ((((((((((((W.setCell ⟨g, i0, none⟩ u0).setCell ⟨g, i1, none⟩ u1).setCell ⟨g, i2, none⟩ u2).setCell ⟨g, i3, none⟩ u3).setCell ⟨g, i4, none⟩ u4).setCell ⟨g, i5, none⟩ u5).setCell ⟨g, i6, none⟩ u6).setCell ⟨g, i7, none⟩ u7).setCell ⟨g, i8, none⟩ u8).setCell ⟨g, i9, none⟩ u9).setCell ⟨g, i10, none⟩ u10).setCell ⟨g, i11, none⟩ u11).cell? a = W.cell? a := (cell_far (p := ⟨g, _, none⟩) h _).trans ((cell_far (p := ⟨g, _, none⟩) h _).trans ((cell_far (p := ⟨g, _, none⟩) h _).trans ((cell_far (p := ⟨g, _, none⟩) h _).trans ((cell_far (p := ⟨g, _, none⟩) h _).trans ((cell_far (p := ⟨g, _, none⟩) h _).trans ((cell_far (p := ⟨g, _, none⟩) h _).trans ((cell_far (p := ⟨g, _, none⟩) h _).trans ((cell_far (p := ⟨g, _, none⟩) h _).trans ((cell_far (p := ⟨g, _, none⟩) h _).trans ((cell_far (p := ⟨g, _, none⟩) h _).trans (cell_far (p := ⟨g, _, none⟩) h _)))))))))))
theorem far14 {W : World} {g i0 i1 i2 i3 i4 i5 i6 i7 i8 i9 i10 i11 i12 i13 : Nat} {u0 u1 u2 u3 u4 u5 u6 u7 u8 u9 u10 u11 u12 u13 : Value} {a : Addr} (h : a.block ≠ g) : ((((((((((((((W.setCell ⟨g, i0, none⟩ u0).setCell ⟨g, i1, none⟩ u1).setCell ⟨g, i2, none⟩ u2).setCell ⟨g, i3, none⟩ u3).setCell ⟨g, i4, none⟩ u4).setCell ⟨g, i5, none⟩ u5).setCell ⟨g, i6, none⟩ u6).setCell ⟨g, i7, none⟩ u7).setCell ⟨g, i8, none⟩ u8).setCell ⟨g, i9, none⟩ u9).setCell ⟨g, i10, none⟩ u10).setCell ⟨g, i11, none⟩ u11).setCell ⟨g, i12, none⟩ u12).setCell ⟨g, i13, none⟩ u13).cell? a = W.cell? a := (cell_far (p := ⟨g, _, none⟩) h _).trans ((cell_far (p := ⟨g, _, none⟩) h _).trans ((cell_far (p := ⟨g, _, none⟩) h _).trans ((cell_far (p := ⟨g, _, none⟩) h _).trans ((cell_far (p := ⟨g, _, none⟩) h _).trans ((cell_far (p := ⟨g, _, none⟩) h _).trans ((cell_far (p := ⟨g, _, none⟩) h _).trans ((cell_far (p := ⟨g, _, none⟩) h _).trans ((cell_far (p := ⟨g, _, none⟩) h _).trans ((cell_far (p := ⟨g, _, none⟩) h _).trans ((cell_far (p := ⟨g, _, none⟩) h _).trans ((cell_far (p := ⟨g, _, none⟩) h _).trans ((cell_far (p := ⟨g, _, none⟩) h _).trans (cell_far (p := ⟨g, _, none⟩) h _)))))))))))))
theorem puts6 {w : World} {g t : Nat} {a0 a1 a2 a3 a4 a5 b0 b1 b2 b3 b4 b5 : Value} (h : w.heap[g]? = some (.cells #[a0, a1, a2, a3, a4, a5] t (0, 0))) : ((((((w.setCell ⟨g, 0, none⟩ b0).setCell ⟨g, 1, none⟩ b1).setCell ⟨g, 2, none⟩ b2).setCell ⟨g, 3, none⟩ b3).setCell ⟨g, 4, none⟩ b4).setCell ⟨g, 5, none⟩ b5).heap[g]? = some (.cells #[b0, b1, b2, b3, b4, b5] t (0, 0)) := by
  refine blk_put (cs := #[b0, b1, b2, b3, b4, a5]) ?_ 5 _ rfl
  refine blk_put (cs := #[b0, b1, b2, b3, a4, a5]) ?_ 4 _ rfl
  refine blk_put (cs := #[b0, b1, b2, a3, a4, a5]) ?_ 3 _ rfl
  refine blk_put (cs := #[b0, b1, a2, a3, a4, a5]) ?_ 2 _ rfl
  refine blk_put (cs := #[b0, a1, a2, a3, a4, a5]) ?_ 1 _ rfl
  refine blk_put (cs := #[a0, a1, a2, a3, a4, a5]) ?_ 0 _ rfl
  exact h
theorem puts12 {w : World} {g t : Nat} {a0 a1 a2 a3 a4 a5 a6 a7 a8 a9 a10 a11 b0 b1 b2 b3 b4 b5 b6 b7 b8 b9 b10 b11 : Value} (h : w.heap[g]? = some (.cells #[a0, a1, a2, a3, a4, a5, a6, a7, a8, a9, a10, a11] t (0, 0))) : ((((((((((((w.setCell ⟨g, 0, none⟩ b0).setCell ⟨g, 1, none⟩ b1).setCell ⟨g, 2, none⟩ b2).setCell ⟨g, 3, none⟩ b3).setCell ⟨g, 4, none⟩ b4).setCell ⟨g, 5, none⟩ b5).setCell ⟨g, 6, none⟩ b6).setCell ⟨g, 7, none⟩ b7).setCell ⟨g, 8, none⟩ b8).setCell ⟨g, 9, none⟩ b9).setCell ⟨g, 10, none⟩ b10).setCell ⟨g, 11, none⟩ b11).heap[g]? = some (.cells #[b0, b1, b2, b3, b4, b5, b6, b7, b8, b9, b10, b11] t (0, 0)) := by
  refine blk_put (cs := #[b0, b1, b2, b3, b4, b5, b6, b7, b8, b9, b10, a11]) ?_ 11 _ rfl
  refine blk_put (cs := #[b0, b1, b2, b3, b4, b5, b6, b7, b8, b9, a10, a11]) ?_ 10 _ rfl
  refine blk_put (cs := #[b0, b1, b2, b3, b4, b5, b6, b7, b8, a9, a10, a11]) ?_ 9 _ rfl
  refine blk_put (cs := #[b0, b1, b2, b3, b4, b5, b6, b7, a8, a9, a10, a11]) ?_ 8 _ rfl
  refine blk_put (cs := #[b0, b1, b2, b3, b4, b5, b6, a7, a8, a9, a10, a11]) ?_ 7 _ rfl
  refine blk_put (cs := #[b0, b1, b2, b3, b4, b5, a6, a7, a8, a9, a10, a11]) ?_ 6 _ rfl
  refine blk_put (cs := #[b0, b1, b2, b3, b4, a5, a6, a7, a8, a9, a10, a11]) ?_ 5 _ rfl
  refine blk_put (cs := #[b0, b1, b2, b3, a4, a5, a6, a7, a8, a9, a10, a11]) ?_ 4 _ rfl
  refine blk_put (cs := #[b0, b1, b2, a3, a4, a5, a6, a7, a8, a9, a10, a11]) ?_ 3 _ rfl
  refine blk_put (cs := #[b0, b1, a2, a3, a4, a5, a6, a7, a8, a9, a10, a11]) ?_ 2 _ rfl
  refine blk_put (cs := #[b0, a1, a2, a3, a4, a5, a6, a7, a8, a9, a10, a11]) ?_ 1 _ rfl
  refine blk_put (cs := #[a0, a1, a2, a3, a4, a5, a6, a7, a8, a9, a10, a11]) ?_ 0 _ rfl
  exact h
theorem puts14 {w : World} {g t : Nat} {a0 a1 a2 a3 a4 a5 a6 a7 a8 a9 a10 a11 a12 a13 b0 b1 b2 b3 b4 b5 b6 b7 b8 b9 b10 b11 b12 b13 : Value} (h : w.heap[g]? = some (.cells #[a0, a1, a2, a3, a4, a5, a6, a7, a8, a9, a10, a11, a12, a13] t (0, 0))) : ((((((((((((((w.setCell ⟨g, 0, none⟩ b0).setCell ⟨g, 1, none⟩ b1).setCell ⟨g, 2, none⟩ b2).setCell ⟨g, 3, none⟩ b3).setCell ⟨g, 4, none⟩ b4).setCell ⟨g, 5, none⟩ b5).setCell ⟨g, 6, none⟩ b6).setCell ⟨g, 7, none⟩ b7).setCell ⟨g, 8, none⟩ b8).setCell ⟨g, 9, none⟩ b9).setCell ⟨g, 10, none⟩ b10).setCell ⟨g, 11, none⟩ b11).setCell ⟨g, 12, none⟩ b12).setCell ⟨g, 13, none⟩ b13).heap[g]? = some (.cells #[b0, b1, b2, b3, b4, b5, b6, b7, b8, b9, b10, b11, b12, b13] t (0, 0)) := by
  refine blk_put (cs := #[b0, b1, b2, b3, b4, b5, b6, b7, b8, b9, b10, b11, b12, a13]) ?_ 13 _ rfl
  refine blk_put (cs := #[b0, b1, b2, b3, b4, b5, b6, b7, b8, b9, b10, b11, a12, a13]) ?_ 12 _ rfl
  refine blk_put (cs := #[b0, b1, b2, b3, b4, b5, b6, b7, b8, b9, b10, a11, a12, a13]) ?_ 11 _ rfl
  refine blk_put (cs := #[b0, b1, b2, b3, b4, b5, b6, b7, b8, b9, a10, a11, a12, a13]) ?_ 10 _ rfl
  refine blk_put (cs := #[b0, b1, b2, b3, b4, b5, b6, b7, b8, a9, a10, a11, a12, a13]) ?_ 9 _ rfl
  refine blk_put (cs := #[b0, b1, b2, b3, b4, b5, b6, b7, a8, a9, a10, a11, a12, a13]) ?_ 8 _ rfl
  refine blk_put (cs := #[b0, b1, b2, b3, b4, b5, b6, a7, a8, a9, a10, a11, a12, a13]) ?_ 7 _ rfl
  refine blk_put (cs := #[b0, b1, b2, b3, b4, b5, a6, a7, a8, a9, a10, a11, a12, a13]) ?_ 6 _ rfl
  refine blk_put (cs := #[b0, b1, b2, b3, b4, a5, a6, a7, a8, a9, a10, a11, a12, a13]) ?_ 5 _ rfl
  refine blk_put (cs := #[b0, b1, b2, b3, a4, a5, a6, a7, a8, a9, a10, a11, a12, a13]) ?_ 4 _ rfl
  refine blk_put (cs := #[b0, b1, b2, a3, a4, a5, a6, a7, a8, a9, a10, a11, a12, a13]) ?_ 3 _ rfl
  refine blk_put (cs := #[b0, b1, a2, a3, a4, a5, a6, a7, a8, a9, a10, a11, a12, a13]) ?_ 2 _ rfl
  refine blk_put (cs := #[b0, a1, a2, a3, a4, a5, a6, a7, a8, a9, a10, a11, a12, a13]) ?_ 1 _ rfl
  refine blk_put (cs := #[a0, a1, a2, a3, a4, a5, a6, a7, a8, a9, a10, a11, a12, a13]) ?_ 0 _ rfl
  exact h
theorem qM {p : Prop} (h : p) : Aside0 p := Aside0.mk h
theorem xA : type_of% @List.setIfInBounds_toArray := @List.setIfInBounds_toArray
theorem xZ : type_of% @List.set_cons_zero := @List.set_cons_zero
theorem xS : type_of% @List.set_cons_succ := @List.set_cons_succ
theorem qL : type_of% @blk_lt := @blk_lt
theorem qN : type_of% @blk_drewN := @blk_drewN
theorem qD : type_of% @blk_drew := @blk_drew
theorem qA : type_of% @blk_alloc := @blk_alloc
theorem eA : type_of% @below_alloc := @below_alloc
theorem eN : type_of% @pw_below_drewN := @pw_below_drewN
theorem eD : type_of% @below_drew1 := @below_drew1
theorem eS : type_of% @below_set := @below_set
theorem eT : type_of% @below_step := @below_step
theorem eZ : type_of% @below_size := @below_size
theorem qB : type_of% @blk_below := @blk_below
theorem qF : type_of% @blk_frozen := @blk_frozen
theorem qC : type_of% @blk_cell := @blk_cell
theorem qR : type_of% @blk_far := @blk_far
theorem qP : type_of% @blk_put := @blk_put
theorem RA : type_of% @Kd.R_alloc := @Kd.R_alloc
theorem RN : type_of% @Kd.R_drewN := @Kd.R_drewN
theorem RD : type_of% @Kd.R_drew := @Kd.R_drew

end Go.Proofs.Ytmjmmgefkebggaa.PAll
