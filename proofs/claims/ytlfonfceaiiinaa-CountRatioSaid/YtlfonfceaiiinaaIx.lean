/- Indexes in memory, as they are read: what the printed functions over them come to, told by readings alone. -/
import Derived.Test.YtlfonfceaiiinaaPAllx10
import Derived.Test.YtlfonfceaiiinaaPAllx10
import Derived.Test.YtlfonfceaiiinaaPAllx11
import Derived.Test.YtlfonfceaiiinaaPAllx8
import Derived.Test.YtlfonfceaiiinaaPAllx8
import Derived.Test.YtlfonfceaiiinaaPAllx13
import Derived.Test.YtlfonfceaiiinaaPAllx9
import Derived.Test.YtlfonfceaiiinaaPAllx12
import Derived.Test.YtlfonfceaiiinaaPAllx7
import Derived.Test.YtlfonfceaiiinaaBase
namespace Go.Proofs.Ytlfonfceaiiinaa.PAll
open Go.RowKit Go.Proofs.YtlfonfceaiiinaaW.PrintWords Go.Proofs.YtlfonfceaiiinaaW.PrintLast Go.Proofs.YtlfonfceaiiinaaW.PrintMore

theorem hpSpan : Kd.Heap k59 := Kd.heap_iso _ (Kd.heap_pair (Kd.heap_int .i64) (Kd.heap_int .i64))
theorem hpPlace : Kd.Heap k75 := Kd.heap_iso _ (Kd.heap_pair (Kd.heap_int .i64) (Kd.heap_int .i64))
theorem hpVol : Kd.Heap k45 := Kd.heap_iso _ (Kd.heap_pair (Kd.heap_int .i64) (Kd.heap_pair (Kd.heap_int .i64) (Kd.heap_pair (Kd.heap_int .i64) (Kd.heap_pair (Kd.heap_int .i64) (Kd.heap_pair (Kd.heap_int .i64) (Kd.heap_pair (Kd.heap_slice 59 hpSpan) (Kd.heap_pair (Kd.heap_slice 75 hpPlace) (Kd.heap_pair (Kd.heap_int .i64) (Kd.heap_int .i64)))))))))
theorem hpName : Kd.Heap k92 := Kd.heap_iso _ (Kd.heap_pair Kd.heap_string (Kd.heap_pair (Kd.heap_int .i64) (Kd.heap_pair (Kd.heap_int .i64) (Kd.heap_pair (Kd.heap_int .i64) (Kd.heap_int .u32)))))
theorem hpReply : Kd.Heap k37 := Kd.heap_iso _ (Kd.heap_pair (Kd.heap_int .i64) (Kd.heap_pair (Kd.heap_int .i64) (Kd.heap_pair (Kd.heap_int .i64) (Kd.heap_pair (Kd.heap_int .i64) (Kd.heap_pair (Kd.heap_int .u32) Kd.heap_bool)))))
theorem hpSes : Kd.Heap k64 := Kd.heap_iso _ (Kd.heap_pair (Kd.heap_int .i64) (Kd.heap_pair (Kd.heap_int .i64) hpReply))
/-- A slice that reads as l. -/
def Sl {α : Type} (k : Kd α) (w : World) (v : Value) (l : List α) : Prop := ∃ A c, v = .slice A l.length c ∧ l.length ≤ c ∧ Kd.C k w A l.length l
theorem Sl.below {α : Type} {k : Kd α} {w w1 : World} {v : Value} {l : List α} (h : Sl k w v l) (hb : Below w.heap.size w w1) : Sl k w1 v l := by
  obtain ⟨A, c, e, hc, hr⟩ := h
  exact ⟨A, c, e, hc, Kd.C_below hr hb⟩
theorem Sl.nil {α : Type} (k : Kd α) (w : World) : Sl k w (.slice none 0 0) [] := ⟨none, 0, rfl, Nat.le_refl _, Kd.C_nil k w⟩
theorem Sl.of_V {α : Type} {k : Kd α} {e : Nat} {w : World} {base : Nat} {ok : Nat → Prop} {v : Value} {l : List α} (h : Kd.V k e w base ok v l) : Sl k w v l := by
  obtain ⟨A, c, rfl⟩ := Kd.V_slice h
  exact ⟨A, c, rfl, (Kd.V_reads' h).2.1, (Kd.V_reads' h).2.2⟩
theorem Sl.of_N {α : Type} {k : Kd α} {e : Nat} {w : World} {base : Nat} {ok : Nat → Prop} {v : Value} {l : List α} (h : Kd.N k e w base ok v l) : Sl k w v l := Kd.N_reads h
theorem Sl.of_R {α : Type} {k : Kd α} {e : Nat} {w : World} {base : Nat} {ok : Nat → Prop} {v : Value} {l : List α} (h : Kd.R k e w base ok v l) : Sl k w v l := Kd.R_reads h
abbrev Vol := S45
abbrev Nam := S92
abbrev Ses := S64
theorem with_reads (v0 v1 v2 : Value) (l0 : List Vol) (l1 : List Nam) (l2 : List Ses) (i : Int) (x : Vol) (v5 v6 : Value) (w : World) (h0 : Sl k45 w v0 l0) (h1 : Sl k92 w v1 l1) (h2 : Sl k64 w v2 l2) (h5 : Sl k59 w v5 x.f5) (h6 : Sl k75 w v6 x.f6) (hl : l0.length ≤ 1000) (hi : i < (l0.length : Int)) :
    Calls Try.prog 28 #[.agg #[v0, v1, v2], .int .i64 i, .agg #[.int .i64 x.f0, .int .i64 x.f1, .int .i64 x.f2, .int .i64 x.f3, .int .i64 x.f4, v5, v6, .int .i64 x.f7, .int .i64 x.f8]] w fun e w' => ∃ u0 u1 u2 : Value, e = .returned (.agg #[u0, u1, u2]) ∧ Sl k45 w' u0 (if i < 0 then l0 ++ [x] else l0.set i.toNat x) ∧ Sl k92 w' u1 l1 ∧ Sl k64 w' u2 l2 ∧ Below w.heap.size w w' := by
  obtain ⟨A0, c0, rfl, hc0, hr0⟩ := h0
  obtain ⟨A1, c1, rfl, hc1, hr1⟩ := h1
  obtain ⟨A2, c2, rfl, hc2, hr2⟩ := h2
  obtain ⟨A5, c5, rfl, hc5, hr5⟩ := h5
  obtain ⟨A6, c6, rfl, hc6, hr6⟩ := h6
  refine (hogsheadref15_with.calls (fun k_ => k_ < w.heap.size) A0 c0 l0 (fun k_ => k_ < w.heap.size) A1 c1 l1 (fun k_ => k_ < w.heap.size) A2 c2 l2 i x.f0 x.f1 x.f2 x.f3 x.f4 (fun k_ => k_ < w.heap.size) A5 c5 x.f5 (fun k_ => k_ < w.heap.size) A6 c6 x.f6 x.f7 x.f8 (if i < 0 then l0 ++ [x] else l0.set i.toNat x) l1 l2 w (Kd.V_mk hc0 (Kd.C_F hpVol hr0)) (Kd.V_mk hc1 (Kd.C_F hpName hr1)) (Kd.V_mk hc2 (Kd.C_F hpSes hr2)) (Kd.V_mk hc5 (Kd.C_F hpSpan hr5)) (Kd.V_mk hc6 (Kd.C_F hpPlace hr6)) ?_).mono ?_
  · unfold hogsheadref15_with.f
    rw [Option.bind_some, if_pos (by simp; omega), Option.bind_some, List.nil_append]
    by_cases c : i < 0
    · rw [if_pos c, if_pos c, if_pos (by omega)]
    · rw [if_neg c, if_neg c, if_pos (by omega), if_pos hi]
  · rintro e w' ⟨u0, u1, u2, rfl, g0, g1, g2, hb⟩
    exact ⟨u0, u1, u2, rfl, Sl.of_N g0, Sl.of_V g1, Sl.of_V g2, hb⟩
theorem no_reads (c : Int) (w : World) : Calls Try.prog 19 #[.int .i64 c] w fun e w' => e = .returned (.agg #[.int .i64 c, .int .i64 0, .int .i64 0, .int .i64 0, .int .u32 0, .bool false]) ∧ Below w.heap.size w w' := hogsheadref15_no.calls c c 0 0 0 0 false w rfl

/-! ### where the first one stands -/
open Go.Proofs.Ytlfonfceaiiinaa.PB in
theorem vol_loop (l0 : List Vol) (l1 : List Nam) (l2 : List Ses) (c : Int) (hl : l0.length ≤ 1000) : ∀ (d i k : Nat), i + d = l0.length → d < k → ∃ r : Int, hogsheadref15_VolAt.l0 k c i l0 l1 l2 = some r ∧ r < (l0.length : Int)
  | 0, i, k, hi, hk => by
    obtain ⟨k, rfl⟩ := succ_of hk
    rw [hogsheadref15_VolAt.l0, if_neg (by omega)]
    exact ⟨_, rfl, by omega⟩
  | d + 1, i, k, hi, hk => by
    obtain ⟨k, rfl⟩ := succ_of hk
    rw [hogsheadref15_VolAt.l0, if_pos (by omega), if_pos (by omega), wrap_succ (n := l0.length) (by omega) (by omega)]
    split
    · exact ⟨_, rfl, by omega⟩
    · exact vol_loop l0 l1 l2 c hl d (i + 1) k (by omega) (by omega)
open Go.Proofs.Ytlfonfceaiiinaa.PB in
theorem name_loop (l0 : List Vol) (l1 : List Nam) (l2 : List Ses) (c : ByteArray) (hl : l1.length ≤ 1000) : ∀ (d i k : Nat), i + d = l1.length → d < k → ∃ r : Int, hogsheadref15_NameAt.l0 k c i l0 l1 l2 = some r ∧ r < (l1.length : Int)
  | 0, i, k, hi, hk => by
    obtain ⟨k, rfl⟩ := succ_of hk
    rw [hogsheadref15_NameAt.l0, if_neg (by omega)]
    exact ⟨_, rfl, by omega⟩
  | d + 1, i, k, hi, hk => by
    obtain ⟨k, rfl⟩ := succ_of hk
    rw [hogsheadref15_NameAt.l0, if_pos (by omega), if_pos (by omega), wrap_succ (n := l1.length) (by omega) (by omega)]
    split
    · exact ⟨_, rfl, by omega⟩
    · exact name_loop l0 l1 l2 c hl d (i + 1) k (by omega) (by omega)
open Go.Proofs.Ytlfonfceaiiinaa.PB in
theorem last_loop (l0 : List Vol) (l1 : List Nam) (l2 : List Ses) (c : Int) (hl : l2.length ≤ 1000) : ∀ (d i k : Nat), i + d = l2.length → d < k → ∃ r : Int, hogsheadref15_LastAt.l0 k c i l0 l1 l2 = some r ∧ r < (l2.length : Int)
  | 0, i, k, hi, hk => by
    obtain ⟨k, rfl⟩ := succ_of hk
    rw [hogsheadref15_LastAt.l0, if_neg (by omega)]
    exact ⟨_, rfl, by omega⟩
  | d + 1, i, k, hi, hk => by
    obtain ⟨k, rfl⟩ := succ_of hk
    rw [hogsheadref15_LastAt.l0, if_pos (by omega), if_pos (by omega), wrap_succ (n := l2.length) (by omega) (by omega)]
    split
    · exact ⟨_, rfl, by omega⟩
    · exact last_loop l0 l1 l2 c hl d (i + 1) k (by omega) (by omega)
/-- What stands at a place that was found. -/
theorem vol_reads (l0 : List Vol) (l1 : List Nam) (l2 : List Ses) (c : Int) (hl : l0.length ≤ 1000) : ∃ r : Int, r < (l0.length : Int) ∧ ∀ (v0 v1 v2 : Value) (w : World), Sl k45 w v0 l0 → Sl k92 w v1 l1 → Sl k64 w v2 l2 → Calls Try.prog 32 #[.agg #[v0, v1, v2], .int .i64 c] w fun e w' => e = .returned (.int .i64 r) ∧ Below w.heap.size w w' := by
  obtain ⟨r, hr, hlt⟩ := vol_loop l0 l1 l2 c hl l0.length 0 (l0.length + 1) (by omega) (by omega)
  refine ⟨r, hlt, fun v0 v1 v2 w h0 h1 h2 => ?_⟩
  obtain ⟨A0, c0, rfl, hc0, hr0⟩ := h0
  obtain ⟨A1, c1, rfl, hc1, hr1⟩ := h1
  obtain ⟨A2, c2, rfl, hc2, hr2⟩ := h2
  exact hogsheadref15_VolAt.calls (l0.length + 1) A0 c0 l0 A1 c1 l1 A2 c2 l2 c r w hr0 hc0 hr1 hc1 hr2 hc2 hr
theorem name_reads (l0 : List Vol) (l1 : List Nam) (l2 : List Ses) (c : ByteArray) (hl : l1.length ≤ 1000) : ∃ r : Int, r < (l1.length : Int) ∧ ∀ (v0 v1 v2 : Value) (w : World), Sl k45 w v0 l0 → Sl k92 w v1 l1 → Sl k64 w v2 l2 → Calls Try.prog 37 #[.agg #[v0, v1, v2], .string c] w fun e w' => e = .returned (.int .i64 r) ∧ Below w.heap.size w w' := by
  obtain ⟨r, hr, hlt⟩ := name_loop l0 l1 l2 c hl l1.length 0 (l1.length + 1) (by omega) (by omega)
  refine ⟨r, hlt, fun v0 v1 v2 w h0 h1 h2 => ?_⟩
  obtain ⟨A0, c0, rfl, hc0, hr0⟩ := h0
  obtain ⟨A1, c1, rfl, hc1, hr1⟩ := h1
  obtain ⟨A2, c2, rfl, hc2, hr2⟩ := h2
  exact hogsheadref15_NameAt.calls (l1.length + 1) A0 c0 l0 A1 c1 l1 A2 c2 l2 c r w hr0 hc0 hr1 hc1 hr2 hc2 hr
theorem last_reads (l0 : List Vol) (l1 : List Nam) (l2 : List Ses) (c : Int) (hl : l2.length ≤ 1000) : ∃ r : Int, r < (l2.length : Int) ∧ ∀ (v0 v1 v2 : Value) (w : World), Sl k45 w v0 l0 → Sl k92 w v1 l1 → Sl k64 w v2 l2 → Calls Try.prog 20 #[.agg #[v0, v1, v2], .int .i64 c] w fun e w' => e = .returned (.int .i64 r) ∧ Below w.heap.size w w' := by
  obtain ⟨r, hr, hlt⟩ := last_loop l0 l1 l2 c hl l2.length 0 (l2.length + 1) (by omega) (by omega)
  refine ⟨r, hlt, fun v0 v1 v2 w h0 h1 h2 => ?_⟩
  obtain ⟨A0, c0, rfl, hc0, hr0⟩ := h0
  obtain ⟨A1, c1, rfl, hc1, hr1⟩ := h1
  obtain ⟨A2, c2, rfl, hc2, hr2⟩ := h2
  exact hogsheadref15_LastAt.calls (l2.length + 1) A0 c0 l0 A1 c1 l1 A2 c2 l2 c r w hr0 hc0 hr1 hc1 hr2 hc2 hr

/-! ### places that are whole, the third region, what may be -/
open Go.Proofs.Ytlfonfceaiiinaa.PB in
theorem whole_in (l : List S75) (c : Int) (hl : l.length ≤ 1000) (i K : Nat) (hi : i < l.length) (h : ∀ k, K < k → ∃ r, hogsheadref15_whole.l0 k l c ((i + 1 : Nat) : Int) = some r) : ∀ (d j k : Nat), j + d = i → d + K + 1 < k → ∃ r, hogsheadref15_whole.l1 k l c i j = some r
  | 0, j, k, hj, hk => by
    obtain ⟨k, rfl⟩ := succ_of hk
    rw [hogsheadref15_whole.l1, if_neg (by omega), wrap_succ (n := l.length) hi (by omega)]
    exact h k (by omega)
  | d + 1, j, k, hj, hk => by
    obtain ⟨k, rfl⟩ := succ_of hk
    rw [hogsheadref15_whole.l1, if_pos (by omega), if_pos (by omega), if_pos (by omega), if_pos (by omega), if_pos (by omega), wrap_succ (n := l.length) (by omega) (by omega)]
    split
    · exact ⟨_, rfl⟩
    · exact whole_in l c hl i K hi h d (j + 1) k (by omega) (by omega)
open Go.Proofs.Ytlfonfceaiiinaa.PB in
theorem whole_out (l : List S75) (c : Int) (hl : l.length ≤ 1000) (M : Nat) (hM : 1005 ≤ M) : ∀ (D i k : Nat), i + D = l.length → D * M < k → ∃ r, hogsheadref15_whole.l0 k l c i = some r
  | 0, i, k, hi, hk => by
    obtain ⟨k, rfl⟩ := succ_of hk
    rw [hogsheadref15_whole.l0, if_neg (by omega)]
    exact ⟨_, rfl⟩
  | D + 1, i, k, hi, hk => by
    rw [Nat.succ_mul] at hk
    obtain ⟨k, rfl⟩ := succ_of hk
    rw [hogsheadref15_whole.l0, if_pos (by omega), if_pos (by omega)]
    split
    · exact whole_in l c hl i (D * M) (by omega) (fun k hk => whole_out l c hl M hM D (i + 1) k (by omega) hk) i 0 k (by omega) (by omega)
    · exact ⟨_, rfl⟩
theorem whole_reads (l : List S75) (c : Int) : ∃ r : Bool, (r = true → l.length = 14) ∧ ∀ (v : Value) (w : World), Sl k75 w v l → Calls Try.prog 33 #[v, .int .i64 c] w fun e w' => e = .returned (.bool r) ∧ Drawn0 w w' := by
  have h : ∃ r, hogsheadref15_whole.f 100000 l c = some r ∧ (r = true → l.length = 14) := by
    unfold hogsheadref15_whole.f
    by_cases h14 : (l.length : Int) = 14
    · rw [if_pos h14]
      obtain ⟨r, hr⟩ := whole_out l c (by omega) 1005 (Nat.le_refl _) l.length 0 100000 (by omega) (by omega)
      exact ⟨r, hr, fun _ => by omega⟩
    · rw [if_neg h14]
      exact ⟨false, rfl, fun h => by cases h⟩
  obtain ⟨r, hr, h14⟩ := h
  refine ⟨r, h14, fun v w hv => ?_⟩
  obtain ⟨A, c', rfl, hc, hrd⟩ := hv
  exact hogsheadref15_whole.calls 100000 A c' l c r w hrd hc hr
open Go.Proofs.Ytlfonfceaiiinaa.PB in
theorem third_reads (a b : Int) : ∃ r1 r2 : Int, ∀ w : World, Calls Try.prog 27 #[.int .i64 a, .int .i64 b] w fun e w' => e = .returned (.tuple #[.int .i64 r1, .int .i64 r2]) ∧ Drawn0 w w' := by
  have h4 : ∀ k, ∃ r, hogsheadref11_Third.l0 (k + 1) a b 4 = some r := fun k => by
    rw [hogsheadref11_Third.l0, if_neg (by omega)]
    exact ⟨_, rfl⟩
  have st : ∀ (x : Int) (k : Nat), 1 ≤ x → x ≤ 3 → (∃ r, hogsheadref11_Third.l0 k a b (x + 1) = some r) → ∃ r, hogsheadref11_Third.l0 (k + 1) a b x = some r := fun x k h1 h3 h => by
    rw [hogsheadref11_Third.l0, if_pos h3, wrap_in (x := x + 1) (by unfold InR; omega)]
    split
    · exact h
    · split
      · exact h
      · exact ⟨_, rfl⟩
  have h1 : ∃ r, hogsheadref11_Third.l0 5 a b 1 = some r := st 1 4 (by omega) (by omega) (st 2 3 (by omega) (by omega) (st 3 2 (by omega) (by omega) (h4 1)))
  have hj : ∀ x, ∃ r, hogsheadref11_Third.j0 6 a b x = some r := fun x => by
    rw [hogsheadref11_Third.j0]
    split
    · exact ⟨_, rfl⟩
    · exact h1
  have hf : ∃ r, hogsheadref11_Third.f 6 a b = some r := by
    unfold hogsheadref11_Third.f
    split
    · exact hj _
    · split
      · exact hj _
      · split
        · exact hj _
        · split
          · exact hj _
          · exact hj _
  obtain ⟨⟨r1, r2⟩, hr⟩ := hf
  exact ⟨r1, r2, fun w => hogsheadref11_Third.calls 6 a b r1 r2 w hr⟩
abbrev Cmd := S42
/-- A command as it is handed on. -/
def cmdV (c : Cmd) (v : Value) : Value := .agg #[.int .i64 c.f0, .int .i64 c.f1, .int .i64 c.f2, .string c.f3, .int .i64 c.f4, .int .i64 c.f5, .int .i64 c.f6, .int .u32 c.f7, .int .i64 c.f8, .int .i64 c.f9, .int .i64 c.f10, v]
open Go.Proofs.Ytlfonfceaiiinaa.PB in
theorem may_loop (c : Cmd) (hl : c.f11.length ≤ 1000) : ∀ (d i k : Nat), i + d = c.f11.length → d < k → ∃ r, hogsheadref15_May.l0 k i c.f0 c.f1 c.f2 c.f3 c.f4 c.f5 c.f6 c.f7 c.f8 c.f9 c.f10 c.f11 = some r
  | 0, i, k, hi, hk => by
    obtain ⟨k, rfl⟩ := succ_of hk
    rw [hogsheadref15_May.l0, if_neg (by omega)]
    exact ⟨_, rfl⟩
  | d + 1, i, k, hi, hk => by
    obtain ⟨k, rfl⟩ := succ_of hk
    rw [hogsheadref15_May.l0, if_pos (by omega), if_pos (by omega), wrap_succ (n := c.f11.length) (by omega) (by omega)]
    split
    · exact ⟨_, rfl⟩
    · split
      · exact ⟨_, rfl⟩
      · split
        · exact ⟨_, rfl⟩
        · split
          · exact ⟨_, rfl⟩
          · exact may_loop c hl d (i + 1) k (by omega) (by omega)
theorem small_is (a : Int) : ∃ r, hogsheadref15_small.f a = some r ∧ (r = true → 0 ≤ a) := by
  unfold hogsheadref15_small.f
  by_cases c : a ≥ 0
  · rw [if_pos c]
    exact ⟨_, rfl, fun _ => c⟩
  · rw [if_neg c]
    exact ⟨_, rfl, fun h => by cases h⟩
theorem may_reads (c : Cmd) : ∃ r : Bool, (r = true → 0 ≤ c.f10) ∧ ∀ (v : Value) (w : World), Sl k75 w v c.f11 → Calls Try.prog 18 #[cmdV c v] w fun e w' => e = .returned (.bool r) ∧ Below w.heap.size w w' := by
  have h0t : ∀ k, hogsheadref15_May.j0 (k + 1) true c.f0 c.f1 c.f2 c.f3 c.f4 c.f5 c.f6 c.f7 c.f8 c.f9 c.f10 c.f11 = some false := fun k => by
    rw [hogsheadref15_May.j0, if_pos rfl]
  have h3t : ∀ k, hogsheadref15_May.j3 (k + 1) true c.f0 c.f1 c.f2 c.f3 c.f4 c.f5 c.f6 c.f7 c.f8 c.f9 c.f10 c.f11 = some false := fun k => by
    rw [hogsheadref15_May.j3, if_pos rfl]
  have h2 : ∀ k x, hogsheadref15_May.j2 (k + 2) x false c.f0 c.f1 c.f2 c.f3 c.f4 c.f5 c.f6 c.f7 c.f8 c.f9 c.f10 c.f11 = some false := fun k x => by
    rw [hogsheadref15_May.j2]
    split
    · exact h3t k
    · exact h3t k
  have h : c.f11.length ≤ 14 → ∃ r, hogsheadref15_May.j0 1010 false c.f0 c.f1 c.f2 c.f3 c.f4 c.f5 c.f6 c.f7 c.f8 c.f9 c.f10 c.f11 = some r ∧ (r = true → 0 ≤ c.f10) := by
    intro hl
    have hj2 : ∀ x y, (y = true → 0 ≤ c.f10) → ∃ r, hogsheadref15_May.j2 1008 x y c.f0 c.f1 c.f2 c.f3 c.f4 c.f5 c.f6 c.f7 c.f8 c.f9 c.f10 c.f11 = some r ∧ (r = true → 0 ≤ c.f10) := by
      intro x y hy
      cases y with
      | false => exact ⟨false, h2 1006 x, fun h => by cases h⟩
      | true =>
        rw [hogsheadref15_May.j2]
        split
        · rw [hogsheadref15_May.j3, if_neg (by decide)]
          obtain ⟨r, hr⟩ := may_loop c (by omega) c.f11.length 0 1006 (by omega) (by omega)
          exact ⟨r, hr, fun _ => hy rfl⟩
        · exact ⟨false, h3t 1006, fun h => by cases h⟩
    have hj1 : ∀ x, ∃ r, hogsheadref15_May.j1 1009 x c.f0 c.f1 c.f2 c.f3 c.f4 c.f5 c.f6 c.f7 c.f8 c.f9 c.f10 c.f11 = some r ∧ (r = true → 0 ≤ c.f10) := by
      intro x
      rw [hogsheadref15_May.j1]
      obtain ⟨r8, e8, _⟩ := small_is c.f8
      obtain ⟨r9, e9, _⟩ := small_is c.f9
      obtain ⟨r10, e10, g10⟩ := small_is c.f10
      rw [e8, Option.bind_some]
      split
      · rw [e9, Option.bind_some]
        split
        · rw [e10, Option.bind_some]
          exact hj2 x r10 g10
        · exact hj2 x false (fun h => by cases h)
      · exact hj2 x false (fun h => by cases h)
    rw [hogsheadref15_May.j0, if_neg (by decide)]
    obtain ⟨r4, e4, _⟩ := small_is c.f4
    obtain ⟨r5, e5, _⟩ := small_is c.f5
    obtain ⟨r6, e6, _⟩ := small_is c.f6
    rw [e4, Option.bind_some]
    split
    · rw [e5, Option.bind_some]
      split
      · rw [e6, Option.bind_some]
        exact hj1 r6
      · exact hj1 false
    · exact hj1 false
  have hf : ∃ r, hogsheadref15_May.f 1010 c.f0 c.f1 c.f2 c.f3 c.f4 c.f5 c.f6 c.f7 c.f8 c.f9 c.f10 c.f11 = some r ∧ (r = true → 0 ≤ c.f10) := by
    unfold hogsheadref15_May.f
    have ht := h0t 1009
    have hno : ∃ r, hogsheadref15_May.j0 1010 true c.f0 c.f1 c.f2 c.f3 c.f4 c.f5 c.f6 c.f7 c.f8 c.f9 c.f10 c.f11 = some r ∧ (r = true → 0 ≤ c.f10) := ⟨false, ht, fun h => by cases h⟩
    repeat (split; exact hno)
    by_cases c14 : (c.f11.length : Int) > 14
    · rw [decide_eq_true c14]
      exact hno
    · rw [decide_eq_false c14]
      exact h (by omega)
  obtain ⟨r, hr, h10⟩ := hf
  refine ⟨r, h10, fun v w hv => ?_⟩
  obtain ⟨A, c', rfl, hc, hrd⟩ := hv
  exact hogsheadref15_May.calls 1010 c.f0 c.f1 c.f2 c.f3 c.f4 c.f5 c.f6 c.f7 c.f8 c.f9 c.f10 A c' c.f11 r w hrd hc hr
theorem names_f (l0 : List Vol) (l1 : List Nam) (l2 : List Ses) (c : Cmd) (h1000 : l1.length ≤ 1000) : ∃ (l1' : List Nam) (r4 r5 r6 r7 r8 : Int) (r9 : Bool), l1'.length ≤ l1.length ∧ hogsheadref15_names.f (l1.length + 1) l0 l1 l2 c.f0 c.f1 c.f2 c.f3 c.f4 c.f5 c.f6 c.f7 c.f8 c.f9 c.f10 c.f11 = some (l0, l1', l2, r4, r5, r6, r7, r8, r9) := by
  obtain ⟨t, ht, hlt⟩ := name_loop l0 l1 l2 c.f3 h1000 l1.length 0 (l1.length + 1) (by omega) (by omega)
  have ht2 : hogsheadref15_NameAt.f (l1.length + 1) l0 l1 l2 c.f3 = some t := ht
  unfold hogsheadref15_names.f
  rw [ht2, Option.bind_some]
  by_cases c0 : t < 0
  · rw [if_pos c0]
    exact ⟨_, _, _, _, _, _, _, Nat.le_refl _, rfl⟩
  · rw [if_neg c0, if_pos (by omega), if_pos hlt]
    by_cases c5 : c.f0 = 5
    · rw [if_pos c5]
      exact ⟨_, _, _, _, _, _, _, Nat.le_refl _, rfl⟩
    · have hw : wrap64 (t + 1) = t + 1 := by unfold wrap64; omega
      rw [if_neg c5, Option.bind_some, if_pos (by omega), Option.bind_some, if_pos (by simp; omega), Option.bind_some, hw, if_pos (by omega), if_pos (by omega), Option.bind_some, if_pos (by simp; omega)]
      refine ⟨_, _, _, _, _, _, _, ?_, rfl⟩
      simp only [List.nil_append, List.length_append, List.length_take, List.length_drop]
      omega
/-- What names makes of an index: no volume changes. -/
theorem names_reads (l0 : List Vol) (l1 : List Nam) (l2 : List Ses) (c : Cmd) (h1000 : l1.length ≤ 1000) : ∃ (l1' : List Nam) (r4 r5 r6 r7 r8 : Int) (r9 : Bool), l1'.length ≤ l1.length ∧ ∀ (v0 v1 v2 v : Value) (w : World), Sl k45 w v0 l0 → Sl k92 w v1 l1 → Sl k64 w v2 l2 → Sl k75 w v c.f11 → Calls Try.prog 30 #[.agg #[v0, v1, v2], cmdV c v] w fun e w' => ∃ u0 u1 u2 : Value, e = .returned (.tuple #[.agg #[u0, u1, u2], .agg #[.int .i64 r4, .int .i64 r5, .int .i64 r6, .int .i64 r7, .int .u32 r8, .bool r9]]) ∧ Sl k45 w' u0 l0 ∧ Sl k92 w' u1 l1' ∧ Sl k64 w' u2 l2 ∧ Below w.heap.size w w' := by
  have hf := names_f l0 l1 l2 c h1000
  obtain ⟨l1', r4, r5, r6, r7, r8, r9, hle, hr⟩ := hf
  refine ⟨l1', r4, r5, r6, r7, r8, r9, hle, fun v0 v1 v2 v w h0 h1 h2 h3 => ?_⟩
  obtain ⟨A0, c0, rfl, hc0, hr0⟩ := h0
  obtain ⟨A1, c1, rfl, hc1, hr1⟩ := h1
  obtain ⟨A2, c2, rfl, hc2, hr2⟩ := h2
  obtain ⟨A3, c3, rfl, hc3, hr3⟩ := h3
  refine (hogsheadref15_names.calls (l1.length + 1) (fun k_ => k_ < w.heap.size) A0 c0 l0 (fun k_ => k_ < w.heap.size) A1 c1 l1 (fun k_ => k_ < w.heap.size) A2 c2 l2 c.f0 c.f1 c.f2 c.f3 c.f4 c.f5 c.f6 c.f7 c.f8 c.f9 c.f10 A3 c3 c.f11 l0 l1' l2 r4 r5 r6 r7 r8 r9 w (Kd.V_mk hc0 (Kd.C_F hpVol hr0)) (Kd.V_mk hc1 (Kd.C_F hpName hr1)) (Kd.V_mk hc2 (Kd.C_F hpSes hr2)) hr3 hc3 hr).mono ?_
  rintro e w' ⟨u0, u1, u2, rfl, g0, g1, g2, hb⟩
  exact ⟨u0, u1, u2, rfl, Sl.of_V g0, Sl.of_V g1, Sl.of_V g2, hb⟩
end Go.Proofs.Ytlfonfceaiiinaa.PAll
