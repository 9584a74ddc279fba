/- FramesRoom: there is room for as many frames as was told. -/
import Derived.Deep.DeepMust
import Derived.Test.YtbbgkelcdooabaaFraK
import Derived.Test.YtbbgkelcdooabaaBits
namespace Go.Proofs.Ytbbgkelcdooabaa.G
open Go.RowKit Go.Proofs.YtbbgkelcdooabaaW.PrintWords Go.Proofs.YtbbgkelcdooabaaW.PrintLast Go.Proofs.YtbbgkelcdooabaaW.PrintMore
set_option linter.unusedVariables false
set_option linter.unusedSimpArgs false
theorem wrap64_id {n : Int} (h0 : -9223372036854775808 ≤ n) (h1 : n < 9223372036854775808) : wrap64 n = n := by
  unfold wrap64
  omega
theorem words_l0 (l : List Int) (hl : l.length ≤ 1000000000) : ∀ (k i : Nat), i ≤ l.length → l.length < i + k → avocetref14_Words.l0 k l l i = some true
  | 0, i, h1, h => by omega
  | k + 1, i, h1, h => by
    unfold avocetref14_Words.l0
    by_cases hi : (i : Int) < (l.length : Int)
    · rw [if_pos hi, if_pos (by omega), if_pos hi, if_pos rfl, wrap64_id (by omega) (by omega)]
      exact words_l0 l hl k (i + 1) (by omega) (by omega)
    · rw [if_neg hi]
theorem words_self (l : List Int) (hl : l.length ≤ 1000000000) : avocetref14_Words.f (l.length + 1) l l = some true := by
  unfold avocetref14_Words.f
  rw [if_pos rfl]
  exact words_l0 l hl _ 0 (by omega) (by omega)
/-- The frames behind i rounds. -/
def rmF (l : List Int) (i : Nat) : List Fm := (List.range i).map fun (j : Nat) => ⟨j, 0, [], (l.length : Int)⟩
theorem rmF_len (l : List Int) (i : Nat) : (rmF l i).length = i := by simp [rmF]
theorem rmF_succ (l : List Int) (i : Nat) : rmF l (i + 1) = rmF l i ++ [⟨i, 0, [], (l.length : Int)⟩] := by simp [rmF, List.range_succ]
theorem rm_base (l : List Int) (i : Nat) : baseOf (rmF l i) = if i = 0 then 0 else (l.length : Int) := by
  cases i with
  | zero => rfl
  | succ i => rw [rmF_succ]; simp [baseOf]
theorem rm_has (l : List Int) (i : Nat) (r : Int) : hasN ⟨l, rmF l i, r⟩ 0 := by
  refine ⟨Int.le_refl _, ?_⟩
  show (0 : Int) ≤ (l.length : Int) - baseOf (rmF l i)
  rw [rm_base]
  split <;> omega
theorem rm_enter (l : List Int) (i k : Nat) (a : Int) (hi : i < k) : fEnter ⟨l, rmF l i, k⟩ a 0 0 0 = (⟨l, rmF l i ++ [⟨a, 0, [], (l.length : Int)⟩], k⟩, 0) := by
  unfold fEnter
  rw [if_neg (by show ¬ ((k : Int) ≤ ((rmF l i).length : Int)); rw [rmF_len]; omega), if_neg (by rintro (h | h); exact absurd h (by decide); exact h (rm_has l i k))]
  simp
theorem rm_full (l : List Int) (k : Nat) (a : Int) : fEnter ⟨l, rmF l k, k⟩ a 0 0 0 = (⟨l, rmF l k, k⟩, 9) := by
  unfold fEnter
  rw [if_pos (by show (k : Int) ≤ ((rmF l k).length : Int); rw [rmF_len]; omega)]
theorem rm_leave (l : List Int) (k : Nat) : fLeave ⟨l, rmF l (k + 1), ((k + 1 : Nat) : Int)⟩ 0 = (⟨l, rmF l k, ((k + 1 : Nat) : Int)⟩, true) := by
  unfold fLeave
  rw [if_neg (by rintro (h | h); (have h2 : rmF l (k + 1) = [] := h; have := rmF_len l (k + 1); rw [h2] at this; simp at this); exact h (rm_has l (k + 1) _))]
  simp only [rm_base]
  rw [rmF_succ]
  simp
theorem rm_leave0 (l : List Int) (r : Int) : fLeave ⟨l, rmF l 0, r⟩ 0 = (⟨l, rmF l 0, r⟩, false) := by
  unfold fLeave
  rw [if_pos (.inl rfl)]
set_option maxHeartbeats 4000000 in
set_option maxRecDepth 100000 in
theorem framesRoom (a0 : Int) (A1 : Option Addr) (c1 : Nat) (l : List Int) (w : World) (hC : Kd.C (Kd.int .u64) w A1 l.length l) (hc : l.length ≤ c1) :
    Calls Try.prog 3 #[.int .i64 a0, .slice A1 l.length c1] w fun e w' => e = .returned (.bool true) ∧ Below w.heap.size w w' := by
  have HC := Aside0.mk hC
  clear hC
  by_cases hl : 40 < l.length
  · have d0 : decide (40 < l.length) = true := decide_eq_true hl
    have d0' : decide ((40 : Int) < (l.length : Int)) = true := decide_eq_true (by omega)
    go_enter Try.func3, Try.ntmps3
    go_wp2_with (go_at_call 9; (with_reducible refine (awake _).mono ?_); rintro e w1 ⟨rfl, hb⟩; have HB := Aside0.mk hb; clear hb)
    go_ret
    exact ⟨rfl, HB.out⟩
  have d0 : decide (40 < l.length) = false := decide_eq_false hl
  have d0' : decide ((40 : Int) < (l.length : Int)) = false := decide_eq_false (by omega)
  obtain ⟨k, hk, hk63⟩ := and_lowi a0 63 (by decide)
  have hk : bits .and .i64 a0 63 = (k : Int) := hk
  have hm : max 0 (min (k : Int) 64) = (k : Int) := by omega
  have hl40 : l.length ≤ 40 := by omega
  have HW := Aside0.mk (words_self l (by omega))
  go_enter Try.func3, Try.ntmps3
  go_wp2_with (first
    | (go_at_call 9; (with_reducible refine (awake _).mono ?_); rintro e w1 ⟨rfl, hb⟩; have HB := Aside0.mk hb; clear hb)
    | (go_at_call 10; go_must ((with_reducible refine (frNewS ((SB.start w).below HB.out) (k : Int)).mono ?_); rintro e w2 ⟨rfl, hs⟩; rw [hm] at hs; obtain ⟨p, hp⟩ : ∃ p, w1.heap.size = p := ⟨_, rfl⟩; rw [hp] at hs ⊢; have HS2 := Aside0.mk hs; clear hs hp))
    | (go_at_call 11; go_must ((with_reducible refine (fraPush (s := ⟨[], [], (k : Int)⟩) HS2.out A1 c1 l (Kd.C_below HC.out HS2.out.bel) hc (by simp; omega)).mono ?_); rintro e w3 ⟨rfl, hs⟩; have HS3 := Aside0.mk (show SB w w3 [FO p ⟨l, rmF l 0, (k : Int)⟩] from hs); clear hs)))
  go_loopw [8] (fun v8 wr => ∃ i : Nat, v8 = .int .i64 i ∧ i ≤ k ∧ Aside0 (SB w wr [FO p ⟨l, rmF l i, (k : Int)⟩])) (fun v8 _ => k - (intOf v8).toNat)
  case atStart => exact ⟨0, rfl, Nat.zero_le _, HS3⟩
  case round =>
    obtain ⟨i, rfl, hi, HR⟩ := hrel
    by_cases hlt : i < k
    · have e1 : decide ((i : Int) < (k : Int)) = true := decide_eq_true (by omega)
      have e2 : decide (i < k) = true := decide_eq_true hlt
      have hen := Aside0.mk (rm_enter l i k i hlt)
      rw [← rmF_succ] at hen
      go_wp2_with (go_at_call 12; go_must ((with_reducible refine (fraEnter HR.out (by show l.length ≤ 1000000; omega) i 0 0 0 (by decide) hen.out).mono ?_); rintro e w4 ⟨rfl, hs⟩; have HR4 := Aside0.mk hs; clear hs))
      exact ⟨⟨i + 1, by simp, by omega, HR4⟩, by simp [intOf]; omega⟩
    · have e1 : decide ((i : Int) < (k : Int)) = false := decide_eq_false (by omega)
      have e2 : decide (i < k) = false := decide_eq_false hlt
      obtain rfl : i = k := by omega
      have hfull := Aside0.mk (rm_full l i 0)
      have hlen := Aside0.mk (rmF_len l i)
      have hls : l.length ≤ 1000000 := by omega
      by_cases h0 : i = 0
      · subst h0
        have hle := Aside0.mk (rm_leave0 l ((0 : Nat) : Int))
        have hf7 := Aside0.mk (rm_full l 0 7)
        go_wp2_with (first
          | (go_at_call 12; (with_reducible refine (fraEnter HR.out hls 0 0 0 0 (by decide) hfull.out).mono ?_); rintro e w4 ⟨rfl, hs⟩; have HR4 := Aside0.mk hs; clear hs)
          | (go_at_call 13; (with_reducible refine (fraDepth HR4.out).mono ?_); rintro e w5 ⟨rfl, hs⟩; rw [hlen.out]; have HR5 := Aside0.mk hs; clear hs)
          | (go_at_call 14; (with_reducible refine (fraLeave HR5.out hls 0 hle.out).mono ?_); rintro e w6 ⟨rfl, hs⟩; have HR6 := Aside0.mk hs; clear hs)
          | (go_at_call 12; (with_reducible refine (fraEnter HR6.out hls 7 0 0 0 (by decide) hf7.out).mono ?_); rintro e w7 ⟨rfl, hs⟩; have HR7 := Aside0.mk hs; clear hs)
          | (go_at_call 16; (with_reducible refine (frVals HR7.out hls).mono ?_); rintro e w8 ⟨v8, rfl, hs⟩; obtain ⟨A8, c8, rfl, hc8, hC8⟩ := hs.reads; have HR8 := Aside0.mk hs; have HC8 := Aside0.mk hC8; clear hs hC8)
          | (go_at_call 15; go_must ((with_reducible refine (avocetref14_Words.calls (l.length + 1) A8 c8 l A1 c1 l true _ HC8.out hc8 (Kd.C_below HC.out HR8.out.bel) hc HW.out).mono ?_)); rintro e w9 ⟨rfl, hs⟩; have HB9 := Aside0.mk hs; clear hs))
        go_ret
        exact ⟨by first | rfl | simp, (HR8.out.below (drawn_below HB9.out)).bel⟩
      · obtain ⟨j, rfl⟩ : ∃ j, i = j + 1 := ⟨i - 1, by omega⟩
        have hle := Aside0.mk (rm_leave l j)
        have hf7 := Aside0.mk (rm_enter l j (j + 1) 7 (by omega))
        have g1 : decide (0 < j + 1) = true := decide_eq_true (by omega)
        have g2 : decide ((0 : Int) < ((j + 1 : Nat) : Int)) = true := decide_eq_true (by omega)
        have g3 : decide ((0 : Int) < (j : Int) + 1) = true := decide_eq_true (by omega)
        go_wp2_with (first
          | (go_at_call 12; (with_reducible refine (fraEnter HR.out hls 0 0 0 0 (by decide) hfull.out).mono ?_); rintro e w4 ⟨rfl, hs⟩; have HR4 := Aside0.mk hs; clear hs)
          | (go_at_call 13; (with_reducible refine (fraDepth HR4.out).mono ?_); rintro e w5 ⟨rfl, hs⟩; rw [hlen.out]; have HR5 := Aside0.mk hs; clear hs)
          | (go_at_call 14; (with_reducible refine (fraLeave HR5.out hls 0 hle.out).mono ?_); rintro e w6 ⟨rfl, hs⟩; have HR6 := Aside0.mk hs; clear hs)
          | (go_at_call 12; (with_reducible refine (fraEnter HR6.out hls 7 0 0 0 (by decide) hf7.out).mono ?_); rintro e w7 ⟨rfl, hs⟩; have HR7 := Aside0.mk hs; clear hs)
          | (go_at_call 16; (with_reducible refine (frVals HR7.out hls).mono ?_); rintro e w8 ⟨v8, rfl, hs⟩; obtain ⟨A8, c8, rfl, hc8, hC8⟩ := hs.reads; have HR8 := Aside0.mk hs; have HC8 := Aside0.mk hC8; clear hs hC8)
          | (go_at_call 15; go_must ((with_reducible refine (avocetref14_Words.calls (l.length + 1) A8 c8 l A1 c1 l true _ HC8.out hc8 (Kd.C_below HC.out HR8.out.bel) hc HW.out).mono ?_)); rintro e w9 ⟨rfl, hs⟩; have HB9 := Aside0.mk hs; clear hs))
        go_ret
        exact ⟨by first | rfl | simp, (HR8.out.below (drawn_below HB9.out)).bel⟩
def avocetlaw17_FramesRoom.f (a0 : Int) (l1 : List Int) : Option (Bool) := some true
theorem avocetlaw17_FramesRoom.calls (a0 : Int) (A1 : Option Addr) (c1 : Nat) (l1 : List Int) (r : Bool) (w : World) (hr1 : Kd.C (Kd.int .u64) w A1 l1.length l1) (hc1 : l1.length ≤ c1) (hr_ : r = true) (h : avocetlaw17_FramesRoom.f a0 l1 = some r) :
    Calls Try.prog 3 #[.int .i64 a0, .slice A1 l1.length c1] w fun e w' => e = .returned (.bool r) ∧ Below w.heap.size w w' := by
  subst hr_
  exact framesRoom a0 A1 c1 l1 w hr1 hc1
end Go.Proofs.Ytbbgkelcdooabaa.G
