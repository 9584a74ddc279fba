/- The document's memory (avocetref13): the same object, the same contracts. -/
import Derived.Test.YtffoolhfjomhhaaDoorGrow
import Derived.Test.YtffoolhfjomhhaaDoorApp
namespace Go.Proofs.YtffoolhfjomhhaaDoor.G
open Go.RowKit Go.Proofs.YtffoolhfjomhhaaDoorW.PrintWords Go.Proofs.YtffoolhfjomhhaaDoorW.PrintLast Go.Proofs.YtffoolhfjomhhaaDoorW.PrintMore
attribute [local go_sem] max2_int min2_int max_two min_two max_three min_three max_four min_four   -- for this text's walks alone
set_option linter.unusedVariables false
set_option linter.unusedSimpArgs false
def RO (p : Nat) (m : Mem) : As := ObR (Kd.int .u8) 5 60 p m.b [.int .i64 m.lo, .int .i64 m.hi, .bool m.has]
theorem RO.open_ {p : Nat} {m : Mem} {w : World} {F : Nat → Prop} (h : (RO p m).P w F) : ∃ A c, w.heap[p]? = some (.cells #[.slice A m.b.length c, .int .i64 m.lo, .int .i64 m.hi, .bool m.has] 60 (0, 0)) ∧ (Kd.int .u8).R 5 w 0 (fun k => F k ∧ k ≠ p) (.slice A m.b.length c) m.b ∧ m.b.length ≤ c ∧ F p ∧ ∀ k, F k → k < w.heap.size := by
  obtain ⟨v, hb, hR, hp, hl⟩ := h
  obtain ⟨A, c, rfl, hc, hC⟩ := Kd.R_reads hR
  exact ⟨A, c, hb, hR, hc, hp, hl⟩
theorem refPages (p : Nat) (A : Option Addr) (n c : Nat) (w : World) (hn : (n : Int) ≤ 9223372036854775807) (h : w.cell? ⟨p, 0, none⟩ = some (.slice A n c)) :
    Calls Tryd.prog 25 #[.pointer (some ⟨p, 0, none⟩)] w fun e w' => e = .returned (.int .i64 ((n : Int) / 65536)) ∧ Drawn0 w w' := by
  go_enter Tryd.func25, Tryd.ntmps25
  go_wp2
  go_ret
  exact ⟨rfl, by repeat (first | exact Drawn0.refl _ | apply Drawn0.step)⟩
theorem refFits (p : Nat) (A : Option Addr) (n c : Nat) (base off k : Int) (w : World) (hn : n ≤ 4294967295) (hb : 0 ≤ base ∧ base < 18446744073709551616) (ho : 0 ≤ off ∧ off < 18446744073709551616) (hk : -9223372036854775808 ≤ k ∧ k < 9223372036854775808) (h : w.cell? ⟨p, 0, none⟩ = some (.slice A n c)) :
    Calls Tryd.prog 38 #[.pointer (some ⟨p, 0, none⟩), .int .u64 base, .int .u64 off, .int .i64 k] w fun e w' => e = .returned (.bool (mFits n base off k)) ∧ Drawn0 w w' := by
  obtain ⟨hb0, hb1⟩ := hb
  obtain ⟨ho0, ho1⟩ := ho
  obtain ⟨hk0, hk1⟩ := hk
  by_cases c1 : (4294967295 : Int) < base
  · have d1 : decide ((4294967295 : Int) < base) = true := decide_eq_true c1
    have hf : mFits n base off k = false := by cases h : mFits n base off k with | false => rfl | true => have := (mFits_iff.1 h); omega
    rw [hf]
    go_enter Tryd.func38, Tryd.ntmps38
    go_wp2
    go_ret
    exact ⟨rfl, by repeat (first | exact Drawn0.refl _ | apply Drawn0.step)⟩
  · have d1 : decide ((4294967295 : Int) < base) = false := decide_eq_false c1
    by_cases c2 : (4294967295 : Int) < off
    · have d2 : decide ((4294967295 : Int) < off) = true := decide_eq_true c2
      have hf : mFits n base off k = false := by cases h : mFits n base off k with | false => rfl | true => have := (mFits_iff.1 h); omega
      rw [hf]
      go_enter Tryd.func38, Tryd.ntmps38
      go_wp2
      go_ret
      exact ⟨rfl, by repeat (first | exact Drawn0.refl _ | apply Drawn0.step)⟩
    · have d2 : decide ((4294967295 : Int) < off) = false := decide_eq_false c2
      by_cases c3 : k < 0
      · have d3 : decide (k < 0) = true := decide_eq_true c3
        have hf : mFits n base off k = false := by cases h : mFits n base off k with | false => rfl | true => have := (mFits_iff.1 h); omega
        rw [hf]
        go_enter Tryd.func38, Tryd.ntmps38
        go_wp2
        go_ret
        exact ⟨rfl, by repeat (first | exact Drawn0.refl _ | apply Drawn0.step)⟩
      · have d3 : decide (k < 0) = false := decide_eq_false c3
        by_cases c4 : (n : Int) < k
        · have d4 : decide ((n : Int) < k) = true := decide_eq_true c4
          have hf : mFits n base off k = false := by cases h : mFits n base off k with | false => rfl | true => have := (mFits_iff.1 h); omega
          rw [hf]
          go_enter Tryd.func38, Tryd.ntmps38
          go_wp2
          go_ret
          exact ⟨rfl, by repeat (first | exact Drawn0.refl _ | apply Drawn0.step)⟩
        · have d4 : decide ((n : Int) < k) = false := decide_eq_false c4
          have hf : mFits n base off k = decide (base + off + k ≤ (n : Int)) := by
            rw [Bool.eq_iff_iff, mFits_iff, decide_eq_true_eq]
            exact ⟨fun h => h.2.2.2, fun h => ⟨by omega, by omega, by omega, h⟩⟩
          rw [hf]
          go_enter Tryd.func38, Tryd.ntmps38
          go_wp2
          go_ret
          exact ⟨by simp [*], by repeat (first | exact Drawn0.refl _ | apply Drawn0.step)⟩
theorem refSum {w0 w : World} {L : List As} {p : Nat} {m : Mem} (hS : SB w0 w (RO p m :: L)) (hm : Good m) :
    Calls Tryd.prog 28 #[.pointer (some ⟨p, 0, none⟩)] w fun e w' => e = .returned (.int .u64 (mSum m.b)) ∧ SB w0 w' (RO p m :: L) := by
  obtain ⟨F, hF, _⟩ := hS.head
  obtain ⟨A, c, hblk, hR, hc, hp, hlt⟩ := RO.open_ hF
  have h : w.cell? ⟨p, 0, none⟩ = some (.slice A m.b.length c) := (blk_cell hblk 0).trans rfl
  have hlen := hm.2
  have HC := Aside0.mk (Kd.R_reads' hR).2.2
  have HS := Aside0.mk hS
  have HO := Aside0.mk hm.1
  clear hS hblk hR hF
  go_enter Tryd.func28, Tryd.ntmps28
  go_wp2
  go_loopw [3, 4] (fun v3 v4 wr => ∃ k : Nat, v3 = .int .u64 ((m.b.take k).foldl (fun s c => (IntKind.u64.wrap (bits .xor .u64 s c * 1099511628211))) 14695981039346656037) ∧ v4 = .int .i64 k ∧ k ≤ m.b.length ∧ wr = w) (fun _ v4 _ => m.b.length - (intOf v4).toNat)
  case atStart => exact ⟨0, rfl, rfl, Nat.zero_le _, rfl⟩
  case round =>
    obtain ⟨k, rfl, rfl, hk, rfl⟩ := hrel
    by_cases hlt : k < m.b.length
    · have d1 : decide ((k : Int) < (m.b.length : Int)) = true := decide_eq_true (by omega)
      have d2 : decide (k < m.b.length) = true := decide_eq_true hlt
      obtain ⟨ad, rfl, hcell⟩ := row_cell HC.out hlt
      have hk0 := HO.out _ (List.getElem_mem hlt)
      have hst := foldl_take_succ (f := fun s c => (IntKind.u64.wrap (bits .xor .u64 s c * 1099511628211))) (a := 14695981039346656037) hlt
      have HST := Aside0.mk hst
      obtain ⟨x, hx⟩ : ∃ x, m.b[k] = x := ⟨_, rfl⟩
      rw [hx] at hk0 hcell
      have hwx : IntKind.u64.wrap x = x := by rw [wrap_u64_]; omega
      obtain ⟨s, hs⟩ : ∃ s, (m.b.take k).foldl (fun s c => (IntKind.u64.wrap (bits .xor .u64 s c * 1099511628211))) 14695981039346656037 = s := ⟨_, rfl⟩
      have HX := Aside0.mk hx
      have HS_ := Aside0.mk hs
      rw [hs]
      clear hst hx hs
      go_wp2
      exact ⟨⟨k + 1, by rw [HST.out, HX.out, HS_.out], rfl, by omega, by first | trivial | rfl⟩, by simp [intOf]; omega⟩
    · have d1 : decide ((k : Int) < (m.b.length : Int)) = false := decide_eq_false (by omega)
      have d2 : decide (k < m.b.length) = false := decide_eq_false hlt
      obtain rfl : k = m.b.length := by omega
      go_wp2
      go_ret
      exact ⟨by rw [List.take_length]; rfl, HS.out⟩
set_option maxHeartbeats 4000000 in
theorem refBytes {w0 w : World} {L : List As} {p : Nat} {m : Mem} (hS : SB w0 w (RO p m :: L)) (hm : Good m) (at_ n : Int) (ha : -9223372036854775808 ≤ at_ ∧ at_ < 9223372036854775808) (hn : -9223372036854775808 ≤ n ∧ n < 9223372036854775808) :
    Calls Tryd.prog 36 #[.pointer (some ⟨p, 0, none⟩), .int .i64 at_, .int .i64 n] w fun e w' => ∃ v, e = .returned v ∧ SB w0 w' (Row (Kd.int .u8) 5 v (mBytes m.b at_ n) :: RO p m :: L) := by
  obtain ⟨F, hF, _⟩ := hS.head
  obtain ⟨A, c, hblk, hR, hc, hp, hlt⟩ := RO.open_ hF
  have h : w.cell? ⟨p, 0, none⟩ = some (.slice A m.b.length c) := (blk_cell hblk 0).trans rfl
  have hlen := hm.2
  have HC := Aside0.mk (Kd.R_reads' hR).2.2
  have HS := Aside0.mk hS
  clear hS hblk hR hF
  have no : ∀ W, Below w.heap.size w W → mBytes m.b at_ n = [] → SB w0 W (Row (Kd.int .u8) 5 (.slice none 0 0) (mBytes m.b at_ n) :: RO p m :: L) := fun W hW he => by
    rw [he]
    exact (HS.out.below hW).row (Below.refl _ _) (Kd.R_nil _ _ _ _ (fun _ => True))
  by_cases c1 : at_ < 0
  · have d1 : decide (at_ < 0) = true := decide_eq_true c1
    have hr : mBytes m.b at_ n = [] := if_neg (by omega)
    have HRN := Aside0.mk hr
    have NO := Aside0.mk no
    clear no hr
    go_enter Tryd.func36, Tryd.ntmps36
    go_wp2
    go_ret
    exact ⟨.slice none 0 0, rfl, NO.out _ (Below.refl _ _) HRN.out⟩
  · have d1 : decide (at_ < 0) = false := decide_eq_false c1
    by_cases c0 : n < 0
    · have d0 : decide (n < 0) = true := decide_eq_true c0
      have hr : mBytes m.b at_ n = [] := if_neg (by omega)
      have HRN := Aside0.mk hr
      have NO := Aside0.mk no
      clear no hr
      go_enter Tryd.func36, Tryd.ntmps36
      go_wp2
      go_ret
      exact ⟨.slice none 0 0, rfl, NO.out _ (Below.refl _ _) HRN.out⟩
    · have d0 : decide (n < 0) = false := decide_eq_false c0
      obtain ⟨t, rfl⟩ := Int.eq_ofNat_of_zero_le (show 0 ≤ at_ by omega)
      obtain ⟨k, rfl⟩ := Int.eq_ofNat_of_zero_le (show 0 ≤ n by omega)
      by_cases c2 : (m.b.length : Int) < (t : Int)
      · have d2 : decide ((m.b.length : Int) < (t : Int)) = true := decide_eq_true c2
        have d2' : decide (m.b.length < t) = true := decide_eq_true (by omega)
        have hr : mBytes m.b t k = [] := if_neg (by omega)
        have HRN := Aside0.mk hr
        have NO := Aside0.mk no
        clear no hr
        go_enter Tryd.func36, Tryd.ntmps36
        go_wp2
        go_ret
        exact ⟨.slice none 0 0, rfl, NO.out _ (Below.refl _ _) HRN.out⟩
      · have d2 : decide ((m.b.length : Int) < (t : Int)) = false := decide_eq_false c2
        have d2' : decide (m.b.length < t) = false := decide_eq_false (by omega)
        by_cases c3 : (m.b.length : Int) - (t : Int) < (k : Int)
        · have d3 : decide ((m.b.length : Int) - (t : Int) < (k : Int)) = true := decide_eq_true c3
          have hr : mBytes m.b t k = [] := if_neg (by omega)
          have HRN := Aside0.mk hr
          have NO := Aside0.mk no
          clear no hr
          go_enter Tryd.func36, Tryd.ntmps36
          go_wp2
          go_ret
          exact ⟨.slice none 0 0, rfl, NO.out _ (Below.refl _ _) HRN.out⟩
        · have d3 : decide ((m.b.length : Int) - (t : Int) < (k : Int)) = false := decide_eq_false c3
          have hr : mBytes m.b t k = seg m.b t k := by unfold mBytes; rw [if_pos (by omega), Int.toNat_natCast, Int.toNat_natCast]
          have hsl := seg_length (b := m.b) (a := t) (n := k) (by omega)
          obtain ⟨A', c', hcut, hC', hc'⟩ := cut_mid A c m.b t k (by omega) hc
          have HC2 := Aside0.mk hC'
          have HSL := Aside0.mk hsl
          clear no hsl hC'
          go_enter Tryd.func36, Tryd.ntmps36
          go_wp2_with (first
            | ((with_reducible refine gate_dst (N := 33) rfl ?_); refine Kd.R_lit (Kd.int .u8) (w0 := w) w.heap.size 5 rfl (N := 33) rfl (xs := ([] : List Int)) (inner := []) (ok := fun _ => True) (okp := fun _ => True) (by first | (go_simp; done) | (go_simp; rfl)) (Reps.none _ _) (fun _ hk => hk) trivial (Below.refl _ _) (Nat.le_refl _) (by simp) ?_; intro v33 w4 ho5 hb hg_ hnew_; have h4 := pw_cell_below hb h; have HS4 := Aside0.mk (HS.out.row hb ho5); have HC4 := Aside0.mk (Kd.C_below HC.out hb); clear ho5 hb hg_ hnew_)
            | ((with_reducible refine gate_builtin (b := .append) (xs := #[.tmp 33, .tmp 42]) rfl ?_); refine SB.appRows (ys := seg m.b t k) HS4.out rfl (.tmp 33) (.tmp 42) 39 (.int .u8 0) 1 rfl Tryd.underlying39 (show (Tryd.prog.info? 5).map (fun i => (i.zero, i.size, i.bytes)) = some (some (.int .u8 0), 1, 1) from by kernel_rfl) rfl (by decide) (by decide) rfl rfl (fun _ _ h => h) (by have hh := HC2.out _ HC4.out; rw [HSL.out] at hh; exact hh) (by simp; omega) ?_; intro v5 w5 hs5; have HS5 := Aside0.mk hs5; clear hs5))
          go_ret
          exact ⟨_, rfl, HS5.out⟩
end Go.Proofs.YtffoolhfjomhhaaDoor.G
