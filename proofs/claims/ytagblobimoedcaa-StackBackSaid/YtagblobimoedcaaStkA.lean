/- Package stack: what its functions do. -/
import Derived.Lib.SliceRun
import Derived.Test.YtagblobimoedcaaG2
import Derived.Test.YtagblobimoedcaaApp
import Derived.Test.YtagblobimoedcaaMemP
namespace Go.Proofs.Ytagblobimoedcaa.G
open Go.RowKit Go.Proofs.YtagblobimoedcaaW.PrintWords Go.Proofs.YtagblobimoedcaaW.PrintLast Go.Proofs.YtagblobimoedcaaW.PrintMore
set_option linter.unusedVariables false
set_option linter.unusedSimpArgs false
/-- the last type is taken: what is left, the type, the error. -/
def kPop (vs : List Int) (h : Int) (d : Bool) : List Int × Int × Int :=
  if h < (vs.length : Int) then (vs.dropLast, rd vs ((vs.length : Int) - 1), 0) else if d then (vs, 0, 0) else (vs, 0, 5)
theorem wrap_sub1 (n : Nat) (h : n < 4611686018427387904) : IntKind.i64.wrap ((n : Int) - 1) = (n : Int) - 1 := by rw [IntKind.wrap_i64]; omega
theorem blk_fro {w : World} {p : Nat} {cs : Array Value} {t : TypeId} (hb : w.heap[p]? = some (.cells cs t (0, 0))) (j : Nat) : w.frozen? ⟨p, j, none⟩ = false := by
  simp [World.frozen?, hb]
theorem C_take {α : Type} {d : Kd α} {w : World} {A : Option Addr} {xs : List α} (h : d.C w A xs.length xs) (m : Nat) : d.C w A (xs.take m).length (xs.take m) := by
  refine ⟨rfl, Nat.le_trans (by rw [List.length_take]; omega) h.2.1, fun hn => ?_⟩
  obtain ⟨ad, e, hc⟩ := h.2.2 (by rw [List.length_take] at hn; omega)
  refine ⟨ad, e, fun j p hj => hc j p ?_⟩
  rw [List.getElem?_take] at hj
  split at hj
  · exact hj
  · exact absurd hj (by simp)
theorem cut25 (A : Option Addr) (n c t : Nat) (h : t ≤ n) (hc : n ≤ c) (W : World) : (Instr.slice 25 (.slice A n c) none (some (.int .i64 (t : Int))) none).run Try.prog W = .ok (.slice A t c) W := by
  obtain ⟨i0, hi0, _, hsz, _⟩ := info_parts (show (Try.prog.info? 5).map (fun i => (i.zero, i.size, i.bytes)) = some (some (.int .u8 0), 1, 1) by kernel_rfl)
  have hel : Try.prog.elem 25 = 5 := by simp [Program.elem, Try.underlying25]
  have hu : Try.prog.underlying 25 = some (.slice (Try.prog.elem 25)) := by rw [hel]; exact Try.underlying25
  have ha : (A.map fun x => x.add 0) = A := by cases A <;> simp [Addr.add]
  rw [run_slice_h W 25 A n c hu .i64 (t : Int) (by omega) (by omega), hel]
  simp [sizeOf, typeInfo, hi0, hsz, sliced, Result.andThen, ha]
theorem cut26 (A : Option Addr) (n c t : Nat) (h : t ≤ n) (hc : n ≤ c) (W : World) : (Instr.slice 26 (.slice A n c) none (some (.int .i64 (t : Int))) none).run Try.prog W = .ok (.slice A t c) W := by
  obtain ⟨i0, hi0, _, hsz, _⟩ := info_parts info31
  have hel : Try.prog.elem 26 = 31 := by simp [Program.elem, Try.underlying26]
  have hu : Try.prog.underlying 26 = some (.slice (Try.prog.elem 26)) := by rw [hel]; exact Try.underlying26
  have ha : (A.map fun x => x.add 0) = A := by cases A <;> simp [Addr.add]
  rw [run_slice_h W 26 A n c hu .i64 (t : Int) (by omega) (by omega), hel]
  simp [sizeOf, typeInfo, hi0, hsz, sliced, Result.andThen, ha]
set_option maxHeartbeats 4000000 in
set_option maxRecDepth 100000 in
theorem stkPop (p g o : Nat) (A : Option Addr) (c : Nat) (cv : Value) (vs : List Int) (h : Int) (d : Bool) (w : World) (hb : w.heap[p]? = some (.cells #[.slice A vs.length c, cv, .pointer (some ⟨g, o, none⟩)] 77 (0, 0)))
    (hh : w.cell? ⟨g, o + 2, none⟩ = some (.int .i64 h)) (hd : w.cell? ⟨g, o + 3, none⟩ = some (.bool d)) (hv : Kd.C (Kd.int .u8) w A vs.length vs) (h0 : 0 ≤ h) (hl : vs.length < 1000000000) (hc : vs.length ≤ c) :
    Calls Try.prog 42 #[.pointer (some ⟨p, 0, none⟩)] w fun e w' => e = .returned (.tuple #[.int .u8 (kPop vs h d).2.1, .int .i64 (kPop vs h d).2.2]) ∧
      ∃ W1, Drawn0 w W1 ∧ w' = (if h < (vs.length : Int) then W1.setCell ⟨p, 0, none⟩ (.slice A (vs.length - 1) c) else W1) := by
  have hw := wrap_sub1 vs.length (by omega)
  have hc0 : w.cell? ⟨p, 0, none⟩ = some (.slice A vs.length c) := (blk_cell hb 0).trans rfl
  have hc2 : w.cell? ⟨p, 2, none⟩ = some (.pointer (some ⟨g, o, none⟩)) := (blk_cell hb 2).trans rfl
  have hf0 := blk_fro hb 0
  by_cases h1 : h < (vs.length : Int)
  · obtain ⟨n, hn⟩ : ∃ n, vs.length = n + 1 := ⟨vs.length - 1, by omega⟩
    have e1 : kPop vs h d = (vs.dropLast, rd vs (n : Int), 0) := by unfold kPop; rw [if_pos h1, hn]; simp
    obtain ⟨ad, rfl, hx⟩ := Kd.at_int hv (n : Int) (by omega) (by omega)
    simp only [Int.toNat_natCast] at hx
    have d0 : decide (h ≤ (n : Int)) = true := decide_eq_true (by omega)
    have p0 := eq_true (show (0 : Int) ≤ (n : Int) by omega)
    rw [e1]
    simp only [if_pos h1]
    rw [hn] at hw hc0 hc ⊢
    have e2 : ((n + 1 : Nat) : Int) - 1 = (n : Int) := by omega
    rw [e2] at hw
    have e3 : n + 1 - 1 = n := by omega
    rw [e3]
    have HC := Aside0.mk hc
    clear hv h1 e1 hn hb hc
    have hcap := HC.out
    have hcut := cut25 (some ad) (n + 1) c n (by omega) (by omega)
    go_enter Try.func42, Try.ntmps42
    go_wp2
    go_ret2
    exact ⟨rfl, _, (by repeat (first | exact Drawn0.refl _ | apply Drawn0.step)), rfl⟩
  · have e1 : kPop vs h d = (vs, 0, if d then 0 else 5) := by unfold kPop; rw [if_neg h1]; cases d <;> rfl
    rw [e1]
    simp only [if_neg h1]
    have d0 : decide (h ≤ (vs.length : Int) - 1) = false := decide_eq_false (by omega)
    clear hv h1 e1 hb hc
    refine (show Calls Try.prog 42 #[.pointer (some ⟨p, 0, none⟩)] w fun e w' => e = .returned (.tuple #[.int .u8 0, .int .i64 (if d then 0 else 5)]) ∧ Drawn0 w w' from ?_).mono (fun e w' hh_ => ⟨hh_.1, _, hh_.2, rfl⟩)
    cases d with
    | true =>
      simp only [if_true]
      go_enter Try.func42, Try.ntmps42
      go_wp2
      go_ret2
      exact ⟨rfl, by repeat (first | exact Drawn0.refl _ | apply Drawn0.step)⟩
    | false =>
      simp only [Bool.false_eq_true, if_false]
      go_enter Try.func42, Try.ntmps42
      go_wp2
      go_ret2
      exact ⟨rfl, by repeat (first | exact Drawn0.refl _ | apply Drawn0.step)⟩
end Go.Proofs.Ytagblobimoedcaa.G
