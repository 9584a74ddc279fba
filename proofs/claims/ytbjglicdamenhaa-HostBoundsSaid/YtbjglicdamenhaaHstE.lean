/- Package host: do values fit their types. -/
import Derived.Deep.DeepMust
import Derived.Test.YtbjglicdamenhaaHstD
import Derived.Test.YtbjglicdamenhaaG1
namespace Go.Proofs.Ytbjglicdamenhaa.G
open Go.RowKit Go.Proofs.YtbjglicdamenhaaW.PrintWords Go.Proofs.YtbjglicdamenhaaW.PrintLast Go.Proofs.YtbjglicdamenhaaW.PrintMore
set_option linter.unusedVariables false
set_option linter.unusedSimpArgs false
def fitB (p a : Int) : Bool := if p = 126 then true else if p = 127 then (a / 4294967296) == 0 else false
theorem fitB_f (p a : Int) : ints_Fits.f p a = some (fitB p a) := by
  unfold ints_Fits.f fitB
  split
  · rfl
  · split <;> rfl
def fitsB : List Int → List Int → Bool
  | [], [] => true
  | p :: ps, a :: ws => fitB p a && fitsB ps ws
  | _, _ => false
theorem fitsB_len : ∀ {ps ws : List Int}, ps.length ≠ ws.length → fitsB ps ws = false
  | [], [], h => absurd rfl h
  | [], _ :: _, _ => rfl
  | _ :: _, [], _ => rfl
  | p :: ps, a :: ws, h => by
    unfold fitsB
    rw [fitsB_len (ps := ps) (ws := ws) (fun e => h (by simp [e])), Bool.and_false]
set_option maxHeartbeats 1000000 in
theorem equalFits (A0 A1 : Option Addr) (c0 c1 : Nat) (ps ws : List Int) (w : World) (hC0 : Kd.C (Kd.int .u8) w A0 ps.length ps) (hC1 : Kd.C (Kd.int .u64) w A1 ws.length ws) (hl : ps.length ≤ 1000000) (hl1 : ws.length ≤ 1000000) :
    Calls Try.prog 46 #[.slice A0 ps.length c0, .slice A1 ws.length c1, .func (.func 37) #[] #[]] w fun e w' => e = .returned (.bool (fitsB ps ws)) ∧ Below w.heap.size w w' := by
  have HC0 := Aside0.mk hC0
  have HC1 := Aside0.mk hC1
  clear hC0 hC1
  obtain ⟨n, hn⟩ : ∃ n, ps.length = n := ⟨_, rfl⟩
  obtain ⟨m, hm⟩ : ∃ m, ws.length = m := ⟨_, rfl⟩
  rw [hn] at HC0 hl ⊢
  rw [hm] at HC1 hl1 ⊢
  have HN := Aside0.mk hn
  have HM := Aside0.mk hm
  by_cases hnm : n = m
  · subst hnm
    obtain ⟨r, hr⟩ : ∃ r, fitsB ps ws = r := ⟨_, rfl⟩
    rw [hr]
    have HR0 := Aside0.mk hr
    clear hr hn hm
    go_enter Try.func46, Try.ntmps46
    go_wp2
    go_loopw [17] (fun v17 wr => ∃ i : Nat, v17 = .int .i64 i ∧ i ≤ n ∧ Aside0 (fitsB (ps.drop i) (ws.drop i) = r) ∧ Aside0 (Below w.heap.size w wr)) (fun v17 _ => n - (intOf v17).toNat)
    case atStart => exact ⟨0, rfl, Nat.zero_le _, HR0, ⟨Below.refl _ _⟩⟩
    case round =>
      obtain ⟨i, rfl, hi, HR, HB⟩ := hrel
      by_cases hlt : i < n
      · have e1 : decide ((i : Int) < (n : Int)) = true := decide_eq_true (by omega)
        have e2 : decide (i < n) = true := decide_eq_true hlt
        have hi0 : i < ps.length := by rw [HN.out]; exact hlt
        have hi1 : i < ws.length := by rw [HM.out]; exact hlt
        obtain ⟨ad, rfl, q0⟩ := row_cell (Kd.C_below HC0.out HB.out) hi0
        obtain ⟨ae, rfl, q1⟩ := row_cell (Kd.C_below HC1.out HB.out) hi1
        obtain ⟨p, hp⟩ : ∃ p, ps[i] = p := ⟨_, rfl⟩
        obtain ⟨a, ha⟩ : ∃ a, ws[i] = a := ⟨_, rfl⟩
        have hr := HR.out
        rw [List.drop_eq_getElem_cons hi0, List.drop_eq_getElem_cons hi1, hp, ha] at hr
        rw [hp] at q0
        rw [ha] at q1
        obtain ⟨b, hb⟩ : ∃ b, fitB p a = b := ⟨_, rfl⟩
        have hr : (b && fitsB (ps.drop (i + 1)) (ws.drop (i + 1))) = r := by rw [← hb]; exact hr
        have HF := Aside0.mk (fun W => ints_Fits.calls p a b W (by rw [fitB_f, hb]))
        have HR1 := Aside0.mk hr
        clear hr hp ha hb
        cases b with
        | true =>
          go_wp2_with (go_at_call 37; go_must ((with_reducible refine ((HF.out _)).mono ?_); rintro e w2 ⟨rfl, hd⟩; have HB2 := Aside0.mk (HB.out.trans (Below.mono (by first | exact hd | exact drawn_below hd) HB.out.size)); clear hd))
          exact ⟨⟨i + 1, by simp, by omega, ⟨by simpa using HR1.out⟩, HB2⟩, by simp [intOf]; omega⟩
        | false =>
          go_wp2_with (go_at_call 37; go_must ((with_reducible refine ((HF.out _)).mono ?_); rintro e w2 ⟨rfl, hd⟩; have HB2 := Aside0.mk (HB.out.trans (Below.mono (by first | exact hd | exact drawn_below hd) HB.out.size)); clear hd))
          go_ret
          exact ⟨by rw [← HR1.out]; rfl, HB2.out⟩
      · have e1 : decide ((i : Int) < (n : Int)) = false := decide_eq_false (by omega)
        have e2 : decide (i < n) = false := decide_eq_false hlt
        obtain rfl : i = n := by omega
        have hr := HR.out
        rw [List.drop_of_length_le (by rw [HN.out]; exact Nat.le_refl _), List.drop_of_length_le (by rw [HM.out]; exact Nat.le_refl _)] at hr
        have HR1 := Aside0.mk hr
        clear hr
        go_wp2
        go_ret
        exact ⟨by rw [← HR1.out]; rfl, HB.out⟩
  · have e1 : ((n : Int) == (m : Int)) = false := beq_eq_false_iff_ne.2 (by omega)
    have e2 : (n == m) = false := beq_eq_false_iff_ne.2 hnm
    have e3 : ((n : Int) != (m : Int)) = true := by rw [bne, e1]; rfl
    have e4 : (n != m) = true := by rw [bne, e2]; rfl
    have HF := Aside0.mk (fitsB_len (ps := ps) (ws := ws) (by omega))
    clear hn hm
    go_enter Try.func46, Try.ntmps46
    go_wp2
    all_goals go_ret
    all_goals exact ⟨by rw [HF.out]; rfl, Below.refl _ _⟩
theorem hstFits (A0 A1 : Option Addr) (c0 c1 : Nat) (ps ws : List Int) (w : World) (hC0 : Kd.C (Kd.int .u8) w A0 ps.length ps) (hC1 : Kd.C (Kd.int .u64) w A1 ws.length ws) (hl : ps.length ≤ 1000000) (hl1 : ws.length ≤ 1000000) :
    Calls Try.prog 32 #[.slice A0 ps.length c0, .slice A1 ws.length c1] w fun e w' => e = .returned (.bool (fitsB ps ws)) ∧ Below w.heap.size w w' := by
  have HE := Aside0.mk (equalFits A0 A1 c0 c1 ps ws w hC0 hC1 hl hl1)
  clear hC0 hC1
  go_enter Try.func32, Try.ntmps32
  go_wp2_with (go_at_call 46; go_must ((with_reducible refine (HE.out).mono ?_); rintro e w2 ⟨rfl, hd⟩; have HB2 := Aside0.mk hd; clear hd))
  go_ret
  exact ⟨rfl, HB2.out⟩
end Go.Proofs.Ytbjglicdamenhaa.G
