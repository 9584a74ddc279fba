/- StackBack: what is pushed is wanted, all its cases. -/
import Derived.Test.YtagblobimoedcaaStkB01
import Derived.Test.YtagblobimoedcaaStkB02
import Derived.Test.YtagblobimoedcaaStkB10
import Derived.Test.YtagblobimoedcaaStkB11
import Derived.Test.YtagblobimoedcaaStkB12
namespace Go.Proofs.Ytagblobimoedcaa.G
open Go.RowKit Go.Proofs.YtagblobimoedcaaW.PrintWords Go.Proofs.YtagblobimoedcaaW.PrintLast Go.Proofs.YtagblobimoedcaaW.PrintMore
set_option linter.unusedVariables false
set_option linter.unusedSimpArgs false
set_option maxHeartbeats 8000000 in
set_option maxRecDepth 100000 in
theorem stackBack (A : Option Addr) (c : Nat) (l : List S47) (Am : Option Addr) (cm : Nat) (m : List Int) (op : Int) (w : World) (hC : Kd.C k47 w A l.length l) (hc : l.length ≤ c) (hCm : Kd.C (Kd.int .u8) w Am m.length m) (hcm : m.length ≤ cm) :
    Calls Try.prog 4 #[.slice A l.length c, .slice Am m.length cm, .int .i64 op] w fun e w' => e = .returned (.bool true) ∧ Below w.heap.size w w' := by
  have HC := Aside0.mk hC
  have HCM := Aside0.mk hCm
  obtain ⟨b, hb⟩ : ∃ b, fewB l = b := ⟨_, rfl⟩
  have HF := Aside0.mk (fun (W : World) (hW : Below w.heap.size w W) => hb ▸ fewS (Kd.C_below HC.out hW) hc)
  cases b with
  | false =>
    clear hb hC hCm
    go_enter Try.func4, Try.ntmps4
    go_wp2_with (first
      | (go_at_call 9; (with_reducible refine (awakeS _).mono ?_); rintro e w1 ⟨rfl, hb⟩; have HB := Aside0.mk hb; clear hb)
      | (go_at_call 10; (with_reducible refine (HF.out _ HB.out).mono ?_); rintro e w2 ⟨rfl, hb⟩; have HB2 := Aside0.mk (below_then HB.out HB.out.size hb); clear hb))
    go_ret
    exact ⟨rfl, HB2.out⟩
  | true =>
    by_cases hml : m.length ≤ 20
    · cases ht : m.all stTy_okT with
      | true =>
        by_cases hne : (gAll l).2 = []
        · by_cases hm : m = []
          · exact back00 A c l Am cm m op w hC hc hCm hcm hb hml ht hne hm
          · match m, hm, hCm, hcm, hml, ht with
            | a :: r, _, hCm, hcm, hml, ht =>
              by_cases ha : a = 0
              · exact back02 A c l Am cm (a :: r) op w hC hc hCm hcm hb hml ht hne ⟨r, by rw [ha]⟩
              · exact back01 A c l Am cm (a :: r) op w hC hc hCm hcm hb hml ht hne ⟨a, r, rfl, ha⟩
        · by_cases hm : m = []
          · exact back10 A c l Am cm m op w hC hc hCm hcm hb hml ht hne hm
          · match m, hm, hCm, hcm, hml, ht with
            | a :: r, _, hCm, hcm, hml, ht =>
              by_cases ha : a = 0
              · exact back12 A c l Am cm (a :: r) op w hC hc hCm hcm hb hml ht hne ⟨r, by rw [ha]⟩
              · exact back11 A c l Am cm (a :: r) op w hC hc hCm hcm hb hml ht hne ⟨a, r, rfl, ha⟩
      | false =>
        have hf := (fewB_iff l).1 hb
        have HG := Aside0.mk (fun (W : World) (hW : Below w.heap.size w W) => growns A c l W (Kd.C_below HC.out hW) hf)
        have hm := modest_all hf
        obtain ⟨v, cs, hvc⟩ : ∃ v cs, gAll l = (v, cs) := ⟨_, _, rfl⟩
        rw [hvc] at HG hm
        simp only at HG hm
        have d20 : decide ((20 : Int) < (m.length : Int)) = false := decide_eq_false (by omega)
        have d20' : decide (20 < m.length) = false := decide_eq_false (by omega)
        have hp1 : sPush v cs m = ([], [], 1) := by unfold sPush; rw [if_neg (by rw [ht]; simp)]
        have HPU := Aside0.mk (fun (W : World) (A0 A1 : Option Addr) (c0 c1 : Nat) (h : HoldS W A0 c0 A1 c1 v cs) (hW : Below w.heap.size w W) => stkPush h (Kd.C_below HCM.out hW) hcm hm (by omega : m.length ≤ 400000000))
        rw [hp1] at HPU
        simp only [List.length_nil] at HPU
        clear hb hC hCm hf hvc hml ht hp1 hm
        go_enter Try.func4, Try.ntmps4
        go_wp2_with (first
          | (go_at_call 9; (with_reducible refine (awakeS _).mono ?_); rintro e w1 ⟨rfl, hb⟩; have HB := Aside0.mk hb; clear hb)
          | (go_at_call 10; (with_reducible refine (HF.out _ HB.out).mono ?_); rintro e w2 ⟨rfl, hb⟩; have HB2 := Aside0.mk (below_then HB.out HB.out.size hb); clear hb)
          | (go_at_call 11; (with_reducible refine (HG.out _ HB2.out).mono ?_); rintro e w3 ⟨A0, c0, A1, c1, rfl, h, hb⟩; have HW3 := Aside0.mk (((SB.start w).below (below_then HB2.out HB2.out.size hb)).box #[.slice A0 v.length c0, .slice A1 cs.length c1] 28); have HH3 := Aside0.mk (h.below (below_alloc (Below.refl _ _) (.cells #[.slice A0 v.length c0, .slice A1 cs.length c1] 28))); clear h hb)
          | (go_at_call 13; (with_reducible refine (HPU.out _ _ _ _ _ HH3.out HW3.out.bel).mono ?_); rintro e w4 ⟨B0, d0, B1, d1, rfl, h, hb⟩; have HW4 := Aside0.mk (HW3.out.below hb); clear h hb))
        go_ret
        exact ⟨rfl, (HW4.out.alloc _).bel⟩
    · have d20 : decide ((20 : Int) < (m.length : Int)) = true := decide_eq_true (by omega)
      have d20' : decide (20 < m.length) = true := decide_eq_true (by omega)
      clear hb hC hCm
      go_enter Try.func4, Try.ntmps4
      go_wp2_with (first
        | (go_at_call 9; (with_reducible refine (awakeS _).mono ?_); rintro e w1 ⟨rfl, hb⟩; have HB := Aside0.mk hb; clear hb)
        | (go_at_call 10; (with_reducible refine (HF.out _ HB.out).mono ?_); rintro e w2 ⟨rfl, hb⟩; have HB2 := Aside0.mk (below_then HB.out HB.out.size hb); clear hb))
      go_ret
      exact ⟨rfl, HB2.out⟩
def avocetlaw09_StackBack.f (l0 : List (S47)) (l1 : List Int) (a2 : Int) : Option (Bool) := some true
theorem avocetlaw09_StackBack.calls (A0 : Option Addr) (c0 : Nat) (l0 : List (S47)) (A1 : Option Addr) (c1 : Nat) (l1 : List Int) (a2 : Int) (r : Bool) (w : World) (hr0 : Kd.C k47 w A0 l0.length l0) (hc0 : l0.length ≤ c0) (hr1 : Kd.C (Kd.int .u8) w A1 l1.length l1) (hc1 : l1.length ≤ c1) (hr_ : r = true) (h : avocetlaw09_StackBack.f l0 l1 a2 = some r) :
    Calls Try.prog 4 #[.slice A0 l0.length c0, .slice A1 l1.length c1, .int .i64 a2] w fun e w' => e = .returned (.bool r) ∧ Below w.heap.size w w' := by
  subst hr_
  exact stackBack A0 c0 l0 A1 c1 l1 a2 w hr0 hc0 hr1 hc1
end Go.Proofs.Ytagblobimoedcaa.G
