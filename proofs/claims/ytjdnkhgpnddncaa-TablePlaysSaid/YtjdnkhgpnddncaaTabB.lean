/- Package table's tables: Lay, NewTab. -/
import Derived.Deep.RegionHeld3
import Derived.Test.YtjdnkhgpnddncaaTabA
import Derived.Test.YtjdnkhgpnddncaaCopy
namespace Go.Proofs.Ytjdnkhgpnddncaa.G
open Go.RowKit Go.Proofs.YtjdnkhgpnddncaaW.PrintWords Go.Proofs.YtjdnkhgpnddncaaW.PrintLast Go.Proofs.YtjdnkhgpnddncaaW.PrintMore
attribute [local go_sem] max2_int min2_int max_two min_two max_three min_three max_four min_four   -- for this text's walks alone
set_option linter.unusedVariables false
set_option linter.unusedSimpArgs false
theorem indexLow (A : Option Addr) (c : Nat) (l : List Int) (w : World) (hC : Kd.C (Kd.int .i64) w A l.length l) :
    Calls Try.prog 41 #[.slice A l.length c, .func (.func 28) #[] #[]] w fun e w' => ∃ r, e = .returned (.int .i64 r) ∧ decide (0 ≤ r) = l.any (fun x => decide (x < -1)) ∧ Drawn0 w w' := by
  have HC := Aside0.mk hC
  have hmax := Kd.C_max hC
  clear hC
  go_enter Try.func41, Try.ntmps41
  go_wp2
  go_loopw [5, 8] (fun v5 v8 wr => ∃ k : Nat, v8 = .int .i64 k ∧ k ≤ l.length ∧ Aside0 ((l.take k).any (fun x => decide (x < -1)) = false) ∧ Aside0 (Drawn0 w wr)) (fun _ v8 _ => l.length - (intOf v8).toNat)
  case atStart => exact ⟨0, rfl, Nat.zero_le _, ⟨by simp⟩, ⟨Drawn0.refl _⟩⟩
  case round =>
    obtain ⟨k, rfl, hk, HA, HD⟩ := hrel
    by_cases hlt : k < l.length
    · have d1 : decide ((k : Int) < (l.length : Int)) = true := decide_eq_true (by omega)
      have d2 : decide (k < l.length) = true := decide_eq_true hlt
      obtain ⟨ad, rfl, hcell⟩ := row_cell (Kd.C_below HC.out (drawn_below HD.out)) hlt
      obtain ⟨x, hx⟩ : ∃ x, l[k] = x := ⟨_, rfl⟩
      rw [hx] at hcell
      have HX := Aside0.mk hx
      clear hx
      by_cases c1 : x < -1
      · have d3 : decide (x < -1) = true := decide_eq_true c1
        go_wp2_with (go_at_call 28; (with_reducible refine (low1 x _).mono ?_); rintro e w' ⟨rfl, hd⟩; have HD2 := Aside0.mk hd; clear hd)
        go_ret
        refine ⟨_, rfl, ?_, ?_⟩
        · rw [decide_eq_true (by omega)]
          exact (List.any_eq_true.2 ⟨l[k], List.getElem_mem _, by rw [HX.out]; exact d3⟩).symm
        · obtain ⟨a, ha⟩ := HD.out
          obtain ⟨b, hb⟩ := HD2.out
          exact ⟨a + b, by rw [hb, ha]; simp [World.drewN, Nat.add_assoc]⟩
      · have d3 : decide (x < -1) = false := decide_eq_false c1
        go_wp2_with (go_at_call 28; (with_reducible refine (low1 x _).mono ?_); rintro e w' ⟨rfl, hd⟩; have HD2 := Aside0.mk hd; clear hd)
        exact ⟨⟨k + 1, rfl, by omega, ⟨by rw [List.take_succ_eq_append_getElem hlt, List.any_append, HA.out, HX.out]; simp [d3]⟩, ⟨by
          obtain ⟨a, ha⟩ := HD.out
          obtain ⟨b, hb⟩ := HD2.out
          exact ⟨a + b, by rw [hb, ha]; simp [World.drewN, Nat.add_assoc]⟩⟩⟩, by simp [intOf]; omega⟩
    · have d1 : decide ((k : Int) < (l.length : Int)) = false := decide_eq_false (by omega)
      have d2 : decide (k < l.length) = false := decide_eq_false hlt
      obtain rfl : k = l.length := by omega
      go_wp2
      go_ret
      have h := HA.out
      rw [List.take_length] at h
      exact ⟨_, rfl, by rw [h]; rfl, HD.out⟩
theorem anyLow (A : Option Addr) (c : Nat) (l : List Int) (w : World) (hC : Kd.C (Kd.int .i64) w A l.length l) :
    Calls Try.prog 27 #[.slice A l.length c, .func (.func 28) #[] #[]] w fun e w' => e = .returned (.bool (l.any (fun x => decide (x < -1)))) ∧ Drawn0 w w' := by
  go_enter Try.func27, Try.ntmps27
  go_wp2_with (go_at_call 41; (with_reducible refine (indexLow A c l _ hC).mono ?_); rintro e w' ⟨r, rfl, hr, ⟨nd, rfl⟩⟩)
  go_ret
  exact ⟨by rw [← hr]; rfl, _, rfl⟩
/-- What is laid; None: it may not. -/
def tLay (l : List Int) (at_ : Int) (ys : List Int) : Option (List Int) := if 0 ≤ at_ ∧ at_ ≤ l.length ∧ (ys.length : Int) ≤ l.length - at_ ∧ ys.any (fun x => decide (x < -1)) = false then some (splice l at_.toNat ys) else none
theorem size3 : (Try.prog.info? 3).map (·.size) = some 1 := by kernel_rfl
theorem cut_at (A : Option Addr) (c : Nat) (l : List Int) (t : Nat) (h : t ≤ l.length) (hc : l.length ≤ c) :
    ∃ A', (∀ W : World, (Instr.slice 22 (.slice A l.length c) (some (.int .i64 (t : Int))) none none).run Try.prog W = .ok (.slice A' (l.length - t) (c - t)) W) ∧ (∀ g, A = some ⟨g, 0, none⟩ → t < c → A' = some ⟨g, t, none⟩) := by
  obtain ⟨i0, hi0, _, hsz, _⟩ := info_parts (show (Try.prog.info? 3).map (fun i => (i.zero, i.size, i.bytes)) = some (some (.int .i64 0), 1, 8) by kernel_rfl)
  obtain ⟨b1, b2, b3⟩ : (0 : Int) ≤ (t : Int) ∧ (t : Int) ≤ (l.length : Int) ∧ (l.length : Int) ≤ (c : Int) := by omega
  have hel : Try.prog.elem 22 = 3 := by simp [Program.elem, Try.underlying22]
  have hu : Try.prog.underlying 22 = some (.slice (Try.prog.elem 22)) := by rw [hel]; exact Try.underlying22
  refine ⟨if c = t then A else A.map (·.add t), fun W => ?_, fun g hg hlt => ?_⟩
  · rw [run_slice_l W 22 A l.length c hu .i64 (t : Int) b1 b2, hel]
    simp [sizeOf, typeInfo, hi0, hsz, sliced, Result.andThen]
  · subst hg
    rw [if_neg (by omega)]
    by_cases h0 : t = 0
    · subst h0; simp [Addr.add]
    · simp [Addr.add, h0]
set_option maxHeartbeats 4000000 in
theorem tabLay {w0 w : World} {L : List As} {p : Nat} {m : Tb} (hS : SB w0 w (TO p m :: L)) (at_ : Int) (ys : List Int) (Ab : Option Addr) (cb : Nat) (ha : okI at_) (hC : Kd.C (Kd.int .i64) w Ab ys.length ys) (hlen : m.l.length ≤ 1000000) :
    Calls Try.prog 10 #[.pointer (some ⟨p, 0, none⟩), .int .i64 at_, .slice Ab ys.length cb] w fun e w' => e = .returned (.bool (tLay m.l at_ ys).isSome) ∧ SB w0 w' (TO p { m with l := (tLay m.l at_ ys).getD m.l } :: L) := by
  obtain ⟨F, hF, _⟩ := hS.head
  obtain ⟨A, c, hblk, hR, hc, hC0, hp, hlt⟩ := ObR.open_ hF
  have h : w.cell? ⟨p, 0, none⟩ = some (.slice A m.l.length c) := (blk_cell hblk 0).trans rfl
  have HS := Aside0.mk hS
  have HR := Aside0.mk hR
  have HCb := Aside0.mk hC
  have hmax := Kd.C_max hC
  obtain ⟨ha0, ha1⟩ := ha
  clear hS hblk hR hF hC hC0
  by_cases c1 : at_ < 0
  · have d1 : decide (at_ < 0) = true := decide_eq_true c1
    have hr : tLay m.l at_ ys = none := if_neg (by omega)
    rw [hr]
    go_enter Try.func10, Try.ntmps10
    go_wp2_with (go_at_call 14; (with_reducible refine (tabLen p _ _ c _ h).mono ?_); rintro e w' ⟨rfl, ⟨nd, rfl⟩⟩)
    go_ret
    exact ⟨rfl, HS.out.drewN _⟩
  · have d1 : decide (at_ < 0) = false := decide_eq_false c1
    obtain ⟨t, rfl⟩ := Int.eq_ofNat_of_zero_le (show 0 ≤ at_ by omega)
    by_cases c2 : (m.l.length : Int) < (t : Int)
    · have d2 : decide ((m.l.length : Int) < (t : Int)) = true := decide_eq_true c2
      have d2' : decide (m.l.length < t) = true := decide_eq_true (by omega)
      have hr : tLay m.l t ys = none := if_neg (by omega)
      rw [hr]
      go_enter Try.func10, Try.ntmps10
      go_wp2_with (go_at_call 14; (with_reducible refine (tabLen p _ _ c _ h).mono ?_); rintro e w' ⟨rfl, ⟨nd, rfl⟩⟩)
      go_ret
      exact ⟨rfl, HS.out.drewN _⟩
    · have d2 : decide ((m.l.length : Int) < (t : Int)) = false := decide_eq_false c2
      have d2' : decide (m.l.length < t) = false := decide_eq_false (by omega)
      by_cases c3 : (m.l.length : Int) - (t : Int) < (ys.length : Int)
      · have d3 : decide ((m.l.length : Int) - (t : Int) < (ys.length : Int)) = true := decide_eq_true c3
        have hr : tLay m.l t ys = none := if_neg (by omega)
        rw [hr]
        go_enter Try.func10, Try.ntmps10
        go_wp2_with (go_at_call 14; (with_reducible refine (tabLen p _ _ c _ h).mono ?_); rintro e w' ⟨rfl, ⟨nd, rfl⟩⟩)
        go_ret
        exact ⟨rfl, HS.out.drewN _⟩
      · have d3 : decide ((m.l.length : Int) - (t : Int) < (ys.length : Int)) = false := decide_eq_false c3
        obtain ⟨lw, hlw⟩ : ∃ lw, ys.any (fun x => decide (x < -1)) = lw := ⟨_, rfl⟩
        cases lw with
        | true =>
          have hr : tLay m.l t ys = none := if_neg (fun hh => by rw [hlw] at hh; exact absurd hh.2.2.2 (by decide))
          rw [hr]
          have HLW := Aside0.mk hlw
          clear hlw
          go_enter Try.func10, Try.ntmps10
          go_wp2_with (first
            | (go_at_call 14; (with_reducible refine (tabLen p _ _ c _ h).mono ?_); rintro e w' ⟨rfl, ⟨nd, rfl⟩⟩)
            | (go_at_call 27; (with_reducible refine (anyLow Ab cb ys _ ?hc).mono ?_); (case hc => exact Kd.C_drewN HCb.out _); rintro e w' ⟨rfl, ⟨nd2, rfl⟩⟩; rw [HLW.out]))
          go_ret
          exact ⟨rfl, HS.out.drewN (nd + nd2)⟩
        | false =>
          have hr : tLay m.l t ys = some (splice m.l t ys) := by unfold tLay; rw [if_pos ⟨by omega, by omega, by omega, hlw⟩, Int.toNat_natCast]
          rw [hr]
          have HLW := Aside0.mk hlw
          clear hlw hr
          by_cases c4 : ys = []
          · have HYS := Aside0.mk c4
            obtain ⟨A', hcut, _⟩ := cut_at A c m.l t (by omega) hc
            have hcopy : ∀ W : World, (Builtin.copy_ #[22, 22] 3 #[.slice A' (m.l.length - t) (c - t), .slice Ab ys.length cb]).run Try.prog W = .ok (goInt 0) W := fun W => run_copy_none W 22 22 3 3 A' Ab (m.l.length - t) (c - t) ys.length cb Try.underlying22 size3 (by rw [c4]; simp)
            clear c4
            by_cases c5 : m.l.length = 0
            · have d4 : decide ((0 : Int) < (m.l.length : Int)) = false := decide_eq_false (by omega)
              have d4' : decide (0 < m.l.length) = false := decide_eq_false (by omega)
              have C5 := Aside0.mk c5
              clear c5
              go_enter Try.func10, Try.ntmps10
              go_wp2_with (first
                | (go_at_call 14; (with_reducible refine (tabLen p _ _ c _ h).mono ?_); rintro e w' ⟨rfl, ⟨nd, rfl⟩⟩)
                | (go_at_call 27; (with_reducible refine (anyLow Ab cb ys _ ?hc).mono ?_); (case hc => exact Kd.C_drewN HCb.out _); rintro e w' ⟨rfl, ⟨nd2, rfl⟩⟩; rw [HLW.out]))
              go_ret
              rw [HYS.out, splice_nil]
              exact ⟨rfl, HS.out.drewN (nd + nd2)⟩
            · have d4 : decide ((0 : Int) < (m.l.length : Int)) = true := decide_eq_true (by omega)
              have d4' : decide (0 < m.l.length) = true := decide_eq_true (by omega)
              go_enter Try.func10, Try.ntmps10
              go_wp2_with (first
                | (go_at_call 14; (with_reducible refine (tabLen p _ _ c _ h).mono ?_); rintro e w' ⟨rfl, ⟨nd, rfl⟩⟩)
                | (go_at_call 27; (with_reducible refine (anyLow Ab cb ys _ ?hc).mono ?_); (case hc => exact Kd.C_drewN HCb.out _); rintro e w' ⟨rfl, ⟨nd2, rfl⟩⟩; rw [HLW.out]; have h2 : (w.drewN (nd + nd2)).cell? ⟨p, 0, none⟩ = some (.slice A m.l.length c) := h))
              go_ret
              rw [HYS.out, splice_nil]
              exact ⟨rfl, HS.out.drewN (nd + nd2)⟩
          · have hpos : 0 < ys.length := List.length_pos_iff.2 c4
            have d4 : decide ((0 : Int) < (m.l.length : Int)) = true := decide_eq_true (by omega)
            have d4' : decide (0 < m.l.length) = true := decide_eq_true (by omega)
            obtain ⟨g, cap, hvv, hg0, hg1, _⟩ := Kd.R_form HR.out (by omega)
            injection hvv with hA _ hcap
            subst hA
            subst hcap
            obtain ⟨A', hcut, hA'⟩ := cut_at (some ⟨g, 0, none⟩) c m.l t (by omega) hc
            · have hA2 := hA' g rfl (by omega)
              subst hA2
              clear hA'
              have htk : ys.take (m.l.length - t) = ys := List.take_of_length_le (by omega)
              have hmn : Nat.min ys.length (m.l.length - t) = ys.length := Nat.min_eq_left (by omega)
              have HTK := Aside0.mk htk
              have HMN := Aside0.mk hmn
              clear htk hmn
              go_enter Try.func10, Try.ntmps10
              go_wp2_with (first
                | (go_at_call 14; (with_reducible refine (tabLen p _ _ c _ h).mono ?_); rintro e w' ⟨rfl, ⟨nd, rfl⟩⟩)
                | (go_at_call 27; (with_reducible refine (anyLow Ab cb ys _ ?hc).mono ?_); (case hc => exact Kd.C_drewN HCb.out _); rintro e w' ⟨rfl, ⟨nd2, rfl⟩⟩; rw [HLW.out]; have h2 : (w.drewN (nd + nd2)).cell? ⟨p, 0, none⟩ = some (.slice (some ⟨g, 0, none⟩) m.l.length c) := h)
                | ((with_reducible refine gate_builtin (b := .copy) (xs := #[.tmp 37, .tmp 38]) rfl ?_); refine copy_into rfl (.tmp 37) (.tmp 38) 22 22 3 rfl Try.underlying22 size3 g c t (m.l.length - t) (c - t) ys.length cb m.l ys Ab _ rfl rfl rfl (Kd.R_drewN HR.out (nd + nd2)) (Kd.C_drewN HCb.out (nd + nd2)) (by rw [HMN.out]; omega) ?_; intro w2 hR2 hF2; have HR2 := Aside0.mk hR2; have HF2 := Aside0.mk hF2; clear hR2 hF2))
              go_ret
              have HR3 := HR2.out
              rw [HTK.out] at HR3
              exact ⟨rfl, obj_turned (HS.out.drewN (nd + nd2)) h (fun ok hok => by
                have := Kd.R_reok rfl HR3 (fun k_ e_ => hok.1 k_ e_)
                simpa using this) HF2.out⟩
end Go.Proofs.Ytjdnkhgpnddncaa.G

