/- StackDead: what is never come to gives whatever is wanted, and nothing of what was there ahead. -/
import Derived.Test.YtagblobimoedcaaG91
namespace Go.Proofs.Ytagblobimoedcaa.G
open Go.RowKit Go.Proofs.YtagblobimoedcaaW.PrintWords Go.Proofs.YtagblobimoedcaaW.PrintLast Go.Proofs.YtagblobimoedcaaW.PrintMore
set_option linter.unusedVariables false
set_option linter.unusedSimpArgs false
theorem kWant_dead (h : Int) (v : List Int) (hh : (v.length : Int) ≤ h) : ∀ ts : List Int, kWant h true ts v = (v, 0)
  | [] => rfl
  | t :: ts => by
    have e : kPop v h true = (v, 0, 0) := by unfold kPop; rw [if_neg (by omega)]; rfl
    rw [kWant, e]
    simp only
    rw [if_pos trivial, if_neg (by simp)]
    exact kWant_dead h v hh ts
theorem dead_want {v : List Int} {cs : List S31} (hs : kSane v cs = true) (hne : cs ≠ []) (m : List Int) : sWant (v.take (kTop cs).f2.toNat) (kDead cs) m = (v.take (kTop cs).f2.toNat, kDead cs, 0) := by
  have ht := sane_top hs hne
  unfold sWant
  rw [if_neg (by rw [sane_kill hs hne]; decide)]
  split
  · rfl
  · rw [if_neg (kDead_ne hne), kDead_top hne]
    have e := kWant_dead (kTop cs).f2 (v.take (kTop cs).f2.toNat) (by rw [List.length_take]; omega) m.reverse
    show (if (kWant (kTop cs).f2 true m.reverse (v.take (kTop cs).f2.toNat)).2 = 0 then _ else _) = _
    rw [e]
    rfl
theorem dead_close {v : List Int} {cs : List S31} (hs : kSane v cs = true) (hne : cs ≠ []) : sClose (v.take (kTop cs).f2.toNat) (kDead cs) = (v.take (kTop cs).f2.toNat, cs.dropLast, { kTop cs with f3 := true }, 0) := by
  have ht := sane_top hs hne
  unfold sClose
  rw [if_neg (by rw [sane_kill hs hne]; decide), if_neg (kDead_ne hne), kDead_top hne]
  have e := kWant_dead (kTop cs).f2 (v.take (kTop cs).f2.toNat) (by rw [List.length_take]; omega) (kTop cs).f1.reverse
  show (if (kWant (kTop cs).f2 true (kTop cs).f1.reverse (v.take (kTop cs).f2.toNat)).2 = 0 then (if (((kWant (kTop cs).f2 true (kTop cs).f1.reverse (v.take (kTop cs).f2.toNat)).1.length : Nat) : Int) = (kTop cs).f2 then _ else _) else _) = _
  rw [e]
  simp only
  rw [if_pos trivial, if_pos (by rw [List.length_take]; omega), dead_split hne]
  simp
theorem stkLabel0 {w : World} {A0 A1 : Option Addr} {c0 c1 : Nat} {v : List Int} {cs : List S31} (h : HoldS w A0 c0 A1 c1 v cs) (hm : modest v cs) (hs : kSane v cs = true) :
    Calls Try.prog 30 #[.agg #[.slice A0 v.length c0, .slice A1 cs.length c1], .int .i64 0] w fun e w' => ∃ B d, e = .returned (.tuple #[.slice B (sLabel v cs 0).1.length d, .int .i64 (sLabel v cs 0).2]) ∧ Kd.C (Kd.int .u8) w' B (sLabel v cs 0).1.length (sLabel v cs 0).1 ∧ Below w.heap.size w w' := stkLabel h hm hs 0 (by omega)
set_option maxHeartbeats 8000000 in
set_option maxRecDepth 100000 in
theorem stackDead (A : Option Addr) (c : Nat) (l : List S47) (Am : Option Addr) (cm : Nat) (m : List Int) (w : World) (hC : Kd.C k47 w A l.length l) (hc : l.length ≤ c) (hCm : Kd.C (Kd.int .u8) w Am m.length m) (hcm : m.length ≤ cm) : Calls Try.prog 7 #[.slice A l.length c, .slice Am m.length cm] w fun e w' => e = .returned (.bool true) ∧ Below w.heap.size w w' := by
  have HC := Aside0.mk hC
  have HCM := Aside0.mk hCm
  clear hC hCm
  obtain ⟨b, hb⟩ : ∃ b, fewB l = b := ⟨_, rfl⟩
  have HF := Aside0.mk (fun (W : World) (hW : Below w.heap.size w W) => hb ▸ fewS (Kd.C_below HC.out hW) hc)
  cases b with
  | false =>
    clear hb
    go_enter Try.func7, Try.ntmps7
    go_wp2_with (first
      | (go_at_call 9; (with_reducible refine (awakeS _).mono ?_); rintro e w1 ⟨rfl, hb⟩; have HB := Aside0.mk hb; clear hb)
      | (go_at_call 10; (with_reducible refine (HF.out _ HB.out).mono ?_); rintro e w2 ⟨rfl, hb⟩; have HB2 := Aside0.mk (below_then HB.out HB.out.size hb); clear hb))
    go_ret
    exact ⟨rfl, HB2.out⟩
  | true =>
    have hf := (fewB_iff l).1 hb
    by_cases hml : m.length ≤ 20
    · have HG := Aside0.mk (fun (W : World) (hW : Below w.heap.size w W) => growns A c l W (Kd.C_below HC.out hW) hf)
      have hm := modest_all hf
      have hs := sane_all l
      obtain ⟨v, cs, hvc⟩ : ∃ v cs, gAll l = (v, cs) := ⟨_, _, rfl⟩
      rw [hvc] at HG hm hs
      simp only at HG hm hs
      have d20 : decide ((20 : Int) < (m.length : Int)) = false := decide_eq_false (by omega)
      have d20' : decide (20 < m.length) = false := decide_eq_false (by omega)
      have hmc := hm.2
      have HK := Aside0.mk (fun (W : World) (A0 A1 : Option Addr) (c0 c1 : Nat) (h : HoldS W A0 c0 A1 c1 v cs) => stkKill h hm)
      by_cases hne : cs = []
      · have hk : sKill v cs = ([], [], 5) := by unfold sKill; rw [if_neg (by rw [hs]; decide), if_pos hne]
        rw [hk] at HK
        simp only [List.length_nil] at HK
        have hl0 : cs.length = 0 := by rw [hne]; rfl
        rw [hl0] at HG HK
        clear hb hf hs hvc hk hml hne
        go_enter Try.func7, Try.ntmps7
        go_wp2_with (first
          | (go_at_call 9; (with_reducible refine (awakeS _).mono ?_); rintro e w1 ⟨rfl, hb⟩; have HB := Aside0.mk hb; clear hb)
          | (go_at_call 10; (with_reducible refine (HF.out _ HB.out).mono ?_); rintro e w2 ⟨rfl, hb⟩; have HB2 := Aside0.mk (below_then HB.out HB.out.size hb); clear hb)
          | (go_at_call 11; (with_reducible refine (HG.out _ HB2.out).mono ?_); rintro e w3 ⟨A0, c0, A1, c1, rfl, h, hb⟩; have HW := Aside0.mk (((SB.start w).below (below_then HB2.out HB2.out.size hb)).box #[.slice A0 v.length c0, .slice A1 0 c1] 28); have HH := Aside0.mk (h.below (below_alloc (Below.refl _ _) (.cells #[.slice A0 v.length c0, .slice A1 0 c1] 28))); clear h hb)
          | (go_at_call 21; (with_reducible refine (HK.out _ _ _ _ _ HH.out).mono ?_); rintro e w4 ⟨B0, d0, B1, d1, rfl, _, hb⟩; have HW4 := Aside0.mk (HW.out.below hb); clear hb; have x1 := SB.boxAt w3.heap.size 28 HW4.out; have k0 := blk_cell x1 0; have k1 := blk_cell x1 1; have hlt4 := blk_lt x1; clear x1))
        go_ret
        exact ⟨rfl, (HW4.out.alloc _).bel⟩
      · have ht := sane_top hs hne
        obtain ⟨t, hT⟩ : ∃ t : Nat, (kTop cs).f2 = (t : Int) := ⟨(kTop cs).f2.toNat, by omega⟩
        obtain ⟨n, hn⟩ : ∃ n, cs.length = n + 1 := ⟨cs.length - 1, by have := List.length_pos_iff.2 hne; omega⟩
        have hk : sKill v cs = (v.take t, kDead cs, 0) := by unfold sKill; rw [if_neg (by rw [hs]; decide), if_neg hne, hT, Int.toNat_natCast]
        have hw := dead_want hs hne m
        have hcl := dead_close hs hne
        rw [hT, Int.toNat_natCast] at hw hcl
        have hmk : modest (v.take t) (kDead cs) := ⟨by rw [List.length_take]; have := hm.1; omega, by rw [kDead_len]; exact hm.2⟩
        have HWN := Aside0.mk (fun (W : World) (A0 A1 : Option Addr) (c0 c1 : Nat) (h : HoldS W A0 c0 A1 c1 (v.take t) (kDead cs)) (hW : Below w.heap.size w W) => stkWantS h (Kd.C_below HCM.out hW) (cl := cm) hmk (by omega))
        have HCL := Aside0.mk (fun (W : World) (A0 A1 : Option Addr) (c0 c1 : Nat) (h : HoldS W A0 c0 A1 c1 (v.take t) (kDead cs)) => stkClose h hmk)
        have HL := Aside0.mk (fun (W : World) (A0 A1 : Option Addr) (c0 c1 : Nat) (h : HoldS W A0 c0 A1 c1 v cs) => stkLabel0 h hm hs)
        have hsl : sLabel v cs 0 = if (kTop cs).f0 = 3 then ([], 0) else ((kTop cs).f1, 0) := by
          unfold sLabel
          rw [if_pos hs, if_neg (by omega)]
          have : kNth cs 0 = kTop cs := by unfold kNth kTop; congr 1; simp
          rw [this]
        rw [hk] at HK
        rw [hw] at HWN
        rw [hcl] at HCL
        have hvt : (v.take t).length = t := by rw [List.length_take]; omega
        have hdl : cs.dropLast.length = n := by rw [List.length_dropLast]; omega
        obtain ⟨vt, hvt2⟩ : ∃ vt, v.take t = vt := ⟨_, rfl⟩
        obtain ⟨kd, hkd⟩ : ∃ kd, kDead cs = kd := ⟨_, rfl⟩
        obtain ⟨dl, hdl2⟩ : ∃ dl, cs.dropLast = dl := ⟨_, rfl⟩
        rw [hvt2] at HK HWN HCL hvt
        rw [hkd] at HK HWN HCL
        rw [hdl2] at HCL hdl
        obtain ⟨tp, htp⟩ : ∃ tp, kTop cs = tp := ⟨_, rfl⟩
        rw [htp] at HCL hsl hT
        simp only [hvt, hdl] at HK HWN HCL
        rw [hn] at HG HK HL
        simp only [hT] at HCL
        have hwr : IntKind.i64.wrap (((n + 1 : Nat) : Int) - 1) = (n : Int) := by rw [IntKind.wrap_i64]; omega
        have hwr2 : IntKind.i64.wrap (n : Int) = (n : Int) := by rw [IntKind.wrap_i64]; omega
        have hkl : kd.length = n + 1 := by rw [← hkd, kDead_len]; exact hn
        rw [hkl] at HK HWN HCL
        clear hb hf hs hvc hk hml hne hw hcl hmk hvt hdl hvt2 hkd hdl2 htp ht hkl
        by_cases h3 : tp.f0 = 3
        · rw [if_pos h3] at hsl
          rw [hsl] at HL
          simp only [List.length_nil] at HL
          simp only [h3] at HCL
          clear hsl h3
          go_enter Try.func7, Try.ntmps7
          go_wp2_with (first
            | (go_at_call 9; (with_reducible refine (awakeS _).mono ?_); rintro e w1 ⟨rfl, hb⟩; have HB := Aside0.mk hb; clear hb)
            | (go_at_call 10; (with_reducible refine (HF.out _ HB.out).mono ?_); rintro e w2 ⟨rfl, hb⟩; have HB2 := Aside0.mk (below_then HB.out HB.out.size hb); clear hb)
            | (go_at_call 11; (with_reducible refine (HG.out _ HB2.out).mono ?_); rintro e w3 ⟨A0, c0, A1, c1, rfl, h, hb⟩; have HW := Aside0.mk (((SB.start w).below (below_then HB2.out HB2.out.size hb)).box #[.slice A0 v.length c0, .slice A1 (n + 1) c1] 28); have HH := Aside0.mk (h.below (below_alloc (Below.refl _ _) (.cells #[.slice A0 v.length c0, .slice A1 (n + 1) c1] 28))); clear h hb)
            | (go_at_call 21; (with_reducible refine (HK.out _ _ _ _ _ HH.out).mono ?_); rintro e w4 ⟨B0, d0, B1, d1, rfl, hk4, hb⟩; have HW4 := Aside0.mk ((HW.out.below hb).box #[.slice B0 t d0, .slice B1 (n + 1) d1] 28); have HH4 := Aside0.mk ((HH.out.below hb).below (below_alloc (Below.refl _ _) (.cells #[.slice B0 t d0, .slice B1 (n + 1) d1] 28))); have HK4 := Aside0.mk (hk4.below (below_alloc (Below.refl _ _) (.cells #[.slice B0 t d0, .slice B1 (n + 1) d1] 28))); clear hb hk4; have x1 := SB.boxAt w3.heap.size 28 HW4.out; have k0 := blk_cell x1 0; have k1 := blk_cell x1 1; clear x1)
            | (go_at_call 14; (with_reducible refine (HWN.out _ _ _ _ _ HK4.out HW4.out.bel).mono ?_); rintro e w5 ⟨C0, f0, C1, f1, rfl, _, hb⟩; have HW5 := Aside0.mk ((HW4.out.below hb).box #[.slice C0 t f0, .slice C1 (n + 1) f1] 28); have HH5 := Aside0.mk ((HH4.out.below hb).below (below_alloc (Below.refl _ _) (.cells #[.slice C0 t f0, .slice C1 (n + 1) f1] 28))); have HK5 := Aside0.mk ((HK4.out.below hb).below (below_alloc (Below.refl _ _) (.cells #[.slice C0 t f0, .slice C1 (n + 1) f1] 28))); clear hb; have x1 := SB.boxAt w4.heap.size 28 HW5.out; have l0 := blk_cell x1 0; have l1 := blk_cell x1 1; clear x1)
            | (go_at_call 18; (with_reducible refine (HCL.out _ _ _ _ _ HK5.out).mono ?_); rintro e w6 ⟨D0, g0, D1, g1, Be, ce, rfl, _, hce, _, hb⟩; have HW6 := Aside0.mk (((HW5.out.below hb).box #[.slice D0 t g0, .slice D1 n g1] 28).box #[.int .i64 3, .slice Be tp.f1.length ce, .int .i64 (t : Int), .bool true] 31); have HH6 := Aside0.mk (((HH5.out.below hb).below (below_alloc (Below.refl _ _) (.cells #[.slice D0 t g0, .slice D1 n g1] 28))).below (below_alloc (Below.refl _ _) (.cells #[.int .i64 3, .slice Be tp.f1.length ce, .int .i64 (t : Int), .bool true] 31))); have HCE := Aside0.mk (Kd.C_below (Kd.C_below hce (below_alloc (Below.refl _ _) (.cells #[.slice D0 t g0, .slice D1 n g1] 28))) (below_alloc (Below.refl _ _) (.cells #[.int .i64 3, .slice Be tp.f1.length ce, .int .i64 (t : Int), .bool true] 31))); clear hb hce; have x1 := SB.boxAt w3.heap.size 28 HW6.out; have k0 := blk_cell x1 0; have k1 := blk_cell x1 1; clear x1)
            | (go_at_call 30; (with_reducible refine (HL.out _ _ _ _ _ HH6.out).mono ?_); rintro e w7 ⟨Bl, dl2, rfl, hcl, hb⟩; have HW7 := Aside0.mk (HW6.out.below hb); have hcvB := conv25 (c := ce) (Kd.C_below HCE.out hb); have hcvA := conv25 (c := dl2) (l := []) hcl; simp only [List.length_nil] at hcvA; have hq := HW7.out; rw [World.size_alloc] at hq; clear hb hcl; have x1 := SB.boxAt w3.heap.size 28 hq; have k0 := blk_cell x1 0; have k1 := blk_cell x1 1; clear x1; have x2 := SB.boxAt w5.heap.size 28 hq; have m0 := blk_cell x2 0; have m1 := blk_cell x2 1; clear x2; have x3 := SB.boxAt w6.heap.size 28 hq; have n0 := blk_cell x3 0; have n1 := blk_cell x3 1; clear x3; have x4 := SB.boxAt (w6.heap.size + 1) 31 hq; have o0 := blk_cell x4 0; have o1 := blk_cell x4 1; have o2 := blk_cell x4 2; have o3 := blk_cell x4 3; clear x4 hq))
          all_goals (go_ret; exact ⟨rfl, HW7.out.bel⟩)
        · rw [if_neg h3] at hsl
          rw [hsl] at HL
          have b3 : (tp.f0 == 3) = false := beq_eq_false_iff_ne.mpr h3
          have b4 : (tp.f0 != 3) = true := bne_iff_ne.mpr h3
          clear hsl h3
          go_enter Try.func7, Try.ntmps7
          go_wp2_with (first
            | (go_at_call 9; (with_reducible refine (awakeS _).mono ?_); rintro e w1 ⟨rfl, hb⟩; have HB := Aside0.mk hb; clear hb)
            | (go_at_call 10; (with_reducible refine (HF.out _ HB.out).mono ?_); rintro e w2 ⟨rfl, hb⟩; have HB2 := Aside0.mk (below_then HB.out HB.out.size hb); clear hb)
            | (go_at_call 11; (with_reducible refine (HG.out _ HB2.out).mono ?_); rintro e w3 ⟨A0, c0, A1, c1, rfl, h, hb⟩; have HW := Aside0.mk (((SB.start w).below (below_then HB2.out HB2.out.size hb)).box #[.slice A0 v.length c0, .slice A1 (n + 1) c1] 28); have HH := Aside0.mk (h.below (below_alloc (Below.refl _ _) (.cells #[.slice A0 v.length c0, .slice A1 (n + 1) c1] 28))); clear h hb)
            | (go_at_call 21; (with_reducible refine (HK.out _ _ _ _ _ HH.out).mono ?_); rintro e w4 ⟨B0, d0, B1, d1, rfl, hk4, hb⟩; have HW4 := Aside0.mk ((HW.out.below hb).box #[.slice B0 t d0, .slice B1 (n + 1) d1] 28); have HH4 := Aside0.mk ((HH.out.below hb).below (below_alloc (Below.refl _ _) (.cells #[.slice B0 t d0, .slice B1 (n + 1) d1] 28))); have HK4 := Aside0.mk (hk4.below (below_alloc (Below.refl _ _) (.cells #[.slice B0 t d0, .slice B1 (n + 1) d1] 28))); clear hb hk4; have x1 := SB.boxAt w3.heap.size 28 HW4.out; have k0 := blk_cell x1 0; have k1 := blk_cell x1 1; clear x1)
            | (go_at_call 14; (with_reducible refine (HWN.out _ _ _ _ _ HK4.out HW4.out.bel).mono ?_); rintro e w5 ⟨C0, f0, C1, f1, rfl, _, hb⟩; have HW5 := Aside0.mk ((HW4.out.below hb).box #[.slice C0 t f0, .slice C1 (n + 1) f1] 28); have HH5 := Aside0.mk ((HH4.out.below hb).below (below_alloc (Below.refl _ _) (.cells #[.slice C0 t f0, .slice C1 (n + 1) f1] 28))); have HK5 := Aside0.mk ((HK4.out.below hb).below (below_alloc (Below.refl _ _) (.cells #[.slice C0 t f0, .slice C1 (n + 1) f1] 28))); clear hb; have x1 := SB.boxAt w4.heap.size 28 HW5.out; have l0 := blk_cell x1 0; have l1 := blk_cell x1 1; clear x1)
            | (go_at_call 18; (with_reducible refine (HCL.out _ _ _ _ _ HK5.out).mono ?_); rintro e w6 ⟨D0, g0, D1, g1, Be, ce, rfl, _, hce, _, hb⟩; have HW6 := Aside0.mk (((HW5.out.below hb).box #[.slice D0 t g0, .slice D1 n g1] 28).box #[.int .i64 tp.f0, .slice Be tp.f1.length ce, .int .i64 (t : Int), .bool true] 31); have HH6 := Aside0.mk (((HH5.out.below hb).below (below_alloc (Below.refl _ _) (.cells #[.slice D0 t g0, .slice D1 n g1] 28))).below (below_alloc (Below.refl _ _) (.cells #[.int .i64 tp.f0, .slice Be tp.f1.length ce, .int .i64 (t : Int), .bool true] 31))); have HCE := Aside0.mk (Kd.C_below (Kd.C_below hce (below_alloc (Below.refl _ _) (.cells #[.slice D0 t g0, .slice D1 n g1] 28))) (below_alloc (Below.refl _ _) (.cells #[.int .i64 tp.f0, .slice Be tp.f1.length ce, .int .i64 (t : Int), .bool true] 31))); clear hb hce; have x1 := SB.boxAt w3.heap.size 28 HW6.out; have k0 := blk_cell x1 0; have k1 := blk_cell x1 1; clear x1)
            | (go_at_call 30; (with_reducible refine (HL.out _ _ _ _ _ HH6.out).mono ?_); rintro e w7 ⟨Bl, dl2, rfl, hcl, hb⟩; have HW7 := Aside0.mk (HW6.out.below hb); have hcvB := conv25 (c := ce) (Kd.C_below HCE.out hb); have hcvA := conv25 (c := dl2) hcl; have hq := HW7.out; rw [World.size_alloc] at hq; clear hb hcl; have x1 := SB.boxAt w3.heap.size 28 hq; have k0 := blk_cell x1 0; have k1 := blk_cell x1 1; clear x1; have x2 := SB.boxAt w5.heap.size 28 hq; have m0 := blk_cell x2 0; have m1 := blk_cell x2 1; clear x2; have x3 := SB.boxAt w6.heap.size 28 hq; have n0 := blk_cell x3 0; have n1 := blk_cell x3 1; clear x3; have x4 := SB.boxAt (w6.heap.size + 1) 31 hq; have o0 := blk_cell x4 0; have o1 := blk_cell x4 1; have o2 := blk_cell x4 2; have o3 := blk_cell x4 3; clear x4 hq))
          go_ret
          exact ⟨rfl, HW7.out.bel⟩
    · have d20 : decide ((20 : Int) < (m.length : Int)) = true := decide_eq_true (by omega)
      have d20' : decide (20 < m.length) = true := decide_eq_true (by omega)
      clear hb hf
      go_enter Try.func7, Try.ntmps7
      go_wp2_with (first
        | (go_at_call 9; (with_reducible refine (awakeS _).mono ?_); rintro e w1 ⟨rfl, hb⟩; have HB := Aside0.mk hb; clear hb)
        | (go_at_call 10; (with_reducible refine (HF.out _ HB.out).mono ?_); rintro e w2 ⟨rfl, hb⟩; have HB2 := Aside0.mk (below_then HB.out HB.out.size hb); clear hb))
      go_ret
      exact ⟨rfl, HB2.out⟩
def avocetlaw09_StackDead.f (l0 : List (S47)) (l1 : List Int) : Option (Bool) := some true
theorem avocetlaw09_StackDead.calls (A0 : Option Addr) (c0 : Nat) (l0 : List (S47)) (A1 : Option Addr) (c1 : Nat) (l1 : List Int) (r : Bool) (w : World) (hr0 : Kd.C k47 w A0 l0.length l0) (hc0 : l0.length ≤ c0) (hr1 : Kd.C (Kd.int .u8) w A1 l1.length l1) (hc1 : l1.length ≤ c1) (hr_ : r = true) (h : avocetlaw09_StackDead.f l0 l1 = some r) :
    Calls Try.prog 7 #[.slice A0 l0.length c0, .slice A1 l1.length c1] w fun e w' => e = .returned (.bool r) ∧ Below w.heap.size w w' := by
  subst hr_
  exact stackDead A0 c0 l0 A1 c1 l1 w hr0 hc0 hr1 hc1
end Go.Proofs.Ytagblobimoedcaa.G
