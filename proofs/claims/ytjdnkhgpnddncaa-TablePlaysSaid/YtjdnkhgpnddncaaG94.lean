/- TablePlays: whatever is done with a table, and with globals. -/
import Derived.Deep.DeepMust
import Derived.Test.YtjdnkhgpnddncaaTabJ
namespace Go.Proofs.Ytjdnkhgpnddncaa.G
open Go.RowKit Go.Proofs.YtjdnkhgpnddncaaW.PrintWords Go.Proofs.YtjdnkhgpnddncaaW.PrintLast Go.Proofs.YtjdnkhgpnddncaaW.PrintMore
attribute [local go_sem] max2_int min2_int max_two min_two max_three min_three max_four min_four   -- for this text's walks alone
set_option linter.unusedVariables false
set_option linter.unusedSimpArgs false
def okA (x : S40) : Prop := okI x.f1 ∧ (0 ≤ x.f2 ∧ x.f2 < 18446744073709551616) ∧ (0 ≤ x.f3 ∧ x.f3 < 256)
instance (x : S40) : Decidable (okA x) := by unfold okA; infer_instance
theorem tDo_inv {m : Tb} (hge : ∀ x ∈ m.l, -1 ≤ x) (o : S40) : (tDo m o).l.length = m.l.length ∧ ∀ x ∈ (tDo m o).l, -1 ≤ x := by
  unfold tDo
  split
  · show ((tLay m.l o.f1 o.f5).getD m.l).length = m.l.length ∧ ∀ x ∈ (tLay m.l o.f1 o.f5).getD m.l, -1 ≤ x
    unfold tLay
    split
    · rename_i h
      obtain ⟨h1, h2, h3, h4⟩ := h
      obtain ⟨k, hk⟩ := Int.eq_ofNat_of_zero_le h1
      rw [hk] at h2 h3 ⊢
      rw [Int.toNat_natCast]
      have hkl : k + o.f5.length ≤ m.l.length := by omega
      refine ⟨by show (splice m.l k o.f5).length = _; exact splice_length hkl, fun x hx => ?_⟩
      have hx : x ∈ splice m.l k o.f5 := hx
      unfold splice at hx
      rcases List.mem_append.1 hx with hx | hx
      · rcases List.mem_append.1 hx with hx | hx
        · exact hge x (List.take_subset _ _ hx)
        · rw [List.any_eq_false] at h4
          have := h4 x hx
          simp at this
          exact this
      · exact hge x (List.drop_subset _ _ hx)
    · exact ⟨rfl, hge⟩
  · exact ⟨rfl, hge⟩
theorem frSmall {w0 w : World} {L : List As} (HS : SB w0 w L) (A : Option Addr) (c : Nat) (l : List S40) (hC : Kd.C k40 w A l.length l) (hc : l.length ≤ c) :
    Calls Try.prog 13 #[.slice A l.length c] w fun e w' => e = .returned (.bool (smallB l)) ∧ SB w0 w' L := by
  obtain ⟨k, hk⟩ := small_ex l
  refine (avocetlaw14_small.calls k A c l _ w hC hc hk).mono ?_
  rintro e w' ⟨rfl, hb⟩
  exact ⟨rfl, HS.below (by first | exact hb | exact drawn_below hb)⟩
theorem SB.newXG {w0 w : World} {L : List As} (h : SB w0 w L) : SB w0 (w.alloc (.cells #[.slice none 0 0] 68)) (XG w.heap.size [] :: L) := SB.newObj (d := k95) (e := 95) (t := 68) h []
set_option maxRecDepth 100000 in
set_option maxHeartbeats 8000000 in
theorem tablePlays (lo hi : Int) (has : Bool) (l : List S40) (A : Option Addr) (c : Nat) (w : World) (hC : Kd.C k40 w A l.length l) (hc : l.length ≤ c) (hlo : okI lo) (hhi : okI hi) (hok : ∀ x ∈ l, okA x) :
    Calls Try.prog 7 #[.agg #[.int .i64 lo, .int .i64 hi, .bool has], .slice A l.length c] w fun e w' => e = .returned (.bool true) ∧ Below w.heap.size w w' := by
  have HC := Aside0.mk hC
  have HOK := Aside0.mk hok
  have HLO := Aside0.mk hlo
  have HHI := Aside0.mk hhi
  have HST := Aside0.mk ((SB.start w).box #[.int .i64 lo, .int .i64 hi, .bool has] 29)
  obtain ⟨b, hb⟩ : ∃ b, w.heap.size = b := ⟨_, rfl⟩
  rw [hb] at HST
  obtain ⟨sm, hsm⟩ : ∃ sm, smallB l = sm := ⟨_, rfl⟩
  have HSM := Aside0.mk hsm
  clear hC hok hsm hlo hhi
  cases sm with
  | false =>
    go_enter Try.func7, Try.ntmps7
    go_wp2_with (first
      | (go_at_call 8; (with_reducible refine (awake _).mono ?_); rintro e w1 ⟨rfl, hbl⟩; have HB := Aside0.mk (HST.out.below hbl); clear hbl)
      | (go_at_call 13; (with_reducible refine (frSmall HB.out A c l (Kd.C_below HC.out HB.out.bel) hc).mono ?_); rintro e w2 ⟨rfl, hs⟩; rw [HSM.out]; have HB2 := Aside0.mk hs; clear hs))
    go_ret
    exact ⟨rfl, HB2.out.bel⟩
  | true =>
  have hll := (smallB_iff HSM.out).1
  by_cases hbad : tBad lo hi has = 0
  · skip
    obtain ⟨lo, rfl⟩ := Int.eq_ofNat_of_zero_le (show 0 ≤ lo from Classical.byContradiction fun hh => by unfold tBad at hbad; rw [if_pos (.inl (by omega))] at hbad; cases hbad)
    have h256 : lo ≤ 256 := by
      unfold tBad at hbad
      split at hbad
      · cases hbad
      · split at hbad
        · cases hbad
        · omega
    have HBAD := Aside0.mk hbad
    clear hbad
    go_enter Try.func7, Try.ntmps7
    go_wp2_with (first
      | (go_at_call 8; (with_reducible refine (awake _).mono ?_); rintro e w1 ⟨rfl, hbl⟩; have HB := Aside0.mk (HST.out.below hbl); clear hbl)
      | (go_at_call 13; (with_reducible refine (frSmall HB.out A c l (Kd.C_below HC.out HB.out.bel) hc).mono ?_); rintro e' w2 ⟨rfl, hs⟩; rw [HSM.out]; have hb1 := hs.blk; have y0 := blk_cell hb1 0; have y1 := blk_cell hb1 1; have y2 := blk_cell hb1 2; have HB2 := Aside0.mk hs; clear hs hb1)
      | (go_at_call 9; go_must ((with_reducible refine (newTabOk HB2.out lo hi has HBAD.out).mono ?_); rintro e' w3 ⟨pt, rfl, hs⟩; have hb1 := (hs.pick2 [1]).blk; have y0 := blk_cell hb1 0; have y1 := blk_cell hb1 1; have y2 := blk_cell hb1 2; have HB3 := Aside0.mk hs; clear hs hb1))
      | (go_at_call 23; go_must ((with_reducible refine (xtNewOk HB3.out lo hi has HBAD.out).mono ?_); rintro e' w4 ⟨qt, rfl, hs⟩; have hs := hs.newGlobs.newXG; obtain ⟨p, hp⟩ : ∃ p, w4.heap.size = p := ⟨_, rfl⟩; obtain ⟨q, hq⟩ : ∃ q, p + 1 = q := ⟨_, rfl⟩; rw [World.size_alloc, hp, hq] at hs; have HB6 := Aside0.mk (show SB w _ [TO pt ⟨List.replicate lo (-1), lo, hi, has⟩, XT qt ⟨List.replicate lo (-1), lo, hi, has⟩, GO p [], XG q []] from hs.pick5 [3, 2, 1, 0]); clear hs)))
    go_loopw [12] (fun v12 wr => ∃ (i : Nat) (m : Tb) (gl : List S95), v12 = .int .i64 i ∧ i ≤ l.length ∧ gl.length ≤ 128 ∧ m.l.length ≤ 256 ∧ Aside0 (∀ x ∈ m.l, -1 ≤ x) ∧ Aside0 (SB w wr [TO pt m, XT qt m, GO p gl, XG q gl])) (fun v12 _ => l.length - (intOf v12).toNat)
    case atStart => exact ⟨0, ⟨List.replicate lo (-1), lo, hi, has⟩, [], rfl, Nat.zero_le _, by decide, by show (List.replicate lo (-1 : Int)).length ≤ 256; rw [List.length_replicate]; exact h256, ⟨fun x hx => by rw [(List.mem_replicate.1 hx).2]; omega⟩, HB6⟩
    case round =>
      obtain ⟨i, m, gl, rfl, hi, hgl, hml, HGE, HR⟩ := hrel
      by_cases hlt : i < l.length
      · skip
        have e1 : decide ((i : Int) < (l.length : Int)) = true := decide_eq_true (by omega)
        have e2 : decide (i < l.length) = true := decide_eq_true hlt
        obtain ⟨x, hx⟩ : ∃ x, l[i] = x := ⟨_, rfl⟩
        have hxm : x ∈ l := by rw [← hx]; exact List.getElem_mem _
        have HX := Aside0.mk (show okI x.f1 ∧ (0 ≤ x.f2 ∧ x.f2 < 18446744073709551616) ∧ (0 ≤ x.f3 ∧ x.f3 < 256) from HOK.out x hxm)
        have hat0 := at_T40 HC.out (i : Int) (by omega) (by omega)
        rw [rd40 hlt, hx, Int.toNat_natCast] at hat0
        obtain ⟨ad, A5, c5, hAd, q0, q1, q2, q3, q4, q5, l5, g5⟩ := hat0
        have HQ0 := Aside0.mk q0
        have hbw := HR.out.bel
        have q0 := pw_cell_below hbw q0
        have q1 := pw_cell_below hbw q1
        have q2 := pw_cell_below hbw q2
        have q3 := pw_cell_below hbw q3
        have q4 := pw_cell_below hbw q4
        have q5 := pw_cell_below hbw q5
        have HG := Aside0.mk g5
        have HAD := Aside0.mk hAd
        subst hAd
        clear hxm hx g5 hbw
        by_cases h1 : 1 < x.f0
        · have d1 : decide (1 < x.f0) = true := decide_eq_true h1
          have d1' : decide (x.f0 ≤ 1) = false := decide_eq_false (by omega)
          go_wp2_with (go_at_call 25; go_must ((with_reducible refine (bothGlobs (HR.out.pick4 [2, 3, 0, 1]) hgl x A5 c5 HX.out.1 HX.out.2.1 HX.out.2.2).mono ?_); rintro e' w7 ⟨rfl, hs⟩; have HR7 := Aside0.mk (hs.pick4 [2, 3, 0, 1]); clear hs))
          exact ⟨⟨i + 1, m, gDo gl x, by simp, by omega, gDo_len hgl x, hml, HGE, HR7⟩, by simp [intOf]; omega⟩
        · have d1 : decide (1 < x.f0) = false := decide_eq_false h1
          have d1' : decide (x.f0 ≤ 1) = true := decide_eq_true (by omega)
          have hti := tDo_inv HGE.out x
          have HTI := Aside0.mk hti
          have hm2 : (tDo m x).l.length ≤ 256 := by rw [hti.1]; exact hml
          clear hti
          go_wp2_with (go_at_call 24; go_must ((with_reducible refine (bothTab HR.out hml HGE.out x A5 c5 HG.out l5 HX.out.1 HX.out.2.1 hm2).mono ?_); rintro e' w7 ⟨rfl, hs⟩; have q0' := pw_cell_below hs.bel HQ0.out; have HR7 := Aside0.mk hs; clear hs))
          exact ⟨⟨i + 1, tDo m x, gl, by simp, by omega, hgl, hm2, ⟨HTI.out.2⟩, HR7⟩, by simp [intOf]; omega⟩
      · have e1 : decide ((i : Int) < (l.length : Int)) = false := decide_eq_false (by omega)
        have e2 : decide (i < l.length) = false := decide_eq_false hlt
        go_wp2
        go_ret
        exact ⟨rfl, HR.out.bel⟩
  · obtain ⟨e, he⟩ : ∃ e, tBad lo hi has = e := ⟨_, rfl⟩
    have HBN := Aside0.mk (fun W => newTabNo lo hi has W HLO.out HHI.out hbad)
    have HBX := Aside0.mk (fun W => xtNewNo lo hi has W HLO.out HHI.out hbad)
    rw [he] at hbad HBN HBX
    have hbe : (e == 0) = false := beq_eq_false_iff_ne.2 hbad
    clear he hbad
    go_enter Try.func7, Try.ntmps7
    go_wp2_with (first
      | (go_at_call 8; (with_reducible refine (awake _).mono ?_); rintro e w1 ⟨rfl, hbl⟩; have HB := Aside0.mk (HST.out.below hbl); clear hbl)
      | (go_at_call 13; (with_reducible refine (frSmall HB.out A c l (Kd.C_below HC.out HB.out.bel) hc).mono ?_); rintro e' w2 ⟨rfl, hs⟩; rw [HSM.out]; have hb1 := hs.blk; have y0 := blk_cell hb1 0; have y1 := blk_cell hb1 1; have y2 := blk_cell hb1 2; have HB2 := Aside0.mk hs; clear hs hb1)
      | (go_at_call 9; go_must ((with_reducible refine (HBN.out _).mono ?_); rintro e' w3 ⟨rfl, hbl⟩; have hs := HB2.out.below hbl; have hb1 := hs.blk; have y0 := blk_cell hb1 0; have y1 := blk_cell hb1 1; have y2 := blk_cell hb1 2; have HB3 := Aside0.mk hs; clear hs hb1 hbl))
      | (go_at_call 23; go_must ((with_reducible refine (HBX.out _).mono ?_); rintro e' w4 ⟨rfl, hbl⟩; have hs := (HB3.out.below hbl).newGlobs.newXG; obtain ⟨p, hp⟩ : ∃ p, w4.heap.size = p := ⟨_, rfl⟩; obtain ⟨q, hq⟩ : ∃ q, p + 1 = q := ⟨_, rfl⟩; rw [World.size_alloc, hp, hq] at hs; have HB6 := Aside0.mk (show SB w _ [GO p [], XG q []] from hs.pick3 [1, 0]); clear hs hbl)))
    go_loopw [12] (fun v12 wr => ∃ (i : Nat) (gl : List S95), v12 = .int .i64 i ∧ i ≤ l.length ∧ gl.length ≤ 128 ∧ Aside0 (SB w wr [GO p gl, XG q gl])) (fun v12 _ => l.length - (intOf v12).toNat)
    case atStart => exact ⟨0, [], rfl, Nat.zero_le _, by decide, HB6⟩
    case round =>
      obtain ⟨i, gl, rfl, hi, hgl, HR⟩ := hrel
      by_cases hlt : i < l.length
      · skip
        have e1 : decide ((i : Int) < (l.length : Int)) = true := decide_eq_true (by omega)
        have e2 : decide (i < l.length) = true := decide_eq_true hlt
        obtain ⟨x, hx⟩ : ∃ x, l[i] = x := ⟨_, rfl⟩
        have hxm : x ∈ l := by rw [← hx]; exact List.getElem_mem _
        have HX := Aside0.mk (show okI x.f1 ∧ (0 ≤ x.f2 ∧ x.f2 < 18446744073709551616) ∧ (0 ≤ x.f3 ∧ x.f3 < 256) from HOK.out x hxm)
        have hat0 := at_T40 HC.out (i : Int) (by omega) (by omega)
        rw [rd40 hlt, hx, Int.toNat_natCast] at hat0
        obtain ⟨ad, A5, c5, hAd, q0, q1, q2, q3, q4, q5, l5, g5⟩ := hat0
        have HQ0 := Aside0.mk q0
        have hbw := HR.out.bel
        have q0 := pw_cell_below hbw q0
        have q1 := pw_cell_below hbw q1
        have q2 := pw_cell_below hbw q2
        have q3 := pw_cell_below hbw q3
        have q4 := pw_cell_below hbw q4
        have q5 := pw_cell_below hbw q5
        have HG := Aside0.mk g5
        have HAD := Aside0.mk hAd
        subst hAd
        clear hxm hx g5 hbw
        by_cases h1 : 1 < x.f0
        · have d1 : decide (1 < x.f0) = true := decide_eq_true h1
          have d1' : decide (x.f0 ≤ 1) = false := decide_eq_false (by omega)
          go_wp2_with (go_at_call 25; go_must ((with_reducible refine (bothGlobs HR.out hgl x A5 c5 HX.out.1 HX.out.2.1 HX.out.2.2).mono ?_); rintro e' w7 ⟨rfl, hs⟩; have HR7 := Aside0.mk hs; clear hs))
          exact ⟨⟨i + 1, gDo gl x, by simp, by omega, gDo_len hgl x, HR7⟩, by simp [intOf]; omega⟩
        · have d1 : decide (1 < x.f0) = false := decide_eq_false h1
          have d1' : decide (x.f0 ≤ 1) = true := decide_eq_true (by omega)
          go_wp2
          exact ⟨⟨i + 1, gl, by simp, by omega, hgl, HR⟩, by simp [intOf]; omega⟩
      · have e1 : decide ((i : Int) < (l.length : Int)) = false := decide_eq_false (by omega)
        have e2 : decide (i < l.length) = false := decide_eq_false hlt
        go_wp2
        go_ret
        exact ⟨rfl, HR.out.bel⟩
def avocetlaw14_TablePlays.f (a0_0 : Int) (a0_1 : Int) (a0_2 : Bool) (l1 : List (S40)) : Option (Bool) := if (okI a0_0 ∧ okI a0_1) ∧ (∀ x ∈ l1, okA x) then some true else none
theorem avocetlaw14_TablePlays.calls (a0_0 : Int) (a0_1 : Int) (a0_2 : Bool) (A1 : Option Addr) (c1 : Nat) (l1 : List (S40)) (r : Bool) (w : World) (hr1 : Kd.C k40 w A1 l1.length l1) (hc1 : l1.length ≤ c1) (hr_ : r = true) (h : avocetlaw14_TablePlays.f a0_0 a0_1 a0_2 l1 = some r) :
    Calls Try.prog 7 #[.agg #[.int .i64 a0_0, .int .i64 a0_1, .bool a0_2], .slice A1 l1.length c1] w fun e w' => e = .returned (.bool r) ∧ Below w.heap.size w w' := by
  subst hr_
  by_cases hn : (okI a0_0 ∧ okI a0_1) ∧ (∀ x ∈ l1, okA x)
  · exact tablePlays a0_0 a0_1 a0_2 l1 A1 c1 w hr1 hc1 hn.1.1 hn.1.2 hn.2
  · unfold avocetlaw14_TablePlays.f at h
    rw [if_neg hn] at h
    simp at h
end Go.Proofs.Ytjdnkhgpnddncaa.G
