/- The document's memory: Lay. -/
import Derived.Deep.DeepMust
import Derived.Test.YtffoolhfjomhhaaDoorRefA
namespace Go.Proofs.YtffoolhfjomhhaaDoor.G
open Go.RowKit Go.Proofs.YtffoolhfjomhhaaDoorW.PrintWords Go.Proofs.YtffoolhfjomhhaaDoorW.PrintLast Go.Proofs.YtffoolhfjomhhaaDoorW.PrintMore
set_option linter.unusedVariables false
set_option linter.unusedSimpArgs false
theorem addr0 (g k : Nat) : (⟨g, 0, none⟩ : Addr).add k = ⟨g, k, none⟩ := by unfold Addr.add; split <;> simp_all
theorem SB.blk {w0 w : World} {L : List As} {p t : Nat} {cs : Array Value} (h : SB w0 w (Box p cs t :: L)) : w.heap[p]? = some (.cells cs t (0, 0)) := by
  obtain ⟨F, hF, _⟩ := h.head
  exact hF.1
theorem SB.pickL {w0 w : World} (Q : List As) {L : List As} (h : SB w0 w (Q ++ L)) (ix : List Nat) (hp : pickOk Q.length ix = true) : SB w0 w ((ix.map fun i => Q.getD i As.none) ++ L) := by
  have h1 := List.isPerm_iff.1 hp
  have h2 := h1.map (fun i => Q.getD i As.none)
  have h3 : (List.range Q.length).map (fun i => Q.getD i As.none) = Q := by
    apply List.ext_getElem
    · simp
    · intro i h1 h2
      simp [List.getElem?_eq_getElem h2]
  rw [h3, List.map_append] at h2
  have h4 := h.perm ((h2.symm).append_right L)
  rw [List.append_assoc] at h4
  have h5 := h4.perm ((List.perm_append_comm (l₁ := ((List.range Q.length).filter (fun i => !ix.contains i)).map fun i => Q.getD i As.none) (l₂ := L)).append_left _)
  rw [← List.append_assoc] at h5
  exact h5.prefix_
theorem SB.pick2 {w0 w : World} {A B : As} {L : List As} (h : SB w0 w (A :: B :: L)) (ix : List Nat) (hp : pickOk 2 ix = true := by kernel_rfl) : SB w0 w ((ix.map fun i => [A, B].getD i As.none) ++ L) := SB.pickL [A, B] h ix hp
theorem SB.pick3 {w0 w : World} {A B C : As} {L : List As} (h : SB w0 w (A :: B :: C :: L)) (ix : List Nat) (hp : pickOk 3 ix = true := by kernel_rfl) : SB w0 w ((ix.map fun i => [A, B, C].getD i As.none) ++ L) := SB.pickL [A, B, C] h ix hp
theorem SB.pick4 {w0 w : World} {A B C D : As} {L : List As} (h : SB w0 w (A :: B :: C :: D :: L)) (ix : List Nat) (hp : pickOk 4 ix = true := by kernel_rfl) : SB w0 w ((ix.map fun i => [A, B, C, D].getD i As.none) ++ L) := SB.pickL [A, B, C, D] h ix hp
theorem SB.pick5 {w0 w : World} {A B C D E : As} {L : List As} (h : SB w0 w (A :: B :: C :: D :: E :: L)) (ix : List Nat) (hp : pickOk 5 ix = true := by kernel_rfl) : SB w0 w ((ix.map fun i => [A, B, C, D, E].getD i As.none) ++ L) := SB.pickL [A, B, C, D, E] h ix hp
theorem SB.pick6 {w0 w : World} {A B C D E F : As} {L : List As} (h : SB w0 w (A :: B :: C :: D :: E :: F :: L)) (ix : List Nat) (hp : pickOk 6 ix = true := by kernel_rfl) : SB w0 w ((ix.map fun i => [A, B, C, D, E, F].getD i As.none) ++ L) := SB.pickL [A, B, C, D, E, F] h ix hp
/-- An object's cells beside its row. -/
theorem SB.obOpen {α : Type} {d : Kd α} {e t p : Nat} {xs : List α} {rs : List Value} {w0 w : World} {L : List As} (h : SB w0 w (ObR d e t p xs rs :: L)) :
    ∃ A c, xs.length ≤ c ∧ SB w0 w (Box p (.slice A xs.length c :: rs).toArray t :: Row d e (.slice A xs.length c) xs :: L) := by
  obtain ⟨h1, F, ⟨F1, F2, ha, hl, hd, he⟩, hF⟩ := h
  obtain ⟨A, c, hb, hR, hc, hC, hp, hlt⟩ := ObR.open_ ha
  refine ⟨A, c, hc, h1, F, ⟨fun k => k = p, fun k => (F1 k ∧ k ≠ p) ∨ F2 k, ⟨hb, fun k => Iff.rfl⟩, ⟨fun k => F1 k ∧ k ≠ p, F2, ⟨hR, fun k hk => hlt k hk.1⟩, hl, fun k hk h2 => hd k hk.1 h2, fun k => Iff.rfl⟩, ?_, ?_⟩, hF⟩
  · rintro k rfl (h2 | h2)
    · exact h2.2 rfl
    · exact hd k hp h2
  · intro k
    rw [he k]
    constructor
    · rintro (h2 | h2)
      · by_cases hk : k = p
        · exact .inl hk
        · exact .inr (.inl ⟨h2, hk⟩)
      · exact .inr (.inr h2)
    · rintro (h2 | h2 | h2)
      · rw [h2]; exact .inl hp
      · exact .inl h2.1
      · exact .inr h2
theorem SB.obClose {α : Type} {d : Kd α} {e t p : Nat} {xs : List α} {v : Value} {rs : List Value} {w0 w : World} {L : List As} (h : SB w0 w (Box p (v :: rs).toArray t :: Row d e v xs :: L)) : SB w0 w (ObR d e t p xs rs :: L) := by
  obtain ⟨h1, F, ⟨F1, F2, ⟨hb, h2⟩, ⟨F3, F4, ⟨hR, hlt⟩, hl, hd3, he3⟩, hd, he⟩, hF⟩ := h
  have hnp : ∀ k, F3 k → k ≠ p := fun k hk hp => hd k ((h2 k).2 hp) ((he3 k).2 (.inl hk))
  refine ⟨h1, F, ⟨fun k => F1 k ∨ F3 k, F4, ⟨v, hb, Kd.R_mono hR (fun k hk => ⟨.inr hk, hnp k hk⟩), .inl ((h2 p).2 rfl), fun k hk => ?_⟩, hl, fun k hk h4 => ?_, fun k => ?_⟩, hF⟩
  · rcases hk with hk | hk
    · rw [(h2 k).1 hk]; exact blk_lt hb
    · exact hlt k hk
  · rcases hk with hk | hk
    · exact hd k hk ((he3 k).2 (.inr h4))
    · exact hd3 k hk h4
  · rw [he k, he3 k, or_assoc]
theorem SB.rowAt {w0 w : World} {L : List As} {k : IntKind} {e : Nat} {v : Value} {xs : List Int} (h : SB w0 w (Row (Kd.int k) e v xs :: L)) (i : Nat) (hi : i < xs.length) :
    ∃ g c, v = .slice (some ⟨g, 0, none⟩) xs.length c ∧ w.cell? ⟨g, i, none⟩ = some (.int k xs[i]) ∧ w.frozen? ⟨g, i, none⟩ = false ∧
      ∀ x, SB w0 (w.setCell ⟨g, i, none⟩ (.int k x)) (Row (Kd.int k) e (.slice (some ⟨g, 0, none⟩) xs.length c) (xs.set i x) :: L) := by
  obtain ⟨F, hF, hge, K⟩ := h.frame
  have ho := Kd.own_of_R hF.1
  rcases ho.2 with ⟨rfl, h0⟩ | ⟨g, cap, cur, rfl, hbg, hg, hnc, hcm, hcs, htake⟩
  · omega
  obtain ⟨A', c', e2, _, hC⟩ := Kd.R_reads hF.1
  injection e2 with q1 q2 q3
  obtain ⟨ad, e1, hcell⟩ := row_cell hC hi
  rw [← q1] at e1
  injection e1 with e1
  subst e1
  refine ⟨g, cap, rfl, ?_, blk_frozen hg i, fun x => ?_⟩
  · rw [addr0] at hcell
    exact hcell
  · have h2 := Kd.R_put hF.1 (i : Int) x
    simp only [Int.toNat_natCast] at h2
    exact K _ (Row (Kd.int k) e _ _) F ⟨h2.1, fun b hb => by have := hF.2 b hb; simpa [World.setCell] using this⟩ ((Fr.refl w F).setCell (p := ⟨g, i, none⟩) (.inl (hF.1.1 g rfl)) _) (fun b hb => .inl hb)
theorem splice_step {l ys : List Int} {k i : Nat} (hi : i < ys.length) (hl : k + ys.length ≤ l.length) : (splice l k (ys.take i)).set (k + i) ys[i] = splice l k (ys.take (i + 1)) := by
  have h1 : (ys.take i).length = i := by rw [List.length_take]; omega
  have h2 : (ys.take (i + 1)).length = i + 1 := by rw [List.length_take]; omega
  unfold splice
  rw [h1, h2]
  have h3 : (l.take k ++ ys.take i).length = k + i := by rw [List.length_append, h1, List.length_take, Nat.min_eq_left (by omega)]
  rw [List.drop_eq_getElem_cons (show k + i < l.length by omega), List.set_append_right _ _ (by rw [h3]; exact Nat.le_refl _), h3, Nat.sub_self, List.set_cons_zero, List.take_succ_eq_append_getElem hi, show k + (i + 1) = k + i + 1 by omega]
  simp only [List.append_assoc, List.cons_append, List.nil_append]
set_option maxHeartbeats 4000000 in
theorem refLay {w0 w : World} {L : List As} {p : Nat} {m : Mem} (hS : SB w0 w (RO p m :: L)) (at_ : Int) (ys : List Int) (Ab : Option Addr) (cb : Nat) (ha : -9223372036854775808 ≤ at_ ∧ at_ < 9223372036854775808) (hC : Kd.C (Kd.int .u8) w0 Ab ys.length ys) (hlen : m.b.length ≤ 4294967295) {r : Bool} {l' : List Int} (hr : (mLay m.b at_ ys).isSome = r) (hl : (mLay m.b at_ ys).getD m.b = l') :
    Calls Tryd.prog 37 #[.pointer (some ⟨p, 0, none⟩), .int .i64 at_, .slice Ab ys.length cb] w fun e w' => e = .returned (.bool r) ∧ SB w0 w' (RO p { m with b := l' } :: L) := by
  obtain ⟨A, c, hc, h1⟩ := SB.obOpen hS
  have h : w.cell? ⟨p, 0, none⟩ = some (.slice A m.b.length c) := blk_cell h1.blk 0
  obtain ⟨n, hn⟩ : ∃ n, ys.length = n := ⟨_, rfl⟩
  obtain ⟨q, hq⟩ : ∃ q, m.b.length = q := ⟨_, rfl⟩
  have HN := Aside0.mk hn
  have HQ := Aside0.mk hq
  have HS := Aside0.mk hS
  rw [hn] at hC ⊢
  rw [hq] at h hlen hc
  have HC := Aside0.mk hC
  have hmax := Kd.C_max hC
  have hno : mLay m.b at_ ys = none → SB w0 w (RO p { m with b := l' } :: L) ∧ r = false := by
    intro hh
    rw [hh] at hr hl
    have hl2 : m.b = l' := hl
    subst hl2
    exact ⟨HS.out, hr.symm⟩
  have HNO := Aside0.mk hno
  have hw : IntKind.i64.wrap ((q : Int) - at_) = (q : Int) - at_ ∨ at_ < 0 := by
    by_cases h0 : at_ < 0
    · exact .inr h0
    · refine .inl ?_
      rw [IntKind.wrap_i64]
      have := ha.2
      omega
  have HR := Aside0.mk (And.intro hr hl)
  clear h1 hS hC hno hr hl hn hq
  by_cases c0 : at_ < 0
  · have d0 : decide (at_ < 0) = true := decide_eq_true c0
    obtain ⟨hs, rfl⟩ := HNO.out (by unfold mLay; exact if_neg (fun hh => absurd hh.1 (by omega)))
    have HS2 := Aside0.mk hs
    clear hs hw
    go_enter Tryd.func37, Tryd.ntmps37
    go_wp2
    go_ret
    exact ⟨rfl, HS2.out⟩
  have d0 : decide (at_ < 0) = false := decide_eq_false c0
  have hw := hw.resolve_right c0
  obtain ⟨k, rfl⟩ := Int.eq_ofNat_of_zero_le (show 0 ≤ at_ by omega)
  by_cases c1 : q < k
  · have d1 : decide ((q : Int) < (k : Int)) = true := decide_eq_true (by omega)
    have d1' : decide (q < k) = true := decide_eq_true c1
    obtain ⟨hs, rfl⟩ := HNO.out (by unfold mLay; rw [HQ.out]; exact if_neg (fun hh => absurd hh.2.1 (by omega)))
    have HS2 := Aside0.mk hs
    clear hs hw
    go_enter Tryd.func37, Tryd.ntmps37
    go_wp2
    go_ret
    exact ⟨rfl, HS2.out⟩
  have d1 : decide ((q : Int) < (k : Int)) = false := decide_eq_false (by omega)
  have d1' : decide (q < k) = false := decide_eq_false c1
  obtain ⟨e, he⟩ : ∃ e, q - k = e := ⟨_, rfl⟩
  have hw : IntKind.i64.wrap ((q : Int) - (k : Int)) = (e : Int) := by rw [hw]; omega
  by_cases c2 : e < n
  · have d2 : decide ((e : Int) < (n : Int)) = true := decide_eq_true (by omega)
    have d2' : decide (e < n) = true := decide_eq_true c2
    obtain ⟨hs, rfl⟩ := HNO.out (by unfold mLay; rw [HQ.out, HN.out]; exact if_neg (fun hh => absurd hh.2.2 (by omega)))
    have HS2 := Aside0.mk hs
    clear hs he
    go_enter Tryd.func37, Tryd.ntmps37
    go_wp2
    go_ret
    exact ⟨rfl, HS2.out⟩
  have d2 : decide ((e : Int) < (n : Int)) = false := decide_eq_false (by omega)
  have d2' : decide (e < n) = false := decide_eq_false c2
  have hkn : k + n ≤ q := by omega
  clear he
  have h6 : mLay m.b (k : Int) ys = some (splice m.b k ys) := by
    unfold mLay
    rw [HQ.out, HN.out, if_pos ⟨by omega, by omega, by omega⟩, Int.toNat_natCast]
  have hRR := HR.out
  rw [h6] at hRR
  obtain ⟨rfl, hl2⟩ := hRR
  have hl2 : splice m.b k ys = l' := hl2
  subst hl2
  obtain ⟨A5, c5, hc5, hs5⟩ := SB.obOpen HS.out
  rw [HQ.out] at hc5 hs5
  have HS5 := Aside0.mk hs5
  clear h6 hs5
  go_enter Tryd.func37, Tryd.ntmps37
  go_wp2
  go_loopw [7] (fun v8 wr => ∃ i : Nat, v8 = .int .i64 i ∧ i ≤ n ∧ Aside0 (SB w0 wr (Box p #[.slice A5 q c5, .int .i64 m.lo, .int .i64 m.hi, .bool m.has] 60 :: Row (Kd.int .u8) 5 (.slice A5 q c5) (splice m.b k (ys.take i)) :: L))) (fun v8 _ => n - (intOf v8).toNat)
  case atStart => exact ⟨0, rfl, Nat.zero_le _, ⟨by rw [List.take_zero, splice_nil]; exact HS5.out⟩⟩
  case round =>
    obtain ⟨i, rfl, hi, HW2⟩ := hrel
    by_cases hlt2 : i < n
    · have e1 : decide ((i : Int) < (n : Int)) = true := decide_eq_true (by omega)
      have e2 : decide (i < n) = true := decide_eq_true hlt2
      have hil : i < ys.length := by rw [HN.out]; exact hlt2
      obtain ⟨ad, hAd, hcell⟩ := row_cell (show Kd.C (Kd.int .u8) w0 Ab ys.length ys by rw [HN.out]; exact HC.out) hil
      have hst := splice_step (l := m.b) (k := k) hil (by rw [HN.out, HQ.out]; exact hkn)
      obtain ⟨y, hy⟩ : ∃ y, ys[i] = y := ⟨_, rfl⟩
      rw [hy] at hcell hst
      have hln : (splice m.b k (ys.take i)).length = q := by rw [splice_length (by rw [List.length_take, HQ.out]; omega), HQ.out]
      have hw2 := HW2.out.drew
      obtain ⟨g, cg, eg, t0, t1, hset⟩ := SB.rowAt hw2.swap (k + i) (by rw [hln]; omega)
      rw [hln] at eg hset
      injection eg with eg1 eg2 eg3
      have hs6 := hset y
      rw [hst] at hs6
      subst eg1
      clear eg2
      subst eg3
      have hb6 := hs6.swap.blk
      obtain ⟨u0, t0⟩ : ∃ u, wr.drew.cell? ⟨g, k + i, none⟩ = some (.int .u8 u) := ⟨_, t0⟩
      have HB := Aside0.mk (And.intro (blk_cell hw2.blk 0) (And.intro t0 (And.intro t1 hs6)))
      have hwk : IntKind.i64.wrap ((k : Int) + (i : Int)) = ((k + i : Nat) : Int) := by rw [IntKind.wrap_i64]; omega
      obtain ⟨ki, hki⟩ : ∃ j, k + i = j := ⟨_, rfl⟩
      rw [hki] at HB hwk hb6
      have hkq : (ki : Int) < (q : Int) := by omega
      have HCE := Aside0.mk hcell
      have HAD := Aside0.mk hAd
      have HBEL := Aside0.mk hw2.bel
      subst hAd
      have HB6 := Aside0.mk hb6
      clear hset hs6 hst hw2 t0 t1 hy hki hcell hb6
      go_wp2
      refine rg_startL (n := 13) (S := fun w' => Below w0.heap.size w0 w' ∧ w'.cell? ⟨p, 0, none⟩ = some (.slice (some ⟨g, 0, none⟩) q c5)) (bm 13 0) (by kernel_rfl) rfl (by kernel_rfl) (⟨HBEL.out, HB.out.1⟩) (fun wd hwd hHeld => ?_)
      refine rg_take (i := 0) (N := some 37) (v := ?_) (a' := ?_) (bm 13 1) rfl rfl (by kernel_rfl) (fun _ _ _ h => h) hHeld (Or.inl ⟨by rfl, ?_⟩) ?_ ?_
      rotate_left
      · intro w' hw'
        have s0 := hw'.2
        have s1 := pw_cell_below hw'.1 HCE.out
        go_simp
        with_reducible rfl
      rotate_left
      · simp only [Act.put, List.setIfInBounds_toArray, List.set_cons_zero, List.set_cons_succ]
        rfl
      refine rg_take (i := 1) (N := some 38) (v := ?_) (a' := ?_) (bm 13 3) rfl rfl (by kernel_rfl) (fun _ _ _ h => h) hHeld (Or.inl ⟨by rfl, ?_⟩) ?_ ?_
      rotate_left
      · intro w' hw'
        have s0 := hw'.2
        have s1 := pw_cell_below hw'.1 HCE.out
        go_simp
        with_reducible rfl
      rotate_left
      · simp only [Act.put, List.setIfInBounds_toArray, List.set_cons_zero, List.set_cons_succ]
        rfl
      refine rg_take (i := 2) (N := some 39) (v := ?_) (a' := ?_) (bm 13 7) rfl rfl (by kernel_rfl) (fun _ _ _ h => h) hHeld (Or.inl ⟨by rfl, ?_⟩) ?_ ?_
      rotate_left
      · intro w' hw'
        have s0 := hw'.2
        have s1 := pw_cell_below hw'.1 HCE.out
        go_simp
        with_reducible rfl
      rotate_left
      · simp only [Act.put, List.setIfInBounds_toArray, List.set_cons_zero, List.set_cons_succ]
        rfl
      refine rg_take (i := 3) (N := some 40) (v := ?_) (a' := ?_) (bm 13 15) rfl rfl (by kernel_rfl) (fun _ _ _ h => h) hHeld (Or.inl ⟨by rfl, ?_⟩) ?_ ?_
      rotate_left
      · intro w' hw'
        have s0 := hw'.2
        have s1 := pw_cell_below hw'.1 HCE.out
        go_simp
        with_reducible rfl
      rotate_left
      · simp only [Act.put, List.setIfInBounds_toArray, List.set_cons_zero, List.set_cons_succ]
        rfl
      refine rg_take (i := 4) (N := some 41) (v := ?_) (a' := ?_) (bm 13 31) rfl rfl (by kernel_rfl) (fun _ _ _ h => h) hHeld (Or.inl ⟨by rfl, ?_⟩) ?_ ?_
      rotate_left
      · intro w' hw'
        have s0 := hw'.2
        have s1 := pw_cell_below hw'.1 HCE.out
        go_simp
        with_reducible rfl
      rotate_left
      · simp only [Act.put, List.setIfInBounds_toArray, List.set_cons_zero, List.set_cons_succ]
        rfl
      refine rg_take (i := 5) (N := some 42) (v := ?_) (a' := ?_) (bm 13 63) rfl rfl (by kernel_rfl) (fun _ _ _ h => h) hHeld (Or.inl ⟨by rfl, ?_⟩) ?_ ?_
      rotate_left
      · intro w' hw'
        have s0 := hw'.2
        have s1 := pw_cell_below hw'.1 HCE.out
        go_simp
        with_reducible rfl
      rotate_left
      · simp only [Act.put, List.setIfInBounds_toArray, List.set_cons_zero, List.set_cons_succ]
        rfl
      refine rg_take (i := 6) (N := some 43) (v := ?_) (a' := ?_) (bm 13 127) rfl rfl (by kernel_rfl) (fun _ _ _ h => h) hHeld (Or.inl ⟨by rfl, ?_⟩) ?_ ?_
      rotate_left
      · intro w' hw'
        have s0 := hw'.2
        have s1 := pw_cell_below hw'.1 HCE.out
        go_simp
        with_reducible rfl
      rotate_left
      · simp only [Act.put, List.setIfInBounds_toArray, List.set_cons_zero, List.set_cons_succ]
        rfl
      refine rg_take (i := 7) (N := some 44) (v := ?_) (a' := ?_) (bm 13 255) rfl rfl (by kernel_rfl) (fun _ _ _ h => h) hHeld (Or.inl ⟨by rfl, ?_⟩) ?_ ?_
      rotate_left
      · intro w' hw'
        have s0 := hw'.2
        have s1 := pw_cell_below hw'.1 HCE.out
        go_simp
        with_reducible rfl
      rotate_left
      · simp only [Act.put, List.setIfInBounds_toArray, List.set_cons_zero, List.set_cons_succ]
        rfl
      refine rg_take (i := 8) (N := some 45) (v := ?_) (a' := ?_) (bm 13 511) rfl rfl (by kernel_rfl) (fun _ _ _ h => h) hHeld (Or.inl ⟨by rfl, ?_⟩) ?_ ?_
      rotate_left
      · intro w' hw'
        have s0 := hw'.2
        have s1 := pw_cell_below hw'.1 HCE.out
        go_simp
        with_reducible rfl
      rotate_left
      · simp only [Act.put, List.setIfInBounds_toArray, List.set_cons_zero, List.set_cons_succ]
        rfl
      refine rg_take (i := 9) (N := some 46) (v := ?_) (a' := ?_) (bm 13 1023) rfl rfl (by kernel_rfl) (fun _ _ _ h => h) hHeld (Or.inl ⟨by rfl, ?_⟩) ?_ ?_
      rotate_left
      · intro w' hw'
        have s0 := hw'.2
        have s1 := pw_cell_below hw'.1 HCE.out
        go_simp
        with_reducible rfl
      rotate_left
      · simp only [Act.put, List.setIfInBounds_toArray, List.set_cons_zero, List.set_cons_succ]
        rfl
      refine rg_take (i := 10) (N := some 47) (v := ?_) (a' := ?_) (bm 13 2047) rfl rfl (by kernel_rfl) (fun _ _ _ h => h) hHeld (Or.inl ⟨by rfl, ?_⟩) ?_ ?_
      rotate_left
      · intro w' hw'
        have s0 := hw'.2
        have s1 := pw_cell_below hw'.1 HCE.out
        go_simp
        with_reducible rfl
      rotate_left
      · simp only [Act.put, List.setIfInBounds_toArray, List.set_cons_zero, List.set_cons_succ]
        rfl
      refine rg_take (i := 11) (N := some 48) (v := ?_) (a' := ?_) (bm 13 4095) rfl rfl (by kernel_rfl) (fun _ _ _ h => h) hHeld (Or.inl ⟨by rfl, ?_⟩) ?_ ?_
      rotate_left
      · intro w' hw'
        have s0 := hw'.2
        have s1 := pw_cell_below hw'.1 HCE.out
        go_simp
        with_reducible rfl
      rotate_left
      · simp only [Act.put, List.setIfInBounds_toArray, List.set_cons_zero, List.set_cons_succ]
        rfl
      refine rg_ready [12] (by kernel_rfl) (by simp) ?_
      refine rg_one (i := 12) (N := none) (bm 13 8191) rfl rfl (by kernel_rfl) (fun K hK => ?_) rg_nil
      have t0 := hwd.out ▸ HB.out.2.1
      have t1 := hwd.out ▸ HB.out.2.2.1
      have HD := Aside0.mk (hwd.out ▸ HB.out.2.2.2)
      have hnew := And.intro (SB.bel HD.out) (blk_cell HD.out.swap.blk 0)
      go_simp
      refine hK.out undef _ hnew ?_
      clear hK K
      refine rg_norm (a' := ?_) ?_ ?_
      rotate_left
      · simp only [Act.put, List.setIfInBounds_toArray, List.set_cons_zero, List.set_cons_succ]
        rfl
      clear hHeld
      have hHeld := hnew
      clear hnew
      refine rg_done (by kernel_rfl) ?_
      go_wp2
      exact ⟨⟨i + 1, by simp, by omega, ⟨HD.out.swap⟩⟩, by simp [intOf]; omega⟩
    · have e1 : decide ((i : Int) < (n : Int)) = false := decide_eq_false (by omega)
      have e2 : decide (i < n) = false := decide_eq_false hlt2
      go_wp2
      go_ret
      have hw2 := HW2.out
      rw [List.take_of_length_le (by rw [HN.out]; omega)] at hw2
      exact ⟨rfl, SB.obClose hw2⟩
end Go.Proofs.YtffoolhfjomhhaaDoor.G
