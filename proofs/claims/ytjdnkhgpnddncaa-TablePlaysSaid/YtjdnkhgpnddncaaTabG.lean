/- The document's tables as objects. -/
import Derived.Deep.DeepMust
import Derived.Test.YtjdnkhgpnddncaaTabF
namespace Go.Proofs.Ytjdnkhgpnddncaa.G
open Go.RowKit Go.Proofs.YtjdnkhgpnddncaaW.PrintWords Go.Proofs.YtjdnkhgpnddncaaW.PrintLast Go.Proofs.YtjdnkhgpnddncaaW.PrintMore
set_option linter.unusedVariables false
set_option linter.unusedSimpArgs false
def XT (p : Nat) (m : Tb) : As := ObR (Kd.int .i64) 3 88 p m.l [.int .i64 m.lo, .int .i64 m.hi, .bool m.has]
theorem SB.blk {w0 w : World} {L : List As} {p t : Nat} {cs : Array Value} (h : SB w0 w (Box p cs t :: L)) : w.heap[p]? = some (.cells cs t (0, 0)) := by
  obtain ⟨F, hF, _⟩ := h.head
  exact hF.1
theorem SB.pickL {w0 w : World} (Q : List As) {L : List As} (h : SB w0 w (Q ++ L)) (ix : List Nat) (hp : pickOk Q.length ix = true) : SB w0 w ((ix.map fun i => Q.getD i As.none) ++ L) := by
  have h1 := List.isPerm_iff.1 hp
  have h2 := h1.map (fun i => Q.getD i As.none)
  have h3 : (List.range Q.length).map (fun i => Q.getD i As.none) = Q := by
    apply List.ext_getElem
    · simp
    · intro i h1 h2
      simp [List.getElem?_eq_getElem h2]
  rw [h3, List.map_append] at h2
  have h4 := h.perm ((h2.symm).append_right L)
  rw [List.append_assoc] at h4
  have h5 := h4.perm ((List.perm_append_comm (l₁ := ((List.range Q.length).filter (fun i => !ix.contains i)).map fun i => Q.getD i As.none) (l₂ := L)).append_left _)
  rw [← List.append_assoc] at h5
  exact h5.prefix_
theorem SB.pick2 {w0 w : World} {A B : As} {L : List As} (h : SB w0 w (A :: B :: L)) (ix : List Nat) (hp : pickOk 2 ix = true := by kernel_rfl) : SB w0 w ((ix.map fun i => [A, B].getD i As.none) ++ L) := SB.pickL [A, B] h ix hp
theorem SB.pick3 {w0 w : World} {A B C : As} {L : List As} (h : SB w0 w (A :: B :: C :: L)) (ix : List Nat) (hp : pickOk 3 ix = true := by kernel_rfl) : SB w0 w ((ix.map fun i => [A, B, C].getD i As.none) ++ L) := SB.pickL [A, B, C] h ix hp
theorem SB.pick4 {w0 w : World} {A B C D : As} {L : List As} (h : SB w0 w (A :: B :: C :: D :: L)) (ix : List Nat) (hp : pickOk 4 ix = true := by kernel_rfl) : SB w0 w ((ix.map fun i => [A, B, C, D].getD i As.none) ++ L) := SB.pickL [A, B, C, D] h ix hp
theorem SB.pick5 {w0 w : World} {A B C D E : As} {L : List As} (h : SB w0 w (A :: B :: C :: D :: E :: L)) (ix : List Nat) (hp : pickOk 5 ix = true := by kernel_rfl) : SB w0 w ((ix.map fun i => [A, B, C, D, E].getD i As.none) ++ L) := SB.pickL [A, B, C, D, E] h ix hp
theorem SB.pick6 {w0 w : World} {A B C D E F : As} {L : List As} (h : SB w0 w (A :: B :: C :: D :: E :: F :: L)) (ix : List Nat) (hp : pickOk 6 ix = true := by kernel_rfl) : SB w0 w ((ix.map fun i => [A, B, C, D, E, F].getD i As.none) ++ L) := SB.pickL [A, B, C, D, E, F] h ix hp
/-- An object's cells beside its row. -/
theorem SB.obOpen {α : Type} {d : Kd α} {e t p : Nat} {xs : List α} {rs : List Value} {w0 w : World} {L : List As} (h : SB w0 w (ObR d e t p xs rs :: L)) :
    ∃ A c, xs.length ≤ c ∧ SB w0 w (Box p (.slice A xs.length c :: rs).toArray t :: Row d e (.slice A xs.length c) xs :: L) := by
  obtain ⟨h1, F, ⟨F1, F2, ha, hl, hd, he⟩, hF⟩ := h
  obtain ⟨A, c, hb, hR, hc, hC, hp, hlt⟩ := ObR.open_ ha
  refine ⟨A, c, hc, h1, F, ⟨fun k => k = p, fun k => (F1 k ∧ k ≠ p) ∨ F2 k, ⟨hb, fun k => Iff.rfl⟩, ⟨fun k => F1 k ∧ k ≠ p, F2, ⟨hR, fun k hk => hlt k hk.1⟩, hl, fun k hk h2 => hd k hk.1 h2, fun k => Iff.rfl⟩, ?_, ?_⟩, hF⟩
  · rintro k rfl (h2 | h2)
    · exact h2.2 rfl
    · exact hd k hp h2
  · intro k
    rw [he k]
    constructor
    · rintro (h2 | h2)
      · by_cases hk : k = p
        · exact .inl hk
        · exact .inr (.inl ⟨h2, hk⟩)
      · exact .inr (.inr h2)
    · rintro (h2 | h2 | h2)
      · rw [h2]; exact .inl hp
      · exact .inl h2.1
      · exact .inr h2
theorem SB.obClose {α : Type} {d : Kd α} {e t p : Nat} {xs : List α} {v : Value} {rs : List Value} {w0 w : World} {L : List As} (h : SB w0 w (Box p (v :: rs).toArray t :: Row d e v xs :: L)) : SB w0 w (ObR d e t p xs rs :: L) := by
  obtain ⟨h1, F, ⟨F1, F2, ⟨hb, h2⟩, ⟨F3, F4, ⟨hR, hlt⟩, hl, hd3, he3⟩, hd, he⟩, hF⟩ := h
  have hnp : ∀ k, F3 k → k ≠ p := fun k hk hp => hd k ((h2 k).2 hp) ((he3 k).2 (.inl hk))
  refine ⟨h1, F, ⟨fun k => F1 k ∨ F3 k, F4, ⟨v, hb, Kd.R_mono hR (fun k hk => ⟨.inr hk, hnp k hk⟩), .inl ((h2 p).2 rfl), fun k hk => ?_⟩, hl, fun k hk h4 => ?_, fun k => ?_⟩, hF⟩
  · rcases hk with hk | hk
    · rw [(h2 k).1 hk]; exact blk_lt hb
    · exact hlt k hk
  · rcases hk with hk | hk
    · exact hd k hk ((he3 k).2 (.inr h4))
    · exact hd3 k hk h4
  · rw [he k, he3 k, or_assoc]
theorem SB.rowAt {w0 w : World} {L : List As} {k : IntKind} {e : Nat} {v : Value} {xs : List Int} (h : SB w0 w (Row (Kd.int k) e v xs :: L)) (i : Nat) (hi : i < xs.length) :
    ∃ g c, v = .slice (some ⟨g, 0, none⟩) xs.length c ∧ w.cell? ⟨g, i, none⟩ = some (.int k xs[i]) ∧ w.frozen? ⟨g, i, none⟩ = false ∧
      ∀ x, SB w0 (w.setCell ⟨g, i, none⟩ (.int k x)) (Row (Kd.int k) e (.slice (some ⟨g, 0, none⟩) xs.length c) (xs.set i x) :: L) := by
  obtain ⟨F, hF, hge, K⟩ := h.frame
  have ho := Kd.own_of_R hF.1
  rcases ho.2 with ⟨rfl, h0⟩ | ⟨g, cap, cur, rfl, hbg, hg, hnc, hcm, hcs, htake⟩
  · omega
  obtain ⟨A', c', e2, _, hC⟩ := Kd.R_reads hF.1
  injection e2 with q1 q2 q3
  obtain ⟨ad, e1, hcell⟩ := row_cell hC hi
  rw [← q1] at e1
  injection e1 with e1
  subst e1
  refine ⟨g, cap, rfl, ?_, blk_frozen hg i, fun x => ?_⟩
  · rw [add_blk] at hcell
    exact hcell
  · have h2 := Kd.R_put hF.1 (i : Int) x
    simp only [Int.toNat_natCast] at h2
    exact K _ (Row (Kd.int k) e _ _) F ⟨h2.1, fun b hb => by have := hF.2 b hb; simpa [World.setCell] using this⟩ ((Fr.refl w F).setCell (p := ⟨g, i, none⟩) (.inl (hF.1.1 g rfl)) _) (fun b hb => .inl hb)
set_option maxRecDepth 100000 in
theorem xtNewNo (lo hi : Int) (has : Bool) (w : World) (hlo : okI lo) (hhi : okI hi) (h : tBad lo hi has ≠ 0) :
    Calls Try.prog 23 #[.agg #[.int .i64 lo, .int .i64 hi, .bool has]] w fun e w' => e = .returned (.tuple #[.pointer none, .int .i64 (tBad lo hi has)]) ∧ Below w.heap.size w w' := by
  by_cases c0 : lo < 0
  · have d0 : decide (lo < 0) = true := decide_eq_true c0
    have hr : tBad lo hi has = 1 := if_pos (.inl c0)
    rw [hr]
    go_enter Try.func23, Try.ntmps23
    go_wp2
    go_ret2
    exact ⟨rfl, by repeat (first | exact Below.refl _ _ | apply below_alloc)⟩
  · have d0 : decide (lo < 0) = false := decide_eq_false c0
    cases has with
    | true =>
      by_cases c1 : hi < lo
      · have d1 : decide (hi < lo) = true := decide_eq_true c1
        have hr : tBad lo hi true = 1 := if_pos (.inr (.inl ⟨rfl, c1⟩))
        rw [hr]
        go_enter Try.func23, Try.ntmps23
        go_wp2
        go_ret2
        exact ⟨rfl, by repeat (first | exact Below.refl _ _ | apply below_alloc)⟩
      · have d1 : decide (hi < lo) = false := decide_eq_false c1
        have hno : ¬ (lo < 0 ∨ (true = true ∧ hi < lo) ∨ (true = false ∧ hi ≠ 0)) := by
          rintro (h | ⟨_, h⟩ | ⟨h, _⟩)
          · exact c0 h
          · exact c1 h
          · cases h
        have hr0 : tBad lo hi true = if 256 < lo then 4 else 0 := if_neg hno
        by_cases c3 : 256 < lo
        · have d3 : decide (256 < lo) = true := decide_eq_true c3
          have hr : tBad lo hi true = 4 := hr0.trans (if_pos c3)
          rw [hr]
          go_enter Try.func23, Try.ntmps23
          go_wp2
          go_ret2
          exact ⟨rfl, by repeat (first | exact Below.refl _ _ | apply below_alloc)⟩
        · exact absurd (hr0.trans (if_neg c3)) h
    | false =>
      by_cases c2 : hi = 0
      · subst c2
        have hno : ¬ (lo < 0 ∨ (false = true ∧ (0 : Int) < lo) ∨ (false = false ∧ (0 : Int) ≠ 0)) := by
          rintro (h | ⟨h, _⟩ | ⟨_, h⟩)
          · exact c0 h
          · cases h
          · exact h rfl
        have hr0 : tBad lo 0 false = if 256 < lo then 4 else 0 := if_neg hno
        by_cases c3 : 256 < lo
        · have d3 : decide (256 < lo) = true := decide_eq_true c3
          have hr : tBad lo 0 false = 4 := hr0.trans (if_pos c3)
          rw [hr]
          go_enter Try.func23, Try.ntmps23
          go_wp2
          go_ret2
          exact ⟨rfl, by repeat (first | exact Below.refl _ _ | apply below_alloc)⟩
        · exact absurd (hr0.trans (if_neg c3)) h
      · have d2 : (hi == 0) = false := beq_eq_false_iff_ne.2 c2
        have d3 : (hi != 0) = true := bne_iff_ne.2 c2
        have hr : tBad lo hi false = 1 := if_pos (.inr (.inr ⟨rfl, c2⟩))
        rw [hr]
        go_enter Try.func23, Try.ntmps23
        go_wp2
        go_ret2
        exact ⟨rfl, by repeat (first | exact Below.refl _ _ | apply below_alloc)⟩

set_option maxHeartbeats 4000000 in
theorem xtNewOk {w0 w : World} {L : List As} (hS : SB w0 w L) (lo : Nat) (hi : Int) (has : Bool) (h : tBad lo hi has = 0) :
    Calls Try.prog 23 #[.agg #[.int .i64 (lo : Int), .int .i64 hi, .bool has]] w fun e w' => ∃ p, e = .returned (.tuple #[.pointer (some ⟨p, 0, none⟩), .int .i64 0]) ∧ SB w0 w' (XT p ⟨List.replicate lo (-1), lo, hi, has⟩ :: L) := by
  have hno : ¬ ((lo : Int) < 0 ∨ (has = true ∧ hi < (lo : Int)) ∨ (has = false ∧ hi ≠ 0)) := fun hh => by unfold tBad at h; rw [if_pos hh] at h; cases h
  have h256 : lo ≤ 256 := by
    unfold tBad at h
    rw [if_neg hno] at h
    by_cases hh : (256 : Int) < (lo : Int)
    · rw [if_pos hh] at h; cases h
    · omega
  have d0 : decide ((lo : Int) < 0) = false := decide_eq_false (by omega)
  have d5 : decide ((256 : Int) < (lo : Int)) = false := decide_eq_false (by omega)
  have d5' : decide (256 < lo) = false := decide_eq_false (by omega)
  obtain ⟨b, hb, hbx⟩ := (show ∃ b, b = w.heap.size ∧ SB w0 (w.alloc (.cells #[.int .i64 (lo : Int), .int .i64 hi, .bool has] 29)) (Box b #[.int .i64 (lo : Int), .int .i64 hi, .bool has] 29 :: L) from ⟨_, rfl, hS.box _ 29⟩)
  obtain ⟨q, hq⟩ : ∃ q, b + 1 = q := ⟨_, rfl⟩
  have hn := hbx.newObj (d := Kd.int .i64) (e := 3) (t := 88) [.int .i64 (lo : Int), .int .i64 hi, .bool has]
  rw [World.size_alloc, ← hb, hq] at hn
  have HN := Aside0.mk hn
  have hb' : w.heap.size = b := hb.symm
  clear hbx hn hS h hb
  have hend : ∀ wr : World, SB w0 wr (XT q ⟨List.replicate 0 (-1), lo, hi, has⟩ :: Box b #[.int .i64 (lo : Int), .int .i64 hi, .bool has] 29 :: L) → SB w0 wr (XT q ⟨List.replicate 0 (-1), lo, hi, has⟩ :: Box b #[.int .i64 (lo : Int), .int .i64 hi, .bool has] 29 :: L) := fun _ h => h
  cases has with
  | true =>
    have d1 : decide (hi < (lo : Int)) = false := decide_eq_false (fun hh => hno (.inr (.inl ⟨rfl, hh⟩)))
    clear hno hend
    go_enter Try.func23, Try.ntmps23
    go_wp2
    go_loopw [5] (fun v5 wr => ∃ k : Nat, v5 = .int .i64 k ∧ k ≤ lo ∧ Aside0 (SB w0 wr (XT q ⟨List.replicate k (-1), lo, hi, true⟩ :: Box b #[.int .i64 (lo : Int), .int .i64 hi, .bool true] 29 :: L))) (fun v5 _ => lo - (intOf v5).toNat)
    case atStart => exact ⟨0, rfl, Nat.zero_le _, HN⟩
    case round =>
      obtain ⟨k, rfl, hk, HW⟩ := hrel
      obtain ⟨A, c, hc, hs⟩ := SB.obOpen HW.out
      have hb1 := hs.blk
      have hb2 := (hs.pick3 [2]).blk
      have s0 := blk_cell hb1 0
      have t0 := blk_cell hb2 0
      have hlr : (List.replicate k (-1 : Int)).length = k := List.length_replicate
      clear hs hb2
      by_cases hlt : k < lo
      · have e1 : decide ((k : Int) < (lo : Int)) = true := decide_eq_true (by omega)
        have e2 : decide (k < lo) = true := decide_eq_true hlt
        have s0' : wr.cell? ⟨q, 0, none⟩ = some (.slice A (List.replicate k (-1 : Int)).length c) := s0
        clear hb1
        go_wp2_with ((with_reducible refine gate_builtin (b := .append) (xs := #[.tmp 46, .tmp 47]) rfl ?_); go_must (refine SB.appObj1 (W := wr) (d := Kd.int .i64) (cs := [.int .i64 (-1)]) (y := -1) HW.out s0' rfl (.tmp 46) (.tmp 47) 22 (.int .i64 0) 8 rfl Try.underlying22 (show (Try.prog.info? 3).map (fun i => (i.zero, i.size, i.bytes)) = some (some (.int .i64 0), 1, 8) from by kernel_rfl) rfl (by decide) (by decide) (by simp [go_sem, *]) rfl rfl (by rw [hlr]; omega) ?_; intro v1 w1 A1 c1 hv1 h1 hs1; subst hv1; have q1 := blk_cell h1 0; have f1 := blk_frozen h1 0; have HS1 := Aside0.mk hs1; clear hs1 h1))
        refine ⟨⟨k + 1, by simp, by omega, ⟨?_⟩⟩, by simp [intOf]; omega⟩
        have h2 : SB w0 (w1.setCell ⟨q, 0, none⟩ (.slice A1 ((List.replicate k (-1 : Int)).length + 1) c1)) (ObR (Kd.int .i64) 3 88 q (List.replicate k (-1 : Int) ++ [-1]) [.int .i64 (lo : Int), .int .i64 hi, .bool true] :: Box b #[.int .i64 (lo : Int), .int .i64 hi, .bool true] 29 :: L) := HS1.out
        rw [hlr] at h2
        rw [show List.replicate k (-1 : Int) ++ [-1] = List.replicate (k + 1) (-1) by rw [List.replicate_succ']] at h2
        exact h2
      · have e1 : decide ((k : Int) < (lo : Int)) = false := decide_eq_false (by omega)
        have e2 : decide (k < lo) = false := decide_eq_false hlt
        obtain rfl : k = lo := by omega
        clear hb1 s0
        go_wp2
        go_ret2
        exact ⟨q, rfl, HW.out.swap.drop⟩
  | false =>
    have d1 : (hi == 0) = true := beq_iff_eq.2 (Classical.byContradiction fun hh => hno (.inr (.inr ⟨rfl, hh⟩)))
    have h0 : hi = 0 := beq_iff_eq.1 d1
    subst h0
    clear hno hend d1
    go_enter Try.func23, Try.ntmps23
    go_wp2
    go_loopw [5] (fun v5 wr => ∃ k : Nat, v5 = .int .i64 k ∧ k ≤ lo ∧ Aside0 (SB w0 wr (XT q ⟨List.replicate k (-1), lo, 0, false⟩ :: Box b #[.int .i64 (lo : Int), .int .i64 0, .bool false] 29 :: L))) (fun v5 _ => lo - (intOf v5).toNat)
    case atStart => exact ⟨0, rfl, Nat.zero_le _, HN⟩
    case round =>
      obtain ⟨k, rfl, hk, HW⟩ := hrel
      obtain ⟨A, c, hc, hs⟩ := SB.obOpen HW.out
      have hb1 := hs.blk
      have hb2 := (hs.pick3 [2]).blk
      have s0 := blk_cell hb1 0
      have t0 := blk_cell hb2 0
      have hlr : (List.replicate k (-1 : Int)).length = k := List.length_replicate
      clear hs hb2
      by_cases hlt : k < lo
      · have e1 : decide ((k : Int) < (lo : Int)) = true := decide_eq_true (by omega)
        have e2 : decide (k < lo) = true := decide_eq_true hlt
        have s0' : wr.cell? ⟨q, 0, none⟩ = some (.slice A (List.replicate k (-1 : Int)).length c) := s0
        clear hb1
        go_wp2_with ((with_reducible refine gate_builtin (b := .append) (xs := #[.tmp 46, .tmp 47]) rfl ?_); go_must (refine SB.appObj1 (W := wr) (d := Kd.int .i64) (cs := [.int .i64 (-1)]) (y := -1) HW.out s0' rfl (.tmp 46) (.tmp 47) 22 (.int .i64 0) 8 rfl Try.underlying22 (show (Try.prog.info? 3).map (fun i => (i.zero, i.size, i.bytes)) = some (some (.int .i64 0), 1, 8) from by kernel_rfl) rfl (by decide) (by decide) (by simp [go_sem, *]) rfl rfl (by rw [hlr]; omega) ?_; intro v1 w1 A1 c1 hv1 h1 hs1; subst hv1; have q1 := blk_cell h1 0; have f1 := blk_frozen h1 0; have HS1 := Aside0.mk hs1; clear hs1 h1))
        refine ⟨⟨k + 1, by simp, by omega, ⟨?_⟩⟩, by simp [intOf]; omega⟩
        have h2 : SB w0 (w1.setCell ⟨q, 0, none⟩ (.slice A1 ((List.replicate k (-1 : Int)).length + 1) c1)) (ObR (Kd.int .i64) 3 88 q (List.replicate k (-1 : Int) ++ [-1]) [.int .i64 (lo : Int), .int .i64 0, .bool false] :: Box b #[.int .i64 (lo : Int), .int .i64 0, .bool false] 29 :: L) := HS1.out
        rw [hlr] at h2
        rw [show List.replicate k (-1 : Int) ++ [-1] = List.replicate (k + 1) (-1) by rw [List.replicate_succ']] at h2
        exact h2
      · have e1 : decide ((k : Int) < (lo : Int)) = false := decide_eq_false (by omega)
        have e2 : decide (k < lo) = false := decide_eq_false hlt
        obtain rfl : k = lo := by omega
        clear hb1 s0
        go_wp2
        go_ret2
        exact ⟨q, rfl, HW.out.swap.drop⟩
section
variable {w0 w : World} {L : List As} {p : Nat} {m : Tb}
theorem xtAt (hS : SB w0 w (XT p m :: L)) (i : Int) (hi : 0 ≤ i ∧ i < 18446744073709551616) (hge : ∀ x ∈ m.l, -1 ≤ x) {x t : Int} (hr : tAt m.l i = (x, t)) :
    Calls Try.prog 32 #[.pointer (some ⟨p, 0, none⟩), .int .u64 i] w fun e w' => e = .returned (.tuple #[.int .i64 x, .int .i64 t]) ∧ SB w0 w' (XT p m :: L) := by
  obtain ⟨F, hF, _⟩ := hS.head
  obtain ⟨A, c, hblk, hR, hc, hC, hp, hlt⟩ := ObR.open_ hF
  have h : w.cell? ⟨p, 0, none⟩ = some (.slice A m.l.length c) := (blk_cell hblk 0).trans rfl
  have hmax := Kd.C_max hC
  have HC := Aside0.mk hC
  have HS := Aside0.mk hS
  clear hS hblk hR hF hC
  obtain ⟨t', rfl⟩ := Int.eq_ofNat_of_zero_le hi.1
  obtain ⟨n, hn⟩ : ∃ n, m.l.length = n := ⟨_, rfl⟩
  have HN := Aside0.mk hn
  have hwl : IntKind.u64.wrap (n : Int) = (n : Int) := by simp [IntKind.wrap, IntKind.signed, IntKind.bits]; omega
  unfold tAt at hr
  rw [hn] at h hr hmax
  clear hn
  by_cases c1 : (n : Int) ≤ (t' : Int)
  · have d1 : decide ((n : Int) ≤ (t' : Int)) = true := decide_eq_true c1
    have d1' : decide (n ≤ t') = true := decide_eq_true (by omega)
    rw [if_pos c1] at hr
    simp only [Prod.mk.injEq] at hr
    obtain ⟨rfl, rfl⟩ := hr
    go_enter Try.func32, Try.ntmps32
    go_wp2
    go_ret2
    exact ⟨rfl, HS.out⟩
  · have d1 : decide ((n : Int) ≤ (t' : Int)) = false := decide_eq_false c1
    have d1' : decide (n ≤ t') = false := decide_eq_false (by omega)
    have htl : t' < m.l.length := by rw [HN.out]; omega
    obtain ⟨ad, rfl, hcell⟩ := row_cell HC.out htl
    have hgd : m.l.getD (t' : Int).toNat 0 = m.l[t'] := by rw [Int.toNat_natCast, List.getD_eq_getElem?_getD, List.getElem?_eq_getElem htl]; rfl
    have hge1 := hge _ (List.getElem_mem htl)
    obtain ⟨y, hy⟩ : ∃ y, m.l[t'] = y := ⟨_, rfl⟩
    rw [hy] at hcell hgd hge1
    have hwt : IntKind.i64.wrap (t' : Int) = (t' : Int) := by rw [IntKind.wrap_i64]; omega
    have hc2 : (t' : Int) < (n : Int) := by omega
    rw [if_neg c1, hgd] at hr
    clear hy hgd hge htl
    by_cases c2 : y = -1
    · have d2 : decide (y < 0) = true := decide_eq_true (by omega)
      rw [if_pos c2] at hr
      simp only [Prod.mk.injEq] at hr
      obtain ⟨rfl, rfl⟩ := hr
      clear c2 hge1
      go_enter Try.func32, Try.ntmps32
      go_wp2
      go_ret2
      exact ⟨rfl, HS.out⟩
    · have d2 : decide (y < 0) = false := decide_eq_false (by omega)
      rw [if_neg c2] at hr
      simp only [Prod.mk.injEq] at hr
      obtain ⟨rfl, rfl⟩ := hr
      clear c2 hge1
      go_enter Try.func32, Try.ntmps32
      go_wp2
      go_ret2
      exact ⟨rfl, HS.out⟩
theorem tabLimits (hS : SB w0 w (TO p m :: L)) :
    Calls Try.prog 34 #[.pointer (some ⟨p, 0, none⟩)] w fun e w' => e = .returned (.agg #[.int .i64 m.lo, .int .i64 m.hi, .bool m.has]) ∧ SB w0 w' (TO p m :: L) := by
  obtain ⟨A, c, hc, h1⟩ := SB.obOpen hS
  have hb := blk_cell h1.blk
  have s1 := pw_cell_below (below_alloc (Below.refl _ w) (.cells #[.int .i64 0, .int .i64 0, .bool false] 29)) (show w.cell? ⟨p, 1, none⟩ = some (.int .i64 m.lo) from hb 1)
  have s2 := pw_cell_below (below_alloc (Below.refl _ w) (.cells #[.int .i64 0, .int .i64 0, .bool false] 29)) (show w.cell? ⟨p, 2, none⟩ = some (.int .i64 m.hi) from hb 2)
  have s3 := pw_cell_below (below_alloc (Below.refl _ w) (.cells #[.int .i64 0, .int .i64 0, .bool false] 29)) (show w.cell? ⟨p, 3, none⟩ = some (.bool m.has) from hb 3)
  have HS := Aside0.mk hS
  clear h1 hb hS hc
  go_enter Try.func34, Try.ntmps34
  go_wp2
  refine bodyPost_ret (v := .agg #[.int .i64 m.lo, .int .i64 m.hi, .bool m.has]) (by simp [results, Try.results34, go_sem, *]) rfl ?_
  exact ⟨rfl, HS.out.alloc _⟩
end
end Go.Proofs.Ytjdnkhgpnddncaa.G
