/- The document's memory: Grow, New, Limits. -/
import Derived.Test.YtffoolhfjomhhaaDoorRefC
import Derived.Test.YtffoolhfjomhhaaDoorZer
namespace Go.Proofs.YtffoolhfjomhhaaDoor.G
open Go.RowKit Go.Proofs.YtffoolhfjomhhaaDoorW.PrintWords Go.Proofs.YtffoolhfjomhhaaDoorW.PrintLast Go.Proofs.YtffoolhfjomhhaaDoorW.PrintMore
set_option linter.unusedVariables false
set_option linter.unusedSimpArgs false
theorem SB.set1_ {w0 w : World} {L : List As} {p t : Nat} {cs : Array Value} (h : SB w0 w (Box p cs t :: L)) (i : Nat) (v : Value) : SB w0 (w.setCell ⟨p, i, none⟩ v) (Box p (cs.setIfInBounds i v) t :: L) := by
  obtain ⟨F, hF, hge, K⟩ := h.frame
  have hp : F p := (hF.2 p).2 rfl
  exact K _ (Box p (cs.setIfInBounds i v) t) F ⟨blk_set hF.1 i v, hF.2⟩ ((Fr.refl w F).setCell (p := ⟨p, i, none⟩) (.inl hp) v) (fun k hk => .inl hk)
theorem RO.new {w0 w W : World} {L : List As} (hS : SB w0 w L) (hb : Below w.heap.size w W) (p g n : Nat) (lo hi : Int) (has : Bool) (hp : W.heap[p]? = some (.cells #[.slice (some ⟨g, 0, none⟩) n n, .int .i64 lo, .int .i64 hi, .bool has] 60 (0, 0)))
    (hg : W.heap[g]? = some (.cells (madeCells #[.int .u8 0] n) 5 (0, 0))) (h1 : w.heap.size ≤ p) (h2 : w.heap.size ≤ g) (hn : n ≤ 281474976710656) : SB w0 W (RO p ⟨List.replicate n 0, lo, hi, has⟩ :: L) := by
  have hne : g ≠ p := fun e => by subst e; rw [hp] at hg; injection hg with hg; injection hg with _ hg; exact absurd hg (by decide)
  refine hS.new hb (A := RO p ⟨List.replicate n 0, lo, hi, has⟩) (F' := fun k => k = p ∨ k = g) ⟨_, hp, made_R hg (Nat.zero_le _) hn ⟨.inr rfl, hne⟩, .inl rfl, ?_⟩ ?_
  · rintro k (rfl | rfl)
    · exact blk_lt hp
    · exact blk_lt hg
  · rintro k (rfl | rfl)
    · exact h1
    · exact h2
theorem below3 (w : World) (a b c : Obj) : Below w.heap.size w (((w.alloc a).alloc b).alloc c) := below_alloc (below_alloc (below_alloc (Below.refl _ _) _) _) _
theorem heap32 (w : World) (a b c : Obj) : (((w.alloc a).alloc b).alloc c).heap[w.heap.size + 1 + 1]? = some c := by
  have := heap_alloc_new ((w.alloc a).alloc b) c
  simpa using this
theorem heap31 (w : World) (a b c : Obj) : (((w.alloc a).alloc b).alloc c).heap[w.heap.size + 1]? = some b := by
  rw [Below.heap_alloc _ _ _ (by simp)]
  have := heap_alloc_new (w.alloc a) b
  simpa using this
set_option maxHeartbeats 4000000 in
theorem refNewOk {w0 w : World} {L : List As} (hS : SB w0 w L) (lo : Nat) (hi : Int) (has : Bool) (h : mBad lo hi has = 0) :
    Calls Tryd.prog 23 #[.agg #[.int .i64 lo, .int .i64 hi, .bool has]] w fun e w' => ∃ p, e = .returned (.tuple #[.pointer (some ⟨p, 0, none⟩), .int .i64 0]) ∧ SB w0 w' (RO p ⟨List.replicate (65536 * lo) 0, lo, hi, has⟩ :: L) := by
  have hlo : (lo : Int) ≤ 4 := by
    unfold mBad at h
    split at h
    · cases h
    · split at h
      · cases h
      · omega
  have hbad : ¬ ((lo : Int) < 0 ∨ (has = true ∧ (hi < lo ∨ 65536 < hi)) ∨ (has = false ∧ hi ≠ 0)) := by
    intro hh
    unfold mBad at h
    rw [if_pos hh] at h
    cases h
  have d0 : decide ((lo : Int) < 0) = false := decide_eq_false (by omega)
  have d4 : decide (4 < (lo : Int)) = false := decide_eq_false (by omega)
  have HS := Aside0.mk hS
  clear hS
  cases has with
  | false =>
    have h0 : hi = 0 := by
      by_cases e : hi = 0
      · exact e
      · exact absurd (.inr (.inr ⟨rfl, e⟩)) hbad
    subst h0
    obtain ⟨n, hn⟩ : ∃ n, n = 65536 * lo := ⟨_, rfl⟩
    have hw64 : IntKind.i64.wrap (65536 * (lo : Int)) = (n : Int) := by rw [IntKind.wrap_i64]; omega
    have hmk := make_run n (by omega)
    have HN := Aside0.mk hn
    have HL := Aside0.mk (show n ≤ 281474976710656 by omega)
    clear hn
    go_enter Tryd.func23, Tryd.ntmps23
    go_wp2
    go_region_held3 (fun w' => w'.cell? ⟨w.heap.size, 0, none⟩ = some (.int .i64 lo) ∧ w'.cell? ⟨w.heap.size, 1, none⟩ = some (.int .i64 0) ∧ w'.cell? ⟨w.heap.size, 2, none⟩ = some (.bool false)) (go_keep) (fail)
    go_wp2
    go_ret2
    rw [← HN.out]
    exact ⟨_, rfl, (RO.new HS.out (below3 _ _ _ _) _ (w.heap.size + 1) n _ _ _ (heap32 _ _ _ _) (heap31 _ _ _ _) (by omega) (by omega) HL.out).drew⟩
  | true =>
    have d1 : decide (hi < (lo : Int)) = false := decide_eq_false (fun e => hbad (.inr (.inl ⟨rfl, .inl e⟩)))
    have d2 : decide (65536 < hi) = false := decide_eq_false (fun e => hbad (.inr (.inl ⟨rfl, .inr e⟩)))
    obtain ⟨n, hn⟩ : ∃ n, n = 65536 * lo := ⟨_, rfl⟩
    have hw64 : IntKind.i64.wrap (65536 * (lo : Int)) = (n : Int) := by rw [IntKind.wrap_i64]; omega
    have hmk := make_run n (by omega)
    have HN := Aside0.mk hn
    have HL := Aside0.mk (show n ≤ 281474976710656 by omega)
    clear hn
    go_enter Tryd.func23, Tryd.ntmps23
    go_wp2
    go_region_held3 (fun w' => w'.cell? ⟨w.heap.size, 0, none⟩ = some (.int .i64 lo) ∧ w'.cell? ⟨w.heap.size, 1, none⟩ = some (.int .i64 hi) ∧ w'.cell? ⟨w.heap.size, 2, none⟩ = some (.bool true)) (go_keep) (fail)
    go_wp2
    go_ret2
    rw [← HN.out]
    exact ⟨_, rfl, (RO.new HS.out (below3 _ _ _ _) _ (w.heap.size + 1) n _ _ _ (heap32 _ _ _ _) (heap31 _ _ _ _) (by omega) (by omega) HL.out).drew⟩
theorem refNewNo (lo hi : Int) (has : Bool) (w : World) (hlo : -9223372036854775808 ≤ lo ∧ lo < 9223372036854775808) (hhi : -9223372036854775808 ≤ hi ∧ hi < 9223372036854775808) (h : mBad lo hi has ≠ 0) :
    Calls Tryd.prog 23 #[.agg #[.int .i64 lo, .int .i64 hi, .bool has]] w fun e w' => e = .returned (.tuple #[.pointer none, .int .i64 (mBad lo hi has)]) ∧ Below w.heap.size w w' := by
  by_cases c0 : lo < 0
  · have d0 : decide (lo < 0) = true := decide_eq_true c0
    have hr : mBad lo hi has = 1 := if_pos (.inl c0)
    rw [hr]
    go_enter Tryd.func23, Tryd.ntmps23
    go_wp2
    go_ret2
    exact ⟨rfl, by repeat (first | exact Below.refl _ _ | apply below_alloc)⟩
  · have d0 : decide (lo < 0) = false := decide_eq_false c0
    cases has with
    | true =>
      by_cases c1 : hi < lo
      · have d1 : decide (hi < lo) = true := decide_eq_true c1
        have hr : mBad lo hi true = 1 := if_pos (.inr (.inl ⟨rfl, .inl c1⟩))
        rw [hr]
        go_enter Tryd.func23, Tryd.ntmps23
        go_wp2
        go_ret2
        exact ⟨rfl, by repeat (first | exact Below.refl _ _ | apply below_alloc)⟩
      · have d1 : decide (hi < lo) = false := decide_eq_false c1
        by_cases c2 : 65536 < hi
        · have d2 : decide (65536 < hi) = true := decide_eq_true c2
          have hr : mBad lo hi true = 1 := if_pos (.inr (.inl ⟨rfl, .inr c2⟩))
          rw [hr]
          go_enter Tryd.func23, Tryd.ntmps23
          go_wp2
          go_ret2
          exact ⟨rfl, by repeat (first | exact Below.refl _ _ | apply below_alloc)⟩
        · have d2 : decide (65536 < hi) = false := decide_eq_false c2
          have hno : ¬ (lo < 0 ∨ (true = true ∧ (hi < lo ∨ 65536 < hi)) ∨ (true = false ∧ hi ≠ 0)) := by
            rintro (h | ⟨_, h | h⟩ | ⟨h, _⟩)
            · exact c0 h
            · exact c1 h
            · exact c2 h
            · cases h
          have hr0 : mBad lo hi true = if 4 < lo then 4 else 0 := if_neg hno
          by_cases c3 : 4 < lo
          · have d3 : decide (4 < lo) = true := decide_eq_true c3
            have hr : mBad lo hi true = 4 := hr0.trans (if_pos c3)
            rw [hr]
            go_enter Tryd.func23, Tryd.ntmps23
            go_wp2
            go_ret2
            exact ⟨rfl, by repeat (first | exact Below.refl _ _ | apply below_alloc)⟩
          · exact absurd (hr0.trans (if_neg c3)) h
    | false =>
      by_cases c2 : hi = 0
      · subst c2
        have hno : ¬ (lo < 0 ∨ (false = true ∧ ((0 : Int) < lo ∨ 65536 < (0 : Int))) ∨ (false = false ∧ (0 : Int) ≠ 0)) := by
          rintro (h | ⟨h, _⟩ | ⟨_, h⟩)
          · exact c0 h
          · cases h
          · exact h rfl
        have hr0 : mBad lo 0 false = if 4 < lo then 4 else 0 := if_neg hno
        by_cases c3 : 4 < lo
        · have d3 : decide (4 < lo) = true := decide_eq_true c3
          have hr : mBad lo 0 false = 4 := hr0.trans (if_pos c3)
          rw [hr]
          go_enter Tryd.func23, Tryd.ntmps23
          go_wp2
          go_ret2
          exact ⟨rfl, by repeat (first | exact Below.refl _ _ | apply below_alloc)⟩
        · exact absurd (hr0.trans (if_neg c3)) h
      · have d2 : (hi == 0) = false := beq_eq_false_iff_ne.2 c2
        have d3 : (hi != 0) = true := bne_iff_ne.2 c2
        have hr : mBad lo hi false = 1 := if_pos (.inr (.inr ⟨rfl, c2⟩))
        rw [hr]
        go_enter Tryd.func23, Tryd.ntmps23
        go_wp2
        go_ret2
        exact ⟨rfl, by repeat (first | exact Below.refl _ _ | apply below_alloc)⟩

set_option maxHeartbeats 4000000 in
theorem refGrow {w0 w : World} {L : List As} {p : Nat} {m : Mem} {pg : Nat} (hS : SB w0 w (RO p m :: L)) (hP : Paged m pg) (n : Int) (hn : -9223372036854775808 ≤ n ∧ n < 9223372036854775808) :
    Calls Tryd.prog 35 #[.pointer (some ⟨p, 0, none⟩), .int .i64 n] w fun e w' => e = .returned (.int .i64 (if (mGrow m pg n).isSome then (pg : Int) else -1)) ∧ SB w0 w' (RO p { m with b := (mGrow m pg n).getD m.b } :: L) := by
  obtain ⟨A, c, hc, h1⟩ := SB.obOpen hS
  have hblk := h1.blk
  have h : w.cell? ⟨p, 0, none⟩ = some (.slice A m.b.length c) := blk_cell hblk 0
  have hhi : w.cell? ⟨p, 2, none⟩ = some (.int .i64 m.hi) := blk_cell hblk 2
  have hhas : w.cell? ⟨p, 3, none⟩ = some (.bool m.has) := blk_cell hblk 3
  have hlen := hP.len
  have hmost := mMost_le hP
  have hpg4 := hP.le4
  have hi0 := hP.hi0
  have hdiv : (m.b.length : Int) / 65536 = (pg : Int) := by rw [hlen]; omega
  have HLEN := Aside0.mk hlen
  have HS := Aside0.mk hS
  have HS1 := Aside0.mk h1.swap
  have hno : ¬ (0 ≤ n ∧ n ≤ mMost m.hi m.has - pg) → mGrow m pg n = none := fun hh => if_neg hh
  have hyes : (0 ≤ n ∧ n ≤ mMost m.hi m.has - pg) → mGrow m pg n = some (m.b ++ List.replicate (65536 * n.toNat) 0) := fun hh => if_pos hh
  have hm4 : mMost m.hi m.has ≤ 4 := hmost.2
  have hmh : m.has = true → mMost m.hi m.has ≤ m.hi ∧ (mMost m.hi m.has = m.hi ∨ mMost m.hi m.has = 4) := fun hh => by unfold mMost; rw [if_pos hh]; split <;> omega
  have hmf : m.has = false → mMost m.hi m.has = 4 := fun hh => by unfold mMost; rw [hh]; rfl
  have hP4 : 65536 * pg ≤ 262144 := by omega
  clear hS h1 hblk hlen hP
  obtain ⟨rG, hrG⟩ : ∃ r, mGrow m pg n = r := ⟨_, rfl⟩
  rw [hrG] at hno hyes ⊢
  obtain ⟨q, hq⟩ : ∃ q, m.b.length = q := ⟨_, rfl⟩
  rw [hq] at h hdiv hc
  have hq4 : q ≤ 262144 := by rw [← hq, HLEN.out]; exact hP4
  have HQ := Aside0.mk hq
  have hw1 : IntKind.i64.wrap (4 - (pg : Int)) = 4 - (pg : Int) := by rw [IntKind.wrap_i64]; omega
  clear hq hrG
  have arm25 : ∀ W nd, W = w.drewN nd → Calls Tryd.prog 25 #[.pointer (some ⟨p, 0, none⟩)] w fun e w' => e = .returned (.int .i64 (pg : Int)) ∧ Drawn0 w w' := fun W nd hW => by
    have := refPages p A q c w (by omega) h
    rw [hdiv] at this
    exact this
  by_cases c0 : n < 0
  · have d0 : decide (n < 0) = true := decide_eq_true c0
    obtain rfl := hno (by omega)
    clear hno hyes hmh hmf hi0
    go_enter Tryd.func35, Tryd.ntmps35
    go_wp2_with (go_at_call 25; (with_reducible refine (arm25 _ 0 rfl).mono ?_); rintro e w1 ⟨rfl, ⟨nd, rfl⟩⟩)
    go_ret
    exact ⟨rfl, HS.out.drewN _⟩
  have d0 : decide (n < 0) = false := decide_eq_false c0
  by_cases c1 : 4 - (pg : Int) < n
  · have d1 : decide (4 - (pg : Int) < n) = true := decide_eq_true c1
    obtain rfl := hno (by omega)
    clear hno hyes hmh hmf hi0
    go_enter Tryd.func35, Tryd.ntmps35
    go_wp2_with (go_at_call 25; (with_reducible refine (arm25 _ 0 rfl).mono ?_); rintro e w1 ⟨rfl, ⟨nd, rfl⟩⟩)
    go_ret
    exact ⟨rfl, HS.out.drewN _⟩
  have d1 : decide (4 - (pg : Int) < n) = false := decide_eq_false c1
  have main : (0 ≤ n ∧ n ≤ mMost m.hi m.has - pg) → (m.has = true → decide (m.hi - (pg : Int) < n) = false ∧ IntKind.i64.wrap (m.hi - (pg : Int)) = m.hi - (pg : Int)) → Calls Tryd.prog 35 #[.pointer (some ⟨p, 0, none⟩), .int .i64 n] w fun e w' => e = .returned (.int .i64 (if rG.isSome then (pg : Int) else -1)) ∧ SB w0 w' (RO p { m with b := rG.getD m.b } :: L) := by
    intro hy hh
    obtain rfl := hyes hy
    obtain ⟨k, rfl⟩ := Int.eq_ofNat_of_zero_le hy.1
    rw [Int.toNat_natCast]
    obtain ⟨z, hz⟩ : ∃ z, 65536 * k = z := ⟨_, rfl⟩
    have hw2 : IntKind.i64.wrap (65536 * (k : Int)) = (z : Int) := by rw [IntKind.wrap_i64]; omega
    have hz4 : z ≤ 262144 := by omega
    rw [hz]
    clear hno hyes hmh hmf hi0 hz hy
    obtain ⟨b, lo, hi, has⟩ := m
    dsimp only at h hhi hhas hh
    cases has with
    | true =>
      obtain ⟨d2, hw3⟩ := hh rfl
      clear hh
      go_enter Tryd.func35, Tryd.ntmps35
      go_wp2_with (first
        | (go_at_call 25; (with_reducible refine (arm25 _ 0 rfl).mono ?_); rintro e w1 ⟨rfl, ⟨nd, rfl⟩⟩; have HS2 := Aside0.mk (HS1.out.drewN nd))
        | ((with_reducible refine gate_builtin (b := .append) (xs := #[.tmp 38, .tmp 40]) rfl ?_); refine SB.appZeros (xs := b) HS2.out rfl (.tmp 38) (.tmp 40) 39 3 1 .i64 .i64 rfl Tryd.underlying39 Tryd.underlying3 (show (Tryd.prog.info? 5).map (fun i => (i.zero, i.size, i.bytes)) = some (some (.int .u8 0), 1, 1) from by kernel_rfl) (by decide) z (by rw [← HQ.out]; rfl) rfl (by have hh_ : b.length = q := HQ.out; omega) ?_; intro v9 w9 hs9; obtain ⟨A9, c9, rfl, _, _⟩ := hs9.reads; have hb9 := hs9.swap.blk; have u0 := blk_cell hb9 0; have u1 := blk_frozen hb9 0; have HS9 := Aside0.mk hs9.swap; clear hs9 hb9))
      go_ret
      have hs9' := HS9.out
      rw [List.length_append, List.length_replicate] at hs9'
      have hs9' := hs9'.set1_ 0 (.slice A9 (b.length + z) c9)
      exact ⟨rfl, SB.obClose (rs := [.int .i64 lo, .int .i64 hi, .bool true]) hs9'⟩
    | false =>
      clear hh
      go_enter Tryd.func35, Tryd.ntmps35
      go_wp2_with (first
        | (go_at_call 25; (with_reducible refine (arm25 _ 0 rfl).mono ?_); rintro e w1 ⟨rfl, ⟨nd, rfl⟩⟩; have HS2 := Aside0.mk (HS1.out.drewN nd))
        | ((with_reducible refine gate_builtin (b := .append) (xs := #[.tmp 38, .tmp 40]) rfl ?_); refine SB.appZeros (xs := b) HS2.out rfl (.tmp 38) (.tmp 40) 39 3 1 .i64 .i64 rfl Tryd.underlying39 Tryd.underlying3 (show (Tryd.prog.info? 5).map (fun i => (i.zero, i.size, i.bytes)) = some (some (.int .u8 0), 1, 1) from by kernel_rfl) (by decide) z (by rw [← HQ.out]; rfl) rfl (by have hh_ : b.length = q := HQ.out; omega) ?_; intro v9 w9 hs9; obtain ⟨A9, c9, rfl, _, _⟩ := hs9.reads; have hb9 := hs9.swap.blk; have u0 := blk_cell hb9 0; have u1 := blk_frozen hb9 0; have HS9 := Aside0.mk hs9.swap; clear hs9 hb9))
      go_ret
      have hs9' := HS9.out
      rw [List.length_append, List.length_replicate] at hs9'
      have hs9' := hs9'.set1_ 0 (.slice A9 (b.length + z) c9)
      exact ⟨rfl, SB.obClose (rs := [.int .i64 lo, .int .i64 hi, .bool false]) hs9'⟩
  by_cases hhb : m.has = true
  case neg =>
    have := hmf (by cases hh : m.has; rfl; exact absurd hh hhb)
    exact main (by omega) (fun hx => absurd hx hhb)
  case pos =>
    obtain ⟨t1, t2⟩ := hmh hhb
    have t3 := hi0 hhb
    have hw3 : IntKind.i64.wrap (m.hi - (pg : Int)) = m.hi - (pg : Int) := by rw [IntKind.wrap_i64]; omega
    by_cases c2 : m.hi - (pg : Int) < n
    · have d2 : decide (m.hi - (pg : Int) < n) = true := decide_eq_true c2
      obtain rfl := hno (by omega)
      rw [hhb] at hhas
      clear hno hyes hmh hmf hi0 main t1 t2 hhb
      go_enter Tryd.func35, Tryd.ntmps35
      go_wp2_with (go_at_call 25; (with_reducible refine (arm25 _ 0 rfl).mono ?_); rintro e w1 ⟨rfl, ⟨nd, rfl⟩⟩)
      go_ret
      exact ⟨rfl, HS.out.drewN _⟩
    · exact main (by omega) (fun _ => ⟨decide_eq_false c2, hw3⟩)
theorem RO.rest {w0 w : World} {L : List As} {p : Nat} {m : Mem} (hS : SB w0 w (RO p m :: L)) : w.cell? ⟨p, 2, none⟩ = some (.int .i64 m.hi) ∧ w.cell? ⟨p, 3, none⟩ = some (.bool m.has) := by
  obtain ⟨A, c, hc, h1⟩ := SB.obOpen hS
  exact ⟨blk_cell h1.blk 2, blk_cell h1.blk 3⟩
set_option maxHeartbeats 4000000 in
theorem refLimits {w0 w : World} {L : List As} {p : Nat} {m : Mem} {pg : Nat} (hS : SB w0 w (RO p m :: L)) (hP : Paged m pg) :
    Calls Tryd.prog 27 #[.pointer (some ⟨p, 0, none⟩)] w fun e w' => e = .returned (.agg #[.int .i64 pg, .int .i64 m.hi, .bool m.has]) ∧ SB w0 w' (RO p m :: L) := by
  have hdiv : (m.b.length : Int) / 65536 = (pg : Int) := by rw [hP.len]; omega
  have hl : (m.b.length : Int) ≤ 9223372036854775807 := by rw [hP.len]; have := hP.le4; omega
  have bx := hS.box #[.int .i64 0, .int .i64 0, .bool false] 29
  obtain ⟨b, hbe, hbx⟩ : ∃ b, w.heap.size = b ∧ SB w0 (w.alloc (.cells #[.int .i64 0, .int .i64 0, .bool false] 29)) (Box b #[.int .i64 0, .int .i64 0, .bool false] 29 :: RO p m :: L) := ⟨_, rfl, bx⟩
  have hdr := hbx.drew
  have HDR := Aside0.mk hdr
  have HRE := Aside0.mk (RO.rest (hdr.pick2 [1]))
  have HD := Aside0.mk hdiv
  clear hS hbx bx hdiv hP hdr
  go_enter Tryd.func27, Tryd.ntmps27
  go_wp2
  refine rg_startL (n := 14) (S := fun w' => w'.cell? ⟨p, 2, none⟩ = some (.int .i64 m.hi) ∧ w'.cell? ⟨p, 3, none⟩ = some (.bool m.has)) (bm 14 0) (by kernel_rfl) rfl (by kernel_rfl) (HRE.out) (fun wd hwd hHeld => ?_)
  refine rg_take (i := 0) (N := some 3) (v := ?_) (a' := ?_) (bm 14 1) rfl rfl (by kernel_rfl) (fun _ _ _ h => h) hHeld (Or.inl ⟨by rfl, ?_⟩) ?_ ?_
  rotate_left
  · intro w' hw'
    have s2 := hw'.1
    have s3 := hw'.2
    go_simp
    with_reducible rfl
  rotate_left
  · simp only [Act.put, List.setIfInBounds_toArray, List.set_cons_zero, List.set_cons_succ]
    rfl
  refine rg_take (i := 2) (N := some 5) (v := ?_) (a' := ?_) (bm 14 5) rfl rfl (by kernel_rfl) (fun _ _ _ h => h) hHeld (Or.inl ⟨by rfl, ?_⟩) ?_ ?_
  rotate_left
  · intro w' hw'
    have s2 := hw'.1
    have s3 := hw'.2
    go_simp
    with_reducible rfl
  rotate_left
  · simp only [Act.put, List.setIfInBounds_toArray, List.set_cons_zero, List.set_cons_succ]
    rfl
  refine rg_take (i := 3) (N := some 6) (v := ?_) (a' := ?_) (bm 14 13) rfl rfl (by kernel_rfl) (fun _ _ _ h => h) hHeld (Or.inl ⟨by rfl, ?_⟩) ?_ ?_
  rotate_left
  · intro w' hw'
    have s2 := hw'.1
    have s3 := hw'.2
    go_simp
    with_reducible rfl
  rotate_left
  · simp only [Act.put, List.setIfInBounds_toArray, List.set_cons_zero, List.set_cons_succ]
    rfl
  refine rg_take (i := 4) (N := some 7) (v := ?_) (a' := ?_) (bm 14 29) rfl rfl (by kernel_rfl) (fun _ _ _ h => h) hHeld (Or.inl ⟨by rfl, ?_⟩) ?_ ?_
  rotate_left
  · intro w' hw'
    have s2 := hw'.1
    have s3 := hw'.2
    go_simp
    with_reducible rfl
  rotate_left
  · simp only [Act.put, List.setIfInBounds_toArray, List.set_cons_zero, List.set_cons_succ]
    rfl
  refine rg_take (i := 5) (N := some 8) (v := ?_) (a' := ?_) (bm 14 61) rfl rfl (by kernel_rfl) (fun _ _ _ h => h) hHeld (Or.inl ⟨by rfl, ?_⟩) ?_ ?_
  rotate_left
  · intro w' hw'
    have s2 := hw'.1
    have s3 := hw'.2
    go_simp
    with_reducible rfl
  rotate_left
  · simp only [Act.put, List.setIfInBounds_toArray, List.set_cons_zero, List.set_cons_succ]
    rfl
  refine rg_take (i := 6) (N := some 9) (v := ?_) (a' := ?_) (bm 14 125) rfl rfl (by kernel_rfl) (fun _ _ _ h => h) hHeld (Or.inl ⟨by rfl, ?_⟩) ?_ ?_
  rotate_left
  · intro w' hw'
    have s2 := hw'.1
    have s3 := hw'.2
    go_simp
    with_reducible rfl
  rotate_left
  · simp only [Act.put, List.setIfInBounds_toArray, List.set_cons_zero, List.set_cons_succ]
    rfl
  refine rg_take (i := 7) (N := some 10) (v := ?_) (a' := ?_) (bm 14 253) rfl rfl (by kernel_rfl) (fun _ _ _ h => h) hHeld (Or.inl ⟨by rfl, ?_⟩) ?_ ?_
  rotate_left
  · intro w' hw'
    have s2 := hw'.1
    have s3 := hw'.2
    go_simp
    with_reducible rfl
  rotate_left
  · simp only [Act.put, List.setIfInBounds_toArray, List.set_cons_zero, List.set_cons_succ]
    rfl
  refine rg_take (i := 8) (N := some 11) (v := ?_) (a' := ?_) (bm 14 509) rfl rfl (by kernel_rfl) (fun _ _ _ h => h) hHeld (Or.inl ⟨by rfl, ?_⟩) ?_ ?_
  rotate_left
  · intro w' hw'
    have s2 := hw'.1
    have s3 := hw'.2
    go_simp
    with_reducible rfl
  rotate_left
  · simp only [Act.put, List.setIfInBounds_toArray, List.set_cons_zero, List.set_cons_succ]
    rfl
  refine rg_take (i := 9) (N := some 12) (v := ?_) (a' := ?_) (bm 14 1021) rfl rfl (by kernel_rfl) (fun _ _ _ h => h) hHeld (Or.inl ⟨by rfl, ?_⟩) ?_ ?_
  rotate_left
  · intro w' hw'
    have s2 := hw'.1
    have s3 := hw'.2
    go_simp
    with_reducible rfl
  rotate_left
  · simp only [Act.put, List.setIfInBounds_toArray, List.set_cons_zero, List.set_cons_succ]
    rfl
  refine rg_take (i := 10) (N := some 13) (v := ?_) (a' := ?_) (bm 14 2045) rfl rfl (by kernel_rfl) (fun _ _ _ h => h) hHeld (Or.inl ⟨by rfl, ?_⟩) ?_ ?_
  rotate_left
  · intro w' hw'
    have s2 := hw'.1
    have s3 := hw'.2
    go_simp
    with_reducible rfl
  rotate_left
  · simp only [Act.put, List.setIfInBounds_toArray, List.set_cons_zero, List.set_cons_succ]
    rfl
  refine rg_take (i := 11) (N := some 14) (v := ?_) (a' := ?_) (bm 14 4093) rfl rfl (by kernel_rfl) (fun _ _ _ h => h) hHeld (Or.inl ⟨by rfl, ?_⟩) ?_ ?_
  rotate_left
  · intro w' hw'
    have s2 := hw'.1
    have s3 := hw'.2
    go_simp
    with_reducible rfl
  rotate_left
  · simp only [Act.put, List.setIfInBounds_toArray, List.set_cons_zero, List.set_cons_succ]
    rfl
  refine rg_ready [1] (by kernel_rfl) (by simp) ?_
  refine rg_one (i := 1) (N := some 4) (bm 14 4095) rfl rfl (by kernel_rfl) (fun K hK => ?_) rg_nil
  have HE := Aside0.mk (hwd.out ▸ HDR.out)
  obtain ⟨A5, c5, hc5, h5⟩ := SB.obOpen (HE.out.pick2 [1])
  have s0 := blk_cell h5.blk 0
  clear h5
  go_simp
  go_at_call 25
  with_reducible refine (refPages p A5 _ c5 _ hl s0).mono ?_
  rintro e wx1r1 ⟨rfl, hd⟩
  rw [HD.out]
  have HE1 := Aside0.mk (show SB w0 wx1r1 _ from by obtain ⟨nd, rfl⟩ := hd; exact HE.out.drewN nd)
  have hnew := RO.rest (HE1.out.pick2 [1])
  clear hd s0
  go_wp2_with fail
  refine hK.out _ _ hnew ?_
  clear hK K
  refine rg_norm (a' := ?_) ?_ ?_
  rotate_left
  · simp only [Act.put, List.setIfInBounds_toArray, List.set_cons_zero, List.set_cons_succ]
    rfl
  clear hHeld
  have hHeld := hnew
  clear hnew
  refine rg_take (i := 12) (N := some 15) (v := ?_) (a' := ?_) (bm 14 8191) rfl rfl (by kernel_rfl) (fun _ _ _ h => h) hHeld (Or.inl ⟨by rfl, ?_⟩) ?_ ?_
  rotate_left
  · intro w' hw'
    have s2 := hw'.1
    have s3 := hw'.2
    go_simp
    with_reducible rfl
  rotate_left
  · simp only [Act.put, List.setIfInBounds_toArray, List.set_cons_zero, List.set_cons_succ]
    rfl
  refine rg_ready [13] (by kernel_rfl) (by simp) ?_
  refine rg_one (i := 13) (N := none) (bm 14 16383) rfl rfl (by kernel_rfl) (fun K hK => ?_) rg_nil
  have hb1 := HE1.out.blk
  have t0 := blk_cell hb1 0
  have t1 := blk_cell hb1 1
  have t2 := blk_cell hb1 2
  have u0 := blk_frozen hb1 0
  have u1 := blk_frozen hb1 1
  have u2 := blk_frozen hb1 2
  have HE2 := Aside0.mk ((((HE1.out.set1_ 0 (.int .i64 pg)).set1_ 1 (.int .i64 m.hi)).set1_ 2 (.bool m.has)))
  have hnew := RO.rest (HE2.out.pick2 [1])
  go_simp
  refine hK.out undef _ hnew ?_
  clear hK K
  refine rg_norm (a' := ?_) ?_ ?_
  rotate_left
  · simp only [Act.put, List.setIfInBounds_toArray, List.set_cons_zero, List.set_cons_succ]
    rfl
  clear hHeld
  have hHeld := hnew
  clear hnew
  refine rg_done (by kernel_rfl) ?_
  go_wp2
  have hb2 := HE2.out.blk
  have q0 := blk_cell hb2 0
  have q1 := blk_cell hb2 1
  have q2 := blk_cell hb2 2
  refine bodyPost_ret (v := .agg #[.int .i64 pg, .int .i64 m.hi, .bool m.has]) (by simp [results, Tryd.results27, go_sem, *]) rfl ?_
  exact ⟨rfl, HE2.out.drop⟩
end Go.Proofs.YtffoolhfjomhhaaDoor.G
