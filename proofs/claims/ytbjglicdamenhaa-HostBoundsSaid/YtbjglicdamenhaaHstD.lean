/- Package host: New beside what is held; next. -/
import Derived.Deep.DeepMust
import Derived.Test.YtbjglicdamenhaaHstC
namespace Go.Proofs.Ytbjglicdamenhaa.G
open Go.RowKit Go.Proofs.YtbjglicdamenhaaW.PrintWords Go.Proofs.YtbjglicdamenhaaW.PrintLast Go.Proofs.YtbjglicdamenhaaW.PrintMore
set_option linter.unusedVariables false
set_option linter.unusedSimpArgs false
theorem hstNew {w0 w : World} {L : List As} (hS : SB w0 w L) (A : Option Addr) (c : Nat) (l : List S86) (hC : Kd.C k86 w A l.length l) (hc : l.length ≤ c) (hl : l.length ≤ 1000000) (hM : ∀ x ∈ l, x.f3.length ≤ 1000000) :
    Calls Try.prog 10 #[.slice A l.length c] w fun e w' => ∃ p, e = .returned (.pointer (some ⟨p, 0, none⟩)) ∧ SB w0 w' (HO p l [] :: L) :=
  (hstNew_ w A c l hC hc hl hM).mono fun e w' ⟨p, he, h⟩ => ⟨p, he, hS.join (L1 := [_]) h⟩
theorem C_nil {α : Type} {d : Kd α} {w : World} : Kd.C d w none 0 [] := ⟨rfl, by omega, fun h => absurd h (by omega)⟩
def fNext (rs : List S86) : S86 × List S86 := match rs with
  | [] => (⟨0, false, 0, [], -1, 0⟩, [])
  | x :: rs => (x, rs)
theorem low29 (A : Option Addr) (n c t : Nat) (h : t ≤ n) (hc : n ≤ c) (W : World) : (Instr.slice 29 (.slice A n c) (some (.int .i64 (t : Int))) none none).run Try.prog W = .ok (.slice (if c = t then A else A.map (·.add (t * 6))) (n - t) (c - t)) W := by
  obtain ⟨i0, hi0, _, hsz, _⟩ := info_parts info86
  have hel : Try.prog.elem 29 = 86 := by simp [Program.elem, Try.underlying29]
  have hu : Try.prog.underlying 29 = some (.slice (Try.prog.elem 29)) := by rw [hel]; exact Try.underlying29
  rw [run_slice_l W 29 A n c hu .i64 (t : Int) (by omega) (by omega), hel]
  simp [sizeOf, typeInfo, hi0, hsz, sliced, Result.andThen]
def r86 (x : S86) (v : Value) : Value := .agg #[.int .u64 x.f0, .bool x.f1, .int .i64 x.f2, v, .int .i64 x.f4, .int .u64 x.f5]
def OwN (A3 : Option Addr) (x : S86) (A : Option Addr) (z : List (List Value)) (rs : List S86) : As := OwP (fun W => Kd.C (Kd.int .u8) W A3 x.f3.length x.f3 ∧ RdZ A z rs W)
theorem SB.set6 {w0 w : World} {L : List As} {p t : Nat} {cs : Array Value} (h : SB w0 w (Box p cs t :: L)) (x0 x1 x2 x3 x4 x5 : Value) :
    SB w0 ((((((w.setCell ⟨p, 0, none⟩ x0).setCell ⟨p, 1, none⟩ x1).setCell ⟨p, 2, none⟩ x2).setCell ⟨p, 3, none⟩ x3).setCell ⟨p, 4, none⟩ x4).setCell ⟨p, 5, none⟩ x5) (Box p ((((((cs.setIfInBounds 0 x0).setIfInBounds 1 x1).setIfInBounds 2 x2).setIfInBounds 3 x3).setIfInBounds 4 x4).setIfInBounds 5 x5) t :: L) :=
  (((((h.set1 0 x0).set1 1 x1).set1 2 x2).set1 3 x3).set1 4 x4).set1 5 x5
def NextQ (w0 : World) (L : List As) (p : Nat) (rs' : List S86) (lg : List S80) (x : S86) (e : Ending) (w' : World) : Prop :=
  ∃ A3 c3 A c z vl, e = .returned (r86 x (.slice A3 x.f3.length c3)) ∧ x.f3.length ≤ c3 ∧ rs'.length ≤ c ∧ SB w0 w' (Box p #[.slice A rs'.length c, vl] 90 :: OwN A3 x A z rs' :: CLs vl lg :: L)
set_option maxHeartbeats 1000000 in
set_option maxRecDepth 100000 in
theorem hstNext {w0 w : World} {L : List As} {p : Nat} {rs rs' : List S86} {lg : List S80} {x : S86} (hS : SB w0 w (HO p rs lg :: L)) (h : fNext rs = (x, rs')) :
    Calls Try.prog 34 #[.pointer (some ⟨p, 0, none⟩)] w fun e w' => NextQ w0 L p rs' lg x e w' := by
  obtain ⟨A, c, z, vl, hc, h1⟩ := hS.hoOpen
  have hpl : p < w.heap.size := blk_lt h1.blk
  have hA := h1.box #[.int .u64 0, .bool false, .int .i64 0, .slice none 0 0, .int .i64 0, .int .u64 0] 86
  clear hS
  cases rs with
  | nil =>
    obtain ⟨rfl, rfl⟩ := Prod.mk.inj h
    have q0 : _ = some (Value.slice A 0 c) := blk_cell (hA.pick2 [1]).blk 0
    have hX := (h1.pick3 [1, 0, 2]).owpImp (q := fun W => Kd.C (Kd.int .u8) W none 0 [] ∧ RdZ A z [] W) (fun W hW => ⟨C_nil, hW⟩)
    have HF := Aside0.mk ((hX.pick3 [1, 0, 2]).box #[.int .u64 0, .bool false, .int .i64 0, .slice none 0 0, .int .i64 (-1), .int .u64 0] 86)
    clear hA h h1 hX
    go_enter Try.func34, Try.ntmps34
    go_wp2
    refine bodyPost_ret (v := r86 ⟨0, false, 0, [], -1, 0⟩ (.slice none 0 0)) (by simp [results, Try.results34, go_sem, r86, *]) rfl ?_
    exact ⟨none, 0, A, c, z, vl, rfl, Nat.le_refl _, Nat.zero_le _, HF.out.drop⟩
  | cons x1 rs1 =>
    obtain ⟨rfl, rfl⟩ := Prod.mk.inj h
    have hC := (hA.pick3 [2]).owp.C
    have hat := at_T86 hC 0 (by decide) (by simp only [List.length_cons]; omega)
    have hlen : (x1 :: rs1).length = rs1.length + 1 := rfl
    rw [hlen] at hc hA hC h1
    obtain ⟨ad, A3', c3', rfl, a0, a1, a2, a3', a4, a5, l3', g3'⟩ := hat
    have hrd : rd_T86 (x1 :: rs1) 0 = x1 := rfl
    have had : ad.add ((0 : Int).toNat * 6) = ad := by show ad.add 0 = ad; simp [Addr.add]
    rw [hrd, had] at a0 a1 a2 a4 a5
    obtain ⟨n, hn⟩ : ∃ n, rs1.length = n := ⟨_, rfl⟩
    rw [hn] at hA hC hc h1
    have q0 : _ = some (Value.slice (some ad) (n + 1) c) := blk_cell (hA.pick2 [1]).blk 0
    obtain ⟨c0, z0, rfl⟩ : ∃ c0 z0, z = c0 :: z0 := by
      have := (h1.pick2 [1]).owp.1
      cases z with
      | nil => simp at this
      | cons c0 z0 => exact ⟨c0, z0, rfl⟩
    have hcell : ∀ i u, c0[i]? = some u → (w.alloc (.cells #[.int .u64 0, .bool false, .int .i64 0, .slice none 0 0, .int .i64 0, .int .u64 0] 86)).cell? (ad.add (0 * 6 + i)) = some u := by
      obtain ⟨ad', e, hcc⟩ := (hA.pick3 [2]).owp.2.1.2.2 (by simp)
      injection e with e
      subst e
      intro i u hi
      obtain ⟨c, _, ⟨rfl, _, _⟩, q3⟩ := hcc 0 c0 rfl
      exact q3 i u hi
    obtain ⟨A3, c3, hc0, l3, g3⟩ := k86_open ((h1.pick2 [1]).owp.2.2 0 x1 c0 rfl rfl)
    have a3 : (w.alloc (.cells #[.int .u64 0, .bool false, .int .i64 0, .slice none 0 0, .int .i64 0, .int .u64 0] 86)).cell? ⟨ad.block, ad.off + 3, none⟩ = some (.slice A3 x1.f3.length c3) := by
      have h := hcell 3 (.slice A3 x1.f3.length c3) (by rw [hc0]; rfl)
      rw [← had, ← add_field _ _ 3 (by omega)]
      exact h
    have hcut : ∀ W, (Instr.slice 29 (.slice (some ad) (n + 1) c) (some (.int .i64 1)) none none).run Try.prog W = _ := low29 (some ad) (n + 1) c 1 (by omega) hc
    have e0 : (((n : Int) + 1) == 0) = false := beq_eq_false_iff_ne.2 (by omega)
    have h3 := hA.box #[.int .u64 x1.f0, .bool x1.f1, .int .i64 x1.f2, .slice A3 x1.f3.length c3, .int .i64 x1.f4, .int .u64 x1.f5] 86
    have p0 : _ = some (Value.slice (some ad) (n + 1) c) := blk_cell ((h3.pick3 [2]).blk) 0
    have p1 := blk_frozen ((h3.pick3 [2]).blk) 0
    obtain ⟨A', hA'⟩ : ∃ A', (if c = 1 then some ad else (some ad).map (·.add (1 * 6))) = A' := ⟨_, rfl⟩
    rw [hA'] at hcut
    have hn1 : n + 1 - 1 = n := by omega
    rw [hn1] at hcut
    have hw : SB w0 _ (Box p #[.slice A' n (c - 1), vl] 90 :: OwN A3 x1 A' z0 rs1 :: CLs vl lg :: L) := (((h1.pick3 [1, 0, 2]).owpImp (q := fun W => Kd.C (Kd.int .u8) W A3 x1.f3.length x1.f3 ∧ RdZ A' z0 rs1 W) (fun W hW => ⟨by
        obtain ⟨A4, c4, e4, _, g4⟩ := k86_open (hW.2.2 0 x1 c0 rfl rfl)
        rw [hc0] at e4
        injection e4 with _ e4
        injection e4 with _ e4
        injection e4 with _ e4
        injection e4 with e4 _
        injection e4 with e4
        rw [e4]
        exact g4, by
        by_cases h1c : c = 1
        · have hn0 : n = 0 := by omega
          have h0 : rs1 = [] := List.length_eq_zero_iff.1 (by omega)
          subst h0
          have hz0 : z0 = [] := List.length_eq_zero_iff.1 (by have := hW.1; simpa using this)
          subst hz0
          exact RdZ.nil
        · rw [if_neg h1c] at hA'
          rw [← hA']
          exact hW.tail⟩)).pick3 [1, 0, 2]).set1 0 (.slice A' n (c - 1))
    have HF := Aside0.mk ((hw.box #[.int .u64 x1.f0, .bool x1.f1, .int .i64 x1.f2, .slice A3 x1.f3.length c3, .int .i64 x1.f4, .int .u64 x1.f5] 86).box #[.int .u64 x1.f0, .bool x1.f1, .int .i64 x1.f2, .slice A3 x1.f3.length c3, .int .i64 x1.f4, .int .u64 x1.f5] 86)
    have HN := Aside0.mk hn
    have hL3 := Aside0.mk l3
    clear a3' hA h3 h hA' g3' l3' l3 g3 hC h1 hn hrd hlen had hn1 hw hcell hc0
    go_enter Try.func34, Try.ntmps34
    go_wp2
    refine bodyPost_ret (v := r86 x1 (.slice A3 x1.f3.length c3)) (by simp [results, Try.results34, go_sem, r86, *]) rfl ?_
    have hf := HF.out.drop.drop
    obtain rfl := HN.out
    exact ⟨A3, c3, A', c - 1, z0, vl, rfl, hL3.out, by omega, hf⟩
end Go.Proofs.Ytbjglicdamenhaa.G
