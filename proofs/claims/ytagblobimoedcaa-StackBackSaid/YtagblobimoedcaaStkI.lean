/- Package stack: Close. -/
import Derived.Test.YtagblobimoedcaaStkH
namespace Go.Proofs.Ytagblobimoedcaa.G
open Go.RowKit Go.Proofs.YtagblobimoedcaaW.PrintWords Go.Proofs.YtagblobimoedcaaW.PrintLast Go.Proofs.YtagblobimoedcaaW.PrintMore
set_option linter.unusedVariables false
set_option linter.unusedSimpArgs false
theorem SB.write4 {w0 w : World} {L : List As} (p t : Nat) {U : Option (Array Value) → List As} [Has (BoxO p t 4) L none U] (h : SB w0 w L) (a b c d : Value) :
    ∃ x y z u, w.cell? ⟨p, 0, none⟩ = some x ∧ w.cell? ⟨p, 1, none⟩ = some y ∧ w.cell? ⟨p, 2, none⟩ = some z ∧ w.cell? ⟨p, 3, none⟩ = some u ∧ w.frozen? ⟨p, 0, none⟩ = false ∧ w.frozen? ⟨p, 1, none⟩ = false ∧ w.frozen? ⟨p, 2, none⟩ = false ∧ w.frozen? ⟨p, 3, none⟩ = false ∧
      SB w0 ((((w.setCell ⟨p, 0, none⟩ a).setCell ⟨p, 1, none⟩ b).setCell ⟨p, 2, none⟩ c).setCell ⟨p, 3, none⟩ d) (U (some #[a, b, c, d])) ∧ SB w0 ((((w.setCell ⟨p, 0, none⟩ a).setCell ⟨p, 1, none⟩ b).setCell ⟨p, 2, none⟩ c).setCell ⟨p, 3, none⟩ d) L := by
  obtain ⟨cs, hc, hb, h1, hU⟩ := SB.boxOpen p t 4 h
  obtain ⟨x, hx, fx⟩ := blk_some hb hc 0 (by omega)
  obtain ⟨y, hy, fy⟩ := blk_some hb hc 1 (by omega)
  obtain ⟨z, hz, fz⟩ := blk_some hb hc 2 (by omega)
  obtain ⟨u, hu, fu⟩ := blk_some hb hc 3 (by omega)
  obtain ⟨R2, p1, p2⟩ := Has.rest (mk := BoxO p t 4) (L := L) (m := none) (U := U)
  have h2 : SB w0 w (Box p cs t :: R2) := h1.perm (p2 _)
  have h3 := (((h2.set1 0 a).set1 1 b).set1 2 c).set1 3 d
  have e : (((cs.setIfInBounds 0 a).setIfInBounds 1 b).setIfInBounds 2 c).setIfInBounds 3 d = #[a, b, c, d] := by
    match cs, hc with
    | ⟨[c, d, e, f]⟩, _ => rfl
  rw [e] at h3
  have h4 : SB w0 _ (U (some #[a, b, c, d])) := h3.perm (p2 (some #[a, b, c, d])).symm
  exact ⟨x, y, z, u, hx, hy, hz, hu, fx, fy, fz, fu, h4, hU rfl h4⟩
/-- what is left by what is open at last was there from the start. -/
theorem top_in {w W : World} {g n c2 : Nat} {cs : List S31} {L : List As} {Ae : Option Addr} {le ce : Nat} (hS : SB w W (Row (kAt w) 31 (.slice (some ⟨g, 0, none⟩) (n + 1) c2) cs :: L)) (hn : cs.length = n + 1) (ha : W.cell? ⟨g, n * 4 + 1, none⟩ = some (.slice Ae le ce)) :
    Kd.C (Kd.int .u8) w Ae (kTop cs).f1.length (kTop cs).f1 ∧ (kTop cs).f1.length ≤ ce := by
  obtain ⟨A, c, he, hc, hC⟩ := hS.reads
  rw [hn] at he
  injection he with e1 e2 e3
  subst e1 e3
  obtain ⟨ad, cl, e4, _, hK, hcell⟩ := Kd.C_get hC z31 (n : Int) (by omega) (by omega)
  obtain rfl := Option.some.inj e4
  obtain ⟨A1, c1, rfl, l1, g1⟩ := k31_open hK
  have h1 := hcell 1 _ rfl
  have e5 : (kAt w).sz = 4 := rfl
  rw [e5, Int.toNat_natCast, add0, ha] at h1
  injection h1 with h1
  injection h1 with h1 h2 h3
  subst h1 h3
  have e6 : rd_T31 cs (n : Int) = cs.getD (n : Int).toNat z31 := rfl
  rw [← e6, ← kTop_n hn] at l1 g1
  exact ⟨g1, l1⟩
def sClose (v : List Int) (cs : List S31) : List Int × List S31 × S31 × Int :=
  if kSane v cs = false then ([], [], z31, 1) else if cs = [] then ([], [], z31, 5) else
    if (kWant (kTop cs).f2 (kTop cs).f3 (kTop cs).f1.reverse v).2 = 0 then
      (if (((kWant (kTop cs).f2 (kTop cs).f3 (kTop cs).f1.reverse v).1.length : Nat) : Int) = (kTop cs).f2 then ((kWant (kTop cs).f2 (kTop cs).f3 (kTop cs).f1.reverse v).1, cs.dropLast, kTop cs, 0) else ([], [], z31, 5)) else ([], [], z31, 5)
set_option maxHeartbeats 8000000 in
set_option maxRecDepth 100000 in
theorem stkClose {w : World} {A0 A1 : Option Addr} {c0 c1 : Nat} {v : List Int} {cs : List S31} (h : HoldS w A0 c0 A1 c1 v cs) (hm : modest v cs) :
    Calls Try.prog 18 #[.agg #[.slice A0 v.length c0, .slice A1 cs.length c1]] w fun e w' => ∃ B0 d0 B1 d1 Be ce, e = .returned (.tuple #[.agg #[.slice B0 (sClose v cs).1.length d0, .slice B1 (sClose v cs).2.1.length d1], .agg #[.int .i64 (sClose v cs).2.2.1.f0, .slice Be (sClose v cs).2.2.1.f1.length ce, .int .i64 (sClose v cs).2.2.1.f2, .bool (sClose v cs).2.2.1.f3], .int .i64 (sClose v cs).2.2.2]) ∧
      HoldS w' B0 d0 B1 d1 (sClose v cs).1 (sClose v cs).2.1 ∧ Kd.C (Kd.int .u8) w' Be (sClose v cs).2.2.1.f1.length (sClose v cs).2.2.1.f1 ∧ (sClose v cs).2.2.1.f1.length ≤ ce ∧ Below w.heap.size w w' := by
  have HH := Aside0.mk h
  have HW := Aside0.mk (((((SB.start w).box #[.slice A0 v.length c0, .slice A1 cs.length c1] 28)).box #[.slice none 0 0, .slice none 0 0] 28).box #[.int .i64 0, .slice none 0 0, .int .i64 0, .bool false] 31)
  rw [World.size_alloc, World.size_alloc] at HW
  have hC0 : ∀ W : World, Kd.C (Kd.int .u8) W none 0 [] := fun W => ⟨rfl, by simp, fun h => by simp at h⟩
  by_cases hno : kSane v cs = false ∨ cs = []
  · have HS := fun (W : World) (hW : Below w.heap.size w W) => stkBeginNo (h.below hW) hm hno
    obtain ⟨er, he, hr⟩ : ∃ er : Int, (if kSane v cs then (5 : Int) else 1) = er ∧ er ≠ 0 ∧ sClose v cs = ([], [], z31, er) := by
      unfold sClose
      cases hk : kSane v cs with
      | false => exact ⟨1, rfl, by decide, by rw [if_pos rfl]⟩
      | true => exact ⟨5, rfl, by decide, by rw [if_neg (by decide), if_pos (hno.resolve_left (by rw [hk]; decide))]⟩
    rw [he] at HS
    rw [hr.2]
    have hne : (er != 0) = true := bne_iff_ne.mpr hr.1
    have hne2 : (er == 0) = false := beq_eq_false_iff_ne.mpr hr.1
    clear h he hr hno
    go_enter Try.func18, Try.ntmps18
    go_wp2_with (go_at_call 40; refine (HS _ HW.out.bel).mono ?_; rintro e w1 ⟨rfl, hb⟩; have HW1 := Aside0.mk (HW.out.below hb); have hsz := hb.size; clear hb; have x2 := SB.boxAt (w.heap.size + 1) 28 HW1.out; have z0 := blk_cell x2 0; have z1 := blk_cell x2 1; have y0 := blk_fro x2 0; have y1 := blk_fro x2 1; have hlt2 : w.heap.size + 1 < w1.heap.size := blk_lt x2; clear x2; have x3 := SB.boxAt (w.heap.size + 1 + 1) 31 HW1.out; have t0 := blk_cell x3 0; have t1 := blk_cell x3 1; have t2 := blk_cell x3 2; have t3 := blk_cell x3 3; have u0 := blk_fro x3 0; have u1 := blk_fro x3 1; have u2 := blk_fro x3 2; have u3 := blk_fro x3 3; have hlt3 : w.heap.size + 1 + 1 < w1.heap.size := blk_lt x3; clear x3)
    have k1 := SB.boxSet (w.heap.size + 1) 28 HW1.out 0 (.slice none 0 0) #[.slice none 0 0, .slice none 0 0]
    have k2 := SB.boxSet (w.heap.size + 1) 28 k1 1 (.slice none 0 0) #[.slice none 0 0, .slice none 0 0]
    have k3 := SB.boxSet (w.heap.size + 1 + 1) 31 k2 0 (.int .i64 0) #[.int .i64 0, .slice none 0 0, .int .i64 0, .bool false]
    have k4 := SB.boxSet (w.heap.size + 1 + 1) 31 k3 1 (.slice none 0 0) #[.int .i64 0, .slice none 0 0, .int .i64 0, .bool false]
    have k5 := SB.boxSet (w.heap.size + 1 + 1) 31 k4 2 (.int .i64 0) #[.int .i64 0, .slice none 0 0, .int .i64 0, .bool false]
    have k6 := SB.boxSet (w.heap.size + 1 + 1) 31 k5 3 (.bool false) #[.int .i64 0, .slice none 0 0, .int .i64 0, .bool false]
    have x8 := SB.boxAt (w.heap.size + 1) 28 k6
    have f0 := blk_cell x8 0
    have f1 := blk_cell x8 1
    have x9 := SB.boxAt (w.heap.size + 1 + 1) 31 k6
    have g0 := blk_cell x9 0
    have g1 := blk_cell x9 1
    have g2 := blk_cell x9 2
    have g3 := blk_cell x9 3
    exact bodyPost_ret (v := .tuple #[.agg #[.slice none 0 0, .slice none 0 0], .agg #[.int .i64 0, .slice none 0 0, .int .i64 0, .bool false], .int .i64 er]) (by simp [results, Try.results18, go_sem, f0, f1, g0, g1, g2, g3, hlt2, hlt3]) rfl ⟨none, 0, none, 0, none, 0, rfl, holdNil _, hC0 _, Nat.le_refl _, (k6.alloc _).bel⟩
  · obtain ⟨hsane, hne⟩ : kSane v cs = true ∧ cs ≠ [] := ⟨by cases hk : kSane v cs; exact absurd (.inl hk) hno; rfl, fun h => hno (.inr h)⟩
    obtain ⟨n, hn⟩ : ∃ n, cs.length = n + 1 := ⟨cs.length - 1, by have := List.length_pos_iff.2 hne; omega⟩
    obtain ⟨ht0, ht1, hleft⟩ := sane_top hsane hne
    have hfl : (kTop cs).f1.length < 1000000000 := by
      have : (kTop cs).f1.length ≤ 1 := by
        revert hleft
        match (kTop cs).f1 with
        | [] => intro _; simp
        | [a] => intro _; simp
        | a :: b :: l => intro h; simp [kLeft] at h
      omega
    have hB := stkBegin HW.out h hm hsane n hn
    have hr : sClose v cs = if (kWant (kTop cs).f2 (kTop cs).f3 (kTop cs).f1.reverse v).2 = 0 then
      (if (((kWant (kTop cs).f2 (kTop cs).f3 (kTop cs).f1.reverse v).1.length : Nat) : Int) = (kTop cs).f2 then ((kWant (kTop cs).f2 (kTop cs).f3 (kTop cs).f1.reverse v).1, cs.dropLast, kTop cs, 0) else ([], [], z31, 5)) else ([], [], z31, 5) := by
      unfold sClose
      rw [if_neg (by rw [hsane]; decide), if_neg hne]
    have her := kWant_err (h := (kTop cs).f2) (d := (kTop cs).f3) (kTop cs).f1.reverse v
    have HWW := Aside0.mk (fun (W : World) (L : List As) (p g c2 : Nat) (Av : Option Addr) (cv : Nat) (Ae : Option Addr) (ce : Nat) (hS : SB w W (WorkL w p g n c2 Av cv v cs ++ L)) (hgp : g < p) (hAp : ∀ ad, Av = some ad → 0 < v.length → ad.block < p) (hz : Kd.C (Kd.int .u8) W Ae (kTop cs).f1.length (kTop cs).f1) (hlp : ∀ ad, Ae = some ad → 0 < (kTop cs).f1.length → ad.block < p) =>
      workWant hS hn ht0 (by have := hm.1; omega) Ae ce (kTop cs).f1 hz hfl hgp hAp hlp)
    rw [hr]
    obtain ⟨v2, er, hk⟩ : ∃ v2 er, kWant (kTop cs).f2 (kTop cs).f3 (kTop cs).f1.reverse v = (v2, er) := ⟨_, _, rfl⟩
    rw [hk] at her ⊢
    have HP := Aside0.mk (show ∀ (W : World) (L : List As) (p g c2 : Nat) (Av : Option Addr) (cv : Nat) (Ae : Option Addr) (ce : Nat), SB w W (WorkL w p g n c2 Av cv v cs ++ L) → g < p → (∀ ad, Av = some ad → 0 < v.length → ad.block < p) → Kd.C (Kd.int .u8) W Ae (kTop cs).f1.length (kTop cs).f1 → (∀ ad, Ae = some ad → 0 < (kTop cs).f1.length → ad.block < p) →
        Calls Try.prog 41 #[.pointer (some ⟨p, 0, none⟩), .slice Ae (kTop cs).f1.length ce] W fun e w' => e = .returned (.int .i64 er) ∧ SB w w' L ∧ (er = 0 → SB w w' (Box p #[.slice Av v2.length cv, .slice (some ⟨g, 0, none⟩) (n + 1) c2, .pointer (some ⟨g, n * 4, none⟩)] 77 :: Row (kAt w) 31 (.slice (some ⟨g, 0, none⟩) (n + 1) c2) cs :: Row (Kd.int .u8) 5 (.slice Av v2.length cv) v2 :: L)) from
      fun W L p g c2 Av cv Ae ce hS h1 h2 h3 h4 => by have := HWW.out W L p g c2 Av cv Ae ce hS h1 h2 h3 h4; rw [hk] at this; exact this)
    simp only at her ⊢
    rw [hn] at hB
    have HB := Aside0.mk hB
    clear hB HWW hr hk h hno hsane hne ht1 hfl hleft
    rcases her with rfl | rfl
    · simp only [if_true]
      by_cases hq : ((v2.length : Nat) : Int) = (kTop cs).f2
      · rw [if_pos hq]
        go_enter Try.func18, Try.ntmps18
        rw [hn]
        go_wp2_with (first
          | (go_at_call 40; refine HB.out.mono ?_; rintro e w1 ⟨Av, cv, g, c2, rfl, hs⟩; have hsz := hs.size; have hlt2 : w.heap.size + 1 < w1.heap.size := blk_lt (SB.boxAt (w.heap.size + 1) 28 hs); obtain ⟨Ae, ce, a0, a1, a2, a3, l1, hCe, hC2, hcc, hgl⟩ := top_cells hs hn; have HCE := Aside0.mk hCe; clear hCe hC2 a0 a2 a3; have hlt3 : w.heap.size + 1 + 1 < w1.heap.size := blk_lt (SB.boxAt (w.heap.size + 1 + 1) 31 hs); have hg := (SB.rowFro hs 0).2; obtain ⟨A', c', he, hcv, hCv⟩ := (hs.drop).reads; (injection he with e1 e2 e3); subst e1 e3; have HAV := Aside0.mk (C_lt hCv); clear hCv; have HW1 := Aside0.mk (hs.box #[.slice Av v.length cv, .slice (some ⟨g, 0, none⟩) (n + 1) c2, .pointer (some ⟨g, n * 4, none⟩)] 77); clear hs)
          | (go_at_call 41; refine (HP.out _ [Box (w.heap.size + 1 + 1) #[.int .i64 0, .slice none 0 0, .int .i64 0, .bool false] 31, Box (w.heap.size + 1) #[.slice none 0 0, .slice none 0 0] 28] w1.heap.size g c2 Av cv Ae ce (HW1.out.pick [0, 1, 2, 3, 4]) hg HAV.out (Kd.C_alloc HCE.out _) (C_lt HCE.out)).mono ?_; rintro e w2 ⟨rfl, hs0, hs⟩; have HW2 := Aside0.mk (hs (by first | rfl | trivial)); clear hs hs0; have x2 := SB.boxAt (w.heap.size + 1) 28 HW2.out; have z0 := blk_cell x2 0; have z1 := blk_cell x2 1; have y0 := blk_fro x2 0; have y1 := blk_fro x2 1; clear x2; have x4 := SB.boxAt (w.heap.size + 1 + 1) 31 HW2.out; have t0 := blk_cell x4 0; have t1 := blk_cell x4 1; have t2 := blk_cell x4 2; have t3 := blk_cell x4 3; have u0 := blk_fro x4 0; have u1 := blk_fro x4 1; have u2 := blk_fro x4 2; have u3 := blk_fro x4 3; clear x4))
        have qb : ((v2.length : Int) != (kTop cs).f2) = false := bne_eq_false_iff_eq.mpr hq
        have x3 := SB.boxAt w1.heap.size 77 HW2.out
        have s0 := blk_cell x3 0
        have s1 := blk_cell x3 1
        have s2 := blk_cell x3 2
        have yp := blk_fro x3 1
        have hltp : w1.heap.size < w2.heap.size := blk_lt x3
        clear x3
        have HT2 := Aside0.mk (top_cells (HW2.out.pick [1]) hn)
        obtain ⟨Ae2, ce2, a0, a1, a2, a3, l12, hCe2, hC22, hcc2, hgl2⟩ := HT2.out
        have HC2 := Aside0.mk hCe2
        have hc26 := fun W => cut26 (some ⟨g, 0, none⟩) (n + 1) c2 n (by omega) (by omega) W
        have hwn : IntKind.i64.wrap (((n + 1 : Nat) : Int) - 1) = (n : Int) := by rw [IntKind.wrap_i64]; have := hm.2; omega
        have hwn2 : IntKind.i64.wrap (n : Int) = (n : Int) := by rw [IntKind.wrap_i64]; have := hm.2; omega
        clear hC22 hCe2
        go_quiet (fail)
        have HW3 := Aside0.mk (HW2.out.drewN nq)
        obtain ⟨w3, hw3⟩ : ∃ w3, w2.drewN nq = w3 := ⟨_, rfl⟩
        rw [hw3] at HW3
        simp only [hw3]
        clear hw3 HT2 a0 a1 a2 a3 s0 s1 s2 yp hltp z0 z1 y0 y1 t0 t1 t2 t3 u0 u1 u2 u3
        have x3 := SB.boxAt w1.heap.size 77 HW3.out
        have s0 := blk_cell x3 0
        have s1 := blk_cell x3 1
        have s2 := blk_cell x3 2
        have yp := blk_fro x3 1
        have hltp : w1.heap.size < w3.heap.size := blk_lt x3
        clear x3
        obtain ⟨Ae3, ce3, a0, a1, a2, a3, l13, hCe3, _, _, hgl3⟩ := top_cells (HW3.out.pick [1]) hn
        have HC3 := Aside0.mk hCe3
        clear hCe3
        go_wp2
        have hin := top_in (HW3.out.pick [1]) hn a1
        have HIN := Aside0.mk hin
        have hA := HW3.out.set1 1 (.slice (some ⟨g, 0, none⟩) n c2)
        have hA2 := hA.box #[.int .i64 (kTop cs).f0, .slice Ae3 (kTop cs).f1.length ce3, .int .i64 (kTop cs).f2, .bool (kTop cs).f3] 31
        have es : (w3.setCell ⟨w1.heap.size, 1, none⟩ (.slice (some ⟨g, 0, none⟩) n c2)).heap.size = w3.heap.size := by simp [World.setCell]
        rw [es] at hA2
        have HA := Aside0.mk hA2.drew
        clear hin hA hA2 es
        have hA3 := ((((HA.out.pick [5, 4, 0, 1, 2, 3]).boxHide 2).pick [1, 0, 2, 3, 4, 5]).boxHide 4)
        refine rg_startL (n := 6) (S := fun w' => SB w w' [BoxO (w.heap.size + 1 + 1) 31 4 none, BoxO (w.heap.size + 1) 28 2 none, Box w3.heap.size #[.int .i64 (kTop cs).f0, .slice Ae3 (kTop cs).f1.length ce3, .int .i64 (kTop cs).f2, .bool (kTop cs).f3] 31, Box w1.heap.size #[.slice Av v2.length cv, .slice (some ⟨g, 0, none⟩) n c2, .pointer (some ⟨g, n * 4, none⟩)] 77, Row (kAt w) 31 (.slice (some ⟨g, 0, none⟩) (n + 1) c2) cs, Row (Kd.int .u8) 5 (.slice Av v2.length cv) v2]) (bm 6 0) (by kernel_rfl) rfl (by kernel_rfl) (hA3) (fun wd hwd hHeld => ?_)
        refine rg_take (i := 0) (N := some 55) (v := ?_) (a' := ?_) (bm 6 1) rfl rfl (by kernel_rfl) (fun _ _ _ h => h) hHeld (Or.inl ⟨by rfl, ?_⟩) ?_ ?_
        rotate_left
        · intro w' hw'
          have hb1 := SB.boxAt w1.heap.size 77 hw'
          have s0 := blk_cell hb1 0
          have s1 := blk_cell hb1 1
          have hb2 := SB.boxAt w3.heap.size 31 hw'
          have r0 := blk_cell hb2 0
          have r1 := blk_cell hb2 1
          have r2 := blk_cell hb2 2
          have r3 := blk_cell hb2 3
          go_simp
          with_reducible rfl
        rotate_left
        · simp only [Act.put, List.setIfInBounds_toArray, List.set_cons_zero, List.set_cons_succ]
          rfl
        refine rg_take (i := 1) (N := some 56) (v := ?_) (a' := ?_) (bm 6 3) rfl rfl (by kernel_rfl) (fun _ _ _ h => h) hHeld (Or.inl ⟨by rfl, ?_⟩) ?_ ?_
        rotate_left
        · intro w' hw'
          have hb1 := SB.boxAt w1.heap.size 77 hw'
          have s0 := blk_cell hb1 0
          have s1 := blk_cell hb1 1
          have hb2 := SB.boxAt w3.heap.size 31 hw'
          have r0 := blk_cell hb2 0
          have r1 := blk_cell hb2 1
          have r2 := blk_cell hb2 2
          have r3 := blk_cell hb2 3
          go_simp
          with_reducible rfl
        rotate_left
        · simp only [Act.put, List.setIfInBounds_toArray, List.set_cons_zero, List.set_cons_succ]
          rfl
        refine rg_take (i := 2) (N := some 57) (v := ?_) (a' := ?_) (bm 6 7) rfl rfl (by kernel_rfl) (fun _ _ _ h => h) hHeld (Or.inl ⟨by rfl, ?_⟩) ?_ ?_
        rotate_left
        · intro w' hw'
          have hb1 := SB.boxAt w1.heap.size 77 hw'
          have s0 := blk_cell hb1 0
          have s1 := blk_cell hb1 1
          have hb2 := SB.boxAt w3.heap.size 31 hw'
          have r0 := blk_cell hb2 0
          have r1 := blk_cell hb2 1
          have r2 := blk_cell hb2 2
          have r3 := blk_cell hb2 3
          go_simp
          with_reducible rfl
        rotate_left
        · simp only [Act.put, List.setIfInBounds_toArray, List.set_cons_zero, List.set_cons_succ]
          rfl
        refine rg_ready [3] (by kernel_rfl) (by simp) ?_
        refine rg_one (i := 3) (N := none) (bm 6 15) rfl rfl (by kernel_rfl) (fun K hK => ?_) rg_nil
        obtain ⟨x0, x1, s0, s1, y0, y1, h2, hnew⟩ := SB.write2 (w.heap.size + 1) 28 hHeld (.slice Av v2.length cv) (.slice (some ⟨g, 0, none⟩) n c2)
        have HZ := Aside0.mk h2
        clear h2
        go_simp
        refine hK.out undef _ hnew ?_
        clear hK K
        refine rg_norm (a' := ?_) ?_ ?_
        rotate_left
        · simp only [Act.put, List.setIfInBounds_toArray, List.set_cons_zero, List.set_cons_succ]
          rfl
        clear hHeld
        have hHeld := hnew
        clear hnew
        refine rg_ready [4] (by kernel_rfl) (by simp) ?_
        refine rg_one (i := 4) (N := none) (bm 6 31) rfl rfl (by kernel_rfl) (fun K hK => ?_) rg_nil
        obtain ⟨x0, x1, x2, x3, s0, s1, s2, s3, y0, y1, y2, y3, h2, hnew⟩ := SB.write4 (w.heap.size + 1 + 1) 31 hHeld (.int .i64 (kTop cs).f0) (.slice Ae3 (kTop cs).f1.length ce3) (.int .i64 (kTop cs).f2) (.bool (kTop cs).f3)
        obtain ⟨_, _, _, _, _, _, _, _, _, _, _, _, h3, _⟩ := SB.write4 (w.heap.size + 1 + 1) 31 HZ.out (.int .i64 (kTop cs).f0) (.slice Ae3 (kTop cs).f1.length ce3) (.int .i64 (kTop cs).f2) (.bool (kTop cs).f3)
        have HY := Aside0.mk h3
        clear h2 h3
        go_simp
        refine hK.out undef _ hnew ?_
        clear hK K
        refine rg_norm (a' := ?_) ?_ ?_
        rotate_left
        · simp only [Act.put, List.setIfInBounds_toArray, List.set_cons_zero, List.set_cons_succ]
          rfl
        clear hHeld
        have hHeld := hnew
        clear hnew
        refine rg_take (i := 5) (N := some 4) (v := ?_) (a' := ?_) (bm 6 63) rfl rfl (by kernel_rfl) (fun _ _ _ h => h) hHeld (Or.inl ⟨by rfl, ?_⟩) ?_ ?_
        rotate_left
        · intro w' hw'
          have hb1 := SB.boxAt w1.heap.size 77 hw'
          have s0 := blk_cell hb1 0
          have s1 := blk_cell hb1 1
          have hb2 := SB.boxAt w3.heap.size 31 hw'
          have r0 := blk_cell hb2 0
          have r1 := blk_cell hb2 1
          have r2 := blk_cell hb2 2
          have r3 := blk_cell hb2 3
          go_simp
          with_reducible rfl
        rotate_left
        · simp only [Act.put, List.setIfInBounds_toArray, List.set_cons_zero, List.set_cons_succ]
          rfl
        refine rg_done (by kernel_rfl) ?_
        have x9 := SB.boxOAt (w.heap.size + 1) 28 2 HY.out
        have f0 := blk_cell x9 0
        have f1 := blk_cell x9 1
        have x8 := SB.boxOAt (w.heap.size + 1 + 1) 31 4 HY.out
        have g0 := blk_cell x8 0
        have g1 := blk_cell x8 1
        have g2 := blk_cell x8 2
        have g3 := blk_cell x8 3
        go_wp2
        obtain ⟨hfin, e1, e2⟩ := holdOf ((HY.out.pick [4, 5]).cutRow (m := n) (by omega))
        have e3 : cs.dropLast = cs.take n := by rw [List.dropLast_eq_take, hn]; rfl
        exact bodyPost_ret (v := .tuple #[.agg #[.slice Av v2.length cv, .slice (some ⟨g, 0, none⟩) n c2], .agg #[.int .i64 (kTop cs).f0, .slice Ae3 (kTop cs).f1.length ce3, .int .i64 (kTop cs).f2, .bool (kTop cs).f3], .int .i64 0]) (by simp [results, Try.results18, go_sem, f0, f1, g0, g1, g2, g3]) rfl ⟨Av, cv, some ⟨g, 0, none⟩, c2, Ae3, ce3, by rw [e3, ← e2], by rw [e3]; exact hfin, Kd.C_below HIN.out.1 HY.out.bel, HIN.out.2, HY.out.bel⟩
      · rw [if_neg hq]
        go_enter Try.func18, Try.ntmps18
        rw [hn]
        go_wp2_with (first
          | (go_at_call 40; refine HB.out.mono ?_; rintro e w1 ⟨Av, cv, g, c2, rfl, hs⟩; have hsz := hs.size; have hlt2 : w.heap.size + 1 < w1.heap.size := blk_lt (SB.boxAt (w.heap.size + 1) 28 hs); obtain ⟨Ae, ce, a0, a1, a2, a3, l1, hCe, hC2, hcc, hgl⟩ := top_cells hs hn; have HCE := Aside0.mk hCe; clear hCe hC2 a0 a2 a3; have hlt3 : w.heap.size + 1 + 1 < w1.heap.size := blk_lt (SB.boxAt (w.heap.size + 1 + 1) 31 hs); have hg := (SB.rowFro hs 0).2; obtain ⟨A', c', he, hcv, hCv⟩ := (hs.drop).reads; (injection he with e1 e2 e3); subst e1 e3; have HAV := Aside0.mk (C_lt hCv); clear hCv; have HW1 := Aside0.mk (hs.box #[.slice Av v.length cv, .slice (some ⟨g, 0, none⟩) (n + 1) c2, .pointer (some ⟨g, n * 4, none⟩)] 77); clear hs)
          | (go_at_call 41; refine (HP.out _ [Box (w.heap.size + 1 + 1) #[.int .i64 0, .slice none 0 0, .int .i64 0, .bool false] 31, Box (w.heap.size + 1) #[.slice none 0 0, .slice none 0 0] 28] w1.heap.size g c2 Av cv Ae ce (HW1.out.pick [0, 1, 2, 3, 4]) hg HAV.out (Kd.C_alloc HCE.out _) (C_lt HCE.out)).mono ?_; rintro e w2 ⟨rfl, hs0, hs⟩; have HW2 := Aside0.mk (hs (by first | rfl | trivial)); clear hs hs0; have x2 := SB.boxAt (w.heap.size + 1) 28 HW2.out; have z0 := blk_cell x2 0; have z1 := blk_cell x2 1; have y0 := blk_fro x2 0; have y1 := blk_fro x2 1; clear x2; have x4 := SB.boxAt (w.heap.size + 1 + 1) 31 HW2.out; have t0 := blk_cell x4 0; have t1 := blk_cell x4 1; have t2 := blk_cell x4 2; have t3 := blk_cell x4 3; have u0 := blk_fro x4 0; have u1 := blk_fro x4 1; have u2 := blk_fro x4 2; have u3 := blk_fro x4 3; clear x4))
        have qb : ((v2.length : Int) != (kTop cs).f2) = true := bne_iff_ne.mpr hq
        have x3 := SB.boxAt w1.heap.size 77 HW2.out
        have s0 := blk_cell x3 0
        have s1 := blk_cell x3 1
        have s2 := blk_cell x3 2
        clear x3
        obtain ⟨Ae2, ce2, a0, a1, a2, a3, l12, hCe2, hC22, hcc2, hgl2⟩ := top_cells (HW2.out.pick [1]) hn
        clear hC22 hCe2
        go_quiet (fail)
        have HW3 := Aside0.mk (HW2.out.drewN nq)
        obtain ⟨w3, hw3⟩ : ∃ w3, w2.drewN nq = w3 := ⟨_, rfl⟩
        rw [hw3] at HW3
        simp only [hw3]
        clear hw3 a0 a1 a2 a3 s0 s1 s2 z0 z1 y0 y1 t0 t1 t2 t3 u0 u1 u2 u3
        have x2 := SB.boxAt (w.heap.size + 1) 28 HW3.out; have z0 := blk_cell x2 0; have z1 := blk_cell x2 1; have y0 := blk_fro x2 0; have y1 := blk_fro x2 1; clear x2; have x4 := SB.boxAt (w.heap.size + 1 + 1) 31 HW3.out; have t0 := blk_cell x4 0; have t1 := blk_cell x4 1; have t2 := blk_cell x4 2; have t3 := blk_cell x4 3; have u0 := blk_fro x4 0; have u1 := blk_fro x4 1; have u2 := blk_fro x4 2; have u3 := blk_fro x4 3; clear x4
        go_wp2
        have k1 := SB.boxSet (w.heap.size + 1) 28 HW3.out 0 (.slice none 0 0) #[.slice none 0 0, .slice none 0 0]
        have k2 := SB.boxSet (w.heap.size + 1) 28 k1 1 (.slice none 0 0) #[.slice none 0 0, .slice none 0 0]
        have k3 := SB.boxSet (w.heap.size + 1 + 1) 31 k2 0 (.int .i64 0) #[.int .i64 0, .slice none 0 0, .int .i64 0, .bool false]
        have k4 := SB.boxSet (w.heap.size + 1 + 1) 31 k3 1 (.slice none 0 0) #[.int .i64 0, .slice none 0 0, .int .i64 0, .bool false]
        have k5 := SB.boxSet (w.heap.size + 1 + 1) 31 k4 2 (.int .i64 0) #[.int .i64 0, .slice none 0 0, .int .i64 0, .bool false]
        have k6 := SB.boxSet (w.heap.size + 1 + 1) 31 k5 3 (.bool false) #[.int .i64 0, .slice none 0 0, .int .i64 0, .bool false]
        have x8 := SB.boxAt (w.heap.size + 1) 28 k6
        have f0 := blk_cell x8 0
        have f1 := blk_cell x8 1
        have x9 := SB.boxAt (w.heap.size + 1 + 1) 31 k6
        have g0 := blk_cell x9 0
        have g1 := blk_cell x9 1
        have g2 := blk_cell x9 2
        have g3 := blk_cell x9 3
        exact bodyPost_ret (v := .tuple #[.agg #[.slice none 0 0, .slice none 0 0], .agg #[.int .i64 0, .slice none 0 0, .int .i64 0, .bool false], .int .i64 5]) (by simp [results, Try.results18, go_sem, f0, f1, g0, g1, g2, g3, hlt2, hlt3]) rfl ⟨none, 0, none, 0, none, 0, rfl, holdNil _, hC0 _, Nat.le_refl _, k6.bel⟩
    · simp only [show ¬ ((5 : Int) = 0) by decide, if_false]
      go_enter Try.func18, Try.ntmps18
      rw [hn]
      go_wp2_with (first
        | (go_at_call 40; refine HB.out.mono ?_; rintro e w1 ⟨Av, cv, g, c2, rfl, hs⟩; have hsz := hs.size; have hlt2 : w.heap.size + 1 < w1.heap.size := blk_lt (SB.boxAt (w.heap.size + 1) 28 hs); obtain ⟨Ae, ce, a0, a1, a2, a3, l1, hCe, hC2, hcc, hgl⟩ := top_cells hs hn; have HCE := Aside0.mk hCe; clear hCe hC2 a0 a2 a3; have hlt3 : w.heap.size + 1 + 1 < w1.heap.size := blk_lt (SB.boxAt (w.heap.size + 1 + 1) 31 hs); have hg := (SB.rowFro hs 0).2; obtain ⟨A', c', he, hcv, hCv⟩ := (hs.drop).reads; (injection he with e1 e2 e3); subst e1 e3; have HAV := Aside0.mk (C_lt hCv); clear hCv; have HW1 := Aside0.mk (hs.box #[.slice Av v.length cv, .slice (some ⟨g, 0, none⟩) (n + 1) c2, .pointer (some ⟨g, n * 4, none⟩)] 77); clear hs)
        | (go_at_call 41; refine (HP.out _ [Box (w.heap.size + 1 + 1) #[.int .i64 0, .slice none 0 0, .int .i64 0, .bool false] 31, Box (w.heap.size + 1) #[.slice none 0 0, .slice none 0 0] 28] w1.heap.size g c2 Av cv Ae ce (HW1.out.pick [0, 1, 2, 3, 4]) hg HAV.out (Kd.C_alloc HCE.out _) (C_lt HCE.out)).mono ?_; rintro e w2 ⟨rfl, hs0, hs⟩; have HW2 := Aside0.mk (hs0); clear hs hs0; have x2 := SB.boxAt (w.heap.size + 1) 28 HW2.out; have z0 := blk_cell x2 0; have z1 := blk_cell x2 1; have y0 := blk_fro x2 0; have y1 := blk_fro x2 1; clear x2; have x4 := SB.boxAt (w.heap.size + 1 + 1) 31 HW2.out; have t0 := blk_cell x4 0; have t1 := blk_cell x4 1; have t2 := blk_cell x4 2; have t3 := blk_cell x4 3; have u0 := blk_fro x4 0; have u1 := blk_fro x4 1; have u2 := blk_fro x4 2; have u3 := blk_fro x4 3; clear x4))
      have k1 := SB.boxSet (w.heap.size + 1) 28 HW2.out 0 (.slice none 0 0) #[.slice none 0 0, .slice none 0 0]
      have k2 := SB.boxSet (w.heap.size + 1) 28 k1 1 (.slice none 0 0) #[.slice none 0 0, .slice none 0 0]
      have k3 := SB.boxSet (w.heap.size + 1 + 1) 31 k2 0 (.int .i64 0) #[.int .i64 0, .slice none 0 0, .int .i64 0, .bool false]
      have k4 := SB.boxSet (w.heap.size + 1 + 1) 31 k3 1 (.slice none 0 0) #[.int .i64 0, .slice none 0 0, .int .i64 0, .bool false]
      have k5 := SB.boxSet (w.heap.size + 1 + 1) 31 k4 2 (.int .i64 0) #[.int .i64 0, .slice none 0 0, .int .i64 0, .bool false]
      have k6 := SB.boxSet (w.heap.size + 1 + 1) 31 k5 3 (.bool false) #[.int .i64 0, .slice none 0 0, .int .i64 0, .bool false]
      have x8 := SB.boxAt (w.heap.size + 1) 28 k6
      have f0 := blk_cell x8 0
      have f1 := blk_cell x8 1
      have x9 := SB.boxAt (w.heap.size + 1 + 1) 31 k6
      have g0 := blk_cell x9 0
      have g1 := blk_cell x9 1
      have g2 := blk_cell x9 2
      have g3 := blk_cell x9 3
      exact bodyPost_ret (v := .tuple #[.agg #[.slice none 0 0, .slice none 0 0], .agg #[.int .i64 0, .slice none 0 0, .int .i64 0, .bool false], .int .i64 5]) (by simp [results, Try.results18, go_sem, f0, f1, g0, g1, g2, g3, hlt2, hlt3]) rfl ⟨none, 0, none, 0, none, 0, rfl, holdNil _, hC0 _, Nat.le_refl _, k6.bel⟩
end Go.Proofs.Ytagblobimoedcaa.G
