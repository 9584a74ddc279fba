/- HostBounds: what a reply does outside of what there is is not done. -/
import Derived.Deep.DeepMust
import Derived.Test.YtbjglicdamenhaaHstQ
namespace Go.Proofs.Ytbjglicdamenhaa.G
open Go.RowKit Go.Proofs.YtbjglicdamenhaaW.PrintWords Go.Proofs.YtbjglicdamenhaaW.PrintLast Go.Proofs.YtbjglicdamenhaaW.PrintMore
attribute [local go_sem] max2_int min2_int max_two min_two max_three min_three max_four min_four   -- for this text's walks alone
set_option linter.unusedVariables false
set_option linter.unusedSimpArgs false
theorem oneRead {w : World} {b : Nat} {x : S82} {A3 : Option Addr} {c3 : Nat} (hb : w.heap[b]? = some (.cells #[.int .u64 x.f0, .bool x.f1, .int .i64 x.f2, .slice A3 x.f3.length c3, .int .i64 x.f4, .int .u64 x.f5] 82 (0, 0))) (h3 : Kd.C (Kd.int .u8) w A3 x.f3.length x.f3) (hc : x.f3.length ≤ c3) : Kd.C k82 w (some ⟨b, 0, none⟩) 1 [x] := by
  have hcl := fun k => blk_cell hb k
  refine of_raw (d := k82) (z := [[.int .u64 x.f0, .bool x.f1, .int .i64 x.f2, .slice A3 x.f3.length c3, .int .i64 x.f4, .int .u64 x.f5]]) ⟨rfl, by decide, fun _ => ⟨_, rfl, fun j p hj => ?_⟩⟩ rfl (fun j y c hx hc' => ?_)
  · have hj2 : j < 1 := (List.getElem?_eq_some_iff.1 hj).1
    obtain rfl : j = 0 := by omega
    injection hj with hj
    subst hj
    refine ⟨_, rfl, ⟨rfl, rfl, by intro u hu; simp at hu; rcases hu with rfl | rfl | rfl | rfl | rfl | rfl <;> rfl⟩, fun i u hi => ?_⟩
    rw [addr0, hcl]
    have hi2 : i < 6 := (List.getElem?_eq_some_iff.1 hi).1
    rcases i with _ | _ | _ | _ | _ | _ | i
    all_goals first | exact hi | omega
  · have hj2 : j < 1 := (List.getElem?_eq_some_iff.1 hx).1
    obtain rfl : j = 0 := by omega
    injection hx with hx
    injection hc' with hc'
    subst hx hc'
    exact k82_mk w x hc h3
theorem add126 {w0 w : World} {L : List As} {p : Nat} (hS : SB w0 w (GO p [] :: L)) : Calls Try.prog 19 #[.pointer (some ⟨p, 0, none⟩), .int .u8 126, .bool true, .int .u64 1] w fun e w' => e = .returned (.tuple #[.int .i64 0, .int .i64 0]) ∧ SB w0 w' (GO p [⟨126, true, 1⟩] :: L) := globAdd hS (by decide) 126 true 1 (by decide) (by decide)
theorem add127 {w0 w : World} {L : List As} {p : Nat} (hS : SB w0 w (GO p [⟨126, true, 1⟩] :: L)) : Calls Try.prog 19 #[.pointer (some ⟨p, 0, none⟩), .int .u8 127, .bool true, .int .u64 2] w fun e w' => e = .returned (.tuple #[.int .i64 1, .int .i64 0]) ∧ SB w0 w' (GO p [⟨126, true, 1⟩, ⟨127, true, 2⟩] :: L) := globAdd hS (by decide) 127 true 2 (by decide) (by decide)
theorem add3 {w0 w : World} {L : List As} {p : Nat} (hS : SB w0 w (GO p [⟨126, true, 1⟩, ⟨127, true, 2⟩] :: L)) : Calls Try.prog 19 #[.pointer (some ⟨p, 0, none⟩), .int .u8 126, .bool false, .int .u64 3] w fun e w' => e = .returned (.tuple #[.int .i64 2, .int .i64 0]) ∧ SB w0 w' (GO p gl3 :: L) := globAdd hS (by decide) 126 false 3 (by decide) (by decide)
theorem bndDo {w0 w : World} {L : List As} {p pm pg : Nat} {x : S86} (hS : SB w0 w (HO p [x] [] :: MO pm m0 :: GO pg gl3 :: L)) (hx : okR x) {m1 : Mem} {g1 : List S109} (hm : fM [] [] x m0 = m1) (hg : fG [] [] x gl3 = g1) {v t : Int} (h : fAns [] [] [] x = (v, t)) :
    Calls Try.prog 12 #[.pointer (some ⟨p, 0, none⟩), .int .i64 0, .agg #[.slice none 0 0, .slice none 0 0], .slice none 0 0, .pointer (some ⟨pm, 0, none⟩), .pointer (some ⟨pg, 0, none⟩)] w fun e w' =>
      e = .returned (.tuple #[.int .u64 v, .int .i64 t]) ∧ SB w0 w' (MO pm m1 :: GO pg g1 :: L) :=
  (hstDoM (Ap := none) (Ar := none) (Aa := none) (ps := []) (ts := []) (ws := []) (cp := 0) (cr := 0) (ca := 0) 0 hS good_b0 (by decide) C_nil C_nil C_nil (by decide) (by decide) (by decide) (by decide) (by decide) (by intro r hr; rw [List.mem_singleton.1 hr]; exact hx) rfl h rfl rfl hm hg).mono fun e w' hh => ⟨hh.1, hh.2.drop⟩
theorem bndOurs {W : World} {b : Nat} {x : S82} {A3 : Option Addr} {n c3 : Nat} (hn : x.f3.length = n) (hb : W.heap[b]? = some (.cells #[.int .u64 x.f0, .bool x.f1, .int .i64 x.f2, .slice A3 n c3, .int .i64 x.f4, .int .u64 x.f5] 82 (0, 0))) (h3 : Kd.C (Kd.int .u8) W A3 x.f3.length x.f3) (hc : n ≤ c3) :
    Calls Try.prog 11 #[.slice (some ⟨b, 0, none⟩) 1 1] W fun e w' => ∃ A' c', e = .returned (.slice A' 1 c') ∧ 1 ≤ c' ∧ Kd.C k86 w' A' 1 [ou x] ∧ Below W.heap.size W w' := by
  subst hn
  exact (hOurs (SB.start W) (some ⟨b, 0, none⟩) 1 [x] (oneRead hb h3 hc) (Nat.le_refl 1) (show 1 ≤ 1000000 by decide)).mono fun e w' ⟨A', c', he, hc', hC, hs⟩ => ⟨A', c', he, hc', hC, hs.bel⟩
theorem bndNew {w0 w : World} {L : List As} (hS : SB w0 w L) {A : Option Addr} {c : Nat} {x : S86} (hC : Kd.C k86 w A 1 [x]) (hc : 1 ≤ c) (hx : okR x) :
    Calls Try.prog 10 #[.slice A 1 c] w fun e w' => ∃ p, e = .returned (.pointer (some ⟨p, 0, none⟩)) ∧ SB w0 w' (HO p [x] [] :: L) :=
  hstNew hS A c [x] hC hc (show 1 ≤ 1000000 by decide) (by intro y hy; rw [List.mem_singleton.1 hy]; have := hx.len; omega)
theorem SB.made {w0 w : World} {n : Nat} {L : List As} (hS : SB w0 w L) (hn : n ≤ 281474976710656) : SB w0 (w.alloc (.cells (madeCells #[.int .u8 0] n) 5)) (Row (Kd.int .u8) 5 (.slice (some ⟨w.heap.size, 0, none⟩) n n) (List.replicate n 0) :: L) :=
  SB.new hS (w1 := w.alloc (.cells (madeCells #[.int .u8 0] n) 5)) (below_alloc (Below.refl _ _) _) (A := Row (Kd.int .u8) 5 (.slice (some ⟨w.heap.size, 0, none⟩) n n) (List.replicate n 0)) (F' := fun k => k = w.heap.size)
    ⟨made_R (heap_alloc_new w _) (Nat.zero_le _) hn rfl, fun k hk => by rw [hk]; simp⟩ (fun k hk => by omega)
theorem SB.str {w0 w : World} {L : List As} {v : Value} {l : List Int} (h : SB w0 w (Row (Kd.int .u8) 5 v l :: L)) : (convert 35 9 v).run Try.prog w = .ok (.string (strOfNums l)) w := by
  obtain ⟨F, hF, _⟩ := h.head
  exact own_string (P := Try.prog) Try.underlying35 Try.underlying5 Try.underlying9 (Kd.own_of_R hF.1)
theorem memLayZ {w0 w : World} {L : List As} {p n g : Nat} {m : Mem} {a : Int} {b' : List Int} (hS : SB w0 w (Row (Kd.int .u8) 5 (.slice (some ⟨g, 0, none⟩) n n) (List.replicate n 0) :: MO p m :: L)) (hm : Good m) (ha : okI a) (hn : n ≤ 300) (hb : (mLay m.b a (List.replicate n 0)).getD m.b = b') :
    Calls Try.prog 29 #[.pointer (some ⟨p, 0, none⟩), .int .i64 a, .slice (some ⟨g, 0, none⟩) n n] w fun e w' => (∃ r, e = .returned (.bool r)) ∧ SB w0 w' (MO p { m with b := b' } :: L) := by
  obtain ⟨A, c, e, hc, hC⟩ := hS.reads
  injection e with e1 e2 e3
  subst e1
  have h1 := memLayK (hS.drop) hm (c := n) ha hC (by rw [List.length_replicate]; omega) hb
  rw [List.length_replicate] at h1
  exact h1
theorem bndWords {w0 w : World} {L : List As} {A : Option Addr} {c wl : Nat} {G : As} {l : List Int} (hS : SB w0 w (Row (Kd.int .u64) 31 (.slice A 3 c) l :: G :: Row (Kd.int .u64) 31 (.slice (some ⟨wl, 0, none⟩) 3 3) l :: L)) (hl : l.length = 3) (hc : 3 ≤ c) :
    Calls Try.prog 24 #[.slice A 3 c, .slice (some ⟨wl, 0, none⟩) 3 3] w fun e w' => e = .returned (.bool true) ∧ SB w0 w' L := by
  obtain ⟨A1, c1, e1, _, hC1⟩ := hS.reads
  obtain ⟨A2, c2, e2, _, hC2⟩ := (hS.pick3 [2]).reads
  injection e1 with q1 q2 q3
  injection e2 with q4 q5 q6
  subst q1 q3 q4
  rw [hl] at hC1 hC2
  have h1 := avocetref14_Words.calls (l.length + 1) A c l (some ⟨wl, 0, none⟩) 3 l true w (by rw [hl]; exact hC1) (by omega) (by rw [hl]; exact hC2) (by omega) (words_self l (by omega))
  rw [hl] at h1
  refine h1.mono ?_
  rintro e w' ⟨rfl, hb⟩
  exact ⟨rfl, (hS.pick3 []).below (by first | exact hb | exact drawn_below hb)⟩
def r82 (f0 : Int) (f1 : Bool) (f2 : Int) (v : Value) (f4 f5 : Int) : Array Value := #[.int .u64 f0, .bool f1, .int .i64 f2, v, .int .i64 f4, .int .u64 f5]
set_option maxHeartbeats 8000000 in
set_option maxRecDepth 100000 in
theorem hostBounds (f0 : Int) (f1 : Bool) (f2 : Int) (A3 : Option Addr) (c3 : Nat) (l3 : List Int) (f4 f5 : Int) (w : World) (hC : Kd.C (Kd.int .u8) w A3 l3.length l3) (hc : l3.length ≤ c3) (h0 : okU f0) (h2 : okI f2) (h4 : okI f4) (h5 : okU f5) (hoct : Oct l3) :
    Calls Try.prog 6 #[.agg #[.int .u64 f0, .bool f1, .int .i64 f2, .slice A3 l3.length c3, .int .i64 f4, .int .u64 f5]] w fun e w' => e = .returned (.bool true) ∧ Below w.heap.size w w' := by
  have hbx := (SB.start w).box #[.int .u64 f0, .bool f1, .int .i64 f2, .slice A3 l3.length c3, .int .i64 f4, .int .u64 f5] 82
  obtain ⟨b1, hb1⟩ : ∃ b, w.heap.size = b := ⟨_, rfl⟩
  have hb1' : w.heap.size = b1 := hb1
  rw [hb1] at hbx
  have HC := Aside0.mk hC
  obtain ⟨n, hn⟩ : ∃ n, l3.length = n := ⟨_, rfl⟩
  by_cases hbig : 300 < n
  · rw [hn] at hbx ⊢
    have d1 : decide (300 < (n : Int)) = true := decide_eq_true (by omega)
    have HST := Aside0.mk hbx
    clear hbx hb1 hC
    go_enter Try.func6, Try.ntmps6
    go_wp2_with (go_at_call 7; (with_reducible refine (awake _).mono ?_); rintro e w1 ⟨rfl, hbl⟩; have hs := HST.out.below hbl; have s3 := blk_cell hs.blk 3; have HB := Aside0.mk hs; clear hbl hs)
    go_ret
    exact ⟨rfl, HB.out.bel⟩
  · have hx : okR (ou ⟨f0, f1, f2, l3, f4, f5⟩) := ⟨h0, h2, by show l3.length ≤ 300; omega, h4, h5⟩
    obtain ⟨m1, hm1⟩ : ∃ m, fM [] [] (ou ⟨f0, f1, f2, l3, f4, f5⟩) m0 = m := ⟨_, rfl⟩
    obtain ⟨g1, hg1⟩ : ∃ g, fG [] [] (ou ⟨f0, f1, f2, l3, f4, f5⟩) gl3 = g := ⟨_, rfl⟩
    obtain ⟨v, t, hvt⟩ : ∃ v t, fAns [] [] [] (ou ⟨f0, f1, f2, l3, f4, f5⟩) = (v, t) := ⟨_, _, rfl⟩
    have HX := Aside0.mk hx
    have HM1 := Aside0.mk hm1
    have HG1 := Aside0.mk hg1
    have HVT := Aside0.mk hvt
    have hlen1 : ([ou ⟨f0, f1, f2, l3, f4, f5⟩] : List S86).length = 1 := rfl
    rw [hn] at hbx ⊢
    have d1 : decide (300 < (n : Int)) = false := decide_eq_false (by omega)
    have HST := Aside0.mk hbx
    have HLN := Aside0.mk hn
    have HO3 := Aside0.mk hoct
    have HH := Aside0.mk (And.intro h2 (And.intro h4 h5))
    clear hbx hb1 hC hx hm1 hg1 hvt hlen1 h0 h2 h4 h5 hoct
    go_enter Try.func6, Try.ntmps6
    go_wp2_with (first
      | (go_at_call 7; (with_reducible refine (awake _).mono ?_); rintro e w1 ⟨rfl, hbl⟩; have hs := HST.out.below hbl; have hbk := hs.blk; have s0 := blk_cell hbk 0; have s1 := blk_cell hbk 1; have s2 := blk_cell hbk 2; have s3 := blk_cell hbk 3; have s4 := blk_cell hbk 4; have s5 := blk_cell hbk 5; have HB := Aside0.mk hs; clear hbl hs hbk)
      | (go_at_call 11; go_must (have hb2 := HB.out.box #[.int .u64 f0, .bool f1, .int .i64 f2, .slice A3 n c3, .int .i64 f4, .int .u64 f5] 82; (with_reducible refine (bndOurs (x := ⟨f0, f1, f2, l3, f4, f5⟩) HLN.out hb2.blk (Kd.C_below HC.out hb2.bel) (HLN.out ▸ hc)).mono ?_); rintro e w2 ⟨A5, d5, rfl, h5, hC5, hbl⟩; have HC5 := Aside0.mk hC5; have HB2 := Aside0.mk (hb2.drop.below hbl); clear hb2 hbl hC5))
      | (go_at_call 10; go_must ((with_reducible refine (bndNew HB2.out HC5.out h5 HX.out).mono ?_); rintro e w3 ⟨p, rfl, hs⟩; have HB3 := Aside0.mk hs; clear hs))
      | (go_at_call 17; go_must ((with_reducible refine (memNew1 HB3.out).mono ?_); rintro e w4 ⟨pm, rfl, hs⟩; have h6 := hs.newGlobs; obtain ⟨pg, hpg⟩ : ∃ b, w4.heap.size = b := ⟨_, rfl⟩; have hpg' : w4.heap.size = pg := hpg; rw [hpg] at h6; have HB4 := Aside0.mk h6; clear hs h6 hpg))
      | (go_at_call 19; (with_reducible refine (add3 HB6.out).mono ?_); rintro e w7 ⟨rfl, hs⟩; have HB7 := Aside0.mk hs; clear hs)
      | (go_at_call 19; (with_reducible refine (add127 HB5.out).mono ?_); rintro e w6 ⟨rfl, hs⟩; have HB6 := Aside0.mk hs; clear hs)
      | (go_at_call 19; (with_reducible refine (add126 HB4.out).mono ?_); rintro e w5 ⟨rfl, hs⟩; have HB5 := Aside0.mk hs; clear hs))
    --BLOCKS
    obtain ⟨WL, hWL⟩ : ∃ l, wantL f1 f4 f5 = l := ⟨_, rfl⟩
    have hGW : g1.map S109.f2 = WL := by rw [← HG1.out, ← hWL]; exact bnd_want _
    have hlg1 : g1.length ≤ 1000000 := by
      have h3 : (g1.map S109.f2).length = 3 := by
        rw [hGW, ← hWL]
        unfold wantL
        repeat' split
        all_goals rfl
      rw [List.length_map] at h3
      omega
    have HGA := Aside0.mk (fun (W : World) (L : List As) (hS : SB w W (GO pg g1 :: L)) => (show Calls Try.prog 25 #[.pointer (some ⟨pg, 0, none⟩)] W fun e w' => ∃ v, e = .returned v ∧ SB w w' (Row (Kd.int .u64) 31 v WL :: GO pg g1 :: L) from by
      have h3 := globAll hS hlg1
      rw [hGW] at h3
      exact h3))
    have HWL := Aside0.mk hWL
    have HDO := Aside0.mk (bndDo (HB7.out.pick3 [2, 1, 0]) HX.out HM1.out HG1.out HVT.out)
    clear hGW hWL
    obtain ⟨g2, g4, g5⟩ := HH.out
    unfold okI at g2 g4
    unfold okU at g5
    cases f1 with
    | true =>
      obtain rfl : m1 = m0 := by rw [← HM1.out]; exact bnd_fail rfl
      have hv : t = 10 ∧ v = 0 := by have h := HVT.out; exact ⟨(congrArg Prod.snd h).symm, (congrArg Prod.fst h).symm⟩
      obtain ⟨rfl, rfl⟩ := hv
      have hWL3 : [1, 2, 3] = WL := by rw [← HWL.out]; rfl
      have HWN := Aside0.mk (show WL.length = 3 by rw [← hWL3]; rfl)
      refine (HDO.out).mono ?_
      rintro e w8 ⟨rfl, hs⟩
      obtain ⟨wl, hwl⟩ : ∃ b, w8.heap.size = b := ⟨_, rfl⟩
      have hwl' : w8.heap.size = wl := hwl
      have h8 := hs.lit (e := 31) (k := .u64) [1, 2, 3] (by decide)
      rw [hwl] at h8
      have h8 : SB w (w8.alloc (.cells #[.int .u64 1, .int .u64 2, .int .u64 3] 31)) [Row (Kd.int .u64) 31 (.slice (some ⟨wl, 0, none⟩) 3 3) [1, 2, 3], MO pm m0, GO pg g1, Box b1 #[.int .u64 f0, .bool true, .int .i64 f2, .slice A3 n c3, .int .i64 f4, .int .u64 f5] 82] := h8
      have h9 := hs.lit (e := 31) (k := .u64) [1, 2, 3] (show 3 ≤ 1000000 by decide)
      rw [hwl] at h9
      have h9 : SB w (w8.alloc (.cells #[.int .u64 1, .int .u64 2, .int .u64 3] 31)) [Row (Kd.int .u64) 31 (.slice (some ⟨wl, 0, none⟩) 3 3) [1, 2, 3], MO pm m0, GO pg g1, Box b1 #[.int .u64 f0, .bool true, .int .i64 f2, .slice A3 n c3, .int .i64 f4, .int .u64 f5] 82] := h9
      rw [hWL3] at h9
      have hbk := ((hs.pick3 [2]).blk)
      have s1 := blk_cell hbk 1
      have s2 := blk_cell hbk 2
      have s3 := blk_cell hbk 3
      have s4 := blk_cell hbk 4
      have s5 := blk_cell hbk 5
      have hbk := ((h8.pick4 [3]).blk)
      have t1 := blk_cell hbk 1
      have t4 := blk_cell hbk 4
      have t5 := blk_cell hbk 5
      have t3 := blk_cell hbk 3
      have hbk := ((h9.pick4 [3]).blk)
      have u1 := blk_cell hbk 1
      have u2 := blk_cell hbk 2
      have u3 := blk_cell hbk 3
      have HW := Aside0.mk h9
      clear hs h8 h9 hbk hwl
      go_wp2
      go_quiet (fail)
      all_goals go_wp2_with (first
        | (go_at_call 17; (with_reducible refine (memNew1 (HW.out.drewN _)).mono ?_); rintro e w21 ⟨pb, rfl, hs⟩; have hbk := ((hs.pick5 [4]).blk); have z1 := blk_cell hbk 1; have H21 := Aside0.mk (hs.pick5 [2, 0, 1, 3, 4]); clear hs hbk)
        | (go_at_call 22; (with_reducible refine (memSum (H22.out.pick2 [1, 0]) good_b0).mono ?_); rintro e w23 ⟨rfl, hd⟩; have H23 := Aside0.mk (H22.out.below (drawn_below hd)); clear hd)
        | (go_at_call 22; (with_reducible refine (memSum H21.out good_b0).mono ?_); rintro e w22 ⟨rfl, hd⟩; have H22 := Aside0.mk (H21.out.below (drawn_below hd)); clear hd)
        | (go_at_call 25; go_must ((with_reducible refine (HGA.out _ _ (H23.out.pick4 [3, 2])).mono ?_); rintro e w24 ⟨v24, rfl, hs⟩; obtain ⟨A24, c24, rfl, hc24, _⟩ := hs.reads; rw [HWN.out] at hs hc24; rw [HWN.out]; have H24 := Aside0.mk hs; clear hs))
        | (go_at_call 24; go_must ((with_reducible refine (bndWords H24.out HWN.out hc24).mono ?_); rintro e w25 ⟨rfl, hs⟩; have H25 := Aside0.mk hs; clear hs)))
      all_goals first | (go_ret; exact ⟨by simp, H25.out.bel⟩) | (exfalso; have hz := beq_iff_eq.1 q4; omega) | trace_state
    | false =>
      have hv : t = 0 := by have h := HVT.out; exact (congrArg Prod.snd h).symm
      subst hv
      have hset : f4 = 0 ∨ (f4 = 1 ∧ f5 < 4294967296) ∨ (f4 = 1 ∧ ¬ f5 < 4294967296) ∨ (f4 ≠ 0 ∧ f4 ≠ 1) := by omega
      by_cases hmem : 0 ≤ f2 ∧ f2 + (n : Int) ≤ 65536 ∧ 0 < n
      · obtain ⟨a, rfl⟩ := Int.eq_ofNat_of_zero_le hmem.1
        have hal : a + l3.length ≤ 65536 := by have := HLN.out; omega
        obtain rfl : m1 = ⟨splice b0 a l3, 1, 0, false⟩ := by
          rw [← HM1.out]
          have h := bnd_yes (x := ou ⟨f0, false, (a : Int), l3, f4, f5⟩) rfl (show (0 : Int) ≤ (a : Int) by omega) (show (a : Int) + (l3.length : Int) ≤ 65536 by omega)
          have e : ((ou ⟨f0, false, (a : Int), l3, f4, f5⟩).f2).toNat = a := Int.toNat_natCast a
          rw [e] at h
          exact h
        have q0 : decide (0 ≤ (a : Int)) = true := decide_eq_true (by omega)
        have q1 : decide ((a : Int) ≤ 65536) = true := decide_eq_true (by omega)
        have q2 : IntKind.i64.wrap (65536 - (a : Int)) = 65536 - (a : Int) := by rw [IntKind.wrap_i64]; omega
        have q3 : decide ((n : Int) ≤ 65536 - (a : Int)) = true := decide_eq_true (by omega)
        have q4 : ((n : Int) == 0) = false := beq_eq_false_iff_ne.2 (by omega)
        have q4' : (n == 0) = false := beq_eq_false_iff_ne.2 (by omega)
        have q5 : decide (0 < (n : Int)) = true := decide_eq_true (by omega)
        have q5' : decide (0 < n) = true := decide_eq_true (by omega)
        have hmk := make_run n (by omega)
        have HGS := Aside0.mk (good_spl hal HO3.out)
        have HOA := Aside0.mk (show okI (a : Int) from ⟨by omega, by omega⟩)
        have HON := Aside0.mk (show okI (n : Int) from ⟨by omega, by omega⟩)
        have hby := bnd_bytes hal
        have hbk := bnd_back hal
        rw [HLN.out] at hby hbk
        have HBY := Aside0.mk hby
        have HBK := Aside0.mk hbk
        have HN300 := Aside0.mk (show n ≤ 300 by omega)
        clear hmem hby hbk
        rcases hset with h4c | h4c | h4c | h4c
        · obtain rfl := h4c
          have hWL3 : [f5, 2, 3] = WL := by rw [← HWL.out]; rfl
          have HWN := Aside0.mk (show WL.length = 3 by rw [← hWL3]; rfl)
          refine (HDO.out).mono ?_
          rintro e w8 ⟨rfl, hs⟩
          obtain ⟨wl, hwl⟩ : ∃ b, w8.heap.size = b := ⟨_, rfl⟩
          have hwl' : w8.heap.size = wl := hwl
          have h8 := hs.lit (e := 31) (k := .u64) [1, 2, 3] (by decide)
          rw [hwl] at h8
          have h8 : SB w (w8.alloc (.cells #[.int .u64 1, .int .u64 2, .int .u64 3] 31)) [Row (Kd.int .u64) 31 (.slice (some ⟨wl, 0, none⟩) 3 3) [1, 2, 3], MO pm ⟨splice b0 a l3, 1, 0, false⟩, GO pg g1, Box b1 #[.int .u64 f0, .bool false, .int .i64 (a : Int), .slice A3 n c3, .int .i64 0, .int .u64 f5] 82] := h8
          have h9 := hs.lit (e := 31) (k := .u64) [f5, 2, 3] (show 3 ≤ 1000000 by decide)
          rw [hwl] at h9
          have h9 : SB w (w8.alloc (.cells #[.int .u64 f5, .int .u64 2, .int .u64 3] 31)) [Row (Kd.int .u64) 31 (.slice (some ⟨wl, 0, none⟩) 3 3) [f5, 2, 3], MO pm ⟨splice b0 a l3, 1, 0, false⟩, GO pg g1, Box b1 #[.int .u64 f0, .bool false, .int .i64 (a : Int), .slice A3 n c3, .int .i64 0, .int .u64 f5] 82] := h9
          rw [hWL3] at h9
          have hbk := ((hs.pick3 [2]).blk)
          have s1 := blk_cell hbk 1
          have s2 := blk_cell hbk 2
          have s3 := blk_cell hbk 3
          have s4 := blk_cell hbk 4
          have s5 := blk_cell hbk 5
          have hbk := ((h8.pick4 [3]).blk)
          have t1 := blk_cell hbk 1
          have t4 := blk_cell hbk 4
          have t5 := blk_cell hbk 5
          have t3 := blk_cell hbk 3
          have hbk := ((h9.pick4 [3]).blk)
          have u1 := blk_cell hbk 1
          have u2 := blk_cell hbk 2
          have u3 := blk_cell hbk 3
          have HW := Aside0.mk h9
          clear hs h8 h9 hbk hwl
          go_wp2
          have hSW := (HW.out.pick4 [1, 0, 2, 3]).drew
          have hcs := fun (W : World) (hb : Below w.heap.size w W) => Kd.C_string (P := Try.prog) (c := c3) Try.underlying35 Try.underlying5 Try.underlying9 (Kd.C_below HC.out hb)
          rw [HLN.out] at hcs
          have HCS := Aside0.mk hcs
          clear hcs
          refine rg_start (n := 15) (S := fun w' => SB w w' [MO pm ⟨splice b0 a l3, 1, 0, false⟩, Row (Kd.int .u64) 31 (.slice (some ⟨wl, 0, none⟩) 3 3) WL, GO pg g1, Box b1 #[.int .u64 f0, .bool false, .int .i64 (a : Int), .slice A3 n c3, .int .i64 0, .int .u64 f5] 82]) (bm 15 0) (by kernel_rfl) rfl (by kernel_rfl) (hSW) (fun hHeld => ?_)
          refine rg_take (i := 0) (N := some 98) (v := ?_) (a' := ?_) (bm 15 1) rfl rfl (by kernel_rfl) (fun _ _ _ h => h) hHeld (Or.inl ⟨by rfl, ?_⟩) ?_ ?_
          rotate_left
          · intro w' hw'
            go_simp
            with_reducible rfl
          rotate_left
          · simp only [Act.put, List.setIfInBounds_toArray, List.set_cons_zero, List.set_cons_succ]
            rfl
          refine rg_take (i := 1) (N := some 99) (v := ?_) (a' := ?_) (bm 15 3) rfl rfl (by kernel_rfl) (fun _ _ _ h => h) hHeld (Or.inl ⟨by rfl, ?_⟩) ?_ ?_
          rotate_left
          · intro w' hw'
            go_simp
            with_reducible rfl
          rotate_left
          · simp only [Act.put, List.setIfInBounds_toArray, List.set_cons_zero, List.set_cons_succ]
            rfl
          refine rg_take (i := 2) (N := some 100) (v := ?_) (a' := ?_) (bm 15 7) rfl rfl (by kernel_rfl) (fun _ _ _ h => h) hHeld (Or.inl ⟨by rfl, ?_⟩) ?_ ?_
          rotate_left
          · intro w' hw'
            go_simp
            with_reducible rfl
          rotate_left
          · simp only [Act.put, List.setIfInBounds_toArray, List.set_cons_zero, List.set_cons_succ]
            rfl
          refine rg_take (i := 3) (N := some 101) (v := ?_) (a' := ?_) (bm 15 15) rfl rfl (by kernel_rfl) (fun _ _ _ h => h) hHeld (Or.inl ⟨by rfl, ?_⟩) ?_ ?_
          rotate_left
          · intro w' hw'
            go_simp
            with_reducible rfl
          rotate_left
          · simp only [Act.put, List.setIfInBounds_toArray, List.set_cons_zero, List.set_cons_succ]
            rfl
          refine rg_take (i := 4) (N := some 102) (v := ?_) (a' := ?_) (bm 15 31) rfl rfl (by kernel_rfl) (fun _ _ _ h => h) hHeld (Or.inl ⟨by rfl, ?_⟩) ?_ ?_
          rotate_left
          · intro w' hw'
            go_simp
            with_reducible rfl
          rotate_left
          · simp only [Act.put, List.setIfInBounds_toArray, List.set_cons_zero, List.set_cons_succ]
            rfl
          refine rg_take (i := 5) (N := some 103) (v := ?_) (a' := ?_) (bm 15 63) rfl rfl (by kernel_rfl) (fun _ _ _ h => h) hHeld (Or.inl ⟨by rfl, ?_⟩) ?_ ?_
          rotate_left
          · intro w' hw'
            have s2 := blk_cell (SB.blk (SB.pick hw' [3])) 2
            go_simp
            with_reducible rfl
          rotate_left
          · simp only [Act.put, List.setIfInBounds_toArray, List.set_cons_zero, List.set_cons_succ]
            rfl
          refine rg_take (i := 6) (N := some 104) (v := ?_) (a' := ?_) (bm 15 127) rfl rfl (by kernel_rfl) (fun _ _ _ h => h) hHeld (Or.inl ⟨by rfl, ?_⟩) ?_ ?_
          rotate_left
          · intro w' hw'
            go_simp
            with_reducible rfl
          rotate_left
          · simp only [Act.put, List.setIfInBounds_toArray, List.set_cons_zero, List.set_cons_succ]
            rfl
          refine rg_take (i := 9) (N := some 107) (v := ?_) (a' := ?_) (bm 15 639) rfl rfl (by kernel_rfl) (fun _ _ _ h => h) hHeld (Or.inl ⟨by rfl, ?_⟩) ?_ ?_
          rotate_left
          · intro w' hw'
            go_simp
            with_reducible rfl
          rotate_left
          · simp only [Act.put, List.setIfInBounds_toArray, List.set_cons_zero, List.set_cons_succ]
            rfl
          refine rg_take (i := 10) (N := some 108) (v := ?_) (a' := ?_) (bm 15 1663) rfl rfl (by kernel_rfl) (fun _ _ _ h => h) hHeld (Or.inl ⟨by rfl, ?_⟩) ?_ ?_
          rotate_left
          · intro w' hw'
            have s3 := blk_cell (SB.blk (SB.pick hw' [3])) 3
            go_simp
            with_reducible rfl
          rotate_left
          · simp only [Act.put, List.setIfInBounds_toArray, List.set_cons_zero, List.set_cons_succ]
            rfl
          refine rg_take (i := 11) (N := some 109) (v := ?_) (a' := ?_) (bm 15 3711) rfl rfl (by kernel_rfl) (fun _ _ _ h => h) hHeld (Or.inl ⟨by rfl, ?_⟩) ?_ ?_
          rotate_left
          · intro w' hw'
            have hc := HCS.out w' (SB.bel hw')
            go_simp
            with_reducible rfl
          rotate_left
          · simp only [Act.put, List.setIfInBounds_toArray, List.set_cons_zero, List.set_cons_succ]
            rfl
          refine rg_ready [7] (by kernel_rfl) (by simp) ?_
          refine rg_one (i := 7) (N := some 105) (bm 15 3839) rfl rfl (by kernel_rfl) (fun K hK => ?_) rg_nil
          go_simp
          go_at_call 28
          with_reducible refine (memBytesK hHeld HGS.out HOA.out HON.out HBY.out).mono ?_
          rintro e wx7r18 ⟨v7, rfl, hnew⟩
          go_wp2_with fail
          refine hK.out _ _ hnew.drop ?_
          clear hK K
          refine rg_norm (a' := ?_) ?_ ?_
          rotate_left
          · simp only [Act.put, List.setIfInBounds_toArray, List.set_cons_zero, List.set_cons_succ]
            rfl
          refine rg_sb hnew ?_
          clear hHeld
          have hHeld := hnew
          clear hnew
          refine rg_take (i := 8) (N := some 106) (v := ?_) (a' := ?_) (bm 15 4095) rfl rfl (by kernel_rfl) (fun _ _ _ h => h) hHeld (Or.inl ⟨by rfl, ?_⟩) ?_ ?_
          rotate_left
          · intro w' hw'
            have hc := SB.str (SB.pick hw' [0])
            go_simp
            with_reducible rfl
          rotate_left
          · simp only [Act.put, List.setIfInBounds_toArray, List.set_cons_zero, List.set_cons_succ]
            rfl
          refine rg_take (i := 12) (N := some 110) (v := ?_) (a' := ?_) (bm 15 8191) rfl rfl (by kernel_rfl) (fun _ _ _ h => h) hHeld (Or.inl ⟨by rfl, ?_⟩) ?_ ?_
          rotate_left
          · intro w' hw'
            go_simp
            with_reducible rfl
          rotate_left
          · simp only [Act.put, List.setIfInBounds_toArray, List.set_cons_zero, List.set_cons_succ]
            rfl
          refine rg_take (i := 13) (N := some 111) (v := ?_) (a' := ?_) (bm 15 16383) rfl rfl (by kernel_rfl) (fun _ _ _ h => h) hHeld (Or.inl ⟨by rfl, ?_⟩) ?_ ?_
          rotate_left
          · intro w' hw'
            go_simp
            with_reducible rfl
          rotate_left
          · simp only [Act.put, List.setIfInBounds_toArray, List.set_cons_zero, List.set_cons_succ]
            rfl
          refine rg_take (i := 14) (N := some 13) (v := ?_) (a' := ?_) (bm 15 32767) rfl rfl (by kernel_rfl) (fun _ _ _ h => h) hHeld (Or.inl ⟨by rfl, ?_⟩) ?_ ?_
          rotate_left
          · intro w' hw'
            go_simp
            with_reducible rfl
          rotate_left
          · simp only [Act.put, List.setIfInBounds_toArray, List.set_cons_zero, List.set_cons_succ]
            rfl
          refine rg_done (by kernel_rfl) ?_
          have HS18 := Aside0.mk (SB.drop hHeld)
          go_wp2
          have HSD := Aside0.mk HS18.out.drew
          have hbd : _ = some (Obj.cells #[.int .u64 f0, .bool false, .int .i64 (a : Int), .slice A3 n c3, .int .i64 0, .int .u64 f5] 82 (0, 0)) := (HSD.out.pick4 [3]).blk
          refine rg_startL (n := 6) (S := fun w' => w'.heap[b1]? = some (.cells #[.int .u64 f0, .bool false, .int .i64 (a : Int), .slice A3 n c3, .int .i64 0, .int .u64 f5] 82 (0, 0))) (bm 6 0) (by kernel_rfl) rfl (by kernel_rfl) (hbd) (fun we hwe hHeld => ?_)
          refine rg_take (i := 0) (N := some 114) (v := ?_) (a' := ?_) (bm 6 1) rfl rfl (by kernel_rfl) (fun _ _ _ h => h) hHeld (Or.inl ⟨by rfl, ?_⟩) ?_ ?_
          rotate_left
          · intro w' hw'
            have s2 := blk_cell hw' 2
            go_simp
            with_reducible rfl
          rotate_left
          · simp only [Act.put, List.setIfInBounds_toArray, List.set_cons_zero, List.set_cons_succ]
            rfl
          refine rg_take (i := 1) (N := some 115) (v := ?_) (a' := ?_) (bm 6 3) rfl rfl (by kernel_rfl) (fun _ _ _ h => h) hHeld (Or.inl ⟨by rfl, ?_⟩) ?_ ?_
          rotate_left
          · intro w' hw'
            have s2 := blk_cell hw' 2
            go_simp
            with_reducible rfl
          rotate_left
          · simp only [Act.put, List.setIfInBounds_toArray, List.set_cons_zero, List.set_cons_succ]
            rfl
          refine rg_take (i := 2) (N := some 116) (v := ?_) (a' := ?_) (bm 6 7) rfl rfl (by kernel_rfl) (fun _ _ _ h => h) hHeld (Or.inl ⟨by rfl, ?_⟩) ?_ ?_
          rotate_left
          · intro w' hw'
            have s2 := blk_cell hw' 2
            go_simp
            with_reducible rfl
          rotate_left
          · simp only [Act.put, List.setIfInBounds_toArray, List.set_cons_zero, List.set_cons_succ]
            rfl
          refine rg_take (i := 3) (N := some 117) (v := ?_) (a' := ?_) (bm 6 15) rfl rfl (by kernel_rfl) (fun _ _ _ h => h) hHeld (Or.inl ⟨by rfl, ?_⟩) ?_ ?_
          rotate_left
          · intro w' hw'
            have s2 := blk_cell hw' 2
            go_simp
            with_reducible rfl
          rotate_left
          · simp only [Act.put, List.setIfInBounds_toArray, List.set_cons_zero, List.set_cons_succ]
            rfl
          refine rg_ready [4] (by kernel_rfl) (by simp) ?_
          refine rg_one (i := 4) (N := some 118) (bm 6 31) rfl rfl (by kernel_rfl) (fun K hK => ?_) rg_nil
          have HD := Aside0.mk (hwe.out ▸ HSD.out)
          refine value_ (w1 := ?_) (v := ?_) (by rfl) rfl ?_ ?_
          rotate_left 2
          · go_simp
            constructor
            · rfl
            · rfl
          have h4 := SB.made (n := n) HD.out (by omega)
          have HD4 := Aside0.mk h4
          have hnew : _ = some (Obj.cells #[.int .u64 f0, .bool false, .int .i64 (a : Int), .slice A3 n c3, .int .i64 0, .int .u64 f5] 82 (0, 0)) := (h4.pick5 [4]).blk
          clear h4
          refine hK.out _ _ hnew ?_
          clear hK K
          refine rg_norm (a' := ?_) ?_ ?_
          rotate_left
          · simp only [Act.put, List.setIfInBounds_toArray, List.set_cons_zero, List.set_cons_succ]
            rfl
          clear hHeld
          have hHeld := hnew
          clear hnew
          refine rg_ready [5] (by kernel_rfl) (by simp) ?_
          refine rg_one (i := 5) (N := some 119) (bm 6 63) rfl rfl (by kernel_rfl) (fun K hK => ?_) rg_nil
          go_simp
          go_at_call 29
          with_reducible refine (memLayZ HD4.out HGS.out HOA.out HN300.out HBK.out).mono ?_
          rintro e wx4x5r20 ⟨⟨q, rfl⟩, hs⟩
          have HE := Aside0.mk (show SB w wx4x5r20 [Row (Kd.int .u64) 31 (.slice (some ⟨wl, 0, none⟩) 3 3) WL, MO pm m0, GO pg g1, Box b1 #[.int .u64 f0, .bool false, .int .i64 (a : Int), .slice A3 n c3, .int .i64 0, .int .u64 f5] 82] from hs.pick4 [1, 0, 2, 3])
          have hnew : _ = some (Obj.cells #[.int .u64 f0, .bool false, .int .i64 (a : Int), .slice A3 n c3, .int .i64 0, .int .u64 f5] 82 (0, 0)) := (HE.out.pick4 [3]).blk
          clear hs
          go_wp2_with fail
          refine hK.out _ _ hnew ?_
          clear hK K
          refine rg_norm (a' := ?_) ?_ ?_
          rotate_left
          · simp only [Act.put, List.setIfInBounds_toArray, List.set_cons_zero, List.set_cons_succ]
            rfl
          clear hHeld
          have hHeld := hnew
          clear hnew
          refine rg_done (by kernel_rfl) ?_
          all_goals go_wp2_with (first
            | (go_at_call 17; (with_reducible refine (memNew1 (HE.out)).mono ?_); rintro e w21 ⟨pb, rfl, hs⟩; have hbk := ((hs.pick5 [4]).blk); have z1 := blk_cell hbk 1; have H21 := Aside0.mk (hs.pick5 [2, 0, 1, 3, 4]); clear hs hbk)
            | (go_at_call 22; (with_reducible refine (memSum (H22.out.pick2 [1, 0]) good_b0).mono ?_); rintro e w23 ⟨rfl, hd⟩; have H23 := Aside0.mk (H22.out.below (drawn_below hd)); clear hd)
            | (go_at_call 22; (with_reducible refine (memSum H21.out good_b0).mono ?_); rintro e w22 ⟨rfl, hd⟩; have H22 := Aside0.mk (H21.out.below (drawn_below hd)); clear hd)
            | (go_at_call 25; go_must ((with_reducible refine (HGA.out _ _ (H23.out.pick4 [3, 2])).mono ?_); rintro e w24 ⟨v24, rfl, hs⟩; obtain ⟨A24, c24, rfl, hc24, _⟩ := hs.reads; rw [HWN.out] at hs hc24; rw [HWN.out]; have H24 := Aside0.mk hs; clear hs))
            | (go_at_call 24; go_must ((with_reducible refine (bndWords H24.out HWN.out hc24).mono ?_); rintro e w25 ⟨rfl, hs⟩; have H25 := Aside0.mk hs; clear hs)))
          all_goals first | (go_ret; exact ⟨by simp, H25.out.bel⟩) | (exfalso; have hz := beq_iff_eq.1 q4; omega) | trace_state
        · obtain ⟨rfl, h5c⟩ := h4c
          have hWL3 : [1, f5, 3] = WL := by rw [← HWL.out]; unfold wantL; rw [if_neg (by decide), if_neg (by decide), if_pos ⟨rfl, h5c⟩]
          have d5 : decide (f5 < 4294967296) = true := decide_eq_true h5c
          have HWN := Aside0.mk (show WL.length = 3 by rw [← hWL3]; rfl)
          refine (HDO.out).mono ?_
          rintro e w8 ⟨rfl, hs⟩
          obtain ⟨wl, hwl⟩ : ∃ b, w8.heap.size = b := ⟨_, rfl⟩
          have hwl' : w8.heap.size = wl := hwl
          have h8 := hs.lit (e := 31) (k := .u64) [1, 2, 3] (by decide)
          rw [hwl] at h8
          have h8 : SB w (w8.alloc (.cells #[.int .u64 1, .int .u64 2, .int .u64 3] 31)) [Row (Kd.int .u64) 31 (.slice (some ⟨wl, 0, none⟩) 3 3) [1, 2, 3], MO pm ⟨splice b0 a l3, 1, 0, false⟩, GO pg g1, Box b1 #[.int .u64 f0, .bool false, .int .i64 (a : Int), .slice A3 n c3, .int .i64 1, .int .u64 f5] 82] := h8
          have h9 := hs.lit (e := 31) (k := .u64) [1, f5, 3] (show 3 ≤ 1000000 by decide)
          rw [hwl] at h9
          have h9 : SB w (w8.alloc (.cells #[.int .u64 1, .int .u64 f5, .int .u64 3] 31)) [Row (Kd.int .u64) 31 (.slice (some ⟨wl, 0, none⟩) 3 3) [1, f5, 3], MO pm ⟨splice b0 a l3, 1, 0, false⟩, GO pg g1, Box b1 #[.int .u64 f0, .bool false, .int .i64 (a : Int), .slice A3 n c3, .int .i64 1, .int .u64 f5] 82] := h9
          rw [hWL3] at h9
          have hbk := ((hs.pick3 [2]).blk)
          have s1 := blk_cell hbk 1
          have s2 := blk_cell hbk 2
          have s3 := blk_cell hbk 3
          have s4 := blk_cell hbk 4
          have s5 := blk_cell hbk 5
          have hbk := ((h8.pick4 [3]).blk)
          have t1 := blk_cell hbk 1
          have t4 := blk_cell hbk 4
          have t5 := blk_cell hbk 5
          have t3 := blk_cell hbk 3
          have hbk := ((h9.pick4 [3]).blk)
          have u1 := blk_cell hbk 1
          have u2 := blk_cell hbk 2
          have u3 := blk_cell hbk 3
          have HW := Aside0.mk h9
          clear hs h8 h9 hbk hwl
          go_wp2
          have hSW := (HW.out.pick4 [1, 0, 2, 3]).drew
          have hcs := fun (W : World) (hb : Below w.heap.size w W) => Kd.C_string (P := Try.prog) (c := c3) Try.underlying35 Try.underlying5 Try.underlying9 (Kd.C_below HC.out hb)
          rw [HLN.out] at hcs
          have HCS := Aside0.mk hcs
          clear hcs
          refine rg_start (n := 15) (S := fun w' => SB w w' [MO pm ⟨splice b0 a l3, 1, 0, false⟩, Row (Kd.int .u64) 31 (.slice (some ⟨wl, 0, none⟩) 3 3) WL, GO pg g1, Box b1 #[.int .u64 f0, .bool false, .int .i64 (a : Int), .slice A3 n c3, .int .i64 1, .int .u64 f5] 82]) (bm 15 0) (by kernel_rfl) rfl (by kernel_rfl) (hSW) (fun hHeld => ?_)
          refine rg_take (i := 0) (N := some 98) (v := ?_) (a' := ?_) (bm 15 1) rfl rfl (by kernel_rfl) (fun _ _ _ h => h) hHeld (Or.inl ⟨by rfl, ?_⟩) ?_ ?_
          rotate_left
          · intro w' hw'
            go_simp
            with_reducible rfl
          rotate_left
          · simp only [Act.put, List.setIfInBounds_toArray, List.set_cons_zero, List.set_cons_succ]
            rfl
          refine rg_take (i := 1) (N := some 99) (v := ?_) (a' := ?_) (bm 15 3) rfl rfl (by kernel_rfl) (fun _ _ _ h => h) hHeld (Or.inl ⟨by rfl, ?_⟩) ?_ ?_
          rotate_left
          · intro w' hw'
            go_simp
            with_reducible rfl
          rotate_left
          · simp only [Act.put, List.setIfInBounds_toArray, List.set_cons_zero, List.set_cons_succ]
            rfl
          refine rg_take (i := 2) (N := some 100) (v := ?_) (a' := ?_) (bm 15 7) rfl rfl (by kernel_rfl) (fun _ _ _ h => h) hHeld (Or.inl ⟨by rfl, ?_⟩) ?_ ?_
          rotate_left
          · intro w' hw'
            go_simp
            with_reducible rfl
          rotate_left
          · simp only [Act.put, List.setIfInBounds_toArray, List.set_cons_zero, List.set_cons_succ]
            rfl
          refine rg_take (i := 3) (N := some 101) (v := ?_) (a' := ?_) (bm 15 15) rfl rfl (by kernel_rfl) (fun _ _ _ h => h) hHeld (Or.inl ⟨by rfl, ?_⟩) ?_ ?_
          rotate_left
          · intro w' hw'
            go_simp
            with_reducible rfl
          rotate_left
          · simp only [Act.put, List.setIfInBounds_toArray, List.set_cons_zero, List.set_cons_succ]
            rfl
          refine rg_take (i := 4) (N := some 102) (v := ?_) (a' := ?_) (bm 15 31) rfl rfl (by kernel_rfl) (fun _ _ _ h => h) hHeld (Or.inl ⟨by rfl, ?_⟩) ?_ ?_
          rotate_left
          · intro w' hw'
            go_simp
            with_reducible rfl
          rotate_left
          · simp only [Act.put, List.setIfInBounds_toArray, List.set_cons_zero, List.set_cons_succ]
            rfl
          refine rg_take (i := 5) (N := some 103) (v := ?_) (a' := ?_) (bm 15 63) rfl rfl (by kernel_rfl) (fun _ _ _ h => h) hHeld (Or.inl ⟨by rfl, ?_⟩) ?_ ?_
          rotate_left
          · intro w' hw'
            have s2 := blk_cell (SB.blk (SB.pick hw' [3])) 2
            go_simp
            with_reducible rfl
          rotate_left
          · simp only [Act.put, List.setIfInBounds_toArray, List.set_cons_zero, List.set_cons_succ]
            rfl
          refine rg_take (i := 6) (N := some 104) (v := ?_) (a' := ?_) (bm 15 127) rfl rfl (by kernel_rfl) (fun _ _ _ h => h) hHeld (Or.inl ⟨by rfl, ?_⟩) ?_ ?_
          rotate_left
          · intro w' hw'
            go_simp
            with_reducible rfl
          rotate_left
          · simp only [Act.put, List.setIfInBounds_toArray, List.set_cons_zero, List.set_cons_succ]
            rfl
          refine rg_take (i := 9) (N := some 107) (v := ?_) (a' := ?_) (bm 15 639) rfl rfl (by kernel_rfl) (fun _ _ _ h => h) hHeld (Or.inl ⟨by rfl, ?_⟩) ?_ ?_
          rotate_left
          · intro w' hw'
            go_simp
            with_reducible rfl
          rotate_left
          · simp only [Act.put, List.setIfInBounds_toArray, List.set_cons_zero, List.set_cons_succ]
            rfl
          refine rg_take (i := 10) (N := some 108) (v := ?_) (a' := ?_) (bm 15 1663) rfl rfl (by kernel_rfl) (fun _ _ _ h => h) hHeld (Or.inl ⟨by rfl, ?_⟩) ?_ ?_
          rotate_left
          · intro w' hw'
            have s3 := blk_cell (SB.blk (SB.pick hw' [3])) 3
            go_simp
            with_reducible rfl
          rotate_left
          · simp only [Act.put, List.setIfInBounds_toArray, List.set_cons_zero, List.set_cons_succ]
            rfl
          refine rg_take (i := 11) (N := some 109) (v := ?_) (a' := ?_) (bm 15 3711) rfl rfl (by kernel_rfl) (fun _ _ _ h => h) hHeld (Or.inl ⟨by rfl, ?_⟩) ?_ ?_
          rotate_left
          · intro w' hw'
            have hc := HCS.out w' (SB.bel hw')
            go_simp
            with_reducible rfl
          rotate_left
          · simp only [Act.put, List.setIfInBounds_toArray, List.set_cons_zero, List.set_cons_succ]
            rfl
          refine rg_ready [7] (by kernel_rfl) (by simp) ?_
          refine rg_one (i := 7) (N := some 105) (bm 15 3839) rfl rfl (by kernel_rfl) (fun K hK => ?_) rg_nil
          go_simp
          go_at_call 28
          with_reducible refine (memBytesK hHeld HGS.out HOA.out HON.out HBY.out).mono ?_
          rintro e wx7r18 ⟨v7, rfl, hnew⟩
          go_wp2_with fail
          refine hK.out _ _ hnew.drop ?_
          clear hK K
          refine rg_norm (a' := ?_) ?_ ?_
          rotate_left
          · simp only [Act.put, List.setIfInBounds_toArray, List.set_cons_zero, List.set_cons_succ]
            rfl
          refine rg_sb hnew ?_
          clear hHeld
          have hHeld := hnew
          clear hnew
          refine rg_take (i := 8) (N := some 106) (v := ?_) (a' := ?_) (bm 15 4095) rfl rfl (by kernel_rfl) (fun _ _ _ h => h) hHeld (Or.inl ⟨by rfl, ?_⟩) ?_ ?_
          rotate_left
          · intro w' hw'
            have hc := SB.str (SB.pick hw' [0])
            go_simp
            with_reducible rfl
          rotate_left
          · simp only [Act.put, List.setIfInBounds_toArray, List.set_cons_zero, List.set_cons_succ]
            rfl
          refine rg_take (i := 12) (N := some 110) (v := ?_) (a' := ?_) (bm 15 8191) rfl rfl (by kernel_rfl) (fun _ _ _ h => h) hHeld (Or.inl ⟨by rfl, ?_⟩) ?_ ?_
          rotate_left
          · intro w' hw'
            go_simp
            with_reducible rfl
          rotate_left
          · simp only [Act.put, List.setIfInBounds_toArray, List.set_cons_zero, List.set_cons_succ]
            rfl
          refine rg_take (i := 13) (N := some 111) (v := ?_) (a' := ?_) (bm 15 16383) rfl rfl (by kernel_rfl) (fun _ _ _ h => h) hHeld (Or.inl ⟨by rfl, ?_⟩) ?_ ?_
          rotate_left
          · intro w' hw'
            go_simp
            with_reducible rfl
          rotate_left
          · simp only [Act.put, List.setIfInBounds_toArray, List.set_cons_zero, List.set_cons_succ]
            rfl
          refine rg_take (i := 14) (N := some 13) (v := ?_) (a' := ?_) (bm 15 32767) rfl rfl (by kernel_rfl) (fun _ _ _ h => h) hHeld (Or.inl ⟨by rfl, ?_⟩) ?_ ?_
          rotate_left
          · intro w' hw'
            go_simp
            with_reducible rfl
          rotate_left
          · simp only [Act.put, List.setIfInBounds_toArray, List.set_cons_zero, List.set_cons_succ]
            rfl
          refine rg_done (by kernel_rfl) ?_
          have HS18 := Aside0.mk (SB.drop hHeld)
          go_wp2
          have HSD := Aside0.mk HS18.out.drew
          have hbd : _ = some (Obj.cells #[.int .u64 f0, .bool false, .int .i64 (a : Int), .slice A3 n c3, .int .i64 1, .int .u64 f5] 82 (0, 0)) := (HSD.out.pick4 [3]).blk
          refine rg_startL (n := 6) (S := fun w' => w'.heap[b1]? = some (.cells #[.int .u64 f0, .bool false, .int .i64 (a : Int), .slice A3 n c3, .int .i64 1, .int .u64 f5] 82 (0, 0))) (bm 6 0) (by kernel_rfl) rfl (by kernel_rfl) (hbd) (fun we hwe hHeld => ?_)
          refine rg_take (i := 0) (N := some 114) (v := ?_) (a' := ?_) (bm 6 1) rfl rfl (by kernel_rfl) (fun _ _ _ h => h) hHeld (Or.inl ⟨by rfl, ?_⟩) ?_ ?_
          rotate_left
          · intro w' hw'
            have s2 := blk_cell hw' 2
            go_simp
            with_reducible rfl
          rotate_left
          · simp only [Act.put, List.setIfInBounds_toArray, List.set_cons_zero, List.set_cons_succ]
            rfl
          refine rg_take (i := 1) (N := some 115) (v := ?_) (a' := ?_) (bm 6 3) rfl rfl (by kernel_rfl) (fun _ _ _ h => h) hHeld (Or.inl ⟨by rfl, ?_⟩) ?_ ?_
          rotate_left
          · intro w' hw'
            have s2 := blk_cell hw' 2
            go_simp
            with_reducible rfl
          rotate_left
          · simp only [Act.put, List.setIfInBounds_toArray, List.set_cons_zero, List.set_cons_succ]
            rfl
          refine rg_take (i := 2) (N := some 116) (v := ?_) (a' := ?_) (bm 6 7) rfl rfl (by kernel_rfl) (fun _ _ _ h => h) hHeld (Or.inl ⟨by rfl, ?_⟩) ?_ ?_
          rotate_left
          · intro w' hw'
            have s2 := blk_cell hw' 2
            go_simp
            with_reducible rfl
          rotate_left
          · simp only [Act.put, List.setIfInBounds_toArray, List.set_cons_zero, List.set_cons_succ]
            rfl
          refine rg_take (i := 3) (N := some 117) (v := ?_) (a' := ?_) (bm 6 15) rfl rfl (by kernel_rfl) (fun _ _ _ h => h) hHeld (Or.inl ⟨by rfl, ?_⟩) ?_ ?_
          rotate_left
          · intro w' hw'
            have s2 := blk_cell hw' 2
            go_simp
            with_reducible rfl
          rotate_left
          · simp only [Act.put, List.setIfInBounds_toArray, List.set_cons_zero, List.set_cons_succ]
            rfl
          refine rg_ready [4] (by kernel_rfl) (by simp) ?_
          refine rg_one (i := 4) (N := some 118) (bm 6 31) rfl rfl (by kernel_rfl) (fun K hK => ?_) rg_nil
          have HD := Aside0.mk (hwe.out ▸ HSD.out)
          refine value_ (w1 := ?_) (v := ?_) (by rfl) rfl ?_ ?_
          rotate_left 2
          · go_simp
            constructor
            · rfl
            · rfl
          have h4 := SB.made (n := n) HD.out (by omega)
          have HD4 := Aside0.mk h4
          have hnew : _ = some (Obj.cells #[.int .u64 f0, .bool false, .int .i64 (a : Int), .slice A3 n c3, .int .i64 1, .int .u64 f5] 82 (0, 0)) := (h4.pick5 [4]).blk
          clear h4
          refine hK.out _ _ hnew ?_
          clear hK K
          refine rg_norm (a' := ?_) ?_ ?_
          rotate_left
          · simp only [Act.put, List.setIfInBounds_toArray, List.set_cons_zero, List.set_cons_succ]
            rfl
          clear hHeld
          have hHeld := hnew
          clear hnew
          refine rg_ready [5] (by kernel_rfl) (by simp) ?_
          refine rg_one (i := 5) (N := some 119) (bm 6 63) rfl rfl (by kernel_rfl) (fun K hK => ?_) rg_nil
          go_simp
          go_at_call 29
          with_reducible refine (memLayZ HD4.out HGS.out HOA.out HN300.out HBK.out).mono ?_
          rintro e wx4x5r20 ⟨⟨q, rfl⟩, hs⟩
          have HE := Aside0.mk (show SB w wx4x5r20 [Row (Kd.int .u64) 31 (.slice (some ⟨wl, 0, none⟩) 3 3) WL, MO pm m0, GO pg g1, Box b1 #[.int .u64 f0, .bool false, .int .i64 (a : Int), .slice A3 n c3, .int .i64 1, .int .u64 f5] 82] from hs.pick4 [1, 0, 2, 3])
          have hnew : _ = some (Obj.cells #[.int .u64 f0, .bool false, .int .i64 (a : Int), .slice A3 n c3, .int .i64 1, .int .u64 f5] 82 (0, 0)) := (HE.out.pick4 [3]).blk
          clear hs
          go_wp2_with fail
          refine hK.out _ _ hnew ?_
          clear hK K
          refine rg_norm (a' := ?_) ?_ ?_
          rotate_left
          · simp only [Act.put, List.setIfInBounds_toArray, List.set_cons_zero, List.set_cons_succ]
            rfl
          clear hHeld
          have hHeld := hnew
          clear hnew
          refine rg_done (by kernel_rfl) ?_
          all_goals go_wp2_with (first
            | (go_at_call 17; (with_reducible refine (memNew1 (HE.out)).mono ?_); rintro e w21 ⟨pb, rfl, hs⟩; have hbk := ((hs.pick5 [4]).blk); have z1 := blk_cell hbk 1; have H21 := Aside0.mk (hs.pick5 [2, 0, 1, 3, 4]); clear hs hbk)
            | (go_at_call 22; (with_reducible refine (memSum (H22.out.pick2 [1, 0]) good_b0).mono ?_); rintro e w23 ⟨rfl, hd⟩; have H23 := Aside0.mk (H22.out.below (drawn_below hd)); clear hd)
            | (go_at_call 22; (with_reducible refine (memSum H21.out good_b0).mono ?_); rintro e w22 ⟨rfl, hd⟩; have H22 := Aside0.mk (H21.out.below (drawn_below hd)); clear hd)
            | (go_at_call 25; go_must ((with_reducible refine (HGA.out _ _ (H23.out.pick4 [3, 2])).mono ?_); rintro e w24 ⟨v24, rfl, hs⟩; obtain ⟨A24, c24, rfl, hc24, _⟩ := hs.reads; rw [HWN.out] at hs hc24; rw [HWN.out]; have H24 := Aside0.mk hs; clear hs))
            | (go_at_call 24; go_must ((with_reducible refine (bndWords H24.out HWN.out hc24).mono ?_); rintro e w25 ⟨rfl, hs⟩; have H25 := Aside0.mk hs; clear hs)))
          all_goals first | (go_ret; exact ⟨by simp, H25.out.bel⟩) | (exfalso; have hz := beq_iff_eq.1 q4; omega) | trace_state
        · obtain ⟨rfl, h5c⟩ := h4c
          have hWL3 : [1, 2, 3] = WL := by rw [← HWL.out]; unfold wantL; rw [if_neg (by decide), if_neg (by decide), if_neg (fun h => h5c h.2)]
          have d5 : decide (f5 < 4294967296) = false := decide_eq_false h5c
          have HWN := Aside0.mk (show WL.length = 3 by rw [← hWL3]; rfl)
          refine (HDO.out).mono ?_
          rintro e w8 ⟨rfl, hs⟩
          obtain ⟨wl, hwl⟩ : ∃ b, w8.heap.size = b := ⟨_, rfl⟩
          have hwl' : w8.heap.size = wl := hwl
          have h8 := hs.lit (e := 31) (k := .u64) [1, 2, 3] (by decide)
          rw [hwl] at h8
          have h8 : SB w (w8.alloc (.cells #[.int .u64 1, .int .u64 2, .int .u64 3] 31)) [Row (Kd.int .u64) 31 (.slice (some ⟨wl, 0, none⟩) 3 3) [1, 2, 3], MO pm ⟨splice b0 a l3, 1, 0, false⟩, GO pg g1, Box b1 #[.int .u64 f0, .bool false, .int .i64 (a : Int), .slice A3 n c3, .int .i64 1, .int .u64 f5] 82] := h8
          have h9 := hs.lit (e := 31) (k := .u64) [1, 2, 3] (show 3 ≤ 1000000 by decide)
          rw [hwl] at h9
          have h9 : SB w (w8.alloc (.cells #[.int .u64 1, .int .u64 2, .int .u64 3] 31)) [Row (Kd.int .u64) 31 (.slice (some ⟨wl, 0, none⟩) 3 3) [1, 2, 3], MO pm ⟨splice b0 a l3, 1, 0, false⟩, GO pg g1, Box b1 #[.int .u64 f0, .bool false, .int .i64 (a : Int), .slice A3 n c3, .int .i64 1, .int .u64 f5] 82] := h9
          rw [hWL3] at h9
          have hbk := ((hs.pick3 [2]).blk)
          have s1 := blk_cell hbk 1
          have s2 := blk_cell hbk 2
          have s3 := blk_cell hbk 3
          have s4 := blk_cell hbk 4
          have s5 := blk_cell hbk 5
          have hbk := ((h8.pick4 [3]).blk)
          have t1 := blk_cell hbk 1
          have t4 := blk_cell hbk 4
          have t5 := blk_cell hbk 5
          have t3 := blk_cell hbk 3
          have hbk := ((h9.pick4 [3]).blk)
          have u1 := blk_cell hbk 1
          have u2 := blk_cell hbk 2
          have u3 := blk_cell hbk 3
          have HW := Aside0.mk h9
          clear hs h8 h9 hbk hwl
          go_wp2
          have hSW := (HW.out.pick4 [1, 0, 2, 3]).drew
          have hcs := fun (W : World) (hb : Below w.heap.size w W) => Kd.C_string (P := Try.prog) (c := c3) Try.underlying35 Try.underlying5 Try.underlying9 (Kd.C_below HC.out hb)
          rw [HLN.out] at hcs
          have HCS := Aside0.mk hcs
          clear hcs
          refine rg_start (n := 15) (S := fun w' => SB w w' [MO pm ⟨splice b0 a l3, 1, 0, false⟩, Row (Kd.int .u64) 31 (.slice (some ⟨wl, 0, none⟩) 3 3) WL, GO pg g1, Box b1 #[.int .u64 f0, .bool false, .int .i64 (a : Int), .slice A3 n c3, .int .i64 1, .int .u64 f5] 82]) (bm 15 0) (by kernel_rfl) rfl (by kernel_rfl) (hSW) (fun hHeld => ?_)
          refine rg_take (i := 0) (N := some 98) (v := ?_) (a' := ?_) (bm 15 1) rfl rfl (by kernel_rfl) (fun _ _ _ h => h) hHeld (Or.inl ⟨by rfl, ?_⟩) ?_ ?_
          rotate_left
          · intro w' hw'
            go_simp
            with_reducible rfl
          rotate_left
          · simp only [Act.put, List.setIfInBounds_toArray, List.set_cons_zero, List.set_cons_succ]
            rfl
          refine rg_take (i := 1) (N := some 99) (v := ?_) (a' := ?_) (bm 15 3) rfl rfl (by kernel_rfl) (fun _ _ _ h => h) hHeld (Or.inl ⟨by rfl, ?_⟩) ?_ ?_
          rotate_left
          · intro w' hw'
            go_simp
            with_reducible rfl
          rotate_left
          · simp only [Act.put, List.setIfInBounds_toArray, List.set_cons_zero, List.set_cons_succ]
            rfl
          refine rg_take (i := 2) (N := some 100) (v := ?_) (a' := ?_) (bm 15 7) rfl rfl (by kernel_rfl) (fun _ _ _ h => h) hHeld (Or.inl ⟨by rfl, ?_⟩) ?_ ?_
          rotate_left
          · intro w' hw'
            go_simp
            with_reducible rfl
          rotate_left
          · simp only [Act.put, List.setIfInBounds_toArray, List.set_cons_zero, List.set_cons_succ]
            rfl
          refine rg_take (i := 3) (N := some 101) (v := ?_) (a' := ?_) (bm 15 15) rfl rfl (by kernel_rfl) (fun _ _ _ h => h) hHeld (Or.inl ⟨by rfl, ?_⟩) ?_ ?_
          rotate_left
          · intro w' hw'
            go_simp
            with_reducible rfl
          rotate_left
          · simp only [Act.put, List.setIfInBounds_toArray, List.set_cons_zero, List.set_cons_succ]
            rfl
          refine rg_take (i := 4) (N := some 102) (v := ?_) (a' := ?_) (bm 15 31) rfl rfl (by kernel_rfl) (fun _ _ _ h => h) hHeld (Or.inl ⟨by rfl, ?_⟩) ?_ ?_
          rotate_left
          · intro w' hw'
            go_simp
            with_reducible rfl
          rotate_left
          · simp only [Act.put, List.setIfInBounds_toArray, List.set_cons_zero, List.set_cons_succ]
            rfl
          refine rg_take (i := 5) (N := some 103) (v := ?_) (a' := ?_) (bm 15 63) rfl rfl (by kernel_rfl) (fun _ _ _ h => h) hHeld (Or.inl ⟨by rfl, ?_⟩) ?_ ?_
          rotate_left
          · intro w' hw'
            have s2 := blk_cell (SB.blk (SB.pick hw' [3])) 2
            go_simp
            with_reducible rfl
          rotate_left
          · simp only [Act.put, List.setIfInBounds_toArray, List.set_cons_zero, List.set_cons_succ]
            rfl
          refine rg_take (i := 6) (N := some 104) (v := ?_) (a' := ?_) (bm 15 127) rfl rfl (by kernel_rfl) (fun _ _ _ h => h) hHeld (Or.inl ⟨by rfl, ?_⟩) ?_ ?_
          rotate_left
          · intro w' hw'
            go_simp
            with_reducible rfl
          rotate_left
          · simp only [Act.put, List.setIfInBounds_toArray, List.set_cons_zero, List.set_cons_succ]
            rfl
          refine rg_take (i := 9) (N := some 107) (v := ?_) (a' := ?_) (bm 15 639) rfl rfl (by kernel_rfl) (fun _ _ _ h => h) hHeld (Or.inl ⟨by rfl, ?_⟩) ?_ ?_
          rotate_left
          · intro w' hw'
            go_simp
            with_reducible rfl
          rotate_left
          · simp only [Act.put, List.setIfInBounds_toArray, List.set_cons_zero, List.set_cons_succ]
            rfl
          refine rg_take (i := 10) (N := some 108) (v := ?_) (a' := ?_) (bm 15 1663) rfl rfl (by kernel_rfl) (fun _ _ _ h => h) hHeld (Or.inl ⟨by rfl, ?_⟩) ?_ ?_
          rotate_left
          · intro w' hw'
            have s3 := blk_cell (SB.blk (SB.pick hw' [3])) 3
            go_simp
            with_reducible rfl
          rotate_left
          · simp only [Act.put, List.setIfInBounds_toArray, List.set_cons_zero, List.set_cons_succ]
            rfl
          refine rg_take (i := 11) (N := some 109) (v := ?_) (a' := ?_) (bm 15 3711) rfl rfl (by kernel_rfl) (fun _ _ _ h => h) hHeld (Or.inl ⟨by rfl, ?_⟩) ?_ ?_
          rotate_left
          · intro w' hw'
            have hc := HCS.out w' (SB.bel hw')
            go_simp
            with_reducible rfl
          rotate_left
          · simp only [Act.put, List.setIfInBounds_toArray, List.set_cons_zero, List.set_cons_succ]
            rfl
          refine rg_ready [7] (by kernel_rfl) (by simp) ?_
          refine rg_one (i := 7) (N := some 105) (bm 15 3839) rfl rfl (by kernel_rfl) (fun K hK => ?_) rg_nil
          go_simp
          go_at_call 28
          with_reducible refine (memBytesK hHeld HGS.out HOA.out HON.out HBY.out).mono ?_
          rintro e wx7r18 ⟨v7, rfl, hnew⟩
          go_wp2_with fail
          refine hK.out _ _ hnew.drop ?_
          clear hK K
          refine rg_norm (a' := ?_) ?_ ?_
          rotate_left
          · simp only [Act.put, List.setIfInBounds_toArray, List.set_cons_zero, List.set_cons_succ]
            rfl
          refine rg_sb hnew ?_
          clear hHeld
          have hHeld := hnew
          clear hnew
          refine rg_take (i := 8) (N := some 106) (v := ?_) (a' := ?_) (bm 15 4095) rfl rfl (by kernel_rfl) (fun _ _ _ h => h) hHeld (Or.inl ⟨by rfl, ?_⟩) ?_ ?_
          rotate_left
          · intro w' hw'
            have hc := SB.str (SB.pick hw' [0])
            go_simp
            with_reducible rfl
          rotate_left
          · simp only [Act.put, List.setIfInBounds_toArray, List.set_cons_zero, List.set_cons_succ]
            rfl
          refine rg_take (i := 12) (N := some 110) (v := ?_) (a' := ?_) (bm 15 8191) rfl rfl (by kernel_rfl) (fun _ _ _ h => h) hHeld (Or.inl ⟨by rfl, ?_⟩) ?_ ?_
          rotate_left
          · intro w' hw'
            go_simp
            with_reducible rfl
          rotate_left
          · simp only [Act.put, List.setIfInBounds_toArray, List.set_cons_zero, List.set_cons_succ]
            rfl
          refine rg_take (i := 13) (N := some 111) (v := ?_) (a' := ?_) (bm 15 16383) rfl rfl (by kernel_rfl) (fun _ _ _ h => h) hHeld (Or.inl ⟨by rfl, ?_⟩) ?_ ?_
          rotate_left
          · intro w' hw'
            go_simp
            with_reducible rfl
          rotate_left
          · simp only [Act.put, List.setIfInBounds_toArray, List.set_cons_zero, List.set_cons_succ]
            rfl
          refine rg_take (i := 14) (N := some 13) (v := ?_) (a' := ?_) (bm 15 32767) rfl rfl (by kernel_rfl) (fun _ _ _ h => h) hHeld (Or.inl ⟨by rfl, ?_⟩) ?_ ?_
          rotate_left
          · intro w' hw'
            go_simp
            with_reducible rfl
          rotate_left
          · simp only [Act.put, List.setIfInBounds_toArray, List.set_cons_zero, List.set_cons_succ]
            rfl
          refine rg_done (by kernel_rfl) ?_
          have HS18 := Aside0.mk (SB.drop hHeld)
          go_wp2
          have HSD := Aside0.mk HS18.out.drew
          have hbd : _ = some (Obj.cells #[.int .u64 f0, .bool false, .int .i64 (a : Int), .slice A3 n c3, .int .i64 1, .int .u64 f5] 82 (0, 0)) := (HSD.out.pick4 [3]).blk
          refine rg_startL (n := 6) (S := fun w' => w'.heap[b1]? = some (.cells #[.int .u64 f0, .bool false, .int .i64 (a : Int), .slice A3 n c3, .int .i64 1, .int .u64 f5] 82 (0, 0))) (bm 6 0) (by kernel_rfl) rfl (by kernel_rfl) (hbd) (fun we hwe hHeld => ?_)
          refine rg_take (i := 0) (N := some 114) (v := ?_) (a' := ?_) (bm 6 1) rfl rfl (by kernel_rfl) (fun _ _ _ h => h) hHeld (Or.inl ⟨by rfl, ?_⟩) ?_ ?_
          rotate_left
          · intro w' hw'
            have s2 := blk_cell hw' 2
            go_simp
            with_reducible rfl
          rotate_left
          · simp only [Act.put, List.setIfInBounds_toArray, List.set_cons_zero, List.set_cons_succ]
            rfl
          refine rg_take (i := 1) (N := some 115) (v := ?_) (a' := ?_) (bm 6 3) rfl rfl (by kernel_rfl) (fun _ _ _ h => h) hHeld (Or.inl ⟨by rfl, ?_⟩) ?_ ?_
          rotate_left
          · intro w' hw'
            have s2 := blk_cell hw' 2
            go_simp
            with_reducible rfl
          rotate_left
          · simp only [Act.put, List.setIfInBounds_toArray, List.set_cons_zero, List.set_cons_succ]
            rfl
          refine rg_take (i := 2) (N := some 116) (v := ?_) (a' := ?_) (bm 6 7) rfl rfl (by kernel_rfl) (fun _ _ _ h => h) hHeld (Or.inl ⟨by rfl, ?_⟩) ?_ ?_
          rotate_left
          · intro w' hw'
            have s2 := blk_cell hw' 2
            go_simp
            with_reducible rfl
          rotate_left
          · simp only [Act.put, List.setIfInBounds_toArray, List.set_cons_zero, List.set_cons_succ]
            rfl
          refine rg_take (i := 3) (N := some 117) (v := ?_) (a' := ?_) (bm 6 15) rfl rfl (by kernel_rfl) (fun _ _ _ h => h) hHeld (Or.inl ⟨by rfl, ?_⟩) ?_ ?_
          rotate_left
          · intro w' hw'
            have s2 := blk_cell hw' 2
            go_simp
            with_reducible rfl
          rotate_left
          · simp only [Act.put, List.setIfInBounds_toArray, List.set_cons_zero, List.set_cons_succ]
            rfl
          refine rg_ready [4] (by kernel_rfl) (by simp) ?_
          refine rg_one (i := 4) (N := some 118) (bm 6 31) rfl rfl (by kernel_rfl) (fun K hK => ?_) rg_nil
          have HD := Aside0.mk (hwe.out ▸ HSD.out)
          refine value_ (w1 := ?_) (v := ?_) (by rfl) rfl ?_ ?_
          rotate_left 2
          · go_simp
            constructor
            · rfl
            · rfl
          have h4 := SB.made (n := n) HD.out (by omega)
          have HD4 := Aside0.mk h4
          have hnew : _ = some (Obj.cells #[.int .u64 f0, .bool false, .int .i64 (a : Int), .slice A3 n c3, .int .i64 1, .int .u64 f5] 82 (0, 0)) := (h4.pick5 [4]).blk
          clear h4
          refine hK.out _ _ hnew ?_
          clear hK K
          refine rg_norm (a' := ?_) ?_ ?_
          rotate_left
          · simp only [Act.put, List.setIfInBounds_toArray, List.set_cons_zero, List.set_cons_succ]
            rfl
          clear hHeld
          have hHeld := hnew
          clear hnew
          refine rg_ready [5] (by kernel_rfl) (by simp) ?_
          refine rg_one (i := 5) (N := some 119) (bm 6 63) rfl rfl (by kernel_rfl) (fun K hK => ?_) rg_nil
          go_simp
          go_at_call 29
          with_reducible refine (memLayZ HD4.out HGS.out HOA.out HN300.out HBK.out).mono ?_
          rintro e wx4x5r20 ⟨⟨q, rfl⟩, hs⟩
          have HE := Aside0.mk (show SB w wx4x5r20 [Row (Kd.int .u64) 31 (.slice (some ⟨wl, 0, none⟩) 3 3) WL, MO pm m0, GO pg g1, Box b1 #[.int .u64 f0, .bool false, .int .i64 (a : Int), .slice A3 n c3, .int .i64 1, .int .u64 f5] 82] from hs.pick4 [1, 0, 2, 3])
          have hnew : _ = some (Obj.cells #[.int .u64 f0, .bool false, .int .i64 (a : Int), .slice A3 n c3, .int .i64 1, .int .u64 f5] 82 (0, 0)) := (HE.out.pick4 [3]).blk
          clear hs
          go_wp2_with fail
          refine hK.out _ _ hnew ?_
          clear hK K
          refine rg_norm (a' := ?_) ?_ ?_
          rotate_left
          · simp only [Act.put, List.setIfInBounds_toArray, List.set_cons_zero, List.set_cons_succ]
            rfl
          clear hHeld
          have hHeld := hnew
          clear hnew
          refine rg_done (by kernel_rfl) ?_
          all_goals go_wp2_with (first
            | (go_at_call 17; (with_reducible refine (memNew1 (HE.out)).mono ?_); rintro e w21 ⟨pb, rfl, hs⟩; have hbk := ((hs.pick5 [4]).blk); have z1 := blk_cell hbk 1; have H21 := Aside0.mk (hs.pick5 [2, 0, 1, 3, 4]); clear hs hbk)
            | (go_at_call 22; (with_reducible refine (memSum (H22.out.pick2 [1, 0]) good_b0).mono ?_); rintro e w23 ⟨rfl, hd⟩; have H23 := Aside0.mk (H22.out.below (drawn_below hd)); clear hd)
            | (go_at_call 22; (with_reducible refine (memSum H21.out good_b0).mono ?_); rintro e w22 ⟨rfl, hd⟩; have H22 := Aside0.mk (H21.out.below (drawn_below hd)); clear hd)
            | (go_at_call 25; go_must ((with_reducible refine (HGA.out _ _ (H23.out.pick4 [3, 2])).mono ?_); rintro e w24 ⟨v24, rfl, hs⟩; obtain ⟨A24, c24, rfl, hc24, _⟩ := hs.reads; rw [HWN.out] at hs hc24; rw [HWN.out]; have H24 := Aside0.mk hs; clear hs))
            | (go_at_call 24; go_must ((with_reducible refine (bndWords H24.out HWN.out hc24).mono ?_); rintro e w25 ⟨rfl, hs⟩; have H25 := Aside0.mk hs; clear hs)))
          all_goals first | (go_ret; exact ⟨by simp, H25.out.bel⟩) | (exfalso; have hz := beq_iff_eq.1 q4; omega) | trace_state
        · obtain ⟨h40, h41⟩ := h4c
          have hWL3 : [1, 2, 3] = WL := by rw [← HWL.out]; unfold wantL; rw [if_neg (by decide), if_neg h40, if_neg (fun h => h41 h.1)]
          have d40 : (f4 == 0) = false := beq_eq_false_iff_ne.2 h40
          have d41 : (f4 == 1) = false := beq_eq_false_iff_ne.2 h41
          have HWN := Aside0.mk (show WL.length = 3 by rw [← hWL3]; rfl)
          refine (HDO.out).mono ?_
          rintro e w8 ⟨rfl, hs⟩
          obtain ⟨wl, hwl⟩ : ∃ b, w8.heap.size = b := ⟨_, rfl⟩
          have hwl' : w8.heap.size = wl := hwl
          have h8 := hs.lit (e := 31) (k := .u64) [1, 2, 3] (by decide)
          rw [hwl] at h8
          have h8 : SB w (w8.alloc (.cells #[.int .u64 1, .int .u64 2, .int .u64 3] 31)) [Row (Kd.int .u64) 31 (.slice (some ⟨wl, 0, none⟩) 3 3) [1, 2, 3], MO pm ⟨splice b0 a l3, 1, 0, false⟩, GO pg g1, Box b1 #[.int .u64 f0, .bool false, .int .i64 (a : Int), .slice A3 n c3, .int .i64 f4, .int .u64 f5] 82] := h8
          have h9 := hs.lit (e := 31) (k := .u64) [1, 2, 3] (show 3 ≤ 1000000 by decide)
          rw [hwl] at h9
          have h9 : SB w (w8.alloc (.cells #[.int .u64 1, .int .u64 2, .int .u64 3] 31)) [Row (Kd.int .u64) 31 (.slice (some ⟨wl, 0, none⟩) 3 3) [1, 2, 3], MO pm ⟨splice b0 a l3, 1, 0, false⟩, GO pg g1, Box b1 #[.int .u64 f0, .bool false, .int .i64 (a : Int), .slice A3 n c3, .int .i64 f4, .int .u64 f5] 82] := h9
          rw [hWL3] at h9
          have hbk := ((hs.pick3 [2]).blk)
          have s1 := blk_cell hbk 1
          have s2 := blk_cell hbk 2
          have s3 := blk_cell hbk 3
          have s4 := blk_cell hbk 4
          have s5 := blk_cell hbk 5
          have hbk := ((h8.pick4 [3]).blk)
          have t1 := blk_cell hbk 1
          have t4 := blk_cell hbk 4
          have t5 := blk_cell hbk 5
          have t3 := blk_cell hbk 3
          have hbk := ((h9.pick4 [3]).blk)
          have u1 := blk_cell hbk 1
          have u2 := blk_cell hbk 2
          have u3 := blk_cell hbk 3
          have HW := Aside0.mk h9
          clear hs h8 h9 hbk hwl
          go_wp2
          have hSW := (HW.out.pick4 [1, 0, 2, 3]).drew
          have hcs := fun (W : World) (hb : Below w.heap.size w W) => Kd.C_string (P := Try.prog) (c := c3) Try.underlying35 Try.underlying5 Try.underlying9 (Kd.C_below HC.out hb)
          rw [HLN.out] at hcs
          have HCS := Aside0.mk hcs
          clear hcs
          refine rg_start (n := 15) (S := fun w' => SB w w' [MO pm ⟨splice b0 a l3, 1, 0, false⟩, Row (Kd.int .u64) 31 (.slice (some ⟨wl, 0, none⟩) 3 3) WL, GO pg g1, Box b1 #[.int .u64 f0, .bool false, .int .i64 (a : Int), .slice A3 n c3, .int .i64 f4, .int .u64 f5] 82]) (bm 15 0) (by kernel_rfl) rfl (by kernel_rfl) (hSW) (fun hHeld => ?_)
          refine rg_take (i := 0) (N := some 98) (v := ?_) (a' := ?_) (bm 15 1) rfl rfl (by kernel_rfl) (fun _ _ _ h => h) hHeld (Or.inl ⟨by rfl, ?_⟩) ?_ ?_
          rotate_left
          · intro w' hw'
            go_simp
            with_reducible rfl
          rotate_left
          · simp only [Act.put, List.setIfInBounds_toArray, List.set_cons_zero, List.set_cons_succ]
            rfl
          refine rg_take (i := 1) (N := some 99) (v := ?_) (a' := ?_) (bm 15 3) rfl rfl (by kernel_rfl) (fun _ _ _ h => h) hHeld (Or.inl ⟨by rfl, ?_⟩) ?_ ?_
          rotate_left
          · intro w' hw'
            go_simp
            with_reducible rfl
          rotate_left
          · simp only [Act.put, List.setIfInBounds_toArray, List.set_cons_zero, List.set_cons_succ]
            rfl
          refine rg_take (i := 2) (N := some 100) (v := ?_) (a' := ?_) (bm 15 7) rfl rfl (by kernel_rfl) (fun _ _ _ h => h) hHeld (Or.inl ⟨by rfl, ?_⟩) ?_ ?_
          rotate_left
          · intro w' hw'
            go_simp
            with_reducible rfl
          rotate_left
          · simp only [Act.put, List.setIfInBounds_toArray, List.set_cons_zero, List.set_cons_succ]
            rfl
          refine rg_take (i := 3) (N := some 101) (v := ?_) (a' := ?_) (bm 15 15) rfl rfl (by kernel_rfl) (fun _ _ _ h => h) hHeld (Or.inl ⟨by rfl, ?_⟩) ?_ ?_
          rotate_left
          · intro w' hw'
            go_simp
            with_reducible rfl
          rotate_left
          · simp only [Act.put, List.setIfInBounds_toArray, List.set_cons_zero, List.set_cons_succ]
            rfl
          refine rg_take (i := 4) (N := some 102) (v := ?_) (a' := ?_) (bm 15 31) rfl rfl (by kernel_rfl) (fun _ _ _ h => h) hHeld (Or.inl ⟨by rfl, ?_⟩) ?_ ?_
          rotate_left
          · intro w' hw'
            go_simp
            with_reducible rfl
          rotate_left
          · simp only [Act.put, List.setIfInBounds_toArray, List.set_cons_zero, List.set_cons_succ]
            rfl
          refine rg_take (i := 5) (N := some 103) (v := ?_) (a' := ?_) (bm 15 63) rfl rfl (by kernel_rfl) (fun _ _ _ h => h) hHeld (Or.inl ⟨by rfl, ?_⟩) ?_ ?_
          rotate_left
          · intro w' hw'
            have s2 := blk_cell (SB.blk (SB.pick hw' [3])) 2
            go_simp
            with_reducible rfl
          rotate_left
          · simp only [Act.put, List.setIfInBounds_toArray, List.set_cons_zero, List.set_cons_succ]
            rfl
          refine rg_take (i := 6) (N := some 104) (v := ?_) (a' := ?_) (bm 15 127) rfl rfl (by kernel_rfl) (fun _ _ _ h => h) hHeld (Or.inl ⟨by rfl, ?_⟩) ?_ ?_
          rotate_left
          · intro w' hw'
            go_simp
            with_reducible rfl
          rotate_left
          · simp only [Act.put, List.setIfInBounds_toArray, List.set_cons_zero, List.set_cons_succ]
            rfl
          refine rg_take (i := 9) (N := some 107) (v := ?_) (a' := ?_) (bm 15 639) rfl rfl (by kernel_rfl) (fun _ _ _ h => h) hHeld (Or.inl ⟨by rfl, ?_⟩) ?_ ?_
          rotate_left
          · intro w' hw'
            go_simp
            with_reducible rfl
          rotate_left
          · simp only [Act.put, List.setIfInBounds_toArray, List.set_cons_zero, List.set_cons_succ]
            rfl
          refine rg_take (i := 10) (N := some 108) (v := ?_) (a' := ?_) (bm 15 1663) rfl rfl (by kernel_rfl) (fun _ _ _ h => h) hHeld (Or.inl ⟨by rfl, ?_⟩) ?_ ?_
          rotate_left
          · intro w' hw'
            have s3 := blk_cell (SB.blk (SB.pick hw' [3])) 3
            go_simp
            with_reducible rfl
          rotate_left
          · simp only [Act.put, List.setIfInBounds_toArray, List.set_cons_zero, List.set_cons_succ]
            rfl
          refine rg_take (i := 11) (N := some 109) (v := ?_) (a' := ?_) (bm 15 3711) rfl rfl (by kernel_rfl) (fun _ _ _ h => h) hHeld (Or.inl ⟨by rfl, ?_⟩) ?_ ?_
          rotate_left
          · intro w' hw'
            have hc := HCS.out w' (SB.bel hw')
            go_simp
            with_reducible rfl
          rotate_left
          · simp only [Act.put, List.setIfInBounds_toArray, List.set_cons_zero, List.set_cons_succ]
            rfl
          refine rg_ready [7] (by kernel_rfl) (by simp) ?_
          refine rg_one (i := 7) (N := some 105) (bm 15 3839) rfl rfl (by kernel_rfl) (fun K hK => ?_) rg_nil
          go_simp
          go_at_call 28
          with_reducible refine (memBytesK hHeld HGS.out HOA.out HON.out HBY.out).mono ?_
          rintro e wx7r18 ⟨v7, rfl, hnew⟩
          go_wp2_with fail
          refine hK.out _ _ hnew.drop ?_
          clear hK K
          refine rg_norm (a' := ?_) ?_ ?_
          rotate_left
          · simp only [Act.put, List.setIfInBounds_toArray, List.set_cons_zero, List.set_cons_succ]
            rfl
          refine rg_sb hnew ?_
          clear hHeld
          have hHeld := hnew
          clear hnew
          refine rg_take (i := 8) (N := some 106) (v := ?_) (a' := ?_) (bm 15 4095) rfl rfl (by kernel_rfl) (fun _ _ _ h => h) hHeld (Or.inl ⟨by rfl, ?_⟩) ?_ ?_
          rotate_left
          · intro w' hw'
            have hc := SB.str (SB.pick hw' [0])
            go_simp
            with_reducible rfl
          rotate_left
          · simp only [Act.put, List.setIfInBounds_toArray, List.set_cons_zero, List.set_cons_succ]
            rfl
          refine rg_take (i := 12) (N := some 110) (v := ?_) (a' := ?_) (bm 15 8191) rfl rfl (by kernel_rfl) (fun _ _ _ h => h) hHeld (Or.inl ⟨by rfl, ?_⟩) ?_ ?_
          rotate_left
          · intro w' hw'
            go_simp
            with_reducible rfl
          rotate_left
          · simp only [Act.put, List.setIfInBounds_toArray, List.set_cons_zero, List.set_cons_succ]
            rfl
          refine rg_take (i := 13) (N := some 111) (v := ?_) (a' := ?_) (bm 15 16383) rfl rfl (by kernel_rfl) (fun _ _ _ h => h) hHeld (Or.inl ⟨by rfl, ?_⟩) ?_ ?_
          rotate_left
          · intro w' hw'
            go_simp
            with_reducible rfl
          rotate_left
          · simp only [Act.put, List.setIfInBounds_toArray, List.set_cons_zero, List.set_cons_succ]
            rfl
          refine rg_take (i := 14) (N := some 13) (v := ?_) (a' := ?_) (bm 15 32767) rfl rfl (by kernel_rfl) (fun _ _ _ h => h) hHeld (Or.inl ⟨by rfl, ?_⟩) ?_ ?_
          rotate_left
          · intro w' hw'
            go_simp
            with_reducible rfl
          rotate_left
          · simp only [Act.put, List.setIfInBounds_toArray, List.set_cons_zero, List.set_cons_succ]
            rfl
          refine rg_done (by kernel_rfl) ?_
          have HS18 := Aside0.mk (SB.drop hHeld)
          go_wp2
          have HSD := Aside0.mk HS18.out.drew
          have hbd : _ = some (Obj.cells #[.int .u64 f0, .bool false, .int .i64 (a : Int), .slice A3 n c3, .int .i64 f4, .int .u64 f5] 82 (0, 0)) := (HSD.out.pick4 [3]).blk
          refine rg_startL (n := 6) (S := fun w' => w'.heap[b1]? = some (.cells #[.int .u64 f0, .bool false, .int .i64 (a : Int), .slice A3 n c3, .int .i64 f4, .int .u64 f5] 82 (0, 0))) (bm 6 0) (by kernel_rfl) rfl (by kernel_rfl) (hbd) (fun we hwe hHeld => ?_)
          refine rg_take (i := 0) (N := some 114) (v := ?_) (a' := ?_) (bm 6 1) rfl rfl (by kernel_rfl) (fun _ _ _ h => h) hHeld (Or.inl ⟨by rfl, ?_⟩) ?_ ?_
          rotate_left
          · intro w' hw'
            have s2 := blk_cell hw' 2
            go_simp
            with_reducible rfl
          rotate_left
          · simp only [Act.put, List.setIfInBounds_toArray, List.set_cons_zero, List.set_cons_succ]
            rfl
          refine rg_take (i := 1) (N := some 115) (v := ?_) (a' := ?_) (bm 6 3) rfl rfl (by kernel_rfl) (fun _ _ _ h => h) hHeld (Or.inl ⟨by rfl, ?_⟩) ?_ ?_
          rotate_left
          · intro w' hw'
            have s2 := blk_cell hw' 2
            go_simp
            with_reducible rfl
          rotate_left
          · simp only [Act.put, List.setIfInBounds_toArray, List.set_cons_zero, List.set_cons_succ]
            rfl
          refine rg_take (i := 2) (N := some 116) (v := ?_) (a' := ?_) (bm 6 7) rfl rfl (by kernel_rfl) (fun _ _ _ h => h) hHeld (Or.inl ⟨by rfl, ?_⟩) ?_ ?_
          rotate_left
          · intro w' hw'
            have s2 := blk_cell hw' 2
            go_simp
            with_reducible rfl
          rotate_left
          · simp only [Act.put, List.setIfInBounds_toArray, List.set_cons_zero, List.set_cons_succ]
            rfl
          refine rg_take (i := 3) (N := some 117) (v := ?_) (a' := ?_) (bm 6 15) rfl rfl (by kernel_rfl) (fun _ _ _ h => h) hHeld (Or.inl ⟨by rfl, ?_⟩) ?_ ?_
          rotate_left
          · intro w' hw'
            have s2 := blk_cell hw' 2
            go_simp
            with_reducible rfl
          rotate_left
          · simp only [Act.put, List.setIfInBounds_toArray, List.set_cons_zero, List.set_cons_succ]
            rfl
          refine rg_ready [4] (by kernel_rfl) (by simp) ?_
          refine rg_one (i := 4) (N := some 118) (bm 6 31) rfl rfl (by kernel_rfl) (fun K hK => ?_) rg_nil
          have HD := Aside0.mk (hwe.out ▸ HSD.out)
          refine value_ (w1 := ?_) (v := ?_) (by rfl) rfl ?_ ?_
          rotate_left 2
          · go_simp
            constructor
            · rfl
            · rfl
          have h4 := SB.made (n := n) HD.out (by omega)
          have HD4 := Aside0.mk h4
          have hnew : _ = some (Obj.cells #[.int .u64 f0, .bool false, .int .i64 (a : Int), .slice A3 n c3, .int .i64 f4, .int .u64 f5] 82 (0, 0)) := (h4.pick5 [4]).blk
          clear h4
          refine hK.out _ _ hnew ?_
          clear hK K
          refine rg_norm (a' := ?_) ?_ ?_
          rotate_left
          · simp only [Act.put, List.setIfInBounds_toArray, List.set_cons_zero, List.set_cons_succ]
            rfl
          clear hHeld
          have hHeld := hnew
          clear hnew
          refine rg_ready [5] (by kernel_rfl) (by simp) ?_
          refine rg_one (i := 5) (N := some 119) (bm 6 63) rfl rfl (by kernel_rfl) (fun K hK => ?_) rg_nil
          go_simp
          go_at_call 29
          with_reducible refine (memLayZ HD4.out HGS.out HOA.out HN300.out HBK.out).mono ?_
          rintro e wx4x5r20 ⟨⟨q, rfl⟩, hs⟩
          have HE := Aside0.mk (show SB w wx4x5r20 [Row (Kd.int .u64) 31 (.slice (some ⟨wl, 0, none⟩) 3 3) WL, MO pm m0, GO pg g1, Box b1 #[.int .u64 f0, .bool false, .int .i64 (a : Int), .slice A3 n c3, .int .i64 f4, .int .u64 f5] 82] from hs.pick4 [1, 0, 2, 3])
          have hnew : _ = some (Obj.cells #[.int .u64 f0, .bool false, .int .i64 (a : Int), .slice A3 n c3, .int .i64 f4, .int .u64 f5] 82 (0, 0)) := (HE.out.pick4 [3]).blk
          clear hs
          go_wp2_with fail
          refine hK.out _ _ hnew ?_
          clear hK K
          refine rg_norm (a' := ?_) ?_ ?_
          rotate_left
          · simp only [Act.put, List.setIfInBounds_toArray, List.set_cons_zero, List.set_cons_succ]
            rfl
          clear hHeld
          have hHeld := hnew
          clear hnew
          refine rg_done (by kernel_rfl) ?_
          all_goals go_wp2_with (first
            | (go_at_call 17; (with_reducible refine (memNew1 (HE.out)).mono ?_); rintro e w21 ⟨pb, rfl, hs⟩; have hbk := ((hs.pick5 [4]).blk); have z1 := blk_cell hbk 1; have H21 := Aside0.mk (hs.pick5 [2, 0, 1, 3, 4]); clear hs hbk)
            | (go_at_call 22; (with_reducible refine (memSum (H22.out.pick2 [1, 0]) good_b0).mono ?_); rintro e w23 ⟨rfl, hd⟩; have H23 := Aside0.mk (H22.out.below (drawn_below hd)); clear hd)
            | (go_at_call 22; (with_reducible refine (memSum H21.out good_b0).mono ?_); rintro e w22 ⟨rfl, hd⟩; have H22 := Aside0.mk (H21.out.below (drawn_below hd)); clear hd)
            | (go_at_call 25; go_must ((with_reducible refine (HGA.out _ _ (H23.out.pick4 [3, 2])).mono ?_); rintro e w24 ⟨v24, rfl, hs⟩; obtain ⟨A24, c24, rfl, hc24, _⟩ := hs.reads; rw [HWN.out] at hs hc24; rw [HWN.out]; have H24 := Aside0.mk hs; clear hs))
            | (go_at_call 24; go_must ((with_reducible refine (bndWords H24.out HWN.out hc24).mono ?_); rintro e w25 ⟨rfl, hs⟩; have H25 := Aside0.mk hs; clear hs)))
          all_goals first | (go_ret; exact ⟨by simp, H25.out.bel⟩) | (exfalso; have hz := beq_iff_eq.1 q4; omega) | trace_state
      · have hno : decide (0 ≤ f2) = false ∨ (decide (0 ≤ f2) = true ∧ decide (f2 ≤ 65536) = false) ∨ (decide (0 ≤ f2) = true ∧ decide (f2 ≤ 65536) = true ∧ IntKind.i64.wrap (65536 - f2) = 65536 - f2 ∧ decide ((n : Int) ≤ 65536 - f2) = false) ∨ (decide (0 ≤ f2) = true ∧ decide (f2 ≤ 65536) = true ∧ IntKind.i64.wrap (65536 - f2) = 65536 - f2 ∧ decide ((n : Int) ≤ 65536 - f2) = true ∧ ((n : Int) == 0) = true ∧ decide (0 < (n : Int)) = false) := by
          by_cases q0 : 0 ≤ f2
          · by_cases q1 : f2 ≤ 65536
            · have qw : IntKind.i64.wrap (65536 - f2) = 65536 - f2 := by rw [IntKind.wrap_i64]; omega
              by_cases q2 : (n : Int) ≤ 65536 - f2
              · exact .inr (.inr (.inr ⟨decide_eq_true q0, decide_eq_true q1, qw, decide_eq_true q2, beq_iff_eq.2 (by omega), decide_eq_false (by omega)⟩))
              · exact .inr (.inr (.inl ⟨decide_eq_true q0, decide_eq_true q1, qw, decide_eq_false q2⟩))
            · exact .inr (.inl ⟨decide_eq_true q0, decide_eq_false q1⟩)
          · exact .inl (decide_eq_false q0)
        have hmn : ¬ (0 ≤ f2 ∧ f2 + (n : Int) ≤ 65536) ∨ l3 = [] := by
          by_cases q : n = 0
          · exact .inr (List.length_eq_zero_iff.1 (HLN.out.trans q))
          · exact .inl (fun h => hmem ⟨h.1, h.2, by omega⟩)
        obtain rfl : m1 = m0 := by rw [← HM1.out]; exact bnd_no rfl (by rw [← HLN.out] at hmn; exact hmn)
        clear hmn hmem
        rcases hset with h4c | h4c | h4c | h4c
        · obtain rfl := h4c
          have hWL3 : [f5, 2, 3] = WL := by rw [← HWL.out]; rfl
          have HWN := Aside0.mk (show WL.length = 3 by rw [← hWL3]; rfl)
          rcases hno with q0 | ⟨q0, q1⟩ | ⟨q0, q1, q2, q3⟩ | ⟨q0, q1, q2, q3, q4, q5⟩
          all_goals
            refine (HDO.out).mono ?_
            rintro e w8 ⟨rfl, hs⟩
            obtain ⟨wl, hwl⟩ : ∃ b, w8.heap.size = b := ⟨_, rfl⟩
            have hwl' : w8.heap.size = wl := hwl
            have h8 := hs.lit (e := 31) (k := .u64) [1, 2, 3] (by decide)
            rw [hwl] at h8
            have h8 : SB w (w8.alloc (.cells #[.int .u64 1, .int .u64 2, .int .u64 3] 31)) [Row (Kd.int .u64) 31 (.slice (some ⟨wl, 0, none⟩) 3 3) [1, 2, 3], MO pm m0, GO pg g1, Box b1 #[.int .u64 f0, .bool false, .int .i64 f2, .slice A3 n c3, .int .i64 0, .int .u64 f5] 82] := h8
            have h9 := hs.lit (e := 31) (k := .u64) [f5, 2, 3] (show 3 ≤ 1000000 by decide)
            rw [hwl] at h9
            have h9 : SB w (w8.alloc (.cells #[.int .u64 f5, .int .u64 2, .int .u64 3] 31)) [Row (Kd.int .u64) 31 (.slice (some ⟨wl, 0, none⟩) 3 3) [f5, 2, 3], MO pm m0, GO pg g1, Box b1 #[.int .u64 f0, .bool false, .int .i64 f2, .slice A3 n c3, .int .i64 0, .int .u64 f5] 82] := h9
            rw [hWL3] at h9
            have hbk := ((hs.pick3 [2]).blk)
            have s1 := blk_cell hbk 1
            have s2 := blk_cell hbk 2
            have s3 := blk_cell hbk 3
            have s4 := blk_cell hbk 4
            have s5 := blk_cell hbk 5
            have hbk := ((h8.pick4 [3]).blk)
            have t1 := blk_cell hbk 1
            have t4 := blk_cell hbk 4
            have t5 := blk_cell hbk 5
            have t3 := blk_cell hbk 3
            have hbk := ((h9.pick4 [3]).blk)
            have u1 := blk_cell hbk 1
            have u2 := blk_cell hbk 2
            have u3 := blk_cell hbk 3
            have HW := Aside0.mk h9
            clear hs h8 h9 hbk hwl
            go_wp2
            go_quiet (fail)
            all_goals go_wp2_with (first
              | (go_at_call 17; (with_reducible refine (memNew1 (HW.out.drewN _)).mono ?_); rintro e w21 ⟨pb, rfl, hs⟩; have hbk := ((hs.pick5 [4]).blk); have z1 := blk_cell hbk 1; have H21 := Aside0.mk (hs.pick5 [2, 0, 1, 3, 4]); clear hs hbk)
              | (go_at_call 22; (with_reducible refine (memSum (H22.out.pick2 [1, 0]) good_b0).mono ?_); rintro e w23 ⟨rfl, hd⟩; have H23 := Aside0.mk (H22.out.below (drawn_below hd)); clear hd)
              | (go_at_call 22; (with_reducible refine (memSum H21.out good_b0).mono ?_); rintro e w22 ⟨rfl, hd⟩; have H22 := Aside0.mk (H21.out.below (drawn_below hd)); clear hd)
              | (go_at_call 25; go_must ((with_reducible refine (HGA.out _ _ (H23.out.pick4 [3, 2])).mono ?_); rintro e w24 ⟨v24, rfl, hs⟩; obtain ⟨A24, c24, rfl, hc24, _⟩ := hs.reads; rw [HWN.out] at hs hc24; rw [HWN.out]; have H24 := Aside0.mk hs; clear hs))
              | (go_at_call 24; go_must ((with_reducible refine (bndWords H24.out HWN.out hc24).mono ?_); rintro e w25 ⟨rfl, hs⟩; have H25 := Aside0.mk hs; clear hs)))
            all_goals first | (go_ret; exact ⟨by simp, H25.out.bel⟩) | (exfalso; have hz := beq_iff_eq.1 q4; omega) | trace_state
        · obtain ⟨rfl, h5c⟩ := h4c
          have hWL3 : [1, f5, 3] = WL := by rw [← HWL.out]; unfold wantL; rw [if_neg (by decide), if_neg (by decide), if_pos ⟨rfl, h5c⟩]
          have d5 : decide (f5 < 4294967296) = true := decide_eq_true h5c
          have HWN := Aside0.mk (show WL.length = 3 by rw [← hWL3]; rfl)
          rcases hno with q0 | ⟨q0, q1⟩ | ⟨q0, q1, q2, q3⟩ | ⟨q0, q1, q2, q3, q4, q5⟩
          all_goals
            refine (HDO.out).mono ?_
            rintro e w8 ⟨rfl, hs⟩
            obtain ⟨wl, hwl⟩ : ∃ b, w8.heap.size = b := ⟨_, rfl⟩
            have hwl' : w8.heap.size = wl := hwl
            have h8 := hs.lit (e := 31) (k := .u64) [1, 2, 3] (by decide)
            rw [hwl] at h8
            have h8 : SB w (w8.alloc (.cells #[.int .u64 1, .int .u64 2, .int .u64 3] 31)) [Row (Kd.int .u64) 31 (.slice (some ⟨wl, 0, none⟩) 3 3) [1, 2, 3], MO pm m0, GO pg g1, Box b1 #[.int .u64 f0, .bool false, .int .i64 f2, .slice A3 n c3, .int .i64 1, .int .u64 f5] 82] := h8
            have h9 := hs.lit (e := 31) (k := .u64) [1, f5, 3] (show 3 ≤ 1000000 by decide)
            rw [hwl] at h9
            have h9 : SB w (w8.alloc (.cells #[.int .u64 1, .int .u64 f5, .int .u64 3] 31)) [Row (Kd.int .u64) 31 (.slice (some ⟨wl, 0, none⟩) 3 3) [1, f5, 3], MO pm m0, GO pg g1, Box b1 #[.int .u64 f0, .bool false, .int .i64 f2, .slice A3 n c3, .int .i64 1, .int .u64 f5] 82] := h9
            rw [hWL3] at h9
            have hbk := ((hs.pick3 [2]).blk)
            have s1 := blk_cell hbk 1
            have s2 := blk_cell hbk 2
            have s3 := blk_cell hbk 3
            have s4 := blk_cell hbk 4
            have s5 := blk_cell hbk 5
            have hbk := ((h8.pick4 [3]).blk)
            have t1 := blk_cell hbk 1
            have t4 := blk_cell hbk 4
            have t5 := blk_cell hbk 5
            have t3 := blk_cell hbk 3
            have hbk := ((h9.pick4 [3]).blk)
            have u1 := blk_cell hbk 1
            have u2 := blk_cell hbk 2
            have u3 := blk_cell hbk 3
            have HW := Aside0.mk h9
            clear hs h8 h9 hbk hwl
            go_wp2
            go_quiet (fail)
            all_goals go_wp2_with (first
              | (go_at_call 17; (with_reducible refine (memNew1 (HW.out.drewN _)).mono ?_); rintro e w21 ⟨pb, rfl, hs⟩; have hbk := ((hs.pick5 [4]).blk); have z1 := blk_cell hbk 1; have H21 := Aside0.mk (hs.pick5 [2, 0, 1, 3, 4]); clear hs hbk)
              | (go_at_call 22; (with_reducible refine (memSum (H22.out.pick2 [1, 0]) good_b0).mono ?_); rintro e w23 ⟨rfl, hd⟩; have H23 := Aside0.mk (H22.out.below (drawn_below hd)); clear hd)
              | (go_at_call 22; (with_reducible refine (memSum H21.out good_b0).mono ?_); rintro e w22 ⟨rfl, hd⟩; have H22 := Aside0.mk (H21.out.below (drawn_below hd)); clear hd)
              | (go_at_call 25; go_must ((with_reducible refine (HGA.out _ _ (H23.out.pick4 [3, 2])).mono ?_); rintro e w24 ⟨v24, rfl, hs⟩; obtain ⟨A24, c24, rfl, hc24, _⟩ := hs.reads; rw [HWN.out] at hs hc24; rw [HWN.out]; have H24 := Aside0.mk hs; clear hs))
              | (go_at_call 24; go_must ((with_reducible refine (bndWords H24.out HWN.out hc24).mono ?_); rintro e w25 ⟨rfl, hs⟩; have H25 := Aside0.mk hs; clear hs)))
            all_goals first | (go_ret; exact ⟨by simp, H25.out.bel⟩) | (exfalso; have hz := beq_iff_eq.1 q4; omega) | trace_state
        · obtain ⟨rfl, h5c⟩ := h4c
          have hWL3 : [1, 2, 3] = WL := by rw [← HWL.out]; unfold wantL; rw [if_neg (by decide), if_neg (by decide), if_neg (fun h => h5c h.2)]
          have d5 : decide (f5 < 4294967296) = false := decide_eq_false h5c
          have HWN := Aside0.mk (show WL.length = 3 by rw [← hWL3]; rfl)
          rcases hno with q0 | ⟨q0, q1⟩ | ⟨q0, q1, q2, q3⟩ | ⟨q0, q1, q2, q3, q4, q5⟩
          all_goals
            refine (HDO.out).mono ?_
            rintro e w8 ⟨rfl, hs⟩
            obtain ⟨wl, hwl⟩ : ∃ b, w8.heap.size = b := ⟨_, rfl⟩
            have hwl' : w8.heap.size = wl := hwl
            have h8 := hs.lit (e := 31) (k := .u64) [1, 2, 3] (by decide)
            rw [hwl] at h8
            have h8 : SB w (w8.alloc (.cells #[.int .u64 1, .int .u64 2, .int .u64 3] 31)) [Row (Kd.int .u64) 31 (.slice (some ⟨wl, 0, none⟩) 3 3) [1, 2, 3], MO pm m0, GO pg g1, Box b1 #[.int .u64 f0, .bool false, .int .i64 f2, .slice A3 n c3, .int .i64 1, .int .u64 f5] 82] := h8
            have h9 := hs.lit (e := 31) (k := .u64) [1, 2, 3] (show 3 ≤ 1000000 by decide)
            rw [hwl] at h9
            have h9 : SB w (w8.alloc (.cells #[.int .u64 1, .int .u64 2, .int .u64 3] 31)) [Row (Kd.int .u64) 31 (.slice (some ⟨wl, 0, none⟩) 3 3) [1, 2, 3], MO pm m0, GO pg g1, Box b1 #[.int .u64 f0, .bool false, .int .i64 f2, .slice A3 n c3, .int .i64 1, .int .u64 f5] 82] := h9
            rw [hWL3] at h9
            have hbk := ((hs.pick3 [2]).blk)
            have s1 := blk_cell hbk 1
            have s2 := blk_cell hbk 2
            have s3 := blk_cell hbk 3
            have s4 := blk_cell hbk 4
            have s5 := blk_cell hbk 5
            have hbk := ((h8.pick4 [3]).blk)
            have t1 := blk_cell hbk 1
            have t4 := blk_cell hbk 4
            have t5 := blk_cell hbk 5
            have t3 := blk_cell hbk 3
            have hbk := ((h9.pick4 [3]).blk)
            have u1 := blk_cell hbk 1
            have u2 := blk_cell hbk 2
            have u3 := blk_cell hbk 3
            have HW := Aside0.mk h9
            clear hs h8 h9 hbk hwl
            go_wp2
            go_quiet (fail)
            all_goals go_wp2_with (first
              | (go_at_call 17; (with_reducible refine (memNew1 (HW.out.drewN _)).mono ?_); rintro e w21 ⟨pb, rfl, hs⟩; have hbk := ((hs.pick5 [4]).blk); have z1 := blk_cell hbk 1; have H21 := Aside0.mk (hs.pick5 [2, 0, 1, 3, 4]); clear hs hbk)
              | (go_at_call 22; (with_reducible refine (memSum (H22.out.pick2 [1, 0]) good_b0).mono ?_); rintro e w23 ⟨rfl, hd⟩; have H23 := Aside0.mk (H22.out.below (drawn_below hd)); clear hd)
              | (go_at_call 22; (with_reducible refine (memSum H21.out good_b0).mono ?_); rintro e w22 ⟨rfl, hd⟩; have H22 := Aside0.mk (H21.out.below (drawn_below hd)); clear hd)
              | (go_at_call 25; go_must ((with_reducible refine (HGA.out _ _ (H23.out.pick4 [3, 2])).mono ?_); rintro e w24 ⟨v24, rfl, hs⟩; obtain ⟨A24, c24, rfl, hc24, _⟩ := hs.reads; rw [HWN.out] at hs hc24; rw [HWN.out]; have H24 := Aside0.mk hs; clear hs))
              | (go_at_call 24; go_must ((with_reducible refine (bndWords H24.out HWN.out hc24).mono ?_); rintro e w25 ⟨rfl, hs⟩; have H25 := Aside0.mk hs; clear hs)))
            all_goals first | (go_ret; exact ⟨by simp, H25.out.bel⟩) | (exfalso; have hz := beq_iff_eq.1 q4; omega) | trace_state
        · obtain ⟨h40, h41⟩ := h4c
          have hWL3 : [1, 2, 3] = WL := by rw [← HWL.out]; unfold wantL; rw [if_neg (by decide), if_neg h40, if_neg (fun h => h41 h.1)]
          have d40 : (f4 == 0) = false := beq_eq_false_iff_ne.2 h40
          have d41 : (f4 == 1) = false := beq_eq_false_iff_ne.2 h41
          have HWN := Aside0.mk (show WL.length = 3 by rw [← hWL3]; rfl)
          rcases hno with q0 | ⟨q0, q1⟩ | ⟨q0, q1, q2, q3⟩ | ⟨q0, q1, q2, q3, q4, q5⟩
          all_goals
            refine (HDO.out).mono ?_
            rintro e w8 ⟨rfl, hs⟩
            obtain ⟨wl, hwl⟩ : ∃ b, w8.heap.size = b := ⟨_, rfl⟩
            have hwl' : w8.heap.size = wl := hwl
            have h8 := hs.lit (e := 31) (k := .u64) [1, 2, 3] (by decide)
            rw [hwl] at h8
            have h8 : SB w (w8.alloc (.cells #[.int .u64 1, .int .u64 2, .int .u64 3] 31)) [Row (Kd.int .u64) 31 (.slice (some ⟨wl, 0, none⟩) 3 3) [1, 2, 3], MO pm m0, GO pg g1, Box b1 #[.int .u64 f0, .bool false, .int .i64 f2, .slice A3 n c3, .int .i64 f4, .int .u64 f5] 82] := h8
            have h9 := hs.lit (e := 31) (k := .u64) [1, 2, 3] (show 3 ≤ 1000000 by decide)
            rw [hwl] at h9
            have h9 : SB w (w8.alloc (.cells #[.int .u64 1, .int .u64 2, .int .u64 3] 31)) [Row (Kd.int .u64) 31 (.slice (some ⟨wl, 0, none⟩) 3 3) [1, 2, 3], MO pm m0, GO pg g1, Box b1 #[.int .u64 f0, .bool false, .int .i64 f2, .slice A3 n c3, .int .i64 f4, .int .u64 f5] 82] := h9
            rw [hWL3] at h9
            have hbk := ((hs.pick3 [2]).blk)
            have s1 := blk_cell hbk 1
            have s2 := blk_cell hbk 2
            have s3 := blk_cell hbk 3
            have s4 := blk_cell hbk 4
            have s5 := blk_cell hbk 5
            have hbk := ((h8.pick4 [3]).blk)
            have t1 := blk_cell hbk 1
            have t4 := blk_cell hbk 4
            have t5 := blk_cell hbk 5
            have t3 := blk_cell hbk 3
            have hbk := ((h9.pick4 [3]).blk)
            have u1 := blk_cell hbk 1
            have u2 := blk_cell hbk 2
            have u3 := blk_cell hbk 3
            have HW := Aside0.mk h9
            clear hs h8 h9 hbk hwl
            go_wp2
            go_quiet (fail)
            all_goals go_wp2_with (first
              | (go_at_call 17; (with_reducible refine (memNew1 (HW.out.drewN _)).mono ?_); rintro e w21 ⟨pb, rfl, hs⟩; have hbk := ((hs.pick5 [4]).blk); have z1 := blk_cell hbk 1; have H21 := Aside0.mk (hs.pick5 [2, 0, 1, 3, 4]); clear hs hbk)
              | (go_at_call 22; (with_reducible refine (memSum (H22.out.pick2 [1, 0]) good_b0).mono ?_); rintro e w23 ⟨rfl, hd⟩; have H23 := Aside0.mk (H22.out.below (drawn_below hd)); clear hd)
              | (go_at_call 22; (with_reducible refine (memSum H21.out good_b0).mono ?_); rintro e w22 ⟨rfl, hd⟩; have H22 := Aside0.mk (H21.out.below (drawn_below hd)); clear hd)
              | (go_at_call 25; go_must ((with_reducible refine (HGA.out _ _ (H23.out.pick4 [3, 2])).mono ?_); rintro e w24 ⟨v24, rfl, hs⟩; obtain ⟨A24, c24, rfl, hc24, _⟩ := hs.reads; rw [HWN.out] at hs hc24; rw [HWN.out]; have H24 := Aside0.mk hs; clear hs))
              | (go_at_call 24; go_must ((with_reducible refine (bndWords H24.out HWN.out hc24).mono ?_); rintro e w25 ⟨rfl, hs⟩; have H25 := Aside0.mk hs; clear hs)))
            all_goals first | (go_ret; exact ⟨by simp, H25.out.bel⟩) | (exfalso; have hz := beq_iff_eq.1 q4; omega) | trace_state
instance (x : Int) : Decidable (okI x) := by unfold okI; infer_instance
instance (x : Int) : Decidable (okU x) := by unfold okU; infer_instance
instance (l : List Int) : Decidable (Oct l) := by unfold Oct; infer_instance
def avocetlaw16_HostBounds.f (a0_0 : Int) (a0_1 : Bool) (a0_2 : Int) (l0_3 : List Int) (a0_4 : Int) (a0_5 : Int) : Option (Bool) := if okU a0_0 ∧ okI a0_2 ∧ okI a0_4 ∧ okU a0_5 ∧ Oct l0_3 then some true else none
theorem avocetlaw16_HostBounds.calls (a0_0 : Int) (a0_1 : Bool) (a0_2 : Int) (A0_3 : Option Addr) (c0_3 : Nat) (l0_3 : List Int) (a0_4 : Int) (a0_5 : Int) (r : Bool) (w : World) (hr0_3 : Kd.C (Kd.int .u8) w A0_3 l0_3.length l0_3) (hc0_3 : l0_3.length ≤ c0_3) (hr_ : r = true) (h : avocetlaw16_HostBounds.f a0_0 a0_1 a0_2 l0_3 a0_4 a0_5 = some r) :
    Calls Try.prog 6 #[.agg #[.int .u64 a0_0, .bool a0_1, .int .i64 a0_2, .slice A0_3 l0_3.length c0_3, .int .i64 a0_4, .int .u64 a0_5]] w fun e w' => e = .returned (.bool r) ∧ Below w.heap.size w w' := by
  subst hr_
  by_cases hn : okU a0_0 ∧ okI a0_2 ∧ okI a0_4 ∧ okU a0_5 ∧ Oct l0_3
  · exact hostBounds a0_0 a0_1 a0_2 A0_3 c0_3 l0_3 a0_4 a0_5 w hr0_3 hc0_3 hn.1 hn.2.1 hn.2.2.1 hn.2.2.2.1 hn.2.2.2.2
  · unfold avocetlaw16_HostBounds.f at h
    rw [if_neg hn] at h
    simp at h
end Go.Proofs.Ytbjglicdamenhaa.G
