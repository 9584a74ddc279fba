/- Package stack: Pop, Kill. -/
import Derived.Test.YtagblobimoedcaaStkE
namespace Go.Proofs.Ytagblobimoedcaa.G
open Go.RowKit Go.Proofs.YtagblobimoedcaaW.PrintWords Go.Proofs.YtagblobimoedcaaW.PrintLast Go.Proofs.YtagblobimoedcaaW.PrintMore
set_option linter.unusedVariables false
set_option linter.unusedSimpArgs false
/-- what is open at last. -/
def kTop (cs : List S31) : S31 := rd_T31 cs ((cs.length : Int) - 1)
theorem kTop_n {cs : List S31} {n : Nat} (hn : cs.length = n + 1) : kTop cs = rd_T31 cs (n : Int) := by
  unfold kTop
  rw [hn]
  congr 1
  omega
theorem kHts_ge : ∀ {cs : List S31} {last la : Int}, kHts last cs = some la → last ≤ la
  | [], last, la, h => by simp only [kHts, Option.some.injEq] at h; omega
  | c :: cs, last, la, h => by
    unfold kHts at h
    split at h
    · rename_i hc
      have := kHts_ge h
      omega
    · exact absurd h (by simp)
theorem kHts_top : ∀ {cs : List S31} {last la : Int}, kHts last cs = some la → cs ≠ [] → la = (cs.getLastD z31).f2 ∧ kLeft (cs.getLastD z31).f1 = true
  | [], last, la, h, hne => absurd rfl hne
  | [c], last, la, h, hne => by
    unfold kHts at h
    split at h
    · rename_i hc
      simp only [kHts, Option.some.injEq] at h
      exact ⟨h.symm, hc.1⟩
    · exact absurd h (by simp)
  | c :: d :: cs, last, la, h, hne => by
    unfold kHts at h
    split at h
    · have := kHts_top h (by simp)
      simpa using this
    · exact absurd h (by simp)
theorem kTop_last {cs : List S31} (hne : cs ≠ []) : kTop cs = cs.getLastD z31 := by
  unfold kTop rd_T31
  have h0 : 0 < cs.length := List.length_pos_iff.2 hne
  have e : ((cs.length : Int) - 1).toNat = cs.length - 1 := by omega
  rw [e, List.getLastD_eq_getLast?, List.getLast?_eq_getElem?, List.getD_eq_getElem?_getD]
theorem sane_top {v : List Int} {cs : List S31} (hs : kSane v cs = true) (hne : cs ≠ []) : 0 ≤ (kTop cs).f2 ∧ (kTop cs).f2 ≤ (v.length : Int) ∧ kLeft (kTop cs).f1 = true := by
  unfold kSane at hs
  cases hk : kHts 0 cs with
  | none => rw [hk] at hs; exact absurd hs (by simp [kEnd])
  | some la =>
    rw [hk] at hs
    simp only [kEnd, Bool.and_eq_true, decide_eq_true_eq] at hs
    obtain ⟨h1, h2⟩ := kHts_top hk hne
    rw [kTop_last hne, ← h1]
    exact ⟨kHts_ge hk, hs.1, h2⟩
theorem add0 (g k : Nat) : (⟨g, 0, none⟩ : Addr).add k = ⟨g, k, none⟩ := by
  unfold Addr.add
  split
  · rename_i h; rw [h]
  · simp
/-- the cells of what is open at last. -/
theorem top_cells {w W : World} {g n c2 : Nat} {cs : List S31} {L : List As} (hS : SB w W (Row (kAt w) 31 (.slice (some ⟨g, 0, none⟩) (n + 1) c2) cs :: L)) (hn : cs.length = n + 1) :
    ∃ Ae ce, W.cell? ⟨g, n * 4, none⟩ = some (.int .i64 (kTop cs).f0) ∧ W.cell? ⟨g, n * 4 + 1, none⟩ = some (.slice Ae (kTop cs).f1.length ce) ∧ W.cell? ⟨g, n * 4 + 2, none⟩ = some (.int .i64 (kTop cs).f2) ∧ W.cell? ⟨g, n * 4 + 3, none⟩ = some (.bool (kTop cs).f3) ∧
      (kTop cs).f1.length ≤ ce ∧ Kd.C (Kd.int .u8) W Ae (kTop cs).f1.length (kTop cs).f1 ∧ Kd.C k31 W (some ⟨g, 0, none⟩) cs.length cs ∧ cs.length ≤ c2 ∧ g < W.heap.size := by
  obtain ⟨A, c, he, hc, hC⟩ := hS.reads
  rw [hn] at he
  injection he with e1 e2 e3
  subst e1 e3
  have hC2 := kAt_up hC hS.bel
  obtain ⟨ad, Ae, ce, e4, h0, h1, h2, h3, l1, g1⟩ := at_T31 hC2 (n : Int) (by omega) (by omega)
  obtain rfl := Option.some.inj e4
  rw [← kTop_n hn] at h0 h1 h2 h3 l1 g1
  simp only [Int.toNat_natCast, add0] at h0 h1 h2 h3
  exact ⟨Ae, ce, h0, h1, h2, h3, l1, g1, hC2, hc, World.block_lt_of_cell? W _ h0⟩
theorem SB.cutRow {w0 w : World} {L : List As} {α : Type} {d : Kd α} {e m n c : Nat} {A : Option Addr} {xs : List α} (h : SB w0 w (Row d e (.slice A n c) xs :: L)) (hm : m ≤ xs.length) : SB w0 w (Row d e (.slice A m c) (xs.take m) :: L) := by
  obtain ⟨F, hF, _, K⟩ := h.frame
  exact K w (Row d e (.slice A m c) (xs.take m)) F ⟨Kd.R_take hF.1 hm, hF.2⟩ (Fr.refl _ _) (fun k hk => .inl hk)
/-- the work, with its rows. -/
def WorkL (w0 : World) (p g n c2 : Nat) (Av : Option Addr) (cv : Nat) (v : List Int) (cs : List S31) : List As :=
  [Box p #[.slice Av v.length cv, .slice (some ⟨g, 0, none⟩) (n + 1) c2, .pointer (some ⟨g, n * 4, none⟩)] 77, Row (kAt w0) 31 (.slice (some ⟨g, 0, none⟩) (n + 1) c2) cs, Row (Kd.int .u8) 5 (.slice Av v.length cv) v]
theorem work_turn {w0 W w' : World} {L : List As} {p g n c2 : Nat} {Av : Option Addr} {cv : Nat} {v v2 : List Int} {cs : List S31} {m : Nat} (hS : SB w0 W (WorkL w0 p g n c2 Av cv v cs ++ L)) (hf : Fr W w' (fun k => k = p)) (hw : WK w' p g (n * 4) Av cv (.slice (some ⟨g, 0, none⟩) (n + 1) c2) v2) (hm : m ≤ v.length) (hv : v2 = v.take m) :
    SB w0 w' (WorkL w0 p g n c2 Av cv v2 cs ++ L) := by
  obtain ⟨F, hF, _, K⟩ := SB.frame (A := Box p #[.slice Av v.length cv, .slice (some ⟨g, 0, none⟩) (n + 1) c2, .pointer (some ⟨g, n * 4, none⟩)] 77) hS
  have h1 := K w' (Box p #[.slice Av v2.length cv, .slice (some ⟨g, 0, none⟩) (n + 1) c2, .pointer (some ⟨g, n * 4, none⟩)] 77) F ⟨hw, hF.2⟩ (hf.mono (fun k hk => (hF.2 k).2 hk)) (fun k hk => .inl hk)
  have h2 := (h1.perm (List.Perm.swap _ _ _ |>.cons _ |>.trans (List.Perm.swap _ _ _))).cutRow hm
  have h3 := h2.perm ((List.Perm.swap _ _ _).trans ((List.Perm.swap _ _ _).cons _))
  have hl : v2.length = m := by rw [hv, List.length_take]; omega
  show SB w0 w' (Box p #[.slice Av v2.length cv, _, _] 77 :: Row (kAt w0) 31 _ cs :: Row (Kd.int .u8) 5 (.slice Av v2.length cv) v2 :: L)
  rw [← hv, ← hl] at h3
  exact h3
theorem workPop {w0 W : World} {L : List As} {p g n c2 : Nat} {Av : Option Addr} {cv : Nat} {v : List Int} {cs : List S31} (hS : SB w0 W (WorkL w0 p g n c2 Av cv v cs ++ L)) (hn : cs.length = n + 1) (h0 : 0 ≤ (kTop cs).f2) (hl : v.length < 1000000000) :
    Calls Try.prog 42 #[.pointer (some ⟨p, 0, none⟩)] W fun e w' => e = .returned (.tuple #[.int .u8 (kPop v (kTop cs).f2 (kTop cs).f3).2.1, .int .i64 (kPop v (kTop cs).f2 (kTop cs).f3).2.2]) ∧
      SB w0 w' (WorkL w0 p g n c2 Av cv (kPop v (kTop cs).f2 (kTop cs).f3).1 cs ++ L) := by
  have h1 : SB w0 W (Row (kAt w0) 31 (.slice (some ⟨g, 0, none⟩) (n + 1) c2) cs :: Row (Kd.int .u8) 5 (.slice Av v.length cv) v :: L) := SB.drop hS
  obtain ⟨Ae, ce, a0, a1, a2, a3, _⟩ := top_cells h1 hn
  obtain ⟨A', c', he, hc, hC⟩ := (h1.drop).reads
  injection he with e1 e2 e3
  subst e1 e3
  obtain ⟨F, hF, _, _⟩ := SB.frame (A := Box p #[.slice Av v.length cv, .slice (some ⟨g, 0, none⟩) (n + 1) c2, .pointer (some ⟨g, n * 4, none⟩)] 77) hS
  obtain ⟨m, hm, hv⟩ := kPop_take v (kTop cs).f2 (kTop cs).f3
  refine (stkPopA p g (n * 4) Av cv _ v (kTop cs).f2 (kTop cs).f3 W hF.1 a2 a3 hC h0 hl hc).mono ?_
  rintro e w' ⟨rfl, hf, hw⟩
  exact ⟨rfl, work_turn hS hf hw hm hv⟩
theorem kWant_take {h : Int} {d : Bool} : ∀ (ts vs : List Int), ∃ m, m ≤ vs.length ∧ (kWant h d ts vs).1 = vs.take m
  | [], vs => ⟨vs.length, Nat.le_refl _, by simp [kWant]⟩
  | t :: ts, vs => by
    obtain ⟨m, hm, e1⟩ := kPop_take vs h d
    rw [kWant]
    split
    · split
      · exact ⟨m, hm, e1⟩
      · obtain ⟨m2, hm2, e2⟩ := kWant_take (h := h) (d := d) ts (kPop vs h d).1
        rw [e1] at e2 hm2 ⊢
        rw [List.take_take] at e2
        exact ⟨min m2 m, by omega, e2⟩
    · exact ⟨m, hm, e1⟩
theorem workWant {w0 W : World} {L : List As} {p g n c2 : Nat} {Av : Option Addr} {cv : Nat} {v : List Int} {cs : List S31} (hS : SB w0 W (WorkL w0 p g n c2 Av cv v cs ++ L)) (hn : cs.length = n + 1) (h0 : 0 ≤ (kTop cs).f2) (hl : v.length < 1000000000)
    (Al : Option Addr) (cl : Nat) (zs : List Int) (hz : Kd.C (Kd.int .u8) W Al zs.length zs) (hzl : zs.length < 1000000000) (hgp : g < p) (hAp : ∀ ad, Av = some ad → 0 < v.length → ad.block < p) (hlp : ∀ ad, Al = some ad → 0 < zs.length → ad.block < p) :
    Calls Try.prog 41 #[.pointer (some ⟨p, 0, none⟩), .slice Al zs.length cl] W fun e w' => e = .returned (.int .i64 (kWant (kTop cs).f2 (kTop cs).f3 zs.reverse v).2) ∧
      SB w0 w' L ∧ ((kWant (kTop cs).f2 (kTop cs).f3 zs.reverse v).2 = 0 → SB w0 w' (WorkL w0 p g n c2 Av cv (kWant (kTop cs).f2 (kTop cs).f3 zs.reverse v).1 cs ++ L)) := by
  have h1 : SB w0 W (Row (kAt w0) 31 (.slice (some ⟨g, 0, none⟩) (n + 1) c2) cs :: Row (Kd.int .u8) 5 (.slice Av v.length cv) v :: L) := SB.drop hS
  obtain ⟨Ae, ce, a0, a1, a2, a3, _⟩ := top_cells h1 hn
  obtain ⟨A', c', he, hc, hC⟩ := (h1.drop).reads
  injection he with e1 e2 e3
  subst e1 e3
  obtain ⟨F, hF, _, K⟩ := SB.frame (A := Box p #[.slice Av v.length cv, .slice (some ⟨g, 0, none⟩) (n + 1) c2, .pointer (some ⟨g, n * 4, none⟩)] 77) hS
  obtain ⟨m, hm, hv⟩ := kWant_take (h := (kTop cs).f2) (d := (kTop cs).f3) zs.reverse v
  refine (stkWant p g (n * 4) Av cv _ v (kTop cs).f2 (kTop cs).f3 Al cl zs W hF.1 a2 a3 hC h0 hl hc hz hzl hgp hAp hlp).mono ?_
  rintro e w' ⟨rfl, hf, hw⟩
  refine ⟨rfl, ?_, fun h => work_turn hS hf (hw h) hm hv⟩
  have h3 := K w' As.none (fun _ => False) (fun k hk => hk) (hf.mono (fun k hk => (hF.2 k).2 hk)) (fun k hk => hk.elim)
  exact h3.drop.drop.drop
theorem holdOf {w0 W : World} {L : List As} {B0 B1 : Option Addr} {m n d0 d1 : Nat} {v : List Int} {cs : List S31} (hS : SB w0 W (Row (kAt w0) 31 (.slice B1 n d1) cs :: Row (Kd.int .u8) 5 (.slice B0 m d0) v :: L)) : HoldS W B0 d0 B1 d1 v cs ∧ m = v.length ∧ n = cs.length := by
  obtain ⟨A, c, he, hc, hC⟩ := hS.reads
  injection he with e1 e2 e3
  subst e1 e3
  obtain ⟨A', c', he', hc', hC'⟩ := (hS.drop).reads
  injection he' with e1' e2' e3'
  subst e1' e3'
  exact ⟨⟨hC', kAt_up hC hS.bel, hc', hc⟩, e2', e2⟩
/-- Pop's answer. -/
def sPop (v : List Int) (cs : List S31) : List Int × List S31 × Int × Int :=
  if kSane v cs = false then ([], [], 0, 1) else if cs = [] then ([], [], 0, 5) else
    if (kPop v (kTop cs).f2 (kTop cs).f3).2.2 = 0 then ((kPop v (kTop cs).f2 (kTop cs).f3).1, cs, (kPop v (kTop cs).f2 (kTop cs).f3).2.1, 0) else ([], [], 0, 5)
set_option maxHeartbeats 4000000 in
set_option maxRecDepth 100000 in
theorem stkPopS {w : World} {A0 A1 : Option Addr} {c0 c1 : Nat} {v : List Int} {cs : List S31} (h : HoldS w A0 c0 A1 c1 v cs) (hm : modest v cs) :
    Calls Try.prog 20 #[.agg #[.slice A0 v.length c0, .slice A1 cs.length c1]] w fun e w' => ∃ B0 d0 B1 d1, e = .returned (.tuple #[.agg #[.slice B0 (sPop v cs).1.length d0, .slice B1 (sPop v cs).2.1.length d1], .int .u8 (sPop v cs).2.2.1, .int .i64 (sPop v cs).2.2.2]) ∧
      HoldS w' B0 d0 B1 d1 (sPop v cs).1 (sPop v cs).2.1 ∧ Below w.heap.size w w' := by
  have HH := Aside0.mk h
  have HW := Aside0.mk ((((SB.start w).box #[.slice A0 v.length c0, .slice A1 cs.length c1] 28)).box #[.slice none 0 0, .slice none 0 0] 28)
  rw [World.size_alloc] at HW
  by_cases hno : kSane v cs = false ∨ cs = []
  · have HS := fun (W : World) (hW : Below w.heap.size w W) => stkBeginNo (h.below hW) hm hno
    obtain ⟨er, he, hr⟩ : ∃ er : Int, (if kSane v cs then (5 : Int) else 1) = er ∧ er ≠ 0 ∧ sPop v cs = ([], [], 0, er) := by
      unfold sPop
      cases hk : kSane v cs with
      | false => exact ⟨1, rfl, by decide, by rw [if_pos rfl]⟩
      | true => exact ⟨5, rfl, by decide, by rw [if_neg (by decide), if_pos (hno.resolve_left (by rw [hk]; decide))]⟩
    rw [he] at HS
    rw [hr.2]
    have hne : (er != 0) = true := bne_iff_ne.mpr hr.1
    clear h he hr hno
    go_enter Try.func20, Try.ntmps20
    go_wp2_with (go_at_call 40; refine (HS _ HW.out.bel).mono ?_; rintro e w1 ⟨rfl, hb⟩; have HW1 := Aside0.mk (HW.out.below hb); have hsz := hb.size; clear hb; have x2 := SB.boxAt (w.heap.size + 1) 28 HW1.out; have z0 := blk_cell x2 0; have z1 := blk_cell x2 1; have y0 := blk_fro x2 0; have y1 := blk_fro x2 1; clear x2; have hlt2 : w.heap.size + 1 < w1.heap.size := (by simp at hsz; omega); have hlt1 : w.heap.size < w1.heap.size := (by omega))
    exact bodyPost_ret (v := .tuple #[.agg #[.slice none 0 0, .slice none 0 0], .int .u8 0, .int .i64 er]) (by simp [results, Try.results20, go_sem, *]) rfl ⟨none, 0, none, 0, rfl, holdNil _, (((HW1.out.set1 0 (.slice none 0 0)).set1 1 (.slice none 0 0)).alloc _).bel⟩
  · obtain ⟨hsane, hne⟩ : kSane v cs = true ∧ cs ≠ [] := ⟨by cases hk : kSane v cs; exact absurd (.inl hk) hno; rfl, fun h => hno (.inr h)⟩
    obtain ⟨n, hn⟩ : ∃ n, cs.length = n + 1 := ⟨cs.length - 1, by have := List.length_pos_iff.2 hne; omega⟩
    obtain ⟨ht0, ht1, _⟩ := sane_top hsane hne
    have hB := stkBegin HW.out h hm hsane n hn
    have HWP := Aside0.mk (fun (W : World) (L : List As) (p g c2 : Nat) (Av : Option Addr) (cv : Nat) (hS : SB w W (WorkL w p g n c2 Av cv v cs ++ L)) => workPop hS hn ht0 (by have := hm.1; omega))
    have hr : sPop v cs = if (kPop v (kTop cs).f2 (kTop cs).f3).2.2 = 0 then ((kPop v (kTop cs).f2 (kTop cs).f3).1, cs, (kPop v (kTop cs).f2 (kTop cs).f3).2.1, 0) else ([], [], 0, 5) := by
      unfold sPop
      rw [if_neg (by rw [hsane]; decide), if_neg hne]
    obtain ⟨mt, hmt, hvt⟩ := kPop_take v (kTop cs).f2 (kTop cs).f3
    have her := kPop_err v (kTop cs).f2 (kTop cs).f3
    rw [hr]
    obtain ⟨v2, cc, er, hk⟩ : ∃ v2 cc er, kPop v (kTop cs).f2 (kTop cs).f3 = (v2, cc, er) := ⟨_, _, _, rfl⟩
    have HP := Aside0.mk (show ∀ (W : World) (L : List As) (p g c2 : Nat) (Av : Option Addr) (cv : Nat), SB w W (WorkL w p g n c2 Av cv v cs ++ L) → Calls Try.prog 42 #[.pointer (some ⟨p, 0, none⟩)] W fun e w' => e = .returned (.tuple #[.int .u8 cc, .int .i64 er]) ∧ SB w w' (Box p #[.slice Av v2.length cv, .slice (some ⟨g, 0, none⟩) (n + 1) c2, .pointer (some ⟨g, n * 4, none⟩)] 77 :: Row (kAt w) 31 (.slice (some ⟨g, 0, none⟩) (n + 1) c2) cs :: Row (Kd.int .u8) 5 (.slice Av v2.length cv) v2 :: L) from fun W L p g c2 Av cv hS => by have := HWP.out W L p g c2 Av cv hS; rw [hk] at this; exact this)
    rw [hk] at her hvt ⊢
    simp only at her hvt ⊢
    rw [hn] at hB ⊢
    have HB := Aside0.mk hB
    have HVT := Aside0.mk hvt
    have HT := Aside0.mk ht0
    have hvl : v.length < 1000000000 := by have := hm.1; omega
    clear hB HWP hr hk h hno hsane hne ht0 ht1 hvt
    have ARM40 : True := trivial
    rcases her with rfl | rfl
    · simp only [if_true]
      go_enter Try.func20, Try.ntmps20
      go_wp2_with (first
        | (go_at_call 40; refine HB.out.mono ?_; rintro e w1 ⟨Av, cv, g, c2, rfl, hs⟩; have hsz := hs.size; have hlt2 : w.heap.size + 1 < w1.heap.size := blk_lt (SB.boxAt (w.heap.size + 1) 28 hs); have HW1 := Aside0.mk (hs.box #[.slice Av v.length cv, .slice (some ⟨g, 0, none⟩) (n + 1) c2, .pointer (some ⟨g, n * 4, none⟩)] 77); clear hs)
        | (go_at_call 42; refine (HP.out _ [Box (w.heap.size + 1) #[.slice none 0 0, .slice none 0 0] 28] w1.heap.size g c2 Av cv (HW1.out.pick [0, 1, 2, 3])).mono ?_; rintro e w2 ⟨rfl, hs⟩; have HW2 := Aside0.mk hs; clear hs; have x2 := SB.boxAt (w.heap.size + 1) 28 HW2.out; have z0 := blk_cell x2 0; have z1 := blk_cell x2 1; have y0 := blk_fro x2 0; have y1 := blk_fro x2 1; clear x2; have x3 := SB.boxAt w1.heap.size 77 HW2.out; have s0 := blk_cell x3 0; have s1 := blk_cell x3 1))
      have HF := Aside0.mk ((SB.boxSet (w.heap.size + 1) 28 (SB.boxSet (w.heap.size + 1) 28 HW2.out 0 (.slice Av v2.length cv) #[.slice Av v2.length cv, .slice none 0 0]) 1 (.slice (some ⟨g, 0, none⟩) (n + 1) c2) #[.slice Av v2.length cv, .slice (some ⟨g, 0, none⟩) (n + 1) c2]))
      have x9 := SB.boxAt (w.heap.size + 1) 28 HF.out
      have f0 := blk_cell x9 0
      have f1 := blk_cell x9 1
      obtain ⟨hfin, _, _⟩ := holdOf (HF.out.pick [1, 2])
      exact bodyPost_ret (v := .tuple #[.agg #[.slice Av v2.length cv, .slice (some ⟨g, 0, none⟩) (n + 1) c2], .int .u8 cc, .int .i64 0]) (by simp [results, Try.results20, go_sem, f0, f1, hlt2]) rfl ⟨Av, cv, some ⟨g, 0, none⟩, c2, by rw [hn], hfin, HF.out.bel⟩
    · simp only [show ¬ ((5 : Int) = 0) by decide, if_false]
      go_enter Try.func20, Try.ntmps20
      go_wp2_with (first
        | (go_at_call 40; refine HB.out.mono ?_; rintro e w1 ⟨Av, cv, g, c2, rfl, hs⟩; have hsz := hs.size; have hlt2 : w.heap.size + 1 < w1.heap.size := blk_lt (SB.boxAt (w.heap.size + 1) 28 hs); have HW1 := Aside0.mk (hs.box #[.slice Av v.length cv, .slice (some ⟨g, 0, none⟩) (n + 1) c2, .pointer (some ⟨g, n * 4, none⟩)] 77); clear hs)
        | (go_at_call 42; refine (HP.out _ [Box (w.heap.size + 1) #[.slice none 0 0, .slice none 0 0] 28] w1.heap.size g c2 Av cv (HW1.out.pick [0, 1, 2, 3])).mono ?_; rintro e w2 ⟨rfl, hs⟩; have HW2 := Aside0.mk hs; clear hs; have x2 := SB.boxAt (w.heap.size + 1) 28 HW2.out; have z0 := blk_cell x2 0; have z1 := blk_cell x2 1; have y0 := blk_fro x2 0; have y1 := blk_fro x2 1; clear x2; have x3 := SB.boxAt w1.heap.size 77 HW2.out; have s0 := blk_cell x3 0; have s1 := blk_cell x3 1))
      exact bodyPost_ret (v := .tuple #[.agg #[.slice none 0 0, .slice none 0 0], .int .u8 0, .int .i64 5]) (by simp [results, Try.results20, go_sem, *]) rfl ⟨none, 0, none, 0, rfl, holdNil _, (SB.boxSet (w.heap.size + 1) 28 (SB.boxSet (w.heap.size + 1) 28 HW2.out 0 (.slice none 0 0) #[.slice none 0 0, .slice none 0 0]) 1 (.slice none 0 0) #[.slice none 0 0, .slice none 0 0]).bel⟩
end Go.Proofs.Ytagblobimoedcaa.G
