/- Package host: Do, where the arguments fit. -/
import Derived.Deep.DeepMust
import Derived.Test.YtbjglicdamenhaaHstG
namespace Go.Proofs.Ytbjglicdamenhaa.G
open Go.RowKit Go.Proofs.YtbjglicdamenhaaW.PrintWords Go.Proofs.YtbjglicdamenhaaW.PrintLast Go.Proofs.YtbjglicdamenhaaW.PrintMore
attribute [local go_sem] max2_int min2_int max_two min_two max_three min_three max_four min_four   -- for this text's walks alone
attribute [local go_sem] run_store_func
set_option linter.unusedVariables false
set_option linter.unusedSimpArgs false
theorem doClose {w0 W : World} {L : List As} {p n c k9 c9 t8 cp cr c7 c11 : Nat} {A A9 A7 A11 Ap Ar Aa : Option Addr} {zc : List (List Value)} {z : List (List Value)} {y : List (S80 × Value × Value)} {rs : List S86} {lg : List S80} {f s : Int} {ps ts ws gs : List Int} {E PK : As}
    (hPK : Sep [Sep (rows2 y), OwP (RdZ A z rs), Box t8 #[.slice Ap ps.length cp, .slice Ar ts.length cr] 37] = PK) (hy : y.map Prod.fst = lg) (hzc : y.map c4 = zc) (hn : rs.length = n) (hc : rs.length ≤ c)
    (h : SB w0 W (Box p #[.slice A n c, .slice A9 k9 c9] 90 :: Row (Kd.raw 4) 80 (.slice A9 k9 c9) (zc ++ [[Value.int .i64 f, Value.slice A7 ws.length c7, Value.int .u64 s, Value.slice A11 gs.length c11]]) :: E :: ArgR w0 Ap ps Ar ts Aa ws :: PK :: Row (Kd.int .u64) 31 (.slice A7 ws.length c7) ws :: Row (Kd.int .u64) 31 (.slice A11 gs.length c11) gs :: L)) :
    SB w0 W (HO p rs (lg ++ [⟨f, ws, s, gs⟩]) :: E :: ArgR w0 Ap ps Ar ts Aa ws :: Box t8 #[.slice Ap ps.length cp, .slice Ar ts.length cr] 37 :: L) := by
  subst hPK hy hzc hn
  have h1 := SB.sepN.1 (h.pick7 [4, 0, 1, 2, 3, 5, 6])
  have h1 : SB w0 W (Sep (rows2 y) :: OwP (RdZ A z rs) :: Box t8 #[.slice Ap ps.length cp, .slice Ar ts.length cr] 37 :: Box p #[.slice A rs.length c, .slice A9 k9 c9] 90 :: Row (Kd.raw 4) 80 (.slice A9 k9 c9) (y.map c4 ++ [[Value.int .i64 f, Value.slice A7 ws.length c7, Value.int .u64 s, Value.slice A11 gs.length c11]]) :: E :: ArgR w0 Ap ps Ar ts Aa ws :: Row (Kd.int .u64) 31 (.slice A7 ws.length c7) ws :: Row (Kd.int .u64) 31 (.slice A11 gs.length c11) gs :: L) := h1
  have h2 : SB w0 W (Row (Kd.int .u64) 31 (.slice A7 ws.length c7) ws :: Row (Kd.int .u64) 31 (.slice A11 gs.length c11) gs :: Sep (rows2 y) :: Row (Kd.raw 4) 80 (.slice A9 k9 c9) (y.map c4 ++ [[Value.int .i64 f, Value.slice A7 ws.length c7, Value.int .u64 s, Value.slice A11 gs.length c11]]) :: Box p #[.slice A rs.length c, .slice A9 k9 c9] 90 :: OwP (RdZ A z rs) :: E :: ArgR w0 Ap ps Ar ts Aa ws :: Box t8 #[.slice Ap ps.length cp, .slice Ar ts.length cr] 37 :: L) := h1.pick9 [7, 8, 0, 4, 3, 1, 5, 6, 2]
  have h3 := SB.sepPush h2.two
  obtain ⟨yn, hyn⟩ : ∃ yn : S80 × Value × Value, yn = (⟨f, ws, s, gs⟩, .slice A7 ws.length c7, .slice A11 gs.length c11) := ⟨_, rfl⟩
  have h4 : SB w0 W (Sep (rows2 (y ++ [yn])) :: Row (Kd.raw 4) 80 (.slice A9 k9 c9) ((y ++ [yn]).map c4) :: Box p #[.slice A rs.length c, .slice A9 k9 c9] 90 :: OwP (RdZ A z rs) :: E :: ArgR w0 Ap ps Ar ts Aa ws :: Box t8 #[.slice Ap ps.length cp, .slice Ar ts.length cr] 37 :: L) := by
    rw [rows2_push, List.map_append, hyn]
    exact h3
  have h5 := SB.clClose (lg := y.map Prod.fst ++ [⟨f, ws, s, gs⟩]) (by rw [List.map_append, hyn]; rfl) h4.swap
  exact SB.hoClose hc (h5.pick3 [1, 2, 0])
theorem argRead {w0 w : World} {L : List As} {Ap Ar Aa : Option Addr} {ps ts ws : List Int} (h : SB w0 w (ArgR w0 Ap ps Ar ts Aa ws :: L)) : Kd.C (Kd.int .u8) w Ap ps.length ps ∧ Kd.C (Kd.int .u8) w Ar ts.length ts ∧ Kd.C (Kd.int .u64) w Aa ws.length ws := SB.rdp h
theorem doneOk {w0 w : World} {L : List As} {p c : Nat} {A A3 : Option Addr} {vl : Value} {lg : List S80} {x : S86} {z : List (List Value)} {rs : List S86} {B3 G E2 B15 B14 RE : As} (hc : rs.length ≤ c) (hRE : Sep [Box p #[.slice A rs.length c, vl] 90, CLs vl lg] = RE) (h : SB w0 w (B3 :: G :: E2 :: B15 :: B14 :: OwN A3 x A z rs :: RE :: L)) : SB w0 w (HO p rs lg :: E2 :: G :: L) := by
  subst hRE
  have h1 : SB w0 w (Sep [Box p #[.slice A rs.length c, vl] 90, CLs vl lg] :: OwN A3 x A z rs :: E2 :: G :: L) := h.pick7 [6, 5, 2, 1]
  have h2 : SB w0 w (Box p #[.slice A rs.length c, vl] 90 :: CLs vl lg :: OwN A3 x A z rs :: E2 :: G :: L) := SB.sepN.1 h1
  have h3 : SB w0 w (OwP (RdZ A z rs) :: Box p #[.slice A rs.length c, vl] 90 :: CLs vl lg :: E2 :: G :: L) := SB.owpImp (h2.pick3 [2, 0, 1]) (fun W h => h.2)
  exact SB.hoClose hc (h3.pick3 [1, 0, 2])
theorem pack2 {w0 w : World} {B A N C E G T : As} {L : List As} (h : SB w0 w (B :: A :: N :: C :: E :: G :: T :: L)) : SB w0 w (Sep [A, C] :: B :: N :: E :: G :: T :: L) := (SB.sepN (M := [A, C])).2 (h.pick7 [1, 3, 0, 2, 4, 5, 6])
theorem pack3 {w0 w : World} {B3 B4 B5 RE B14 N E G T : As} {L : List As} (h : SB w0 w (B3 :: B4 :: B5 :: RE :: B14 :: N :: E :: G :: T :: L)) : SB w0 w (E :: B4 :: N :: B14 :: B5 :: B3 :: G :: RE :: L) := h.pick9 [6, 1, 5, 4, 2, 0, 7, 3]
theorem mv3 {w0 w : World} {A B C D : As} {L : List As} (h : SB w0 w (A :: B :: C :: D :: L)) : SB w0 w (B :: C :: D :: A :: L) := h.pick4 [1, 2, 3, 0]
theorem pack4 {w0 w : World} {E B4 N B15 B14 B5 : As} {L : List As} (h : SB w0 w (E :: B4 :: N :: B15 :: B14 :: B5 :: L)) : SB w0 w (E :: B5 :: N :: B15 :: B14 :: L) := h.pick6 [0, 5, 2, 3, 4]
theorem pack5 {w0 w : World} {E B5 N B15 B14 B3 G : As} {L : List As} (h : SB w0 w (E :: B5 :: N :: B15 :: B14 :: B3 :: G :: L)) : SB w0 w (B3 :: G :: E :: B15 :: B14 :: N :: L) := h.pick7 [5, 6, 0, 3, 4, 2]
theorem at3 {w0 w : World} {A B C D : As} {L : List As} (h : SB w0 w (A :: B :: C :: D :: L)) : SB w0 w (D :: L) := h.pick4 [3]
theorem at4 {w0 w : World} {A B C D E : As} {L : List As} (h : SB w0 w (A :: B :: C :: D :: E :: L)) : SB w0 w (E :: L) := h.pick5 [4]
theorem hstLay2 {w0 w : World} {L : List As} {E E1 : As} {b4 c3 : Nat} {am A3 A : Option Addr} {x0 x2 x4 x5 : Int} {x1 : Bool} {x3 : List Int} {z : List (List Value)} {rs : List S86} {r : Bool} (hS : SB w0 w (E :: Box b4 #[.pointer am] 51 :: OwN A3 ⟨x0, x1, x2, x3, x4, x5⟩ A z rs :: L)) (hE : EnvL w0 am E E1 ⟨x0, x1, x2, x3, x4, x5⟩ r) (hc : x3.length ≤ c3)
    (h2 : -9223372036854775808 ≤ x2 ∧ x2 < 9223372036854775808) :
    Calls Try.prog 47 #[.agg #[.int .u64 x0, .bool x1, .int .i64 x2, .slice A3 x3.length c3, .int .i64 x4, .int .u64 x5], .pointer (some ⟨b4, 0, none⟩)] w fun e w' => e = .returned (.tuple #[]) ∧ SB w0 w' (E1 :: Box b4 #[.pointer am] 51 :: OwN A3 ⟨x0, x1, x2, x3, x4, x5⟩ A z rs :: L) := hstLay (n := 0) (x := ⟨x0, x1, x2, x3, x4, x5⟩) hS hE hc h2
theorem hstSet2 {w0 w : World} {L : List As} {E1 E2 : As} {b5 : Nat} {ag : Option Addr} {x0 x2 x4 x5 : Int} {x1 : Bool} {x3 : List Int} {A3 : Option Addr} {n3 c3 : Nat} {t : Int} {mu ok : Bool} (hS : SB w0 w (E1 :: Box b5 #[.pointer ag] 60 :: L)) (hE : EnvS w0 ag E1 E2 ⟨x0, x1, x2, x3, x4, x5⟩ t mu ok) :
    Calls Try.prog 49 #[.agg #[.int .u64 x0, .bool x1, .int .i64 x2, .slice A3 n3 c3, .int .i64 x4, .int .u64 x5], .pointer (some ⟨b5, 0, none⟩)] w fun e w' => e = .returned (.tuple #[]) ∧ SB w0 w' (E2 :: Box b5 #[.pointer ag] 60 :: L) := hstSet (x := ⟨x0, x1, x2, x3, x4, x5⟩) hS hE
theorem hstVal2 {w0 w : World} {L : List As} {b3 n1 c1 n2 c2 : Nat} {A1 A2 A3 : Option Addr} {x0 x2 x4 x5 : Int} {x1 : Bool} {x3 : List Int} {n3 c3 : Nat} {ts : List Int} (hS : SB w0 w (Box b3 #[.slice A1 n1 c1, .slice A2 n2 c2] 37 :: L)) (hn : ts.length = n2) (hC : Kd.C (Kd.int .u8) w A2 n2 ts) (hl : n2 ≤ 1000000)
    (hv : 0 ≤ x0 ∧ x0 < 18446744073709551616) :
    Calls Try.prog 52 #[.agg #[.int .u64 x0, .bool x1, .int .i64 x2, .slice A3 n3 c3, .int .i64 x4, .int .u64 x5], .pointer (some ⟨b3, 0, none⟩)] w fun e w' => e = .returned (.int .u64 (valB ts x0)) ∧ SB w0 w' (Box b3 #[.slice A1 n1 c1, .slice A2 n2 c2] 37 :: L) := hstVal (x := ⟨x0, x1, x2, x3, x4, x5⟩) hS hn hC hl hv
theorem SB.allocE {w0 w : World} {L : List As} (h : SB w0 w L) (o : Obj) : ∃ W, w.alloc o = W ∧ SB w0 W L := ⟨_, rfl, h.alloc o⟩
set_option maxHeartbeats 4000000 in
set_option maxRecDepth 100000 in
theorem hstDoYes {w0 w : World} {L : List As} {p : Nat} {rs rs' : List S86} {lg : List S80} {E E1 E2 : As} {Ap Ar Aa : Option Addr} {ps ts ws : List Int} {cp cr ca : Nat} {am ag : Option Addr} {s : Int} {gs : List Int} {x : S86} {r mu ok : Bool} {t : Int} (f : Int)
    (hS : SB w0 w (HO p rs lg :: E :: ArgR w0 Ap ps Ar ts Aa ws :: L)) (hl : ps.length ≤ 1000000) (hl2 : ws.length ≤ 1000000) (hl3 : ts.length ≤ 1000000) (hca : ws.length ≤ ca) (hlg : lg.length ≤ 1000000) (hf : fitsB ps ws = true)
    (hn : fNext rs = (x, rs')) (hA : EnvA w0 am ag E s gs) (hL : EnvL w0 am E E1 x r) (hE : EnvS w0 ag E1 E2 x t mu ok) (hx0 : 0 ≤ x.f0 ∧ x.f0 < 18446744073709551616) (hx2 : -9223372036854775808 ≤ x.f2 ∧ x.f2 < 9223372036854775808) :
    Calls Try.prog 12 #[.pointer (some ⟨p, 0, none⟩), .int .i64 f, .agg #[.slice Ap ps.length cp, .slice Ar ts.length cr], .slice Aa ws.length ca, .pointer am, .pointer ag] w fun e w' =>
      e = .returned (.tuple #[.int .u64 (if x.f1 then 0 else valB ts x.f0), .int .i64 (if x.f1 then 10 else 0)]) ∧ SB w0 w' (HO p rs' (lg ++ [⟨f, ws, s, gs⟩]) :: (if x.f1 then E else E2) :: ArgR w0 Ap ps Ar ts Aa ws :: L) := by
  obtain ⟨x0, x1, x2, x3, x4, x5⟩ := x
  have hx0 : 0 ≤ x0 ∧ x0 < 18446744073709551616 := hx0
  have hx2 : -9223372036854775808 ≤ x2 ∧ x2 < 9223372036854775808 := hx2
  have hbx := hS.box #[.slice Ap ps.length cp, .slice Ar ts.length cr] 37
  obtain ⟨t8, ht8⟩ : ∃ t8, w.heap.size = t8 := ⟨_, rfl⟩
  rw [ht8] at hbx
  have q0 : _ = some (Value.slice Ap ps.length cp) := blk_cell hbx.blk 0
  have HS := Aside0.mk hbx
  have hq := (hbx.pick4 [3]).rdp
  have HF := Aside0.mk (hstFits Ap Aa cp ca ps ws _ hq.1 hq.2.2 hl hl2)
  rw [hf] at HF
  have HA := Aside0.mk hA
  have HL := Aside0.mk hL
  have HE := Aside0.mk hE
  have HN := Aside0.mk hn
  have HX0 := Aside0.mk hx0
  have HX2 := Aside0.mk hx2
  clear hS hbx hf hq hA hL hE hn hx0 hx2
  go_enter Try.func12, Try.ntmps12
  go_wp2_with (go_at_call 32; go_must ((with_reducible refine (HF.out).mono ?_); rintro e w2 ⟨rfl, hb⟩; have HS2 := Aside0.mk (HS.out.below hb); clear hb))
  rename_i KK hKK
  have HK := Aside0.mk (show ∀ (u16 u17 u18 u19 u20 u21 u22 u23 u24 u25 u26 u27 u28 u29 u30 u31 u32 u33 u34 u35 u36 u37 u38 u39 u40 u41 : Value) (W : World), SB w0 W (HO p rs (lg ++ [⟨f, ws, s, gs⟩]) :: E :: ArgR w0 Ap ps Ar ts Aa ws :: Box t8 #[.slice Ap ps.length cp, .slice Ar ts.length cr] 37 :: L) → KK { tmps := #[.pointer (some ⟨p, 0, none⟩), .int .i64 f, .agg #[.slice Ap ps.length cp, .slice Ar ts.length cr], .slice Aa ws.length ca, .pointer am, .pointer ag, undef, undef, .pointer (some ⟨t8, 0, none⟩), undef, undef, undef, .int .u64 0, .int .i64 0, undef, undef, u16, u17, u18, u19, u20, u21, u22, u23, u24, u25, u26, u27, u28, u29, u30, u31, u32, u33, u34, u35, u36, u37, u38, u39, u40, u41, undef, undef, undef, undef, undef, undef, undef, undef, undef, undef, undef, undef, undef, undef, undef, undef, undef, undef, undef, undef], defers := [] } W by
    intro u16 u17 u18 u19 u20 u21 u22 u23 u24 u25 u26 u27 u28 u29 u30 u31 u32 u33 u34 u35 u36 u37 u38 u39 u40 u41 W hW
    apply hKK
    have HW := Aside0.mk hW
    clear hW hKK
    cases x1 with
    | true =>
      go_wp2_with (first
        | (go_at_call 34; go_must ((with_reducible refine (hstNext HW.out HN.out).mono ?_); rintro e w4 ⟨A3, c3, A', c', z', vl, rfl, h3, hc', hs⟩; simp only [r86]; have hb := hs.box #[.int .u64 x0, .bool true, .int .i64 x2, .slice A3 x3.length c3, .int .i64 x4, .int .u64 x5] 86; have s1 := blk_cell hb.blk 1; have hz := (hs.pick3 [1, 0, 2]).owpImp (q := RdZ A' z' rs') (fun W h => h.2); have HS4 := Aside0.mk (SB.hoClose hc' (hz.pick3 [1, 0, 2])); clear hs hb hz)))
      go_ret2
      exact ⟨rfl, (HS4.out.alloc _).pick4 [0, 1, 2]⟩
    | false =>
      go_wp2_with (first
        | (go_at_call 34; go_must ((with_reducible refine (hstNext HW.out HN.out).mono ?_); rintro e w4 ⟨A3, c3, A', c', z', vl, rfl, h3, hc', hs⟩; simp only [r86]; have hb := hs.box #[.int .u64 x0, .bool false, .int .i64 x2, .slice A3 x3.length c3, .int .i64 x4, .int .u64 x5] 86; have s1 := blk_cell hb.blk 1; obtain ⟨RE, hRE⟩ : ∃ RE, Sep [Box p #[.slice A' rs'.length c', vl] 90, CLs vl (lg ++ [⟨f, ws, s, gs⟩])] = RE := ⟨_, rfl⟩; have hz := pack2 hb; rw [hRE] at hz; have HRE := Aside0.mk hRE; obtain ⟨b14, hb14⟩ : ∃ b, w4.heap.size = b := ⟨_, rfl⟩; rw [hb14] at hz s1; have t80 := blk_cell ((hz.pick6 [5]).blk) 0; have t81 := blk_cell ((hz.pick6 [5]).blk) 1; have HS4 := Aside0.mk (show SB w0 _ (RE :: Box b14 #[.int .u64 x0, .bool false, .int .i64 x2, .slice A3 x3.length c3, .int .i64 x4, .int .u64 x5] 86 :: OwN A3 ⟨x0, false, x2, x3, x4, x5⟩ A' z' rs' :: E :: ArgR w0 Ap ps Ar ts Aa ws :: Box t8 #[.slice Ap ps.length cp, .slice Ar ts.length cr] 37 :: L) from hz); clear hs hb hz hRE))
        | (go_at_call 35; go_must ((with_reducible refine (hstOf HS4.out Ap Ar ps.length cp ts.length cr am ag).mono ?_); rintro e w5 ⟨b3, b4, b5, rfl, hs⟩; simp only [deedV, ptr]; have hb := mv3 ((pack3 hs).box #[.func (.func 47) #[] #[.pointer (some ⟨b4, 0, none⟩)], .func (.func 49) #[] #[.pointer (some ⟨b5, 0, none⟩)], .func (.func 52) #[] #[.pointer (some ⟨b3, 0, none⟩)]] 97); obtain ⟨b15, hb15⟩ : ∃ b, w5.heap.size = b := ⟨_, rfl⟩; rw [hb15] at hb; have s0 := blk_cell ((at3 hb).blk) 0; have h14 := (at4 hb).blk; have r0 := blk_cell h14 0; have r1 := blk_cell h14 1; have r2 := blk_cell h14 2; have r3 := blk_cell h14 3; have r4 := blk_cell h14 4; have r5 := blk_cell h14 5; have HS5 := Aside0.mk hb; clear hs hb h14))
        | (go_at_call 47; go_must ((with_reducible refine (hstLay2 HS5.out HL.out h3 HX2.out).mono ?_); rintro e w6 ⟨rfl, hs⟩; have s0 := blk_cell ((at3 hs).blk) 1; have h14 := (at4 hs).blk; have r0 := blk_cell h14 0; have r1 := blk_cell h14 1; have r2 := blk_cell h14 2; have r3 := blk_cell h14 3; have r4 := blk_cell h14 4; have r5 := blk_cell h14 5; have HS6 := Aside0.mk hs; clear hs h14))
        | (go_at_call 49; go_must ((with_reducible refine (hstSet2 (pack4 HS6.out) HE.out).mono ?_); rintro e w7 ⟨rfl, hs⟩; have s0 := blk_cell ((at3 hs).blk) 2; have h14 := (at4 hs).blk; have r0 := blk_cell h14 0; have r1 := blk_cell h14 1; have r2 := blk_cell h14 2; have r3 := blk_cell h14 3; have r4 := blk_cell h14 4; have r5 := blk_cell h14 5; have hs := pack5 hs; have HAR := Aside0.mk (argRead hs.drop).2.1; have HS7 := Aside0.mk hs; clear hs h14))
        | (go_at_call 52; go_must ((with_reducible refine (hstVal2 (x3 := x3) HS7.out rfl HAR.out hl3 HX0.out).mono ?_); rintro e w8 ⟨rfl, hs⟩; have HS8 := Aside0.mk hs; clear hs)))
      go_ret2
      exact ⟨rfl, doneOk hc' HRE.out HS8.out⟩)
  obtain ⟨A, c, z, vl, hc, h1⟩ := (HS2.out.pick4 [1, 2, 3, 0]).hoOpen
  obtain ⟨y, hy, h2⟩ := (h1.pick3 [2, 0, 1]).clOpen
  obtain ⟨Av, cv, rfl, hcv, _⟩ := h2.reads
  obtain ⟨zc, hzc⟩ : ∃ zc, y.map c4 = zc := ⟨_, rfl⟩
  rw [hzc] at h2 hcv
  have hzl : zc.length ≤ 1000000 := by rw [← hzc]; have := congrArg List.length hy; simp at *; omega
  -- Row raw, rows2, Box p, OwP, E, ArgR, Box t8
  have h3 := (SB.sepN (M := [Sep (rows2 y), OwP (RdZ A z rs), Box t8 #[.slice Ap ps.length cp, .slice Ar ts.length cr] 37])).2 (h2.pick7 [1, 3, 6, 2, 0, 4, 5])
  have h4 := (h3.pick5 [1, 2, 3, 4, 0]).drew
  obtain ⟨PK, hPK⟩ : ∃ PK, Sep [Sep (rows2 y), OwP (RdZ A z rs), Box t8 #[.slice Ap ps.length cp, .slice Ar ts.length cr] 37] = PK := ⟨_, rfl⟩
  obtain ⟨n, hn⟩ : ∃ n, rs.length = n := ⟨_, rfl⟩
  obtain ⟨m, hm⟩ : ∃ m, zc.length = m := ⟨_, rfl⟩
  rw [hPK, hn, hm] at h4
  rw [hm] at hcv
  have s0 : _ = some (Value.slice A n c) := blk_cell h4.blk 0
  have HDF := Aside0.mk (show SB w0 _ (Box p #[.slice A n c, .slice Av m cv] 90 :: Row (Kd.raw 4) 80 (.slice Av m cv) zc :: E :: ArgR w0 Ap ps Ar ts Aa ws :: PK :: L) from h4)
  have HPK := Aside0.mk hPK
  have HY := Aside0.mk hy
  have HZC := Aside0.mk hzc
  have HNR := Aside0.mk hn
  have HM := Aside0.mk hm
  clear h1 h2 h3 h4 hPK hy hzc hn hm
  refine rg_startL (n := 18) (S := fun w' => w'.cell? ⟨p, 0, none⟩ = some (.slice A n c)) (bm 18 0) (by kernel_rfl) rfl (by kernel_rfl) (s0) (fun wd hwd hHeld => ?_)
  refine rg_take (i := 0) (N := some 25) (v := ?_) (a' := ?_) (bm 18 1) rfl rfl (by kernel_rfl) (fun _ _ _ h => h) hHeld (Or.inl ⟨by rfl, ?_⟩) ?_ ?_
  rotate_left
  · intro w' hw'
    have s0 := hw'
    go_simp
    with_reducible rfl
  rotate_left
  · simp only [Act.put, List.setIfInBounds_toArray, List.set_cons_zero, List.set_cons_succ]
    rfl
  refine rg_take (i := 1) (N := some 26) (v := ?_) (a' := ?_) (bm 18 3) rfl rfl (by kernel_rfl) (fun _ _ _ h => h) hHeld (Or.inl ⟨by rfl, ?_⟩) ?_ ?_
  rotate_left
  · intro w' hw'
    have s0 := hw'
    go_simp
    with_reducible rfl
  rotate_left
  · simp only [Act.put, List.setIfInBounds_toArray, List.set_cons_zero, List.set_cons_succ]
    rfl
  refine rg_take (i := 2) (N := some 27) (v := ?_) (a' := ?_) (bm 18 7) rfl rfl (by kernel_rfl) (fun _ _ _ h => h) hHeld (Or.inl ⟨by rfl, ?_⟩) ?_ ?_
  rotate_left
  · intro w' hw'
    have s0 := hw'
    go_simp
    with_reducible rfl
  rotate_left
  · simp only [Act.put, List.setIfInBounds_toArray, List.set_cons_zero, List.set_cons_succ]
    rfl
  refine rg_take (i := 3) (N := some 28) (v := ?_) (a' := ?_) (bm 18 15) rfl rfl (by kernel_rfl) (fun _ _ _ h => h) hHeld (Or.inl ⟨by rfl, ?_⟩) ?_ ?_
  rotate_left
  · intro w' hw'
    have s0 := hw'
    go_simp
    with_reducible rfl
  rotate_left
  · simp only [Act.put, List.setIfInBounds_toArray, List.set_cons_zero, List.set_cons_succ]
    rfl
  refine rg_take (i := 5) (N := some 30) (v := ?_) (a' := ?_) (bm 18 47) rfl rfl (by kernel_rfl) (fun _ _ _ h => h) hHeld (Or.inl ⟨by rfl, ?_⟩) ?_ ?_
  rotate_left
  · intro w' hw'
    have s0 := hw'
    go_simp
    with_reducible rfl
  rotate_left
  · simp only [Act.put, List.setIfInBounds_toArray, List.set_cons_zero, List.set_cons_succ]
    rfl
  refine rg_take (i := 6) (N := some 31) (v := ?_) (a' := ?_) (bm 18 111) rfl rfl (by kernel_rfl) (fun _ _ _ h => h) hHeld (Or.inl ⟨by rfl, ?_⟩) ?_ ?_
  rotate_left
  · intro w' hw'
    have s0 := hw'
    go_simp
    with_reducible rfl
  rotate_left
  · simp only [Act.put, List.setIfInBounds_toArray, List.set_cons_zero, List.set_cons_succ]
    rfl
  refine rg_take (i := 8) (N := some 33) (v := ?_) (a' := ?_) (bm 18 367) rfl rfl (by kernel_rfl) (fun _ _ _ h => h) hHeld (Or.inl ⟨by rfl, ?_⟩) ?_ ?_
  rotate_left
  · intro w' hw'
    have s0 := hw'
    go_simp
    with_reducible rfl
  rotate_left
  · simp only [Act.put, List.setIfInBounds_toArray, List.set_cons_zero, List.set_cons_succ]
    rfl
  refine rg_take (i := 10) (N := some 35) (v := ?_) (a' := ?_) (bm 18 1391) rfl rfl (by kernel_rfl) (fun _ _ _ h => h) hHeld (Or.inl ⟨by rfl, ?_⟩) ?_ ?_
  rotate_left
  · intro w' hw'
    have s0 := hw'
    go_simp
    with_reducible rfl
  rotate_left
  · simp only [Act.put, List.setIfInBounds_toArray, List.set_cons_zero, List.set_cons_succ]
    rfl
  refine rg_ready [4, 7] (by kernel_rfl) (by simp) ?_
  refine rg_one (i := 4) (N := some 29) (bm 18 1407) rfl rfl (by kernel_rfl) (fun K hK => ?_) ?_
  · skip
    first
      | (have hb4 := H13.out.blk; have s1 : _ = some (Value.slice Av m cv) := blk_cell hb4 1; have hnew : _ = some (Value.slice A n c) := blk_cell hb4 0; have HN4 := Aside0.mk hnew; clear hnew hb4)
      | (have hb4 := HCUR.out.blk; have s1 : _ = some (Value.slice Av m cv) := blk_cell hb4 1; have hnew : _ = some (Value.slice A n c) := blk_cell hb4 0; have HN4 := Aside0.mk hnew; clear hnew hb4)
      | (have hb4 := (SB.blk (hwd.out ▸ HDF.out)); have s1 : _ = some (Value.slice Av m cv) := blk_cell hb4 1; have hnew : _ = some (Value.slice A n c) := blk_cell hb4 0; have HN4 := Aside0.mk hnew; clear hnew hb4)
    refine value_ (w1 := ?_) (v := ?_) (by rfl) rfl ?_ ?_
    rotate_left 2
    · go_simp
      constructor
      · rfl
      · rfl
    have hnew := HN4.out
    refine hK.out _ _ hnew ?_
    clear hK K
    refine rg_norm (a' := ?_) ?_ ?_
    rotate_left
    · simp only [Act.put, List.setIfInBounds_toArray, List.set_cons_zero, List.set_cons_succ]
      rfl
    clear hHeld
    have hHeld := hnew
    clear hnew
    refine rg_ready [7] (by kernel_rfl) (by simp) ?_
    refine rg_one (i := 7) (N := some 32) (bm 18 1535) rfl rfl (by kernel_rfl) (fun K hK => ?_) rg_nil
    have HD := Aside0.mk (hwd.out ▸ HDF.out)
    go_simp
    go_at_call 33
    with_reducible refine (cloneU HD.out Aa ca ws ((HD.out.pick4 [3]).rdp.2.2) hca hl2).mono ?_
    rintro e wx4x7r3 ⟨v7, rfl, hs, _⟩
    obtain ⟨A7, c7, rfl, hc7, _⟩ := hs.reads
    have HCUR := Aside0.mk (show SB w0 wx4x7r3 (Box p #[.slice A n c, .slice Av m cv] 90 :: Row (Kd.raw 4) 80 (.slice Av m cv) zc :: E :: ArgR w0 Ap ps Ar ts Aa ws :: PK :: Row (Kd.int .u64) 31 (.slice A7 ws.length c7) ws :: L) from hs.pick6 [1, 2, 3, 4, 5, 0])
    have hb7 := HCUR.out.blk
    have hnew : _ = some (Value.slice A n c) := blk_cell hb7 0
    clear hs hb7
    go_wp2_with fail
    refine hK.out _ _ hnew ?_
    clear hK K
    refine rg_norm (a' := ?_) ?_ ?_
    rotate_left
    · simp only [Act.put, List.setIfInBounds_toArray, List.set_cons_zero, List.set_cons_succ]
      rfl
    clear hHeld
    have hHeld := hnew
    clear hnew
    refine rg_ready [9] (by kernel_rfl) (by simp) ?_
    refine rg_one (i := 9) (N := some 34) (bm 18 2047) rfl rfl (by kernel_rfl) (fun K hK => ?_) rg_nil
    go_simp
    go_at_call 22
    with_reducible refine (HA.out.sum (HCUR.out.pick6 [2, 0, 1, 3, 4, 5])).mono ?_
    rintro e wx4x7x9r3 ⟨rfl, hs⟩
    have HCUR := Aside0.mk (show SB w0 wx4x7x9r3 (Box p #[.slice A n c, .slice Av m cv] 90 :: Row (Kd.raw 4) 80 (.slice Av m cv) zc :: E :: ArgR w0 Ap ps Ar ts Aa ws :: PK :: Row (Kd.int .u64) 31 (.slice A7 ws.length c7) ws :: L) from hs.pick6 [1, 2, 0, 3, 4, 5])
    have hb9 := HCUR.out.blk
    have hnew : _ = some (Value.slice A n c) := blk_cell hb9 0
    clear hs hb9
    go_wp2_with fail
    refine hK.out _ _ hnew ?_
    clear hK K
    refine rg_norm (a' := ?_) ?_ ?_
    rotate_left
    · simp only [Act.put, List.setIfInBounds_toArray, List.set_cons_zero, List.set_cons_succ]
      rfl
    clear hHeld
    have hHeld := hnew
    clear hnew
    refine rg_ready [11] (by kernel_rfl) (by simp) ?_
    refine rg_one (i := 11) (N := some 36) (bm 18 4095) rfl rfl (by kernel_rfl) (fun K hK => ?_) rg_nil
    go_simp
    go_at_call 25
    with_reducible refine (HA.out.all (HCUR.out.pick6 [2, 0, 1, 3, 4, 5])).mono ?_
    rintro e wx4x7x9x11r3 ⟨v11, rfl, hs⟩
    obtain ⟨A11, c11, rfl, hc11, _⟩ := hs.reads
    have HCUR := Aside0.mk (show SB w0 wx4x7x9x11r3 (Box p #[.slice A n c, .slice Av m cv] 90 :: Row (Kd.raw 4) 80 (.slice Av m cv) zc :: E :: ArgR w0 Ap ps Ar ts Aa ws :: PK :: Row (Kd.int .u64) 31 (.slice A7 ws.length c7) ws :: Row (Kd.int .u64) 31 (.slice A11 gs.length c11) gs :: L) from hs.pick7 [2, 3, 1, 4, 5, 6, 0])
    have hb11 := HCUR.out.blk
    have hnew : _ = some (Value.slice A n c) := blk_cell hb11 0
    clear hs hb11
    go_wp2_with fail
    refine hK.out _ _ hnew ?_
    clear hK K
    refine rg_norm (a' := ?_) ?_ ?_
    rotate_left
    · simp only [Act.put, List.setIfInBounds_toArray, List.set_cons_zero, List.set_cons_succ]
      rfl
    clear hHeld
    have hHeld := hnew
    clear hnew
    refine rg_take (i := 12) (N := some 37) (v := ?_) (a' := ?_) (bm 18 8191) rfl rfl (by kernel_rfl) (fun _ _ _ h => h) hHeld (Or.inl ⟨by rfl, ?_⟩) ?_ ?_
    rotate_left
    · intro w' hw'
      have s0 := hw'
      go_simp
      with_reducible rfl
    rotate_left
    · simp only [Act.put, List.setIfInBounds_toArray, List.set_cons_zero, List.set_cons_succ]
      rfl
    refine rg_ready [13] (by kernel_rfl) (by simp) ?_
    refine rg_one (i := 13) (N := some 38) (bm 18 16383) rfl rfl (by kernel_rfl) (fun K hK => ?_) rg_nil
    go_simp
    obtain ⟨wx4x7x9x11x13r3, hn13, h13⟩ := HCUR.out.allocE (.cells #[.int .i64 f, .slice A7 ws.length c7, .int .u64 s, .slice A11 gs.length c11] 80)
    rw [hn13]
    have H13 := Aside0.mk h13
    have hb2 := h13.blk
    clear h13
    have hnew : _ = some (Value.slice A n c) := blk_cell hb2 0
    have HN13 := Aside0.mk hn13
    clear hb2 hn13
    refine hK.out _ _ hnew ?_
    clear hK K
    refine rg_norm (a' := ?_) ?_ ?_
    rotate_left
    · simp only [Act.put, List.setIfInBounds_toArray, List.set_cons_zero, List.set_cons_succ]
      rfl
    clear hHeld
    have hHeld := hnew
    clear hnew
    refine rg_ready [14] (by kernel_rfl) (by simp) ?_
    refine rg_one (i := 14) (N := some 39) (bm 18 32767) rfl rfl (by kernel_rfl) (fun K hK => ?_) rg_nil
    rw [← HN13.out]
    refine SB.app1Step (y := [.int .i64 f, .slice A7 ws.length c7, .int .u64 s, .slice A11 gs.length c11]) (HCUR.out.pick2 [1, 0]) (by rfl) (.tmp 29) (.tmp 38) 44 (.agg #[.int .i64 0, .slice none 0 0, .int .u64 0, .slice none 0 0]) 64 rfl Try.underlying44 info80 rfl (by decide) (by decide) rfl rfl ⟨rfl, rfl, by simp [Value.oneCell']⟩ (by rw [HM.out]; have := HM.out; omega) ?_
    intro v9 wx4x7x9x11x13x14r3 hs9
    obtain ⟨A9, c9, he9, hc9, _⟩ := hs9.reads
    obtain ⟨k9, hk9⟩ : ∃ k9, (zc ++ [[Value.int .i64 f, Value.slice A7 ws.length c7, Value.int .u64 s, Value.slice A11 gs.length c11]]).length = k9 := ⟨_, rfl⟩
    rw [hk9] at he9
    subst he9
    have HD9 := Aside0.mk (show SB w0 wx4x7x9x11x13x14r3 (Box p #[.slice A n c, .slice Av m cv] 90 :: Row (Kd.raw 4) 80 (.slice A9 k9 c9) (zc ++ [[Value.int .i64 f, Value.slice A7 ws.length c7, Value.int .u64 s, Value.slice A11 gs.length c11]]) :: E :: ArgR w0 Ap ps Ar ts Aa ws :: PK :: Row (Kd.int .u64) 31 (.slice A7 ws.length c7) ws :: Row (Kd.int .u64) 31 (.slice A11 gs.length c11) gs :: L) from hs9.pick2 [1, 0])
    have hb9 := HD9.out.blk
    have hnew : _ = some (Value.slice A n c) := blk_cell hb9 0
    clear hs9 hb9 hk9 hc9
    refine hK.out _ _ hnew ?_
    clear hK K
    refine rg_norm (a' := ?_) ?_ ?_
    rotate_left
    · simp only [Act.put, List.setIfInBounds_toArray, List.set_cons_zero, List.set_cons_succ]
      rfl
    clear hHeld
    have hHeld := hnew
    clear hnew
    refine rg_take (i := 15) (N := some 40) (v := ?_) (a' := ?_) (bm 18 65535) rfl rfl (by kernel_rfl) (fun _ _ _ h => h) hHeld (Or.inl ⟨by rfl, ?_⟩) ?_ ?_
    rotate_left
    · intro w' hw'
      have s0 := hw'
      go_simp
      with_reducible rfl
    rotate_left
    · simp only [Act.put, List.setIfInBounds_toArray, List.set_cons_zero, List.set_cons_succ]
      rfl
    refine rg_take (i := 16) (N := some 41) (v := ?_) (a' := ?_) (bm 18 131071) rfl rfl (by kernel_rfl) (fun _ _ _ h => h) hHeld (Or.inl ⟨by rfl, ?_⟩) ?_ ?_
    rotate_left
    · intro w' hw'
      have s0 := hw'
      go_simp
      with_reducible rfl
    rotate_left
    · simp only [Act.put, List.setIfInBounds_toArray, List.set_cons_zero, List.set_cons_succ]
      rfl
    refine rg_ready [17] (by kernel_rfl) (by simp) ?_
    refine rg_one (i := 17) (N := none) (bm 18 262143) rfl rfl (by kernel_rfl) (fun K hK => ?_) rg_nil
    have hb10 := HD9.out.blk
    have x1 := blk_cell hb10 1
    have f1 := blk_frozen hb10 1
    have h11 := HD9.out.set1 1 (.slice A9 k9 c9)
    have hb11 := h11.blk
    have hnew : _ = some (Value.slice A n c) := blk_cell hb11 0
    have HD11 := Aside0.mk h11
    clear hb10 h11 hb11
    go_simp
    refine hK.out undef _ hnew ?_
    clear hK K
    refine rg_norm (a' := ?_) ?_ ?_
    rotate_left
    · simp only [Act.put, List.setIfInBounds_toArray, List.set_cons_zero, List.set_cons_succ]
      rfl
    clear hHeld
    have hHeld := hnew
    clear hnew
    refine rg_done (by kernel_rfl) ?_
    exact HK.out _ _ _ _ _ _ _ _ _ _ _ _ _ _ _ _ _ _ _ _ _ _ _ _ _ _ _ (doClose HPK.out HY.out HZC.out HNR.out hc HD11.out)
  refine rg_one (i := 7) (N := some 32) (bm 18 1519) rfl rfl (by kernel_rfl) (fun K hK => ?_) ?_
  · skip
    have HD := Aside0.mk (hwd.out ▸ HDF.out)
    go_simp
    go_at_call 33
    with_reducible refine (cloneU HD.out Aa ca ws ((HD.out.pick4 [3]).rdp.2.2) hca hl2).mono ?_
    rintro e wx7r3 ⟨v7, rfl, hs, _⟩
    obtain ⟨A7, c7, rfl, hc7, _⟩ := hs.reads
    have HCUR := Aside0.mk (show SB w0 wx7r3 (Box p #[.slice A n c, .slice Av m cv] 90 :: Row (Kd.raw 4) 80 (.slice Av m cv) zc :: E :: ArgR w0 Ap ps Ar ts Aa ws :: PK :: Row (Kd.int .u64) 31 (.slice A7 ws.length c7) ws :: L) from hs.pick6 [1, 2, 3, 4, 5, 0])
    have hb7 := HCUR.out.blk
    have hnew : _ = some (Value.slice A n c) := blk_cell hb7 0
    clear hs hb7
    go_wp2_with fail
    refine hK.out _ _ hnew ?_
    clear hK K
    refine rg_norm (a' := ?_) ?_ ?_
    rotate_left
    · simp only [Act.put, List.setIfInBounds_toArray, List.set_cons_zero, List.set_cons_succ]
      rfl
    clear hHeld
    have hHeld := hnew
    clear hnew
    refine rg_ready [4, 9] (by kernel_rfl) (by simp) ?_
    refine rg_one (i := 4) (N := some 29) (bm 18 1535) rfl rfl (by kernel_rfl) (fun K hK => ?_) ?_
    · skip
      first
        | (have hb4 := H13.out.blk; have s1 : _ = some (Value.slice Av m cv) := blk_cell hb4 1; have hnew : _ = some (Value.slice A n c) := blk_cell hb4 0; have HN4 := Aside0.mk hnew; clear hnew hb4)
        | (have hb4 := HCUR.out.blk; have s1 : _ = some (Value.slice Av m cv) := blk_cell hb4 1; have hnew : _ = some (Value.slice A n c) := blk_cell hb4 0; have HN4 := Aside0.mk hnew; clear hnew hb4)
        | (have hb4 := (SB.blk (hwd.out ▸ HDF.out)); have s1 : _ = some (Value.slice Av m cv) := blk_cell hb4 1; have hnew : _ = some (Value.slice A n c) := blk_cell hb4 0; have HN4 := Aside0.mk hnew; clear hnew hb4)
      refine value_ (w1 := ?_) (v := ?_) (by rfl) rfl ?_ ?_
      rotate_left 2
      · go_simp
        constructor
        · rfl
        · rfl
      have hnew := HN4.out
      refine hK.out _ _ hnew ?_
      clear hK K
      refine rg_norm (a' := ?_) ?_ ?_
      rotate_left
      · simp only [Act.put, List.setIfInBounds_toArray, List.set_cons_zero, List.set_cons_succ]
        rfl
      clear hHeld
      have hHeld := hnew
      clear hnew
      refine rg_ready [9] (by kernel_rfl) (by simp) ?_
      refine rg_one (i := 9) (N := some 34) (bm 18 2047) rfl rfl (by kernel_rfl) (fun K hK => ?_) rg_nil
      go_simp
      go_at_call 22
      with_reducible refine (HA.out.sum (HCUR.out.pick6 [2, 0, 1, 3, 4, 5])).mono ?_
      rintro e wx7x4x9r3 ⟨rfl, hs⟩
      have HCUR := Aside0.mk (show SB w0 wx7x4x9r3 (Box p #[.slice A n c, .slice Av m cv] 90 :: Row (Kd.raw 4) 80 (.slice Av m cv) zc :: E :: ArgR w0 Ap ps Ar ts Aa ws :: PK :: Row (Kd.int .u64) 31 (.slice A7 ws.length c7) ws :: L) from hs.pick6 [1, 2, 0, 3, 4, 5])
      have hb9 := HCUR.out.blk
      have hnew : _ = some (Value.slice A n c) := blk_cell hb9 0
      clear hs hb9
      go_wp2_with fail
      refine hK.out _ _ hnew ?_
      clear hK K
      refine rg_norm (a' := ?_) ?_ ?_
      rotate_left
      · simp only [Act.put, List.setIfInBounds_toArray, List.set_cons_zero, List.set_cons_succ]
        rfl
      clear hHeld
      have hHeld := hnew
      clear hnew
      refine rg_ready [11] (by kernel_rfl) (by simp) ?_
      refine rg_one (i := 11) (N := some 36) (bm 18 4095) rfl rfl (by kernel_rfl) (fun K hK => ?_) rg_nil
      go_simp
      go_at_call 25
      with_reducible refine (HA.out.all (HCUR.out.pick6 [2, 0, 1, 3, 4, 5])).mono ?_
      rintro e wx7x4x9x11r3 ⟨v11, rfl, hs⟩
      obtain ⟨A11, c11, rfl, hc11, _⟩ := hs.reads
      have HCUR := Aside0.mk (show SB w0 wx7x4x9x11r3 (Box p #[.slice A n c, .slice Av m cv] 90 :: Row (Kd.raw 4) 80 (.slice Av m cv) zc :: E :: ArgR w0 Ap ps Ar ts Aa ws :: PK :: Row (Kd.int .u64) 31 (.slice A7 ws.length c7) ws :: Row (Kd.int .u64) 31 (.slice A11 gs.length c11) gs :: L) from hs.pick7 [2, 3, 1, 4, 5, 6, 0])
      have hb11 := HCUR.out.blk
      have hnew : _ = some (Value.slice A n c) := blk_cell hb11 0
      clear hs hb11
      go_wp2_with fail
      refine hK.out _ _ hnew ?_
      clear hK K
      refine rg_norm (a' := ?_) ?_ ?_
      rotate_left
      · simp only [Act.put, List.setIfInBounds_toArray, List.set_cons_zero, List.set_cons_succ]
        rfl
      clear hHeld
      have hHeld := hnew
      clear hnew
      refine rg_take (i := 12) (N := some 37) (v := ?_) (a' := ?_) (bm 18 8191) rfl rfl (by kernel_rfl) (fun _ _ _ h => h) hHeld (Or.inl ⟨by rfl, ?_⟩) ?_ ?_
      rotate_left
      · intro w' hw'
        have s0 := hw'
        go_simp
        with_reducible rfl
      rotate_left
      · simp only [Act.put, List.setIfInBounds_toArray, List.set_cons_zero, List.set_cons_succ]
        rfl
      refine rg_ready [13] (by kernel_rfl) (by simp) ?_
      refine rg_one (i := 13) (N := some 38) (bm 18 16383) rfl rfl (by kernel_rfl) (fun K hK => ?_) rg_nil
      go_simp
      obtain ⟨wx7x4x9x11x13r3, hn13, h13⟩ := HCUR.out.allocE (.cells #[.int .i64 f, .slice A7 ws.length c7, .int .u64 s, .slice A11 gs.length c11] 80)
      rw [hn13]
      have H13 := Aside0.mk h13
      have hb2 := h13.blk
      clear h13
      have hnew : _ = some (Value.slice A n c) := blk_cell hb2 0
      have HN13 := Aside0.mk hn13
      clear hb2 hn13
      refine hK.out _ _ hnew ?_
      clear hK K
      refine rg_norm (a' := ?_) ?_ ?_
      rotate_left
      · simp only [Act.put, List.setIfInBounds_toArray, List.set_cons_zero, List.set_cons_succ]
        rfl
      clear hHeld
      have hHeld := hnew
      clear hnew
      refine rg_ready [14] (by kernel_rfl) (by simp) ?_
      refine rg_one (i := 14) (N := some 39) (bm 18 32767) rfl rfl (by kernel_rfl) (fun K hK => ?_) rg_nil
      rw [← HN13.out]
      refine SB.app1Step (y := [.int .i64 f, .slice A7 ws.length c7, .int .u64 s, .slice A11 gs.length c11]) (HCUR.out.pick2 [1, 0]) (by rfl) (.tmp 29) (.tmp 38) 44 (.agg #[.int .i64 0, .slice none 0 0, .int .u64 0, .slice none 0 0]) 64 rfl Try.underlying44 info80 rfl (by decide) (by decide) rfl rfl ⟨rfl, rfl, by simp [Value.oneCell']⟩ (by rw [HM.out]; have := HM.out; omega) ?_
      intro v9 wx7x4x9x11x13x14r3 hs9
      obtain ⟨A9, c9, he9, hc9, _⟩ := hs9.reads
      obtain ⟨k9, hk9⟩ : ∃ k9, (zc ++ [[Value.int .i64 f, Value.slice A7 ws.length c7, Value.int .u64 s, Value.slice A11 gs.length c11]]).length = k9 := ⟨_, rfl⟩
      rw [hk9] at he9
      subst he9
      have HD9 := Aside0.mk (show SB w0 wx7x4x9x11x13x14r3 (Box p #[.slice A n c, .slice Av m cv] 90 :: Row (Kd.raw 4) 80 (.slice A9 k9 c9) (zc ++ [[Value.int .i64 f, Value.slice A7 ws.length c7, Value.int .u64 s, Value.slice A11 gs.length c11]]) :: E :: ArgR w0 Ap ps Ar ts Aa ws :: PK :: Row (Kd.int .u64) 31 (.slice A7 ws.length c7) ws :: Row (Kd.int .u64) 31 (.slice A11 gs.length c11) gs :: L) from hs9.pick2 [1, 0])
      have hb9 := HD9.out.blk
      have hnew : _ = some (Value.slice A n c) := blk_cell hb9 0
      clear hs9 hb9 hk9 hc9
      refine hK.out _ _ hnew ?_
      clear hK K
      refine rg_norm (a' := ?_) ?_ ?_
      rotate_left
      · simp only [Act.put, List.setIfInBounds_toArray, List.set_cons_zero, List.set_cons_succ]
        rfl
      clear hHeld
      have hHeld := hnew
      clear hnew
      refine rg_take (i := 15) (N := some 40) (v := ?_) (a' := ?_) (bm 18 65535) rfl rfl (by kernel_rfl) (fun _ _ _ h => h) hHeld (Or.inl ⟨by rfl, ?_⟩) ?_ ?_
      rotate_left
      · intro w' hw'
        have s0 := hw'
        go_simp
        with_reducible rfl
      rotate_left
      · simp only [Act.put, List.setIfInBounds_toArray, List.set_cons_zero, List.set_cons_succ]
        rfl
      refine rg_take (i := 16) (N := some 41) (v := ?_) (a' := ?_) (bm 18 131071) rfl rfl (by kernel_rfl) (fun _ _ _ h => h) hHeld (Or.inl ⟨by rfl, ?_⟩) ?_ ?_
      rotate_left
      · intro w' hw'
        have s0 := hw'
        go_simp
        with_reducible rfl
      rotate_left
      · simp only [Act.put, List.setIfInBounds_toArray, List.set_cons_zero, List.set_cons_succ]
        rfl
      refine rg_ready [17] (by kernel_rfl) (by simp) ?_
      refine rg_one (i := 17) (N := none) (bm 18 262143) rfl rfl (by kernel_rfl) (fun K hK => ?_) rg_nil
      have hb10 := HD9.out.blk
      have x1 := blk_cell hb10 1
      have f1 := blk_frozen hb10 1
      have h11 := HD9.out.set1 1 (.slice A9 k9 c9)
      have hb11 := h11.blk
      have hnew : _ = some (Value.slice A n c) := blk_cell hb11 0
      have HD11 := Aside0.mk h11
      clear hb10 h11 hb11
      go_simp
      refine hK.out undef _ hnew ?_
      clear hK K
      refine rg_norm (a' := ?_) ?_ ?_
      rotate_left
      · simp only [Act.put, List.setIfInBounds_toArray, List.set_cons_zero, List.set_cons_succ]
        rfl
      clear hHeld
      have hHeld := hnew
      clear hnew
      refine rg_done (by kernel_rfl) ?_
      exact HK.out _ _ _ _ _ _ _ _ _ _ _ _ _ _ _ _ _ _ _ _ _ _ _ _ _ _ _ (doClose HPK.out HY.out HZC.out HNR.out hc HD11.out)
    refine rg_one (i := 9) (N := some 34) (bm 18 2031) rfl rfl (by kernel_rfl) (fun K hK => ?_) ?_
    · skip
      go_simp
      go_at_call 22
      with_reducible refine (HA.out.sum (HCUR.out.pick6 [2, 0, 1, 3, 4, 5])).mono ?_
      rintro e wx7x9r3 ⟨rfl, hs⟩
      have HCUR := Aside0.mk (show SB w0 wx7x9r3 (Box p #[.slice A n c, .slice Av m cv] 90 :: Row (Kd.raw 4) 80 (.slice Av m cv) zc :: E :: ArgR w0 Ap ps Ar ts Aa ws :: PK :: Row (Kd.int .u64) 31 (.slice A7 ws.length c7) ws :: L) from hs.pick6 [1, 2, 0, 3, 4, 5])
      have hb9 := HCUR.out.blk
      have hnew : _ = some (Value.slice A n c) := blk_cell hb9 0
      clear hs hb9
      go_wp2_with fail
      refine hK.out _ _ hnew ?_
      clear hK K
      refine rg_norm (a' := ?_) ?_ ?_
      rotate_left
      · simp only [Act.put, List.setIfInBounds_toArray, List.set_cons_zero, List.set_cons_succ]
        rfl
      clear hHeld
      have hHeld := hnew
      clear hnew
      refine rg_ready [4, 11] (by kernel_rfl) (by simp) ?_
      refine rg_one (i := 4) (N := some 29) (bm 18 2047) rfl rfl (by kernel_rfl) (fun K hK => ?_) ?_
      · skip
        first
          | (have hb4 := H13.out.blk; have s1 : _ = some (Value.slice Av m cv) := blk_cell hb4 1; have hnew : _ = some (Value.slice A n c) := blk_cell hb4 0; have HN4 := Aside0.mk hnew; clear hnew hb4)
          | (have hb4 := HCUR.out.blk; have s1 : _ = some (Value.slice Av m cv) := blk_cell hb4 1; have hnew : _ = some (Value.slice A n c) := blk_cell hb4 0; have HN4 := Aside0.mk hnew; clear hnew hb4)
          | (have hb4 := (SB.blk (hwd.out ▸ HDF.out)); have s1 : _ = some (Value.slice Av m cv) := blk_cell hb4 1; have hnew : _ = some (Value.slice A n c) := blk_cell hb4 0; have HN4 := Aside0.mk hnew; clear hnew hb4)
        refine value_ (w1 := ?_) (v := ?_) (by rfl) rfl ?_ ?_
        rotate_left 2
        · go_simp
          constructor
          · rfl
          · rfl
        have hnew := HN4.out
        refine hK.out _ _ hnew ?_
        clear hK K
        refine rg_norm (a' := ?_) ?_ ?_
        rotate_left
        · simp only [Act.put, List.setIfInBounds_toArray, List.set_cons_zero, List.set_cons_succ]
          rfl
        clear hHeld
        have hHeld := hnew
        clear hnew
        refine rg_ready [11] (by kernel_rfl) (by simp) ?_
        refine rg_one (i := 11) (N := some 36) (bm 18 4095) rfl rfl (by kernel_rfl) (fun K hK => ?_) rg_nil
        go_simp
        go_at_call 25
        with_reducible refine (HA.out.all (HCUR.out.pick6 [2, 0, 1, 3, 4, 5])).mono ?_
        rintro e wx7x9x4x11r3 ⟨v11, rfl, hs⟩
        obtain ⟨A11, c11, rfl, hc11, _⟩ := hs.reads
        have HCUR := Aside0.mk (show SB w0 wx7x9x4x11r3 (Box p #[.slice A n c, .slice Av m cv] 90 :: Row (Kd.raw 4) 80 (.slice Av m cv) zc :: E :: ArgR w0 Ap ps Ar ts Aa ws :: PK :: Row (Kd.int .u64) 31 (.slice A7 ws.length c7) ws :: Row (Kd.int .u64) 31 (.slice A11 gs.length c11) gs :: L) from hs.pick7 [2, 3, 1, 4, 5, 6, 0])
        have hb11 := HCUR.out.blk
        have hnew : _ = some (Value.slice A n c) := blk_cell hb11 0
        clear hs hb11
        go_wp2_with fail
        refine hK.out _ _ hnew ?_
        clear hK K
        refine rg_norm (a' := ?_) ?_ ?_
        rotate_left
        · simp only [Act.put, List.setIfInBounds_toArray, List.set_cons_zero, List.set_cons_succ]
          rfl
        clear hHeld
        have hHeld := hnew
        clear hnew
        refine rg_take (i := 12) (N := some 37) (v := ?_) (a' := ?_) (bm 18 8191) rfl rfl (by kernel_rfl) (fun _ _ _ h => h) hHeld (Or.inl ⟨by rfl, ?_⟩) ?_ ?_
        rotate_left
        · intro w' hw'
          have s0 := hw'
          go_simp
          with_reducible rfl
        rotate_left
        · simp only [Act.put, List.setIfInBounds_toArray, List.set_cons_zero, List.set_cons_succ]
          rfl
        refine rg_ready [13] (by kernel_rfl) (by simp) ?_
        refine rg_one (i := 13) (N := some 38) (bm 18 16383) rfl rfl (by kernel_rfl) (fun K hK => ?_) rg_nil
        go_simp
        obtain ⟨wx7x9x4x11x13r3, hn13, h13⟩ := HCUR.out.allocE (.cells #[.int .i64 f, .slice A7 ws.length c7, .int .u64 s, .slice A11 gs.length c11] 80)
        rw [hn13]
        have H13 := Aside0.mk h13
        have hb2 := h13.blk
        clear h13
        have hnew : _ = some (Value.slice A n c) := blk_cell hb2 0
        have HN13 := Aside0.mk hn13
        clear hb2 hn13
        refine hK.out _ _ hnew ?_
        clear hK K
        refine rg_norm (a' := ?_) ?_ ?_
        rotate_left
        · simp only [Act.put, List.setIfInBounds_toArray, List.set_cons_zero, List.set_cons_succ]
          rfl
        clear hHeld
        have hHeld := hnew
        clear hnew
        refine rg_ready [14] (by kernel_rfl) (by simp) ?_
        refine rg_one (i := 14) (N := some 39) (bm 18 32767) rfl rfl (by kernel_rfl) (fun K hK => ?_) rg_nil
        rw [← HN13.out]
        refine SB.app1Step (y := [.int .i64 f, .slice A7 ws.length c7, .int .u64 s, .slice A11 gs.length c11]) (HCUR.out.pick2 [1, 0]) (by rfl) (.tmp 29) (.tmp 38) 44 (.agg #[.int .i64 0, .slice none 0 0, .int .u64 0, .slice none 0 0]) 64 rfl Try.underlying44 info80 rfl (by decide) (by decide) rfl rfl ⟨rfl, rfl, by simp [Value.oneCell']⟩ (by rw [HM.out]; have := HM.out; omega) ?_
        intro v9 wx7x9x4x11x13x14r3 hs9
        obtain ⟨A9, c9, he9, hc9, _⟩ := hs9.reads
        obtain ⟨k9, hk9⟩ : ∃ k9, (zc ++ [[Value.int .i64 f, Value.slice A7 ws.length c7, Value.int .u64 s, Value.slice A11 gs.length c11]]).length = k9 := ⟨_, rfl⟩
        rw [hk9] at he9
        subst he9
        have HD9 := Aside0.mk (show SB w0 wx7x9x4x11x13x14r3 (Box p #[.slice A n c, .slice Av m cv] 90 :: Row (Kd.raw 4) 80 (.slice A9 k9 c9) (zc ++ [[Value.int .i64 f, Value.slice A7 ws.length c7, Value.int .u64 s, Value.slice A11 gs.length c11]]) :: E :: ArgR w0 Ap ps Ar ts Aa ws :: PK :: Row (Kd.int .u64) 31 (.slice A7 ws.length c7) ws :: Row (Kd.int .u64) 31 (.slice A11 gs.length c11) gs :: L) from hs9.pick2 [1, 0])
        have hb9 := HD9.out.blk
        have hnew : _ = some (Value.slice A n c) := blk_cell hb9 0
        clear hs9 hb9 hk9 hc9
        refine hK.out _ _ hnew ?_
        clear hK K
        refine rg_norm (a' := ?_) ?_ ?_
        rotate_left
        · simp only [Act.put, List.setIfInBounds_toArray, List.set_cons_zero, List.set_cons_succ]
          rfl
        clear hHeld
        have hHeld := hnew
        clear hnew
        refine rg_take (i := 15) (N := some 40) (v := ?_) (a' := ?_) (bm 18 65535) rfl rfl (by kernel_rfl) (fun _ _ _ h => h) hHeld (Or.inl ⟨by rfl, ?_⟩) ?_ ?_
        rotate_left
        · intro w' hw'
          have s0 := hw'
          go_simp
          with_reducible rfl
        rotate_left
        · simp only [Act.put, List.setIfInBounds_toArray, List.set_cons_zero, List.set_cons_succ]
          rfl
        refine rg_take (i := 16) (N := some 41) (v := ?_) (a' := ?_) (bm 18 131071) rfl rfl (by kernel_rfl) (fun _ _ _ h => h) hHeld (Or.inl ⟨by rfl, ?_⟩) ?_ ?_
        rotate_left
        · intro w' hw'
          have s0 := hw'
          go_simp
          with_reducible rfl
        rotate_left
        · simp only [Act.put, List.setIfInBounds_toArray, List.set_cons_zero, List.set_cons_succ]
          rfl
        refine rg_ready [17] (by kernel_rfl) (by simp) ?_
        refine rg_one (i := 17) (N := none) (bm 18 262143) rfl rfl (by kernel_rfl) (fun K hK => ?_) rg_nil
        have hb10 := HD9.out.blk
        have x1 := blk_cell hb10 1
        have f1 := blk_frozen hb10 1
        have h11 := HD9.out.set1 1 (.slice A9 k9 c9)
        have hb11 := h11.blk
        have hnew : _ = some (Value.slice A n c) := blk_cell hb11 0
        have HD11 := Aside0.mk h11
        clear hb10 h11 hb11
        go_simp
        refine hK.out undef _ hnew ?_
        clear hK K
        refine rg_norm (a' := ?_) ?_ ?_
        rotate_left
        · simp only [Act.put, List.setIfInBounds_toArray, List.set_cons_zero, List.set_cons_succ]
          rfl
        clear hHeld
        have hHeld := hnew
        clear hnew
        refine rg_done (by kernel_rfl) ?_
        exact HK.out _ _ _ _ _ _ _ _ _ _ _ _ _ _ _ _ _ _ _ _ _ _ _ _ _ _ _ (doClose HPK.out HY.out HZC.out HNR.out hc HD11.out)
      refine rg_one (i := 11) (N := some 36) (bm 18 4079) rfl rfl (by kernel_rfl) (fun K hK => ?_) ?_
      · skip
        go_simp
        go_at_call 25
        with_reducible refine (HA.out.all (HCUR.out.pick6 [2, 0, 1, 3, 4, 5])).mono ?_
        rintro e wx7x9x11r3 ⟨v11, rfl, hs⟩
        obtain ⟨A11, c11, rfl, hc11, _⟩ := hs.reads
        have HCUR := Aside0.mk (show SB w0 wx7x9x11r3 (Box p #[.slice A n c, .slice Av m cv] 90 :: Row (Kd.raw 4) 80 (.slice Av m cv) zc :: E :: ArgR w0 Ap ps Ar ts Aa ws :: PK :: Row (Kd.int .u64) 31 (.slice A7 ws.length c7) ws :: Row (Kd.int .u64) 31 (.slice A11 gs.length c11) gs :: L) from hs.pick7 [2, 3, 1, 4, 5, 6, 0])
        have hb11 := HCUR.out.blk
        have hnew : _ = some (Value.slice A n c) := blk_cell hb11 0
        clear hs hb11
        go_wp2_with fail
        refine hK.out _ _ hnew ?_
        clear hK K
        refine rg_norm (a' := ?_) ?_ ?_
        rotate_left
        · simp only [Act.put, List.setIfInBounds_toArray, List.set_cons_zero, List.set_cons_succ]
          rfl
        clear hHeld
        have hHeld := hnew
        clear hnew
        refine rg_take (i := 12) (N := some 37) (v := ?_) (a' := ?_) (bm 18 8175) rfl rfl (by kernel_rfl) (fun _ _ _ h => h) hHeld (Or.inl ⟨by rfl, ?_⟩) ?_ ?_
        rotate_left
        · intro w' hw'
          have s0 := hw'
          go_simp
          with_reducible rfl
        rotate_left
        · simp only [Act.put, List.setIfInBounds_toArray, List.set_cons_zero, List.set_cons_succ]
          rfl
        refine rg_ready [4, 13] (by kernel_rfl) (by simp) ?_
        refine rg_one (i := 4) (N := some 29) (bm 18 8191) rfl rfl (by kernel_rfl) (fun K hK => ?_) ?_
        · skip
          first
            | (have hb4 := H13.out.blk; have s1 : _ = some (Value.slice Av m cv) := blk_cell hb4 1; have hnew : _ = some (Value.slice A n c) := blk_cell hb4 0; have HN4 := Aside0.mk hnew; clear hnew hb4)
            | (have hb4 := HCUR.out.blk; have s1 : _ = some (Value.slice Av m cv) := blk_cell hb4 1; have hnew : _ = some (Value.slice A n c) := blk_cell hb4 0; have HN4 := Aside0.mk hnew; clear hnew hb4)
            | (have hb4 := (SB.blk (hwd.out ▸ HDF.out)); have s1 : _ = some (Value.slice Av m cv) := blk_cell hb4 1; have hnew : _ = some (Value.slice A n c) := blk_cell hb4 0; have HN4 := Aside0.mk hnew; clear hnew hb4)
          refine value_ (w1 := ?_) (v := ?_) (by rfl) rfl ?_ ?_
          rotate_left 2
          · go_simp
            constructor
            · rfl
            · rfl
          have hnew := HN4.out
          refine hK.out _ _ hnew ?_
          clear hK K
          refine rg_norm (a' := ?_) ?_ ?_
          rotate_left
          · simp only [Act.put, List.setIfInBounds_toArray, List.set_cons_zero, List.set_cons_succ]
            rfl
          clear hHeld
          have hHeld := hnew
          clear hnew
          refine rg_ready [13] (by kernel_rfl) (by simp) ?_
          refine rg_one (i := 13) (N := some 38) (bm 18 16383) rfl rfl (by kernel_rfl) (fun K hK => ?_) rg_nil
          go_simp
          obtain ⟨wx7x9x11x4x13r3, hn13, h13⟩ := HCUR.out.allocE (.cells #[.int .i64 f, .slice A7 ws.length c7, .int .u64 s, .slice A11 gs.length c11] 80)
          rw [hn13]
          have H13 := Aside0.mk h13
          have hb2 := h13.blk
          clear h13
          have hnew : _ = some (Value.slice A n c) := blk_cell hb2 0
          have HN13 := Aside0.mk hn13
          clear hb2 hn13
          refine hK.out _ _ hnew ?_
          clear hK K
          refine rg_norm (a' := ?_) ?_ ?_
          rotate_left
          · simp only [Act.put, List.setIfInBounds_toArray, List.set_cons_zero, List.set_cons_succ]
            rfl
          clear hHeld
          have hHeld := hnew
          clear hnew
          refine rg_ready [14] (by kernel_rfl) (by simp) ?_
          refine rg_one (i := 14) (N := some 39) (bm 18 32767) rfl rfl (by kernel_rfl) (fun K hK => ?_) rg_nil
          rw [← HN13.out]
          refine SB.app1Step (y := [.int .i64 f, .slice A7 ws.length c7, .int .u64 s, .slice A11 gs.length c11]) (HCUR.out.pick2 [1, 0]) (by rfl) (.tmp 29) (.tmp 38) 44 (.agg #[.int .i64 0, .slice none 0 0, .int .u64 0, .slice none 0 0]) 64 rfl Try.underlying44 info80 rfl (by decide) (by decide) rfl rfl ⟨rfl, rfl, by simp [Value.oneCell']⟩ (by rw [HM.out]; have := HM.out; omega) ?_
          intro v9 wx7x9x11x4x13x14r3 hs9
          obtain ⟨A9, c9, he9, hc9, _⟩ := hs9.reads
          obtain ⟨k9, hk9⟩ : ∃ k9, (zc ++ [[Value.int .i64 f, Value.slice A7 ws.length c7, Value.int .u64 s, Value.slice A11 gs.length c11]]).length = k9 := ⟨_, rfl⟩
          rw [hk9] at he9
          subst he9
          have HD9 := Aside0.mk (show SB w0 wx7x9x11x4x13x14r3 (Box p #[.slice A n c, .slice Av m cv] 90 :: Row (Kd.raw 4) 80 (.slice A9 k9 c9) (zc ++ [[Value.int .i64 f, Value.slice A7 ws.length c7, Value.int .u64 s, Value.slice A11 gs.length c11]]) :: E :: ArgR w0 Ap ps Ar ts Aa ws :: PK :: Row (Kd.int .u64) 31 (.slice A7 ws.length c7) ws :: Row (Kd.int .u64) 31 (.slice A11 gs.length c11) gs :: L) from hs9.pick2 [1, 0])
          have hb9 := HD9.out.blk
          have hnew : _ = some (Value.slice A n c) := blk_cell hb9 0
          clear hs9 hb9 hk9 hc9
          refine hK.out _ _ hnew ?_
          clear hK K
          refine rg_norm (a' := ?_) ?_ ?_
          rotate_left
          · simp only [Act.put, List.setIfInBounds_toArray, List.set_cons_zero, List.set_cons_succ]
            rfl
          clear hHeld
          have hHeld := hnew
          clear hnew
          refine rg_take (i := 15) (N := some 40) (v := ?_) (a' := ?_) (bm 18 65535) rfl rfl (by kernel_rfl) (fun _ _ _ h => h) hHeld (Or.inl ⟨by rfl, ?_⟩) ?_ ?_
          rotate_left
          · intro w' hw'
            have s0 := hw'
            go_simp
            with_reducible rfl
          rotate_left
          · simp only [Act.put, List.setIfInBounds_toArray, List.set_cons_zero, List.set_cons_succ]
            rfl
          refine rg_take (i := 16) (N := some 41) (v := ?_) (a' := ?_) (bm 18 131071) rfl rfl (by kernel_rfl) (fun _ _ _ h => h) hHeld (Or.inl ⟨by rfl, ?_⟩) ?_ ?_
          rotate_left
          · intro w' hw'
            have s0 := hw'
            go_simp
            with_reducible rfl
          rotate_left
          · simp only [Act.put, List.setIfInBounds_toArray, List.set_cons_zero, List.set_cons_succ]
            rfl
          refine rg_ready [17] (by kernel_rfl) (by simp) ?_
          refine rg_one (i := 17) (N := none) (bm 18 262143) rfl rfl (by kernel_rfl) (fun K hK => ?_) rg_nil
          have hb10 := HD9.out.blk
          have x1 := blk_cell hb10 1
          have f1 := blk_frozen hb10 1
          have h11 := HD9.out.set1 1 (.slice A9 k9 c9)
          have hb11 := h11.blk
          have hnew : _ = some (Value.slice A n c) := blk_cell hb11 0
          have HD11 := Aside0.mk h11
          clear hb10 h11 hb11
          go_simp
          refine hK.out undef _ hnew ?_
          clear hK K
          refine rg_norm (a' := ?_) ?_ ?_
          rotate_left
          · simp only [Act.put, List.setIfInBounds_toArray, List.set_cons_zero, List.set_cons_succ]
            rfl
          clear hHeld
          have hHeld := hnew
          clear hnew
          refine rg_done (by kernel_rfl) ?_
          exact HK.out _ _ _ _ _ _ _ _ _ _ _ _ _ _ _ _ _ _ _ _ _ _ _ _ _ _ _ (doClose HPK.out HY.out HZC.out HNR.out hc HD11.out)
        refine rg_one (i := 13) (N := some 38) (bm 18 16367) rfl rfl (by kernel_rfl) (fun K hK => ?_) ?_
        · skip
          go_simp
          obtain ⟨wx7x9x11x13r3, hn13, h13⟩ := HCUR.out.allocE (.cells #[.int .i64 f, .slice A7 ws.length c7, .int .u64 s, .slice A11 gs.length c11] 80)
          rw [hn13]
          have H13 := Aside0.mk h13
          have hb2 := h13.blk
          clear h13
          have hnew : _ = some (Value.slice A n c) := blk_cell hb2 0
          have HN13 := Aside0.mk hn13
          clear hb2 hn13
          refine hK.out _ _ hnew ?_
          clear hK K
          refine rg_norm (a' := ?_) ?_ ?_
          rotate_left
          · simp only [Act.put, List.setIfInBounds_toArray, List.set_cons_zero, List.set_cons_succ]
            rfl
          clear hHeld
          have hHeld := hnew
          clear hnew
          refine rg_ready [4] (by kernel_rfl) (by simp) ?_
          refine rg_one (i := 4) (N := some 29) (bm 18 16383) rfl rfl (by kernel_rfl) (fun K hK => ?_) rg_nil
          first
            | (have hb4 := H13.out.blk; have s1 : _ = some (Value.slice Av m cv) := blk_cell hb4 1; have hnew : _ = some (Value.slice A n c) := blk_cell hb4 0; have HN4 := Aside0.mk hnew; clear hnew hb4)
            | (have hb4 := HCUR.out.blk; have s1 : _ = some (Value.slice Av m cv) := blk_cell hb4 1; have hnew : _ = some (Value.slice A n c) := blk_cell hb4 0; have HN4 := Aside0.mk hnew; clear hnew hb4)
            | (have hb4 := (SB.blk (hwd.out ▸ HDF.out)); have s1 : _ = some (Value.slice Av m cv) := blk_cell hb4 1; have hnew : _ = some (Value.slice A n c) := blk_cell hb4 0; have HN4 := Aside0.mk hnew; clear hnew hb4)
          refine value_ (w1 := ?_) (v := ?_) (by rfl) rfl ?_ ?_
          rotate_left 2
          · go_simp
            constructor
            · rfl
            · rfl
          have hnew := HN4.out
          refine hK.out _ _ hnew ?_
          clear hK K
          refine rg_norm (a' := ?_) ?_ ?_
          rotate_left
          · simp only [Act.put, List.setIfInBounds_toArray, List.set_cons_zero, List.set_cons_succ]
            rfl
          clear hHeld
          have hHeld := hnew
          clear hnew
          refine rg_ready [14] (by kernel_rfl) (by simp) ?_
          refine rg_one (i := 14) (N := some 39) (bm 18 32767) rfl rfl (by kernel_rfl) (fun K hK => ?_) rg_nil
          rw [← HN13.out]
          refine SB.app1Step (y := [.int .i64 f, .slice A7 ws.length c7, .int .u64 s, .slice A11 gs.length c11]) (HCUR.out.pick2 [1, 0]) (by rfl) (.tmp 29) (.tmp 38) 44 (.agg #[.int .i64 0, .slice none 0 0, .int .u64 0, .slice none 0 0]) 64 rfl Try.underlying44 info80 rfl (by decide) (by decide) rfl rfl ⟨rfl, rfl, by simp [Value.oneCell']⟩ (by rw [HM.out]; have := HM.out; omega) ?_
          intro v9 wx7x9x11x13x4x14r3 hs9
          obtain ⟨A9, c9, he9, hc9, _⟩ := hs9.reads
          obtain ⟨k9, hk9⟩ : ∃ k9, (zc ++ [[Value.int .i64 f, Value.slice A7 ws.length c7, Value.int .u64 s, Value.slice A11 gs.length c11]]).length = k9 := ⟨_, rfl⟩
          rw [hk9] at he9
          subst he9
          have HD9 := Aside0.mk (show SB w0 wx7x9x11x13x4x14r3 (Box p #[.slice A n c, .slice Av m cv] 90 :: Row (Kd.raw 4) 80 (.slice A9 k9 c9) (zc ++ [[Value.int .i64 f, Value.slice A7 ws.length c7, Value.int .u64 s, Value.slice A11 gs.length c11]]) :: E :: ArgR w0 Ap ps Ar ts Aa ws :: PK :: Row (Kd.int .u64) 31 (.slice A7 ws.length c7) ws :: Row (Kd.int .u64) 31 (.slice A11 gs.length c11) gs :: L) from hs9.pick2 [1, 0])
          have hb9 := HD9.out.blk
          have hnew : _ = some (Value.slice A n c) := blk_cell hb9 0
          clear hs9 hb9 hk9 hc9
          refine hK.out _ _ hnew ?_
          clear hK K
          refine rg_norm (a' := ?_) ?_ ?_
          rotate_left
          · simp only [Act.put, List.setIfInBounds_toArray, List.set_cons_zero, List.set_cons_succ]
            rfl
          clear hHeld
          have hHeld := hnew
          clear hnew
          refine rg_take (i := 15) (N := some 40) (v := ?_) (a' := ?_) (bm 18 65535) rfl rfl (by kernel_rfl) (fun _ _ _ h => h) hHeld (Or.inl ⟨by rfl, ?_⟩) ?_ ?_
          rotate_left
          · intro w' hw'
            have s0 := hw'
            go_simp
            with_reducible rfl
          rotate_left
          · simp only [Act.put, List.setIfInBounds_toArray, List.set_cons_zero, List.set_cons_succ]
            rfl
          refine rg_take (i := 16) (N := some 41) (v := ?_) (a' := ?_) (bm 18 131071) rfl rfl (by kernel_rfl) (fun _ _ _ h => h) hHeld (Or.inl ⟨by rfl, ?_⟩) ?_ ?_
          rotate_left
          · intro w' hw'
            have s0 := hw'
            go_simp
            with_reducible rfl
          rotate_left
          · simp only [Act.put, List.setIfInBounds_toArray, List.set_cons_zero, List.set_cons_succ]
            rfl
          refine rg_ready [17] (by kernel_rfl) (by simp) ?_
          refine rg_one (i := 17) (N := none) (bm 18 262143) rfl rfl (by kernel_rfl) (fun K hK => ?_) rg_nil
          have hb10 := HD9.out.blk
          have x1 := blk_cell hb10 1
          have f1 := blk_frozen hb10 1
          have h11 := HD9.out.set1 1 (.slice A9 k9 c9)
          have hb11 := h11.blk
          have hnew : _ = some (Value.slice A n c) := blk_cell hb11 0
          have HD11 := Aside0.mk h11
          clear hb10 h11 hb11
          go_simp
          refine hK.out undef _ hnew ?_
          clear hK K
          refine rg_norm (a' := ?_) ?_ ?_
          rotate_left
          · simp only [Act.put, List.setIfInBounds_toArray, List.set_cons_zero, List.set_cons_succ]
            rfl
          clear hHeld
          have hHeld := hnew
          clear hnew
          refine rg_done (by kernel_rfl) ?_
          exact HK.out _ _ _ _ _ _ _ _ _ _ _ _ _ _ _ _ _ _ _ _ _ _ _ _ _ _ _ (doClose HPK.out HY.out HZC.out HNR.out hc HD11.out)
        exact rg_nil
      exact rg_nil
    exact rg_nil
  exact rg_nil
end Go.Proofs.Ytbjglicdamenhaa.G
