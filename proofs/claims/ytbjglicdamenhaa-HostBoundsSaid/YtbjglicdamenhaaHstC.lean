/- Package host: hosts as objects; New, next. -/
import Derived.Deep.DeepMust
import Derived.Test.YtbjglicdamenhaaHstB
namespace Go.Proofs.Ytbjglicdamenhaa.G
open Go.RowKit Go.Proofs.YtbjglicdamenhaaW.PrintWords Go.Proofs.YtbjglicdamenhaaW.PrintLast Go.Proofs.YtbjglicdamenhaaW.PrintMore
set_option linter.unusedVariables false
set_option linter.unusedSimpArgs false
theorem SB.ofSL {L : List As} {W : World} {F : Nat → Prop} (h : SL L W F) : ∃ w0, SB w0 W L :=
  ⟨{ W with heap := #[] }, ⟨rfl, rfl, rfl, Nat.zero_le _, fun k hk => absurd hk (Nat.not_lt_zero _)⟩, F, h, fun k _ => Nat.zero_le _⟩
theorem SB.sepGet {w0 w : World} {M L : List As} (h : SB w0 w (Sep M :: L)) {j : Nat} {B : As} (hj : M[j]? = some B) : ∃ R, SB w0 w (B :: R) := by
  have hl : j < M.length := (List.getElem?_eq_some_iff.1 hj).1
  have e : M = M.take j ++ B :: M.drop (j + 1) := by
    have e2 : M[j] = B := (List.getElem?_eq_some_iff.1 hj).2
    rw [← e2, ← List.drop_eq_getElem_cons hl, List.take_append_drop]
  have h2 := SB.sepN.1 h
  rw [e, List.append_assoc, List.cons_append] at h2
  exact ⟨_, h2.perm List.perm_middle⟩
theorem set_mid {α : Type} (a r : List α) (q q' : α) (i : Nat) (h : a.length = i) : (a ++ q :: r).set i q' = a ++ q' :: r := by
  subst h
  simp
def c6 (t : S86 × Value) : List Value := [.int .u64 t.1.f0, .bool t.1.f1, .int .i64 t.1.f2, t.2, .int .i64 t.1.f4, .int .u64 t.1.f5]
def rows1 (y : List (S86 × Value)) : List As := y.map fun t => Row (Kd.int .u8) 5 t.2 t.1.f3
def c4 (t : S80 × Value × Value) : List Value := [.int .i64 t.1.f0, t.2.1, .int .u64 t.1.f2, t.2.2]
def rows2 (y : List (S80 × Value × Value)) : List As := y.map fun t => Sep [Row (Kd.int .u64) 31 t.2.1 t.1.f1, Row (Kd.int .u64) 31 t.2.2 t.1.f3]
theorem rows1_push (y : List (S86 × Value)) (x : S86 × Value) : rows1 (y ++ [x]) = rows1 y ++ [Row (Kd.int .u8) 5 x.2 x.1.f3] := by simp [rows1]
theorem rows2_push (y : List (S80 × Value × Value)) (x : S80 × Value × Value) : rows2 (y ++ [x]) = rows2 y ++ [Sep [Row (Kd.int .u64) 31 x.2.1 x.1.f1, Row (Kd.int .u64) 31 x.2.2 x.1.f3]] := by simp [rows2]
/-- What is true in whatever world these blocks stand as they are. -/
def OwP (p : World → Prop) : As where
  P w F := (∀ W : World, (∀ k, F k → W.heap[k]? = w.heap[k]?) → p W) ∧ ∀ k, F k → k < w.heap.size
  lt h := h.2
  mv {w w1 F} h hm := ⟨fun W h1 => h.1 W (fun k hk => (h1 k hk).trans (hm k hk)), fun k hk => by
    have h1 := h.2 k hk
    have h2 := hm k hk
    rw [Array.getElem?_eq_getElem h1] at h2
    exact (Array.getElem?_eq_some_iff.1 h2).1⟩
theorem SB.owp {p : World → Prop} {w0 w : World} {L : List As} (h : SB w0 w (OwP p :: L)) : p w := by
  obtain ⟨F, hF, _⟩ := h.head
  exact hF.1 w (fun _ _ => rfl)
theorem SB.owpImp {p q : World → Prop} {w0 w : World} {L : List As} (h : SB w0 w (OwP p :: L)) (hi : ∀ W, p W → q W) : SB w0 w (OwP q :: L) :=
  h.weak (fun F hF => ⟨fun W hW => hi W (hF.1 W hW), hF.2⟩)
theorem SB.toOwp {p : World → Prop} {B : As} {w0 w : World} {L : List As} (h : SB w0 w (B :: L)) (hC : ∀ W F, B.P W F → p W) : SB w0 w (OwP p :: L) :=
  h.weak (fun F hF => ⟨fun W hW => hC W F (B.mv hF hW), B.lt hF⟩)
/-- Replies that are read, their cells told. -/
def RdZ (A : Option Addr) (z : List (List Value)) (rs : List S86) (W : World) : Prop :=
  z.length = rs.length ∧ Kd.C (Kd.raw 6) W A rs.length z ∧ ∀ (j : Nat) (x : S86) (c : List Value), rs[j]? = some x → z[j]? = some c → k86.K W x c
theorem RdZ.C {A : Option Addr} {z : List (List Value)} {rs : List S86} {W : World} (h : RdZ A z rs W) : Kd.C k86 W A rs.length rs := of_raw (d := k86) h.2.1 h.1 h.2.2
theorem RdZ.tail {A : Option Addr} {c : List Value} {z : List (List Value)} {x : S86} {rs : List S86} {W : World} (h : RdZ A (c :: z) (x :: rs) W) : RdZ (A.map (·.add (1 * 6))) z rs W :=
  ⟨by simpa using h.1, C_tail (d := Kd.raw 6) h.2.1, fun j x' c' hx hc => h.2.2 (j + 1) x' c' (by simpa using hx) (by simpa using hc)⟩
theorem RdZ.nil {A : Option Addr} {W : World} : RdZ A [] [] W := ⟨rfl, ⟨rfl, by show 0 ≤ _; omega, fun h => absurd h (by show ¬ 0 < 0; omega)⟩, fun j x c hx _ => by simp at hx⟩
theorem reads1 {w0 w : World} {L : List As} {A : Option Addr} {n c : Nat} {y : List (S86 × Value)} (h : SB w0 w (Row (Kd.raw 6) 86 (.slice A n c) (y.map c6) :: Sep (rows1 y) :: L)) : RdZ A (y.map c6) (y.map Prod.fst) w := by
  obtain ⟨A', c', e, hc, hC⟩ := h.reads
  injection e with e1 e2 e3
  subst e1 e3
  rw [List.length_map] at hC
  refine ⟨by simp, by rw [List.length_map]; exact hC, fun j x cs hx hz => ?_⟩
  rw [List.getElem?_map] at hx hz
  cases hy : y[j]? with
  | none => rw [hy] at hx; cases hx
  | some t =>
    rw [hy] at hx hz
    injection hx with hx
    injection hz with hz
    subst hx hz
    obtain ⟨R, h2⟩ := h.swap.sepGet (j := j) (B := Row (Kd.int .u8) 5 t.2 t.1.f3) (by rw [rows1, List.getElem?_map, hy]; rfl)
    obtain ⟨A2, c2, e2, hc2, hC2⟩ := h2.reads
    unfold c6
    rw [e2]
    exact k86_mk w t.1 hc2 hC2
theorem reads2 {w0 w : World} {L : List As} {A : Option Addr} {n c : Nat} {y : List (S80 × Value × Value)} (h : SB w0 w (Row (Kd.raw 4) 80 (.slice A n c) (y.map c4) :: Sep (rows2 y) :: L)) : Kd.C k80 w A n (y.map Prod.fst) := by
  obtain ⟨A', c', e, hc, hC⟩ := h.reads
  injection e with e1 e2 e3
  subst e1 e3
  rw [← e2] at hC
  refine of_raw (d := k80) hC (by simp) (fun j x cs hx hz => ?_)
  rw [List.getElem?_map] at hx hz
  cases hy : y[j]? with
  | none => rw [hy] at hx; cases hx
  | some t =>
    rw [hy] at hx hz
    injection hx with hx
    injection hz with hz
    subst hx hz
    obtain ⟨R, h2⟩ := h.swap.sepGet (j := j) (B := Sep [Row (Kd.int .u64) 31 t.2.1 t.1.f1, Row (Kd.int .u64) 31 t.2.2 t.1.f3]) (by rw [rows2, List.getElem?_map, hy]; rfl)
    have h3 := SB.sepN.1 h2
    obtain ⟨A2, c2, e2, hc2, hC2⟩ := h3.reads
    obtain ⟨A3, c3, e3, hc3, hC3⟩ := h3.swap.reads
    unfold c4
    rw [e2, e3]
    exact k80_mk w t.1 hc2 hC2 hc3 hC3
/-- Calls noted: a row of the call's own, and their rows. -/
def CLs (v : Value) (lg : List S80) : As where
  P w F := ∃ y : List (S80 × Value × Value), y.map Prod.fst = lg ∧ SL [Row (Kd.raw 4) 80 v (y.map c4), Sep (rows2 y)] w F
  lt := fun ⟨_, _, h⟩ => SL.lt h
  mv := fun ⟨y, e, h⟩ hm => ⟨y, e, SL.mv h hm⟩
/-- A host: the replies that are left, and what was called. -/
def HO (p : Nat) (rs : List S86) (lg : List S80) : As where
  P w F := ∃ A c z vl, rs.length ≤ c ∧ SL [Box p #[.slice A rs.length c, vl] 90, OwP (RdZ A z rs), CLs vl lg] w F
  lt := fun ⟨_, _, _, _, _, h⟩ => SL.lt h
  mv := fun ⟨A, c, z, vl, e, h⟩ hm => ⟨A, c, z, vl, e, SL.mv h hm⟩
theorem SB.clOpen {w0 w : World} {v : Value} {lg : List S80} {L : List As} (h : SB w0 w (CLs v lg :: L)) : ∃ y : List (S80 × Value × Value), y.map Prod.fst = lg ∧ SB w0 w (Row (Kd.raw 4) 80 v (y.map c4) :: Sep (rows2 y) :: L) := by
  obtain ⟨hb, F, ⟨F1, F2, ⟨y, e, ha⟩, hl, hd, he⟩, hF⟩ := h
  exact ⟨y, e, SB.sepN.1 (⟨hb, F, ⟨F1, F2, ha, hl, hd, he⟩, hF⟩ : SB w0 w (Sep [Row (Kd.raw 4) 80 v (y.map c4), Sep (rows2 y)] :: L))⟩
theorem SB.clClose {w0 w : World} {v : Value} {lg : List S80} {L : List As} {y : List (S80 × Value × Value)} (e : y.map Prod.fst = lg) (h : SB w0 w (Row (Kd.raw 4) 80 v (y.map c4) :: Sep (rows2 y) :: L)) : SB w0 w (CLs v lg :: L) :=
  SB.weak (B := CLs v lg) h.two (fun F hF => ⟨y, e, hF⟩)
theorem SB.hoOpen {w0 w : World} {p : Nat} {rs : List S86} {lg : List S80} {L : List As} (h : SB w0 w (HO p rs lg :: L)) : ∃ A c z vl, rs.length ≤ c ∧ SB w0 w (Box p #[.slice A rs.length c, vl] 90 :: OwP (RdZ A z rs) :: CLs vl lg :: L) := by
  obtain ⟨hb, F, ⟨F1, F2, ⟨A, c, z, vl, e, ha⟩, hl, hd, he⟩, hF⟩ := h
  exact ⟨A, c, z, vl, e, SB.sepN.1 (⟨hb, F, ⟨F1, F2, ha, hl, hd, he⟩, hF⟩ : SB w0 w (Sep [Box p #[.slice A rs.length c, vl] 90, OwP (RdZ A z rs), CLs vl lg] :: L))⟩
theorem SB.hoClose {w0 w : World} {p c : Nat} {A : Option Addr} {z : List (List Value)} {vl : Value} {rs : List S86} {lg : List S80} {L : List As} (hc : rs.length ≤ c) (h : SB w0 w (Box p #[.slice A rs.length c, vl] 90 :: OwP (RdZ A z rs) :: CLs vl lg :: L)) : SB w0 w (HO p rs lg :: L) :=
  SB.weak (A := Sep [Box p #[.slice A rs.length c, vl] 90, OwP (RdZ A z rs), CLs vl lg]) (B := HO p rs lg) (SB.sepN.2 h) (fun F hF => ⟨A, c, z, vl, hc, hF⟩)
set_option maxHeartbeats 4000000 in
set_option maxRecDepth 100000 in
theorem hstNew_ (w : World) (A : Option Addr) (c : Nat) (l : List S86) (hC : Kd.C k86 w A l.length l) (hc : l.length ≤ c) (hl : l.length ≤ 1000000) (hM : ∀ x ∈ l, x.f3.length ≤ 1000000) :
    Calls Try.prog 10 #[.slice A l.length c] w fun e w' => ∃ p, e = .returned (.pointer (some ⟨p, 0, none⟩)) ∧ SB w w' [HO p l []] := by
  obtain ⟨z, hz, hzl, hK⟩ := raw_of hC
  obtain ⟨n, hn⟩ : ∃ n, l.length = n := ⟨_, rfl⟩
  rw [hn] at hz hzl hc hl ⊢
  have HK := Aside0.mk hK
  have HN := Aside0.mk hn
  have HZL := Aside0.mk hzl
  have HM := Aside0.mk hM
  have HCL := Aside0.mk (cloneR (SB.start w) A c z (by rw [hzl]; exact hz) (by omega) (by omega))
  rw [hzl] at HCL
  clear hz hK hM hC hn hzl
  go_enter Try.func10, Try.ntmps10
  go_wp2_with (go_at_call 30; go_must ((with_reducible refine (HCL.out).mono ?_); rintro e w1 ⟨v3, rfl, hs, hb⟩; obtain ⟨A3, c3, rfl, h3, hh3⟩ := hs.reads; rw [HZL.out] at hs; rw [HZL.out]; have HS1 := Aside0.mk hs; clear hs hb hh3))
  rw [HZL.out] at h3
  go_loopw [9] (fun v9 wr => ∃ (i : Nat) (y : List (S86 × Value)), v9 = .int .i64 i ∧ i ≤ n ∧ Aside0 (y.map Prod.fst = l.take i) ∧ Aside0 (SB w wr [Row (Kd.raw 6) 86 (.slice A3 n c3) (y.map c6 ++ z.drop i), Sep (rows1 y)])) (fun v9 _ => n - (intOf v9).toNat)
  case atStart => exact ⟨0, [], rfl, Nat.zero_le _, ⟨by simp⟩, ⟨SB.swap (SB.sep0.2 (by simpa using HS1.out))⟩⟩
  case round =>
    obtain ⟨i, y, rfl, hi, HY, HR⟩ := hrel
    by_cases hlt : i < n
    · have e1 : decide ((i : Int) < (n : Int)) = true := decide_eq_true (by omega)
      have e2 : decide (i < n) = true := decide_eq_true hlt
      have hil : i < l.length := by rw [HN.out]; exact hlt
      have hiz : i < z.length := by rw [HZL.out]; exact hlt
      have hyl : y.length = i := by have := congrArg List.length HY.out; simpa [Nat.min_eq_left (Nat.le_of_lt hil)] using this
      have hKi := HK.out i l[i] z[i] (List.getElem?_eq_getElem hil) (List.getElem?_eq_getElem hiz)
      obtain ⟨x, hx⟩ : ∃ x, l[i] = x := ⟨_, rfl⟩
      have HX := Aside0.mk hx
      have HXL := Aside0.mk (HM.out x (by rw [← hx]; exact List.getElem_mem _))
      rw [hx] at hKi
      obtain ⟨A4, c4', hcz, hc4, hC4⟩ := k86_open hKi
      obtain ⟨R, hR⟩ : ∃ R, y.map c6 ++ z.drop i = R := ⟨_, rfl⟩
      have HRI := Aside0.mk (show i < R.length by rw [← hR]; simp; omega)
      have HGI := Aside0.mk (show ∀ h : i < R.length, R[i] = [.int .u64 x.f0, .bool x.f1, .int .i64 x.f2, .slice A4 x.f3.length c4', .int .i64 x.f4, .int .u64 x.f5] by subst hR; intro h; simp [hyl, hcz])
      have HNEW := Aside0.mk (show ∀ u, R.set i ([Value.int .u64 x.f0, .bool x.f1, .int .i64 x.f2, .slice A4 x.f3.length c4', .int .i64 x.f4, .int .u64 x.f5].set 3 u) = (y ++ [(x, u)]).map c6 ++ z.drop (i + 1) by
        intro u
        subst hR
        rw [List.drop_eq_getElem_cons hiz, set_mid _ _ _ _ _ (by simp [hyl]), List.map_append, List.append_assoc]
        rfl)
      rw [hR] at HR
      obtain ⟨g, hg, hcell, hfz, hset⟩ := HR.out.rawAt i HRI.out
      have q3 := hcell 3 (by decide)
      rw [HGI.out] at q3
      have q3 : wr.cell? ⟨g, i * 6 + 3, none⟩ = some (.slice A4 x.f3.length c4') := q3
      have f3 := hfz (i * 6 + 3)
      have HCB := Aside0.mk (cloneB HR.out A4 c4' x.f3 (Kd.C_below hC4 HR.out.bel) hc4 HXL.out)
      subst hg
      clear hcell hfz hset hKi hC4 hx hyl hcz hR
      go_wp2_with (first
        | (go_at_call 31; go_must ((with_reducible refine (HCB.out).mono ?_); rintro e w2 ⟨v4, rfl, hs, hb⟩; obtain ⟨g', hg', hcell', hfz', hset'⟩ := (hs.pick3 [1, 0, 2]).rawAt i HRI.out; injection hg' with hg'; injection hg' with hg'; subst hg'; obtain ⟨A5, c5, rfl, h5, _⟩ := hs.reads; have p3 := hcell' 3 (by decide); rw [HGI.out] at p3; have p3 : w2.cell? ⟨g, i * 6 + 3, none⟩ = some (.slice A4 x.f3.length c4') := p3; have f3 := hfz' (i * 6 + 3); have h6 := hset' 3 (.slice A5 x.f3.length c5) (by decide) rfl; rw [HGI.out, HNEW.out] at h6; have HS2 := Aside0.mk h6; clear hs hb hcell' hfz' hset' h6)))
      refine ⟨⟨i + 1, y ++ [(x, .slice A5 x.f3.length c5)], by simp, by omega, ⟨?_⟩, ⟨?_⟩⟩, by simp [intOf]; omega⟩
      · rw [List.map_append, HY.out, List.take_succ_eq_append_getElem hil, HX.out]; rfl
      · rw [rows1_push]
        exact (SB.sepPush (HS2.out.pick3 [1, 2, 0])).swap
    · have e1 : decide ((i : Int) < (n : Int)) = false := decide_eq_false (by omega)
      have e2 : decide (i < n) = false := decide_eq_false hlt
      obtain rfl : i = n := by omega
      have hy := HY.out
      rw [List.take_of_length_le (by rw [HN.out]; exact Nat.le_refl _)] at hy
      have hr := HR.out
      rw [List.drop_of_length_le (by rw [HZL.out]; exact Nat.le_refl _), List.append_nil] at hr
      have HE := Aside0.mk ((hr.two.toOwp (p := RdZ A3 (y.map c6) l) (fun W F hF => by
        obtain ⟨w9, h9⟩ := SB.ofSL hF
        have := reads1 (L := []) h9
        rw [hy] at this
        exact this)).box #[.slice A3 i c3, .slice none 0 0] 90)
      have HN2 := Aside0.mk hy
      clear hy hr
      go_wp2
      go_ret
      refine ⟨_, rfl, ?_⟩
      rw [← HN.out] at HE h3 ⊢
      have h5 := HE.out
      exact (SB.hoClose h3 (SB.perm (SB.clClose (y := []) rfl (SB.row (d := Kd.raw 4) (e := 80) (v := .slice none 0 0) (ok := fun _ => True) (SB.sep0.2 h5) (Below.refl _ _) (Kd.R_nil _ _ _ _ _))) (List.perm_append_comm (l₁ := [CLs (.slice none 0 0) []]) (l₂ := [_, _]))))
end Go.Proofs.Ytbjglicdamenhaa.G
