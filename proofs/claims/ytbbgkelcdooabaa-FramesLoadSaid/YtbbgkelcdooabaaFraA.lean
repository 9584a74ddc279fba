/- Package frames' stacks: what a stack holds, and what its small functions tell. -/
import Derived.Lib.SliceRun
import Derived.Test.YtbbgkelcdooabaaG0
import Derived.Test.YtbbgkelcdooabaaApp
import Derived.Deep.DeepMust
import Derived.Test.YtbbgkelcdooabaaZer
namespace Go.Proofs.Ytbbgkelcdooabaa.G
open Go.RowKit Go.Proofs.YtbbgkelcdooabaaW.PrintWords Go.Proofs.YtbbgkelcdooabaaW.PrintLast Go.Proofs.YtbbgkelcdooabaaW.PrintMore
attribute [local go_sem] max2_int min2_int max_two min_two max_three min_three max_four min_four   -- for this text's walks alone
set_option linter.unusedVariables false
set_option linter.unusedSimpArgs false
theorem drawn_n (w : World) (n : Nat) : Drawn0 w (w.drewN n) := ⟨n, rfl⟩
theorem frTop0 (p : Nat) (w : World) (h : w.cell? ⟨p, 257, none⟩ = some (.int .i64 0)) :
    Calls Try.prog 34 #[.pointer (some ⟨p, 0, none⟩)] w fun e w' => e = .returned (.pointer none) ∧ Drawn0 w w' := by
  go_enter Try.func34, Try.ntmps34
  go_wp2
  go_ret
  exact ⟨rfl, by repeat (first | exact Drawn0.refl _ | apply Drawn0.step)⟩
theorem frTop (p n : Nat) (w : World) (hn : n < 64) (h : w.cell? ⟨p, 257, none⟩ = some (.int .i64 ((n + 1 : Nat) : Int))) :
    Calls Try.prog 34 #[.pointer (some ⟨p, 0, none⟩)] w fun e w' => e = .returned (.pointer (some ⟨p, 1 + n * 4, none⟩)) ∧ Drawn0 w w' := by
  have d0 : decide (((n + 1 : Nat) : Int) = 0) = false := decide_eq_false (by omega)
  have d0' : (((n + 1 : Nat) : Int) == 0) = false := beq_eq_false_iff_ne.2 (by omega)
  have hw : IntKind.i64.wrap (((n + 1 : Nat) : Int) - 1) = (n : Int) := by rw [IntKind.wrap_i64]; omega
  have HN := Aside0.mk hn
  obtain ⟨m, hm⟩ : ∃ m : Int, ((n + 1 : Nat) : Int) = m := ⟨_, rfl⟩
  rw [hm] at d0 d0' hw h
  clear hm
  go_enter Try.func34, Try.ntmps34
  go_wp2
  go_quiet (fail)
  go_wp2
  go_ret
  exact ⟨rfl, drawn_n _ _⟩
theorem frTopNil (w : World) : Calls Try.prog 34 #[.pointer none] w fun e w' => e = .returned (.pointer none) ∧ Drawn0 w w' := by
  go_enter Try.func34, Try.ntmps34
  go_wp2
  go_ret
  exact ⟨rfl, by repeat (first | exact Drawn0.refl _ | apply Drawn0.step)⟩
/-- So many frames, and so many values below the top one's own. -/
def AtB (w : World) (p : Nat) (n : Nat) (b : Int) : Prop :=
  w.cell? ⟨p, 257, none⟩ = some (.int .i64 (n : Int)) ∧ ((n = 0 ∧ b = 0) ∨ ∃ k, n = k + 1 ∧ k < 64 ∧ w.cell? ⟨p, 1 + k * 4 + 3, none⟩ = some (.int .i64 b))
theorem AtB.drewN {w : World} {p n : Nat} {b : Int} (h : AtB w p n b) (k : Nat) : AtB (w.drewN k) p n b := by
  unfold AtB at h ⊢
  simpa [go_sem] using h
theorem drawn_ex {w w' : World} (h : Drawn0 w w') : ∃ m, w' = w.drewN m := by
  obtain ⟨n, rfl⟩ := h
  exact ⟨n, rfl⟩
theorem frBase (p n : Nat) (b : Int) (w : World) (h : AtB w p n b) :
    Calls Try.prog 35 #[.pointer (some ⟨p, 0, none⟩)] w fun e w' => e = .returned (.int .i64 b) ∧ Drawn0 w w' := by
  obtain ⟨h1, ⟨rfl, rfl⟩ | ⟨k, rfl, hk, h2⟩⟩ := h
  · go_enter Try.func35, Try.ntmps35
    go_wp2_with (go_at_call 34; (with_reducible refine (frTop0 p _ h1).mono ?_); rintro e w' ⟨rfl, ⟨nd, rfl⟩⟩)
    go_ret
    exact ⟨rfl, drawn_n _ _⟩
  · go_enter Try.func35, Try.ntmps35
    go_wp2_with (go_at_call 34; (with_reducible refine (frTop p k _ hk h1).mono ?_); rintro e w' ⟨rfl, ⟨nd, rfl⟩⟩)
    go_ret
    exact ⟨rfl, drawn_n _ _⟩
theorem frBaseNil (w : World) : Calls Try.prog 35 #[.pointer none] w fun e w' => e = .returned (.int .i64 0) ∧ Drawn0 w w' := by
  go_enter Try.func35, Try.ntmps35
  go_wp2_with (go_at_call 34; (with_reducible refine (frTopNil _).mono ?_); rintro e w' ⟨rfl, ⟨nd, rfl⟩⟩)
  go_ret
  exact ⟨rfl, drawn_n _ _⟩
/-- Are there so many own values? -/
theorem frHas (p n : Nat) (b : Int) (A : Option Addr) (m c : Nat) (i : Int) (w : World) (hm : m ≤ 1000000000) (hb : 0 ≤ b ∧ b < 9223372036854775808) (h0 : w.cell? ⟨p, 0, none⟩ = some (.slice A m c)) (h : AtB w p n b) :
    Calls Try.prog 32 #[.pointer (some ⟨p, 0, none⟩), .int .i64 i] w fun e w' => e = .returned (.bool (decide (0 ≤ i ∧ i ≤ (m : Int) - b))) ∧ Drawn0 w w' := by
  have hw : IntKind.i64.wrap ((m : Int) - b) = (m : Int) - b := by rw [IntKind.wrap_i64]; omega
  have hc : ∀ nd, Calls Try.prog 35 #[.pointer (some ⟨p, 0, none⟩)] (w.drewN nd) fun e w' => e = .returned (.int .i64 b) ∧ ∃ m, w' = (w.drewN nd).drewN m := fun nd => (frBase p n b _ (h.drewN nd)).mono (fun e w' h => ⟨h.1, drawn_ex h.2⟩)
  by_cases c1 : 0 ≤ i
  · have d1 : decide (0 ≤ i) = true := decide_eq_true c1
    have d2 : decide (0 ≤ i ∧ i ≤ (m : Int) - b) = decide (i ≤ (m : Int) - b) := by simp [c1]
    rw [d2]
    clear d2 c1
    go_enter Try.func32, Try.ntmps32
    go_wp2
    go_quiet ((go_at_call 35; with_reducible exact Calls.quiet_of (hc _)))
    go_wp2
    go_ret
    exact ⟨rfl, drawn_n _ _⟩
  · have d1 : decide (0 ≤ i) = false := decide_eq_false c1
    have d2 : decide (0 ≤ i ∧ i ≤ (m : Int) - b) = false := by simp [c1]
    rw [d2]
    clear d2 c1
    go_enter Try.func32, Try.ntmps32
    go_wp2
    go_quiet (fail)
    go_wp2
    go_ret
    exact ⟨rfl, drawn_n _ _⟩
theorem frHasNil (i : Int) (w : World) : Calls Try.prog 32 #[.pointer none, .int .i64 i] w fun e w' => e = .returned (.bool false) ∧ Drawn0 w w' := by
  go_enter Try.func32, Try.ntmps32
  go_wp2
  go_quiet (fail)
  go_wp2
  go_ret
  exact ⟨rfl, drawn_n _ _⟩
theorem frDepth (p n : Nat) (w : World) (h : w.cell? ⟨p, 257, none⟩ = some (.int .i64 (n : Int))) :
    Calls Try.prog 13 #[.pointer (some ⟨p, 0, none⟩)] w fun e w' => e = .returned (.int .i64 (n : Int)) ∧ Drawn0 w w' := by
  go_enter Try.func13, Try.ntmps13
  go_wp2
  go_ret
  exact ⟨rfl, by repeat (first | exact Drawn0.refl _ | apply Drawn0.step)⟩
theorem frDepthNil (w : World) : Calls Try.prog 13 #[.pointer none] w fun e w' => e = .returned (.int .i64 0) ∧ Drawn0 w w' := by
  go_enter Try.func13, Try.ntmps13
  go_wp2
  go_ret
  exact ⟨rfl, by repeat (first | exact Drawn0.refl _ | apply Drawn0.step)⟩
end Go.Proofs.Ytbbgkelcdooabaa.G
/- Package frames' stacks as objects: their cells. -/
namespace Go.Proofs.Ytbbgkelcdooabaa.G
open Go.RowKit Go.Proofs.YtbbgkelcdooabaaW.PrintWords Go.Proofs.YtbbgkelcdooabaaW.PrintLast Go.Proofs.YtbbgkelcdooabaaW.PrintMore
attribute [local go_sem] max2_int min2_int max_two min_two max_three min_three max_four min_four   -- for this text's walks alone
set_option linter.unusedVariables false
set_option linter.unusedSimpArgs false
/-- A frame. -/
structure Fm where
  f : Int
  pc : Int
  loc : List Int
  base : Int
/-- A stack: values, frames, for how many there is room. -/
structure FS where
  v : List Int
  fr : List Fm
  room : Int
def fm4 (x : Fm × Value) : List Value := [.int .i64 x.1.f, .int .i64 x.1.pc, x.2, .int .i64 x.1.base]
def fz4 : List Value := [.int .i64 0, .int .i64 0, .slice none 0 0, .int .i64 0]
def cellAt (v : Value) (z : List (Fm × Value)) (r : Int) (i : Nat) : Value :=
  if i = 0 then v else if i = 257 then .int .i64 (z.length : Int) else if i = 258 then .int .i64 r
  else ((z[(i - 1) / 4]?.map fm4).getD fz4).getD ((i - 1) % 4) (.slice none 0 0)
def fsC (v : Value) (z : List (Fm × Value)) (r : Int) : Array Value := Array.ofFn fun i : Fin 259 => cellAt v z r i.1
theorem fsC_at (v : Value) (z : List (Fm × Value)) (r : Int) (i : Nat) (hi : i < 259) : (fsC v z r)[i]? = some (cellAt v z r i) := by
  unfold fsC
  rw [Array.getElem?_ofFn, dif_pos hi]
theorem fsC_ext {v : Value} {z : List (Fm × Value)} {r : Int} {cs : Array Value} (hs : cs.size = 259) (h : ∀ i, i < 259 → cs[i]? = some (cellAt v z r i)) : cs = fsC v z r := by
  apply Array.ext_getElem?
  intro i
  by_cases hi : i < 259
  · rw [h i hi, fsC_at _ _ _ _ hi]
  · rw [Array.getElem?_eq_none (by omega), Array.getElem?_eq_none (by simp [fsC]; omega)]
theorem fsC_size (v : Value) (z : List (Fm × Value)) (r : Int) : (fsC v z r).size = 259 := by simp [fsC]
theorem fsC_fr (v : Value) (z : List (Fm × Value)) (r : Int) (k j : Nat) (hk : k < 64) (hj : j < 4) (hz : k < z.length) : (fsC v z r)[1 + k * 4 + j]? = (fm4 z[k])[j]? := by
  rw [fsC_at _ _ _ _ (by omega)]
  unfold cellAt
  rw [if_neg (by omega), if_neg (by omega), if_neg (by omega), show (1 + k * 4 + j - 1) / 4 = k by omega, show (1 + k * 4 + j - 1) % 4 = j by omega, List.getElem?_eq_getElem hz]
  simp only [Option.map_some, Option.getD_some, List.getD_eq_getElem?_getD]
  rw [List.getElem?_eq_getElem (by simp [fm4]; omega)]
  rfl
theorem built72 (r : Int) : Try.prog.built 72 [(3, .int .i64 r)] = some (fsC (.slice none 0 0) [] r) := by kernel_rfl
theorem built58 : Try.prog.built 58 [] = some #[.int .i64 0, .int .i64 0, .slice none 0 0, .int .i64 0] := by kernel_rfl
attribute [-go_sem] Instr.build in
theorem frNew (d : Int) (w : World) :
    Calls Try.prog 10 #[.int .i64 d] w fun e w' => e = .returned (.pointer (some ⟨w.heap.size, 0, none⟩)) ∧ w' = w.alloc (.cells (fsC (.slice none 0 0) [] (max 0 (min d 64))) 72) := by
  have hb : ∀ (W : World) (r : Int), (Instr.build 72 #[(3, .int .i64 r)]).run Try.prog W = .ok (.agg (fsC (.slice none 0 0) [] r)) W := fun W r => run_build W 72 #[(3, .int .i64 r)] _ (built72 r)
  go_enter Try.func10, Try.ntmps10
  go_wp2
  all_goals go_ret
  all_goals refine ⟨rfl, ?_⟩
  · rw [show max 0 (min d 64) = (64 : Int) by omega]
  · rw [show max 0 (min d 64) = d by omega]
  · rw [show max 0 (min d 64) = (0 : Int) by omega]
def Sep (L : List As) : As := ⟨SL L, SL.lt, SL.mv⟩
theorem SL.flat {A : As} {M L : List As} {w : World} {F : Nat → Prop} : SL (Sep (A :: M) :: L) w F ↔ SL (A :: Sep M :: L) w F := by
  constructor
  · rintro ⟨F1, F2, ⟨F3, F4, ha, hm, hd3, he3⟩, hl, hd, he⟩
    refine ⟨F3, fun k => F4 k ∨ F2 k, ha, ⟨F4, F2, hm, hl, fun k h4 h2 => hd k ((he3 k).2 (.inr h4)) h2, fun k => Iff.rfl⟩, fun k h3 h => h.elim (fun h4 => hd3 k h3 h4) (fun h2 => hd k ((he3 k).2 (.inl h3)) h2), fun k => ?_⟩
    rw [he k, he3 k, or_assoc]
  · rintro ⟨F1, F2, ha, ⟨F3, F4, hm, hl, hd3, he3⟩, hd, he⟩
    refine ⟨fun k => F1 k ∨ F3 k, F4, ⟨F1, F3, ha, hm, fun k h1 h3 => hd k h1 ((he3 k).2 (.inl h3)), fun k => Iff.rfl⟩, hl, fun k h h4 => h.elim (fun h1 => hd k h1 ((he3 k).2 (.inr h4))) (fun h3 => hd3 k h3 h4), fun k => ?_⟩
    rw [he k, he3 k, or_assoc]
theorem SL.flat0 {L : List As} {w : World} {F : Nat → Prop} : SL (Sep [] :: L) w F ↔ SL L w F := by
  constructor
  · rintro ⟨F1, F2, h1, hl, hd, he⟩
    exact hl.congr (fun k => (he k).trans ⟨fun h => h.elim (fun h => absurd h (h1 k)) id, .inr⟩)
  · intro h
    exact ⟨fun _ => False, F, fun _ h => h, h, fun _ h => h.elim, fun k => ⟨.inr, fun h => h.elim False.elim id⟩⟩
theorem SB.sep {w0 w : World} {A : As} {M L : List As} : SB w0 w (Sep (A :: M) :: L) ↔ SB w0 w (A :: Sep M :: L) :=
  ⟨fun ⟨h, F, hl, hF⟩ => ⟨h, F, SL.flat.1 hl, hF⟩, fun ⟨h, F, hl, hF⟩ => ⟨h, F, SL.flat.2 hl, hF⟩⟩
theorem SB.sep0 {w0 w : World} {L : List As} : SB w0 w (Sep [] :: L) ↔ SB w0 w L :=
  ⟨fun ⟨h, F, hl, hF⟩ => ⟨h, F, SL.flat0.1 hl, hF⟩, fun ⟨h, F, hl, hF⟩ => ⟨h, F, SL.flat0.2 hl, hF⟩⟩
def rowsOf (z : List (Fm × Value)) : List As := z.map fun x => Row (Kd.int .u64) 35 x.2 x.1.loc
/-- What holds of a stack. -/
structure FS.ok (s : FS) : Prop where
  room0 : 0 ≤ s.room
  room : s.room ≤ 64
  len : (s.fr.length : Int) ≤ s.room
  base : ∀ f ∈ s.fr, 0 ≤ f.base ∧ f.base ≤ 1000000000000
def FL (p : Nat) (v : Value) (z : List (Fm × Value)) (s : FS) : List As := [Box p (fsC v z s.room) 72, Row (Kd.int .u64) 35 v s.v, Sep (rowsOf z)]
/-- A stack, as an object. -/
def FO (p : Nat) (s : FS) : As where
  P w F := ∃ v z, z.map Prod.fst = s.fr ∧ s.ok ∧ SL (FL p v z s) w F
  lt := fun ⟨_, _, _, _, h⟩ => SL.lt h
  mv := fun ⟨v, z, e, hk, h⟩ hm => ⟨v, z, e, hk, SL.mv h hm⟩
theorem SL.cons_iff {A : As} {L L' : List As} {w : World} (h : ∀ F, SL L w F ↔ SL L' w F) (F : Nat → Prop) : SL (A :: L) w F ↔ SL (A :: L') w F :=
  ⟨fun ⟨F1, F2, ha, hl, hd, he⟩ => ⟨F1, F2, ha, (h F2).1 hl, hd, he⟩, fun ⟨F1, F2, ha, hl, hd, he⟩ => ⟨F1, F2, ha, (h F2).2 hl, hd, he⟩⟩
theorem SL.sepN : ∀ (M : List As) {L : List As} {w : World} (F : Nat → Prop), SL (Sep M :: L) w F ↔ SL (M ++ L) w F
  | [], _, _, _ => SL.flat0
  | _ :: M, _, _, F => SL.flat.trans (SL.cons_iff (fun F => SL.sepN M F) F)
theorem SB.sepN {w0 w : World} {M L : List As} : SB w0 w (Sep M :: L) ↔ SB w0 w (M ++ L) :=
  ⟨fun ⟨h, F, hl, hF⟩ => ⟨h, F, (SL.sepN M F).1 hl, hF⟩, fun ⟨h, F, hl, hF⟩ => ⟨h, F, (SL.sepN M F).2 hl, hF⟩⟩
theorem SB.open_ {w0 w : World} {p : Nat} {s : FS} {L : List As} (h : SB w0 w (FO p s :: L)) :
    ∃ v z, z.map Prod.fst = s.fr ∧ s.ok ∧ SB w0 w (Box p (fsC v z s.room) 72 :: Row (Kd.int .u64) 35 v s.v :: Sep (rowsOf z) :: L) := by
  obtain ⟨h1, F, ⟨F1, F2, ⟨v, z, e, hk, ha⟩, hl, hd, he⟩, hF⟩ := h
  have h2 : SB w0 w (Sep (FL p v z s) :: L) := ⟨h1, F, ⟨F1, F2, ha, hl, hd, he⟩, hF⟩
  exact ⟨v, z, e, hk, SB.sepN.1 h2⟩
theorem SB.close_ {w0 w : World} {p : Nat} {s : FS} {L : List As} {v : Value} {z : List (Fm × Value)} (e : z.map Prod.fst = s.fr) (hk : s.ok) (h : SB w0 w (Box p (fsC v z s.room) 72 :: Row (Kd.int .u64) 35 v s.v :: Sep (rowsOf z) :: L)) : SB w0 w (FO p s :: L) := by
  have h2 : SB w0 w (Sep (FL p v z s) :: L) := SB.sepN.2 h
  obtain ⟨h1, F, ⟨F1, F2, ha, hl, hd, he⟩, hF⟩ := h2
  exact ⟨h1, F, ⟨F1, F2, ⟨v, z, e, hk, ha⟩, hl, hd, he⟩, hF⟩
/-- New. -/
theorem frNewS {w0 w : World} {L : List As} (hS : SB w0 w L) (d : Int) :
    Calls Try.prog 10 #[.int .i64 d] w fun e w' => e = .returned (.pointer (some ⟨w.heap.size, 0, none⟩)) ∧ SB w0 w' (FO w.heap.size ⟨[], [], max 0 (min d 64)⟩ :: L) := by
  refine (frNew d w).mono ?_
  rintro e w' ⟨rfl, rfl⟩
  refine ⟨rfl, SB.close_ (v := .slice none 0 0) (z := []) rfl ⟨by show (0:Int) ≤ max 0 (min d 64); omega, by show max 0 (min d 64) ≤ (64:Int); omega, by show ((0 : Nat) : Int) ≤ max 0 (min d 64); omega, fun f hf => by cases hf⟩ ?_⟩
  have h1 := hS.box (fsC (.slice none 0 0) [] (max 0 (min d 64))) 72
  have h2 := SB.row (d := Kd.int .u64) (e := 35) (v := .slice none 0 0) (xs := []) (ok := fun _ => True) h1 (Below.refl _ _) (Kd.R_nil _ _ _ _ _)
  exact (SB.sep0.2 h2.swap).perm ((List.Perm.swap _ _ _).trans ((List.Perm.swap _ _ _).cons _))
/-- What the cells hold. -/
theorem fsC_b (v : Value) (z : List (Fm × Value)) (r : Int) {w : World} {p : Nat} (hb : w.heap[p]? = some (.cells (fsC v z r) 72 (0, 0))) (i : Nat) (hi : i < 259) : w.cell? ⟨p, i, none⟩ = some (cellAt v z r i) := by
  rw [blk_cell hb i]
  exact fsC_at v z r i hi
def baseOf (fr : List Fm) : Int := (fr.getLast?.map Fm.base).getD 0
theorem atB {v : Value} {z : List (Fm × Value)} {r : Int} {w : World} {p : Nat} (hb : w.heap[p]? = some (.cells (fsC v z r) 72 (0, 0))) (hz : z.length ≤ 64) : AtB w p z.length (baseOf (z.map Prod.fst)) := by
  refine ⟨fsC_b v z r hb 257 (by omega), ?_⟩
  rcases List.eq_nil_or_concat z with rfl | ⟨z', x, rfl⟩
  · exact .inl ⟨rfl, rfl⟩
  · refine .inr ⟨z'.length, by simp, by simp at hz; omega, ?_⟩
    rw [blk_cell hb, fsC_fr _ _ _ _ 3 (by simp at hz; omega) (by omega) (by simp)]
    simp [fm4, baseOf]
end Go.Proofs.Ytbbgkelcdooabaa.G
/- Package frames' stacks: values. -/
namespace Go.Proofs.Ytbbgkelcdooabaa.G
open Go.RowKit Go.Proofs.YtbbgkelcdooabaaW.PrintWords Go.Proofs.YtbbgkelcdooabaaW.PrintLast Go.Proofs.YtbbgkelcdooabaaW.PrintMore
attribute [local go_sem] max2_int min2_int max_two min_two max_three min_three max_four min_four   -- for this text's walks alone
set_option linter.unusedVariables false
set_option linter.unusedSimpArgs false
/-- A copy of a row of numbers. -/
theorem cloneU {w0 w : World} {L : List As} (hS : SB w0 w L) (A : Option Addr) (c : Nat) (l : List Int) (hC : Kd.C (Kd.int .u64) w A l.length l) (hc : l.length ≤ c) (hl : l.length ≤ 1000000) :
    Calls Try.prog 36 #[.slice A l.length c] w fun e w' => ∃ v, e = .returned v ∧ SB w0 w' (Row (Kd.int .u64) 35 v l :: L) := by
  have HC := Aside0.mk hC
  have HS := Aside0.mk hS
  clear hC hS
  have heq := fun (w : World) (a : Option Addr) (n c : Nat) => Lib.run_eql_slice_nil (P := Try.prog) w 22 35 a n c 0 0 Try.underlying22
  cases A with
  | none =>
    have h0 : l = [] := by
      cases l with
      | nil => rfl
      | cons x l =>
        obtain ⟨ad, e, _⟩ := HC.out.2.2 (by simp)
        simp at e
    subst h0
    go_enter Try.func36, Try.ntmps36
    go_wp2
    go_ret
    exact ⟨_, rfl, HS.out.row (Below.refl _ _) (Kd.R_nil _ _ _ _ (fun _ => True))⟩
  | some ad =>
    go_enter Try.func36, Try.ntmps36
    go_wp2_with (first
      | ((with_reducible refine gate_dst (N := 5) rfl ?_); refine Kd.R_lit (Kd.int .u64) (w0 := w) w.heap.size 35 rfl (N := 5) rfl (xs := ([] : List Int)) (inner := []) (ok := fun _ => True) (okp := fun _ => True) (by first | (go_simp; done) | (go_simp; rfl)) (Reps.none _ _) (fun _ hk => hk) trivial (Below.refl _ _) (Nat.le_refl _) (by simp) ?_; intro v5 w4 ho5 hb hg_ hnew_; have HS4 := Aside0.mk (HS.out.row hb ho5); have HC4 := Aside0.mk (Kd.C_below HC.out hb); clear ho5 hb hg_ hnew_)
      | ((with_reducible refine gate_builtin (b := .append) (xs := #[.tmp 5, .tmp 6]) rfl ?_); refine SB.appRows (ys := l) HS4.out rfl (.tmp 5) (.tmp 6) 22 (.int .u64 0) 8 rfl Try.underlying22 info35 rfl (by decide) (by decide) rfl rfl (fun _ _ h => h) HC4.out (by simp; omega) ?_; intro v5 w5 hs5; have HS5 := Aside0.mk hs5; clear hs5))
    go_ret
    exact ⟨_, rfl, HS5.out⟩
theorem SB.set1 {w0 w : World} {L : List As} {p t : Nat} {cs : Array Value} (h : SB w0 w (Box p cs t :: L)) (i : Nat) (v : Value) : SB w0 (w.setCell ⟨p, i, none⟩ v) (Box p (cs.setIfInBounds i v) t :: L) := by
  obtain ⟨F, hF, hge, K⟩ := h.frame
  have hp : F p := (hF.2 p).2 rfl
  exact K _ (Box p (cs.setIfInBounds i v) t) F ⟨blk_set hF.1 i v, hF.2⟩ ((Fr.refl w F).setCell (p := ⟨p, i, none⟩) (.inl hp) v) (fun k hk => .inl hk)
theorem SB.blk {w0 w : World} {L : List As} {p t : Nat} {cs : Array Value} (h : SB w0 w (Box p cs t :: L)) : w.heap[p]? = some (.cells cs t (0, 0)) := by
  obtain ⟨F, hF, _⟩ := h.head
  exact hF.1
theorem fsC_set0 (v v' : Value) (z : List (Fm × Value)) (r : Int) : (fsC v z r).setIfInBounds 0 v' = fsC v' z r := by
  refine fsC_ext (by simp [fsC]) (fun i hi => ?_)
  rw [Array.getElem?_setIfInBounds, fsC_size]
  by_cases h0 : i = 0
  · subst h0; rfl
  · rw [if_neg (by omega), fsC_at _ _ _ _ hi]
    unfold cellAt
    rw [if_neg h0, if_neg h0]
/-- Push. -/
theorem frPush {w0 w : World} {L : List As} {p : Nat} {s : FS} (hS : SB w0 w (FO p s :: L)) (A : Option Addr) (c : Nat) (l : List Int) (hC : Kd.C (Kd.int .u64) w A l.length l) (hc : l.length ≤ c) (hl : s.v.length + l.length ≤ 1000000) :
    Calls Try.prog 11 #[.pointer (some ⟨p, 0, none⟩), .slice A l.length c] w fun e w' => e = .returned (.tuple #[]) ∧ SB w0 w' (FO p { s with v := s.v ++ l } :: L) := by
  obtain ⟨v, z, hz, hk, h1⟩ := hS.open_
  have hb := h1.blk
  have h2 := h1.swap
  obtain ⟨A0, c0, rfl, hc0, _⟩ := h2.reads
  have hcell : w.cell? ⟨p, 0, none⟩ = some (.slice A0 s.v.length c0) := fsC_b _ _ _ hb 0 (by omega)
  have HS := Aside0.mk h2
  have HC := Aside0.mk hC
  clear h1 h2 hb hS hC
  go_enter Try.func11, Try.ntmps11
  go_wp2_with ((with_reducible refine gate_builtin (b := .append) (xs := #[.tmp 10, .tmp 11]) rfl ?_); at_builtin; go_must ((refine SB.appRows (ys := l) HS.out rfl (.tmp 10) (.tmp 11) 22 (.int .u64 0) 8 rfl Try.underlying22 info35 rfl (by decide) (by decide) rfl rfl (fun _ _ h => h) HC.out (by omega) ?_); intro v5 w5 hs5; obtain ⟨A5, c5, rfl, _, _⟩ := hs5.reads; have hb5 := hs5.swap.blk; have hc5 : w5.cell? ⟨p, 0, none⟩ = some (.slice A0 s.v.length c0) := fsC_b _ _ _ hb5 0 (by omega); have hf5 := blk_frozen hb5 0; have HS5 := Aside0.mk hs5; clear hs5 hb5))
  go_end0
  have h6 := (HS5.out.swap).set1 0 (.slice A5 (s.v ++ l).length c5)
  rw [fsC_set0] at h6
  have h7 := SB.close_ (s := { s with v := s.v ++ l }) hz ⟨hk.room0, hk.room, hk.len, hk.base⟩ h6
  simp only [List.length_append] at h7
  exact ⟨rfl, h7⟩
theorem frPushNil (v : Value) (w : World) : Calls Try.prog 11 #[.pointer none, v] w fun e w' => e = .returned (.tuple #[]) ∧ Drawn0 w w' := by
  go_enter Try.func11, Try.ntmps11
  go_wp2
  go_end0
  exact ⟨rfl, by repeat (first | exact Drawn0.refl _ | apply Drawn0.step)⟩
/-- Vals. -/
theorem frVals {w0 w : World} {L : List As} {p : Nat} {s : FS} (hS : SB w0 w (FO p s :: L)) (hl : s.v.length ≤ 1000000) :
    Calls Try.prog 16 #[.pointer (some ⟨p, 0, none⟩)] w fun e w' => ∃ v, e = .returned v ∧ SB w0 w' (Row (Kd.int .u64) 35 v s.v :: FO p s :: L) := by
  obtain ⟨v, z, hz, hk, h1⟩ := hS.open_
  have hb := h1.blk
  obtain ⟨A0, c0, rfl, hc0, hC0⟩ := h1.swap.reads
  have hcell : w.cell? ⟨p, 0, none⟩ = some (.slice A0 s.v.length c0) := fsC_b _ _ _ hb 0 (by omega)
  have HS := Aside0.mk hS
  have HC := Aside0.mk hC0
  clear h1 hb hS hC0
  go_enter Try.func16, Try.ntmps16
  go_wp2_with (go_at_call 36; (with_reducible refine (cloneU HS.out A0 c0 s.v HC.out hc0 hl).mono ?_); rintro e w1 ⟨v1, rfl, hs⟩; have HS1 := Aside0.mk hs; clear hs)
  go_ret
  exact ⟨_, rfl, HS1.out⟩
/-- So many own values. -/
def hasN (s : FS) (n : Int) : Prop := 0 ≤ n ∧ n ≤ (s.v.length : Int) - baseOf s.fr
instance (s : FS) (n : Int) : Decidable (hasN s n) := inferInstanceAs (Decidable (_ ∧ _))
theorem baseOf_ok {s : FS} (hk : s.ok) : 0 ≤ baseOf s.fr ∧ baseOf s.fr ≤ 1000000000000 := by
  unfold baseOf
  cases h : s.fr.getLast? with
  | none => simp
  | some x => exact hk.base x (List.mem_of_getLast? h)
theorem frHasS {w0 w : World} {L : List As} {p : Nat} {s : FS} (hS : SB w0 w (FO p s :: L)) (hl : s.v.length ≤ 1000000) (n : Int) :
    Calls Try.prog 32 #[.pointer (some ⟨p, 0, none⟩), .int .i64 n] w fun e w' => e = .returned (.bool (decide (hasN s n))) ∧ Drawn0 w w' := by
  obtain ⟨v, z, hz, hk, h1⟩ := hS.open_
  have hb := h1.blk
  obtain ⟨A0, c0, rfl, hc0, hC0⟩ := h1.swap.reads
  have hcell : w.cell? ⟨p, 0, none⟩ = some (.slice A0 s.v.length c0) := fsC_b _ _ _ hb 0 (by omega)
  have hzl : z.length ≤ 64 := by have := congrArg List.length hz; have := hk.len; have := hk.room; simp at *; omega
  have ha := atB hb hzl
  rw [hz] at ha
  exact frHas p z.length (baseOf s.fr) A0 s.v.length c0 n w (by omega) (by have := baseOf_ok hk; omega) hcell ha
theorem cut22 (A : Option Addr) (n c t : Nat) (h : t ≤ n) (hc : n ≤ c) (W : World) : (Instr.slice 22 (.slice A n c) none (some (.int .i64 (t : Int))) none).run Try.prog W = .ok (.slice A t c) W := by
  obtain ⟨i0, hi0, _, hsz, _⟩ := info_parts info35
  have hel : Try.prog.elem 22 = 35 := by simp [Program.elem, Try.underlying22]
  have hu : Try.prog.underlying 22 = some (.slice (Try.prog.elem 22)) := by rw [hel]; exact Try.underlying22
  have ha : (A.map fun x => x.add 0) = A := by cases A <;> simp [Addr.add]
  rw [run_slice_h W 22 A n c hu .i64 (t : Int) (by omega) (by omega), hel]
  simp [sizeOf, typeInfo, hi0, hsz, sliced, Result.andThen, ha]
theorem low22 (A : Option Addr) (n c t : Nat) (h : t ≤ n) (hc : n ≤ c) (W : World) : (Instr.slice 22 (.slice A n c) (some (.int .i64 (t : Int))) none none).run Try.prog W = .ok (.slice (if c = t then A else A.map (·.add (t * 1))) (n - t) (c - t)) W := by
  obtain ⟨i0, hi0, _, hsz, _⟩ := info_parts info35
  have hel : Try.prog.elem 22 = 35 := by simp [Program.elem, Try.underlying22]
  have hu : Try.prog.underlying 22 = some (.slice (Try.prog.elem 22)) := by rw [hel]; exact Try.underlying22
  rw [run_slice_l W 22 A n c hu .i64 (t : Int) (by omega) (by omega), hel]
  simp [sizeOf, typeInfo, hi0, hsz, sliced, Result.andThen]
theorem frTakeNo {w0 w : World} {L : List As} {p : Nat} {s : FS} (hS : SB w0 w (FO p s :: L)) (hl : s.v.length ≤ 1000000) (n : Int) (hn : ¬ hasN s n) :
    Calls Try.prog 33 #[.pointer (some ⟨p, 0, none⟩), .int .i64 n] w fun e w' => e = .returned (.tuple #[.slice none 0 0, .bool false]) ∧ SB w0 w' (FO p s :: L) := by
  have hc := frHasS hS hl n
  rw [decide_eq_false hn] at hc
  have HS := Aside0.mk hS
  have HH := Aside0.mk hc
  clear hS hc hn
  go_enter Try.func33, Try.ntmps33
  go_wp2_with (go_at_call 32; (with_reducible refine (HH.out).mono ?_); rintro e w1 ⟨rfl, ⟨nd, rfl⟩⟩)
  go_ret2
  exact ⟨rfl, HS.out.drewN _⟩
theorem SB.rowTake {α : Type} {d : Kd α} {e : Nat} {A : Option Addr} {n c : Nat} {xs : List α} {w0 w : World} {L : List As} (h : SB w0 w (Row d e (.slice A n c) xs :: L)) (m : Nat) (hm : m ≤ xs.length) : SB w0 w (Row d e (.slice A m c) (xs.take m) :: L) := by
  obtain ⟨F, hF, hge, K⟩ := h.frame
  exact K _ (Row d e (.slice A m c) (xs.take m)) F ⟨Kd.R_take hF.1 hm, hF.2⟩ (Fr.refl _ _) (fun k hk => .inl hk)
theorem frTakeOk {w0 w : World} {L : List As} {p : Nat} {s : FS} (hS : SB w0 w (FO p s :: L)) (hl : s.v.length ≤ 1000000) (n : Nat) (hn : hasN s n) :
    Calls Try.prog 33 #[.pointer (some ⟨p, 0, none⟩), .int .i64 (n : Int)] w fun e w' => ∃ v, e = .returned (.tuple #[v, .bool true]) ∧ SB w0 w' (Row (Kd.int .u64) 35 v (s.v.drop (s.v.length - n)) :: FO p { s with v := s.v.take (s.v.length - n) } :: L) := by
  have hc := frHasS hS hl n
  rw [decide_eq_true hn] at hc
  have HH := Aside0.mk hc
  obtain ⟨v, z, hz, hk, h1⟩ := hS.open_
  have hnl : n ≤ s.v.length := by have := (baseOf_ok hk).1; have := hn.2; omega
  obtain ⟨k, hkk⟩ : ∃ k, s.v.length - n = k := ⟨_, rfl⟩
  rw [hkk]
  have hw : IntKind.i64.wrap ((s.v.length : Int) - (n : Int)) = (k : Int) := by rw [IntKind.wrap_i64]; omega
  have hb := h1.blk
  obtain ⟨A0, c0, rfl, hc0, hC0⟩ := h1.swap.reads
  have hcell : w.cell? ⟨p, 0, none⟩ = some (.slice A0 s.v.length c0) := fsC_b _ _ _ hb 0 (by omega)
  have hcut := cut22 A0 s.v.length c0 k (by omega) hc0
  have hlow := low22 A0 s.v.length c0 k (by omega) hc0
  have HS := Aside0.mk h1
  have HC := Aside0.mk (Kd.C_drop hC0 (m := k) (by omega) hc0)
  have hdl : (s.v.drop k).length = s.v.length - k := by simp
  obtain ⟨Al, hAl⟩ : ∃ Al, (if c0 = k then A0 else A0.map fun x => x.add (k * 1)) = Al := ⟨_, rfl⟩
  rw [hAl, ← hdl] at hlow
  have HC := Aside0.mk (show Kd.C (Kd.int .u64) w Al (s.v.drop k).length (s.v.drop k) from hAl ▸ HC.out)
  have hdc : (s.v.drop k).length ≤ c0 - k := by omega
  have hdm : (s.v.drop k).length ≤ 1000000 := by omega
  obtain ⟨xs, hxs⟩ : ∃ xs, s.v.drop k = xs := ⟨_, rfl⟩
  rw [hxs] at hlow HC hdc hdm ⊢
  obtain ⟨cl, hcl⟩ : ∃ cl, c0 - k = cl := ⟨_, rfl⟩
  rw [hcl] at hlow hdc
  clear h1 hb hS hC0 hn hc hdl hAl hxs hcl
  go_enter Try.func33, Try.ntmps33
  go_wp2_with (first
    | (go_at_call 32; (with_reducible refine (HH.out).mono ?_); rintro e w1 ⟨rfl, ⟨nd, rfl⟩⟩)
    | (go_at_call 36; go_must ((with_reducible refine (cloneU (HS.out.drewN nd) Al cl xs (Kd.C_below HC.out (pw_below_drewN (Below.refl _ _) _)) hdc hdm).mono ?_)); rintro e w3 ⟨v3, rfl, hs⟩; obtain ⟨A3, c3, rfl, _, _⟩ := hs.reads; have hb3 := hs.swap.blk; have hc3 : w3.cell? ⟨p, 0, none⟩ = some (.slice A0 s.v.length c0) := fsC_b _ _ _ hb3 0 (by omega); have hf3 := blk_frozen hb3 0; have HS3 := Aside0.mk hs; clear hs hb3))
  go_ret2
  refine ⟨_, rfl, ?_⟩
  have h6 := (HS3.out.swap).set1 0 (.slice A0 k c0)
  rw [fsC_set0] at h6
  have h7 := h6.perm (L' := Row (Kd.int .u64) 35 (.slice A0 s.v.length c0) s.v :: Box p (fsC (.slice A0 k c0) z s.room) 72 :: Row (Kd.int .u64) 35 (.slice A3 xs.length c3) xs :: Sep (rowsOf z) :: L) (((List.Perm.swap _ _ _).cons _).trans (List.Perm.swap _ _ _))
  have h8 := SB.rowTake h7 k (by omega)
  have h9 := h8.perm (L' := Box p (fsC (.slice A0 k c0) z s.room) 72 :: Row (Kd.int .u64) 35 (.slice A0 k c0) (s.v.take k) :: Sep (rowsOf z) :: Row (Kd.int .u64) 35 (.slice A3 xs.length c3) xs :: L) ((List.Perm.swap _ _ _).trans (((List.Perm.swap _ _ _).cons _).cons _))
  have h10 := SB.close_ (s := { s with v := s.v.take k }) hz ⟨hk.room0, hk.room, hk.len, hk.base⟩ h9
  exact h10.swap
theorem frPopNo {w0 w : World} {L : List As} {p : Nat} {s : FS} (hS : SB w0 w (FO p s :: L)) (hl : s.v.length ≤ 1000000) (hn : ¬ hasN s 1) :
    Calls Try.prog 22 #[.pointer (some ⟨p, 0, none⟩)] w fun e w' => e = .returned (.tuple #[.int .u64 0, .bool false]) ∧ SB w0 w' (FO p s :: L) := by
  have hc := frHasS hS hl 1
  rw [decide_eq_false hn] at hc
  have HS := Aside0.mk hS
  have HH := Aside0.mk hc
  clear hS hc hn
  go_enter Try.func22, Try.ntmps22
  go_wp2_with (go_at_call 32; (with_reducible refine (HH.out).mono ?_); rintro e w1 ⟨rfl, ⟨nd, rfl⟩⟩)
  go_ret2
  exact ⟨rfl, HS.out.drewN _⟩
theorem frPopNil (w : World) : Calls Try.prog 22 #[.pointer none] w fun e w' => e = .returned (.tuple #[.int .u64 0, .bool false]) ∧ Drawn0 w w' := by
  go_enter Try.func22, Try.ntmps22
  go_wp2_with (go_at_call 32; (with_reducible refine (frHasNil 1 _).mono ?_); rintro e w1 ⟨rfl, ⟨nd, rfl⟩⟩)
  go_ret2
  exact ⟨rfl, drawn_n _ _⟩
theorem frPopOk {w0 w : World} {L : List As} {p : Nat} {s : FS} (hS : SB w0 w (FO p s :: L)) (hl : s.v.length ≤ 1000000) (hn : hasN s 1) :
    Calls Try.prog 22 #[.pointer (some ⟨p, 0, none⟩)] w fun e w' => e = .returned (.tuple #[.int .u64 (s.v.getD (s.v.length - 1) 0), .bool true]) ∧ SB w0 w' (FO p { s with v := s.v.take (s.v.length - 1) } :: L) := by
  have hc := frHasS hS hl 1
  rw [decide_eq_true hn] at hc
  have HH := Aside0.mk hc
  obtain ⟨v, z, hz, hk, h1⟩ := hS.open_
  have hnl : 1 ≤ s.v.length := by have := (baseOf_ok hk).1; have := hn.2; omega
  obtain ⟨k, hkk⟩ : ∃ k, s.v.length - 1 = k := ⟨_, rfl⟩
  rw [hkk]
  have hw : IntKind.i64.wrap ((s.v.length : Int) - 1) = (k : Int) := by rw [IntKind.wrap_i64]; omega
  have hb := h1.blk
  obtain ⟨A0, c0, rfl, hc0, hC0⟩ := h1.swap.reads
  have hcell : w.cell? ⟨p, 0, none⟩ = some (.slice A0 s.v.length c0) := fsC_b _ _ _ hb 0 (by omega)
  have hfro : w.frozen? ⟨p, 0, none⟩ = false := blk_frozen hb 0
  have hcut := cut22 A0 s.v.length c0 k (by omega) hc0
  obtain ⟨ad, rfl, hcell2⟩ := row_cell hC0 (i := k) (by omega)
  have hgd : s.v.getD k 0 = s.v[k] := by rw [List.getD_eq_getElem?_getD, List.getElem?_eq_getElem]; rfl
  rw [hgd]
  obtain ⟨x, hx⟩ : ∃ x, s.v[k] = x := ⟨_, rfl⟩
  rw [hx] at hcell2 ⊢
  have d1 : decide ((s.v.length : Int) ≤ (k : Int)) = false := decide_eq_false (by omega)
  have d2 : decide (s.v.length ≤ k) = false := decide_eq_false (by omega)
  have d3 : k < s.v.length := by omega
  have HS := Aside0.mk h1
  clear h1 hb hS hC0 hn hc hgd hx
  go_enter Try.func22, Try.ntmps22
  go_wp2_with (go_at_call 32; (with_reducible refine (HH.out).mono ?_); rintro e w1 ⟨rfl, ⟨nd, rfl⟩⟩)
  go_ret2
  refine ⟨rfl, ?_⟩
  have h6 := (HS.out.drewN nd).set1 0 (.slice (some ad) k c0)
  rw [fsC_set0] at h6
  have h8 := SB.rowTake h6.swap k (by omega)
  exact SB.close_ (s := { s with v := s.v.take k }) hz ⟨hk.room0, hk.room, hk.len, hk.base⟩ h8.swap
end Go.Proofs.Ytbbgkelcdooabaa.G
/- Package frames' stacks: Enter. -/
namespace Go.Proofs.Ytbbgkelcdooabaa.G
open Go.RowKit Go.Proofs.YtbbgkelcdooabaaW.PrintWords Go.Proofs.YtbbgkelcdooabaaW.PrintLast Go.Proofs.YtbbgkelcdooabaaW.PrintMore
set_option linter.unusedVariables false
set_option linter.unusedSimpArgs false
theorem fsC_push (v : Value) (z : List (Fm × Value)) (r : Int) (x : Fm × Value) (n : Nat) (hz : z.length = n) (hn : n < 64) :
    ((((((fsC v z r).setIfInBounds (1 + n * 4) (.int .i64 x.1.f)).setIfInBounds (1 + n * 4 + 1) (.int .i64 x.1.pc)).setIfInBounds (1 + n * 4 + 2) x.2).setIfInBounds (1 + n * 4 + 3) (.int .i64 x.1.base)).setIfInBounds 257 (.int .i64 ((n + 1 : Nat) : Int))) = fsC v (z ++ [x]) r := by
  refine fsC_ext (by simp [fsC]) (fun i hi => ?_)
  simp only [Array.getElem?_setIfInBounds, Array.size_setIfInBounds, fsC_size]
  unfold cellAt
  by_cases h257 : i = 257
  · subst h257
    simp [hz]
  · rw [if_neg (by omega)]
    by_cases h0 : i = 0
    · subst h0
      rw [if_neg (by omega), if_neg (by omega), if_neg (by omega), if_neg (by omega), fsC_at _ _ _ _ hi, if_pos rfl]; rfl
    · by_cases h258 : i = 258
      · subst h258
        rw [if_neg (by omega), if_neg (by omega), if_neg (by omega), if_neg (by omega), fsC_at _ _ _ _ hi]; rfl
      · rw [if_neg h0, if_neg h257, if_neg h258]
        by_cases hk : (i - 1) / 4 = n
        · rw [hk, List.getElem?_append_right (by omega), hz, Nat.sub_self]
          have hj : (i - 1) % 4 < 4 := Nat.mod_lt _ (by omega)
          have h4 : (i - 1) % 4 = 0 ∨ (i - 1) % 4 = 1 ∨ (i - 1) % 4 = 2 ∨ (i - 1) % 4 = 3 := by omega
          rcases h4 with h | h | h | h <;> rw [h]
          · rw [if_neg (by omega), if_neg (by omega), if_neg (by omega), if_pos (by omega), if_pos (by omega)]; rfl
          · rw [if_neg (by omega), if_neg (by omega), if_pos (by omega), if_pos (by omega)]; rfl
          · rw [if_neg (by omega), if_pos (by omega), if_pos (by omega)]; rfl
          · rw [if_pos (by omega), if_pos (by omega)]; rfl
        · rw [if_neg (by omega), if_neg (by omega), if_neg (by omega), if_neg (by omega), fsC_at _ _ _ _ hi]
          unfold cellAt
          rw [if_neg h0, if_neg h257, if_neg h258]
          congr 4
          by_cases hlt : (i - 1) / 4 < n
          · rw [List.getElem?_append_left (by omega)]
          · rw [List.getElem?_eq_none (by omega), List.getElem?_eq_none (by simp; omega)]
theorem fsC_pop (v : Value) (z : List (Fm × Value)) (r : Int) (x : Fm × Value) (n : Nat) (hz : z.length = n) (hn : n < 64) :
    ((((((fsC v (z ++ [x]) r).setIfInBounds 257 (.int .i64 (n : Int))).setIfInBounds (1 + n * 4) (.int .i64 0)).setIfInBounds (1 + n * 4 + 1) (.int .i64 0)).setIfInBounds (1 + n * 4 + 2) (.slice none 0 0)).setIfInBounds (1 + n * 4 + 3) (.int .i64 0)) = fsC v z r := by
  refine fsC_ext (by simp [fsC]) (fun i hi => ?_)
  simp only [Array.getElem?_setIfInBounds, Array.size_setIfInBounds, fsC_size]
  unfold cellAt
  by_cases h257 : i = 257
  · subst h257
    rw [if_neg (by omega), if_neg (by omega), if_neg (by omega), if_neg (by omega)]
    simp [hz]
  · by_cases h0 : i = 0
    · subst h0
      rw [if_neg (by omega), if_neg (by omega), if_neg (by omega), if_neg (by omega), if_neg (by omega), fsC_at _ _ _ _ hi, if_pos rfl]; rfl
    · by_cases h258 : i = 258
      · subst h258
        rw [if_neg (by omega), if_neg (by omega), if_neg (by omega), if_neg (by omega), if_neg (by omega), fsC_at _ _ _ _ hi]; rfl
      · rw [if_neg h0, if_neg h257, if_neg h258]
        by_cases hk : (i - 1) / 4 = n
        · rw [hk, List.getElem?_eq_none (by omega)]
          have h4 : (i - 1) % 4 = 0 ∨ (i - 1) % 4 = 1 ∨ (i - 1) % 4 = 2 ∨ (i - 1) % 4 = 3 := by omega
          rcases h4 with h | h | h | h <;> rw [h]
          · rw [if_neg (by omega), if_neg (by omega), if_neg (by omega), if_pos (by omega), if_pos (by omega)]; rfl
          · rw [if_neg (by omega), if_neg (by omega), if_pos (by omega), if_pos (by omega)]; rfl
          · rw [if_neg (by omega), if_pos (by omega), if_pos (by omega)]; rfl
          · rw [if_pos (by omega), if_pos (by omega)]; rfl
        · rw [if_neg (by omega), if_neg (by omega), if_neg (by omega), if_neg (by omega), if_neg (by omega), fsC_at _ _ _ _ hi]
          unfold cellAt
          rw [if_neg h0, if_neg h257, if_neg h258]
          congr 4
          by_cases hlt : (i - 1) / 4 < n
          · rw [List.getElem?_append_left (by omega)]
          · rw [List.getElem?_eq_none (by simp; omega), List.getElem?_eq_none (by omega)]
theorem fsC_pc (v : Value) (z : List (Fm × Value)) (r : Int) (x : Fm × Value) (n : Nat) (hz : z.length = n) (hn : n < 64) (pc : Int) :
    ((fsC v (z ++ [x]) r).setIfInBounds (1 + n * 4 + 1) (.int .i64 pc)) = fsC v (z ++ [({ x.1 with pc := pc }, x.2)]) r := by
  refine fsC_ext (by simp [fsC]) (fun i hi => ?_)
  simp only [Array.getElem?_setIfInBounds, Array.size_setIfInBounds, fsC_size]
  by_cases hi1 : 1 + n * 4 + 1 = i
  · rw [if_pos hi1, if_pos (by omega)]
    unfold cellAt
    rw [if_neg (by omega), if_neg (by omega), if_neg (by omega), show (i - 1) / 4 = n by omega, show (i - 1) % 4 = 1 by omega, List.getElem?_append_right (by omega), hz, Nat.sub_self]
    rfl
  · rw [if_neg hi1, fsC_at _ _ _ _ hi]
    unfold cellAt
    by_cases h0 : i = 0
    · rw [if_pos h0, if_pos h0]
    · rw [if_neg h0, if_neg h0]
      by_cases h257 : i = 257
      · rw [if_pos h257, if_pos h257]; simp
      · rw [if_neg h257, if_neg h257]
        by_cases h258 : i = 258
        · rw [if_pos h258, if_pos h258]
        · rw [if_neg h258, if_neg h258]
          by_cases hk : (i - 1) / 4 = n
          · rw [hk, List.getElem?_append_right (by omega), List.getElem?_append_right (by omega), hz, Nat.sub_self]
            have h4 : (i - 1) % 4 = 0 ∨ (i - 1) % 4 = 2 ∨ (i - 1) % 4 = 3 := by omega
            rcases h4 with h | h | h <;> rw [h] <;> rfl
          · congr 4
            by_cases hlt : (i - 1) / 4 < n
            · rw [List.getElem?_append_left (by omega), List.getElem?_append_left (by omega)]
            · rw [List.getElem?_eq_none (by simp; omega), List.getElem?_eq_none (by simp; omega)]
end Go.Proofs.Ytbbgkelcdooabaa.G
/- Package frames' stacks: Enter. -/
namespace Go.Proofs.Ytbbgkelcdooabaa.G
open Go.RowKit Go.Proofs.YtbbgkelcdooabaaW.PrintWords Go.Proofs.YtbbgkelcdooabaaW.PrintLast Go.Proofs.YtbbgkelcdooabaaW.PrintMore
set_option linter.unusedVariables false
set_option linter.unusedSimpArgs false
theorem frEnterNil (a b c d : Int) (w : World) : Calls Try.prog 12 #[.pointer none, .int .i64 a, .int .i64 b, .int .i64 c, .int .i64 d] w fun e w' => e = .returned (.int .i64 9) ∧ Drawn0 w w' := by
  go_enter Try.func12, Try.ntmps12
  go_wp2
  go_quiet (fail)
  go_wp2
  go_ret
  exact ⟨rfl, drawn_n _ _⟩
theorem frEnterDeep {w0 w : World} {L : List As} {p : Nat} {s : FS} (hS : SB w0 w (FO p s :: L)) (a b c d : Int) (hd : s.room ≤ (s.fr.length : Int)) :
    Calls Try.prog 12 #[.pointer (some ⟨p, 0, none⟩), .int .i64 a, .int .i64 b, .int .i64 c, .int .i64 d] w fun e w' => e = .returned (.int .i64 9) ∧ SB w0 w' (FO p s :: L) := by
  obtain ⟨v, z, hz, hk, h1⟩ := hS.open_
  have hb := h1.blk
  have hzl : z.length = s.fr.length := by have := congrArg List.length hz; simpa using this
  have hn : w.cell? ⟨p, 257, none⟩ = some (.int .i64 (s.fr.length : Int)) := by rw [fsC_b _ _ _ hb 257 (by omega), ← hzl]; rfl
  have hr : w.cell? ⟨p, 258, none⟩ = some (.int .i64 s.room) := fsC_b _ _ _ hb 258 (by omega)
  have d1 : decide (s.room ≤ (s.fr.length : Int)) = true := decide_eq_true hd
  have HS := Aside0.mk hS
  clear hS h1 hb hzl hd
  go_enter Try.func12, Try.ntmps12
  go_wp2
  go_quiet (fail)
  go_wp2
  go_ret
  exact ⟨rfl, HS.out.drewN _⟩
theorem frEnterStuck {w0 w : World} {L : List As} {p : Nat} {s : FS} (hS : SB w0 w (FO p s :: L)) (hl : s.v.length ≤ 1000000) (a b c d : Int) (hd : (s.fr.length : Int) < s.room) (hq : d < 0 ∨ ¬ hasN s c) :
    Calls Try.prog 12 #[.pointer (some ⟨p, 0, none⟩), .int .i64 a, .int .i64 b, .int .i64 c, .int .i64 d] w fun e w' => e = .returned (.int .i64 11) ∧ SB w0 w' (FO p s :: L) := by
  have HH := Aside0.mk (fun nd => frHasS (hS.drewN nd) hl c)
  obtain ⟨v, z, hz, hk, h1⟩ := hS.open_
  have hb := h1.blk
  have hzl : z.length = s.fr.length := by have := congrArg List.length hz; simpa using this
  have hn : w.cell? ⟨p, 257, none⟩ = some (.int .i64 (s.fr.length : Int)) := by rw [fsC_b _ _ _ hb 257 (by omega), ← hzl]; rfl
  have hr : w.cell? ⟨p, 258, none⟩ = some (.int .i64 s.room) := fsC_b _ _ _ hb 258 (by omega)
  have d1 : decide (s.room ≤ (s.fr.length : Int)) = false := decide_eq_false (by omega)
  have HS := Aside0.mk hS
  clear hS h1 hb hzl hd
  by_cases hq2 : d < 0
  · have d2 : decide (d < 0) = true := decide_eq_true hq2
    clear hq hq2
    go_enter Try.func12, Try.ntmps12
    go_wp2
    go_quiet (fail)
    go_wp2
    go_ret
    exact ⟨rfl, HS.out.drewN _⟩
  · have d2 : decide (d < 0) = false := decide_eq_false hq2
    have HH := Aside0.mk (fun nd => (decide_eq_false (hq.resolve_left hq2)) ▸ HH.out nd)
    clear hq hq2
    go_enter Try.func12, Try.ntmps12
    go_wp2
    go_quiet (fail)
    go_wp2_with (go_at_call 32; (with_reducible refine (HH.out _).mono ?_); rintro e w1 ⟨rfl, ⟨nd, rfl⟩⟩)
    go_ret
    exact ⟨rfl, HS.out.drewN _⟩
theorem blk_set4 {cs : Array Value} {b i : Nat} (x0 x1 x2 x3 : Value) (h : i < b ∨ b + 3 < i) : ((((cs.setIfInBounds b x0).setIfInBounds (b + 1) x1).setIfInBounds (b + 2) x2).setIfInBounds (b + 3) x3)[i]? = cs[i]? := by
  simp only [Array.getElem?_setIfInBounds]
  rw [if_neg (by omega), if_neg (by omega), if_neg (by omega), if_neg (by omega)]
theorem SB.set4 {w0 w : World} {L : List As} {p t : Nat} {cs : Array Value} (h : SB w0 w (Box p cs t :: L)) (b : Nat) (x0 x1 x2 x3 : Value) :
    SB w0 ((((w.setCell ⟨p, b, none⟩ x0).setCell ⟨p, b + 1, none⟩ x1).setCell ⟨p, b + 2, none⟩ x2).setCell ⟨p, b + 3, none⟩ x3) (Box p ((((cs.setIfInBounds b x0).setIfInBounds (b + 1) x1).setIfInBounds (b + 2) x2).setIfInBounds (b + 3) x3) t :: L) :=
  (((h.set1 b x0).set1 (b + 1) x1).set1 (b + 2) x2).set1 (b + 3) x3
/-- The first assertions, by their numbers; the others of them are dropped. -/
theorem SB.pickL {w0 w : World} (Q : List As) {L : List As} (h : SB w0 w (Q ++ L)) (ix : List Nat) (hp : pickOk Q.length ix = true) : SB w0 w ((ix.map fun i => Q.getD i As.none) ++ L) := by
  have h1 := List.isPerm_iff.1 hp
  have h2 := h1.map (fun i => Q.getD i As.none)
  have h3 : (List.range Q.length).map (fun i => Q.getD i As.none) = Q := by
    apply List.ext_getElem
    · simp
    · intro i h1 h2
      simp [List.getElem?_eq_getElem h2]
  rw [h3, List.map_append] at h2
  have h4 := h.perm ((h2.symm).append_right L)
  rw [List.append_assoc] at h4
  have h5 := h4.perm ((List.perm_append_comm (l₁ := ((List.range Q.length).filter (fun i => !ix.contains i)).map fun i => Q.getD i As.none) (l₂ := L)).append_left _)
  rw [← List.append_assoc] at h5
  exact h5.prefix_
theorem SB.pick2 {w0 w : World} {A B : As} {L : List As} (h : SB w0 w (A :: B :: L)) (ix : List Nat) (hp : pickOk 2 ix = true := by kernel_rfl) : SB w0 w ((ix.map fun i => [A, B].getD i As.none) ++ L) := SB.pickL [A, B] h ix hp
theorem SB.pick3 {w0 w : World} {A B C : As} {L : List As} (h : SB w0 w (A :: B :: C :: L)) (ix : List Nat) (hp : pickOk 3 ix = true := by kernel_rfl) : SB w0 w ((ix.map fun i => [A, B, C].getD i As.none) ++ L) := SB.pickL [A, B, C] h ix hp
theorem SB.pick4 {w0 w : World} {A B C D : As} {L : List As} (h : SB w0 w (A :: B :: C :: D :: L)) (ix : List Nat) (hp : pickOk 4 ix = true := by kernel_rfl) : SB w0 w ((ix.map fun i => [A, B, C, D].getD i As.none) ++ L) := SB.pickL [A, B, C, D] h ix hp
theorem SB.pick5 {w0 w : World} {A B C D E : As} {L : List As} (h : SB w0 w (A :: B :: C :: D :: E :: L)) (ix : List Nat) (hp : pickOk 5 ix = true := by kernel_rfl) : SB w0 w ((ix.map fun i => [A, B, C, D, E].getD i As.none) ++ L) := SB.pickL [A, B, C, D, E] h ix hp
theorem SB.rot3 {w0 w : World} {A B C D : As} {L : List As} (h : SB w0 w (A :: B :: C :: D :: L)) : SB w0 w (D :: A :: B :: C :: L) :=
  h.perm ((((List.Perm.swap _ _ _).cons _).cons _).trans (((List.Perm.swap _ _ _).cons _).trans (.swap _ _ _)))
theorem SB.sepPush {w0 w : World} {A : As} {M L : List As} (h : SB w0 w (A :: Sep M :: L)) : SB w0 w (Sep (M ++ [A]) :: L) := by
  have h1 := SB.sepN.1 (SB.sep.2 h)
  refine SB.sepN.2 (h1.perm ?_)
  rw [List.append_assoc]
  exact List.perm_middle.symm
theorem SB.sepPop {w0 w : World} {A : As} {M L : List As} (h : SB w0 w (Sep (M ++ [A]) :: L)) : SB w0 w (A :: Sep M :: L) := by
  have h1 := SB.sepN.1 h
  refine SB.sep.1 (SB.sepN.2 (h1.perm ?_))
  rw [List.append_assoc]
  exact List.perm_middle
theorem rowsOf_push (z : List (Fm × Value)) (x : Fm × Value) : rowsOf (z ++ [x]) = rowsOf z ++ [Row (Kd.int .u64) 35 x.2 x.1.loc] := by simp [rowsOf]
theorem frEnterOk {w0 w : World} {L : List As} {p : Nat} {s : FS} (hS : SB w0 w (FO p s :: L)) (hl : s.v.length ≤ 1000000) (a b : Int) (c d : Nat) (hd : (s.fr.length : Int) < s.room) (hq : hasN s c) (hdm : d ≤ 1000000) :
    Calls Try.prog 12 #[.pointer (some ⟨p, 0, none⟩), .int .i64 a, .int .i64 b, .int .i64 (c : Int), .int .i64 (d : Int)] w fun e w' => e = .returned (.int .i64 0) ∧
      SB w0 w' (FO p { s with v := s.v.take (s.v.length - c), fr := s.fr ++ [⟨a, b, s.v.drop (s.v.length - c) ++ List.replicate d 0, ((s.v.length - c : Nat) : Int)⟩] } :: L) := by
  have HH := Aside0.mk (fun nd => (decide_eq_true hq) ▸ frHasS (hS.drewN nd) hl c)
  have HT := Aside0.mk (fun nd => frTakeOk (hS.drewN nd) hl c hq)
  obtain ⟨v, z, hz, hk, h1⟩ := hS.open_
  have hb := h1.blk
  have hzl : z.length = s.fr.length := by have := congrArg List.length hz; simpa using this
  obtain ⟨n, hnn⟩ : ∃ n, s.fr.length = n := ⟨_, rfl⟩
  have hn : w.cell? ⟨p, 257, none⟩ = some (.int .i64 (n : Int)) := by rw [fsC_b _ _ _ hb 257 (by omega), ← hnn, ← hzl]; rfl
  have hr : w.cell? ⟨p, 258, none⟩ = some (.int .i64 s.room) := fsC_b _ _ _ hb 258 (by omega)
  have hn64 : n < 64 := by have := hk.room; omega
  rw [hnn] at hd
  have d1 : decide (s.room ≤ (n : Int)) = false := decide_eq_false (by omega)
  have d2 : decide ((d : Int) < 0) = false := decide_eq_false (by omega)
  have hcl : c ≤ s.v.length := by have := (baseOf_ok hk).1; have := hq.2; omega
  obtain ⟨m, hm⟩ : ∃ m, s.v.length - c = m := ⟨_, rfl⟩
  rw [hm] at HT ⊢
  have hml : m ≤ s.v.length := by omega
  have hwn : IntKind.i64.wrap ((n : Int) + 1) = ((n + 1 : Nat) : Int) := by rw [IntKind.wrap_i64]; omega
  have HK := Aside0.mk hk
  have HN := Aside0.mk hnn
  have HZ := Aside0.mk hd
  clear hS h1 hb hzl hd hq hz z v hm hk hnn
  go_enter Try.func12, Try.ntmps12
  go_wp2
  go_quiet (fail)
  go_wp2_with (first
    | (go_at_call 32; (with_reducible refine (HH.out _).mono ?_); rintro e w1 ⟨rfl, ⟨nd, rfl⟩⟩)
    | (go_at_call 33; go_must ((with_reducible refine (HT.out _).mono ?_); rintro e w3 ⟨vL, rfl, hs⟩; have HT3 := Aside0.mk hs; clear hs)))
  obtain ⟨v, z, hz, hk, h1⟩ := HT3.out.swap.open_
  obtain ⟨A0, c0, rfl, hc0, _⟩ := h1.swap.reads
  have hvl : (s.v.take m).length = m := by simp; omega
  have hzl : z.length = n := by have := congrArg List.length hz; have := HN.out; simp at *; omega
  simp only [hvl] at h1 hc0
  have hb3 := h1.drew.blk
  have s0 : w3.drew.cell? ⟨p, 0, none⟩ = some (.slice A0 m c0) := fsC_b _ _ _ hb3 0 (by omega)
  have s1 : w3.drew.cell? ⟨p, 257, none⟩ = some (.int .i64 (n : Int)) := by rw [fsC_b _ _ _ hb3 257 (by omega), ← hzl]; rfl
  have HD := Aside0.mk h1.drew.rot3
  clear h1 hb3 HT3
  have e257 : cellAt (.slice A0 m c0) z s.room 257 = .int .i64 (n : Int) := by rw [← hzl]; rfl
  have e0 : cellAt (.slice A0 m c0) z s.room 0 = .slice A0 m c0 := rfl
  refine rg_startL (n := 20) (S := fun w' => w'.cell? ⟨p, 0, none⟩ = some (.slice A0 m c0) ∧ w'.cell? ⟨p, 257, none⟩ = some (.int .i64 (n : Int))) (bm 20 0) (by kernel_rfl) rfl (by kernel_rfl) (⟨s0, s1⟩) (fun wd hwd hHeld => ?_)
  refine rg_take (i := 0) (N := some 42) (v := ?_) (a' := ?_) (bm 20 1) rfl rfl (by kernel_rfl) (fun _ _ _ h => h) hHeld (Or.inl ⟨by rfl, ?_⟩) ?_ ?_
  rotate_left
  · intro w' hw'
    have s0 := hw'.1
    have s1 := hw'.2
    have hc1 : (n : Int) < 64 := by omega
    have hc2 : (0 : Int) ≤ (n : Int) := by omega
    go_simp
    with_reducible rfl
  rotate_left
  · simp only [Act.put, List.setIfInBounds_toArray, List.set_cons_zero, List.set_cons_succ]
    rfl
  refine rg_take (i := 1) (N := some 43) (v := ?_) (a' := ?_) (bm 20 3) rfl rfl (by kernel_rfl) (fun _ _ _ h => h) hHeld (Or.inl ⟨by rfl, ?_⟩) ?_ ?_
  rotate_left
  · intro w' hw'
    have s0 := hw'.1
    have s1 := hw'.2
    have hc1 : (n : Int) < 64 := by omega
    have hc2 : (0 : Int) ≤ (n : Int) := by omega
    go_simp
    with_reducible rfl
  rotate_left
  · simp only [Act.put, List.setIfInBounds_toArray, List.set_cons_zero, List.set_cons_succ]
    rfl
  refine rg_take (i := 2) (N := some 44) (v := ?_) (a' := ?_) (bm 20 7) rfl rfl (by kernel_rfl) (fun _ _ _ h => h) hHeld (Or.inl ⟨by rfl, ?_⟩) ?_ ?_
  rotate_left
  · intro w' hw'
    have s0 := hw'.1
    have s1 := hw'.2
    have hc1 : (n : Int) < 64 := by omega
    have hc2 : (0 : Int) ≤ (n : Int) := by omega
    go_simp
    with_reducible rfl
  rotate_left
  · simp only [Act.put, List.setIfInBounds_toArray, List.set_cons_zero, List.set_cons_succ]
    rfl
  refine rg_take (i := 3) (N := some 45) (v := ?_) (a' := ?_) (bm 20 15) rfl rfl (by kernel_rfl) (fun _ _ _ h => h) hHeld (Or.inl ⟨by rfl, ?_⟩) ?_ ?_
  rotate_left
  · intro w' hw'
    have s0 := hw'.1
    have s1 := hw'.2
    have hc1 : (n : Int) < 64 := by omega
    have hc2 : (0 : Int) ≤ (n : Int) := by omega
    go_simp
    with_reducible rfl
  rotate_left
  · simp only [Act.put, List.setIfInBounds_toArray, List.set_cons_zero, List.set_cons_succ]
    rfl
  refine rg_take (i := 4) (N := some 46) (v := ?_) (a' := ?_) (bm 20 31) rfl rfl (by kernel_rfl) (fun _ _ _ h => h) hHeld (Or.inl ⟨by rfl, ?_⟩) ?_ ?_
  rotate_left
  · intro w' hw'
    have s0 := hw'.1
    have s1 := hw'.2
    have hc1 : (n : Int) < 64 := by omega
    have hc2 : (0 : Int) ≤ (n : Int) := by omega
    go_simp
    with_reducible rfl
  rotate_left
  · simp only [Act.put, List.setIfInBounds_toArray, List.set_cons_zero, List.set_cons_succ]
    rfl
  refine rg_take (i := 5) (N := some 47) (v := ?_) (a' := ?_) (bm 20 63) rfl rfl (by kernel_rfl) (fun _ _ _ h => h) hHeld (Or.inl ⟨by rfl, ?_⟩) ?_ ?_
  rotate_left
  · intro w' hw'
    have s0 := hw'.1
    have s1 := hw'.2
    have hc1 : (n : Int) < 64 := by omega
    have hc2 : (0 : Int) ≤ (n : Int) := by omega
    go_simp
    with_reducible rfl
  rotate_left
  · simp only [Act.put, List.setIfInBounds_toArray, List.set_cons_zero, List.set_cons_succ]
    rfl
  refine rg_take (i := 6) (N := some 48) (v := ?_) (a' := ?_) (bm 20 127) rfl rfl (by kernel_rfl) (fun _ _ _ h => h) hHeld (Or.inl ⟨by rfl, ?_⟩) ?_ ?_
  rotate_left
  · intro w' hw'
    have s0 := hw'.1
    have s1 := hw'.2
    have hc1 : (n : Int) < 64 := by omega
    have hc2 : (0 : Int) ≤ (n : Int) := by omega
    go_simp
    with_reducible rfl
  rotate_left
  · simp only [Act.put, List.setIfInBounds_toArray, List.set_cons_zero, List.set_cons_succ]
    rfl
  refine rg_take (i := 7) (N := some 49) (v := ?_) (a' := ?_) (bm 20 255) rfl rfl (by kernel_rfl) (fun _ _ _ h => h) hHeld (Or.inl ⟨by rfl, ?_⟩) ?_ ?_
  rotate_left
  · intro w' hw'
    have s0 := hw'.1
    have s1 := hw'.2
    have hc1 : (n : Int) < 64 := by omega
    have hc2 : (0 : Int) ≤ (n : Int) := by omega
    go_simp
    with_reducible rfl
  rotate_left
  · simp only [Act.put, List.setIfInBounds_toArray, List.set_cons_zero, List.set_cons_succ]
    rfl
  refine rg_take (i := 8) (N := some 50) (v := ?_) (a' := ?_) (bm 20 511) rfl rfl (by kernel_rfl) (fun _ _ _ h => h) hHeld (Or.inl ⟨by rfl, ?_⟩) ?_ ?_
  rotate_left
  · intro w' hw'
    have s0 := hw'.1
    have s1 := hw'.2
    have hc1 : (n : Int) < 64 := by omega
    have hc2 : (0 : Int) ≤ (n : Int) := by omega
    go_simp
    with_reducible rfl
  rotate_left
  · simp only [Act.put, List.setIfInBounds_toArray, List.set_cons_zero, List.set_cons_succ]
    rfl
  refine rg_take (i := 10) (N := some 52) (v := ?_) (a' := ?_) (bm 20 1535) rfl rfl (by kernel_rfl) (fun _ _ _ h => h) hHeld (Or.inl ⟨by rfl, ?_⟩) ?_ ?_
  rotate_left
  · intro w' hw'
    have s0 := hw'.1
    have s1 := hw'.2
    have hc1 : (n : Int) < 64 := by omega
    have hc2 : (0 : Int) ≤ (n : Int) := by omega
    go_simp
    with_reducible rfl
  rotate_left
  · simp only [Act.put, List.setIfInBounds_toArray, List.set_cons_zero, List.set_cons_succ]
    rfl
  refine rg_take (i := 11) (N := some 53) (v := ?_) (a' := ?_) (bm 20 3583) rfl rfl (by kernel_rfl) (fun _ _ _ h => h) hHeld (Or.inl ⟨by rfl, ?_⟩) ?_ ?_
  rotate_left
  · intro w' hw'
    have s0 := hw'.1
    have s1 := hw'.2
    have hc1 : (n : Int) < 64 := by omega
    have hc2 : (0 : Int) ≤ (n : Int) := by omega
    go_simp
    with_reducible rfl
  rotate_left
  · simp only [Act.put, List.setIfInBounds_toArray, List.set_cons_zero, List.set_cons_succ]
    rfl
  refine rg_take (i := 12) (N := some 54) (v := ?_) (a' := ?_) (bm 20 7679) rfl rfl (by kernel_rfl) (fun _ _ _ h => h) hHeld (Or.inl ⟨by rfl, ?_⟩) ?_ ?_
  rotate_left
  · intro w' hw'
    have s0 := hw'.1
    have s1 := hw'.2
    have hc1 : (n : Int) < 64 := by omega
    have hc2 : (0 : Int) ≤ (n : Int) := by omega
    go_simp
    with_reducible rfl
  rotate_left
  · simp only [Act.put, List.setIfInBounds_toArray, List.set_cons_zero, List.set_cons_succ]
    rfl
  refine rg_take (i := 13) (N := some 55) (v := ?_) (a' := ?_) (bm 20 15871) rfl rfl (by kernel_rfl) (fun _ _ _ h => h) hHeld (Or.inl ⟨by rfl, ?_⟩) ?_ ?_
  rotate_left
  · intro w' hw'
    have s0 := hw'.1
    have s1 := hw'.2
    have hc1 : (n : Int) < 64 := by omega
    have hc2 : (0 : Int) ≤ (n : Int) := by omega
    go_simp
    with_reducible rfl
  rotate_left
  · simp only [Act.put, List.setIfInBounds_toArray, List.set_cons_zero, List.set_cons_succ]
    rfl
  refine rg_take (i := 14) (N := some 56) (v := ?_) (a' := ?_) (bm 20 32255) rfl rfl (by kernel_rfl) (fun _ _ _ h => h) hHeld (Or.inl ⟨by rfl, ?_⟩) ?_ ?_
  rotate_left
  · intro w' hw'
    have s0 := hw'.1
    have s1 := hw'.2
    have hc1 : (n : Int) < 64 := by omega
    have hc2 : (0 : Int) ≤ (n : Int) := by omega
    go_simp
    with_reducible rfl
  rotate_left
  · simp only [Act.put, List.setIfInBounds_toArray, List.set_cons_zero, List.set_cons_succ]
    rfl
  refine rg_take (i := 16) (N := some 58) (v := ?_) (a' := ?_) (bm 20 97791) rfl rfl (by kernel_rfl) (fun _ _ _ h => h) hHeld (Or.inl ⟨by rfl, ?_⟩) ?_ ?_
  rotate_left
  · intro w' hw'
    have s0 := hw'.1
    have s1 := hw'.2
    have hc1 : (n : Int) < 64 := by omega
    have hc2 : (0 : Int) ≤ (n : Int) := by omega
    go_simp
    with_reducible rfl
  rotate_left
  · simp only [Act.put, List.setIfInBounds_toArray, List.set_cons_zero, List.set_cons_succ]
    rfl
  refine rg_take (i := 17) (N := some 59) (v := ?_) (a' := ?_) (bm 20 228863) rfl rfl (by kernel_rfl) (fun _ _ _ h => h) hHeld (Or.inl ⟨by rfl, ?_⟩) ?_ ?_
  rotate_left
  · intro w' hw'
    have s0 := hw'.1
    have s1 := hw'.2
    have hc1 : (n : Int) < 64 := by omega
    have hc2 : (0 : Int) ≤ (n : Int) := by omega
    go_simp
    with_reducible rfl
  rotate_left
  · simp only [Act.put, List.setIfInBounds_toArray, List.set_cons_zero, List.set_cons_succ]
    rfl
  refine rg_ready [9] (by kernel_rfl) (by simp) ?_
  refine rg_one (i := 9) (N := some 51) (bm 20 229375) rfl rfl (by kernel_rfl) (fun K hK => ?_) rg_nil
  have HDw := Aside0.mk (hwd.out ▸ HD.out)
  refine SB.appZerosStep HDw.out (by rfl) (.tmp 49) (.tmp 50) 22 3 8 .i64 .i64 rfl Try.underlying22 Try.underlying3 info35 (by decide) d rfl rfl (by simp; omega) ?_
  intro v5 wx9r6 hs5
  obtain ⟨A5, c5, rfl, hc5, _⟩ := hs5.reads
  obtain ⟨xs5, hxs5⟩ : ∃ xs, s.v.drop m ++ List.replicate d 0 = xs := ⟨_, rfl⟩
  rw [hxs5] at hs5
  have HX5 := Aside0.mk hxs5
  rw [hxs5]
  have hb5 := hs5.swap.blk
  have hnew : wx9r6.cell? ⟨p, 0, none⟩ = some (.slice A0 m c0) ∧ wx9r6.cell? ⟨p, 257, none⟩ = some (.int .i64 (n : Int)) := ⟨fsC_b _ _ _ hb5 0 (by omega), by rw [fsC_b _ _ _ hb5 257 (by omega), ← hzl]; rfl⟩
  have HD5 := Aside0.mk hs5.swap
  clear hs5 hb5 hxs5
  refine hK.out _ _ hnew ?_
  clear hK K
  refine rg_norm (a' := ?_) ?_ ?_
  rotate_left
  · simp only [Act.put, List.setIfInBounds_toArray, List.set_cons_zero, List.set_cons_succ]
    rfl
  clear hHeld
  have hHeld := hnew
  clear hnew
  refine rg_take (i := 15) (N := some 57) (v := ?_) (a' := ?_) (bm 20 262143) rfl rfl (by kernel_rfl) (fun _ _ _ h => h) hHeld (Or.inl ⟨by rfl, ?_⟩) ?_ ?_
  rotate_left
  · intro w' hw'
    have s0 := hw'.1
    have s1 := hw'.2
    have hc1 : (n : Int) < 64 := by omega
    have hc2 : (0 : Int) ≤ (n : Int) := by omega
    go_simp
    with_reducible rfl
  rotate_left
  · simp only [Act.put, List.setIfInBounds_toArray, List.set_cons_zero, List.set_cons_succ]
    rfl
  refine rg_take (i := 18) (N := some 60) (v := ?_) (a' := ?_) (bm 20 524287) rfl rfl (by kernel_rfl) (fun _ _ _ h => h) hHeld (Or.inl ⟨by rfl, ?_⟩) ?_ ?_
  rotate_left
  · intro w' hw'
    have s0 := hw'.1
    have s1 := hw'.2
    have hc1 : (n : Int) < 64 := by omega
    have hc2 : (0 : Int) ≤ (n : Int) := by omega
    go_simp
    with_reducible rfl
  rotate_left
  · simp only [Act.put, List.setIfInBounds_toArray, List.set_cons_zero, List.set_cons_succ]
    rfl
  refine rg_ready [19] (by kernel_rfl) (by simp) ?_
  refine rg_one (i := 19) (N := none) (bm 20 1048575) rfl rfl (by kernel_rfl) (fun K hK => ?_) rg_nil
  have hb6 := HD5.out.blk
  have x0 := fsC_b _ _ _ hb6 (1 + n * 4) (by omega)
  have x1 := fsC_b _ _ _ hb6 (1 + n * 4 + 1) (by omega)
  have x2 := fsC_b _ _ _ hb6 (1 + n * 4 + 2) (by omega)
  have x3 := fsC_b _ _ _ hb6 (1 + n * 4 + 3) (by omega)
  have f0 := blk_frozen hb6 (1 + n * 4)
  have f1 := blk_frozen hb6 (1 + n * 4 + 1)
  have f2 := blk_frozen hb6 (1 + n * 4 + 2)
  have f3 := blk_frozen hb6 (1 + n * 4 + 3)
  have h6 := HD5.out.set4 (1 + n * 4) (.int .i64 a) (.int .i64 b) (.slice A5 xs5.length c5) (.int .i64 (m : Int))
  have hb7 := h6.blk
  have hnew : _ ∧ _ := And.intro (((blk_cell hb7 0).trans (blk_set4 _ _ _ _ (by omega))).trans ((fsC_at _ _ _ 0 (by omega)).trans (congrArg some e0))) ((((blk_cell hb7 257).trans (blk_set4 _ _ _ _ (by omega))).trans (fsC_at _ _ _ 257 (by omega))).trans (congrArg some e257))
  have HD6 := Aside0.mk h6
  clear hb6 h6 hb7
  go_simp
  refine hK.out undef _ hnew ?_
  clear hK K
  refine rg_norm (a' := ?_) ?_ ?_
  rotate_left
  · simp only [Act.put, List.setIfInBounds_toArray, List.set_cons_zero, List.set_cons_succ]
    rfl
  clear hHeld
  have hHeld := hnew
  clear hnew
  refine rg_done (by kernel_rfl) ?_
  have s2 := hHeld.2
  have f7 := blk_frozen HD6.out.blk 257
  go_wp2
  go_ret
  refine ⟨rfl, ?_⟩
  have h8 := HD6.out.set1 257 (.int .i64 ((n + 1 : Nat) : Int))
  rw [fsC_push (.slice A0 m c0) z s.room (⟨a, b, xs5, (m : Int)⟩, .slice A5 xs5.length c5) n hzl hn64] at h8
  have h9 : SB w0 _ (Sep (rowsOf z ++ [Row (Kd.int .u64) 35 (.slice A5 xs5.length c5) xs5]) :: Box p _ 72 :: Row (Kd.int .u64) 35 (.slice A0 m c0) (s.v.take m) :: L) := SB.sepPush (h8.pick4 [1, 3, 0, 2])
  have h10 := h9.pick3 [1, 2, 0]
  rw [← rowsOf_push z (⟨a, b, xs5, (m : Int)⟩, .slice A5 xs5.length c5)] at h10
  have hkk := HK.out
  rw [HX5.out]
  exact SB.close_ (s := { s with v := s.v.take m, fr := s.fr ++ [⟨a, b, xs5, (m : Int)⟩] }) (by rw [List.map_append, hz]; rfl) ⟨hkk.room0, hkk.room, by have := HZ.out; have := HN.out; simp; omega, fun f hf => by
    rcases List.mem_append.1 hf with hf | hf
    · exact hkk.base f hf
    · rw [List.mem_singleton.1 hf]
      exact ⟨by show (0 : Int) ≤ (m : Int); omega, by show (m : Int) ≤ 1000000000000; omega⟩⟩ h10
end Go.Proofs.Ytbbgkelcdooabaa.G
/- Package frames' stacks: Leave, Cut. -/
namespace Go.Proofs.Ytbbgkelcdooabaa.G
open Go.RowKit Go.Proofs.YtbbgkelcdooabaaW.PrintWords Go.Proofs.YtbbgkelcdooabaaW.PrintLast Go.Proofs.YtbbgkelcdooabaaW.PrintMore
set_option linter.unusedVariables false
set_option linter.unusedSimpArgs false
theorem frLeaveNone {w0 w : World} {L : List As} {p : Nat} {s : FS} (hS : SB w0 w (FO p s :: L)) (c : Int) (hf : s.fr = []) :
    Calls Try.prog 14 #[.pointer (some ⟨p, 0, none⟩), .int .i64 c] w fun e w' => e = .returned (.bool false) ∧ SB w0 w' (FO p s :: L) := by
  obtain ⟨v, z, hz, hk, h1⟩ := hS.open_
  have hb := h1.blk
  have hzl : z.length = 0 := by have := congrArg List.length hz; rw [hf] at this; simpa using this
  have hn : w.cell? ⟨p, 257, none⟩ = some (.int .i64 0) := by rw [fsC_b _ _ _ hb 257 (by omega)]; unfold cellAt; rw [hzl]; rfl
  have HS := Aside0.mk hS
  clear hS h1 hb hzl
  go_enter Try.func14, Try.ntmps14
  go_wp2_with (go_at_call 34; (with_reducible refine (frTop0 p _ hn).mono ?_); rintro e w' ⟨rfl, ⟨nd, rfl⟩⟩)
  go_ret
  exact ⟨rfl, HS.out.drewN _⟩
theorem fr_top {w0 w : World} {L : List As} {p : Nat} {s : FS} (hS : SB w0 w (FO p s :: L)) (n : Nat) (hn : s.fr.length = n + 1) :
    n < 64 ∧ w.cell? ⟨p, 257, none⟩ = some (.int .i64 ((n + 1 : Nat) : Int)) := by
  obtain ⟨v, z, hz, hk, h1⟩ := hS.open_
  have hb := h1.blk
  have hzl : z.length = n + 1 := by have := congrArg List.length hz; rw [← hn]; simpa using this
  refine ⟨by have := hk.len; have := hk.room; omega, ?_⟩
  rw [fsC_b _ _ _ hb 257 (by omega), ← hzl]
  rfl
theorem frLeaveNo {w0 w : World} {L : List As} {p : Nat} {s : FS} (hS : SB w0 w (FO p s :: L)) (hl : s.v.length ≤ 1000000) (c : Int) (hq : s.fr ≠ [] → ¬ hasN s c) :
    Calls Try.prog 14 #[.pointer (some ⟨p, 0, none⟩), .int .i64 c] w fun e w' => e = .returned (.bool false) ∧ SB w0 w' (FO p s :: L) := by
  by_cases hf : s.fr = []
  · exact frLeaveNone hS c hf
  obtain ⟨n, hn⟩ : ∃ n, s.fr.length = n + 1 := ⟨s.fr.length - 1, by have := List.length_pos_iff.2 hf; omega⟩
  obtain ⟨h64, hc⟩ := fr_top hS n hn
  have HH := Aside0.mk (fun nd => (decide_eq_false (hq hf)) ▸ frHasS (hS.drewN nd) hl c)
  have HS := Aside0.mk hS
  clear hS hq hf hn
  go_enter Try.func14, Try.ntmps14
  go_wp2_with (first
    | (go_at_call 34; (with_reducible refine (frTop p n _ h64 hc).mono ?_); rintro e w' ⟨rfl, ⟨nd, rfl⟩⟩)
    | (go_at_call 32; go_must ((with_reducible refine (HH.out _).mono ?_)); rintro e w' ⟨rfl, ⟨nd2, rfl⟩⟩))
  go_ret
  exact ⟨rfl, HS.out.drewN _⟩
theorem blk_one (cs : Array Value) (i : Nat) (v : Value) (h : i < cs.size) : (cs.setIfInBounds i v)[i]? = some v := by
  rw [Array.getElem?_setIfInBounds, if_pos rfl, if_pos h]
theorem blk_have {w : World} {p t : Nat} {cs : Array Value} (hb : w.heap[p]? = some (.cells cs t (0, 0))) (i : Nat) (hi : i < cs.size) : w.cell? ⟨p, i, none⟩ = some cs[i] := by
  rw [blk_cell hb i, Array.getElem?_eq_getElem hi]
theorem AtB_of {w : World} {p : Nat} {v : Value} {z : List (Fm × Value)} {r : Int} {s : FS} (hb : w.heap[p]? = some (.cells (fsC v z r) 72 (0, 0))) (hz : z.map Prod.fst = s.fr) (hk : s.ok) : AtB w p s.fr.length (baseOf s.fr) := by
  have hzl : z.length = s.fr.length := by have := congrArg List.length hz; simpa using this
  have h := atB hb (by have := hk.len; have := hk.room; omega)
  rw [hz, hzl] at h
  exact h
theorem frLeaveOk {w0 w : World} {L : List As} {p : Nat} {s : FS} (hS : SB w0 w (FO p s :: L)) (hl : s.v.length ≤ 1000000) (c : Nat) (hf : s.fr ≠ []) (hq : hasN s c) :
    Calls Try.prog 14 #[.pointer (some ⟨p, 0, none⟩), .int .i64 (c : Int)] w fun e w' => e = .returned (.bool true) ∧
      SB w0 w' (FO p { s with v := s.v.take (baseOf s.fr).toNat ++ s.v.drop (s.v.length - c), fr := s.fr.dropLast } :: L) := by
  obtain ⟨n, hn⟩ : ∃ n, s.fr.length = n + 1 := ⟨s.fr.length - 1, by have := List.length_pos_iff.2 hf; omega⟩
  obtain ⟨h64, hc⟩ := fr_top hS n hn
  have HH := Aside0.mk (fun nd => (decide_eq_true hq) ▸ frHasS (hS.drewN nd) hl c)
  have HT := Aside0.mk (fun nd => frTakeOk (hS.drewN nd) hl c hq)
  obtain ⟨_, _, _, hk, _⟩ := hS.open_
  obtain ⟨b, hb⟩ := Int.eq_ofNat_of_zero_le (baseOf_ok hk).1
  obtain ⟨m, hm⟩ : ∃ m, s.v.length - c = m := ⟨_, rfl⟩
  have hbm : b ≤ m := by have := hq.2; omega
  have hml : m ≤ s.v.length := by omega
  rw [hm] at HT ⊢
  rw [hb, Int.toNat_natCast]
  have hwn : IntKind.i64.wrap (((n + 1 : Nat) : Int) - 1) = (n : Int) := by rw [IntKind.wrap_i64]; omega
  have HK := Aside0.mk hk
  have HN := Aside0.mk hn
  have HB := Aside0.mk hb
  clear hS hq hf hn hk hm
  go_enter Try.func14, Try.ntmps14
  go_wp2_with (first
    | (go_at_call 34; (with_reducible refine (frTop p n _ h64 hc).mono ?_); rintro e w' ⟨rfl, ⟨nd, rfl⟩⟩)
    | (go_at_call 32; go_must ((with_reducible refine (HH.out _).mono ?_)); rintro e w' ⟨rfl, ⟨nd2, rfl⟩⟩)
    | (go_at_call 33; go_must ((with_reducible refine (HT.out _).mono ?_); rintro e w3 ⟨vL, rfl, hs⟩; have HT3 := Aside0.mk hs; clear hs)))
  obtain ⟨v, z, hz, hk, h1⟩ := HT3.out.swap.open_
  obtain ⟨A0, c0, rfl, hc0, _⟩ := h1.swap.reads
  have hvl : (s.v.take m).length = m := by simp; omega
  have hzl : z.length = n + 1 := by have := congrArg List.length hz; have := HN.out; simp at *; omega
  simp only [hvl] at h1 hc0
  have h1 := h1.drew
  obtain ⟨AL, cL, rfl, hcL, _⟩ := (h1.pick4 [3]).reads
  obtain ⟨xsL, hxsL⟩ : ∃ xs, s.v.drop m = xs := ⟨_, rfl⟩
  rw [hxsL] at h1 hcL ⊢
  have hxl : xsL.length ≤ 1000000 := by rw [← hxsL]; simp; omega
  have hcut := cut22 A0 m c0 b hbm hc0
  have HDF := Aside0.mk h1
  have HXL := Aside0.mk hxsL
  clear h1 HT3 hxsL
  refine rg_startL (n := 13) (S := fun w' => True) (bm 13 0) (by kernel_rfl) rfl (by kernel_rfl) (trivial) (fun wd hwd hHeld => ?_)
  refine rg_take (i := 0) (N := some 22) (v := ?_) (a' := ?_) (bm 13 1) rfl rfl (by kernel_rfl) (fun _ _ _ h => h) hHeld (Or.inl ⟨by rfl, ?_⟩) ?_ ?_
  rotate_left
  · intro w' hw'
    go_simp
    with_reducible rfl
  rotate_left
  · simp only [Act.put, List.setIfInBounds_toArray, List.set_cons_zero, List.set_cons_succ]
    rfl
  refine rg_take (i := 1) (N := some 23) (v := ?_) (a' := ?_) (bm 13 3) rfl rfl (by kernel_rfl) (fun _ _ _ h => h) hHeld (Or.inl ⟨by rfl, ?_⟩) ?_ ?_
  rotate_left
  · intro w' hw'
    go_simp
    with_reducible rfl
  rotate_left
  · simp only [Act.put, List.setIfInBounds_toArray, List.set_cons_zero, List.set_cons_succ]
    rfl
  refine rg_take (i := 2) (N := some 24) (v := ?_) (a' := ?_) (bm 13 7) rfl rfl (by kernel_rfl) (fun _ _ _ h => h) hHeld (Or.inl ⟨by rfl, ?_⟩) ?_ ?_
  rotate_left
  · intro w' hw'
    go_simp
    with_reducible rfl
  rotate_left
  · simp only [Act.put, List.setIfInBounds_toArray, List.set_cons_zero, List.set_cons_succ]
    rfl
  refine rg_take (i := 3) (N := some 25) (v := ?_) (a' := ?_) (bm 13 15) rfl rfl (by kernel_rfl) (fun _ _ _ h => h) hHeld (Or.inl ⟨by rfl, ?_⟩) ?_ ?_
  rotate_left
  · intro w' hw'
    go_simp
    with_reducible rfl
  rotate_left
  · simp only [Act.put, List.setIfInBounds_toArray, List.set_cons_zero, List.set_cons_succ]
    rfl
  refine rg_take (i := 5) (N := some 27) (v := ?_) (a' := ?_) (bm 13 47) rfl rfl (by kernel_rfl) (fun _ _ _ h => h) hHeld (Or.inl ⟨by rfl, ?_⟩) ?_ ?_
  rotate_left
  · intro w' hw'
    go_simp
    with_reducible rfl
  rotate_left
  · simp only [Act.put, List.setIfInBounds_toArray, List.set_cons_zero, List.set_cons_succ]
    rfl
  refine rg_take (i := 8) (N := some 30) (v := ?_) (a' := ?_) (bm 13 303) rfl rfl (by kernel_rfl) (fun _ _ _ h => h) hHeld (Or.inl ⟨by rfl, ?_⟩) ?_ ?_
  rotate_left
  · intro w' hw'
    go_simp
    with_reducible rfl
  rotate_left
  · simp only [Act.put, List.setIfInBounds_toArray, List.set_cons_zero, List.set_cons_succ]
    rfl
  refine rg_ready [4, 6] (by kernel_rfl) (by simp) ?_
  refine rg_one (i := 4) (N := some 26) (bm 13 319) rfl rfl (by kernel_rfl) (fun K hK => ?_) ?_
  · skip
    have HD := Aside0.mk (hwd.out ▸ HDF.out)
    have s0 : wd.cell? ⟨p, 0, none⟩ = some (.slice A0 m c0) := fsC_b _ _ _ HD.out.blk 0 (by omega)
    refine value_ (w1 := ?_) (v := ?_) (by rfl) rfl ?_ ?_
    rotate_left 2
    · go_simp
      constructor
      · rfl
      · rfl
    have hnew : True := trivial
    refine hK.out _ _ hnew ?_
    clear hK K
    refine rg_norm (a' := ?_) ?_ ?_
    rotate_left
    · simp only [Act.put, List.setIfInBounds_toArray, List.set_cons_zero, List.set_cons_succ]
      rfl
    clear hHeld
    have hHeld := hnew
    clear hnew
    refine rg_ready [6] (by kernel_rfl) (by simp) ?_
    refine rg_one (i := 6) (N := some 28) (bm 13 383) rfl rfl (by kernel_rfl) (fun K hK => ?_) rg_nil
    have HD := Aside0.mk (hwd.out ▸ HDF.out)
    have ha := AtB_of (s := s) HD.out.blk hz HK.out
    rw [HB.out] at ha
    go_simp
    go_at_call 35
    with_reducible refine (frBase p _ (b : Int) _ ha).mono ?_
    rintro e wx4x6r4 ⟨rfl, ⟨nd6, rfl⟩⟩
    have HD6 := Aside0.mk (HD.out.drewN nd6)
    have hnew : True := trivial
    clear ha
    go_wp2_with fail
    refine hK.out _ _ hnew ?_
    clear hK K
    refine rg_norm (a' := ?_) ?_ ?_
    rotate_left
    · simp only [Act.put, List.setIfInBounds_toArray, List.set_cons_zero, List.set_cons_succ]
      rfl
    clear hHeld
    have hHeld := hnew
    clear hnew
    refine rg_take (i := 7) (N := some 29) (v := ?_) (a' := ?_) (bm 13 511) rfl rfl (by kernel_rfl) (fun _ _ _ h => h) hHeld (Or.inl ⟨by rfl, ?_⟩) ?_ ?_
    rotate_left
    · intro w' hw'
      go_simp
      with_reducible rfl
    rotate_left
    · simp only [Act.put, List.setIfInBounds_toArray, List.set_cons_zero, List.set_cons_succ]
      rfl
    refine rg_ready [9] (by kernel_rfl) (by simp) ?_
    refine rg_one (i := 9) (N := some 31) (bm 13 1023) rfl rfl (by kernel_rfl) (fun K hK => ?_) rg_nil
    have hq1 := SB.rowTake (HD6.out.pick4 [1, 0, 2, 3]) b (by omega)
    have htk : (s.v.take m).take b = s.v.take b := by rw [List.take_take, Nat.min_eq_left hbm]
    rw [htk] at hq1
    obtain ⟨AL', cL', eL, _, hCL⟩ := (hq1.pick4 [3]).reads
    injection eL with eL1 eL2 eL3
    subst eL1
    subst eL3
    refine SB.appRowsStep (ys := xsL) hq1 (by rfl) (.tmp 29) (.tmp 30) 22 (.int .u64 0) 8 rfl Try.underlying22 info35 rfl (by decide) (by decide) rfl rfl (fun _ _ h => h) hCL (by simp; omega) ?_
    intro v5 wx4x6x9r4 hs5
    obtain ⟨A5, c5, rfl, hc5, _⟩ := hs5.reads
    obtain ⟨xs5, hxs5⟩ : ∃ xs, s.v.take b ++ xsL = xs := ⟨_, rfl⟩
    rw [hxs5] at hs5
    have HX5 := Aside0.mk hxs5
    rw [hxs5]
    have HD9 := Aside0.mk hs5.swap
    have hnew : True := trivial
    clear hq1 htk hCL hs5 hxs5
    refine hK.out _ _ hnew ?_
    clear hK K
    refine rg_norm (a' := ?_) ?_ ?_
    rotate_left
    · simp only [Act.put, List.setIfInBounds_toArray, List.set_cons_zero, List.set_cons_succ]
      rfl
    clear hHeld
    have hHeld := hnew
    clear hnew
    refine rg_take (i := 10) (N := some 32) (v := ?_) (a' := ?_) (bm 13 2047) rfl rfl (by kernel_rfl) (fun _ _ _ h => h) hHeld (Or.inl ⟨by rfl, ?_⟩) ?_ ?_
    rotate_left
    · intro w' hw'
      go_simp
      with_reducible rfl
    rotate_left
    · simp only [Act.put, List.setIfInBounds_toArray, List.set_cons_zero, List.set_cons_succ]
      rfl
    refine rg_take (i := 11) (N := some 33) (v := ?_) (a' := ?_) (bm 13 4095) rfl rfl (by kernel_rfl) (fun _ _ _ h => h) hHeld (Or.inl ⟨by rfl, ?_⟩) ?_ ?_
    rotate_left
    · intro w' hw'
      go_simp
      with_reducible rfl
    rotate_left
    · simp only [Act.put, List.setIfInBounds_toArray, List.set_cons_zero, List.set_cons_succ]
      rfl
    refine rg_ready [12] (by kernel_rfl) (by simp) ?_
    refine rg_one (i := 12) (N := none) (bm 13 8191) rfl rfl (by kernel_rfl) (fun K hK => ?_) rg_nil
    have hb9 := HD9.out.blk
    have x0 := fsC_b _ _ _ hb9 0 (by omega)
    have f0 := blk_frozen hb9 0
    have h12 := HD9.out.set1 0 (.slice A5 xs5.length c5)
    rw [fsC_set0] at h12
    have HD12 := Aside0.mk h12
    have hnew : True := trivial
    clear hb9 h12
    go_simp
    refine hK.out undef _ hnew ?_
    clear hK K
    refine rg_norm (a' := ?_) ?_ ?_
    rotate_left
    · simp only [Act.put, List.setIfInBounds_toArray, List.set_cons_zero, List.set_cons_succ]
      rfl
    clear hHeld
    have hHeld := hnew
    clear hnew
    refine rg_done (by kernel_rfl) ?_
    have hb12 := HD12.out.blk
    have t0 := fsC_b _ _ _ hb12 257 (by omega)
    have e0 : cellAt (.slice A5 xs5.length c5) z s.room 257 = .int .i64 ((n + 1 : Nat) : Int) := by rw [← hzl]; rfl
    rw [e0] at t0
    have t1 := blk_frozen hb12 257
    go_wp2
    have h13 := (HD12.out.set1 257 (.int .i64 (n : Int))).drew
    have u0 := (blk_cell h13.blk 257).trans (blk_one _ _ _ (by rw [fsC_size]; omega))
    have HDG := Aside0.mk h13
    clear h13 hb12
    refine rg_startL (n := 10) (S := fun w' => w'.cell? ⟨p, 257, none⟩ = some (.int .i64 (n : Int))) (bm 10 0) (by kernel_rfl) rfl (by kernel_rfl) (u0) (fun we hwe hHeld => ?_)
    refine rg_take (i := 0) (N := some 41) (v := ?_) (a' := ?_) (bm 10 1) rfl rfl (by kernel_rfl) (fun _ _ _ h => h) hHeld (Or.inl ⟨by rfl, ?_⟩) ?_ ?_
    rotate_left
    · intro w' hw'
      have s1 := hw'
      have hc1 : (n : Int) < 64 := by omega
      have hc2 : (0 : Int) ≤ (n : Int) := by omega
      go_simp
      with_reducible rfl
    rotate_left
    · simp only [Act.put, List.setIfInBounds_toArray, List.set_cons_zero, List.set_cons_succ]
      rfl
    refine rg_take (i := 1) (N := some 42) (v := ?_) (a' := ?_) (bm 10 3) rfl rfl (by kernel_rfl) (fun _ _ _ h => h) hHeld (Or.inl ⟨by rfl, ?_⟩) ?_ ?_
    rotate_left
    · intro w' hw'
      have s1 := hw'
      have hc1 : (n : Int) < 64 := by omega
      have hc2 : (0 : Int) ≤ (n : Int) := by omega
      go_simp
      with_reducible rfl
    rotate_left
    · simp only [Act.put, List.setIfInBounds_toArray, List.set_cons_zero, List.set_cons_succ]
      rfl
    refine rg_take (i := 2) (N := some 43) (v := ?_) (a' := ?_) (bm 10 7) rfl rfl (by kernel_rfl) (fun _ _ _ h => h) hHeld (Or.inl ⟨by rfl, ?_⟩) ?_ ?_
    rotate_left
    · intro w' hw'
      have s1 := hw'
      have hc1 : (n : Int) < 64 := by omega
      have hc2 : (0 : Int) ≤ (n : Int) := by omega
      go_simp
      with_reducible rfl
    rotate_left
    · simp only [Act.put, List.setIfInBounds_toArray, List.set_cons_zero, List.set_cons_succ]
      rfl
    refine rg_take (i := 3) (N := some 44) (v := ?_) (a' := ?_) (bm 10 15) rfl rfl (by kernel_rfl) (fun _ _ _ h => h) hHeld (Or.inl ⟨by rfl, ?_⟩) ?_ ?_
    rotate_left
    · intro w' hw'
      have s1 := hw'
      have hc1 : (n : Int) < 64 := by omega
      have hc2 : (0 : Int) ≤ (n : Int) := by omega
      go_simp
      with_reducible rfl
    rotate_left
    · simp only [Act.put, List.setIfInBounds_toArray, List.set_cons_zero, List.set_cons_succ]
      rfl
    refine rg_take (i := 4) (N := some 45) (v := ?_) (a' := ?_) (bm 10 31) rfl rfl (by kernel_rfl) (fun _ _ _ h => h) hHeld (Or.inl ⟨by rfl, ?_⟩) ?_ ?_
    rotate_left
    · intro w' hw'
      have s1 := hw'
      have hc1 : (n : Int) < 64 := by omega
      have hc2 : (0 : Int) ≤ (n : Int) := by omega
      go_simp
      with_reducible rfl
    rotate_left
    · simp only [Act.put, List.setIfInBounds_toArray, List.set_cons_zero, List.set_cons_succ]
      rfl
    refine rg_take (i := 5) (N := some 46) (v := ?_) (a' := ?_) (bm 10 63) rfl rfl (by kernel_rfl) (fun _ _ _ h => h) hHeld (Or.inl ⟨by rfl, ?_⟩) ?_ ?_
    rotate_left
    · intro w' hw'
      have s1 := hw'
      have hc1 : (n : Int) < 64 := by omega
      have hc2 : (0 : Int) ≤ (n : Int) := by omega
      go_simp
      with_reducible rfl
    rotate_left
    · simp only [Act.put, List.setIfInBounds_toArray, List.set_cons_zero, List.set_cons_succ]
      rfl
    refine rg_take (i := 6) (N := some 47) (v := ?_) (a' := ?_) (bm 10 127) rfl rfl (by kernel_rfl) (fun _ _ _ h => h) hHeld (Or.inl ⟨by rfl, ?_⟩) ?_ ?_
    rotate_left
    · intro w' hw'
      have s1 := hw'
      have hc1 : (n : Int) < 64 := by omega
      have hc2 : (0 : Int) ≤ (n : Int) := by omega
      go_simp
      with_reducible rfl
    rotate_left
    · simp only [Act.put, List.setIfInBounds_toArray, List.set_cons_zero, List.set_cons_succ]
      rfl
    refine rg_take (i := 7) (N := some 48) (v := ?_) (a' := ?_) (bm 10 255) rfl rfl (by kernel_rfl) (fun _ _ _ h => h) hHeld (Or.inl ⟨by rfl, ?_⟩) ?_ ?_
    rotate_left
    · intro w' hw'
      have s1 := hw'
      have hc1 : (n : Int) < 64 := by omega
      have hc2 : (0 : Int) ≤ (n : Int) := by omega
      go_simp
      with_reducible rfl
    rotate_left
    · simp only [Act.put, List.setIfInBounds_toArray, List.set_cons_zero, List.set_cons_succ]
      rfl
    refine rg_take (i := 8) (N := some 49) (v := ?_) (a' := ?_) (bm 10 511) rfl rfl (by kernel_rfl) (fun _ _ _ h => h) hHeld (Or.inl ⟨by rfl, ?_⟩) ?_ ?_
    rotate_left
    · intro w' hw'
      have s1 := hw'
      have hc1 : (n : Int) < 64 := by omega
      have hc2 : (0 : Int) ≤ (n : Int) := by omega
      go_simp
      with_reducible rfl
    rotate_left
    · simp only [Act.put, List.setIfInBounds_toArray, List.set_cons_zero, List.set_cons_succ]
      rfl
    refine rg_ready [9] (by kernel_rfl) (by simp) ?_
    refine rg_one (i := 9) (N := none) (bm 10 1023) rfl rfl (by kernel_rfl) (fun K hK => ?_) rg_nil
    have HDH := Aside0.mk (hwe.out ▸ HDG.out)
    have hb6 := HDH.out.blk
    have x0 := blk_have hb6 (1 + n * 4) (by rw [Array.size_setIfInBounds, fsC_size]; omega)
    have x1 := blk_have hb6 (1 + n * 4 + 1) (by rw [Array.size_setIfInBounds, fsC_size]; omega)
    have x2 := blk_have hb6 (1 + n * 4 + 2) (by rw [Array.size_setIfInBounds, fsC_size]; omega)
    have x3 := blk_have hb6 (1 + n * 4 + 3) (by rw [Array.size_setIfInBounds, fsC_size]; omega)
    have f0 := blk_frozen hb6 (1 + n * 4)
    have f1 := blk_frozen hb6 (1 + n * 4 + 1)
    have f2 := blk_frozen hb6 (1 + n * 4 + 2)
    have f3 := blk_frozen hb6 (1 + n * 4 + 3)
    have h14 := HDH.out.set4 (1 + n * 4) (.int .i64 0) (.int .i64 0) (.slice none 0 0) (.int .i64 0)
    have hb7 := h14.blk
    have hnew := ((blk_cell hb7 257).trans (blk_set4 _ _ _ _ (by omega))).trans (blk_one _ _ _ (by rw [fsC_size]; omega))
    have HDI := Aside0.mk h14
    clear hb6 h14 hb7
    go_simp
    refine hK.out undef _ hnew ?_
    clear hK K
    refine rg_norm (a' := ?_) ?_ ?_
    rotate_left
    · simp only [Act.put, List.setIfInBounds_toArray, List.set_cons_zero, List.set_cons_succ]
      rfl
    clear hHeld
    have hHeld := hnew
    clear hnew
    refine rg_done (by kernel_rfl) ?_
    go_wp2
    go_ret
    refine ⟨rfl, ?_⟩
    have h15 := HDI.out
    obtain ⟨z0, x, hzx⟩ : ∃ z0 x, z = z0 ++ [x] := by
      rcases List.eq_nil_or_concat z with h | ⟨z0, x, h⟩
      · rw [h] at hzl; simp at hzl
      · exact ⟨z0, x, by rw [h, List.concat_eq_append]⟩
    subst hzx
    have hz0 : z0.length = n := by simp at hzl; exact hzl
    rw [fsC_pop (.slice A5 xs5.length c5) z0 s.room x n hz0 h64, rowsOf_push] at h15
    have h16 := SB.sepPop (h15.pick4 [2, 0, 1])
    have h17 := h16.pick4 [2, 3, 1]
    have hzm : s.fr.dropLast = z0.map Prod.fst := by rw [← show List.map Prod.fst (z0 ++ [x]) = s.fr from hz, List.map_append]; simp
    have hkk := HK.out
    rw [HXL.out, HX5.out]
    exact SB.close_ (s := { s with v := xs5, fr := s.fr.dropLast }) hzm.symm ⟨hkk.room0, hkk.room, by have := hkk.len; simp; omega, fun f hf => hkk.base f (List.dropLast_subset _ hf)⟩ h17
  refine rg_one (i := 6) (N := some 28) (bm 13 367) rfl rfl (by kernel_rfl) (fun K hK => ?_) ?_
  · skip
    have HD := Aside0.mk (hwd.out ▸ HDF.out)
    have ha := AtB_of (s := s) HD.out.blk hz HK.out
    rw [HB.out] at ha
    go_simp
    go_at_call 35
    with_reducible refine (frBase p _ (b : Int) _ ha).mono ?_
    rintro e wx6r4 ⟨rfl, ⟨nd6, rfl⟩⟩
    have HD6 := Aside0.mk (HD.out.drewN nd6)
    have hnew : True := trivial
    clear ha
    go_wp2_with fail
    refine hK.out _ _ hnew ?_
    clear hK K
    refine rg_norm (a' := ?_) ?_ ?_
    rotate_left
    · simp only [Act.put, List.setIfInBounds_toArray, List.set_cons_zero, List.set_cons_succ]
      rfl
    clear hHeld
    have hHeld := hnew
    clear hnew
    refine rg_ready [4] (by kernel_rfl) (by simp) ?_
    refine rg_one (i := 4) (N := some 26) (bm 13 383) rfl rfl (by kernel_rfl) (fun K hK => ?_) rg_nil
    have HD := Aside0.mk (hwd.out ▸ HDF.out)
    have s0 : wd.cell? ⟨p, 0, none⟩ = some (.slice A0 m c0) := fsC_b _ _ _ HD.out.blk 0 (by omega)
    refine value_ (w1 := ?_) (v := ?_) (by rfl) rfl ?_ ?_
    rotate_left 2
    · go_simp
      constructor
      · rfl
      · rfl
    have hnew : True := trivial
    refine hK.out _ _ hnew ?_
    clear hK K
    refine rg_norm (a' := ?_) ?_ ?_
    rotate_left
    · simp only [Act.put, List.setIfInBounds_toArray, List.set_cons_zero, List.set_cons_succ]
      rfl
    clear hHeld
    have hHeld := hnew
    clear hnew
    refine rg_take (i := 7) (N := some 29) (v := ?_) (a' := ?_) (bm 13 511) rfl rfl (by kernel_rfl) (fun _ _ _ h => h) hHeld (Or.inl ⟨by rfl, ?_⟩) ?_ ?_
    rotate_left
    · intro w' hw'
      go_simp
      with_reducible rfl
    rotate_left
    · simp only [Act.put, List.setIfInBounds_toArray, List.set_cons_zero, List.set_cons_succ]
      rfl
    refine rg_ready [9] (by kernel_rfl) (by simp) ?_
    refine rg_one (i := 9) (N := some 31) (bm 13 1023) rfl rfl (by kernel_rfl) (fun K hK => ?_) rg_nil
    have hq1 := SB.rowTake (HD6.out.pick4 [1, 0, 2, 3]) b (by omega)
    have htk : (s.v.take m).take b = s.v.take b := by rw [List.take_take, Nat.min_eq_left hbm]
    rw [htk] at hq1
    obtain ⟨AL', cL', eL, _, hCL⟩ := (hq1.pick4 [3]).reads
    injection eL with eL1 eL2 eL3
    subst eL1
    subst eL3
    refine SB.appRowsStep (ys := xsL) hq1 (by rfl) (.tmp 29) (.tmp 30) 22 (.int .u64 0) 8 rfl Try.underlying22 info35 rfl (by decide) (by decide) rfl rfl (fun _ _ h => h) hCL (by simp; omega) ?_
    intro v5 wx6x4x9r4 hs5
    obtain ⟨A5, c5, rfl, hc5, _⟩ := hs5.reads
    obtain ⟨xs5, hxs5⟩ : ∃ xs, s.v.take b ++ xsL = xs := ⟨_, rfl⟩
    rw [hxs5] at hs5
    have HX5 := Aside0.mk hxs5
    rw [hxs5]
    have HD9 := Aside0.mk hs5.swap
    have hnew : True := trivial
    clear hq1 htk hCL hs5 hxs5
    refine hK.out _ _ hnew ?_
    clear hK K
    refine rg_norm (a' := ?_) ?_ ?_
    rotate_left
    · simp only [Act.put, List.setIfInBounds_toArray, List.set_cons_zero, List.set_cons_succ]
      rfl
    clear hHeld
    have hHeld := hnew
    clear hnew
    refine rg_take (i := 10) (N := some 32) (v := ?_) (a' := ?_) (bm 13 2047) rfl rfl (by kernel_rfl) (fun _ _ _ h => h) hHeld (Or.inl ⟨by rfl, ?_⟩) ?_ ?_
    rotate_left
    · intro w' hw'
      go_simp
      with_reducible rfl
    rotate_left
    · simp only [Act.put, List.setIfInBounds_toArray, List.set_cons_zero, List.set_cons_succ]
      rfl
    refine rg_take (i := 11) (N := some 33) (v := ?_) (a' := ?_) (bm 13 4095) rfl rfl (by kernel_rfl) (fun _ _ _ h => h) hHeld (Or.inl ⟨by rfl, ?_⟩) ?_ ?_
    rotate_left
    · intro w' hw'
      go_simp
      with_reducible rfl
    rotate_left
    · simp only [Act.put, List.setIfInBounds_toArray, List.set_cons_zero, List.set_cons_succ]
      rfl
    refine rg_ready [12] (by kernel_rfl) (by simp) ?_
    refine rg_one (i := 12) (N := none) (bm 13 8191) rfl rfl (by kernel_rfl) (fun K hK => ?_) rg_nil
    have hb9 := HD9.out.blk
    have x0 := fsC_b _ _ _ hb9 0 (by omega)
    have f0 := blk_frozen hb9 0
    have h12 := HD9.out.set1 0 (.slice A5 xs5.length c5)
    rw [fsC_set0] at h12
    have HD12 := Aside0.mk h12
    have hnew : True := trivial
    clear hb9 h12
    go_simp
    refine hK.out undef _ hnew ?_
    clear hK K
    refine rg_norm (a' := ?_) ?_ ?_
    rotate_left
    · simp only [Act.put, List.setIfInBounds_toArray, List.set_cons_zero, List.set_cons_succ]
      rfl
    clear hHeld
    have hHeld := hnew
    clear hnew
    refine rg_done (by kernel_rfl) ?_
    have hb12 := HD12.out.blk
    have t0 := fsC_b _ _ _ hb12 257 (by omega)
    have e0 : cellAt (.slice A5 xs5.length c5) z s.room 257 = .int .i64 ((n + 1 : Nat) : Int) := by rw [← hzl]; rfl
    rw [e0] at t0
    have t1 := blk_frozen hb12 257
    go_wp2
    have h13 := (HD12.out.set1 257 (.int .i64 (n : Int))).drew
    have u0 := (blk_cell h13.blk 257).trans (blk_one _ _ _ (by rw [fsC_size]; omega))
    have HDG := Aside0.mk h13
    clear h13 hb12
    refine rg_startL (n := 10) (S := fun w' => w'.cell? ⟨p, 257, none⟩ = some (.int .i64 (n : Int))) (bm 10 0) (by kernel_rfl) rfl (by kernel_rfl) (u0) (fun we hwe hHeld => ?_)
    refine rg_take (i := 0) (N := some 41) (v := ?_) (a' := ?_) (bm 10 1) rfl rfl (by kernel_rfl) (fun _ _ _ h => h) hHeld (Or.inl ⟨by rfl, ?_⟩) ?_ ?_
    rotate_left
    · intro w' hw'
      have s1 := hw'
      have hc1 : (n : Int) < 64 := by omega
      have hc2 : (0 : Int) ≤ (n : Int) := by omega
      go_simp
      with_reducible rfl
    rotate_left
    · simp only [Act.put, List.setIfInBounds_toArray, List.set_cons_zero, List.set_cons_succ]
      rfl
    refine rg_take (i := 1) (N := some 42) (v := ?_) (a' := ?_) (bm 10 3) rfl rfl (by kernel_rfl) (fun _ _ _ h => h) hHeld (Or.inl ⟨by rfl, ?_⟩) ?_ ?_
    rotate_left
    · intro w' hw'
      have s1 := hw'
      have hc1 : (n : Int) < 64 := by omega
      have hc2 : (0 : Int) ≤ (n : Int) := by omega
      go_simp
      with_reducible rfl
    rotate_left
    · simp only [Act.put, List.setIfInBounds_toArray, List.set_cons_zero, List.set_cons_succ]
      rfl
    refine rg_take (i := 2) (N := some 43) (v := ?_) (a' := ?_) (bm 10 7) rfl rfl (by kernel_rfl) (fun _ _ _ h => h) hHeld (Or.inl ⟨by rfl, ?_⟩) ?_ ?_
    rotate_left
    · intro w' hw'
      have s1 := hw'
      have hc1 : (n : Int) < 64 := by omega
      have hc2 : (0 : Int) ≤ (n : Int) := by omega
      go_simp
      with_reducible rfl
    rotate_left
    · simp only [Act.put, List.setIfInBounds_toArray, List.set_cons_zero, List.set_cons_succ]
      rfl
    refine rg_take (i := 3) (N := some 44) (v := ?_) (a' := ?_) (bm 10 15) rfl rfl (by kernel_rfl) (fun _ _ _ h => h) hHeld (Or.inl ⟨by rfl, ?_⟩) ?_ ?_
    rotate_left
    · intro w' hw'
      have s1 := hw'
      have hc1 : (n : Int) < 64 := by omega
      have hc2 : (0 : Int) ≤ (n : Int) := by omega
      go_simp
      with_reducible rfl
    rotate_left
    · simp only [Act.put, List.setIfInBounds_toArray, List.set_cons_zero, List.set_cons_succ]
      rfl
    refine rg_take (i := 4) (N := some 45) (v := ?_) (a' := ?_) (bm 10 31) rfl rfl (by kernel_rfl) (fun _ _ _ h => h) hHeld (Or.inl ⟨by rfl, ?_⟩) ?_ ?_
    rotate_left
    · intro w' hw'
      have s1 := hw'
      have hc1 : (n : Int) < 64 := by omega
      have hc2 : (0 : Int) ≤ (n : Int) := by omega
      go_simp
      with_reducible rfl
    rotate_left
    · simp only [Act.put, List.setIfInBounds_toArray, List.set_cons_zero, List.set_cons_succ]
      rfl
    refine rg_take (i := 5) (N := some 46) (v := ?_) (a' := ?_) (bm 10 63) rfl rfl (by kernel_rfl) (fun _ _ _ h => h) hHeld (Or.inl ⟨by rfl, ?_⟩) ?_ ?_
    rotate_left
    · intro w' hw'
      have s1 := hw'
      have hc1 : (n : Int) < 64 := by omega
      have hc2 : (0 : Int) ≤ (n : Int) := by omega
      go_simp
      with_reducible rfl
    rotate_left
    · simp only [Act.put, List.setIfInBounds_toArray, List.set_cons_zero, List.set_cons_succ]
      rfl
    refine rg_take (i := 6) (N := some 47) (v := ?_) (a' := ?_) (bm 10 127) rfl rfl (by kernel_rfl) (fun _ _ _ h => h) hHeld (Or.inl ⟨by rfl, ?_⟩) ?_ ?_
    rotate_left
    · intro w' hw'
      have s1 := hw'
      have hc1 : (n : Int) < 64 := by omega
      have hc2 : (0 : Int) ≤ (n : Int) := by omega
      go_simp
      with_reducible rfl
    rotate_left
    · simp only [Act.put, List.setIfInBounds_toArray, List.set_cons_zero, List.set_cons_succ]
      rfl
    refine rg_take (i := 7) (N := some 48) (v := ?_) (a' := ?_) (bm 10 255) rfl rfl (by kernel_rfl) (fun _ _ _ h => h) hHeld (Or.inl ⟨by rfl, ?_⟩) ?_ ?_
    rotate_left
    · intro w' hw'
      have s1 := hw'
      have hc1 : (n : Int) < 64 := by omega
      have hc2 : (0 : Int) ≤ (n : Int) := by omega
      go_simp
      with_reducible rfl
    rotate_left
    · simp only [Act.put, List.setIfInBounds_toArray, List.set_cons_zero, List.set_cons_succ]
      rfl
    refine rg_take (i := 8) (N := some 49) (v := ?_) (a' := ?_) (bm 10 511) rfl rfl (by kernel_rfl) (fun _ _ _ h => h) hHeld (Or.inl ⟨by rfl, ?_⟩) ?_ ?_
    rotate_left
    · intro w' hw'
      have s1 := hw'
      have hc1 : (n : Int) < 64 := by omega
      have hc2 : (0 : Int) ≤ (n : Int) := by omega
      go_simp
      with_reducible rfl
    rotate_left
    · simp only [Act.put, List.setIfInBounds_toArray, List.set_cons_zero, List.set_cons_succ]
      rfl
    refine rg_ready [9] (by kernel_rfl) (by simp) ?_
    refine rg_one (i := 9) (N := none) (bm 10 1023) rfl rfl (by kernel_rfl) (fun K hK => ?_) rg_nil
    have HDH := Aside0.mk (hwe.out ▸ HDG.out)
    have hb6 := HDH.out.blk
    have x0 := blk_have hb6 (1 + n * 4) (by rw [Array.size_setIfInBounds, fsC_size]; omega)
    have x1 := blk_have hb6 (1 + n * 4 + 1) (by rw [Array.size_setIfInBounds, fsC_size]; omega)
    have x2 := blk_have hb6 (1 + n * 4 + 2) (by rw [Array.size_setIfInBounds, fsC_size]; omega)
    have x3 := blk_have hb6 (1 + n * 4 + 3) (by rw [Array.size_setIfInBounds, fsC_size]; omega)
    have f0 := blk_frozen hb6 (1 + n * 4)
    have f1 := blk_frozen hb6 (1 + n * 4 + 1)
    have f2 := blk_frozen hb6 (1 + n * 4 + 2)
    have f3 := blk_frozen hb6 (1 + n * 4 + 3)
    have h14 := HDH.out.set4 (1 + n * 4) (.int .i64 0) (.int .i64 0) (.slice none 0 0) (.int .i64 0)
    have hb7 := h14.blk
    have hnew := ((blk_cell hb7 257).trans (blk_set4 _ _ _ _ (by omega))).trans (blk_one _ _ _ (by rw [fsC_size]; omega))
    have HDI := Aside0.mk h14
    clear hb6 h14 hb7
    go_simp
    refine hK.out undef _ hnew ?_
    clear hK K
    refine rg_norm (a' := ?_) ?_ ?_
    rotate_left
    · simp only [Act.put, List.setIfInBounds_toArray, List.set_cons_zero, List.set_cons_succ]
      rfl
    clear hHeld
    have hHeld := hnew
    clear hnew
    refine rg_done (by kernel_rfl) ?_
    go_wp2
    go_ret
    refine ⟨rfl, ?_⟩
    have h15 := HDI.out
    obtain ⟨z0, x, hzx⟩ : ∃ z0 x, z = z0 ++ [x] := by
      rcases List.eq_nil_or_concat z with h | ⟨z0, x, h⟩
      · rw [h] at hzl; simp at hzl
      · exact ⟨z0, x, by rw [h, List.concat_eq_append]⟩
    subst hzx
    have hz0 : z0.length = n := by simp at hzl; exact hzl
    rw [fsC_pop (.slice A5 xs5.length c5) z0 s.room x n hz0 h64, rowsOf_push] at h15
    have h16 := SB.sepPop (h15.pick4 [2, 0, 1])
    have h17 := h16.pick4 [2, 3, 1]
    have hzm : s.fr.dropLast = z0.map Prod.fst := by rw [← show List.map Prod.fst (z0 ++ [x]) = s.fr from hz, List.map_append]; simp
    have hkk := HK.out
    rw [HXL.out, HX5.out]
    exact SB.close_ (s := { s with v := xs5, fr := s.fr.dropLast }) hzm.symm ⟨hkk.room0, hkk.room, by have := hkk.len; simp; omega, fun f hf => hkk.base f (List.dropLast_subset _ hf)⟩ h17
  exact rg_nil
end Go.Proofs.Ytbbgkelcdooabaa.G
/- Package frames' stacks: Top, Local, SetLocal, Go. -/
namespace Go.Proofs.Ytbbgkelcdooabaa.G
open Go.RowKit Go.Proofs.YtbbgkelcdooabaaW.PrintWords Go.Proofs.YtbbgkelcdooabaaW.PrintLast Go.Proofs.YtbbgkelcdooabaaW.PrintMore
set_option linter.unusedVariables false
set_option linter.unusedSimpArgs false
theorem SB.boxE {w0 w : World} {L : List As} (h : SB w0 w L) (cs : Array Value) (t : TypeId) : ∃ p, p = w.heap.size ∧ SB w0 (w.alloc (.cells cs t)) (Box p cs t :: L) := ⟨_, rfl, h.box cs t⟩
/-- A frame of its own. -/
theorem frOwn {w0 w : World} {L : List As} (hS : SB w0 w L) (f pc b : Int) (A : Option Addr) (c : Nat) (l : List Int) (hC : Kd.C (Kd.int .u64) w A l.length l) (hc : l.length ≤ c) (hl : l.length ≤ 1000000) :
    Calls Try.prog 40 #[.agg #[.int .i64 f, .int .i64 pc, .slice A l.length c, .int .i64 b]] w fun e w' => ∃ v, e = .returned (.agg #[.int .i64 f, .int .i64 pc, v, .int .i64 b]) ∧ SB w0 w' (Row (Kd.int .u64) 35 v l :: L) := by
  have h1 := (hS.box #[.int .i64 f, .int .i64 pc, .slice A l.length c, .int .i64 b] 58).box #[.int .i64 0, .int .i64 0, .slice none 0 0, .int .i64 0] 58
  rw [World.size_alloc] at h1
  have HB := Aside0.mk h1
  have HC := Aside0.mk (Kd.C_below hC (below_alloc (below_alloc (Below.refl _ _) (.cells #[.int .i64 f, .int .i64 pc, .slice A l.length c, .int .i64 b] 58)) (.cells #[.int .i64 0, .int .i64 0, .slice none 0 0, .int .i64 0] 58)))
  clear h1 hS hC
  go_enter Try.func40, Try.ntmps40
  go_wp2_with (go_at_call 36; go_must ((with_reducible refine (cloneU HB.out A c l HC.out hc hl).mono ?_); rintro e w1 ⟨v1, rfl, hs⟩; obtain ⟨A1, c1, rfl, _, _⟩ := hs.reads; have hb0 := (hs.pick3 [2]).blk; have hb1 := (hs.pick3 [1]).blk; have s0 := blk_cell hb0 0; have s1 := blk_cell hb0 1; have s2 := blk_cell hb0 2; have s3 := blk_cell hb0 3; have f0 := blk_frozen hb0 2; have u0 := blk_cell hb1 0; have u1 := blk_cell hb1 1; have u2 := blk_cell hb1 2; have u3 := blk_cell hb1 3; have g0 := blk_frozen hb1 0; have g1 := blk_frozen hb1 1; have g2 := blk_frozen hb1 2; have g3 := blk_frozen hb1 3; have HS1 := Aside0.mk hs; clear hs hb0 hb1))
  refine bodyPost_ret (v := .agg #[.int .i64 f, .int .i64 pc, .slice A1 l.length c1, .int .i64 b]) (by simp [results, Try.results40, go_sem, *]) rfl ?_
  refine ⟨_, rfl, ?_⟩
  have h2 := (HS1.out.pick3 [2, 0, 1]).set1 2 (.slice A1 l.length c1)
  have h3 := (h2.pick3 [2, 1, 0]).set4 0 (.int .i64 f) (.int .i64 pc) (.slice A1 l.length c1) (.int .i64 b)
  exact h3.pick3 [1]
/-- The top frame's cells. -/
theorem frTopCells {w0 w : World} {L : List As} {p : Nat} {s : FS} (hS : SB w0 w (FO p s :: L)) {fr0 : List Fm} {x : Fm} (hx : s.fr = fr0 ++ [x]) :
    fr0.length < 64 ∧ w.cell? ⟨p, 257, none⟩ = some (.int .i64 ((fr0.length + 1 : Nat) : Int)) ∧ ∃ A c, w.cell? ⟨p, 1 + fr0.length * 4, none⟩ = some (.int .i64 x.f) ∧ w.cell? ⟨p, 1 + fr0.length * 4 + 1, none⟩ = some (.int .i64 x.pc) ∧
      w.cell? ⟨p, 1 + fr0.length * 4 + 2, none⟩ = some (.slice A x.loc.length c) ∧ w.cell? ⟨p, 1 + fr0.length * 4 + 3, none⟩ = some (.int .i64 x.base) ∧ Kd.C (Kd.int .u64) w A x.loc.length x.loc ∧ x.loc.length ≤ c := by
  have hn : s.fr.length = fr0.length + 1 := by rw [hx]; simp
  obtain ⟨h64, h257⟩ := fr_top hS _ hn
  refine ⟨h64, h257, ?_⟩
  obtain ⟨v, z, hz, hk, h1⟩ := hS.open_
  have hb := h1.blk
  obtain ⟨z0, y, rfl⟩ : ∃ z0 y, z = z0 ++ [y] := by
    rcases List.eq_nil_or_concat z with h | ⟨z0, y, h⟩
    · rw [h, hx] at hz; simp at hz
    · exact ⟨z0, y, by rw [h, List.concat_eq_append]⟩
  rw [List.map_append, hx] at hz
  obtain ⟨hz1, hz2⟩ := List.append_inj' hz rfl
  have hl0 : z0.length = fr0.length := by rw [← hz1]; simp
  have hy : y.1 = x := by simpa using hz2
  rw [rowsOf_push] at h1
  have h2 := SB.sepPop (h1.pick3 [2, 0, 1])
  rw [hy] at h2
  obtain ⟨A, c, e, hc, hC⟩ := h2.reads
  have hg := fun j hj => (blk_cell hb (1 + fr0.length * 4 + j)).trans (fsC_fr v (z0 ++ [y]) s.room fr0.length j h64 hj (by simp; omega))
  have hget : (z0 ++ [y])[fr0.length]'(by simp; omega) = y := by
    rw [List.getElem_append_right (by omega)]
    simp
  simp only [hget] at hg
  have e4 : fm4 y = [.int .i64 x.f, .int .i64 x.pc, .slice A x.loc.length c, .int .i64 x.base] := by unfold fm4; rw [hy, e]
  simp only [e4] at hg
  exact ⟨A, c, hg 0 (by omega), hg 1 (by omega), hg 2 (by omega), hg 3 (by omega), hC, hc⟩
theorem frTopNo {w0 w : World} {L : List As} {p : Nat} {s : FS} (hS : SB w0 w (FO p s :: L)) (hf : s.fr = []) :
    Calls Try.prog 27 #[.pointer (some ⟨p, 0, none⟩)] w fun e w' => e = .returned (.tuple #[.agg #[.int .i64 0, .int .i64 0, .slice none 0 0, .int .i64 0], .bool false]) ∧ SB w0 w' (FO p s :: L) := by
  obtain ⟨v, z, hz, hk, h1⟩ := hS.open_
  have hb := h1.blk
  have hzl : z.length = 0 := by have := congrArg List.length hz; rw [hf] at this; simpa using this
  have hn : w.cell? ⟨p, 257, none⟩ = some (.int .i64 0) := by rw [fsC_b _ _ _ hb 257 (by omega)]; unfold cellAt; rw [hzl]; rfl
  have h2 := hS.box #[.int .i64 0, .int .i64 0, .slice none 0 0, .int .i64 0] 58
  have hc := pw_cell_below (below_alloc (Below.refl _ w) (.cells #[.int .i64 0, .int .i64 0, .slice none 0 0, .int .i64 0] 58)) hn
  have ht := Aside0.mk (frTop0 p _ hc)
  have HS := Aside0.mk h2
  clear hS h1 hb hzl h2 hc
  go_enter Try.func27, Try.ntmps27
  go_wp2_with (go_at_call 34; go_must ((with_reducible refine (ht.out).mono ?_)); rintro e w' ⟨rfl, ⟨nd, rfl⟩⟩)
  refine bodyPost_ret (v := .tuple #[.agg #[.int .i64 0, .int .i64 0, .slice none 0 0, .int .i64 0], .bool false]) (by simp [results, Try.results27, go_sem, *]) rfl ?_
  refine ⟨rfl, ?_⟩
  have h3 := ((HS.out.drewN nd).set4 0 (.int .i64 0) (.int .i64 0) (.slice none 0 0) (.int .i64 0))
  exact h3.drop
theorem frTopOk {w0 w : World} {L : List As} {p : Nat} {s : FS} (hS : SB w0 w (FO p s :: L)) {fr0 : List Fm} {x : Fm} (hx : s.fr = fr0 ++ [x]) (hl : x.loc.length ≤ 1000000) :
    Calls Try.prog 27 #[.pointer (some ⟨p, 0, none⟩)] w fun e w' => ∃ v, e = .returned (.tuple #[.agg #[.int .i64 x.f, .int .i64 x.pc, v, .int .i64 x.base], .bool true]) ∧ SB w0 w' (Row (Kd.int .u64) 35 v x.loc :: FO p s :: L) := by
  have h2 := hS.box #[.int .i64 0, .int .i64 0, .slice none 0 0, .int .i64 0] 58
  obtain ⟨h64, hn, A, c, s0, s1, s2, s3, hC, hc⟩ := frTopCells h2.swap hx
  have ht := Aside0.mk (frTop p _ _ h64 hn)
  have HS := Aside0.mk h2
  have HC := Aside0.mk hC
  clear hS h2 hC hx
  go_enter Try.func27, Try.ntmps27
  go_wp2_with (first
    | (go_at_call 34; go_must ((with_reducible refine (ht.out).mono ?_)); rintro e w' ⟨rfl, ⟨nd, rfl⟩⟩)
    | (go_at_call 40; go_must ((with_reducible refine (frOwn (HS.out.drewN nd) x.f x.pc x.base A c x.loc (Kd.C_below HC.out (pw_below_drewN (Below.refl _ _) _)) hc hl).mono ?_); rintro e w1 ⟨v1, rfl, hs⟩; obtain ⟨A1, c1, rfl, _, _⟩ := hs.reads; have hb1 := (hs.pick3 [1]).blk; have u0 := blk_cell hb1 0; have u1 := blk_cell hb1 1; have u2 := blk_cell hb1 2; have u3 := blk_cell hb1 3; have g0 := blk_frozen hb1 0; have g1 := blk_frozen hb1 1; have g2 := blk_frozen hb1 2; have g3 := blk_frozen hb1 3; have HS1 := Aside0.mk hs; clear hs hb1)))
  refine bodyPost_ret (v := .tuple #[.agg #[.int .i64 x.f, .int .i64 x.pc, .slice A1 x.loc.length c1, .int .i64 x.base], .bool true]) (by simp [results, Try.results27, go_sem, *]) rfl ?_
  refine ⟨_, rfl, ?_⟩
  have h3 := (HS1.out.pick3 [1, 0, 2]).set4 0 (.int .i64 x.f) (.int .i64 x.pc) (.slice A1 x.loc.length c1) (.int .i64 x.base)
  exact h3.drop
theorem SB.rowAt {w0 w : World} {L : List As} {k : IntKind} {e : Nat} {v : Value} {xs : List Int} (h : SB w0 w (Row (Kd.int k) e v xs :: L)) (i : Nat) (hi : i < xs.length) :
    ∃ g c, v = .slice (some ⟨g, 0, none⟩) xs.length c ∧ w.cell? ⟨g, i, none⟩ = some (.int k xs[i]) ∧ w.frozen? ⟨g, i, none⟩ = false ∧
      ∀ x, SB w0 (w.setCell ⟨g, i, none⟩ (.int k x)) (Row (Kd.int k) e (.slice (some ⟨g, 0, none⟩) xs.length c) (xs.set i x) :: L) := by
  obtain ⟨F, hF, hge, K⟩ := h.frame
  have ho := Kd.own_of_R hF.1
  rcases ho.2 with ⟨rfl, h0⟩ | ⟨g, cap, cur, rfl, hbg, hg, hnc, hcm, hcs, htake⟩
  · omega
  obtain ⟨A', c', e2, _, hC⟩ := Kd.R_reads hF.1
  injection e2 with q1 q2 q3
  obtain ⟨ad, e1, hcell⟩ := row_cell hC hi
  rw [← q1] at e1
  injection e1 with e1
  subst e1
  refine ⟨g, cap, rfl, ?_, blk_frozen hg i, fun x => ?_⟩
  · have : (⟨g, 0, none⟩ : Addr).add i = ⟨g, i, none⟩ := by unfold Addr.add; split <;> simp_all
    rw [this] at hcell
    exact hcell
  · have h2 := Kd.R_put hF.1 (i : Int) x
    simp only [Int.toNat_natCast] at h2
    exact K _ (Row (Kd.int k) e _ _) F ⟨h2.1, fun b hb => by have := hF.2 b hb; simpa [World.setCell] using this⟩ ((Fr.refl w F).setCell (p := ⟨g, i, none⟩) (.inl (hF.1.1 g rfl)) _) (fun b hb => .inl hb)
/-- The top frame's locals, to be set. -/
theorem frTopLoc {w0 w : World} {L : List As} {p : Nat} {s : FS} (hS : SB w0 w (FO p s :: L)) {fr0 : List Fm} {x : Fm} (hx : s.fr = fr0 ++ [x]) (i : Nat) (hi : i < x.loc.length) :
    fr0.length < 64 ∧ w.cell? ⟨p, 257, none⟩ = some (.int .i64 ((fr0.length + 1 : Nat) : Int)) ∧ ∃ g c, w.cell? ⟨p, 1 + fr0.length * 4 + 2, none⟩ = some (.slice (some ⟨g, 0, none⟩) x.loc.length c) ∧ w.cell? ⟨g, i, none⟩ = some (.int .u64 x.loc[i]) ∧ w.frozen? ⟨g, i, none⟩ = false ∧
      ∀ u, SB w0 (w.setCell ⟨g, i, none⟩ (.int .u64 u)) (FO p { s with fr := fr0 ++ [{ x with loc := x.loc.set i u }] } :: L) := by
  obtain ⟨h64, h257, A, c, _, _, q2, _⟩ := frTopCells hS hx
  obtain ⟨v, z, hz, hk, h1⟩ := hS.open_
  have hb := h1.blk
  obtain ⟨z0, y, rfl⟩ : ∃ z0 y, z = z0 ++ [y] := by
    rcases List.eq_nil_or_concat z with h | ⟨z0, y, h⟩
    · rw [h, hx] at hz; simp at hz
    · exact ⟨z0, y, by rw [h, List.concat_eq_append]⟩
  rw [List.map_append, hx] at hz
  obtain ⟨hz1, hz2⟩ := List.append_inj' hz rfl
  have hl0 : z0.length = fr0.length := by rw [← hz1]; simp
  have hy : y.1 = x := by simpa using hz2
  obtain ⟨y1, y2⟩ := y
  obtain rfl : y1 = x := hy
  rw [rowsOf_push] at h1
  dsimp only at h1
  have h2 := SB.sepPop (h1.pick3 [2, 0, 1])
  obtain ⟨g, c', rfl, hcell, hfro, hset⟩ := h2.rowAt i hi
  have hlt : fr0.length < (z0 ++ [(y1, Value.slice (some ⟨g, 0, none⟩) y1.loc.length c')]).length := by rw [List.length_append, hl0]; exact Nat.lt_succ_self _
  have hg := fun j hj => (blk_cell hb (1 + fr0.length * 4 + j)).trans (fsC_fr v _ s.room fr0.length j h64 hj hlt)
  have hget : (z0 ++ [(y1, Value.slice (some ⟨g, 0, none⟩) y1.loc.length c')])[fr0.length]'hlt = (y1, .slice (some ⟨g, 0, none⟩) y1.loc.length c') := by
    rw [List.getElem_append_right (by omega)]
    simp
  simp only [hget] at hg
  have hg := hg 2 (by omega)
  refine ⟨h64, h257, g, c', hg, hcell, hfro, fun u => ?_⟩
  have h3 := hset u
  have h4 := SB.sepPush h3
  have h5 : SB w0 (w.setCell ⟨g, i, none⟩ (.int .u64 u)) (Box p (fsC v (z0 ++ [(y1, .slice (some ⟨g, 0, none⟩) y1.loc.length c')]) s.room) 72 :: Row (Kd.int .u64) 35 v s.v :: Sep (rowsOf z0 ++ [Row (Kd.int .u64) 35 (.slice (some ⟨g, 0, none⟩) y1.loc.length c') (y1.loc.set i u)]) :: L) := h4.pick3 [1, 2, 0]
  have e2 : rowsOf (z0 ++ [({ y1 with loc := y1.loc.set i u }, Value.slice (some ⟨g, 0, none⟩) y1.loc.length c')]) = rowsOf z0 ++ [Row (Kd.int .u64) 35 (.slice (some ⟨g, 0, none⟩) y1.loc.length c') (y1.loc.set i u)] := rowsOf_push _ _
  rw [← e2] at h5
  have e3 : fsC v (z0 ++ [(y1, Value.slice (some ⟨g, 0, none⟩) y1.loc.length c')]) s.room = fsC v (z0 ++ [({ y1 with loc := y1.loc.set i u }, Value.slice (some ⟨g, 0, none⟩) y1.loc.length c')]) s.room := by
    refine fsC_ext (by simp [fsC]) (fun j hj => ?_)
    rw [fsC_at _ _ _ _ hj]
    unfold cellAt
    by_cases hk : (j - 1) / 4 < z0.length
    · rw [List.getElem?_append_left hk, List.getElem?_append_left hk]; simp
    · by_cases hk2 : (j - 1) / 4 = z0.length
      · rw [hk2, List.getElem?_append_right (Nat.le_refl _), List.getElem?_append_right (Nat.le_refl _), Nat.sub_self]; simp; rfl
      · rw [List.getElem?_eq_none (by simp; omega), List.getElem?_eq_none (by simp; omega)]; simp
  rw [e3] at h5
  refine SB.close_ (s := { s with fr := fr0 ++ [{ y1 with loc := y1.loc.set i u }] }) (by rw [List.map_append, hz1]; rfl) ⟨hk.room0, hk.room, by have := hk.len; rw [hx] at this; simpa using this, fun f hf => ?_⟩ h5
  rcases List.mem_append.1 hf with hf | hf
  · exact hk.base f (by rw [hx]; exact List.mem_append_left _ hf)
  · rw [List.mem_singleton.1 hf]
    exact hk.base y1 (by rw [hx]; simp)
end Go.Proofs.Ytbbgkelcdooabaa.G
