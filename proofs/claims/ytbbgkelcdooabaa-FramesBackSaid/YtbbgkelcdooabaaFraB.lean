/- Package frames' stacks as objects: their cells. -/
import Derived.Test.YtbbgkelcdooabaaFraA
namespace Go.Proofs.Ytbbgkelcdooabaa.G
open Go.RowKit Go.Proofs.YtbbgkelcdooabaaW.PrintWords Go.Proofs.YtbbgkelcdooabaaW.PrintLast Go.Proofs.YtbbgkelcdooabaaW.PrintMore
attribute [local go_sem] max2_int min2_int max_two min_two max_three min_three max_four min_four   -- for this text's walks alone
set_option linter.unusedVariables false
set_option linter.unusedSimpArgs false
/-- A frame. -/
structure Fm where
  f : Int
  pc : Int
  loc : List Int
  base : Int
/-- A stack: values, frames, for how many there is room. -/
structure FS where
  v : List Int
  fr : List Fm
  room : Int
def fm4 (x : Fm × Value) : List Value := [.int .i64 x.1.f, .int .i64 x.1.pc, x.2, .int .i64 x.1.base]
def fz4 : List Value := [.int .i64 0, .int .i64 0, .slice none 0 0, .int .i64 0]
def cellAt (v : Value) (z : List (Fm × Value)) (r : Int) (i : Nat) : Value :=
  if i = 0 then v else if i = 257 then .int .i64 (z.length : Int) else if i = 258 then .int .i64 r
  else ((z[(i - 1) / 4]?.map fm4).getD fz4).getD ((i - 1) % 4) (.slice none 0 0)
def fsC (v : Value) (z : List (Fm × Value)) (r : Int) : Array Value := Array.ofFn fun i : Fin 259 => cellAt v z r i.1
theorem fsC_at (v : Value) (z : List (Fm × Value)) (r : Int) (i : Nat) (hi : i < 259) : (fsC v z r)[i]? = some (cellAt v z r i) := by
  unfold fsC
  rw [Array.getElem?_ofFn, dif_pos hi]
theorem fsC_ext {v : Value} {z : List (Fm × Value)} {r : Int} {cs : Array Value} (hs : cs.size = 259) (h : ∀ i, i < 259 → cs[i]? = some (cellAt v z r i)) : cs = fsC v z r := by
  apply Array.ext_getElem?
  intro i
  by_cases hi : i < 259
  · rw [h i hi, fsC_at _ _ _ _ hi]
  · rw [Array.getElem?_eq_none (by omega), Array.getElem?_eq_none (by simp [fsC]; omega)]
theorem fsC_size (v : Value) (z : List (Fm × Value)) (r : Int) : (fsC v z r).size = 259 := by simp [fsC]
theorem fsC_fr (v : Value) (z : List (Fm × Value)) (r : Int) (k j : Nat) (hk : k < 64) (hj : j < 4) (hz : k < z.length) : (fsC v z r)[1 + k * 4 + j]? = (fm4 z[k])[j]? := by
  rw [fsC_at _ _ _ _ (by omega)]
  unfold cellAt
  rw [if_neg (by omega), if_neg (by omega), if_neg (by omega), show (1 + k * 4 + j - 1) / 4 = k by omega, show (1 + k * 4 + j - 1) % 4 = j by omega, List.getElem?_eq_getElem hz]
  simp only [Option.map_some, Option.getD_some, List.getD_eq_getElem?_getD]
  rw [List.getElem?_eq_getElem (by simp [fm4]; omega)]
  rfl
theorem built72 (r : Int) : Try.prog.built 72 [(3, .int .i64 r)] = some (fsC (.slice none 0 0) [] r) := by kernel_rfl
theorem built58 : Try.prog.built 58 [] = some #[.int .i64 0, .int .i64 0, .slice none 0 0, .int .i64 0] := by kernel_rfl
attribute [-go_sem] Instr.build in
theorem frNew (d : Int) (w : World) :
    Calls Try.prog 10 #[.int .i64 d] w fun e w' => e = .returned (.pointer (some ⟨w.heap.size, 0, none⟩)) ∧ w' = w.alloc (.cells (fsC (.slice none 0 0) [] (max 0 (min d 64))) 72) := by
  have hb : ∀ (W : World) (r : Int), (Instr.build 72 #[(3, .int .i64 r)]).run Try.prog W = .ok (.agg (fsC (.slice none 0 0) [] r)) W := fun W r => run_build W 72 #[(3, .int .i64 r)] _ (built72 r)
  go_enter Try.func10, Try.ntmps10
  go_wp2
  all_goals go_ret
  all_goals refine ⟨rfl, ?_⟩
  · rw [show max 0 (min d 64) = (64 : Int) by omega]
  · rw [show max 0 (min d 64) = d by omega]
  · rw [show max 0 (min d 64) = (0 : Int) by omega]
def Sep (L : List As) : As := ⟨SL L, SL.lt, SL.mv⟩
theorem SL.flat {A : As} {M L : List As} {w : World} {F : Nat → Prop} : SL (Sep (A :: M) :: L) w F ↔ SL (A :: Sep M :: L) w F := by
  constructor
  · rintro ⟨F1, F2, ⟨F3, F4, ha, hm, hd3, he3⟩, hl, hd, he⟩
    refine ⟨F3, fun k => F4 k ∨ F2 k, ha, ⟨F4, F2, hm, hl, fun k h4 h2 => hd k ((he3 k).2 (.inr h4)) h2, fun k => Iff.rfl⟩, fun k h3 h => h.elim (fun h4 => hd3 k h3 h4) (fun h2 => hd k ((he3 k).2 (.inl h3)) h2), fun k => ?_⟩
    rw [he k, he3 k, or_assoc]
  · rintro ⟨F1, F2, ha, ⟨F3, F4, hm, hl, hd3, he3⟩, hd, he⟩
    refine ⟨fun k => F1 k ∨ F3 k, F4, ⟨F1, F3, ha, hm, fun k h1 h3 => hd k h1 ((he3 k).2 (.inl h3)), fun k => Iff.rfl⟩, hl, fun k h h4 => h.elim (fun h1 => hd k h1 ((he3 k).2 (.inr h4))) (fun h3 => hd3 k h3 h4), fun k => ?_⟩
    rw [he k, he3 k, or_assoc]
theorem SL.flat0 {L : List As} {w : World} {F : Nat → Prop} : SL (Sep [] :: L) w F ↔ SL L w F := by
  constructor
  · rintro ⟨F1, F2, h1, hl, hd, he⟩
    exact hl.congr (fun k => (he k).trans ⟨fun h => h.elim (fun h => absurd h (h1 k)) id, .inr⟩)
  · intro h
    exact ⟨fun _ => False, F, fun _ h => h, h, fun _ h => h.elim, fun k => ⟨.inr, fun h => h.elim False.elim id⟩⟩
theorem SB.sep {w0 w : World} {A : As} {M L : List As} : SB w0 w (Sep (A :: M) :: L) ↔ SB w0 w (A :: Sep M :: L) :=
  ⟨fun ⟨h, F, hl, hF⟩ => ⟨h, F, SL.flat.1 hl, hF⟩, fun ⟨h, F, hl, hF⟩ => ⟨h, F, SL.flat.2 hl, hF⟩⟩
theorem SB.sep0 {w0 w : World} {L : List As} : SB w0 w (Sep [] :: L) ↔ SB w0 w L :=
  ⟨fun ⟨h, F, hl, hF⟩ => ⟨h, F, SL.flat0.1 hl, hF⟩, fun ⟨h, F, hl, hF⟩ => ⟨h, F, SL.flat0.2 hl, hF⟩⟩
def rowsOf (z : List (Fm × Value)) : List As := z.map fun x => Row (Kd.int .u64) 35 x.2 x.1.loc
/-- What holds of a stack. -/
structure FS.ok (s : FS) : Prop where
  room0 : 0 ≤ s.room
  room : s.room ≤ 64
  len : (s.fr.length : Int) ≤ s.room
  base : ∀ f ∈ s.fr, 0 ≤ f.base ∧ f.base ≤ 1000000000000
def FL (p : Nat) (v : Value) (z : List (Fm × Value)) (s : FS) : List As := [Box p (fsC v z s.room) 72, Row (Kd.int .u64) 35 v s.v, Sep (rowsOf z)]
/-- A stack, as an object. -/
def FO (p : Nat) (s : FS) : As where
  P w F := ∃ v z, z.map Prod.fst = s.fr ∧ s.ok ∧ SL (FL p v z s) w F
  lt := fun ⟨_, _, _, _, h⟩ => SL.lt h
  mv := fun ⟨v, z, e, hk, h⟩ hm => ⟨v, z, e, hk, SL.mv h hm⟩
theorem SL.cons_iff {A : As} {L L' : List As} {w : World} (h : ∀ F, SL L w F ↔ SL L' w F) (F : Nat → Prop) : SL (A :: L) w F ↔ SL (A :: L') w F :=
  ⟨fun ⟨F1, F2, ha, hl, hd, he⟩ => ⟨F1, F2, ha, (h F2).1 hl, hd, he⟩, fun ⟨F1, F2, ha, hl, hd, he⟩ => ⟨F1, F2, ha, (h F2).2 hl, hd, he⟩⟩
theorem SL.sepN : ∀ (M : List As) {L : List As} {w : World} (F : Nat → Prop), SL (Sep M :: L) w F ↔ SL (M ++ L) w F
  | [], _, _, _ => SL.flat0
  | _ :: M, _, _, F => SL.flat.trans (SL.cons_iff (fun F => SL.sepN M F) F)
theorem SB.sepN {w0 w : World} {M L : List As} : SB w0 w (Sep M :: L) ↔ SB w0 w (M ++ L) :=
  ⟨fun ⟨h, F, hl, hF⟩ => ⟨h, F, (SL.sepN M F).1 hl, hF⟩, fun ⟨h, F, hl, hF⟩ => ⟨h, F, (SL.sepN M F).2 hl, hF⟩⟩
theorem SB.open_ {w0 w : World} {p : Nat} {s : FS} {L : List As} (h : SB w0 w (FO p s :: L)) :
    ∃ v z, z.map Prod.fst = s.fr ∧ s.ok ∧ SB w0 w (Box p (fsC v z s.room) 72 :: Row (Kd.int .u64) 35 v s.v :: Sep (rowsOf z) :: L) := by
  obtain ⟨h1, F, ⟨F1, F2, ⟨v, z, e, hk, ha⟩, hl, hd, he⟩, hF⟩ := h
  have h2 : SB w0 w (Sep (FL p v z s) :: L) := ⟨h1, F, ⟨F1, F2, ha, hl, hd, he⟩, hF⟩
  exact ⟨v, z, e, hk, SB.sepN.1 h2⟩
theorem SB.close_ {w0 w : World} {p : Nat} {s : FS} {L : List As} {v : Value} {z : List (Fm × Value)} (e : z.map Prod.fst = s.fr) (hk : s.ok) (h : SB w0 w (Box p (fsC v z s.room) 72 :: Row (Kd.int .u64) 35 v s.v :: Sep (rowsOf z) :: L)) : SB w0 w (FO p s :: L) := by
  have h2 : SB w0 w (Sep (FL p v z s) :: L) := SB.sepN.2 h
  obtain ⟨h1, F, ⟨F1, F2, ha, hl, hd, he⟩, hF⟩ := h2
  exact ⟨h1, F, ⟨F1, F2, ⟨v, z, e, hk, ha⟩, hl, hd, he⟩, hF⟩
/-- New. -/
theorem frNewS {w0 w : World} {L : List As} (hS : SB w0 w L) (d : Int) :
    Calls Try.prog 10 #[.int .i64 d] w fun e w' => e = .returned (.pointer (some ⟨w.heap.size, 0, none⟩)) ∧ SB w0 w' (FO w.heap.size ⟨[], [], max 0 (min d 64)⟩ :: L) := by
  refine (frNew d w).mono ?_
  rintro e w' ⟨rfl, rfl⟩
  refine ⟨rfl, SB.close_ (v := .slice none 0 0) (z := []) rfl ⟨by show (0:Int) ≤ max 0 (min d 64); omega, by show max 0 (min d 64) ≤ (64:Int); omega, by show ((0 : Nat) : Int) ≤ max 0 (min d 64); omega, fun f hf => by cases hf⟩ ?_⟩
  have h1 := hS.box (fsC (.slice none 0 0) [] (max 0 (min d 64))) 72
  have h2 := SB.row (d := Kd.int .u64) (e := 35) (v := .slice none 0 0) (xs := []) (ok := fun _ => True) h1 (Below.refl _ _) (Kd.R_nil _ _ _ _ _)
  exact (SB.sep0.2 h2.swap).perm ((List.Perm.swap _ _ _).trans ((List.Perm.swap _ _ _).cons _))
/-- What the cells hold. -/
theorem fsC_b (v : Value) (z : List (Fm × Value)) (r : Int) {w : World} {p : Nat} (hb : w.heap[p]? = some (.cells (fsC v z r) 72 (0, 0))) (i : Nat) (hi : i < 259) : w.cell? ⟨p, i, none⟩ = some (cellAt v z r i) := by
  rw [blk_cell hb i]
  exact fsC_at v z r i hi
def baseOf (fr : List Fm) : Int := (fr.getLast?.map Fm.base).getD 0
theorem atB {v : Value} {z : List (Fm × Value)} {r : Int} {w : World} {p : Nat} (hb : w.heap[p]? = some (.cells (fsC v z r) 72 (0, 0))) (hz : z.length ≤ 64) : AtB w p z.length (baseOf (z.map Prod.fst)) := by
  refine ⟨fsC_b v z r hb 257 (by omega), ?_⟩
  rcases List.eq_nil_or_concat z with rfl | ⟨z', x, rfl⟩
  · exact .inl ⟨rfl, rfl⟩
  · refine .inr ⟨z'.length, by simp, by simp at hz; omega, ?_⟩
    rw [blk_cell hb, fsC_fr _ _ _ _ 3 (by simp at hz; omega) (by omega) (by simp)]
    simp [fm4, baseOf]
end Go.Proofs.Ytbbgkelcdooabaa.G
