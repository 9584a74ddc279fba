/- StackBack: plain law, and what compares. -/
import Derived.Test.YtagblobimoedcaaStkT
namespace Go.Proofs.Ytagblobimoedcaa.G
open Go.RowKit Go.Proofs.YtagblobimoedcaaW.PrintWords Go.Proofs.YtagblobimoedcaaW.PrintLast Go.Proofs.YtagblobimoedcaaW.PrintMore
set_option linter.unusedVariables false
set_option linter.unusedSimpArgs false
theorem modest_all {l : List S47} (hf : fewA l) : modest (gAll l).1 (gAll l).2 := by
  have := gAll_len hf l.length (Nat.le_refl _)
  rw [List.take_length] at this
  exact ⟨by have := hf.1; omega, by have := hf.1; omega⟩
theorem kLeft_len {l : List Int} (h : kLeft l = true) : l.length ≤ 1 := by
  match l with
  | [] => simp
  | [a] => simp
  | a :: b :: l => simp [kLeft] at h
theorem conv25 {w : World} {A : Option Addr} {c : Nat} {l : List Int} (h : Kd.C (Kd.int .u8) w A l.length l) : (convert 25 9 (.slice A l.length c)).run Try.prog w = .ok (.string (strOfNums l)) w := Kd.C_string Try.underlying25 Try.underlying5 Try.underlying9 h
theorem addr_plain {w : World} {a : Addr} {v : Value} (h : w.cell? a = some v) : ∃ b o, a = ⟨b, o, none⟩ := by
  match a with
  | ⟨b, o, none⟩ => exact ⟨b, o, rfl⟩
  | ⟨b, o, some s⟩ =>
    unfold World.cell? at h
    split at h
    · simp at h
    · simp at h
theorem same_l (v : List Int) (ts : List S59) (hl : ts.length ≤ 1000000) : ∀ (n i : Nat), n + i = ts.length → avocetref09_Same.l0 (n + 1) (i : Int) v ts v ts = some true := by
  intro n
  induction n with
  | zero =>
    intro i h
    rw [avocetref09_Same.l0, if_neg (by omega)]
  | succ n ih =>
    intro i h
    have hw : wrap64 ((i : Int) + 1) = ((i + 1 : Nat) : Int) := by unfold wrap64; omega
    rw [avocetref09_Same.l0, if_pos (by omega), if_pos (by omega), if_pos (by omega)]
    unfold avocetref09_SameCtrl.f
    rw [if_pos rfl, if_pos rfl, if_pos rfl, beq_self_eq_true, Option.bind_some, if_pos rfl, hw]
    exact ih (i + 1) (by omega)
theorem same_self (v : List Int) (ts : List S59) (hl : ts.length ≤ 1000000) : avocetref09_Same.f (ts.length + 2) v ts v ts = some true := by
  unfold avocetref09_Same.f
  rw [if_pos rfl, show ((ts.length : Int) != (ts.length : Int)) = false from bne_self_eq_false _, avocetref09_Same.j0, if_neg (by decide)]
  exact same_l v ts hl ts.length 0 (by omega)
theorem sameS {w : World} {A0 A1 B0 B1 : Option Addr} {c0 c1 d0 d1 : Nat} {v : List Int} {ts : List S59} (h : HoldT w A0 c0 A1 c1 v ts) (g : HoldT w B0 d0 B1 d1 v ts) (hl : ts.length ≤ 1000000) :
    Calls Try.prog 15 #[.agg #[.slice A0 v.length c0, .slice A1 ts.length c1], .agg #[.slice B0 v.length d0, .slice B1 ts.length d1]] w fun e w' => e = .returned (.bool true) ∧ Below w.heap.size w w' :=
  (avocetref09_Same.calls _ A0 c0 v A1 c1 ts B0 d0 v B1 d1 ts true w h.hv h.lv h.hc h.lc g.hv g.lv g.hc g.lc (same_self v ts hl)).mono (fun e w' h => ⟨h.1, by first | exact h.2 | exact drawn_below h.2⟩)
/-- what was pushed is wanted again. -/
theorem kWant_push (h : Int) (d : Bool) : ∀ (r v : List Int), h ≤ (v.length : Int) → kWant h d r (v ++ r.reverse) = (v, 0)
  | [], v, hh => by simp [kWant]
  | t :: r, v, hh => by
    have e : kPop (v ++ (t :: r).reverse) h d = (v ++ r.reverse, t, 0) := by
      unfold kPop
      rw [if_pos (by simp; omega)]
      have e1 : v ++ (t :: r).reverse = (v ++ r.reverse) ++ [t] := by simp
      rw [e1, List.dropLast_concat]
      congr 2
      unfold rd
      have e2 : ((((v ++ r.reverse) ++ [t]).length : Int) - 1).toNat = (v ++ r.reverse).length := by simp; omega
      rw [e2, List.getD_eq_getElem?_getD, List.getElem?_append_right (Nat.le_refl _)]
      simp
    rw [kWant, e]
    simp only
    rw [if_pos trivial, if_neg (by simp)]
    exact kWant_push h d r v hh
theorem back_want {v : List Int} {cs : List S31} {m : List Int} (hs : kSane v cs = true) (hne : cs ≠ []) (ht : m.all stTy_okT = true) : sWant (v ++ m) cs m = (v, cs, 0) := by
  unfold sWant
  rw [if_neg (by rw [sane_push hs ht]; decide)]
  by_cases h : m = []
  · rw [if_pos h, h, List.append_nil]
  · rw [if_neg h, if_neg hne]
    have e := kWant_push (kTop cs).f2 (kTop cs).f3 m.reverse v (sane_top hs hne).2.1
    rw [List.reverse_reverse] at e
    rw [e]
    rfl
def backEnd (m : List Int) : List Int := match m with | [] => [] | a :: _ => if a ≠ 0 then [a] else []
theorem backEnd_left {m : List Int} (ht : m.all stTy_okT = true) : kLeft (backEnd m) = true ∧ (backEnd m).all stTy_okT = true := by
  match m with
  | [] => exact ⟨rfl, rfl⟩
  | a :: l =>
    simp only [backEnd]
    by_cases h : a = 0
    · rw [if_neg (by simp [h])]; exact ⟨rfl, rfl⟩
    · rw [if_pos h]
      have h1 : stTy_okT a = true := by simp at ht; exact ht.1
      refine ⟨?_, by simp [h1]⟩
      unfold stTy_okT at h1
      rw [beq_eq_false_iff_ne.mpr h, Bool.false_or] at h1
      exact h1
def bNew (v : List Int) (op : Int) (e : List Int) : S31 := ⟨op, e, (v.length : Int), false⟩
theorem back_open {v : List Int} {cs : List S31} {e : List Int} (op : Int) (hs : kSane v cs = true) (he : kLeft e = true) : sOpen v cs op e = (v, cs ++ [bNew v op e], 0) := by
  unfold sOpen
  rw [if_pos ⟨hs, he⟩]
  rfl
theorem back_push {v : List Int} {cs : List S31} {e : List Int} (op : Int) (hs : kSane v cs = true) (he : kLeft e = true) (ht : e.all stTy_okT = true) : sPush v (cs ++ [bNew v op e]) e = (v ++ e, cs ++ [bNew v op e], 0) := by
  unfold sPush
  rw [if_pos ⟨sane_open op false hs he, ht⟩]
theorem back_close {v : List Int} {cs : List S31} {e : List Int} (op : Int) (hs : kSane v cs = true) (he : kLeft e = true) (ht : e.all stTy_okT = true) : sClose (v ++ e) (cs ++ [bNew v op e]) = (v, cs, bNew v op e, 0) := by
  have hn : cs ++ [bNew v op e] ≠ [] := by simp
  have htop : kTop (cs ++ [bNew v op e]) = bNew v op e := by rw [kTop_last hn]; simp
  have hsp : kSane (v ++ e) (cs ++ [bNew v op e]) = true := sane_push (sane_open op false hs he) ht
  unfold sClose
  rw [if_neg (by rw [hsp]; decide), if_neg hn, htop]
  have e1 := kWant_push (bNew v op e).f2 (bNew v op e).f3 e.reverse v (Int.le_refl _)
  rw [List.reverse_reverse] at e1
  have e2 : kWant (bNew v op e).f2 (bNew v op e).f3 (bNew v op e).f1.reverse (v ++ e) = (v, 0) := e1
  rw [e2]
  simp only
  rw [if_pos (show ((v.length : Nat) : Int) = (bNew v op e).f2 from rfl), List.dropLast_concat]
  rfl
end Go.Proofs.Ytagblobimoedcaa.G
