/- Package stack: what may be, and how a change begins. -/
import Derived.Test.YtagblobimoedcaaStkD
namespace Go.Proofs.Ytagblobimoedcaa.G
open Go.RowKit Go.Proofs.YtagblobimoedcaaW.PrintWords Go.Proofs.YtagblobimoedcaaW.PrintLast Go.Proofs.YtagblobimoedcaaW.PrintMore
set_option linter.unusedVariables false
set_option linter.unusedSimpArgs false
theorem SB.boxE {w0 w : World} {L : List As} (h : SB w0 w L) (cs : Array Value) (t : TypeId) : ∃ p, p = w.heap.size ∧ SB w0 (w.alloc (.cells cs t)) (Box p cs t :: L) := ⟨_, rfl, h.box cs t⟩
theorem SB.set1 {w0 w : World} {L : List As} {p t : Nat} {cs : Array Value} (h : SB w0 w (Box p cs t :: L)) (i : Nat) (v : Value) : SB w0 (w.setCell ⟨p, i, none⟩ v) (Box p (cs.setIfInBounds i v) t :: L) := by
  obtain ⟨F, hF, hge, K⟩ := h.frame
  have hp : F p := (hF.2 p).2 rfl
  exact K _ (Box p (cs.setIfInBounds i v) t) F ⟨blk_set hF.1 i v, hF.2⟩ ((Fr.refl w F).setCell (p := ⟨p, i, none⟩) (.inl hp) v) (fun k hk => .inl hk)
theorem SB.boxSet {w0 w : World} {L : List As} (p : Nat) (t : TypeId) {cs : Array Value} {U : Array Value → List As} [Has (fun cs => Box p cs t) L cs U] (h : SB w0 w L) (i : Nat) (v : Value) (cs' : Array Value) (hcs : cs.setIfInBounds i v = cs' := by rfl) :
    SB w0 (w.setCell ⟨p, i, none⟩ v) (U cs') := by
  subst hcs
  obtain ⟨R, h1, _, _, h2, _⟩ := h.at_ (mk := fun cs => Box p cs t)
  exact h2 (h1.set1 i v)
theorem SB.boxFro {w0 w : World} {L : List As} (p : Nat) (t : TypeId) {cs : Array Value} {U : Array Value → List As} [Has (fun cs => Box p cs t) L cs U] (h : SB w0 w L) (i : Nat) : w.frozen? ⟨p, i, none⟩ = false := blk_fro (h.boxAt p t) i
/-- A variable, of whatever (none) or of what is known (some). -/
def BoxO (p t n : Nat) : Option (Array Value) → As
  | none => ⟨fun w F => ∃ cs, cs.size = n ∧ (Box p cs t).P w F, fun {w F} ⟨cs, _, h⟩ => (Box p cs t).lt h, fun {w w1 F} ⟨cs, e, h⟩ hm => ⟨cs, e, (Box p cs t).mv h hm⟩⟩
  | some cs => Box p cs t
theorem SB.boxN {w0 w : World} {L : List As} (h : SB w0 w L) (cs : Array Value) (t n : Nat) (hn : cs.size = n := by rfl) : ∃ p, SB w0 (w.alloc (.cells cs t)) (BoxO p t n none :: L) ∧ w.heap.size = p := by
  refine ⟨_, ?_, rfl⟩
  have h1 := h.box cs t
  obtain ⟨F, hF, _, K⟩ := h1.frame
  exact K _ (BoxO w.heap.size t n none) F ⟨cs, hn, hF⟩ (Fr.refl _ _) (fun k hk => .inl hk)
theorem SB.boxOpen {w0 w : World} {L : List As} (p t n : Nat) {U : Option (Array Value) → List As} [Has (BoxO p t n) L none U] (h : SB w0 w L) :
    ∃ cs, cs.size = n ∧ w.heap[p]? = some (.cells cs t (0, 0)) ∧ SB w0 w (U (some cs)) ∧ ∀ {w1 cs'}, cs'.size = n → SB w0 w1 (U (some cs')) → SB w0 w1 L := by
  obtain ⟨R, h1, _⟩ := h.at_ (mk := BoxO p t n)
  obtain ⟨F, ⟨cs, hc, hF⟩, hge⟩ := h1.head
  obtain ⟨R2, p1, p2⟩ := Has.rest (mk := BoxO p t n) (L := L) (m := none) (U := U)
  have h2 := h.perm p1
  obtain ⟨F2, ⟨cs2, hc2, hF2⟩, hge2, K⟩ := h2.frame
  refine ⟨cs2, hc2, hF2.1, ?_, ?_⟩
  · have h3 : SB w0 w (BoxO p t n (some cs2) :: R2) := K _ (BoxO p t n (some cs2)) F2 hF2 (Fr.refl _ _) (fun k hk => .inl hk)
    exact h3.perm (p2 _).symm
  · intro w1 cs' hcs' hU
    have h3 := hU.perm (p2 _)
    obtain ⟨F3, hF3, _, K3⟩ := h3.frame
    have h4 : SB w0 w1 (BoxO p t n none :: R2) := K3 _ (BoxO p t n none) F3 ⟨cs', hcs', hF3⟩ (Fr.refl _ _) (fun k hk => .inl hk)
    exact h4.perm p1.symm
theorem SB.boxOSet {w0 w : World} {L : List As} (p t n : Nat) {cs : Array Value} {U : Option (Array Value) → List As} [Has (BoxO p t n) L (some cs) U] (h : SB w0 w L) (i : Nat) (v : Value) : SB w0 (w.setCell ⟨p, i, none⟩ v) (U (some (cs.setIfInBounds i v))) := by
  obtain ⟨R, h1, _, _, h2, _⟩ := h.at_ (mk := BoxO p t n)
  have h3 : SB w0 w (Box p cs t :: R) := h1
  exact h2 (x := some (cs.setIfInBounds i v)) (h3.set1 i v)
theorem blk_some {w : World} {p t n : Nat} {cs : Array Value} (hb : w.heap[p]? = some (.cells cs t (0, 0))) (hn : cs.size = n) (i : Nat) (hi : i < n) : ∃ u, w.cell? ⟨p, i, none⟩ = some u ∧ w.frozen? ⟨p, i, none⟩ = false := by
  have h := blk_cell hb i
  rw [Array.getElem?_eq_getElem (by omega)] at h
  exact ⟨_, h, blk_fro hb i⟩
/-- A variable of two cells is written. -/
theorem SB.write2 {w0 w : World} {L : List As} (p t : Nat) {U : Option (Array Value) → List As} [Has (BoxO p t 2) L none U] (h : SB w0 w L) (a b : Value) :
    ∃ x y, w.cell? ⟨p, 0, none⟩ = some x ∧ w.cell? ⟨p, 1, none⟩ = some y ∧ w.frozen? ⟨p, 0, none⟩ = false ∧ w.frozen? ⟨p, 1, none⟩ = false ∧
      SB w0 ((w.setCell ⟨p, 0, none⟩ a).setCell ⟨p, 1, none⟩ b) (U (some #[a, b])) ∧ SB w0 ((w.setCell ⟨p, 0, none⟩ a).setCell ⟨p, 1, none⟩ b) L := by
  obtain ⟨cs, hc, hb, h1, hU⟩ := SB.boxOpen p t 2 h
  obtain ⟨x, hx, fx⟩ := blk_some hb hc 0 (by omega)
  obtain ⟨y, hy, fy⟩ := blk_some hb hc 1 (by omega)
  obtain ⟨R2, p1, p2⟩ := Has.rest (mk := BoxO p t 2) (L := L) (m := none) (U := U)
  have h2 : SB w0 w (Box p cs t :: R2) := h1.perm (p2 _)
  have h3 := (h2.set1 0 a).set1 1 b
  have e : (cs.setIfInBounds 0 a).setIfInBounds 1 b = #[a, b] := by
    match cs, hc with
    | ⟨[c, d]⟩, _ => rfl
  rw [e] at h3
  have h4 : SB w0 _ (U (some #[a, b])) := h3.perm (p2 (some #[a, b])).symm
  exact ⟨x, y, hx, hy, fx, fy, h4, hU rfl h4⟩
theorem SB.write3 {w0 w : World} {L : List As} (p t : Nat) {U : Option (Array Value) → List As} [Has (BoxO p t 3) L none U] (h : SB w0 w L) (a b c : Value) :
    ∃ x y z, w.cell? ⟨p, 0, none⟩ = some x ∧ w.cell? ⟨p, 1, none⟩ = some y ∧ w.cell? ⟨p, 2, none⟩ = some z ∧ w.frozen? ⟨p, 0, none⟩ = false ∧ w.frozen? ⟨p, 1, none⟩ = false ∧ w.frozen? ⟨p, 2, none⟩ = false ∧
      SB w0 (((w.setCell ⟨p, 0, none⟩ a).setCell ⟨p, 1, none⟩ b).setCell ⟨p, 2, none⟩ c) (U (some #[a, b, c])) ∧ SB w0 (((w.setCell ⟨p, 0, none⟩ a).setCell ⟨p, 1, none⟩ b).setCell ⟨p, 2, none⟩ c) L := by
  obtain ⟨cs, hc, hb, h1, hU⟩ := SB.boxOpen p t 3 h
  obtain ⟨x, hx, fx⟩ := blk_some hb hc 0 (by omega)
  obtain ⟨y, hy, fy⟩ := blk_some hb hc 1 (by omega)
  obtain ⟨z, hz, fz⟩ := blk_some hb hc 2 (by omega)
  obtain ⟨R2, p1, p2⟩ := Has.rest (mk := BoxO p t 3) (L := L) (m := none) (U := U)
  have h2 : SB w0 w (Box p cs t :: R2) := h1.perm (p2 _)
  have h3 := ((h2.set1 0 a).set1 1 b).set1 2 c
  have e : ((cs.setIfInBounds 0 a).setIfInBounds 1 b).setIfInBounds 2 c = #[a, b, c] := by
    match cs, hc with
    | ⟨[c, d, e]⟩, _ => rfl
  rw [e] at h3
  have h4 : SB w0 _ (U (some #[a, b, c])) := h3.perm (p2 (some #[a, b, c])).symm
  exact ⟨x, y, z, hx, hy, hz, fx, fy, fz, h4, hU rfl h4⟩
theorem SB.boxOAt {w0 w : World} {L : List As} (p t n : Nat) {cs : Array Value} {U : Option (Array Value) → List As} [Has (BoxO p t n) L (some cs) U] (h : SB w0 w L) : w.heap[p]? = some (.cells cs t (0, 0)) := by
  obtain ⟨R, h1, _⟩ := h.at_ (mk := BoxO p t n)
  obtain ⟨F, hF, _⟩ := h1.head
  exact hF.1
/-! ### what may be -/
def kLeft : List Int → Bool
  | [] => true
  | [c] => c == 127 || c == 126
  | _ => false
theorem left_f (l : List Int) : stack_left.f l = some (kLeft l) := by
  unfold stack_left.f
  match l with
  | [] => rfl
  | [c] =>
    simp only [List.length_cons, List.length_nil]
    rw [if_neg (by omega), if_pos (by omega), if_pos (by omega)]
    have e : rd [c] 0 = c := rfl
    rw [e]
    unfold stack_val.f kLeft
    by_cases h : c = 127
    · rw [if_pos h, h]; rfl
    · rw [if_neg h]
      show some (c == 126) = some (c == 127 || c == 126)
      rw [beq_eq_false_iff_ne.mpr h, Bool.false_or]
  | a :: b :: l =>
    simp only [List.length_cons]
    rw [if_neg (by omega), if_neg (by omega)]
    rfl
/-- the last height of what is open; none: it may not be. -/
def kHts : Int → List S31 → Option Int
  | last, [] => some last
  | last, c :: cs => if kLeft c.f1 = true ∧ last ≤ c.f2 then kHts c.f2 cs else none
def kEnd (v : List Int) : Option Int → Bool
  | none => false
  | some last => decide (last ≤ (v.length : Int)) && v.all stTy_okT
def kSane (v : List Int) (cs : List S31) : Bool := kEnd v (kHts 0 cs)
theorem sane_l (v : List Int) (cs : List S31) (hl : cs.length ≤ 1000000000) : ∀ (n i : Nat) (last : Int), n + i = cs.length →
    stack_Sane.l0 (n + 1) last cs (cs.length : Int) (i : Int) v cs = some (kEnd v (kHts last (cs.drop i))) := by
  intro n
  induction n with
  | zero =>
    intro i last h
    have hi : i = cs.length := by omega
    rw [List.drop_eq_nil_of_le (by omega)]
    simp only [stack_Sane.l0, kHts, kEnd]
    rw [if_neg (by omega)]
    by_cases h1 : last ≤ (v.length : Int)
    · rw [if_pos h1, decide_eq_true h1]; rfl
    · rw [if_neg h1, decide_eq_false h1]; rfl
  | succ n ih =>
    intro i last h
    have hlt : i < cs.length := by omega
    rw [List.drop_eq_getElem_cons hlt]
    have hr : rd_T31 cs (i : Int) = cs[i] := by unfold rd_T31; rw [Int.toNat_natCast, List.getD_eq_getElem?_getD, List.getElem?_eq_getElem hlt]; rfl
    rw [stack_Sane.l0, if_pos (by omega), if_pos (by omega), if_pos (by omega), hr, left_f, Option.bind_some]
    have hw : wrap64 ((i : Int) + 1) = ((i + 1 : Nat) : Int) := by unfold wrap64; omega
    unfold kHts
    cases hk : kLeft cs[i].f1 with
    | false => rw [if_neg (by decide), if_neg (by simp)]; rfl
    | true =>
      rw [if_pos rfl]
      by_cases h2 : last ≤ cs[i].f2
      · rw [if_neg (by omega), if_pos ⟨rfl, h2⟩, hw]
        exact ih (i + 1) cs[i].f2 (by omega)
      · rw [if_pos (by omega), if_neg (by simp [h2])]; rfl
theorem sane_f (v : List Int) (cs : List S31) (hl : cs.length ≤ 1000000000) : stack_Sane.f (cs.length + 1) v cs = some (kSane v cs) := by
  unfold stack_Sane.f
  have := sane_l v cs hl cs.length 0 0 (by omega)
  rw [List.drop_zero] at this
  exact this
/-- A stack as it stands at a world. -/
structure HoldS (w : World) (A0 : Option Addr) (c0 : Nat) (A1 : Option Addr) (c1 : Nat) (v : List Int) (cs : List S31) : Prop where
  hv : Kd.C (Kd.int .u8) w A0 v.length v
  hc : Kd.C k31 w A1 cs.length cs
  lv : v.length ≤ c0
  lc : cs.length ≤ c1
theorem HoldS.below {w w' : World} {A0 A1 : Option Addr} {c0 c1 : Nat} {v : List Int} {cs : List S31} (h : HoldS w A0 c0 A1 c1 v cs) (hb : Below w.heap.size w w') : HoldS w' A0 c0 A1 c1 v cs := ⟨Kd.C_below h.hv hb, Kd.C_below h.hc hb, h.lv, h.lc⟩
def modest (v : List Int) (cs : List S31) : Prop := v.length ≤ 400000000 ∧ cs.length ≤ 400000000
theorem stkSane {w : World} {A0 A1 : Option Addr} {c0 c1 : Nat} {v : List Int} {cs : List S31} (h : HoldS w A0 c0 A1 c1 v cs) (hm : modest v cs) :
    Calls Try.prog 12 #[.agg #[.slice A0 v.length c0, .slice A1 cs.length c1]] w fun e w' => e = .returned (.bool (kSane v cs)) ∧ Below w.heap.size w w' :=
  stack_Sane.calls _ A0 c0 v A1 c1 cs _ w h.hv h.lv h.hc h.lc (sane_f v cs (by have := hm.2; omega))
set_option maxHeartbeats 4000000 in
set_option maxRecDepth 100000 in
theorem stkBeginNo {w : World} {A0 A1 : Option Addr} {c0 c1 : Nat} {v : List Int} {cs : List S31} (h : HoldS w A0 c0 A1 c1 v cs) (hm : modest v cs) (hno : kSane v cs = false ∨ cs = []) :
    Calls Try.prog 40 #[.agg #[.slice A0 v.length c0, .slice A1 cs.length c1]] w fun e w' => e = .returned (.tuple #[.agg #[.slice none 0 0, .slice none 0 0, .pointer none], .int .i64 (if kSane v cs then 5 else 1)]) ∧ Below w.heap.size w w' := by
  obtain ⟨b, hb⟩ : ∃ b, kSane v cs = b := ⟨_, rfl⟩
  have HS := fun (W : World) (hW : Below w.heap.size w W) => stkSane (h.below hW) hm
  have HW := Aside0.mk ((((SB.start w).box #[.slice A0 v.length c0, .slice A1 cs.length c1] 28)).box #[.slice none 0 0, .slice none 0 0, .pointer none] 77)
  rw [World.size_alloc] at HW
  rw [hb] at HS hno ⊢
  clear hb h
  cases b with
  | false =>
    simp only [Bool.false_eq_true, if_false]
    go_enter Try.func40, Try.ntmps40
    go_wp2_with (go_at_call 12; refine (HS _ HW.out.bel).mono ?_; rintro e w1 ⟨rfl, hb⟩; have HW1 := Aside0.mk (HW.out.below hb); clear hb; have x2 := SB.boxAt (w.heap.size + 1) 77 HW1.out; have z0 := blk_cell x2 0; have z1 := blk_cell x2 1; have z2 := blk_cell x2 2; have y0 := blk_fro x2 0; have y1 := blk_fro x2 1; have y2 := blk_fro x2 2; clear x2)
    exact bodyPost_ret (v := .tuple #[.agg #[.slice none 0 0, .slice none 0 0, .pointer none], .int .i64 1]) (by simp [results, Try.results40, go_sem, *]) rfl ⟨rfl, (((HW1.out.set1 0 (.slice none 0 0)).set1 1 (.slice none 0 0)).set1 2 (.pointer none)).bel⟩
  | true =>
    obtain rfl : cs = [] := by
      rcases hno with h | h
      · exact absurd h (by simp)
      · exact h
    simp only [if_true]
    go_enter Try.func40, Try.ntmps40
    go_wp2_with (go_at_call 12; refine (HS _ HW.out.bel).mono ?_; rintro e w1 ⟨rfl, hb⟩; have HW1 := Aside0.mk (HW.out.below hb); clear hb; have x2 := SB.boxAt (w.heap.size + 1) 77 HW1.out; have z0 := blk_cell x2 0; have z1 := blk_cell x2 1; have z2 := blk_cell x2 2; have y0 := blk_fro x2 0; have y1 := blk_fro x2 1; have y2 := blk_fro x2 2; have x1 := SB.boxAt w.heap.size 28 HW1.out; have s0 := blk_cell x1 0; have s1 := blk_cell x1 1; clear x1 x2)
    exact bodyPost_ret (v := .tuple #[.agg #[.slice none 0 0, .slice none 0 0, .pointer none], .int .i64 5]) (by simp [results, Try.results40, go_sem, *]) rfl ⟨rfl, (((HW1.out.set1 0 (.slice none 0 0)).set1 1 (.slice none 0 0)).set1 2 (.pointer none)).bel⟩
/-- what a region holds: the work's own copies. -/
theorem SB.rowR {w0 w w1 : World} {L : List As} {α : Type} {d : Kd α} {e : Nat} {v : Value} {xs : List α} {ok : Nat → Prop} (h : SB w0 w L) (hr : d.R e w1 w.heap.size ok v xs) (hb : Below w.heap.size w w1) : SB w0 w1 (Row d e v xs :: L) := h.row hb hr
set_option maxHeartbeats 4000000 in
set_option maxRecDepth 100000 in
theorem stkBegin_ {W0 w : World} {A0 A1 : Option Addr} {c0 c1 : Nat} {v : List Int} {cs : List S31} (h0 : HoldS W0 A0 c0 A1 c1 v cs) (hb0 : Below W0.heap.size W0 w) (hm : modest v cs) (hsane : kSane v cs = true) (n : Nat) (hn : cs.length = n + 1) :
    Calls Try.prog 40 #[.agg #[.slice A0 v.length c0, .slice A1 cs.length c1]] w fun e w' => ∃ Av cv g c2, e = .returned (.tuple #[.agg #[.slice Av v.length cv, .slice (some ⟨g, 0, none⟩) (n + 1) c2, .pointer (some ⟨g, n * 4, none⟩)], .int .i64 0]) ∧
      SB w w' [Row (kAt W0) 31 (.slice (some ⟨g, 0, none⟩) (n + 1) c2) cs, Row (Kd.int .u8) 5 (.slice Av v.length cv) v] := by
  have h := h0.below hb0
  have HS := fun (W : World) (hW : Below w.heap.size w W) => stkSane (h.below hW) hm
  have HW := Aside0.mk ((((SB.start w).box #[.slice A0 v.length c0, .slice A1 cs.length c1] 28)).box #[.slice none 0 0, .slice none 0 0, .pointer none] 77)
  rw [World.size_alloc] at HW
  rw [hsane] at HS
  have HH := Aside0.mk h
  have hcl : bytes_Clone.f v = some v := by unfold bytes_Clone.f; rw [if_pos (by have := hm.1; omega)]
  have HCC := Aside0.mk (show ∀ W, Below w.heap.size w W → Calls Try.prog 38 #[.slice A1 (n + 1) c1] W fun e w' => ∃ g c2, e = .returned (.slice (some ⟨g, 0, none⟩) (n + 1) c2) ∧ (kAt W0).R 31 w' W.heap.size (fun _ => True) (.slice (some ⟨g, 0, none⟩) (n + 1) c2) cs ∧ Below W.heap.size W w' from fun W hW => by
    rw [← hn]
    refine (cloneC W0 A1 c1 cs W (Kd.C_below (Kd.C_below (kAt_of h0.hc) hb0) hW) h.lc (by have := hm.2; omega)).mono ?_
    rintro e w' ⟨v2, rfl, hr, hb⟩
    obtain ⟨ad, c2, rfl⟩ := Kd.R_slice1 hr (by omega)
    obtain ⟨g, rfl⟩ := Kd.R_head hr
    exact ⟨g, c2, rfl, hr, hb⟩)
  clear h h0 hb0 hsane
  have hw1 : IntKind.i64.wrap (((n + 1 : Nat) : Int) - 1) = (n : Int) := by rw [IntKind.wrap_i64]; have := hm.2; omega
  rw [hn] at HW
  simp only [hn] at HS
  have d0 : ((n + 1 : Nat) : Int) ≠ 0 := by omega
  have HWN := Aside0.mk (show IntKind.i64.wrap (n : Int) = (n : Int) from by rw [IntKind.wrap_i64]; have := hm.2; omega)
  go_enter Try.func40, Try.ntmps40
  rw [hn]
  go_wp2_with (go_at_call 12; refine (HS _ HW.out.bel).mono ?_; rintro e w1 ⟨rfl, hb⟩; have HW1 := Aside0.mk (HW.out.below hb); clear hb; have x2 := SB.boxAt (w.heap.size + 1) 77 HW1.out; have z0 := blk_cell x2 0; have z1 := blk_cell x2 1; have z2 := blk_cell x2 2; have y0 := blk_fro x2 0; have y1 := blk_fro x2 1; have y2 := blk_fro x2 2; have x1 := SB.boxAt w.heap.size 28 HW1.out; have s0 := blk_cell x1 0; have s1 := blk_cell x1 1; clear x1 x2)
  have hW1 : SB w w1.drew [BoxO (w.heap.size + 1) 77 3 none, Box w.heap.size #[.slice A0 v.length c0, .slice A1 (n + 1) c1] 28] := by
    obtain ⟨F, hF, _, K⟩ := (HW1.out.drew).frame
    exact K _ (BoxO (w.heap.size + 1) 77 3 none) F ⟨_, rfl, hF⟩ (Fr.refl _ _) (fun k hk => .inl hk)
  refine rg_startL (n := 9) (S := fun w' => SB w w' [BoxO (w.heap.size + 1) 77 3 none, Box w.heap.size #[.slice A0 v.length c0, .slice A1 (n + 1) c1] 28]) (bm 9 0) (by kernel_rfl) rfl (by kernel_rfl) (hW1) (fun wd hwd hHeld => ?_)
  refine rg_take (i := 0) (N := some 16) (v := ?_) (a' := ?_) (bm 9 1) rfl rfl (by kernel_rfl) (fun _ _ _ h => h) hHeld (Or.inl ⟨by rfl, ?_⟩) ?_ ?_
  rotate_left
  · intro w' hw'
    have hbx := SB.boxAt w.heap.size 28 hw'
    have s0 := blk_cell hbx 0
    have s1 := blk_cell hbx 1
    go_simp
    with_reducible rfl
  rotate_left
  · simp only [Act.put, List.setIfInBounds_toArray, List.set_cons_zero, List.set_cons_succ]
    rfl
  refine rg_take (i := 1) (N := some 17) (v := ?_) (a' := ?_) (bm 9 3) rfl rfl (by kernel_rfl) (fun _ _ _ h => h) hHeld (Or.inl ⟨by rfl, ?_⟩) ?_ ?_
  rotate_left
  · intro w' hw'
    have hbx := SB.boxAt w.heap.size 28 hw'
    have s0 := blk_cell hbx 0
    have s1 := blk_cell hbx 1
    go_simp
    with_reducible rfl
  rotate_left
  · simp only [Act.put, List.setIfInBounds_toArray, List.set_cons_zero, List.set_cons_succ]
    rfl
  refine rg_take (i := 3) (N := some 19) (v := ?_) (a' := ?_) (bm 9 11) rfl rfl (by kernel_rfl) (fun _ _ _ h => h) hHeld (Or.inl ⟨by rfl, ?_⟩) ?_ ?_
  rotate_left
  · intro w' hw'
    have hbx := SB.boxAt w.heap.size 28 hw'
    have s0 := blk_cell hbx 0
    have s1 := blk_cell hbx 1
    go_simp
    with_reducible rfl
  rotate_left
  · simp only [Act.put, List.setIfInBounds_toArray, List.set_cons_zero, List.set_cons_succ]
    rfl
  refine rg_take (i := 4) (N := some 20) (v := ?_) (a' := ?_) (bm 9 27) rfl rfl (by kernel_rfl) (fun _ _ _ h => h) hHeld (Or.inl ⟨by rfl, ?_⟩) ?_ ?_
  rotate_left
  · intro w' hw'
    have hbx := SB.boxAt w.heap.size 28 hw'
    have s0 := blk_cell hbx 0
    have s1 := blk_cell hbx 1
    go_simp
    with_reducible rfl
  rotate_left
  · simp only [Act.put, List.setIfInBounds_toArray, List.set_cons_zero, List.set_cons_succ]
    rfl
  refine rg_ready [2, 7] (by kernel_rfl) (by simp) ?_
  refine rg_one (i := 2) (N := some 18) (bm 9 31) rfl rfl (by kernel_rfl) (fun K hK => ?_) ?_
  · skip
    go_simp
    go_at_call 39
    with_reducible refine (bytes_Clone.calls A0 c0 v v _ (Kd.C_below HH.out.hv hHeld.bel) HH.out.lv hcl).mono ?_
    rintro e wx2r5 ⟨v1, rfl, hr, hb⟩
    obtain ⟨Av, cv, rfl⟩ := Kd.R_slice hr
    have hnew := hHeld.row hb hr
    clear hr hb
    go_wp2_with fail
    refine hK.out _ _ hnew.drop ?_
    clear hK K
    refine rg_norm (a' := ?_) ?_ ?_
    rotate_left
    · simp only [Act.put, List.setIfInBounds_toArray, List.set_cons_zero, List.set_cons_succ]
      rfl
    refine rg_sb hnew ?_
    clear hHeld
    have hHeld := hnew
    clear hnew
    refine rg_ready [5, 7] (by kernel_rfl) (by simp) ?_
    refine rg_one (i := 5) (N := some 21) (bm 9 63) rfl rfl (by kernel_rfl) (fun K hK => ?_) ?_
    · skip
      go_simp
      go_at_call 38
      with_reducible refine (HCC.out _ hHeld.bel).mono ?_
      rintro e wx2x5r5 ⟨g, c2, rfl, hr, hb⟩
      have hnew := hHeld.row hb hr
      clear hr hb
      go_wp2_with fail
      refine hK.out _ _ hnew.drop ?_
      clear hK K
      refine rg_norm (a' := ?_) ?_ ?_
      rotate_left
      · simp only [Act.put, List.setIfInBounds_toArray, List.set_cons_zero, List.set_cons_succ]
        rfl
      refine rg_sb hnew ?_
      clear hHeld
      have hHeld := hnew
      clear hnew
      refine rg_take (i := 6) (N := some 22) (v := ?_) (a' := ?_) (bm 9 127) rfl rfl (by kernel_rfl) (fun _ _ _ h => h) hHeld (Or.inl ⟨by rfl, ?_⟩) ?_ ?_
      rotate_left
      · intro w' hw'
        have hbx := SB.boxAt w.heap.size 28 hw'
        have s0 := blk_cell hbx 0
        have s1 := blk_cell hbx 1
        go_simp
        with_reducible rfl
      rotate_left
      · simp only [Act.put, List.setIfInBounds_toArray, List.set_cons_zero, List.set_cons_succ]
        rfl
      refine rg_ready [7] (by kernel_rfl) (by simp) ?_
      refine rg_one (i := 7) (N := some 4) (bm 9 255) rfl rfl (by kernel_rfl) (fun K hK => ?_) rg_nil
      refine valueL_ (w1 := ?_) (v := ?_) (by rfl) rfl ?_ ?_
      rotate_left 2
      · go_simp
        constructor
        · rfl
        · rfl
      intro wx2x5x7r5 hwwx2x5x7r5
      obtain ⟨p4, hnew, hp4⟩ := hHeld.boxN #[.slice none 0 0, .slice none 0 0] 28 2
      replace hnew : SB w wx2x5x7r5 _ := hwwx2x5x7r5 ▸ hnew
      clear hwwx2x5x7r5
      rw [hp4]
      clear hp4
      refine hK.out _ _ hnew.drop ?_
      clear hK K
      refine rg_norm (a' := ?_) ?_ ?_
      rotate_left
      · simp only [Act.put, List.setIfInBounds_toArray, List.set_cons_zero, List.set_cons_succ]
        rfl
      refine rg_sb hnew ?_
      clear hHeld
      have hHeld := hnew
      clear hnew
      refine rg_ready [8] (by kernel_rfl) (by simp) ?_
      refine rg_one (i := 8) (N := none) (bm 9 511) rfl rfl (by kernel_rfl) (fun K hK => ?_) rg_nil
      obtain ⟨x0, x1, s0, s1, y0, y1, h2, hnew⟩ := SB.write2 p4 28 hHeld (.slice Av v.length cv) (.slice (some ⟨g, 0, none⟩) (n + 1) c2)
      have HZ := Aside0.mk h2
      clear h2
      go_simp
      refine hK.out undef _ hnew ?_
      clear hK K
      refine rg_norm (a' := ?_) ?_ ?_
      rotate_left
      · simp only [Act.put, List.setIfInBounds_toArray, List.set_cons_zero, List.set_cons_succ]
        rfl
      clear hHeld
      have hHeld := hnew
      clear hnew
      refine rg_done (by kernel_rfl) ?_
      first | (have hN : SB w _ [Box p4 #[.slice Av v.length cv, .slice (some ⟨g, 0, none⟩) (n + 1) c2] 28, Row (kAt W0) 31 (.slice (some ⟨g, 0, none⟩) (n + 1) c2) cs, Row (Kd.int .u8) 5 (.slice Av v.length cv) v, BoxO (w.heap.size + 1) 77 3 none] := HZ.out.pick [0, 1, 2, 3]) | (have hN : SB w _ [Box p4 #[.slice Av v.length cv, .slice (some ⟨g, 0, none⟩) (n + 1) c2] 28, Row (kAt W0) 31 (.slice (some ⟨g, 0, none⟩) (n + 1) c2) cs, Row (Kd.int .u8) 5 (.slice Av v.length cv) v, BoxO (w.heap.size + 1) 77 3 none] := HZ.out.pick [0, 2, 1, 3]) | (have hN : SB w _ [Box p4 #[.slice Av v.length cv, .slice (some ⟨g, 0, none⟩) (n + 1) c2] 28, Row (kAt W0) 31 (.slice (some ⟨g, 0, none⟩) (n + 1) c2) cs, Row (Kd.int .u8) 5 (.slice Av v.length cv) v, BoxO (w.heap.size + 1) 77 3 none] := HZ.out.pick [1, 0, 2, 3]) | (have hN : SB w _ [Box p4 #[.slice Av v.length cv, .slice (some ⟨g, 0, none⟩) (n + 1) c2] 28, Row (kAt W0) 31 (.slice (some ⟨g, 0, none⟩) (n + 1) c2) cs, Row (Kd.int .u8) 5 (.slice Av v.length cv) v, BoxO (w.heap.size + 1) 77 3 none] := HZ.out.pick [1, 2, 0, 3]) | (have hN : SB w _ [Box p4 #[.slice Av v.length cv, .slice (some ⟨g, 0, none⟩) (n + 1) c2] 28, Row (kAt W0) 31 (.slice (some ⟨g, 0, none⟩) (n + 1) c2) cs, Row (Kd.int .u8) 5 (.slice Av v.length cv) v, BoxO (w.heap.size + 1) 77 3 none] := HZ.out.pick [2, 0, 1, 3]) | (have hN : SB w _ [Box p4 #[.slice Av v.length cv, .slice (some ⟨g, 0, none⟩) (n + 1) c2] 28, Row (kAt W0) 31 (.slice (some ⟨g, 0, none⟩) (n + 1) c2) cs, Row (Kd.int .u8) 5 (.slice Av v.length cv) v, BoxO (w.heap.size + 1) 77 3 none] := HZ.out.pick [2, 1, 0, 3])
      clear HZ hHeld
      go_wp2
      have hN2 := hN.drew
      refine rg_startL (n := 11) (S := fun w' => SB w w' [Box p4 #[.slice Av v.length cv, .slice (some ⟨g, 0, none⟩) (n + 1) c2] 28, Row (kAt W0) 31 (.slice (some ⟨g, 0, none⟩) (n + 1) c2) cs, Row (Kd.int .u8) 5 (.slice Av v.length cv) v, BoxO (w.heap.size + 1) 77 3 none]) (bm 11 0) (by kernel_rfl) rfl (by kernel_rfl) (hN2) (fun we hwe hHeld => ?_)
      refine rg_take (i := 0) (N := some 23) (v := ?_) (a' := ?_) (bm 11 1) rfl rfl (by kernel_rfl) (fun _ _ _ h => h) hHeld (Or.inl ⟨by rfl, ?_⟩) ?_ ?_
      rotate_left
      · intro w' hw'
        have hbx := SB.boxAt p4 28 hw'
        have s0 := blk_cell hbx 0
        have s1 := blk_cell hbx 1
        have p0 := eq_true (show (0 : Int) ≤ (n : Int) by omega)
        have p1 := eq_true (show (n : Int) < (n : Int) + 1 by omega)
        have p2 : IntKind.i64.wrap (n : Int) = (n : Int) := HWN.out
        go_simp
        with_reducible rfl
      rotate_left
      · simp only [Act.put, List.setIfInBounds_toArray, List.set_cons_zero, List.set_cons_succ]
        rfl
      refine rg_take (i := 1) (N := some 24) (v := ?_) (a' := ?_) (bm 11 3) rfl rfl (by kernel_rfl) (fun _ _ _ h => h) hHeld (Or.inl ⟨by rfl, ?_⟩) ?_ ?_
      rotate_left
      · intro w' hw'
        have hbx := SB.boxAt p4 28 hw'
        have s0 := blk_cell hbx 0
        have s1 := blk_cell hbx 1
        have p0 := eq_true (show (0 : Int) ≤ (n : Int) by omega)
        have p1 := eq_true (show (n : Int) < (n : Int) + 1 by omega)
        have p2 : IntKind.i64.wrap (n : Int) = (n : Int) := HWN.out
        go_simp
        with_reducible rfl
      rotate_left
      · simp only [Act.put, List.setIfInBounds_toArray, List.set_cons_zero, List.set_cons_succ]
        rfl
      refine rg_take (i := 2) (N := some 25) (v := ?_) (a' := ?_) (bm 11 7) rfl rfl (by kernel_rfl) (fun _ _ _ h => h) hHeld (Or.inl ⟨by rfl, ?_⟩) ?_ ?_
      rotate_left
      · intro w' hw'
        have hbx := SB.boxAt p4 28 hw'
        have s0 := blk_cell hbx 0
        have s1 := blk_cell hbx 1
        have p0 := eq_true (show (0 : Int) ≤ (n : Int) by omega)
        have p1 := eq_true (show (n : Int) < (n : Int) + 1 by omega)
        have p2 : IntKind.i64.wrap (n : Int) = (n : Int) := HWN.out
        go_simp
        with_reducible rfl
      rotate_left
      · simp only [Act.put, List.setIfInBounds_toArray, List.set_cons_zero, List.set_cons_succ]
        rfl
      refine rg_take (i := 3) (N := some 26) (v := ?_) (a' := ?_) (bm 11 15) rfl rfl (by kernel_rfl) (fun _ _ _ h => h) hHeld (Or.inl ⟨by rfl, ?_⟩) ?_ ?_
      rotate_left
      · intro w' hw'
        have hbx := SB.boxAt p4 28 hw'
        have s0 := blk_cell hbx 0
        have s1 := blk_cell hbx 1
        have p0 := eq_true (show (0 : Int) ≤ (n : Int) by omega)
        have p1 := eq_true (show (n : Int) < (n : Int) + 1 by omega)
        have p2 : IntKind.i64.wrap (n : Int) = (n : Int) := HWN.out
        go_simp
        with_reducible rfl
      rotate_left
      · simp only [Act.put, List.setIfInBounds_toArray, List.set_cons_zero, List.set_cons_succ]
        rfl
      refine rg_take (i := 4) (N := some 27) (v := ?_) (a' := ?_) (bm 11 31) rfl rfl (by kernel_rfl) (fun _ _ _ h => h) hHeld (Or.inl ⟨by rfl, ?_⟩) ?_ ?_
      rotate_left
      · intro w' hw'
        have hbx := SB.boxAt p4 28 hw'
        have s0 := blk_cell hbx 0
        have s1 := blk_cell hbx 1
        have p0 := eq_true (show (0 : Int) ≤ (n : Int) by omega)
        have p1 := eq_true (show (n : Int) < (n : Int) + 1 by omega)
        have p2 : IntKind.i64.wrap (n : Int) = (n : Int) := HWN.out
        go_simp
        with_reducible rfl
      rotate_left
      · simp only [Act.put, List.setIfInBounds_toArray, List.set_cons_zero, List.set_cons_succ]
        rfl
      refine rg_take (i := 5) (N := some 28) (v := ?_) (a' := ?_) (bm 11 63) rfl rfl (by kernel_rfl) (fun _ _ _ h => h) hHeld (Or.inl ⟨by rfl, ?_⟩) ?_ ?_
      rotate_left
      · intro w' hw'
        have hbx := SB.boxAt p4 28 hw'
        have s0 := blk_cell hbx 0
        have s1 := blk_cell hbx 1
        have p0 := eq_true (show (0 : Int) ≤ (n : Int) by omega)
        have p1 := eq_true (show (n : Int) < (n : Int) + 1 by omega)
        have p2 : IntKind.i64.wrap (n : Int) = (n : Int) := HWN.out
        go_simp
        with_reducible rfl
      rotate_left
      · simp only [Act.put, List.setIfInBounds_toArray, List.set_cons_zero, List.set_cons_succ]
        rfl
      refine rg_take (i := 6) (N := some 29) (v := ?_) (a' := ?_) (bm 11 127) rfl rfl (by kernel_rfl) (fun _ _ _ h => h) hHeld (Or.inl ⟨by rfl, ?_⟩) ?_ ?_
      rotate_left
      · intro w' hw'
        have hbx := SB.boxAt p4 28 hw'
        have s0 := blk_cell hbx 0
        have s1 := blk_cell hbx 1
        have p0 := eq_true (show (0 : Int) ≤ (n : Int) by omega)
        have p1 := eq_true (show (n : Int) < (n : Int) + 1 by omega)
        have p2 : IntKind.i64.wrap (n : Int) = (n : Int) := HWN.out
        go_simp
        with_reducible rfl
      rotate_left
      · simp only [Act.put, List.setIfInBounds_toArray, List.set_cons_zero, List.set_cons_succ]
        rfl
      refine rg_take (i := 7) (N := some 30) (v := ?_) (a' := ?_) (bm 11 255) rfl rfl (by kernel_rfl) (fun _ _ _ h => h) hHeld (Or.inl ⟨by rfl, ?_⟩) ?_ ?_
      rotate_left
      · intro w' hw'
        have hbx := SB.boxAt p4 28 hw'
        have s0 := blk_cell hbx 0
        have s1 := blk_cell hbx 1
        have p0 := eq_true (show (0 : Int) ≤ (n : Int) by omega)
        have p1 := eq_true (show (n : Int) < (n : Int) + 1 by omega)
        have p2 : IntKind.i64.wrap (n : Int) = (n : Int) := HWN.out
        go_simp
        with_reducible rfl
      rotate_left
      · simp only [Act.put, List.setIfInBounds_toArray, List.set_cons_zero, List.set_cons_succ]
        rfl
      refine rg_take (i := 8) (N := some 31) (v := ?_) (a' := ?_) (bm 11 511) rfl rfl (by kernel_rfl) (fun _ _ _ h => h) hHeld (Or.inl ⟨by rfl, ?_⟩) ?_ ?_
      rotate_left
      · intro w' hw'
        have hbx := SB.boxAt p4 28 hw'
        have s0 := blk_cell hbx 0
        have s1 := blk_cell hbx 1
        have p0 := eq_true (show (0 : Int) ≤ (n : Int) by omega)
        have p1 := eq_true (show (n : Int) < (n : Int) + 1 by omega)
        have p2 : IntKind.i64.wrap (n : Int) = (n : Int) := HWN.out
        go_simp
        with_reducible rfl
      rotate_left
      · simp only [Act.put, List.setIfInBounds_toArray, List.set_cons_zero, List.set_cons_succ]
        rfl
      refine rg_ready [9] (by kernel_rfl) (by simp) ?_
      refine rg_one (i := 9) (N := none) (bm 11 1023) rfl rfl (by kernel_rfl) (fun K hK => ?_) rg_nil
      obtain ⟨x0, x1, x2, s0, s1, s2, y0, y1, y2, h2, hnew⟩ := SB.write3 (w.heap.size + 1) 77 hHeld (.slice Av v.length cv) (.slice (some ⟨g, 0, none⟩) (n + 1) c2) (.pointer (some ⟨g, n * 4, none⟩))
      have HY := Aside0.mk h2
      clear h2
      go_simp
      refine hK.out undef _ hnew ?_
      clear hK K
      refine rg_norm (a' := ?_) ?_ ?_
      rotate_left
      · simp only [Act.put, List.setIfInBounds_toArray, List.set_cons_zero, List.set_cons_succ]
        rfl
      clear hHeld
      have hHeld := hnew
      clear hnew
      refine rg_take (i := 10) (N := some 3) (v := ?_) (a' := ?_) (bm 11 2047) rfl rfl (by kernel_rfl) (fun _ _ _ h => h) hHeld (Or.inl ⟨by rfl, ?_⟩) ?_ ?_
      rotate_left
      · intro w' hw'
        have hbx := SB.boxAt p4 28 hw'
        have s0 := blk_cell hbx 0
        have s1 := blk_cell hbx 1
        have p0 := eq_true (show (0 : Int) ≤ (n : Int) by omega)
        have p1 := eq_true (show (n : Int) < (n : Int) + 1 by omega)
        have p2 : IntKind.i64.wrap (n : Int) = (n : Int) := HWN.out
        go_simp
        with_reducible rfl
      rotate_left
      · simp only [Act.put, List.setIfInBounds_toArray, List.set_cons_zero, List.set_cons_succ]
        rfl
      refine rg_done (by kernel_rfl) ?_
      have HX := Aside0.mk (SB.boxOAt (w.heap.size + 1) 77 3 HY.out)
      have z0 := blk_cell HX.out 0
      have z1 := blk_cell HX.out 1
      have z2 := blk_cell HX.out 2
      go_wp2
      exact bodyPost_ret (v := .tuple #[.agg #[.slice Av v.length cv, .slice (some ⟨g, 0, none⟩) (n + 1) c2, .pointer (some ⟨g, n * 4, none⟩)], .int .i64 0]) (by simp [results, Try.results40, go_sem, *]) rfl ⟨Av, cv, g, c2, rfl, HY.out.pick [1, 2]⟩
    refine rg_one (i := 7) (N := some 4) (bm 9 159) rfl rfl (by kernel_rfl) (fun K hK => ?_) ?_
    · skip
      refine valueL_ (w1 := ?_) (v := ?_) (by rfl) rfl ?_ ?_
      rotate_left 2
      · go_simp
        constructor
        · rfl
        · rfl
      intro wx2x7r5 hwwx2x7r5
      obtain ⟨p4, hnew, hp4⟩ := hHeld.boxN #[.slice none 0 0, .slice none 0 0] 28 2
      replace hnew : SB w wx2x7r5 _ := hwwx2x7r5 ▸ hnew
      clear hwwx2x7r5
      rw [hp4]
      clear hp4
      refine hK.out _ _ hnew.drop ?_
      clear hK K
      refine rg_norm (a' := ?_) ?_ ?_
      rotate_left
      · simp only [Act.put, List.setIfInBounds_toArray, List.set_cons_zero, List.set_cons_succ]
        rfl
      refine rg_sb hnew ?_
      clear hHeld
      have hHeld := hnew
      clear hnew
      refine rg_ready [5] (by kernel_rfl) (by simp) ?_
      refine rg_one (i := 5) (N := some 21) (bm 9 191) rfl rfl (by kernel_rfl) (fun K hK => ?_) rg_nil
      go_simp
      go_at_call 38
      with_reducible refine (HCC.out _ hHeld.bel).mono ?_
      rintro e wx2x7x5r5 ⟨g, c2, rfl, hr, hb⟩
      have hnew := hHeld.row hb hr
      clear hr hb
      go_wp2_with fail
      refine hK.out _ _ hnew.drop ?_
      clear hK K
      refine rg_norm (a' := ?_) ?_ ?_
      rotate_left
      · simp only [Act.put, List.setIfInBounds_toArray, List.set_cons_zero, List.set_cons_succ]
        rfl
      refine rg_sb hnew ?_
      clear hHeld
      have hHeld := hnew
      clear hnew
      refine rg_take (i := 6) (N := some 22) (v := ?_) (a' := ?_) (bm 9 255) rfl rfl (by kernel_rfl) (fun _ _ _ h => h) hHeld (Or.inl ⟨by rfl, ?_⟩) ?_ ?_
      rotate_left
      · intro w' hw'
        have hbx := SB.boxAt w.heap.size 28 hw'
        have s0 := blk_cell hbx 0
        have s1 := blk_cell hbx 1
        go_simp
        with_reducible rfl
      rotate_left
      · simp only [Act.put, List.setIfInBounds_toArray, List.set_cons_zero, List.set_cons_succ]
        rfl
      refine rg_ready [8] (by kernel_rfl) (by simp) ?_
      refine rg_one (i := 8) (N := none) (bm 9 511) rfl rfl (by kernel_rfl) (fun K hK => ?_) rg_nil
      obtain ⟨x0, x1, s0, s1, y0, y1, h2, hnew⟩ := SB.write2 p4 28 hHeld (.slice Av v.length cv) (.slice (some ⟨g, 0, none⟩) (n + 1) c2)
      have HZ := Aside0.mk h2
      clear h2
      go_simp
      refine hK.out undef _ hnew ?_
      clear hK K
      refine rg_norm (a' := ?_) ?_ ?_
      rotate_left
      · simp only [Act.put, List.setIfInBounds_toArray, List.set_cons_zero, List.set_cons_succ]
        rfl
      clear hHeld
      have hHeld := hnew
      clear hnew
      refine rg_done (by kernel_rfl) ?_
      first | (have hN : SB w _ [Box p4 #[.slice Av v.length cv, .slice (some ⟨g, 0, none⟩) (n + 1) c2] 28, Row (kAt W0) 31 (.slice (some ⟨g, 0, none⟩) (n + 1) c2) cs, Row (Kd.int .u8) 5 (.slice Av v.length cv) v, BoxO (w.heap.size + 1) 77 3 none] := HZ.out.pick [0, 1, 2, 3]) | (have hN : SB w _ [Box p4 #[.slice Av v.length cv, .slice (some ⟨g, 0, none⟩) (n + 1) c2] 28, Row (kAt W0) 31 (.slice (some ⟨g, 0, none⟩) (n + 1) c2) cs, Row (Kd.int .u8) 5 (.slice Av v.length cv) v, BoxO (w.heap.size + 1) 77 3 none] := HZ.out.pick [0, 2, 1, 3]) | (have hN : SB w _ [Box p4 #[.slice Av v.length cv, .slice (some ⟨g, 0, none⟩) (n + 1) c2] 28, Row (kAt W0) 31 (.slice (some ⟨g, 0, none⟩) (n + 1) c2) cs, Row (Kd.int .u8) 5 (.slice Av v.length cv) v, BoxO (w.heap.size + 1) 77 3 none] := HZ.out.pick [1, 0, 2, 3]) | (have hN : SB w _ [Box p4 #[.slice Av v.length cv, .slice (some ⟨g, 0, none⟩) (n + 1) c2] 28, Row (kAt W0) 31 (.slice (some ⟨g, 0, none⟩) (n + 1) c2) cs, Row (Kd.int .u8) 5 (.slice Av v.length cv) v, BoxO (w.heap.size + 1) 77 3 none] := HZ.out.pick [1, 2, 0, 3]) | (have hN : SB w _ [Box p4 #[.slice Av v.length cv, .slice (some ⟨g, 0, none⟩) (n + 1) c2] 28, Row (kAt W0) 31 (.slice (some ⟨g, 0, none⟩) (n + 1) c2) cs, Row (Kd.int .u8) 5 (.slice Av v.length cv) v, BoxO (w.heap.size + 1) 77 3 none] := HZ.out.pick [2, 0, 1, 3]) | (have hN : SB w _ [Box p4 #[.slice Av v.length cv, .slice (some ⟨g, 0, none⟩) (n + 1) c2] 28, Row (kAt W0) 31 (.slice (some ⟨g, 0, none⟩) (n + 1) c2) cs, Row (Kd.int .u8) 5 (.slice Av v.length cv) v, BoxO (w.heap.size + 1) 77 3 none] := HZ.out.pick [2, 1, 0, 3])
      clear HZ hHeld
      go_wp2
      have hN2 := hN.drew
      refine rg_startL (n := 11) (S := fun w' => SB w w' [Box p4 #[.slice Av v.length cv, .slice (some ⟨g, 0, none⟩) (n + 1) c2] 28, Row (kAt W0) 31 (.slice (some ⟨g, 0, none⟩) (n + 1) c2) cs, Row (Kd.int .u8) 5 (.slice Av v.length cv) v, BoxO (w.heap.size + 1) 77 3 none]) (bm 11 0) (by kernel_rfl) rfl (by kernel_rfl) (hN2) (fun we hwe hHeld => ?_)
      refine rg_take (i := 0) (N := some 23) (v := ?_) (a' := ?_) (bm 11 1) rfl rfl (by kernel_rfl) (fun _ _ _ h => h) hHeld (Or.inl ⟨by rfl, ?_⟩) ?_ ?_
      rotate_left
      · intro w' hw'
        have hbx := SB.boxAt p4 28 hw'
        have s0 := blk_cell hbx 0
        have s1 := blk_cell hbx 1
        have p0 := eq_true (show (0 : Int) ≤ (n : Int) by omega)
        have p1 := eq_true (show (n : Int) < (n : Int) + 1 by omega)
        have p2 : IntKind.i64.wrap (n : Int) = (n : Int) := HWN.out
        go_simp
        with_reducible rfl
      rotate_left
      · simp only [Act.put, List.setIfInBounds_toArray, List.set_cons_zero, List.set_cons_succ]
        rfl
      refine rg_take (i := 1) (N := some 24) (v := ?_) (a' := ?_) (bm 11 3) rfl rfl (by kernel_rfl) (fun _ _ _ h => h) hHeld (Or.inl ⟨by rfl, ?_⟩) ?_ ?_
      rotate_left
      · intro w' hw'
        have hbx := SB.boxAt p4 28 hw'
        have s0 := blk_cell hbx 0
        have s1 := blk_cell hbx 1
        have p0 := eq_true (show (0 : Int) ≤ (n : Int) by omega)
        have p1 := eq_true (show (n : Int) < (n : Int) + 1 by omega)
        have p2 : IntKind.i64.wrap (n : Int) = (n : Int) := HWN.out
        go_simp
        with_reducible rfl
      rotate_left
      · simp only [Act.put, List.setIfInBounds_toArray, List.set_cons_zero, List.set_cons_succ]
        rfl
      refine rg_take (i := 2) (N := some 25) (v := ?_) (a' := ?_) (bm 11 7) rfl rfl (by kernel_rfl) (fun _ _ _ h => h) hHeld (Or.inl ⟨by rfl, ?_⟩) ?_ ?_
      rotate_left
      · intro w' hw'
        have hbx := SB.boxAt p4 28 hw'
        have s0 := blk_cell hbx 0
        have s1 := blk_cell hbx 1
        have p0 := eq_true (show (0 : Int) ≤ (n : Int) by omega)
        have p1 := eq_true (show (n : Int) < (n : Int) + 1 by omega)
        have p2 : IntKind.i64.wrap (n : Int) = (n : Int) := HWN.out
        go_simp
        with_reducible rfl
      rotate_left
      · simp only [Act.put, List.setIfInBounds_toArray, List.set_cons_zero, List.set_cons_succ]
        rfl
      refine rg_take (i := 3) (N := some 26) (v := ?_) (a' := ?_) (bm 11 15) rfl rfl (by kernel_rfl) (fun _ _ _ h => h) hHeld (Or.inl ⟨by rfl, ?_⟩) ?_ ?_
      rotate_left
      · intro w' hw'
        have hbx := SB.boxAt p4 28 hw'
        have s0 := blk_cell hbx 0
        have s1 := blk_cell hbx 1
        have p0 := eq_true (show (0 : Int) ≤ (n : Int) by omega)
        have p1 := eq_true (show (n : Int) < (n : Int) + 1 by omega)
        have p2 : IntKind.i64.wrap (n : Int) = (n : Int) := HWN.out
        go_simp
        with_reducible rfl
      rotate_left
      · simp only [Act.put, List.setIfInBounds_toArray, List.set_cons_zero, List.set_cons_succ]
        rfl
      refine rg_take (i := 4) (N := some 27) (v := ?_) (a' := ?_) (bm 11 31) rfl rfl (by kernel_rfl) (fun _ _ _ h => h) hHeld (Or.inl ⟨by rfl, ?_⟩) ?_ ?_
      rotate_left
      · intro w' hw'
        have hbx := SB.boxAt p4 28 hw'
        have s0 := blk_cell hbx 0
        have s1 := blk_cell hbx 1
        have p0 := eq_true (show (0 : Int) ≤ (n : Int) by omega)
        have p1 := eq_true (show (n : Int) < (n : Int) + 1 by omega)
        have p2 : IntKind.i64.wrap (n : Int) = (n : Int) := HWN.out
        go_simp
        with_reducible rfl
      rotate_left
      · simp only [Act.put, List.setIfInBounds_toArray, List.set_cons_zero, List.set_cons_succ]
        rfl
      refine rg_take (i := 5) (N := some 28) (v := ?_) (a' := ?_) (bm 11 63) rfl rfl (by kernel_rfl) (fun _ _ _ h => h) hHeld (Or.inl ⟨by rfl, ?_⟩) ?_ ?_
      rotate_left
      · intro w' hw'
        have hbx := SB.boxAt p4 28 hw'
        have s0 := blk_cell hbx 0
        have s1 := blk_cell hbx 1
        have p0 := eq_true (show (0 : Int) ≤ (n : Int) by omega)
        have p1 := eq_true (show (n : Int) < (n : Int) + 1 by omega)
        have p2 : IntKind.i64.wrap (n : Int) = (n : Int) := HWN.out
        go_simp
        with_reducible rfl
      rotate_left
      · simp only [Act.put, List.setIfInBounds_toArray, List.set_cons_zero, List.set_cons_succ]
        rfl
      refine rg_take (i := 6) (N := some 29) (v := ?_) (a' := ?_) (bm 11 127) rfl rfl (by kernel_rfl) (fun _ _ _ h => h) hHeld (Or.inl ⟨by rfl, ?_⟩) ?_ ?_
      rotate_left
      · intro w' hw'
        have hbx := SB.boxAt p4 28 hw'
        have s0 := blk_cell hbx 0
        have s1 := blk_cell hbx 1
        have p0 := eq_true (show (0 : Int) ≤ (n : Int) by omega)
        have p1 := eq_true (show (n : Int) < (n : Int) + 1 by omega)
        have p2 : IntKind.i64.wrap (n : Int) = (n : Int) := HWN.out
        go_simp
        with_reducible rfl
      rotate_left
      · simp only [Act.put, List.setIfInBounds_toArray, List.set_cons_zero, List.set_cons_succ]
        rfl
      refine rg_take (i := 7) (N := some 30) (v := ?_) (a' := ?_) (bm 11 255) rfl rfl (by kernel_rfl) (fun _ _ _ h => h) hHeld (Or.inl ⟨by rfl, ?_⟩) ?_ ?_
      rotate_left
      · intro w' hw'
        have hbx := SB.boxAt p4 28 hw'
        have s0 := blk_cell hbx 0
        have s1 := blk_cell hbx 1
        have p0 := eq_true (show (0 : Int) ≤ (n : Int) by omega)
        have p1 := eq_true (show (n : Int) < (n : Int) + 1 by omega)
        have p2 : IntKind.i64.wrap (n : Int) = (n : Int) := HWN.out
        go_simp
        with_reducible rfl
      rotate_left
      · simp only [Act.put, List.setIfInBounds_toArray, List.set_cons_zero, List.set_cons_succ]
        rfl
      refine rg_take (i := 8) (N := some 31) (v := ?_) (a' := ?_) (bm 11 511) rfl rfl (by kernel_rfl) (fun _ _ _ h => h) hHeld (Or.inl ⟨by rfl, ?_⟩) ?_ ?_
      rotate_left
      · intro w' hw'
        have hbx := SB.boxAt p4 28 hw'
        have s0 := blk_cell hbx 0
        have s1 := blk_cell hbx 1
        have p0 := eq_true (show (0 : Int) ≤ (n : Int) by omega)
        have p1 := eq_true (show (n : Int) < (n : Int) + 1 by omega)
        have p2 : IntKind.i64.wrap (n : Int) = (n : Int) := HWN.out
        go_simp
        with_reducible rfl
      rotate_left
      · simp only [Act.put, List.setIfInBounds_toArray, List.set_cons_zero, List.set_cons_succ]
        rfl
      refine rg_ready [9] (by kernel_rfl) (by simp) ?_
      refine rg_one (i := 9) (N := none) (bm 11 1023) rfl rfl (by kernel_rfl) (fun K hK => ?_) rg_nil
      obtain ⟨x0, x1, x2, s0, s1, s2, y0, y1, y2, h2, hnew⟩ := SB.write3 (w.heap.size + 1) 77 hHeld (.slice Av v.length cv) (.slice (some ⟨g, 0, none⟩) (n + 1) c2) (.pointer (some ⟨g, n * 4, none⟩))
      have HY := Aside0.mk h2
      clear h2
      go_simp
      refine hK.out undef _ hnew ?_
      clear hK K
      refine rg_norm (a' := ?_) ?_ ?_
      rotate_left
      · simp only [Act.put, List.setIfInBounds_toArray, List.set_cons_zero, List.set_cons_succ]
        rfl
      clear hHeld
      have hHeld := hnew
      clear hnew
      refine rg_take (i := 10) (N := some 3) (v := ?_) (a' := ?_) (bm 11 2047) rfl rfl (by kernel_rfl) (fun _ _ _ h => h) hHeld (Or.inl ⟨by rfl, ?_⟩) ?_ ?_
      rotate_left
      · intro w' hw'
        have hbx := SB.boxAt p4 28 hw'
        have s0 := blk_cell hbx 0
        have s1 := blk_cell hbx 1
        have p0 := eq_true (show (0 : Int) ≤ (n : Int) by omega)
        have p1 := eq_true (show (n : Int) < (n : Int) + 1 by omega)
        have p2 : IntKind.i64.wrap (n : Int) = (n : Int) := HWN.out
        go_simp
        with_reducible rfl
      rotate_left
      · simp only [Act.put, List.setIfInBounds_toArray, List.set_cons_zero, List.set_cons_succ]
        rfl
      refine rg_done (by kernel_rfl) ?_
      have HX := Aside0.mk (SB.boxOAt (w.heap.size + 1) 77 3 HY.out)
      have z0 := blk_cell HX.out 0
      have z1 := blk_cell HX.out 1
      have z2 := blk_cell HX.out 2
      go_wp2
      exact bodyPost_ret (v := .tuple #[.agg #[.slice Av v.length cv, .slice (some ⟨g, 0, none⟩) (n + 1) c2, .pointer (some ⟨g, n * 4, none⟩)], .int .i64 0]) (by simp [results, Try.results40, go_sem, *]) rfl ⟨Av, cv, g, c2, rfl, HY.out.pick [1, 2]⟩
    exact rg_nil
  refine rg_one (i := 7) (N := some 4) (bm 9 155) rfl rfl (by kernel_rfl) (fun K hK => ?_) ?_
  · skip
    refine valueL_ (w1 := ?_) (v := ?_) (by rfl) rfl ?_ ?_
    rotate_left 2
    · go_simp
      constructor
      · rfl
      · rfl
    intro wx7r5 hwwx7r5
    obtain ⟨p4, hnew, hp4⟩ := hHeld.boxN #[.slice none 0 0, .slice none 0 0] 28 2
    replace hnew : SB w wx7r5 _ := hwwx7r5 ▸ hnew
    clear hwwx7r5
    rw [hp4]
    clear hp4
    refine hK.out _ _ hnew.drop ?_
    clear hK K
    refine rg_norm (a' := ?_) ?_ ?_
    rotate_left
    · simp only [Act.put, List.setIfInBounds_toArray, List.set_cons_zero, List.set_cons_succ]
      rfl
    refine rg_sb hnew ?_
    clear hHeld
    have hHeld := hnew
    clear hnew
    refine rg_ready [2] (by kernel_rfl) (by simp) ?_
    refine rg_one (i := 2) (N := some 18) (bm 9 159) rfl rfl (by kernel_rfl) (fun K hK => ?_) rg_nil
    go_simp
    go_at_call 39
    with_reducible refine (bytes_Clone.calls A0 c0 v v _ (Kd.C_below HH.out.hv hHeld.bel) HH.out.lv hcl).mono ?_
    rintro e wx7x2r5 ⟨v1, rfl, hr, hb⟩
    obtain ⟨Av, cv, rfl⟩ := Kd.R_slice hr
    have hnew := hHeld.row hb hr
    clear hr hb
    go_wp2_with fail
    refine hK.out _ _ hnew.drop ?_
    clear hK K
    refine rg_norm (a' := ?_) ?_ ?_
    rotate_left
    · simp only [Act.put, List.setIfInBounds_toArray, List.set_cons_zero, List.set_cons_succ]
      rfl
    refine rg_sb hnew ?_
    clear hHeld
    have hHeld := hnew
    clear hnew
    refine rg_ready [5] (by kernel_rfl) (by simp) ?_
    refine rg_one (i := 5) (N := some 21) (bm 9 191) rfl rfl (by kernel_rfl) (fun K hK => ?_) rg_nil
    go_simp
    go_at_call 38
    with_reducible refine (HCC.out _ hHeld.bel).mono ?_
    rintro e wx7x2x5r5 ⟨g, c2, rfl, hr, hb⟩
    have hnew := hHeld.row hb hr
    clear hr hb
    go_wp2_with fail
    refine hK.out _ _ hnew.drop ?_
    clear hK K
    refine rg_norm (a' := ?_) ?_ ?_
    rotate_left
    · simp only [Act.put, List.setIfInBounds_toArray, List.set_cons_zero, List.set_cons_succ]
      rfl
    refine rg_sb hnew ?_
    clear hHeld
    have hHeld := hnew
    clear hnew
    refine rg_take (i := 6) (N := some 22) (v := ?_) (a' := ?_) (bm 9 255) rfl rfl (by kernel_rfl) (fun _ _ _ h => h) hHeld (Or.inl ⟨by rfl, ?_⟩) ?_ ?_
    rotate_left
    · intro w' hw'
      have hbx := SB.boxAt w.heap.size 28 hw'
      have s0 := blk_cell hbx 0
      have s1 := blk_cell hbx 1
      go_simp
      with_reducible rfl
    rotate_left
    · simp only [Act.put, List.setIfInBounds_toArray, List.set_cons_zero, List.set_cons_succ]
      rfl
    refine rg_ready [8] (by kernel_rfl) (by simp) ?_
    refine rg_one (i := 8) (N := none) (bm 9 511) rfl rfl (by kernel_rfl) (fun K hK => ?_) rg_nil
    obtain ⟨x0, x1, s0, s1, y0, y1, h2, hnew⟩ := SB.write2 p4 28 hHeld (.slice Av v.length cv) (.slice (some ⟨g, 0, none⟩) (n + 1) c2)
    have HZ := Aside0.mk h2
    clear h2
    go_simp
    refine hK.out undef _ hnew ?_
    clear hK K
    refine rg_norm (a' := ?_) ?_ ?_
    rotate_left
    · simp only [Act.put, List.setIfInBounds_toArray, List.set_cons_zero, List.set_cons_succ]
      rfl
    clear hHeld
    have hHeld := hnew
    clear hnew
    refine rg_done (by kernel_rfl) ?_
    first | (have hN : SB w _ [Box p4 #[.slice Av v.length cv, .slice (some ⟨g, 0, none⟩) (n + 1) c2] 28, Row (kAt W0) 31 (.slice (some ⟨g, 0, none⟩) (n + 1) c2) cs, Row (Kd.int .u8) 5 (.slice Av v.length cv) v, BoxO (w.heap.size + 1) 77 3 none] := HZ.out.pick [0, 1, 2, 3]) | (have hN : SB w _ [Box p4 #[.slice Av v.length cv, .slice (some ⟨g, 0, none⟩) (n + 1) c2] 28, Row (kAt W0) 31 (.slice (some ⟨g, 0, none⟩) (n + 1) c2) cs, Row (Kd.int .u8) 5 (.slice Av v.length cv) v, BoxO (w.heap.size + 1) 77 3 none] := HZ.out.pick [0, 2, 1, 3]) | (have hN : SB w _ [Box p4 #[.slice Av v.length cv, .slice (some ⟨g, 0, none⟩) (n + 1) c2] 28, Row (kAt W0) 31 (.slice (some ⟨g, 0, none⟩) (n + 1) c2) cs, Row (Kd.int .u8) 5 (.slice Av v.length cv) v, BoxO (w.heap.size + 1) 77 3 none] := HZ.out.pick [1, 0, 2, 3]) | (have hN : SB w _ [Box p4 #[.slice Av v.length cv, .slice (some ⟨g, 0, none⟩) (n + 1) c2] 28, Row (kAt W0) 31 (.slice (some ⟨g, 0, none⟩) (n + 1) c2) cs, Row (Kd.int .u8) 5 (.slice Av v.length cv) v, BoxO (w.heap.size + 1) 77 3 none] := HZ.out.pick [1, 2, 0, 3]) | (have hN : SB w _ [Box p4 #[.slice Av v.length cv, .slice (some ⟨g, 0, none⟩) (n + 1) c2] 28, Row (kAt W0) 31 (.slice (some ⟨g, 0, none⟩) (n + 1) c2) cs, Row (Kd.int .u8) 5 (.slice Av v.length cv) v, BoxO (w.heap.size + 1) 77 3 none] := HZ.out.pick [2, 0, 1, 3]) | (have hN : SB w _ [Box p4 #[.slice Av v.length cv, .slice (some ⟨g, 0, none⟩) (n + 1) c2] 28, Row (kAt W0) 31 (.slice (some ⟨g, 0, none⟩) (n + 1) c2) cs, Row (Kd.int .u8) 5 (.slice Av v.length cv) v, BoxO (w.heap.size + 1) 77 3 none] := HZ.out.pick [2, 1, 0, 3])
    clear HZ hHeld
    go_wp2
    have hN2 := hN.drew
    refine rg_startL (n := 11) (S := fun w' => SB w w' [Box p4 #[.slice Av v.length cv, .slice (some ⟨g, 0, none⟩) (n + 1) c2] 28, Row (kAt W0) 31 (.slice (some ⟨g, 0, none⟩) (n + 1) c2) cs, Row (Kd.int .u8) 5 (.slice Av v.length cv) v, BoxO (w.heap.size + 1) 77 3 none]) (bm 11 0) (by kernel_rfl) rfl (by kernel_rfl) (hN2) (fun we hwe hHeld => ?_)
    refine rg_take (i := 0) (N := some 23) (v := ?_) (a' := ?_) (bm 11 1) rfl rfl (by kernel_rfl) (fun _ _ _ h => h) hHeld (Or.inl ⟨by rfl, ?_⟩) ?_ ?_
    rotate_left
    · intro w' hw'
      have hbx := SB.boxAt p4 28 hw'
      have s0 := blk_cell hbx 0
      have s1 := blk_cell hbx 1
      have p0 := eq_true (show (0 : Int) ≤ (n : Int) by omega)
      have p1 := eq_true (show (n : Int) < (n : Int) + 1 by omega)
      have p2 : IntKind.i64.wrap (n : Int) = (n : Int) := HWN.out
      go_simp
      with_reducible rfl
    rotate_left
    · simp only [Act.put, List.setIfInBounds_toArray, List.set_cons_zero, List.set_cons_succ]
      rfl
    refine rg_take (i := 1) (N := some 24) (v := ?_) (a' := ?_) (bm 11 3) rfl rfl (by kernel_rfl) (fun _ _ _ h => h) hHeld (Or.inl ⟨by rfl, ?_⟩) ?_ ?_
    rotate_left
    · intro w' hw'
      have hbx := SB.boxAt p4 28 hw'
      have s0 := blk_cell hbx 0
      have s1 := blk_cell hbx 1
      have p0 := eq_true (show (0 : Int) ≤ (n : Int) by omega)
      have p1 := eq_true (show (n : Int) < (n : Int) + 1 by omega)
      have p2 : IntKind.i64.wrap (n : Int) = (n : Int) := HWN.out
      go_simp
      with_reducible rfl
    rotate_left
    · simp only [Act.put, List.setIfInBounds_toArray, List.set_cons_zero, List.set_cons_succ]
      rfl
    refine rg_take (i := 2) (N := some 25) (v := ?_) (a' := ?_) (bm 11 7) rfl rfl (by kernel_rfl) (fun _ _ _ h => h) hHeld (Or.inl ⟨by rfl, ?_⟩) ?_ ?_
    rotate_left
    · intro w' hw'
      have hbx := SB.boxAt p4 28 hw'
      have s0 := blk_cell hbx 0
      have s1 := blk_cell hbx 1
      have p0 := eq_true (show (0 : Int) ≤ (n : Int) by omega)
      have p1 := eq_true (show (n : Int) < (n : Int) + 1 by omega)
      have p2 : IntKind.i64.wrap (n : Int) = (n : Int) := HWN.out
      go_simp
      with_reducible rfl
    rotate_left
    · simp only [Act.put, List.setIfInBounds_toArray, List.set_cons_zero, List.set_cons_succ]
      rfl
    refine rg_take (i := 3) (N := some 26) (v := ?_) (a' := ?_) (bm 11 15) rfl rfl (by kernel_rfl) (fun _ _ _ h => h) hHeld (Or.inl ⟨by rfl, ?_⟩) ?_ ?_
    rotate_left
    · intro w' hw'
      have hbx := SB.boxAt p4 28 hw'
      have s0 := blk_cell hbx 0
      have s1 := blk_cell hbx 1
      have p0 := eq_true (show (0 : Int) ≤ (n : Int) by omega)
      have p1 := eq_true (show (n : Int) < (n : Int) + 1 by omega)
      have p2 : IntKind.i64.wrap (n : Int) = (n : Int) := HWN.out
      go_simp
      with_reducible rfl
    rotate_left
    · simp only [Act.put, List.setIfInBounds_toArray, List.set_cons_zero, List.set_cons_succ]
      rfl
    refine rg_take (i := 4) (N := some 27) (v := ?_) (a' := ?_) (bm 11 31) rfl rfl (by kernel_rfl) (fun _ _ _ h => h) hHeld (Or.inl ⟨by rfl, ?_⟩) ?_ ?_
    rotate_left
    · intro w' hw'
      have hbx := SB.boxAt p4 28 hw'
      have s0 := blk_cell hbx 0
      have s1 := blk_cell hbx 1
      have p0 := eq_true (show (0 : Int) ≤ (n : Int) by omega)
      have p1 := eq_true (show (n : Int) < (n : Int) + 1 by omega)
      have p2 : IntKind.i64.wrap (n : Int) = (n : Int) := HWN.out
      go_simp
      with_reducible rfl
    rotate_left
    · simp only [Act.put, List.setIfInBounds_toArray, List.set_cons_zero, List.set_cons_succ]
      rfl
    refine rg_take (i := 5) (N := some 28) (v := ?_) (a' := ?_) (bm 11 63) rfl rfl (by kernel_rfl) (fun _ _ _ h => h) hHeld (Or.inl ⟨by rfl, ?_⟩) ?_ ?_
    rotate_left
    · intro w' hw'
      have hbx := SB.boxAt p4 28 hw'
      have s0 := blk_cell hbx 0
      have s1 := blk_cell hbx 1
      have p0 := eq_true (show (0 : Int) ≤ (n : Int) by omega)
      have p1 := eq_true (show (n : Int) < (n : Int) + 1 by omega)
      have p2 : IntKind.i64.wrap (n : Int) = (n : Int) := HWN.out
      go_simp
      with_reducible rfl
    rotate_left
    · simp only [Act.put, List.setIfInBounds_toArray, List.set_cons_zero, List.set_cons_succ]
      rfl
    refine rg_take (i := 6) (N := some 29) (v := ?_) (a' := ?_) (bm 11 127) rfl rfl (by kernel_rfl) (fun _ _ _ h => h) hHeld (Or.inl ⟨by rfl, ?_⟩) ?_ ?_
    rotate_left
    · intro w' hw'
      have hbx := SB.boxAt p4 28 hw'
      have s0 := blk_cell hbx 0
      have s1 := blk_cell hbx 1
      have p0 := eq_true (show (0 : Int) ≤ (n : Int) by omega)
      have p1 := eq_true (show (n : Int) < (n : Int) + 1 by omega)
      have p2 : IntKind.i64.wrap (n : Int) = (n : Int) := HWN.out
      go_simp
      with_reducible rfl
    rotate_left
    · simp only [Act.put, List.setIfInBounds_toArray, List.set_cons_zero, List.set_cons_succ]
      rfl
    refine rg_take (i := 7) (N := some 30) (v := ?_) (a' := ?_) (bm 11 255) rfl rfl (by kernel_rfl) (fun _ _ _ h => h) hHeld (Or.inl ⟨by rfl, ?_⟩) ?_ ?_
    rotate_left
    · intro w' hw'
      have hbx := SB.boxAt p4 28 hw'
      have s0 := blk_cell hbx 0
      have s1 := blk_cell hbx 1
      have p0 := eq_true (show (0 : Int) ≤ (n : Int) by omega)
      have p1 := eq_true (show (n : Int) < (n : Int) + 1 by omega)
      have p2 : IntKind.i64.wrap (n : Int) = (n : Int) := HWN.out
      go_simp
      with_reducible rfl
    rotate_left
    · simp only [Act.put, List.setIfInBounds_toArray, List.set_cons_zero, List.set_cons_succ]
      rfl
    refine rg_take (i := 8) (N := some 31) (v := ?_) (a' := ?_) (bm 11 511) rfl rfl (by kernel_rfl) (fun _ _ _ h => h) hHeld (Or.inl ⟨by rfl, ?_⟩) ?_ ?_
    rotate_left
    · intro w' hw'
      have hbx := SB.boxAt p4 28 hw'
      have s0 := blk_cell hbx 0
      have s1 := blk_cell hbx 1
      have p0 := eq_true (show (0 : Int) ≤ (n : Int) by omega)
      have p1 := eq_true (show (n : Int) < (n : Int) + 1 by omega)
      have p2 : IntKind.i64.wrap (n : Int) = (n : Int) := HWN.out
      go_simp
      with_reducible rfl
    rotate_left
    · simp only [Act.put, List.setIfInBounds_toArray, List.set_cons_zero, List.set_cons_succ]
      rfl
    refine rg_ready [9] (by kernel_rfl) (by simp) ?_
    refine rg_one (i := 9) (N := none) (bm 11 1023) rfl rfl (by kernel_rfl) (fun K hK => ?_) rg_nil
    obtain ⟨x0, x1, x2, s0, s1, s2, y0, y1, y2, h2, hnew⟩ := SB.write3 (w.heap.size + 1) 77 hHeld (.slice Av v.length cv) (.slice (some ⟨g, 0, none⟩) (n + 1) c2) (.pointer (some ⟨g, n * 4, none⟩))
    have HY := Aside0.mk h2
    clear h2
    go_simp
    refine hK.out undef _ hnew ?_
    clear hK K
    refine rg_norm (a' := ?_) ?_ ?_
    rotate_left
    · simp only [Act.put, List.setIfInBounds_toArray, List.set_cons_zero, List.set_cons_succ]
      rfl
    clear hHeld
    have hHeld := hnew
    clear hnew
    refine rg_take (i := 10) (N := some 3) (v := ?_) (a' := ?_) (bm 11 2047) rfl rfl (by kernel_rfl) (fun _ _ _ h => h) hHeld (Or.inl ⟨by rfl, ?_⟩) ?_ ?_
    rotate_left
    · intro w' hw'
      have hbx := SB.boxAt p4 28 hw'
      have s0 := blk_cell hbx 0
      have s1 := blk_cell hbx 1
      have p0 := eq_true (show (0 : Int) ≤ (n : Int) by omega)
      have p1 := eq_true (show (n : Int) < (n : Int) + 1 by omega)
      have p2 : IntKind.i64.wrap (n : Int) = (n : Int) := HWN.out
      go_simp
      with_reducible rfl
    rotate_left
    · simp only [Act.put, List.setIfInBounds_toArray, List.set_cons_zero, List.set_cons_succ]
      rfl
    refine rg_done (by kernel_rfl) ?_
    have HX := Aside0.mk (SB.boxOAt (w.heap.size + 1) 77 3 HY.out)
    have z0 := blk_cell HX.out 0
    have z1 := blk_cell HX.out 1
    have z2 := blk_cell HX.out 2
    go_wp2
    exact bodyPost_ret (v := .tuple #[.agg #[.slice Av v.length cv, .slice (some ⟨g, 0, none⟩) (n + 1) c2, .pointer (some ⟨g, n * 4, none⟩)], .int .i64 0]) (by simp [results, Try.results40, go_sem, *]) rfl ⟨Av, cv, g, c2, rfl, HY.out.pick [1, 2]⟩
  exact rg_nil
theorem SL.append {w : World} {L2 : List As} {F2 : Nat → Prop} (h2 : SL L2 w F2) : ∀ {L1 : List As} {F1 : Nat → Prop}, SL L1 w F1 → (∀ k, F1 k → ¬ F2 k) → SL (L1 ++ L2) w (fun k => F1 k ∨ F2 k)
  | [], F1, h1, _ => h2.congr (fun k => ⟨fun h => h.elim (fun h => absurd h (h1 k)) id, .inr⟩)
  | A :: L1, F1, ⟨Fa, Fl, ha, hl, hd, he⟩, hdd => ⟨Fa, fun k => Fl k ∨ F2 k, ha, SL.append h2 hl (fun k hk => hdd k ((he k).2 (.inr hk))), fun k hk h => h.elim (hd k hk) (hdd k ((he k).2 (.inl hk))), fun k => by show (F1 k ∨ F2 k) ↔ (Fa k ∨ (Fl k ∨ F2 k)); rw [he k, or_assoc]⟩
/-- What a call has made, beside what is held. -/
theorem SB.join {w0 w w1 : World} {L L1 : List As} (h : SB w0 w L) (h1 : SB w w1 L1) : SB w0 w1 (L1 ++ L) := by
  obtain ⟨hb, F, hl, hF⟩ := h
  obtain ⟨hb1, F1, hl1, hF1⟩ := h1
  refine ⟨hb.trans (hb1.mono hb.size), fun k => F1 k ∨ F k, SL.append (hl.mv (fun k hk => hb1.block k (hl.lt k hk))) hl1 (fun k hk h => by have := hF1 k hk; have := hl.lt k h; omega), fun k hk => hk.elim (fun h => Nat.le_trans hb.size (hF1 k h)) (hF k)⟩
theorem stkBegin {w0 w : World} {L : List As} (hS : SB w0 w L) {A0 A1 : Option Addr} {c0 c1 : Nat} {v : List Int} {cs : List S31} (h : HoldS w0 A0 c0 A1 c1 v cs) (hm : modest v cs) (hsane : kSane v cs = true) (n : Nat) (hn : cs.length = n + 1) :
    Calls Try.prog 40 #[.agg #[.slice A0 v.length c0, .slice A1 cs.length c1]] w fun e w' => ∃ Av cv g c2, e = .returned (.tuple #[.agg #[.slice Av v.length cv, .slice (some ⟨g, 0, none⟩) (n + 1) c2, .pointer (some ⟨g, n * 4, none⟩)], .int .i64 0]) ∧
      SB w0 w' (Row (kAt w0) 31 (.slice (some ⟨g, 0, none⟩) (n + 1) c2) cs :: Row (Kd.int .u8) 5 (.slice Av v.length cv) v :: L) := by
  refine (stkBegin_ h hS.bel hm hsane n hn).mono ?_
  rintro e w' ⟨Av, cv, g, c2, rfl, h1⟩
  exact ⟨Av, cv, g, c2, rfl, hS.join h1⟩
theorem holdNil (w : World) : HoldS w none 0 none 0 [] [] := ⟨⟨rfl, by simp, fun h => by simp at h⟩, ⟨rfl, by simp, fun h => by simp at h⟩, Nat.le_refl _, Nat.le_refl _⟩
end Go.Proofs.Ytagblobimoedcaa.G
