/- Package host's laws: replies and calls as the document's, and what is small. -/
import Derived.Deep.DeepMust
import Derived.Test.YtbjglicdamenhaaHstH
import Derived.Test.YtbjglicdamenhaaHstI
import Derived.Test.YtbjglicdamenhaaHstJ
import Derived.Test.YtbjglicdamenhaaG2
namespace Go.Proofs.Ytbjglicdamenhaa.G
open Go.RowKit Go.Proofs.YtbjglicdamenhaaW.PrintWords Go.Proofs.YtbjglicdamenhaaW.PrintLast Go.Proofs.YtbjglicdamenhaaW.PrintMore
set_option linter.unusedVariables false
set_option linter.unusedSimpArgs false
theorem wrap64_id {n : Int} (h0 : -9223372036854775808 ≤ n) (h1 : n < 9223372036854775808) : wrap64 n = n := by
  unfold wrap64
  omega
theorem rd82 {l : List S82} {t : Nat} (h : t < l.length) : rd_T82 l (t : Int) = l[t] := by
  unfold rd_T82
  rw [Int.toNat_natCast, List.getD_eq_getElem?_getD, List.getElem?_eq_getElem h]
  rfl
theorem rd80 {l : List S80} {t : Nat} (h : t < l.length) : rd_T80 l (t : Int) = l[t] := by
  unfold rd_T80
  rw [Int.toNat_natCast, List.getD_eq_getElem?_getD, List.getElem?_eq_getElem h]
  rfl
theorem rd40 {l : List S40} {t : Nat} (h : t < l.length) : rd_T40 l (t : Int) = l[t] := by
  unfold rd_T40
  rw [Int.toNat_natCast, List.getD_eq_getElem?_getD, List.getElem?_eq_getElem h]
  rfl
theorem rd99 {l : List S99} {t : Nat} (h : t < l.length) : rd_T99 l (t : Int) = l[t] := by
  unfold rd_T99
  rw [Int.toNat_natCast, List.getD_eq_getElem?_getD, List.getElem?_eq_getElem h]
  rfl
def ou (x : S82) : S86 := ⟨x.f0, x.f1, x.f2, x.f3, x.f4, x.f5⟩
theorem ours_l0 (l : List S82) (hl : l.length ≤ 1000000000) : ∀ (k i : Nat), i ≤ l.length → l.length < i + k → avocetlaw16_ours.l0 k l ((l.take i).map ou) i = some (l.map ou)
  | 0, i, h1, h => by omega
  | k + 1, i, h1, h => by
    unfold avocetlaw16_ours.l0
    by_cases hi : (i : Int) < (l.length : Int)
    · have hil : i < l.length := by omega
      rw [if_pos hi, if_pos (by omega), if_pos (by simp; omega), rd82 hil, wrap64_id (by omega) (by omega)]
      have e : (l.take i).map ou ++ [(⟨l[i].f0, l[i].f1, l[i].f2, l[i].f3, l[i].f4, l[i].f5⟩ : S86)] = (l.take (i + 1)).map ou := by rw [List.take_succ_eq_append_getElem hil, List.map_append]; rfl
      rw [e]
      exact ours_l0 l hl k (i + 1) (by omega) (by omega)
    · rw [if_neg hi, List.take_of_length_le (by omega)]
theorem ours_f (l : List S82) (hl : l.length ≤ 1000000000) : avocetlaw16_ours.f (l.length + 1) l = some (l.map ou) := ours_l0 l hl _ 0 (by omega) (by omega)
def th (x : S80) : S99 := ⟨x.f0, x.f1, x.f2, x.f3⟩
theorem theirs_l0 (l : List S80) (hl : l.length ≤ 1000000000) : ∀ (k i : Nat), i ≤ l.length → l.length < i + k → avocetlaw16_theirs.l0 k l ((l.take i).map th) i = some (l.map th)
  | 0, i, h1, h => by omega
  | k + 1, i, h1, h => by
    unfold avocetlaw16_theirs.l0
    by_cases hi : (i : Int) < (l.length : Int)
    · have hil : i < l.length := by omega
      rw [if_pos hi, if_pos (by omega), if_pos (by simp; omega), rd80 hil, wrap64_id (by omega) (by omega)]
      have e : (l.take i).map th ++ [(⟨l[i].f0, l[i].f1, l[i].f2, l[i].f3⟩ : S99)] = (l.take (i + 1)).map th := by rw [List.take_succ_eq_append_getElem hil, List.map_append]; rfl
      rw [e]
      exact theirs_l0 l hl k (i + 1) (by omega) (by omega)
    · rw [if_neg hi, List.take_of_length_le (by omega)]
theorem theirs_f (l : List S80) (hl : l.length ≤ 1000000000) : avocetlaw16_theirs.f (l.length + 1) l = some (l.map th) := theirs_l0 l hl _ 0 (by omega) (by omega)
theorem words_l0 (l : List Int) (hl : l.length ≤ 1000000000) : ∀ (k i : Nat), i ≤ l.length → l.length < i + k → avocetref14_Words.l0 k l l i = some true
  | 0, i, h1, h => by omega
  | k + 1, i, h1, h => by
    unfold avocetref14_Words.l0
    by_cases hi : (i : Int) < (l.length : Int)
    · rw [if_pos hi, if_pos (by omega), if_pos hi, if_pos rfl, wrap64_id (by omega) (by omega)]
      exact words_l0 l hl k (i + 1) (by omega) (by omega)
    · rw [if_neg hi]
theorem words_self (l : List Int) (hl : l.length ≤ 1000000000) : avocetref14_Words.f (l.length + 1) l l = some true := by
  unfold avocetref14_Words.f
  rw [if_pos rfl]
  exact words_l0 l hl _ 0 (by omega) (by omega)
def fewB (l : List S82) : Bool := decide (l.length ≤ 40) && l.all (fun x => decide (x.f3.length ≤ 300))
theorem few_l0 (l : List S82) (hl : l.length ≤ 1000000000) : ∀ (k i : Nat), i ≤ l.length → l.length < i + k → avocetref16_Few.l0 k l i = some ((l.drop i).all (fun x => decide (x.f3.length ≤ 300)))
  | 0, i, h1, h => by omega
  | k + 1, i, h1, h => by
    unfold avocetref16_Few.l0
    by_cases hi : (i : Int) < (l.length : Int)
    · have hil : i < l.length := by omega
      rw [if_pos hi, if_pos (by omega), rd82 hil, ← List.getElem_cons_drop hil, List.all_cons]
      by_cases h3 : ((l[i].f3.length : Nat) : Int) > 300
      · rw [if_pos h3, decide_eq_false (by omega)]; rfl
      · rw [if_neg h3, wrap64_id (by omega) (by omega), decide_eq_true (by omega), Bool.true_and]
        exact few_l0 l hl k (i + 1) (by omega) (by omega)
    · rw [if_neg hi, List.drop_of_length_le (by omega)]; rfl
theorem few_ex (l : List S82) : ∃ k, avocetref16_Few.f k l = some (fewB l) := by
  unfold fewB
  by_cases h : (l.length : Int) > 40
  · exact ⟨0, by unfold avocetref16_Few.f; rw [if_pos h, decide_eq_false (by omega)]; rfl⟩
  · refine ⟨l.length + 1, ?_⟩
    unfold avocetref16_Few.f
    rw [if_neg h, decide_eq_true (by omega), Bool.true_and]
    exact few_l0 l (by omega) _ 0 (by omega) (by omega)
theorem fewB_iff {l : List S82} (h : fewB l = true) : l.length ≤ 40 ∧ ∀ x ∈ l, x.f3.length ≤ 300 := by
  unfold fewB at h
  simp only [Bool.and_eq_true, decide_eq_true_eq, List.all_eq_true] at h
  exact h
theorem hFew {w0 w : World} {L : List As} (HS : SB w0 w L) (A : Option Addr) (c : Nat) (l : List S82) (hC : Kd.C k82 w A l.length l) (hc : l.length ≤ c) :
    Calls Try.prog 8 #[.slice A l.length c] w fun e w' => e = .returned (.bool (fewB l)) ∧ SB w0 w' L := by
  obtain ⟨k, hk⟩ := few_ex l
  refine (avocetref16_Few.calls k A c l _ w hC hc hk).mono ?_
  rintro e w' ⟨rfl, hb⟩
  exact ⟨rfl, HS.below (by first | exact hb | exact drawn_below hb)⟩
def smP (x : S40) : Bool := decide (x.f2.length ≤ 40) && decide (x.f1.f0.length ≤ 40) && decide (x.f1.f1.length ≤ 20)
def smallB (l : List S40) : Bool := decide (l.length ≤ 40) && l.all smP
theorem small_l0 (l : List S40) (hl : l.length ≤ 1000000000) : ∀ (k i : Nat), i ≤ l.length → l.length < i + k → avocetlaw16_small.l0 k l i = some ((l.drop i).all smP)
  | 0, i, h1, h => by omega
  | k + 1, i, h1, h => by
    unfold avocetlaw16_small.l0
    by_cases hi : (i : Int) < (l.length : Int)
    · have hil : i < l.length := by omega
      rw [if_pos hi, if_pos (by omega), rd40 hil, ← List.getElem_cons_drop hil, List.all_cons]
      by_cases h3 : ((l[i].f2.length : Nat) : Int) > 40
      · rw [if_pos h3, show smP l[i] = false by unfold smP; rw [decide_eq_false (by omega)]; rfl]; rfl
      · by_cases h4 : ((l[i].f1.f0.length : Nat) : Int) > 40
        · rw [if_neg h3, if_pos h4, show smP l[i] = false by unfold smP; rw [decide_eq_false (show ¬ l[i].f1.f0.length ≤ 40 by omega), Bool.and_false]; rfl]; rfl
        · by_cases h5 : ((l[i].f1.f1.length : Nat) : Int) > 20
          · rw [if_neg h3, if_neg h4, if_pos h5, show smP l[i] = false by unfold smP; rw [decide_eq_false (show ¬ l[i].f1.f1.length ≤ 20 by omega), Bool.and_false]]; rfl
          · rw [if_neg h3, if_neg h4, if_neg h5, wrap64_id (by omega) (by omega), show smP l[i] = true by unfold smP; rw [decide_eq_true (by omega), decide_eq_true (by omega), decide_eq_true (by omega)]; rfl, Bool.true_and]
            exact small_l0 l hl k (i + 1) (by omega) (by omega)
    · rw [if_neg hi, List.drop_of_length_le (by omega)]; rfl
theorem small_ex (l : List S40) : ∃ k, avocetlaw16_small.f k l = some (smallB l) := by
  unfold smallB
  by_cases h : (l.length : Int) > 40
  · exact ⟨0, by unfold avocetlaw16_small.f; rw [if_pos h, decide_eq_false (by omega)]; rfl⟩
  · refine ⟨l.length + 1, ?_⟩
    unfold avocetlaw16_small.f
    rw [if_neg h, decide_eq_true (by omega), Bool.true_and]
    exact small_l0 l (by omega) _ 0 (by omega) (by omega)
theorem smallB_iff {l : List S40} (h : smallB l = true) : l.length ≤ 40 ∧ ∀ x ∈ l, x.f2.length ≤ 40 ∧ x.f1.f0.length ≤ 40 ∧ x.f1.f1.length ≤ 20 := by
  unfold smallB at h
  simp only [Bool.and_eq_true, decide_eq_true_eq, List.all_eq_true] at h
  refine ⟨h.1, fun x hx => ?_⟩
  have := h.2 x hx
  unfold smP at this
  simp only [Bool.and_eq_true, decide_eq_true_eq] at this
  exact ⟨this.1.1, this.1.2, this.2⟩
theorem hSmall {w0 w : World} {L : List As} (HS : SB w0 w L) (A : Option Addr) (c : Nat) (l : List S40) (hC : Kd.C k40 w A l.length l) (hc : l.length ≤ c) :
    Calls Try.prog 9 #[.slice A l.length c] w fun e w' => e = .returned (.bool (smallB l)) ∧ SB w0 w' L := by
  obtain ⟨k, hk⟩ := small_ex l
  refine (avocetlaw16_small.calls k A c l _ w hC hc hk).mono ?_
  rintro e w' ⟨rfl, hb⟩
  exact ⟨rfl, HS.below (by first | exact hb | exact drawn_below hb)⟩
theorem heap82 : Kd.Heap k82 := Kd.heap_iso _ (Kd.heap_pair (Kd.heap_int _) (Kd.heap_pair Kd.heap_bool (Kd.heap_pair (Kd.heap_int _) (Kd.heap_pair (Kd.heap_slice _ (Kd.heap_int _)) (Kd.heap_pair (Kd.heap_int _) (Kd.heap_int _))))))
/-- Replies as the program's, read. -/
theorem hOurs {w0 w : World} {L : List As} (HS : SB w0 w L) (A : Option Addr) (c : Nat) (xs : List S82) (hC : Kd.C k82 w0 A xs.length xs) (hc : xs.length ≤ c) (hl : xs.length ≤ 1000000) :
    Calls Try.prog 11 #[.slice A xs.length c] w fun e w' => ∃ A' c', e = .returned (.slice A' xs.length c') ∧ xs.length ≤ c' ∧ Kd.C k86 w' A' xs.length (xs.map ou) ∧ SB w0 w' L := by
  have hF := Kd.F_below (Kd.C_F heap82 hC) HS.bel
  have hV := Kd.V_mk (e := 82) (base := w.heap.size) hc hF
  refine (avocetlaw16_ours.calls _ (fun k => k < w0.heap.size) A c xs _ w hV (ours_f xs (by omega))).mono ?_
  rintro e w' ⟨v0, rfl, hN, hb⟩
  obtain ⟨A1, c1, rfl, hc1, hC1⟩ := Kd.N_reads hN
  rw [List.length_map] at hc1 hC1 ⊢
  exact ⟨A1, c1, rfl, hc1, hC1, HS.below hb⟩
theorem cls_reads {w : World} {F : Nat → Prop} {A : Option Addr} {n c : Nat} {lg : List S80} (h : (CLs (.slice A n c) lg).P w F) : Kd.C k80 w A n lg := by
  obtain ⟨y, hy, h⟩ := h
  obtain ⟨w0, h2⟩ := SB.ofSL h
  have := reads2 (L := []) h2
  rw [hy] at this
  exact this
/-- Calls as the document's, read; the row is consumed. -/
theorem hTheirs {w0 w : World} {L : List As} {A : Option Addr} {n c : Nat} {lg : List S80} (HS : SB w0 w (CLs (.slice A n c) lg :: L)) (hn : lg.length = n) (hc : n ≤ c) (hl : n ≤ 1000000) :
    Calls Try.prog 14 #[.slice A n c] w fun e w' => ∃ A1 c1, e = .returned (.slice A1 n c1) ∧ n ≤ c1 ∧ SB w0 w' (OwA k99 A1 n (lg.map th) :: L) := by
  subst hn
  obtain ⟨F, hF, hge, K⟩ := HS.frame
  have hFt : Kd.F k80 w F A lg.length lg := fun W hW => cls_reads ((CLs _ lg).mv hF (fun k hk => hW k hk ((CLs _ lg).lt hF k hk)))
  have hV := Kd.V_mk (e := 80) (base := w.heap.size) hc hFt
  refine (avocetlaw16_theirs.calls _ F A c lg _ w hV (theirs_f lg (by omega))).mono ?_
  rintro e w' ⟨v0, rfl, hN, hb⟩
  obtain ⟨A1, c1, rfl, hc1, hC1⟩ := Kd.N_reads hN
  have hf := Kd.F_bound (Kd.N_F hN)
  rw [List.length_map] at hc1 hf ⊢
  exact ⟨A1, c1, rfl, hc1, K w' (OwA k99 A1 lg.length (lg.map th)) _ ⟨fun W h1 => hf W (fun k hk _ => h1 k hk), fun k hk => hk.2⟩ (Fr.of_below hb) (fun k hk => hk.1)⟩
theorem sameQ (l : List S99) (A0 A1 : Option Addr) (c0 c1 : Nat) (w : World) (hC0 : Kd.C k99 w A0 l.length l) (hC1 : Kd.C k99 w A1 l.length l) (hl : l.length ≤ 1000000) (hM : ∀ x ∈ l, x.f1.length ≤ 1000000 ∧ x.f3.length ≤ 1000000) :
    Calls Try.prog 13 #[.slice A0 l.length c0, .slice A1 l.length c1] w fun e w' => e = .returned (.bool true) ∧ Below w.heap.size w w' := by
  have HC0 := Aside0.mk hC0
  have HC1 := Aside0.mk hC1
  clear hC0 hC1
  obtain ⟨n, hn⟩ : ∃ n, l.length = n := ⟨_, rfl⟩
  have HN := Aside0.mk hn
  rw [hn] at HC0 HC1 hl ⊢
  clear hn
  go_enter Try.func13, Try.ntmps13
  go_wp2
  go_loopw [5] (fun v5 wr => ∃ i : Nat, v5 = .int .i64 i ∧ i ≤ n ∧ Aside0 (Below w.heap.size w wr)) (fun v5 _ => n - (intOf v5).toNat)
  case atStart => exact ⟨0, rfl, Nat.zero_le _, ⟨Below.refl _ _⟩⟩
  case round =>
    obtain ⟨i, rfl, hi, HB⟩ := hrel
    by_cases hlt : i < n
    · have e1 : decide ((i : Int) < (n : Int)) = true := decide_eq_true (by omega)
      have e2 : decide (i < n) = true := decide_eq_true hlt
      have hil : i < l.length := by rw [HN.out]; exact hlt
      obtain ⟨x, hx⟩ : ∃ x, l[i] = x := ⟨_, rfl⟩
      have hxl := hM x (by rw [← hx]; exact List.getElem_mem _)
      have h0 := at_T99 (Kd.C_below HC0.out HB.out) (i : Int) (by omega) (by omega)
      have h1 := at_T99 (Kd.C_below HC1.out HB.out) (i : Int) (by omega) (by omega)
      rw [rd99 hil, hx, Int.toNat_natCast] at h0 h1
      obtain ⟨ad, A2, c2, A4, c4, rfl, q0, q1, q2, q3, l2, g2, l4, g4⟩ := h0
      obtain ⟨ae, B2, d2, B4, d4, rfl, p0, p1, p2, p3, m2, k2, m4, k4⟩ := h1
      have Q1 := Aside0.mk (fun nd : Nat => calls_q (avocetref14_Words.calls (x.f1.length + 1) A2 c2 x.f1 B2 d2 x.f1 true (wr.drewN nd) (Kd.C_below g2 (pw_below_drewN (Below.refl _ _) _)) l2 (Kd.C_below k2 (pw_below_drewN (Below.refl _ _) _)) m2 (words_self x.f1 (by omega))))
      have Q2 := Aside0.mk (fun nd : Nat => calls_q (avocetref14_Words.calls (x.f3.length + 1) A4 c4 x.f3 B4 d4 x.f3 true (wr.drewN nd) (Kd.C_below g4 (pw_below_drewN (Below.refl _ _) _)) l4 (Kd.C_below k4 (pw_below_drewN (Below.refl _ _) _)) m4 (words_self x.f3 (by omega))))
      clear hx g2 k2 g4 k4 hM
      go_wp2
      go_quiet ((go_at_call 24; first | with_reducible exact Calls.quiet_of (Q1.out _) | with_reducible exact Calls.quiet_of (Q2.out _)))
      go_wp2
      exact ⟨⟨i + 1, by simp, by omega, ⟨pw_below_drewN HB.out _⟩⟩, by simp [intOf]; omega⟩
    · have e1 : decide ((i : Int) < (n : Int)) = false := decide_eq_false (by omega)
      have e2 : decide (i < n) = false := decide_eq_false hlt
      go_wp2
      go_ret
      exact ⟨rfl, HB.out⟩
/-- Calls against themselves. -/
theorem hSame {w0 w : World} {L : List As} (HS : SB w0 w L) (A0 A1 : Option Addr) (n c0 c1 : Nat) (l : List S99) (hn : l.length = n) (hC0 : Kd.C k99 w A0 n l) (hC1 : Kd.C k99 w A1 n l) (hl : n ≤ 1000000) (hM : ∀ x ∈ l, x.f1.length ≤ 1000000 ∧ x.f3.length ≤ 1000000) :
    Calls Try.prog 13 #[.slice A0 n c0, .slice A1 n c1] w fun e w' => e = .returned (.bool true) ∧ SB w0 w' L := by
  subst hn
  refine (sameQ l A0 A1 c0 c1 w hC0 hC1 hl hM).mono ?_
  rintro e w' ⟨rfl, hb⟩
  exact ⟨rfl, HS.below hb⟩
end Go.Proofs.Ytbjglicdamenhaa.G
