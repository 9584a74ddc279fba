/- Package frames' laws: frames as the document's, and what is small. -/
import Derived.Deep.DeepMust
import Derived.Test.YtbbgkelcdooabaaFraM
import Derived.Test.YtbbgkelcdooabaaG1
import Derived.Test.YtbbgkelcdooabaaG3
namespace Go.Proofs.Ytbbgkelcdooabaa.G
open Go.RowKit Go.Proofs.YtbbgkelcdooabaaW.PrintWords Go.Proofs.YtbbgkelcdooabaaW.PrintLast Go.Proofs.YtbbgkelcdooabaaW.PrintMore
set_option linter.unusedVariables false
set_option linter.unusedSimpArgs false
theorem wrap64_id {n : Int} (h0 : -9223372036854775808 ≤ n) (h1 : n < 9223372036854775808) : wrap64 n = n := by
  unfold wrap64
  omega
theorem words_l0 (l : List Int) (hl : l.length ≤ 1000000000) : ∀ (k i : Nat), i ≤ l.length → l.length < i + k → avocetref14_Words.l0 k l l i = some true
  | 0, i, h1, h => by omega
  | k + 1, i, h1, h => by
    unfold avocetref14_Words.l0
    by_cases hi : (i : Int) < (l.length : Int)
    · rw [if_pos hi, if_pos (by omega), if_pos hi, if_pos rfl, wrap64_id (by omega) (by omega)]
      exact words_l0 l hl k (i + 1) (by omega) (by omega)
    · rw [if_neg hi]
theorem words_self (l : List Int) (hl : l.length ≤ 1000000000) : avocetref14_Words.f (l.length + 1) l l = some true := by
  unfold avocetref14_Words.f
  rw [if_pos rfl]
  exact words_l0 l hl _ 0 (by omega) (by omega)
theorem rwords_l0 (l : List Int) (hl : l.length ≤ 1000000000) : ∀ (k i : Nat), i ≤ l.length → l.length < i + k → avocetref17_words.l0 k l l i = some true
  | 0, i, h1, h => by omega
  | k + 1, i, h1, h => by
    unfold avocetref17_words.l0
    by_cases hi : (i : Int) < (l.length : Int)
    · rw [if_pos hi, if_pos (by omega), if_pos hi, if_pos rfl, wrap64_id (by omega) (by omega)]
      exact rwords_l0 l hl k (i + 1) (by omega) (by omega)
    · rw [if_neg hi]
theorem rwords_self (l : List Int) (hl : l.length ≤ 1000000000) (k : Nat) (hk : l.length < k) : avocetref17_words.f k l l = some true := by
  unfold avocetref17_words.f
  rw [if_pos rfl]
  exact rwords_l0 l hl _ 0 (by omega) (by omega)
theorem rd61 {l : List S61} {t : Nat} (h : t < l.length) : rd_T61 l (t : Int) = l[t] := by
  unfold rd_T61
  rw [Int.toNat_natCast, List.getD_eq_getElem?_getD, List.getElem?_eq_getElem h]
  rfl
theorem rd58 {l : List S58} {t : Nat} (h : t < l.length) : rd_T58 l (t : Int) = l[t] := by
  unfold rd_T58
  rw [Int.toNat_natCast, List.getD_eq_getElem?_getD, List.getElem?_eq_getElem h]
  rfl
theorem rd44 {l : List S44} {t : Nat} (h : t < l.length) : rd_T44 l (t : Int) = l[t] := by
  unfold rd_T44
  rw [Int.toNat_natCast, List.getD_eq_getElem?_getD, List.getElem?_eq_getElem h]
  rfl
/-- A frame as the document's. -/
def th (x : S58) : S61 := ⟨x.f0, x.f1, x.f2, x.f3⟩
theorem theirs_l0 (l : List S58) (hl : l.length ≤ 1000000000) : ∀ (k i : Nat), i ≤ l.length → l.length < i + k → avocetlaw17_theirs.l0 k l ((l.take i).map th) i = some (l.map th)
  | 0, i, h1, h => by omega
  | k + 1, i, h1, h => by
    unfold avocetlaw17_theirs.l0
    by_cases hi : (i : Int) < (l.length : Int)
    · have hil : i < l.length := by omega
      rw [if_pos hi, if_pos (by omega), if_pos (by simp; omega), rd58 hil, wrap64_id (by omega) (by omega)]
      have e : (l.take i).map th ++ [(⟨l[i].f0, l[i].f1, l[i].f2, l[i].f3⟩ : S61)] = (l.take (i + 1)).map th := by rw [List.take_succ_eq_append_getElem hil, List.map_append]; rfl
      rw [e]
      exact theirs_l0 l hl k (i + 1) (by omega) (by omega)
    · rw [if_neg hi, List.take_of_length_le (by omega)]
theorem theirs_f (l : List S58) (hl : l.length ≤ 1000000000) : avocetlaw17_theirs.f (l.length + 1) l = some (l.map th) := theirs_l0 l hl _ 0 (by omega) (by omega)
def smallB (l : List S44) : Bool := decide (l.length ≤ 100) && l.all (fun x => decide (x.f6.length ≤ 40) && decide (x.f4 ≤ 100))
theorem small_l0 (l : List S44) (hl : l.length ≤ 1000000000) : ∀ (k i : Nat), i ≤ l.length → l.length < i + k → avocetlaw17_small.l0 k l i = some ((l.drop i).all (fun x => decide (x.f6.length ≤ 40) && decide (x.f4 ≤ 100)))
  | 0, i, h1, h => by omega
  | k + 1, i, h1, h => by
    unfold avocetlaw17_small.l0
    by_cases hi : (i : Int) < (l.length : Int)
    · have hil : i < l.length := by omega
      rw [if_pos hi, if_pos (by omega), rd44 hil, ← List.getElem_cons_drop hil, List.all_cons]
      by_cases h3 : ((l[i].f6.length : Nat) : Int) > 40
      · rw [if_pos h3, decide_eq_false (by omega)]; rfl
      · by_cases h4 : l[i].f4 > 100
        · rw [if_neg h3, if_pos h4, decide_eq_false (show ¬ l[i].f4 ≤ 100 by omega), Bool.and_false, Bool.false_and]
        · rw [if_neg h3, if_neg h4, wrap64_id (by omega) (by omega), decide_eq_true (show l[i].f6.length ≤ 40 by omega), decide_eq_true (show l[i].f4 ≤ 100 by omega), Bool.and_true, Bool.true_and]
          exact small_l0 l hl k (i + 1) (by omega) (by omega)
    · rw [if_neg hi, List.drop_of_length_le (by omega)]; rfl
theorem small_ex (l : List S44) : ∃ k, avocetlaw17_small.f k l = some (smallB l) := by
  unfold smallB
  by_cases h : (l.length : Int) > 100
  · exact ⟨0, by unfold avocetlaw17_small.f; rw [if_pos h, decide_eq_false (by omega)]; rfl⟩
  · refine ⟨l.length + 1, ?_⟩
    unfold avocetlaw17_small.f
    rw [if_neg h, decide_eq_true (by omega), Bool.true_and]
    exact small_l0 l (by omega) _ 0 (by omega) (by omega)
theorem smallB_iff {l : List S44} (h : smallB l = true) : l.length ≤ 100 ∧ ∀ x ∈ l, x.f6.length ≤ 40 ∧ x.f4 ≤ 100 := by
  unfold smallB at h
  simp only [Bool.and_eq_true, decide_eq_true_eq, List.all_eq_true] at h
  exact h
theorem frSmall {w0 w : World} {L : List As} (HS : SB w0 w L) (A : Option Addr) (c : Nat) (l : List S44) (hC : Kd.C k44 w A l.length l) (hc : l.length ≤ c) :
    Calls Try.prog 19 #[.slice A l.length c] w fun e w' => e = .returned (.bool (smallB l)) ∧ SB w0 w' L := by
  obtain ⟨k, hk⟩ := small_ex l
  refine (avocetlaw17_small.calls k A c l _ w hC hc hk).mono ?_
  rintro e w' ⟨rfl, hb⟩
  exact ⟨rfl, HS.below (by first | exact hb | exact drawn_below hb)⟩
theorem frTheirs {w0 w : World} {L : List As} {v : Value} {xs : List S58} (HS : SB w0 w (Row k58 58 v xs :: L)) (hl : xs.length ≤ 1000000) :
    Calls Try.prog 24 #[v] w fun e w' => ∃ A c, e = .returned (.slice A xs.length c) ∧ Kd.C k61 w' A xs.length (xs.map th) ∧ xs.length ≤ c ∧ SB w0 w' (Row k58 58 v xs :: L) ∧ Below w.heap.size w w' := by
  obtain ⟨A, c, rfl, hc, hC⟩ := HS.reads
  obtain ⟨F, hF, _⟩ := HS.head
  have hV := Kd.V_mk (e := 58) (base := w.heap.size) hc (Kd.N_F (Kd.R_N hF.1))
  refine (avocetlaw17_theirs.calls _ F A c xs _ w hV (theirs_f xs (by omega))).mono ?_
  rintro e w' ⟨v0, rfl, hN, hb⟩
  obtain ⟨A1, c1, rfl, hc1, hC1⟩ := Kd.N_reads hN
  rw [List.length_map] at hc1 hC1 ⊢
  exact ⟨A1, c1, rfl, hC1, hc1, HS.below hb, hb⟩
theorem sameQ (l : List S61) (A0 A1 : Option Addr) (c0 c1 : Nat) (w : World) (hC0 : Kd.C k61 w A0 l.length l) (hC1 : Kd.C k61 w A1 l.length l) (hl : l.length ≤ 1000000) (hM : ∀ x ∈ l, x.f2.length ≤ 1000000) :
    Calls Try.prog 23 #[.slice A0 l.length c0, .slice A1 l.length c1] w fun e w' => e = .returned (.bool true) ∧ Below w.heap.size w w' := by
  have HC0 := Aside0.mk hC0
  have HC1 := Aside0.mk hC1
  clear hC0 hC1
  obtain ⟨n, hn⟩ : ∃ n, l.length = n := ⟨_, rfl⟩
  have HN := Aside0.mk hn
  rw [hn] at HC0 HC1 hl ⊢
  clear hn
  go_enter Try.func23, Try.ntmps23
  go_wp2
  go_loopw [5] (fun v5 wr => ∃ i : Nat, v5 = .int .i64 i ∧ i ≤ n ∧ Aside0 (Below w.heap.size w wr)) (fun v5 _ => n - (intOf v5).toNat)
  case atStart => exact ⟨0, rfl, Nat.zero_le _, ⟨Below.refl _ _⟩⟩
  case round =>
    obtain ⟨i, rfl, hi, HB⟩ := hrel
    by_cases hlt : i < n
    · have e1 : decide ((i : Int) < (n : Int)) = true := decide_eq_true (by omega)
      have e2 : decide (i < n) = true := decide_eq_true hlt
      have hil : i < l.length := by rw [HN.out]; exact hlt
      obtain ⟨x, hx⟩ : ∃ x, l[i] = x := ⟨_, rfl⟩
      have hxl : x.f2.length ≤ 1000000 := hM x (by rw [← hx]; exact List.getElem_mem _)
      have h0 := at_T61 (Kd.C_below HC0.out HB.out) (i : Int) (by omega) (by omega)
      have h1 := at_T61 (Kd.C_below HC1.out HB.out) (i : Int) (by omega) (by omega)
      rw [rd61 hil, hx, Int.toNat_natCast] at h0 h1
      obtain ⟨ad, A2, c2, rfl, q0, q1, q2, q3, l2, g2⟩ := h0
      obtain ⟨ae, B2, d2, rfl, p0, p1, p2, p3, m2, k2⟩ := h1
      have Q41 := Aside0.mk (fun nd : Nat => calls_q (avocetref17_words.calls (x.f2.length + 1) A2 c2 x.f2 B2 d2 x.f2 true (wr.drewN nd) (Kd.C_below g2 (pw_below_drewN (Below.refl _ _) _)) l2 (Kd.C_below k2 (pw_below_drewN (Below.refl _ _) _)) m2 (rwords_self x.f2 (by omega) _ (by omega))))
      clear hx g2 k2 hM
      go_wp2
      go_quiet ((go_at_call 41; with_reducible exact Calls.quiet_of (Q41.out _)))
      go_wp2
      exact ⟨⟨i + 1, by simp, by omega, ⟨pw_below_drewN HB.out _⟩⟩, by simp [intOf]; omega⟩
    · have e1 : decide ((i : Int) < (n : Int)) = false := decide_eq_false (by omega)
      have e2 : decide (i < n) = false := decide_eq_false hlt
      go_wp2
      go_ret
      exact ⟨rfl, HB.out⟩
/-- Frames against themselves. -/
theorem frSame {w0 w : World} {L : List As} (HS : SB w0 w L) (A0 A1 : Option Addr) (n c0 c1 : Nat) (l : List S61) (hn : l.length = n) (hC0 : Kd.C k61 w A0 n l) (hc0 : n ≤ c0) (hC1 : Kd.C k61 w A1 n l) (hc1 : n ≤ c1) (hl : n ≤ 1000000) (hM : ∀ x ∈ l, x.f2.length ≤ 1000000) :
    Calls Try.prog 23 #[.slice A0 n c0, .slice A1 n c1] w fun e w' => e = .returned (.bool true) ∧ SB w0 w' L := by
  subst hn
  refine (sameQ l A0 A1 c0 c1 w hC0 hC1 hl hM).mono ?_
  rintro e w' ⟨rfl, hb⟩
  exact ⟨rfl, HS.below hb⟩
theorem frWords {w0 w : World} {L : List As} (HS : SB w0 w L) (A0 A1 : Option Addr) (n c0 c1 : Nat) (l : List Int) (hn : l.length = n) (hC0 : Kd.C (Kd.int .u64) w A0 n l) (hc0 : n ≤ c0) (hC1 : Kd.C (Kd.int .u64) w A1 n l) (hc1 : n ≤ c1) (hl : n ≤ 1000000) :
    Calls Try.prog 15 #[.slice A0 n c0, .slice A1 n c1] w fun e w' => e = .returned (.bool true) ∧ SB w0 w' L := by
  subst hn
  refine (avocetref14_Words.calls _ A0 c0 l A1 c1 l true w hC0 hc0 hC1 hc1 (words_self l (by omega))).mono ?_
  rintro e w' ⟨rfl, hb⟩
  exact ⟨rfl, HS.below (by first | exact hb | exact drawn_below hb)⟩
end Go.Proofs.Ytbbgkelcdooabaa.G
