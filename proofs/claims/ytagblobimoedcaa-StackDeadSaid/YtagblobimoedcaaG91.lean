/- Package stack: Label. -/
import Derived.Test.YtagblobimoedcaaStkL
import Derived.Test.YtagblobimoedcaaStkP
import Derived.Test.YtagblobimoedcaaG8
import Derived.Test.YtagblobimoedcaaBits
namespace Go.Proofs.Ytagblobimoedcaa.G
open Go.RowKit Go.Proofs.YtagblobimoedcaaW.PrintWords Go.Proofs.YtagblobimoedcaaW.PrintLast Go.Proofs.YtagblobimoedcaaW.PrintMore
set_option linter.unusedVariables false
set_option linter.unusedSimpArgs false
theorem modest_all {l : List S47} (hf : fewA l) : modest (gAll l).1 (gAll l).2 := by
  have := gAll_len hf l.length (Nat.le_refl _)
  rw [List.take_length] at this
  exact ⟨by have := hf.1; omega, by have := hf.1; omega⟩
/-- what is open, n from the last one on. -/
def kNth (cs : List S31) (n : Nat) : S31 := rd_T31 cs ((cs.length : Int) - 1 - (n : Int))
def sLabel (v : List Int) (cs : List S31) (n : Nat) : List Int × Int := if kSane v cs = true then (if cs.length ≤ n then ([], 6) else if (kNth cs n).f0 = 3 then ([], 0) else ((kNth cs n).f1, 0)) else ([], 1)
theorem label_f (v : List Int) (cs : List S31) (n : Nat) (hm : modest v cs) (hn : n < 1000000) (he : ∀ c ∈ cs, c.f1.length < 1000000) : stack_Label.f (cs.length + 1) v cs (n : Int) = some (sLabel v cs n) := by
  have hmc := hm.2
  unfold stack_Label.f sLabel
  rw [sane_f v cs (by omega), Option.bind_some]
  by_cases hs : kSane v cs = true
  · rw [if_pos hs, if_pos hs, if_neg (by omega)]
    by_cases hl : cs.length ≤ n
    · rw [if_pos hl, decide_eq_true (by omega)]
      rw [stack_Label.j0]
      rw [if_pos rfl]
    · rw [if_neg hl, decide_eq_false (by omega)]
      rw [stack_Label.j0]
      have hw1 : wrap64 ((cs.length : Int) - 1) = (cs.length : Int) - 1 := by unfold wrap64; omega
      have hw2 : wrap64 ((cs.length : Int) - 1 - (n : Int)) = (cs.length : Int) - 1 - (n : Int) := by unfold wrap64; omega
      rw [if_neg (by decide), hw1, hw2, if_pos (by omega), if_pos (by omega)]
      show (if (kNth cs n).f0 = 3 then _ else _) = _
      by_cases h3 : (kNth cs n).f0 = 3
      · rw [if_pos h3, if_pos h3]
      · rw [if_neg h3, if_neg h3]
        have hme : kNth cs n ∈ cs := by
          unfold kNth rd_T31
          have e : ((cs.length : Int) - 1 - (n : Int)).toNat = cs.length - 1 - n := by omega
          rw [e, List.getD_eq_getElem?_getD, List.getElem?_eq_getElem (by omega)]
          exact List.getElem_mem _
        unfold bytes_Clone.f
        show ((if (kNth cs n).f1.length < 140737488355328 then some (kNth cs n).f1 else none).bind _) = _
        rw [if_pos (by have := he _ hme; omega)]
        rfl
  · rw [if_neg hs, if_neg hs]
theorem hts_left : ∀ {cs : List S31} {last la : Int}, kHts last cs = some la → ∀ c ∈ cs, kLeft c.f1 = true
  | [], _, _, _, c, hc => by simp at hc
  | d :: cs, last, la, h, c, hc => by
    unfold kHts at h
    split at h
    · rename_i hd
      rcases List.mem_cons.1 hc with rfl | hc
      · exact hd.1
      · exact hts_left h c hc
    · exact absurd h (by simp)
theorem kLeft_len {l : List Int} (h : kLeft l = true) : l.length ≤ 1 := by
  match l with
  | [] => simp
  | [a] => simp
  | a :: b :: l => simp [kLeft] at h
theorem sane_len {v : List Int} {cs : List S31} (h : kSane v cs = true) : ∀ c ∈ cs, c.f1.length < 1000000 := by
  obtain ⟨la, h1, _, _⟩ := (sane_iff v cs).1 h
  intro c hc
  have := kLeft_len (hts_left h1 c hc)
  omega
theorem stkLabel {w : World} {A0 A1 : Option Addr} {c0 c1 : Nat} {v : List Int} {cs : List S31} (h : HoldS w A0 c0 A1 c1 v cs) (hm : modest v cs) (hs : kSane v cs = true) (n : Nat) (hn : n < 1000000) :
    Calls Try.prog 30 #[.agg #[.slice A0 v.length c0, .slice A1 cs.length c1], .int .i64 n] w fun e w' => ∃ B d, e = .returned (.tuple #[.slice B (sLabel v cs n).1.length d, .int .i64 (sLabel v cs n).2]) ∧ Kd.C (Kd.int .u8) w' B (sLabel v cs n).1.length (sLabel v cs n).1 ∧ Below w.heap.size w w' := by
  refine (stack_Label.calls _ A0 c0 v A1 c1 cs n _ _ w h.hv h.lv h.hc h.lc (label_f v cs n hm hn (sane_len hs))).mono ?_
  rintro e w' ⟨v0, rfl, hr, hb⟩
  obtain ⟨B, d, rfl, _, hC⟩ := Kd.R_reads hr
  exact ⟨B, d, rfl, hC, hb⟩
theorem conv25 {w : World} {A : Option Addr} {c : Nat} {l : List Int} (h : Kd.C (Kd.int .u8) w A l.length l) : (convert 25 9 (.slice A l.length c)).run Try.prog w = .ok (.string (strOfNums l)) w := Kd.C_string Try.underlying25 Try.underlying5 Try.underlying9 h
set_option maxHeartbeats 8000000 in
set_option maxRecDepth 100000 in
theorem stackLabels (A : Option Addr) (c : Nat) (l : List S47) (a : Int) (w : World) (hC : Kd.C k47 w A l.length l) (hc : l.length ≤ c) : Calls Try.prog 8 #[.slice A l.length c, .int .i64 a] w fun e w' => e = .returned (.bool true) ∧ Below w.heap.size w w' := by
  have HC := Aside0.mk hC
  clear hC
  obtain ⟨b, hb⟩ : ∃ b, fewB l = b := ⟨_, rfl⟩
  have HF := Aside0.mk (fun (W : World) (hW : Below w.heap.size w W) => hb ▸ fewS (Kd.C_below HC.out hW) hc)
  cases b with
  | false =>
    clear hb
    go_enter Try.func8, Try.ntmps8
    go_wp2_with (first
      | (go_at_call 9; (with_reducible refine (awakeS _).mono ?_); rintro e w1 ⟨rfl, hb⟩; have HB := Aside0.mk hb; clear hb)
      | (go_at_call 10; (with_reducible refine (HF.out _ HB.out).mono ?_); rintro e w2 ⟨rfl, hb⟩; have HB2 := Aside0.mk (below_then HB.out HB.out.size hb); clear hb))
    go_ret
    exact ⟨rfl, HB2.out⟩
  | true =>
    have hf := (fewB_iff l).1 hb
    have HG := Aside0.mk (fun (W : World) (hW : Below w.heap.size w W) => growns A c l W (Kd.C_below HC.out hW) hf)
    have hm := modest_all hf
    have hs := sane_all l
    obtain ⟨v, cs, hvc⟩ : ∃ v cs, gAll l = (v, cs) := ⟨_, _, rfl⟩
    rw [hvc] at HG hm hs
    simp only at HG hm hs
    obtain ⟨n, hn, hn31⟩ := and_lowi a 31 (by decide)
    have hn' : bits .and .i64 a 31 = (n : Int) := hn
    have HL := Aside0.mk (fun (W : World) (A0 A1 : Option Addr) (c0 c1 : Nat) (h : HoldS W A0 c0 A1 c1 v cs) => stkLabel h hm hs n (by omega))
    have hmc := hm.2
    have hsl : sLabel v cs n = if cs.length ≤ n then ([], 6) else if (kNth cs n).f0 = 3 then ([], 0) else ((kNth cs n).f1, 0) := by unfold sLabel; rw [if_pos hs]
    clear hb hf hs hvc hn
    by_cases hle : cs.length ≤ n
    · have d1 : decide ((cs.length : Int) ≤ (n : Int)) = true := decide_eq_true (by omega)
      have d2 : decide (cs.length ≤ n) = true := decide_eq_true hle
      rw [if_pos hle] at hsl
      rw [hsl] at HL
      simp only [List.length_nil] at HL
      clear hsl
      go_enter Try.func8, Try.ntmps8
      go_wp2_with (first
        | (go_at_call 9; (with_reducible refine (awakeS _).mono ?_); rintro e w1 ⟨rfl, hb⟩; have HB := Aside0.mk hb; clear hb)
        | (go_at_call 10; (with_reducible refine (HF.out _ HB.out).mono ?_); rintro e w2 ⟨rfl, hb⟩; have HB2 := Aside0.mk (below_then HB.out HB.out.size hb); clear hb)
        | (go_at_call 11; (with_reducible refine (HG.out _ HB2.out).mono ?_); rintro e w3 ⟨A0, c0, A1, c1, rfl, h, hb⟩; have HW := Aside0.mk (((SB.start w).below (below_then HB2.out HB2.out.size hb)).box #[.slice A0 v.length c0, .slice A1 cs.length c1] 28); have HH := Aside0.mk (h.below (below_alloc (Below.refl _ _) (.cells #[.slice A0 v.length c0, .slice A1 cs.length c1] 28))); clear h hb)
        | (go_at_call 30; (with_reducible refine (HL.out _ _ _ _ _ HH.out).mono ?_); rintro e w4 ⟨B, d, rfl, _, hb⟩; have HW4 := Aside0.mk (HW.out.below hb); clear hb; have x1 := SB.boxAt w3.heap.size 28 HW4.out; have k0 := blk_cell x1 0; have k1 := blk_cell x1 1; clear x1))
      go_ret
      exact ⟨rfl, HW4.out.bel⟩
    · have d1 : decide ((cs.length : Int) ≤ (n : Int)) = false := decide_eq_false (by omega)
      have d2 : decide (cs.length ≤ n) = false := decide_eq_false hle
      obtain ⟨m, hm2⟩ : ∃ m, cs.length = n + m + 1 := ⟨cs.length - n - 1, by omega⟩
      have hw1 : IntKind.i64.wrap ((cs.length : Int) - 1) = ((n + m : Nat) : Int) := by rw [IntKind.wrap_i64]; omega
      have hw2 : IntKind.i64.wrap (((n + m : Nat) : Int) - (n : Int)) = (m : Int) := by rw [IntKind.wrap_i64]; omega
      have hk : kNth cs n = rd_T31 cs (m : Int) := by unfold kNth; congr 1; omega
      rw [if_neg hle] at hsl
      have p0 := eq_true (show (0 : Int) ≤ (m : Int) by omega)
      have d3 : decide ((m : Int) < (cs.length : Int)) = true := decide_eq_true (by omega)
      have d4 : decide (m < cs.length) = true := decide_eq_true (by omega)
      have hlm : m < cs.length := by omega
      obtain ⟨x, hx⟩ : ∃ x, kNth cs n = x := ⟨_, rfl⟩
      rw [hx] at hsl hk
      have HKN := Aside0.mk hk.symm
      clear hm2 hx hk
      by_cases h3 : x.f0 = 3
      · rw [if_pos h3] at hsl
        rw [hsl] at HL
        simp only [List.length_nil] at HL
        clear hsl
        go_enter Try.func8, Try.ntmps8
        go_wp2_with (first
          | (go_at_call 9; (with_reducible refine (awakeS _).mono ?_); rintro e w1 ⟨rfl, hb⟩; have HB := Aside0.mk hb; clear hb)
          | (go_at_call 10; (with_reducible refine (HF.out _ HB.out).mono ?_); rintro e w2 ⟨rfl, hb⟩; have HB2 := Aside0.mk (below_then HB.out HB.out.size hb); clear hb)
          | (go_at_call 11; (with_reducible refine (HG.out _ HB2.out).mono ?_); rintro e w3 ⟨A0, c0, A1, c1, rfl, h, hb⟩; have HW := Aside0.mk (((SB.start w).below (below_then HB2.out HB2.out.size hb)).box #[.slice A0 v.length c0, .slice A1 cs.length c1] 28); have HH := Aside0.mk (h.below (below_alloc (Below.refl _ _) (.cells #[.slice A0 v.length c0, .slice A1 cs.length c1] 28))); clear h hb)
          | (go_at_call 30; (with_reducible refine (HL.out _ _ _ _ _ HH.out).mono ?_); rintro e w4 ⟨B, d, rfl, _, hb⟩; have HW4 := Aside0.mk (HW.out.below hb); have HH4 := Aside0.mk (HH.out.below hb); clear hb; have x1 := SB.boxAt w3.heap.size 28 HW4.out; have k0 := blk_cell x1 0; have k1 := blk_cell x1 1; clear x1; obtain ⟨ad, Ae, ce, had, r0, r1, r2, r3, l1, g1⟩ := at_T31 HH4.out.hc (m : Int) (by omega) (by omega); rw [HKN.out] at r0 r1 r2 r3; rw [h3] at r0; simp only [Int.toNat_natCast] at r0 r1 r2 r3; subst had; have hla := World.block_lt_of_cell? w4 _ r0))
        go_ret
        exact ⟨rfl, (HW4.out.alloc _).bel⟩
      · rw [if_neg h3] at hsl
        rw [hsl] at HL
        have b3 : (x.f0 == 3) = false := beq_eq_false_iff_ne.mpr h3
        have b4 : (x.f0 != 3) = true := bne_iff_ne.mpr h3
        clear hsl h3
        go_enter Try.func8, Try.ntmps8
        go_wp2_with (first
          | (go_at_call 9; (with_reducible refine (awakeS _).mono ?_); rintro e w1 ⟨rfl, hb⟩; have HB := Aside0.mk hb; clear hb)
          | (go_at_call 10; (with_reducible refine (HF.out _ HB.out).mono ?_); rintro e w2 ⟨rfl, hb⟩; have HB2 := Aside0.mk (below_then HB.out HB.out.size hb); clear hb)
          | (go_at_call 11; (with_reducible refine (HG.out _ HB2.out).mono ?_); rintro e w3 ⟨A0, c0, A1, c1, rfl, h, hb⟩; have HW := Aside0.mk (((SB.start w).below (below_then HB2.out HB2.out.size hb)).box #[.slice A0 v.length c0, .slice A1 cs.length c1] 28); have HH := Aside0.mk (h.below (below_alloc (Below.refl _ _) (.cells #[.slice A0 v.length c0, .slice A1 cs.length c1] 28))); clear h hb)
          | (go_at_call 30; (with_reducible refine (HL.out _ _ _ _ _ HH.out).mono ?_); rintro e w4 ⟨B, d, rfl, hCL, hb⟩; have hcvA := fun (cs : Array Value) (t : TypeId) => conv25 (c := d) (Kd.C_below hCL (below_alloc (Below.refl _ _) (.cells cs t))); have HW4 := Aside0.mk (HW.out.below hb); have HH4 := Aside0.mk (HH.out.below hb); clear hb; have x1 := SB.boxAt w3.heap.size 28 HW4.out; have k0 := blk_cell x1 0; have k1 := blk_cell x1 1; clear x1; obtain ⟨ad, Ae, ce, had, r0, r1, r2, r3, l1, g1⟩ := at_T31 HH4.out.hc (m : Int) (by omega) (by omega); rw [HKN.out] at r0 r1 r2 r3 g1; have hcvB := fun (cs : Array Value) (t : TypeId) => conv25 (c := ce) (Kd.C_below g1 (below_alloc (Below.refl _ _) (.cells cs t))); simp only [Int.toNat_natCast] at r0 r1 r2 r3; subst had; have hla := World.block_lt_of_cell? w4 _ r0))
        go_ret
        exact ⟨rfl, (HW4.out.alloc _).bel⟩
def avocetlaw09_StackLabels.f (l0 : List (S47)) (a1 : Int) : Option (Bool) := some true
theorem avocetlaw09_StackLabels.calls (A0 : Option Addr) (c0 : Nat) (l0 : List (S47)) (a1 : Int) (r : Bool) (w : World) (hr0 : Kd.C k47 w A0 l0.length l0) (hc0 : l0.length ≤ c0) (hr_ : r = true) (h : avocetlaw09_StackLabels.f l0 a1 = some r) :
    Calls Try.prog 8 #[.slice A0 l0.length c0, .int .i64 a1] w fun e w' => e = .returned (.bool r) ∧ Below w.heap.size w w' := by
  subst hr_
  exact stackLabels A0 c0 l0 a1 w hr0 hc0
end Go.Proofs.Ytagblobimoedcaa.G
