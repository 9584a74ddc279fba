/- Package table's globals, as layer 16 has them. -/
import Derived.Deep.DeepMust
import Derived.Deep.RegionHeld3
import Derived.Test.YtbjglicdamenhaaCopy
import Derived.Test.YtbjglicdamenhaaHstL
import Derived.Test.YtbjglicdamenhaaHstN
namespace Go.Proofs.Ytbjglicdamenhaa.G
open Go.RowKit Go.Proofs.YtbjglicdamenhaaW.PrintWords Go.Proofs.YtbjglicdamenhaaW.PrintLast Go.Proofs.YtbjglicdamenhaaW.PrintMore
attribute [local go_sem] max2_int min2_int max_two min_two max_three min_three max_four min_four   -- for this text's walks alone
set_option linter.unusedVariables false
set_option linter.unusedSimpArgs false
/-- Globals: an object that is a row. -/
def GO (p : Nat) (l : List S109) : As := ObR k109 107 65 p l []
/-- A global's place. -/
theorem globAt (p : Nat) (ad : Addr) (n c : Nat) (i : Nat) (w : World) (hn : n ≤ 1000000) (h : w.cell? ⟨p, 0, none⟩ = some (.slice (some ad) n c)) (hi : i < n) :
    Calls Try.prog 55 #[.pointer (some ⟨p, 0, none⟩), .int .i64 i] w fun e w' => e = .returned (.pointer (some (ad.add (i * 3)))) ∧ Drawn0 w w' := by
  have d1 : decide ((i : Int) < 0) = false := decide_eq_false (by omega)
  have d2 : decide ((n : Int) ≤ (i : Int)) = false := decide_eq_false (by omega)
  have d2' : decide (n ≤ i) = false := decide_eq_false (by omega)
  go_enter Try.func55, Try.ntmps55
  go_wp2
  go_ret
  exact ⟨rfl, by repeat (first | exact Drawn0.refl _ | apply Drawn0.step)⟩
theorem globAtNo (p : Nat) (A : Option Addr) (n c : Nat) (i : Int) (w : World) (hn : n ≤ 1000000) (h : w.cell? ⟨p, 0, none⟩ = some (.slice A n c)) (hi : i < 0 ∨ (n : Int) ≤ i) :
    Calls Try.prog 55 #[.pointer (some ⟨p, 0, none⟩), .int .i64 i] w fun e w' => e = .returned (.pointer none) ∧ Drawn0 w w' := by
  by_cases c1 : i < 0
  · have d1 : decide (i < 0) = true := decide_eq_true c1
    clear hi
    go_enter Try.func55, Try.ntmps55
    go_wp2
    go_ret
    exact ⟨rfl, by repeat (first | exact Drawn0.refl _ | apply Drawn0.step)⟩
  · have d1 : decide (i < 0) = false := decide_eq_false c1
    have d2 : decide ((n : Int) ≤ i) = true := decide_eq_true (hi.resolve_left c1)
    clear hi
    go_enter Try.func55, Try.ntmps55
    go_wp2
    go_ret
    exact ⟨rfl, by repeat (first | exact Drawn0.refl _ | apply Drawn0.step)⟩
theorem globFind (p : Nat) (ad : Addr) (n c : Nat) (i : Nat) (w : World) (hn : n ≤ 1000000) (h : w.cell? ⟨p, 0, none⟩ = some (.slice (some ad) n c)) (hi : i < n) :
    Calls Try.prog 44 #[.pointer (some ⟨p, 0, none⟩), .int .i64 i] w fun e w' => e = .returned (.pointer (some (ad.add (i * 3)))) ∧ Drawn0 w w' := by
  go_enter Try.func44, Try.ntmps44
  go_wp2_with (go_at_call 55; (with_reducible refine (globAt p ad n c i _ hn h hi).mono ?_); rintro e w' ⟨rfl, ⟨nd, rfl⟩⟩)
  go_ret
  exact ⟨rfl, _, rfl⟩
theorem globFindNo (p : Nat) (A : Option Addr) (n c : Nat) (i : Int) (w : World) (hn : n ≤ 1000000) (h : w.cell? ⟨p, 0, none⟩ = some (.slice A n c)) (hi : i < 0 ∨ (n : Int) ≤ i) :
    Calls Try.prog 44 #[.pointer (some ⟨p, 0, none⟩), .int .i64 i] w fun e w' => e = .returned (.pointer none) ∧ Drawn0 w w' := by
  go_enter Try.func44, Try.ntmps44
  go_wp2_with (go_at_call 55; (with_reducible refine (globAtNo p A n c i _ hn h hi).mono ?_); rintro e w' ⟨rfl, ⟨nd, rfl⟩⟩)
  go_ret
  exact ⟨rfl, _, rfl⟩
/-- A global's value. -/
def gGet (l : List S109) (i : Int) : Int × Bool := if 0 ≤ i ∧ i < l.length then ((rd_T109 l i).f2, true) else (0, false)
theorem globGet {w0 w : World} {L : List As} {p : Nat} {l : List S109} (hS : SB w0 w (GO p l :: L)) (hl : l.length ≤ 1000000) (i : Int) (hi : okI i) :
    Calls Try.prog 27 #[.pointer (some ⟨p, 0, none⟩), .int .i64 i] w fun e w' => e = .returned (.tuple #[.int .u64 (gGet l i).1, .bool (gGet l i).2]) ∧ SB w0 w' (GO p l :: L) := by
  obtain ⟨F, hF, _⟩ := hS.head
  obtain ⟨A, c, hblk, hR, hc, hC, hp, hlt⟩ := ObR.open_ hF
  have h : w.cell? ⟨p, 0, none⟩ = some (.slice A l.length c) := (blk_cell hblk 0).trans rfl
  have HS := Aside0.mk hS
  have HC := Aside0.mk hC
  clear hS hblk hR hF hC
  by_cases c1 : 0 ≤ i ∧ i < l.length
  · have hr : gGet l i = ((rd_T109 l i).f2, true) := if_pos c1
    rw [hr]
    obtain ⟨ad, rfl, q0, q1, q2⟩ := at_T109 HC.out i c1.1 c1.2
    obtain ⟨t, rfl⟩ := Int.eq_ofNat_of_zero_le c1.1
    rw [Int.toNat_natCast] at q0 q1 q2
    have htl : t < l.length := by omega
    obtain ⟨x, hx⟩ : ∃ x, (rd_T109 l (t : Int)).f2 = x := ⟨_, rfl⟩
    rw [hx] at q2 ⊢
    clear hr c1 hx q0 q1
    go_enter Try.func27, Try.ntmps27
    go_wp2_with (go_at_call 44; (with_reducible refine (globFind p ad _ c t _ hl h htl).mono ?_); rintro e w' ⟨rfl, ⟨nd, rfl⟩⟩)
    go_ret2
    exact ⟨rfl, HS.out.drewN _⟩
  · have hr : gGet l i = (0, false) := if_neg c1
    rw [hr]
    go_enter Try.func27, Try.ntmps27
    go_wp2_with (go_at_call 44; (with_reducible refine (globFindNo p A _ c i _ hl h (by omega)).mono ?_); rintro e w' ⟨rfl, ⟨nd, rfl⟩⟩)
    go_ret2
    exact ⟨rfl, HS.out.drewN _⟩
/-- A global's type. -/
def gType (l : List S109) (i : Int) : Int × Bool × Bool := if 0 ≤ i ∧ i < l.length then ((rd_T109 l i).f0, (rd_T109 l i).f1, true) else (0, false, false)
set_option maxRecDepth 100000 in
theorem globType {w0 w : World} {L : List As} {p : Nat} {l : List S109} (hS : SB w0 w (GO p l :: L)) (hl : l.length ≤ 1000000) (i : Int) (hi : okI i) :
    Calls Try.prog 50 #[.pointer (some ⟨p, 0, none⟩), .int .i64 i] w fun e w' => e = .returned (.tuple #[.int .u8 (gType l i).1, .bool (gType l i).2.1, .bool (gType l i).2.2]) ∧ SB w0 w' (GO p l :: L) := by
  obtain ⟨F, hF, _⟩ := hS.head
  obtain ⟨A, c, hblk, hR, hc, hC, hp, hlt⟩ := ObR.open_ hF
  have h : w.cell? ⟨p, 0, none⟩ = some (.slice A l.length c) := (blk_cell hblk 0).trans rfl
  have HS := Aside0.mk hS
  have HC := Aside0.mk hC
  clear hS hblk hF hC
  by_cases c1 : 0 ≤ i ∧ i < l.length
  · have hr : gType l i = ((rd_T109 l i).f0, (rd_T109 l i).f1, true) := if_pos c1
    rw [hr]
    obtain ⟨g, cap, hv, _⟩ := Kd.R_form hR (by omega)
    injection hv with hA _ hcap
    subst hA
    obtain ⟨ad, hA2, q0, q1, q2⟩ := at_T109 HC.out i c1.1 c1.2
    obtain rfl := Option.some.inj hA2
    obtain ⟨t, rfl⟩ := Int.eq_ofNat_of_zero_le c1.1
    rw [Int.toNat_natCast, add_blk] at q0 q1 q2
    have htl : t < l.length := by omega
    obtain ⟨x, hx⟩ : ∃ x, (rd_T109 l (t : Int)).f0 = x := ⟨_, rfl⟩
    obtain ⟨y, hy⟩ : ∃ y, (rd_T109 l (t : Int)).f1 = y := ⟨_, rfl⟩
    rw [hx] at q0 ⊢
    rw [hy] at q1 ⊢
    clear hr c1 hx hy q2 hA2 hR
    have HQ0 := Aside0.mk q0
    have HQ1 := Aside0.mk q1
    go_enter Try.func50, Try.ntmps50
    go_wp2_with (go_at_call 44; (with_reducible refine (globFind p _ _ c t _ hl h htl).mono ?_); rintro e w1 ⟨rfl, hd⟩; have HB := Aside0.mk (drawn_below hd); clear hd; rw [add_blk])
    refine rg_startL (n := 11) (S := fun w' => w'.cell? ⟨g, t * 3, none⟩ = some (.int .u8 x) ∧ w'.cell? ⟨g, t * 3 + 1, none⟩ = some (.bool y) ∧ Below w.heap.size w w') (bm 11 0) (by kernel_rfl) rfl (by kernel_rfl) (⟨pw_cell_below HB.out.drew HQ0.out, pw_cell_below HB.out.drew HQ1.out, HB.out.drew⟩) (fun wd hwd hHeld => ?_)
    refine rg_take (i := 0) (N := some 13) (v := ?_) (a' := ?_) (bm 11 1) rfl rfl (by kernel_rfl) (fun _ _ _ h => h) hHeld (Or.inl ⟨by rfl, ?_⟩) ?_ ?_
    rotate_left
    · intro w' hw'
      go_simp
      with_reducible rfl
    rotate_left
    · simp only [Act.put, List.setIfInBounds_toArray, List.set_cons_zero, List.set_cons_succ]
      rfl
    refine rg_take (i := 1) (N := some 14) (v := ?_) (a' := ?_) (bm 11 3) rfl rfl (by kernel_rfl) (fun _ _ _ h => h) hHeld (Or.inl ⟨by rfl, ?_⟩) ?_ ?_
    rotate_left
    · intro w' hw'
      go_simp
      with_reducible rfl
    rotate_left
    · simp only [Act.put, List.setIfInBounds_toArray, List.set_cons_zero, List.set_cons_succ]
      rfl
    refine rg_take (i := 2) (N := some 15) (v := ?_) (a' := ?_) (bm 11 7) rfl rfl (by kernel_rfl) (fun _ _ _ h => h) hHeld (Or.inl ⟨by rfl, ?_⟩) ?_ ?_
    rotate_left
    · intro w' hw'
      go_simp
      with_reducible rfl
    rotate_left
    · simp only [Act.put, List.setIfInBounds_toArray, List.set_cons_zero, List.set_cons_succ]
      rfl
    refine rg_take (i := 3) (N := some 16) (v := ?_) (a' := ?_) (bm 11 15) rfl rfl (by kernel_rfl) (fun _ _ _ h => h) hHeld (Or.inl ⟨by rfl, ?_⟩) ?_ ?_
    rotate_left
    · intro w' hw'
      go_simp
      with_reducible rfl
    rotate_left
    · simp only [Act.put, List.setIfInBounds_toArray, List.set_cons_zero, List.set_cons_succ]
      rfl
    refine rg_take (i := 4) (N := some 17) (v := ?_) (a' := ?_) (bm 11 31) rfl rfl (by kernel_rfl) (fun _ _ _ h => h) hHeld (Or.inl ⟨by rfl, ?_⟩) ?_ ?_
    rotate_left
    · intro w' hw'
      go_simp
      with_reducible rfl
    rotate_left
    · simp only [Act.put, List.setIfInBounds_toArray, List.set_cons_zero, List.set_cons_succ]
      rfl
    refine rg_take (i := 5) (N := some 18) (v := ?_) (a' := ?_) (bm 11 63) rfl rfl (by kernel_rfl) (fun _ _ _ h => h) hHeld (Or.inl ⟨by rfl, ?_⟩) ?_ ?_
    rotate_left
    · intro w' hw'
      go_simp
      with_reducible rfl
    rotate_left
    · simp only [Act.put, List.setIfInBounds_toArray, List.set_cons_zero, List.set_cons_succ]
      rfl
    refine rg_take (i := 6) (N := some 19) (v := ?_) (a' := ?_) (bm 11 127) rfl rfl (by kernel_rfl) (fun _ _ _ h => h) hHeld (Or.inl ⟨by rfl, ?_⟩) ?_ ?_
    rotate_left
    · intro w' hw'
      go_simp
      with_reducible rfl
    rotate_left
    · simp only [Act.put, List.setIfInBounds_toArray, List.set_cons_zero, List.set_cons_succ]
      rfl
    refine rg_take (i := 7) (N := some 20) (v := ?_) (a' := ?_) (bm 11 255) rfl rfl (by kernel_rfl) (fun _ _ _ h => h) hHeld (Or.inl ⟨by rfl, ?_⟩) ?_ ?_
    rotate_left
    · intro w' hw'
      go_simp
      with_reducible rfl
    rotate_left
    · simp only [Act.put, List.setIfInBounds_toArray, List.set_cons_zero, List.set_cons_succ]
      rfl
    refine rg_take (i := 8) (N := some 4) (v := ?_) (a' := ?_) (bm 11 511) rfl rfl (by kernel_rfl) (fun _ _ _ h => h) hHeld (Or.inl ⟨by rfl, ?_⟩) ?_ ?_
    rotate_left
    · intro w' hw'
      go_simp
      with_reducible rfl
    rotate_left
    · simp only [Act.put, List.setIfInBounds_toArray, List.set_cons_zero, List.set_cons_succ]
      rfl
    refine rg_take (i := 9) (N := some 5) (v := ?_) (a' := ?_) (bm 11 1023) rfl rfl (by kernel_rfl) (fun _ _ _ h => h) hHeld (Or.inl ⟨by rfl, ?_⟩) ?_ ?_
    rotate_left
    · intro w' hw'
      go_simp
      with_reducible rfl
    rotate_left
    · simp only [Act.put, List.setIfInBounds_toArray, List.set_cons_zero, List.set_cons_succ]
      rfl
    refine rg_take (i := 10) (N := some 6) (v := ?_) (a' := ?_) (bm 11 2047) rfl rfl (by kernel_rfl) (fun _ _ _ h => h) hHeld (Or.inl ⟨by rfl, ?_⟩) ?_ ?_
    rotate_left
    · intro w' hw'
      go_simp
      with_reducible rfl
    rotate_left
    · simp only [Act.put, List.setIfInBounds_toArray, List.set_cons_zero, List.set_cons_succ]
      rfl
    refine rg_done (by kernel_rfl) ?_
    go_wp2
    refine bodyPost_ret (results_list (rs := [.tmp 4, .tmp 5, .tmp 6]) rfl (by simp) (.tmp (.tmp (.tmp .nil)))) rfl ?_
    exact ⟨rfl, HS.out.below hHeld.2.2⟩
  · have hr : gType l i = (0, false, false) := if_neg c1
    rw [hr]
    clear hr hR
    go_enter Try.func50, Try.ntmps50
    go_wp2_with (go_at_call 44; (with_reducible refine (globFindNo p A _ c i _ hl h (by omega)).mono ?_); rintro e w' ⟨rfl, ⟨nd, rfl⟩⟩)
    refine bodyPost_ret (results_list (rs := [.tmp 4, .tmp 5, .tmp 6]) rfl (by simp) (.tmp (.tmp (.tmp .nil)))) rfl ?_
    exact ⟨rfl, HS.out.drewN _⟩
/-- Is a number of a type? -/
def fit (t v : Int) : Bool := decide (t = 126) || (decide (t = 127) && decide (v < 4294967296))
theorem fitsF (t v : Int) (hv : 0 ≤ v ∧ v < 18446744073709551616) : ints_Fits.f t v = some (fit t v) := by
  unfold ints_Fits.f fit
  by_cases h1 : t = 126
  · simp [h1]
  · by_cases h2 : t = 127
    · have e : (v / 4294967296 == 0) = decide (v < 4294967296) := by
        rw [Bool.eq_iff_iff, beq_iff_eq, decide_eq_true_eq]
        omega
      rw [if_neg h1, if_pos h2, e]
      simp [h2]
    · simp [h1, h2]
/-- What Set answers, and what it makes. -/
def gSet (l : List S109) (i v : Int) : Int × List S109 :=
  if 0 ≤ i ∧ i < l.length then (if (rd_T109 l i).f1 = true ∧ fit (rd_T109 l i).f0 v = true then (0, l.set i.toNat ⟨(rd_T109 l i).f0, (rd_T109 l i).f1, v⟩) else (5, l)) else (6, l)
theorem k109_flat {w w' : World} {base base' : Nat} {ok ok' : Nat → Prop} {x : S109} {cs : List Value} (h : k109.M w base ok x cs) : k109.M w' base' ok' x cs := by
  obtain rfl := k109_openM h
  exact k109_mkM _ _ _ x
theorem rd_get {l : List S109} {t : Nat} (h : t < l.length) : rd_T109 l (t : Int) = l[t] := by
  unfold rd_T109
  rw [Int.toNat_natCast, List.getD_eq_getElem?_getD, List.getElem?_eq_getElem h]
  rfl
set_option maxRecDepth 100000 in
theorem globSet {w0 w : World} {L : List As} {p : Nat} {l : List S109} (hS : SB w0 w (GO p l :: L)) (hl : l.length ≤ 1000000) (i v : Int) (hi : okI i) (hv : 0 ≤ v ∧ v < 18446744073709551616) :
    Calls Try.prog 51 #[.pointer (some ⟨p, 0, none⟩), .int .i64 i, .int .u64 v] w fun e w' => e = .returned (.int .i64 (gSet l i v).1) ∧ SB w0 w' (GO p (gSet l i v).2 :: L) := by
  obtain ⟨F, hF, _⟩ := hS.head
  obtain ⟨A, c, hblk, hR, hc, hC, hp, hlt⟩ := ObR.open_ hF
  have h : w.cell? ⟨p, 0, none⟩ = some (.slice A l.length c) := (blk_cell hblk 0).trans rfl
  have HS := Aside0.mk hS
  have HC := Aside0.mk hC
  have HV := Aside0.mk hv
  clear hS hblk hF hC hv
  by_cases c1 : 0 ≤ i ∧ i < l.length
  · have hr : gSet l i v = if (rd_T109 l i).f1 = true ∧ fit (rd_T109 l i).f0 v = true then (0, l.set i.toNat ⟨(rd_T109 l i).f0, (rd_T109 l i).f1, v⟩) else (5, l) := if_pos c1
    obtain ⟨g, cap, hvv, hg0, hg1, cells, hcells⟩ := Kd.R_form hR (by omega)
    injection hvv with hA _ hcap
    subst hA
    obtain ⟨ad, hA2, q0, q1, q2⟩ := at_T109 HC.out i c1.1 c1.2
    obtain rfl := Option.some.inj hA2
    obtain ⟨t, rfl⟩ := Int.eq_ofNat_of_zero_le c1.1
    rw [Int.toNat_natCast, add_blk] at q0 q1 q2
    have htl : t < l.length := by omega
    have hfz : w.frozen? ⟨g, t * 3 + 2, none⟩ = false := blk_frozen hcells _
    obtain ⟨x, hx⟩ : ∃ x, (rd_T109 l (t : Int)).f0 = x := ⟨_, rfl⟩
    obtain ⟨y, hy⟩ : ∃ y, (rd_T109 l (t : Int)).f1 = y := ⟨_, rfl⟩
    rw [hx] at q0 hr
    rw [hy] at q1 hr
    have HR := Aside0.mk hR
    have HX := Aside0.mk hx
    have HY := Aside0.mk hy
    have HF := Aside0.mk (fitsF x v HV.out)
    obtain ⟨f, hf⟩ : ∃ f, fit x v = f := ⟨_, rfl⟩
    rw [hf] at hr HF
    have HFE := Aside0.mk hf
    have HH := Aside0.mk h
    rw [Int.toNat_natCast] at hr
    clear c1 hx hy hA2 hR hcells hf hg0 hg1
    cases y with
    | false =>
      rw [hr, if_neg (by simp)]
      clear hr
      go_enter Try.func51, Try.ntmps51
      go_wp2_with (go_at_call 44; (with_reducible refine (globFind p _ _ c t _ hl h htl).mono ?_); rintro e w' ⟨rfl, ⟨nd, rfl⟩⟩; rw [add_blk])
      go_ret
      exact ⟨rfl, HS.out.drewN _⟩
    | true =>
      cases f with
      | false =>
        rw [hr, if_neg (by simp)]
        clear hr
        go_enter Try.func51, Try.ntmps51
        go_wp2_with (first
          | (go_at_call 44; (with_reducible refine (globFind p _ _ c t _ hl h htl).mono ?_); rintro e w' ⟨rfl, ⟨nd, rfl⟩⟩; rw [add_blk])
          | (go_at_call 37; (with_reducible refine (ints_Fits.calls x v _ _ HF.out).mono ?_); rintro e w' ⟨rfl, ⟨nd2, rfl⟩⟩))
        go_ret
        exact ⟨rfl, HS.out.drewN (nd + nd2)⟩
      | true =>
        rw [hr, if_pos (by simp)]
        clear hr
        go_enter Try.func51, Try.ntmps51
        go_wp2_with (first
          | (go_at_call 44; (with_reducible refine (globFind p _ _ c t _ hl h htl).mono ?_); rintro e w' ⟨rfl, ⟨nd, rfl⟩⟩; rw [add_blk])
          | (go_at_call 37; (with_reducible refine (ints_Fits.calls x v _ _ HF.out).mono ?_); rintro e w' ⟨rfl, ⟨nd2, rfl⟩⟩))
        go_ret
        refine ⟨rfl, obj_turned (HS.out.drewN (nd + nd2)) HH.out (fun ok hok => ?_) ((Fr.refl _ (fun k => k = g)).setCell (p := ⟨g, t * 3 + 2, none⟩) (.inl rfl) _)⟩
        refine R_field (d := k109) (f := 2) k109_flat hok htl (by decide) _ _ (fun {base ok cs} h => ?_)
        obtain rfl := k109_openM h
        rw [← HX.out, rd_get htl]
        have hy2 : (l[t]).f1 = true := by rw [← rd_get htl]; exact HY.out
        rw [hy2]
        exact k109_mkM _ _ _ ⟨(l[t]).f0, true, v⟩
  · have hr : gSet l i v = (6, l) := if_neg c1
    rw [hr]
    clear hr hR
    go_enter Try.func51, Try.ntmps51
    go_wp2_with (go_at_call 44; (with_reducible refine (globFindNo p A _ c i _ hl h (by omega)).mono ?_); rintro e w' ⟨rfl, ⟨nd, rfl⟩⟩)
    go_ret
    exact ⟨rfl, HS.out.drewN _⟩
/-- What Add answers, and what it makes. -/
def gAdd (l : List S109) (t : Int) (m : Bool) (v : Int) : Int × Int × List S109 := if 128 ≤ l.length then (0, 4, l) else if fit t v = true then ((l.length : Int), 0, l ++ [⟨t, m, v⟩]) else (0, 5, l)
set_option maxRecDepth 100000 in
theorem globAdd {w0 w : World} {L : List As} {p : Nat} {l : List S109} (hS : SB w0 w (GO p l :: L)) (hl : l.length ≤ 128) (t : Int) (mu : Bool) (v : Int) (ht : 0 ≤ t ∧ t < 256) (hv : 0 ≤ v ∧ v < 18446744073709551616) :
    Calls Try.prog 19 #[.pointer (some ⟨p, 0, none⟩), .int .u8 t, .bool mu, .int .u64 v] w fun e w' => e = .returned (.tuple #[.int .i64 (gAdd l t mu v).1, .int .i64 (gAdd l t mu v).2.1]) ∧ SB w0 w' (GO p (gAdd l t mu v).2.2 :: L) := by
  obtain ⟨F, hF, _⟩ := hS.head
  obtain ⟨A, c, hblk, hR, hc, hC, hp, hlt⟩ := ObR.open_ hF
  have h : w.cell? ⟨p, 0, none⟩ = some (.slice A l.length c) := (blk_cell hblk 0).trans rfl
  have HS := Aside0.mk hS
  clear hS hblk hF hC hR
  by_cases c1 : 128 ≤ l.length
  · have d1 : decide ((128 : Int) ≤ (l.length : Int)) = true := decide_eq_true (by omega)
    have d1' : decide (128 ≤ l.length) = true := decide_eq_true c1
    have hr : gAdd l t mu v = (0, 4, l) := if_pos c1
    rw [hr]
    clear hr
    go_enter Try.func19, Try.ntmps19
    go_wp2
    go_ret2
    exact ⟨rfl, HS.out⟩
  · have d1 : decide ((128 : Int) ≤ (l.length : Int)) = false := decide_eq_false (by omega)
    have d1' : decide (128 ≤ l.length) = false := decide_eq_false c1
    have hr : gAdd l t mu v = if fit t v = true then ((l.length : Int), 0, l ++ [⟨t, mu, v⟩]) else (0, 5, l) := if_neg c1
    obtain ⟨f, hf⟩ : ∃ f, fit t v = f := ⟨_, rfl⟩
    have HF := Aside0.mk (fitsF t v hv)
    rw [hf] at hr HF
    clear hf
    cases f with
    | false =>
      rw [hr, if_neg (by simp)]
      clear hr
      go_enter Try.func19, Try.ntmps19
      go_wp2_with (go_at_call 37; (with_reducible refine (ints_Fits.calls t v _ _ HF.out).mono ?_); rintro e w' ⟨rfl, ⟨nd2, rfl⟩⟩)
      go_ret2
      exact ⟨rfl, HS.out.drewN _⟩
    | true =>
      rw [hr, if_pos rfl]
      clear hr
      have hl1 : ((l ++ [(⟨t, mu, v⟩ : S109)]).length : Int) = (l.length : Int) + 1 := by simp
      go_enter Try.func19, Try.ntmps19
      go_wp2_with (first
        | (go_at_call 37; (with_reducible refine (ints_Fits.calls t v _ _ HF.out).mono ?_); rintro e w' ⟨rfl, ⟨nd2, rfl⟩⟩)
        | ((with_reducible refine gate_builtin (b := .append) (xs := #[.tmp 32, .tmp 37]) rfl ?_); refine SB.appObj1 (W := w.drewN nd2) (d := k109) (cs := [.int .u8 t, .bool mu, .int .u64 v]) (y := ⟨t, mu, v⟩) (HS.out.drewN nd2) h rfl (.tmp 32) (.tmp 37) 61 (.agg #[.int .u8 0, .bool false, .int .u64 0]) 16 rfl Try.underlying61 (show (Try.prog.info? 107).map (fun i => (i.zero, i.size, i.bytes)) = some (some (.agg #[.int .u8 0, .bool false, .int .u64 0]), 3, 16) from by kernel_rfl) rfl (by decide) (by decide) rfl rfl (k109_mkM _ _ _ ⟨t, mu, v⟩) (by omega) ?_; intro v1 w1 A1 c1 hv1 h1 hs1; subst hv1; have q1 := blk_cell h1 0; have f1 := blk_frozen h1 0; have HS1 := Aside0.mk hs1; clear hs1 h1))
      go_ret2
      exact ⟨rfl, HS1.out⟩
set_option maxRecDepth 100000 in
theorem globAll {w0 w : World} {L : List As} {p : Nat} {l : List S109} (hS : SB w0 w (GO p l :: L)) (hl : l.length ≤ 1000000) :
    Calls Try.prog 25 #[.pointer (some ⟨p, 0, none⟩)] w fun e w' => ∃ v, e = .returned v ∧ SB w0 w' (Row (Kd.int .u64) 31 v (l.map S109.f2) :: GO p l :: L) := by
  obtain ⟨F, hF, _⟩ := hS.head
  obtain ⟨A, c, hblk, hR, hc, hC, hp, hlt⟩ := ObR.open_ hF
  have h : w.cell? ⟨p, 0, none⟩ = some (.slice A l.length c) := (blk_cell hblk 0).trans rfl
  have HS := Aside0.mk hS
  have HC := Aside0.mk hC
  clear hS hblk hF hC hR
  go_enter Try.func25, Try.ntmps25
  go_wp2
  go_loopw [3, 5, 14] (fun v3 v5 v14 wr => ∃ k : Nat, v14 = .int .i64 k ∧ k ≤ l.length ∧ Aside0 (SB w wr [Row (Kd.int .u64) 31 v3 ((l.take k).map S109.f2)])) (fun _ _ v14 _ => l.length - (intOf v14).toNat)
  case atStart => exact ⟨0, rfl, Nat.zero_le _, ⟨(SB.start w).row (Below.refl _ _) (Kd.R_nil _ _ _ _ (fun _ => True))⟩⟩
  case round =>
    obtain ⟨k, rfl, hk, HW⟩ := hrel
    by_cases hlt : k < l.length
    · have d1 : decide ((k : Int) < (l.length : Int)) = true := decide_eq_true (by omega)
      have d2 : decide (k < l.length) = true := decide_eq_true hlt
      obtain ⟨ad, rfl, q0, q1, q2⟩ := at_T109 (Kd.C_below HC.out HW.out.bel) (k : Int) (by omega) (by omega)
      rw [rd_get hlt, Int.toNat_natCast] at q0 q1 q2
      obtain ⟨x, hx⟩ : ∃ x, l[k] = x := ⟨_, rfl⟩
      rw [hx] at q0 q1 q2
      have HX := Aside0.mk hx
      clear hx
      go_wp2_with ((with_reducible refine gate_builtin (b := .append) (xs := #[.tmp 18, .tmp 21]) rfl ?_); refine SB.app1 (W := wr.alloc (.cells #[.int .u8 x.f0, .bool x.f1, .int .u64 x.f2] 107)) (d := Kd.int .u64) (cs := [.int .u64 x.f2]) (y := x.f2) (HW.out.alloc _) rfl (.tmp 18) (.tmp 21) 38 (.int .u64 0) 8 rfl Try.underlying38 (show (Try.prog.info? 31).map (fun i => (i.zero, i.size, i.bytes)) = some (some (.int .u64 0), 1, 8) from by kernel_rfl) rfl (by decide) (by decide) rfl (by first | (go_simp; done) | (go_simp; rfl)) rfl (by simp; omega) ?_; intro v22 w1 hs1; have HS1 := Aside0.mk hs1; clear hs1)
      exact ⟨⟨k + 1, rfl, by omega, ⟨by rw [List.take_succ_eq_append_getElem hlt, List.map_append, HX.out]; exact HS1.out⟩⟩, by simp [intOf]; omega⟩
    · have d1 : decide ((k : Int) < (l.length : Int)) = false := decide_eq_false (by omega)
      have d2 : decide (k < l.length) = false := decide_eq_false hlt
      obtain rfl : k = l.length := by omega
      go_wp2
      go_ret
      obtain ⟨F2, hF2, hge⟩ := HW.out.head
      rw [List.take_length] at hF2
      exact ⟨_, rfl, HS.out.new HW.out.bel hF2 hge⟩
/-- The new, empty globals. -/
theorem SB.newGlobs {w0 w : World} {L : List As} (h : SB w0 w L) : SB w0 (w.alloc (.cells #[.slice none 0 0] 65)) (GO w.heap.size [] :: L) := SB.newObj (d := k109) (e := 107) (t := 65) h []
end Go.Proofs.Ytbjglicdamenhaa.G
