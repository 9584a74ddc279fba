-- Made by gprint.py (mine) over the kit's print.py, out of the translation; parts of it typed by hand.
import Derived.Test.YtjonlcnmpejamaaDoorG0
namespace Go.Proofs.YtjonlcnmpejamaaDoor.G
open Go.RowKit Go.Proofs.YtjonlcnmpejamaaDoorW.PrintWords Go.Proofs.YtjonlcnmpejamaaDoorW.PrintLast Go.Proofs.YtjonlcnmpejamaaDoorW.PrintMore
attribute [local go_sem] max2_int min2_int max_two min_two max_three min_three max_four min_four   -- for this text's walks alone
set_option linter.unusedVariables false
set_option linter.unusedSimpArgs false

/-! ### ints_truth: function 27 -/
def ints_truth.f (a0 : Bool) : Option (Int) := if a0 = true then (some 1) else (some 0)
set_option maxHeartbeats 8000000 in
set_option maxRecDepth 100000 in
theorem ints_truth.calls (a0 : Bool) (r : Int) (w : World) (h : ints_truth.f a0 = some r) :
    Calls Tryd.prog 27 #[.bool a0] w fun e w' => e = .returned (.int .u64 r) ∧ Drawn0 w w' := by
  have H : (if a0 = true then (some 1) else (some 0)) = some r := h
  clear h
  by_cases c2 : a0 = true
  · subst c2
    have H1 : (some 1) = some r := by rw [if_pos rfl] at H; exact H
    clear H
    have H := H1
    clear H1
    obtain rfl := Option.some.inj H
    go_enter Tryd.func27, Tryd.ntmps27
    go_wp2
    go_ret
    exact ⟨by first | rfl | (simp; done) | (simp [*]; done), by repeat (first | exact Drawn0.refl _ | apply Drawn0.step)⟩
  · replace c2 := Bool.eq_false_iff.mpr c2
    subst c2
    have H1 : (some 0) = some r := by rw [if_neg (show ¬ (false = true) by decide)] at H; exact H
    clear H
    have H := H1
    clear H1
    obtain rfl := Option.some.inj H
    go_enter Tryd.func27, Tryd.ntmps27
    go_wp2
    go_ret
    exact ⟨by first | rfl | (simp; done) | (simp [*]; done), by repeat (first | exact Drawn0.refl _ | apply Drawn0.step)⟩

/-! ### bits_Len32: function 46 -/
def bits_Len32.f (a0 : Int) : Option Int := if 0 ≤ a0 ∧ a0 ≤ 4294967295 then some (Lib.bitLen a0.toNat : Int) else none
theorem bits32_lenTab (n : Nat) (h : n < Lib.len8tab.size) : ((Lib.len8tab[n]).toNat : Int) = (Lib.bitLen n : Int) ∧ Lib.bitLen n ≤ 8 := by
  have h2 : n < 256 := by rw [Lib.len8tab_size] at h; exact h
  have e := Lib.len8_of n (by omega) (by omega)
  have l := Lib.bitLen_le8' n (by omega) (by omega)
  unfold Lib.len8 at e
  simp only [Int.toNat_natCast] at e l
  rw [getElem?_pos Lib.len8tab n h] at e
  exact ⟨e, l⟩
theorem bits32_lenAt (x : Int) (s q n : Nat) (h : n < Lib.len8tab.size) (e : n = x.toNat / q) (hs : s ≤ 56) (hx : Lib.bitLen x.toNat = s + Lib.bitLen (x.toNat / q)) : wrap64 ((s : Int) + wrap64 ((Lib.len8tab[n]).toNat : Int)) = (Lib.bitLen x.toNat : Int) := by
  have l := bits32_lenTab n h
  rw [l.1, hx, ← e]
  unfold wrap64
  omega
set_option maxHeartbeats 8000000 in
set_option maxRecDepth 100000 in
theorem bits_Len32.calls (a0 r : Int) (w : World) (h : bits_Len32.f a0 = some r) :
    Calls Tryd.prog 46 #[.int .u32 a0] w fun e w' => e = .returned (.int .i64 r) ∧ Drawn0 w w' := by
  unfold bits_Len32.f at h
  by_cases hb : 0 ≤ a0 ∧ a0 ≤ 4294967295
  · rw [if_pos hb] at h
    have H := Aside0.mk (Option.some.inj h)
    clear h
    obtain ⟨h0, h1⟩ := hb
    go_enter Tryd.func46, Tryd.ntmps46
    go_wp2
    all_goals first | (exfalso; have := Lib.len8tab_size; omega) | (go_ret; refine ⟨congrArg Ending.returned (congrArg (Value.int IntKind.i64) ?_), Drawn0.refl _⟩; rw [← H.out]; clear H)
    · exact bits32_lenAt a0 24 16777216 _ _ (by omega) (by omega) (Lib.bitLen_shift24 _ (by omega) (by omega))
    · exact bits32_lenAt a0 16 65536 _ _ (by omega) (by omega) (Lib.bitLen_shift16 _ (by omega) (by omega))
    · exact bits32_lenAt a0 8 256 _ _ (by omega) (by omega) (Lib.bitLen_shift8 _ (by omega) (by omega))
    · have := bits32_lenAt a0 0 1 a0.toNat (by omega) (by omega) (by omega) (by rw [Nat.div_one]; omega)
      simpa using this
  · rw [if_neg hb] at h
    simp at h

/-! ### bits_LeadingZeros32: function 28 -/
def bits_LeadingZeros32.f (a0 : Int) : Option (Int) := (bits_Len32.f a0).bind fun t101 => (some (wrap64 (32 - t101)))
set_option maxHeartbeats 8000000 in
set_option maxRecDepth 100000 in
theorem bits_LeadingZeros32.calls (a0 : Int) (r : Int) (w : World) (h : bits_LeadingZeros32.f a0 = some r) :
    Calls Tryd.prog 28 #[.int .u32 a0] w fun e w' => e = .returned (.int .i64 r) ∧ Drawn0 w w' := by
  have H : ((bits_Len32.f a0).bind fun t101 => (some (wrap64 (32 - t101)))) = some r := h
  clear h
  replace H := Option.bind_eq_some_iff.mp H
  obtain ⟨t101, A20, H⟩ := H
  replace H : (some (wrap64 (32 - t101))) = some r := H
  have A2 := Aside0.mk A20
  clear A20
  obtain rfl := Option.some.inj H
  go_enter Tryd.func28, Tryd.ntmps28
  go_wp2_with (first | ((with_reducible refine gate_callee (f := 46) rfl ?_); refine goesL_ (some 4) rfl rfl Tryd.func46 (by kernel_rfl) rfl #[.int .u32 a0] rfl (by (try simp only [List.map_toArray, List.map_cons, List.map_nil]); first | done | rfl | (simp only [List.length_drop, List.length_take]; rfl)) ?_; (with_reducible refine (bits_Len32.calls a0 t101 _ A2.out).mono ?_); rintro e w' ⟨rfl, ⟨nd, rfl⟩⟩; refine ⟨_, rfl, ?_⟩))
  go_ret
  exact ⟨by first | rfl | (simp; done) | (simp [*]; done), by repeat (first | exact Drawn0.refl _ | apply Drawn0.step)⟩

/-! ### bits_TrailingZeros32: function 29 -/
def bits_TrailingZeros32.f (a0 : Int) : Option Int := if 0 ≤ a0 ∧ a0 < 4294967296 then some (Lib.ctz 32 a0.toNat : Int) else none
theorem bits_TrailingZeros32.calls (a0 r : Int) (w : World) (hG : Globs w) (h : bits_TrailingZeros32.f a0 = some r) :
    Calls Tryd.prog 29 #[.int .u32 a0] w fun e w' => e = .returned (.int .i64 r) ∧ Drawn0 w w' := by
  unfold bits_TrailingZeros32.f at h
  by_cases hb : 0 ≤ a0 ∧ a0 < 4294967296
  · rw [if_pos hb] at h
    obtain rfl := Option.some.inj h
    have c := tz32_calls a0.toNat (by omega) w hG
    rw [Int.toNat_of_nonneg hb.1] at c
    exact c.mono fun e w' hh => ⟨hh.1, by rw [hh.2]; exact Drawn0.refl _⟩
  · rw [if_neg hb] at h
    cases h

/-! ### bits_OnesCount32: function 30 -/
def bits_OnesCount32.f (a0 : Int) : Option Int := if 0 ≤ a0 ∧ a0 < 4294967296 then some (Lib.onesCount a0.toNat : Int) else none
theorem bits_OnesCount32.calls (a0 r : Int) (w : World) (h : bits_OnesCount32.f a0 = some r) :
    Calls Tryd.prog 30 #[.int .u32 a0] w fun e w' => e = .returned (.int .i64 r) ∧ Drawn0 w w' := by
  unfold bits_OnesCount32.f at h
  by_cases hb : 0 ≤ a0 ∧ a0 < 4294967296
  · rw [if_pos hb] at h
    obtain rfl := Option.some.inj h
    exact ones32_calls a0 w hb.1 hb.2
  · rw [if_neg hb] at h
    cases h

/-! ### bits_Len64: function 47 -/
def bits_Len64.f (a0 : Int) : Option Int := if 0 ≤ a0 ∧ a0 ≤ 18446744073709551615 then some (Lib.bitLen a0.toNat : Int) else none
theorem bits64_lenTab (n : Nat) (h : n < Lib.len8tab.size) : ((Lib.len8tab[n]).toNat : Int) = (Lib.bitLen n : Int) ∧ Lib.bitLen n ≤ 8 := by
  have h2 : n < 256 := by rw [Lib.len8tab_size] at h; exact h
  have e := Lib.len8_of n (by omega) (by omega)
  have l := Lib.bitLen_le8' n (by omega) (by omega)
  unfold Lib.len8 at e
  simp only [Int.toNat_natCast] at e l
  rw [getElem?_pos Lib.len8tab n h] at e
  exact ⟨e, l⟩
theorem bits64_lenAt (x : Int) (s q n : Nat) (h : n < Lib.len8tab.size) (e : n = x.toNat / q) (hs : s ≤ 56) (hx : Lib.bitLen x.toNat = s + Lib.bitLen (x.toNat / q)) : wrap64 ((s : Int) + wrap64 ((Lib.len8tab[n]).toNat : Int)) = (Lib.bitLen x.toNat : Int) := by
  have l := bits64_lenTab n h
  rw [l.1, hx, ← e]
  unfold wrap64
  omega
set_option maxHeartbeats 8000000 in
set_option maxRecDepth 100000 in
theorem bits_Len64.calls (a0 r : Int) (w : World) (h : bits_Len64.f a0 = some r) :
    Calls Tryd.prog 47 #[.int .u64 a0] w fun e w' => e = .returned (.int .i64 r) ∧ Drawn0 w w' := by
  unfold bits_Len64.f at h
  by_cases hb : 0 ≤ a0 ∧ a0 ≤ 18446744073709551615
  · rw [if_pos hb] at h
    have H := Aside0.mk (Option.some.inj h)
    clear h
    obtain ⟨h0, h1⟩ := hb
    go_enter Tryd.func47, Tryd.ntmps47
    go_wp2
    all_goals first | (exfalso; have := Lib.len8tab_size; omega) | (go_ret; refine ⟨congrArg Ending.returned (congrArg (Value.int IntKind.i64) ?_), Drawn0.refl _⟩; rw [← H.out]; clear H)
    · exact bits64_lenAt a0 56 72057594037927936 _ _ (by omega) (by omega) (Lib.bitLen_shift56 _ (by omega) (by omega))
    · exact bits64_lenAt a0 48 281474976710656 _ _ (by omega) (by omega) (Lib.bitLen_shift48 _ (by omega) (by omega))
    · exact bits64_lenAt a0 40 1099511627776 _ _ (by omega) (by omega) (Lib.bitLen_shift40 _ (by omega) (by omega))
    · exact bits64_lenAt a0 32 4294967296 _ _ (by omega) (by omega) (Lib.bitLen_shift32 _ (by omega) (by omega))
    · exact bits64_lenAt a0 24 16777216 _ _ (by omega) (by omega) (Lib.bitLen_shift24 _ (by omega) (by omega))
    · exact bits64_lenAt a0 16 65536 _ _ (by omega) (by omega) (Lib.bitLen_shift16 _ (by omega) (by omega))
    · exact bits64_lenAt a0 8 256 _ _ (by omega) (by omega) (Lib.bitLen_shift8 _ (by omega) (by omega))
    · have := bits64_lenAt a0 0 1 a0.toNat (by omega) (by omega) (by omega) (by rw [Nat.div_one]; omega)
      simpa using this
  · rw [if_neg hb] at h
    simp at h

/-! ### bits_LeadingZeros64: function 31 -/
def bits_LeadingZeros64.f (a0 : Int) : Option (Int) := (bits_Len64.f a0).bind fun t102 => (some (wrap64 (64 - t102)))
set_option maxHeartbeats 8000000 in
set_option maxRecDepth 100000 in
theorem bits_LeadingZeros64.calls (a0 : Int) (r : Int) (w : World) (h : bits_LeadingZeros64.f a0 = some r) :
    Calls Tryd.prog 31 #[.int .u64 a0] w fun e w' => e = .returned (.int .i64 r) ∧ Drawn0 w w' := by
  have H : ((bits_Len64.f a0).bind fun t102 => (some (wrap64 (64 - t102)))) = some r := h
  clear h
  replace H := Option.bind_eq_some_iff.mp H
  obtain ⟨t102, A20, H⟩ := H
  replace H : (some (wrap64 (64 - t102))) = some r := H
  have A2 := Aside0.mk A20
  clear A20
  obtain rfl := Option.some.inj H
  go_enter Tryd.func31, Tryd.ntmps31
  go_wp2_with (first | ((with_reducible refine gate_callee (f := 47) rfl ?_); refine goesL_ (some 4) rfl rfl Tryd.func47 (by kernel_rfl) rfl #[.int .u64 a0] rfl (by (try simp only [List.map_toArray, List.map_cons, List.map_nil]); first | done | rfl | (simp only [List.length_drop, List.length_take]; rfl)) ?_; (with_reducible refine (bits_Len64.calls a0 t102 _ A2.out).mono ?_); rintro e w' ⟨rfl, ⟨nd, rfl⟩⟩; refine ⟨_, rfl, ?_⟩))
  go_ret
  exact ⟨by first | rfl | (simp; done) | (simp [*]; done), by repeat (first | exact Drawn0.refl _ | apply Drawn0.step)⟩

/-! ### bits_TrailingZeros64: function 32 -/
def bits_TrailingZeros64.f (a0 : Int) : Option Int := if 0 ≤ a0 ∧ a0 < 18446744073709551616 then some (Lib.ctz 64 a0.toNat : Int) else none
theorem bits_TrailingZeros64.calls (a0 r : Int) (w : World) (hG : Globs w) (h : bits_TrailingZeros64.f a0 = some r) :
    Calls Tryd.prog 32 #[.int .u64 a0] w fun e w' => e = .returned (.int .i64 r) ∧ Drawn0 w w' := by
  unfold bits_TrailingZeros64.f at h
  by_cases hb : 0 ≤ a0 ∧ a0 < 18446744073709551616
  · rw [if_pos hb] at h
    obtain rfl := Option.some.inj h
    have c := tz64_calls a0.toNat (by omega) w hG
    rw [Int.toNat_of_nonneg hb.1] at c
    exact c.mono fun e w' hh => ⟨hh.1, by rw [hh.2]; exact Drawn0.refl _⟩
  · rw [if_neg hb] at h
    cases h

/-! ### bits_OnesCount64: function 33 -/
def bits_OnesCount64.f (a0 : Int) : Option Int := if 0 ≤ a0 ∧ a0 < 18446744073709551616 then some (Lib.onesCount a0.toNat : Int) else none
theorem bits_OnesCount64.calls (a0 r : Int) (w : World) (h : bits_OnesCount64.f a0 = some r) :
    Calls Tryd.prog 33 #[.int .u64 a0] w fun e w' => e = .returned (.int .i64 r) ∧ Drawn0 w w' := by
  unfold bits_OnesCount64.f at h
  by_cases hb : 0 ≤ a0 ∧ a0 < 18446744073709551616
  · rw [if_pos hb] at h
    obtain rfl := Option.some.inj h
    have c := ones64_calls a0.toNat w (by omega)
    rw [Int.toNat_of_nonneg hb.1] at c
    exact c.mono fun e w' hh => ⟨hh.1, by rw [hh.2]; exact Drawn0.refl _⟩
  · rw [if_neg hb] at h
    cases h

/-! ### ints_One: function 15 -/
def ints_One.j0 : Nat → Int → Int → Bool → Option (Int × Bool)
  | 0, _, _, _ => none
  | k + 1, x6, x9, x50 => if x50 = true then (some (IntKind.u64.wrap (x6), true)) else (if x9 = 172 then (some (IntKind.u64.wrap (wrap64 (wrap32 (x6))), true)) else (some (0, false)))
def ints_One.f (k : Nat) (a0 : Int) (a1 : Int) : Option (Int × Bool) := if a0 = 69 then ((ints_truth.f (((a1) % 4294967296) == 0)).bind fun t103 => (some (t103, true))) else (if a0 = 80 then ((ints_truth.f (a1 == 0)).bind fun t104 => (some (t104, true))) else (if a0 = 103 then ((bits_LeadingZeros32.f ((a1) % 4294967296)).bind fun t105 => (some (IntKind.u64.wrap (t105), true))) else (if a0 = 104 then ((bits_TrailingZeros32.f ((a1) % 4294967296)).bind fun t106 => (some (IntKind.u64.wrap (t106), true))) else (if a0 = 105 then ((bits_OnesCount32.f ((a1) % 4294967296)).bind fun t107 => (some (IntKind.u64.wrap (t107), true))) else (if a0 = 121 then ((bits_LeadingZeros64.f a1).bind fun t108 => (some (IntKind.u64.wrap (t108), true))) else (if a0 = 122 then ((bits_TrailingZeros64.f a1).bind fun t109 => (some (IntKind.u64.wrap (t109), true))) else (if a0 = 123 then ((bits_OnesCount64.f a1).bind fun t110 => (some (IntKind.u64.wrap (t110), true))) else (if a0 = 167 then (ints_One.j0 k ((a1) % 4294967296) a0 (a0 == 167)) else (ints_One.j0 k ((a1) % 4294967296) a0 (a0 == 173))))))))))
theorem ints_One.mono_l : ∀ k, (∀ y0 y1 y2, LeO (ints_One.j0 k y0 y1 y2) (ints_One.j0 (k + 1) y0 y1 y2))
  | 0 => fun _ _ _ r h => by simp [ints_One.j0] at h
  | k + 1 => by
    have ih0 := ints_One.mono_l k
    · intro y0 y1 y2
      unfold ints_One.j0
      repeat' first
      | (with_reducible exact ih0 _ _ _)
      | (with_reducible exact LeO.refl _)
      | (with_reducible exact LeO.none _)
      | (with_reducible refine LeO.ite ?_ ?_)
      | (with_reducible refine LeO.bind ?_ (fun _ => ?_))
      | exact ih0 _ _ _
      | exact LeO.none _
      | refine LeO.ite ?_ ?_
      | refine LeO.bind ?_ (fun _ => ?_)
theorem ints_One.mono : ∀ a0 a1 k, LeO (ints_One.f k a0 a1) (ints_One.f (k + 1) a0 a1) := by
  intro a0 a1 k
  have ih0 := ints_One.mono_l k
  unfold ints_One.f
  repeat' first
      | (with_reducible exact ih0 _ _ _)
      | (with_reducible exact LeO.refl _)
      | (with_reducible exact LeO.none _)
      | (with_reducible refine LeO.ite ?_ ?_)
      | (with_reducible refine LeO.bind ?_ (fun _ => ?_))
      | exact ih0 _ _ _
      | exact LeO.none _
      | refine LeO.ite ?_ ?_
      | refine LeO.bind ?_ (fun _ => ?_)
set_option maxHeartbeats 8000000 in
set_option maxRecDepth 100000 in
theorem ints_One.calls (k : Nat) (a0 : Int) (a1 : Int) (r1 : Int) (r2 : Bool) (w : World) (hG : Globs w) (h : ints_One.f k a0 a1 = some (r1, r2)) :
    Calls Tryd.prog 15 #[.int .i64 a0, .int .u64 a1] w fun e w' => e = .returned (.tuple #[.int .u64 r1, .bool r2]) ∧ Drawn0 w w' := by
  have HG := Aside0.mk hG
  clear hG
  have H : (if a0 = 69 then ((ints_truth.f (((a1) % 4294967296) == 0)).bind fun t103 => (some (t103, true))) else (if a0 = 80 then ((ints_truth.f (a1 == 0)).bind fun t104 => (some (t104, true))) else (if a0 = 103 then ((bits_LeadingZeros32.f ((a1) % 4294967296)).bind fun t105 => (some (IntKind.u64.wrap (t105), true))) else (if a0 = 104 then ((bits_TrailingZeros32.f ((a1) % 4294967296)).bind fun t106 => (some (IntKind.u64.wrap (t106), true))) else (if a0 = 105 then ((bits_OnesCount32.f ((a1) % 4294967296)).bind fun t107 => (some (IntKind.u64.wrap (t107), true))) else (if a0 = 121 then ((bits_LeadingZeros64.f a1).bind fun t108 => (some (IntKind.u64.wrap (t108), true))) else (if a0 = 122 then ((bits_TrailingZeros64.f a1).bind fun t109 => (some (IntKind.u64.wrap (t109), true))) else (if a0 = 123 then ((bits_OnesCount64.f a1).bind fun t110 => (some (IntKind.u64.wrap (t110), true))) else (if a0 = 167 then (ints_One.j0 k ((a1) % 4294967296) a0 (a0 == 167)) else (ints_One.j0 k ((a1) % 4294967296) a0 (a0 == 173))))))))))) = some (r1, r2) := h
  clear h
  by_cases c3 : a0 = 69
  · rw [if_pos c3] at H
    have c3b0 : (a0 == 69) = true := beq_iff_eq.mpr c3
    have c3b1 : (a0 != 69) = false := bne_eq_false_iff_eq.mpr c3
    clear c3
    replace H := Option.bind_eq_some_iff.mp H
    obtain ⟨t103, A40, H⟩ := H
    replace H : (some (t103, true)) = some (r1, r2) := H
    have A4 := Aside0.mk A40
    clear A40
    simp only [Option.some.injEq, Prod.mk.injEq] at H
    obtain ⟨rfl, rfl⟩ := H
    go_enter Tryd.func15, Tryd.ntmps15
    go_wp2_with (first | ((with_reducible refine gate_callee (f := 27) rfl ?_); refine goesL_ (some 14) rfl rfl Tryd.func27 (by kernel_rfl) rfl #[.bool (((a1) % 4294967296) == 0)] rfl (by (try simp only [List.map_toArray, List.map_cons, List.map_nil]); first | done | rfl | (simp only [List.length_drop, List.length_take]; rfl)) ?_; (with_reducible refine (ints_truth.calls (((a1) % 4294967296) == 0) t103 _ A4.out).mono ?_); rintro e w' ⟨rfl, ⟨nd, rfl⟩⟩; refine ⟨_, rfl, ?_⟩))
    go_ret2
    exact ⟨by first | rfl | (simp; done) | (simp [*]; done), by repeat (first | exact Drawn0.refl _ | apply Drawn0.step)⟩
  · rw [if_neg c3] at H
    have c3b0 : (a0 == 69) = false := beq_eq_false_iff_ne.mpr c3
    have c3b1 : (a0 != 69) = true := bne_iff_ne.mpr c3
    by_cases c5 : a0 = 80
    · rw [if_pos c5] at H
      have c5b0 : (a0 == 80) = true := beq_iff_eq.mpr c5
      have c5b1 : (a0 != 80) = false := bne_eq_false_iff_eq.mpr c5
      clear c5
      replace H := Option.bind_eq_some_iff.mp H
      obtain ⟨t104, A60, H⟩ := H
      replace H : (some (t104, true)) = some (r1, r2) := H
      have A6 := Aside0.mk A60
      clear A60
      simp only [Option.some.injEq, Prod.mk.injEq] at H
      obtain ⟨rfl, rfl⟩ := H
      go_enter Tryd.func15, Tryd.ntmps15
      go_wp2_with (first | ((with_reducible refine gate_callee (f := 27) rfl ?_); refine goesL_ (some 19) rfl rfl Tryd.func27 (by kernel_rfl) rfl #[.bool (a1 == 0)] rfl (by (try simp only [List.map_toArray, List.map_cons, List.map_nil]); first | done | rfl | (simp only [List.length_drop, List.length_take]; rfl)) ?_; (with_reducible refine (ints_truth.calls (a1 == 0) t104 _ A6.out).mono ?_); rintro e w' ⟨rfl, ⟨nd, rfl⟩⟩; refine ⟨_, rfl, ?_⟩))
      go_ret2
      exact ⟨by first | rfl | (simp; done) | (simp [*]; done), by repeat (first | exact Drawn0.refl _ | apply Drawn0.step)⟩
    · rw [if_neg c5] at H
      have c5b0 : (a0 == 80) = false := beq_eq_false_iff_ne.mpr c5
      have c5b1 : (a0 != 80) = true := bne_iff_ne.mpr c5
      by_cases c7 : a0 = 103
      · rw [if_pos c7] at H
        have c7b0 : (a0 == 103) = true := beq_iff_eq.mpr c7
        have c7b1 : (a0 != 103) = false := bne_eq_false_iff_eq.mpr c7
        clear c7
        replace H := Option.bind_eq_some_iff.mp H
        obtain ⟨t105, A80, H⟩ := H
        replace H : (some (IntKind.u64.wrap (t105), true)) = some (r1, r2) := H
        have A8 := Aside0.mk A80
        clear A80
        simp only [Option.some.injEq, Prod.mk.injEq] at H
        obtain ⟨rfl, rfl⟩ := H
        go_enter Tryd.func15, Tryd.ntmps15
        go_wp2_with (first | ((with_reducible refine gate_callee (f := 28) rfl ?_); refine goesL_ (some 23) rfl rfl Tryd.func28 (by kernel_rfl) rfl #[.int .u32 ((a1) % 4294967296)] rfl (by (try simp only [List.map_toArray, List.map_cons, List.map_nil]); first | done | rfl | (simp only [List.length_drop, List.length_take]; rfl)) ?_; (with_reducible refine (bits_LeadingZeros32.calls ((a1) % 4294967296) t105 _ A8.out).mono ?_); rintro e w' ⟨rfl, ⟨nd, rfl⟩⟩; refine ⟨_, rfl, ?_⟩))
        go_ret2
        exact ⟨by first | rfl | (simp; done) | (simp [*]; done), by repeat (first | exact Drawn0.refl _ | apply Drawn0.step)⟩
      · rw [if_neg c7] at H
        have c7b0 : (a0 == 103) = false := beq_eq_false_iff_ne.mpr c7
        have c7b1 : (a0 != 103) = true := bne_iff_ne.mpr c7
        by_cases c9 : a0 = 104
        · rw [if_pos c9] at H
          have c9b0 : (a0 == 104) = true := beq_iff_eq.mpr c9
          have c9b1 : (a0 != 104) = false := bne_eq_false_iff_eq.mpr c9
          clear c9
          replace H := Option.bind_eq_some_iff.mp H
          obtain ⟨t106, A100, H⟩ := H
          replace H : (some (IntKind.u64.wrap (t106), true)) = some (r1, r2) := H
          have A10 := Aside0.mk A100
          clear A100
          simp only [Option.some.injEq, Prod.mk.injEq] at H
          obtain ⟨rfl, rfl⟩ := H
          go_enter Tryd.func15, Tryd.ntmps15
          go_wp2_with (first | ((with_reducible refine gate_callee (f := 29) rfl ?_); refine goesL_ (some 28) rfl rfl Tryd.func29 (by kernel_rfl) rfl #[.int .u32 ((a1) % 4294967296)] rfl (by (try simp only [List.map_toArray, List.map_cons, List.map_nil]); first | done | rfl | (simp only [List.length_drop, List.length_take]; rfl)) ?_; (with_reducible refine (bits_TrailingZeros32.calls ((a1) % 4294967296) t106 _ ?side1 A10.out).mono ?_); (case side1 => first | (repeat (first | exact HG.out | (with_reducible refine Globs.alloc ?_ _) | (with_reducible refine Globs.drewN ?_ _) | (with_reducible refine Globs.drew ?_)))); rintro e w' ⟨rfl, ⟨nd, rfl⟩⟩; refine ⟨_, rfl, ?_⟩))
          go_ret2
          exact ⟨by first | rfl | (simp; done) | (simp [*]; done), by repeat (first | exact Drawn0.refl _ | apply Drawn0.step)⟩
        · rw [if_neg c9] at H
          have c9b0 : (a0 == 104) = false := beq_eq_false_iff_ne.mpr c9
          have c9b1 : (a0 != 104) = true := bne_iff_ne.mpr c9
          by_cases c11 : a0 = 105
          · rw [if_pos c11] at H
            have c11b0 : (a0 == 105) = true := beq_iff_eq.mpr c11
            have c11b1 : (a0 != 105) = false := bne_eq_false_iff_eq.mpr c11
            clear c11
            replace H := Option.bind_eq_some_iff.mp H
            obtain ⟨t107, A120, H⟩ := H
            replace H : (some (IntKind.u64.wrap (t107), true)) = some (r1, r2) := H
            have A12 := Aside0.mk A120
            clear A120
            simp only [Option.some.injEq, Prod.mk.injEq] at H
            obtain ⟨rfl, rfl⟩ := H
            go_enter Tryd.func15, Tryd.ntmps15
            go_wp2_with (first | ((with_reducible refine gate_callee (f := 30) rfl ?_); refine goesL_ (some 33) rfl rfl Tryd.func30 (by kernel_rfl) rfl #[.int .u32 ((a1) % 4294967296)] rfl (by (try simp only [List.map_toArray, List.map_cons, List.map_nil]); first | done | rfl | (simp only [List.length_drop, List.length_take]; rfl)) ?_; (with_reducible refine (bits_OnesCount32.calls ((a1) % 4294967296) t107 _ A12.out).mono ?_); rintro e w' ⟨rfl, ⟨nd, rfl⟩⟩; refine ⟨_, rfl, ?_⟩))
            go_ret2
            exact ⟨by first | rfl | (simp; done) | (simp [*]; done), by repeat (first | exact Drawn0.refl _ | apply Drawn0.step)⟩
          · rw [if_neg c11] at H
            have c11b0 : (a0 == 105) = false := beq_eq_false_iff_ne.mpr c11
            have c11b1 : (a0 != 105) = true := bne_iff_ne.mpr c11
            by_cases c13 : a0 = 121
            · rw [if_pos c13] at H
              have c13b0 : (a0 == 121) = true := beq_iff_eq.mpr c13
              have c13b1 : (a0 != 121) = false := bne_eq_false_iff_eq.mpr c13
              clear c13
              replace H := Option.bind_eq_some_iff.mp H
              obtain ⟨t108, A140, H⟩ := H
              replace H : (some (IntKind.u64.wrap (t108), true)) = some (r1, r2) := H
              have A14 := Aside0.mk A140
              clear A140
              simp only [Option.some.injEq, Prod.mk.injEq] at H
              obtain ⟨rfl, rfl⟩ := H
              go_enter Tryd.func15, Tryd.ntmps15
              go_wp2_with (first | ((with_reducible refine gate_callee (f := 31) rfl ?_); refine goesL_ (some 38) rfl rfl Tryd.func31 (by kernel_rfl) rfl #[.int .u64 a1] rfl (by (try simp only [List.map_toArray, List.map_cons, List.map_nil]); first | done | rfl | (simp only [List.length_drop, List.length_take]; rfl)) ?_; (with_reducible refine (bits_LeadingZeros64.calls a1 t108 _ A14.out).mono ?_); rintro e w' ⟨rfl, ⟨nd, rfl⟩⟩; refine ⟨_, rfl, ?_⟩))
              go_ret2
              exact ⟨by first | rfl | (simp; done) | (simp [*]; done), by repeat (first | exact Drawn0.refl _ | apply Drawn0.step)⟩
            · rw [if_neg c13] at H
              have c13b0 : (a0 == 121) = false := beq_eq_false_iff_ne.mpr c13
              have c13b1 : (a0 != 121) = true := bne_iff_ne.mpr c13
              by_cases c15 : a0 = 122
              · rw [if_pos c15] at H
                have c15b0 : (a0 == 122) = true := beq_iff_eq.mpr c15
                have c15b1 : (a0 != 122) = false := bne_eq_false_iff_eq.mpr c15
                clear c15
                replace H := Option.bind_eq_some_iff.mp H
                obtain ⟨t109, A160, H⟩ := H
                replace H : (some (IntKind.u64.wrap (t109), true)) = some (r1, r2) := H
                have A16 := Aside0.mk A160
                clear A160
                simp only [Option.some.injEq, Prod.mk.injEq] at H
                obtain ⟨rfl, rfl⟩ := H
                go_enter Tryd.func15, Tryd.ntmps15
                go_wp2_with (first | ((with_reducible refine gate_callee (f := 32) rfl ?_); refine goesL_ (some 43) rfl rfl Tryd.func32 (by kernel_rfl) rfl #[.int .u64 a1] rfl (by (try simp only [List.map_toArray, List.map_cons, List.map_nil]); first | done | rfl | (simp only [List.length_drop, List.length_take]; rfl)) ?_; (with_reducible refine (bits_TrailingZeros64.calls a1 t109 _ ?side1 A16.out).mono ?_); (case side1 => first | (repeat (first | exact HG.out | (with_reducible refine Globs.alloc ?_ _) | (with_reducible refine Globs.drewN ?_ _) | (with_reducible refine Globs.drew ?_)))); rintro e w' ⟨rfl, ⟨nd, rfl⟩⟩; refine ⟨_, rfl, ?_⟩))
                go_ret2
                exact ⟨by first | rfl | (simp; done) | (simp [*]; done), by repeat (first | exact Drawn0.refl _ | apply Drawn0.step)⟩
              · rw [if_neg c15] at H
                have c15b0 : (a0 == 122) = false := beq_eq_false_iff_ne.mpr c15
                have c15b1 : (a0 != 122) = true := bne_iff_ne.mpr c15
                by_cases c17 : a0 = 123
                · rw [if_pos c17] at H
                  have c17b0 : (a0 == 123) = true := beq_iff_eq.mpr c17
                  have c17b1 : (a0 != 123) = false := bne_eq_false_iff_eq.mpr c17
                  clear c17
                  replace H := Option.bind_eq_some_iff.mp H
                  obtain ⟨t110, A180, H⟩ := H
                  replace H : (some (IntKind.u64.wrap (t110), true)) = some (r1, r2) := H
                  have A18 := Aside0.mk A180
                  clear A180
                  simp only [Option.some.injEq, Prod.mk.injEq] at H
                  obtain ⟨rfl, rfl⟩ := H
                  go_enter Tryd.func15, Tryd.ntmps15
                  go_wp2_with (first | ((with_reducible refine gate_callee (f := 33) rfl ?_); refine goesL_ (some 48) rfl rfl Tryd.func33 (by kernel_rfl) rfl #[.int .u64 a1] rfl (by (try simp only [List.map_toArray, List.map_cons, List.map_nil]); first | done | rfl | (simp only [List.length_drop, List.length_take]; rfl)) ?_; (with_reducible refine (bits_OnesCount64.calls a1 t110 _ A18.out).mono ?_); rintro e w' ⟨rfl, ⟨nd, rfl⟩⟩; refine ⟨_, rfl, ?_⟩))
                  go_ret2
                  exact ⟨by first | rfl | (simp; done) | (simp [*]; done), by repeat (first | exact Drawn0.refl _ | apply Drawn0.step)⟩
                · rw [if_neg c17] at H
                  have c17b0 : (a0 == 123) = false := beq_eq_false_iff_ne.mpr c17
                  have c17b1 : (a0 != 123) = true := bne_iff_ne.mpr c17
                  have HC19 := Aside0.mk H
                  clear H
                  go_enter Tryd.func15, Tryd.ntmps15
                  go_upto_if 50 with (fail)
                  go_cut [50] (fun v50 wc => ∃ (kq : Nat) (x50_18 : Bool), v50 = .bool x50_18 ∧ Aside0 (ints_One.j0 kq ((a1) % 4294967296) a0 x50_18 = some (r1, r2)) ∧ Aside0 (kq ≤ k) ∧ Drawn0 w wc)
                  case first =>
                    have H := HC19.out
                    clear HC19
                    by_cases c20 : a0 = 167
                    · rw [if_pos c20] at H
                      have c20b0 : (a0 == 167) = true := beq_iff_eq.mpr c20
                      have c20b1 : (a0 != 167) = false := bne_eq_false_iff_eq.mpr c20
                      clear c20
                      (first | rw [c20b0] | (simp only [i64_w, i32_w]; rw [c20b0]) | skip)
                      have H' := Aside0.mk H
                      clear H
                      go_wp2
                      go_meet
                      case rel => exact ⟨_, ((a0 == 167)), (by first | rfl | (simp; done) | (simp [*]; done)), H', ⟨by first | omega | exact Nat.le_refl _⟩, by repeat (first | exact Drawn0.refl _ | apply Drawn0.step)⟩
                    · rw [if_neg c20] at H
                      have c20b0 : (a0 == 167) = false := beq_eq_false_iff_ne.mpr c20
                      have c20b1 : (a0 != 167) = true := bne_iff_ne.mpr c20
                      (first | rw [c20b0] | (simp only [i64_w, i32_w]; rw [c20b0]) | skip)
                      have H' := Aside0.mk H
                      clear H
                      go_wp2
                      go_meet
                      case rel => exact ⟨_, ((a0 == 173)), (by first | rfl | (simp; done) | (simp [*]; done)), H', ⟨by first | omega | exact Nat.le_refl _⟩, by repeat (first | exact Drawn0.refl _ | apply Drawn0.step)⟩
                  case rest =>
                    clear HC19
                    try clear c1
                    try clear c2
                    try clear p2
                    try clear c3
                    try clear c3b0
                    try clear c3b1
                    try clear c5
                    try clear c5b0
                    try clear c5b1
                    try clear c7
                    try clear c7b0
                    try clear c7b1
                    try clear c9
                    try clear c9b0
                    try clear c9b1
                    try clear c11
                    try clear c11b0
                    try clear c11b1
                    try clear c13
                    try clear c13b0
                    try clear c13b1
                    try clear c15
                    try clear c15b0
                    try clear c15b1
                    try clear c17
                    try clear c17b0
                    try clear c17b1
                    try clear c20
                    try clear c20b0
                    try clear c20b1
                    obtain ⟨kq, x50_18, rfl, HA, HJ18, ⟨mc18, rfl⟩⟩ := hcut
                    cases kq with
                    | zero => exact absurd HA.out (by simp [ints_One.j0])
                    | succ kj18 =>
                      have H := HA.out
                      clear HA
                      simp only [ints_One.j0] at H
                      by_cases c21 : x50_18 = true
                      · subst c21
                        have H1 : (some (IntKind.u64.wrap (((a1) % 4294967296)), true)) = some (r1, r2) := by rw [if_pos rfl] at H; exact H
                        clear H
                        have H := H1
                        clear H1
                        simp only [Option.some.injEq, Prod.mk.injEq] at H
                        obtain ⟨rfl, rfl⟩ := H
                        go_wp2
                        go_ret2
                        exact ⟨by first | rfl | (simp; done) | (simp [*]; done), by repeat (first | exact Drawn0.refl _ | apply Drawn0.step)⟩
                      · replace c21 := Bool.eq_false_iff.mpr c21
                        subst c21
                        have H1 : (if a0 = 172 then (some (IntKind.u64.wrap (wrap64 (wrap32 (((a1) % 4294967296)))), true)) else (some (0, false))) = some (r1, r2) := by rw [if_neg (show ¬ (false = true) by decide)] at H; exact H
                        clear H
                        have H := H1
                        clear H1
                        by_cases c22 : a0 = 172
                        · rw [if_pos c22] at H
                          have c22b0 : (a0 == 172) = true := beq_iff_eq.mpr c22
                          have c22b1 : (a0 != 172) = false := bne_eq_false_iff_eq.mpr c22
                          clear c22
                          simp only [Option.some.injEq, Prod.mk.injEq] at H
                          obtain ⟨rfl, rfl⟩ := H
                          go_wp2
                          go_ret2
                          exact ⟨by first | rfl | (simp; done) | (simp [*]; done), by repeat (first | exact Drawn0.refl _ | apply Drawn0.step)⟩
                        · rw [if_neg c22] at H
                          have c22b0 : (a0 == 172) = false := beq_eq_false_iff_ne.mpr c22
                          have c22b1 : (a0 != 172) = true := bne_iff_ne.mpr c22
                          simp only [Option.some.injEq, Prod.mk.injEq] at H
                          obtain ⟨rfl, rfl⟩ := H
                          go_wp2
                          go_ret2
                          exact ⟨by first | rfl | (simp; done) | (simp [*]; done), by repeat (first | exact Drawn0.refl _ | apply Drawn0.step)⟩

/-! ### ints_within: function 26 -/
def ints_within.f (a0 : Int) (a1 : Int) (a2 : Int) : Option (Bool) := if a0 ≥ a1 then (some (decide (a0 ≤ a2))) else (some false)
set_option maxHeartbeats 8000000 in
set_option maxRecDepth 100000 in
theorem ints_within.calls (a0 : Int) (a1 : Int) (a2 : Int) (r : Bool) (w : World) (h : ints_within.f a0 a1 a2 = some r) :
    Calls Tryd.prog 26 #[.int .i64 a0, .int .i64 a1, .int .i64 a2] w fun e w' => e = .returned (.bool r) ∧ Drawn0 w w' := by
  have H : (if a0 ≥ a1 then (some (decide (a0 ≤ a2))) else (some false)) = some r := h
  clear h
  by_cases c4 : a0 ≥ a1
  · rw [if_pos c4] at H
    have c4b0 : decide (a1 ≤ a0) = true := decide_eq_true c4
    clear c4
    obtain rfl := Option.some.inj H
    go_enter Tryd.func26, Tryd.ntmps26
    go_wp2
    go_ret
    exact ⟨by first | rfl | (simp; done) | (simp [*]; done), by repeat (first | exact Drawn0.refl _ | apply Drawn0.step)⟩
  · rw [if_neg c4] at H
    have c4b0 : decide (a1 ≤ a0) = false := decide_eq_false c4
    clear c4
    obtain rfl := Option.some.inj H
    go_enter Tryd.func26, Tryd.ntmps26
    go_wp2
    go_ret
    exact ⟨by first | rfl | (simp; done) | (simp [*]; done), by repeat (first | exact Drawn0.refl _ | apply Drawn0.step)⟩

/-! ### ints_compare: function 34 -/
def ints_compare.f (a0 : Int) (a1 : Int) (a2 : Int) (a3 : Int) (a4 : Int) : Option (Bool) := if a0 = 0 then (some (a1 == a2)) else (if a0 = 1 then (some (a1 != a2)) else (if a0 = 2 then (some (decide (a3 < a4))) else (if a0 = 3 then (some (decide (a1 < a2))) else (if a0 = 4 then (some (decide (a3 > a4))) else (if a0 = 5 then (some (decide (a1 > a2))) else (if a0 = 6 then (some (decide (a3 ≤ a4))) else (if a0 = 7 then (some (decide (a1 ≤ a2))) else (if a0 = 8 then (some (decide (a3 ≥ a4))) else (some (decide (a1 ≥ a2)))))))))))
set_option maxHeartbeats 8000000 in
set_option maxRecDepth 100000 in
theorem ints_compare.calls (a0 : Int) (a1 : Int) (a2 : Int) (a3 : Int) (a4 : Int) (r : Bool) (w : World) (h : ints_compare.f a0 a1 a2 a3 a4 = some r) :
    Calls Tryd.prog 34 #[.int .i64 a0, .int .u64 a1, .int .u64 a2, .int .i64 a3, .int .i64 a4] w fun e w' => e = .returned (.bool r) ∧ Drawn0 w w' := by
  have H : (if a0 = 0 then (some (a1 == a2)) else (if a0 = 1 then (some (a1 != a2)) else (if a0 = 2 then (some (decide (a3 < a4))) else (if a0 = 3 then (some (decide (a1 < a2))) else (if a0 = 4 then (some (decide (a3 > a4))) else (if a0 = 5 then (some (decide (a1 > a2))) else (if a0 = 6 then (some (decide (a3 ≤ a4))) else (if a0 = 7 then (some (decide (a1 ≤ a2))) else (if a0 = 8 then (some (decide (a3 ≥ a4))) else (some (decide (a1 ≥ a2)))))))))))) = some r := h
  clear h
  by_cases c6 : a0 = 0
  · rw [if_pos c6] at H
    have c6b0 : (a0 == 0) = true := beq_iff_eq.mpr c6
    have c6b1 : (a0 != 0) = false := bne_eq_false_iff_eq.mpr c6
    clear c6
    obtain rfl := Option.some.inj H
    go_enter Tryd.func34, Tryd.ntmps34
    go_wp2
    go_ret
    exact ⟨by first | rfl | (simp; done) | (simp [*]; done), by repeat (first | exact Drawn0.refl _ | apply Drawn0.step)⟩
  · rw [if_neg c6] at H
    have c6b0 : (a0 == 0) = false := beq_eq_false_iff_ne.mpr c6
    have c6b1 : (a0 != 0) = true := bne_iff_ne.mpr c6
    by_cases c7 : a0 = 1
    · rw [if_pos c7] at H
      have c7b0 : (a0 == 1) = true := beq_iff_eq.mpr c7
      have c7b1 : (a0 != 1) = false := bne_eq_false_iff_eq.mpr c7
      clear c7
      obtain rfl := Option.some.inj H
      go_enter Tryd.func34, Tryd.ntmps34
      go_wp2
      go_ret
      exact ⟨by first | rfl | (simp; done) | (simp [*]; done), by repeat (first | exact Drawn0.refl _ | apply Drawn0.step)⟩
    · rw [if_neg c7] at H
      have c7b0 : (a0 == 1) = false := beq_eq_false_iff_ne.mpr c7
      have c7b1 : (a0 != 1) = true := bne_iff_ne.mpr c7
      by_cases c8 : a0 = 2
      · rw [if_pos c8] at H
        have c8b0 : (a0 == 2) = true := beq_iff_eq.mpr c8
        have c8b1 : (a0 != 2) = false := bne_eq_false_iff_eq.mpr c8
        clear c8
        obtain rfl := Option.some.inj H
        go_enter Tryd.func34, Tryd.ntmps34
        go_wp2
        go_ret
        exact ⟨by first | rfl | (simp; done) | (simp [*]; done), by repeat (first | exact Drawn0.refl _ | apply Drawn0.step)⟩
      · rw [if_neg c8] at H
        have c8b0 : (a0 == 2) = false := beq_eq_false_iff_ne.mpr c8
        have c8b1 : (a0 != 2) = true := bne_iff_ne.mpr c8
        by_cases c9 : a0 = 3
        · rw [if_pos c9] at H
          have c9b0 : (a0 == 3) = true := beq_iff_eq.mpr c9
          have c9b1 : (a0 != 3) = false := bne_eq_false_iff_eq.mpr c9
          clear c9
          obtain rfl := Option.some.inj H
          go_enter Tryd.func34, Tryd.ntmps34
          go_wp2
          go_ret
          exact ⟨by first | rfl | (simp; done) | (simp [*]; done), by repeat (first | exact Drawn0.refl _ | apply Drawn0.step)⟩
        · rw [if_neg c9] at H
          have c9b0 : (a0 == 3) = false := beq_eq_false_iff_ne.mpr c9
          have c9b1 : (a0 != 3) = true := bne_iff_ne.mpr c9
          by_cases c10 : a0 = 4
          · rw [if_pos c10] at H
            have c10b0 : (a0 == 4) = true := beq_iff_eq.mpr c10
            have c10b1 : (a0 != 4) = false := bne_eq_false_iff_eq.mpr c10
            clear c10
            obtain rfl := Option.some.inj H
            go_enter Tryd.func34, Tryd.ntmps34
            go_wp2
            go_ret
            exact ⟨by first | rfl | (simp; done) | (simp [*]; done), by repeat (first | exact Drawn0.refl _ | apply Drawn0.step)⟩
          · rw [if_neg c10] at H
            have c10b0 : (a0 == 4) = false := beq_eq_false_iff_ne.mpr c10
            have c10b1 : (a0 != 4) = true := bne_iff_ne.mpr c10
            by_cases c11 : a0 = 5
            · rw [if_pos c11] at H
              have c11b0 : (a0 == 5) = true := beq_iff_eq.mpr c11
              have c11b1 : (a0 != 5) = false := bne_eq_false_iff_eq.mpr c11
              clear c11
              obtain rfl := Option.some.inj H
              go_enter Tryd.func34, Tryd.ntmps34
              go_wp2
              go_ret
              exact ⟨by first | rfl | (simp; done) | (simp [*]; done), by repeat (first | exact Drawn0.refl _ | apply Drawn0.step)⟩
            · rw [if_neg c11] at H
              have c11b0 : (a0 == 5) = false := beq_eq_false_iff_ne.mpr c11
              have c11b1 : (a0 != 5) = true := bne_iff_ne.mpr c11
              by_cases c12 : a0 = 6
              · rw [if_pos c12] at H
                have c12b0 : (a0 == 6) = true := beq_iff_eq.mpr c12
                have c12b1 : (a0 != 6) = false := bne_eq_false_iff_eq.mpr c12
                clear c12
                obtain rfl := Option.some.inj H
                go_enter Tryd.func34, Tryd.ntmps34
                go_wp2
                go_ret
                exact ⟨by first | rfl | (simp; done) | (simp [*]; done), by repeat (first | exact Drawn0.refl _ | apply Drawn0.step)⟩
              · rw [if_neg c12] at H
                have c12b0 : (a0 == 6) = false := beq_eq_false_iff_ne.mpr c12
                have c12b1 : (a0 != 6) = true := bne_iff_ne.mpr c12
                by_cases c13 : a0 = 7
                · rw [if_pos c13] at H
                  have c13b0 : (a0 == 7) = true := beq_iff_eq.mpr c13
                  have c13b1 : (a0 != 7) = false := bne_eq_false_iff_eq.mpr c13
                  clear c13
                  obtain rfl := Option.some.inj H
                  go_enter Tryd.func34, Tryd.ntmps34
                  go_wp2
                  go_ret
                  exact ⟨by first | rfl | (simp; done) | (simp [*]; done), by repeat (first | exact Drawn0.refl _ | apply Drawn0.step)⟩
                · rw [if_neg c13] at H
                  have c13b0 : (a0 == 7) = false := beq_eq_false_iff_ne.mpr c13
                  have c13b1 : (a0 != 7) = true := bne_iff_ne.mpr c13
                  by_cases c14 : a0 = 8
                  · rw [if_pos c14] at H
                    have c14b0 : (a0 == 8) = true := beq_iff_eq.mpr c14
                    have c14b1 : (a0 != 8) = false := bne_eq_false_iff_eq.mpr c14
                    clear c14
                    obtain rfl := Option.some.inj H
                    go_enter Tryd.func34, Tryd.ntmps34
                    go_wp2
                    go_ret
                    exact ⟨by first | rfl | (simp; done) | (simp [*]; done), by repeat (first | exact Drawn0.refl _ | apply Drawn0.step)⟩
                  · rw [if_neg c14] at H
                    have c14b0 : (a0 == 8) = false := beq_eq_false_iff_ne.mpr c14
                    have c14b1 : (a0 != 8) = true := bne_iff_ne.mpr c14
                    obtain rfl := Option.some.inj H
                    go_enter Tryd.func34, Tryd.ntmps34
                    go_wp2
                    go_ret
                    exact ⟨by first | rfl | (simp; done) | (simp [*]; done), by repeat (first | exact Drawn0.refl _ | apply Drawn0.step)⟩

-- NOT PRINTED: function 48 (ints_divider)

-- NOT PRINTED: function 51 (ints_sure)

-- NOT PRINTED: function 36 (ints_wide)

/-! ### bits_RotateLeft32: function 50 -/
def bits_RotateLeft32.f (a0 : Int) (a1 : Int) : Option (Int) := if 0 ≤ (Go.bits .and .u64 (IntKind.u64.wrap (a1)) 31) then (if 0 ≤ (IntKind.u64.wrap (32 - (Go.bits .and .u64 (IntKind.u64.wrap (a1)) 31))) then (some (Go.bits .or .u32 (shl .u32 a0 (Go.bits .and .u64 (IntKind.u64.wrap (a1)) 31)) (shr .u32 a0 (IntKind.u64.wrap (32 - (Go.bits .and .u64 (IntKind.u64.wrap (a1)) 31)))))) else (none)) else (none)
set_option maxHeartbeats 8000000 in
set_option maxRecDepth 100000 in
theorem bits_RotateLeft32.calls (a0 : Int) (a1 : Int) (r : Int) (w : World) (h : bits_RotateLeft32.f a0 a1 = some r) :
    Calls Tryd.prog 50 #[.int .u32 a0, .int .i64 a1] w fun e w' => e = .returned (.int .u32 r) ∧ Drawn0 w w' := by
  have H : (if 0 ≤ (Go.bits .and .u64 (IntKind.u64.wrap (a1)) 31) then (if 0 ≤ (IntKind.u64.wrap (32 - (Go.bits .and .u64 (IntKind.u64.wrap (a1)) 31))) then (some (Go.bits .or .u32 (shl .u32 a0 (Go.bits .and .u64 (IntKind.u64.wrap (a1)) 31)) (shr .u32 a0 (IntKind.u64.wrap (32 - (Go.bits .and .u64 (IntKind.u64.wrap (a1)) 31)))))) else (none)) else (none)) = some r := h
  clear h
  obtain ⟨ji3, hji3⟩ : ∃ j_ : Int, (Go.bits .and .u64 (IntKind.u64.wrap (a1)) 31) = j_ := ⟨_, rfl⟩
  replace H : (if 0 ≤ (ji3) then (if 0 ≤ (IntKind.u64.wrap (32 - (ji3))) then (some (Go.bits .or .u32 (shl .u32 a0 (ji3)) (shr .u32 a0 (IntKind.u64.wrap (32 - (ji3)))))) else (none)) else (none)) = some r := by first | (rw [hji3] at H; exact H) | (simp only [hji3] at H ⊢; exact H)
  by_cases c4 : 0 ≤ (ji3)
  · rw [if_pos c4] at H
    have c4b0 := eq_true c4
    have c4b1 : decide (0 ≤ (ji3)) = true := decide_eq_true c4
    clear c4
    obtain ⟨ji5, hji5⟩ : ∃ j_ : Int, (shl .u32 a0 (ji3)) = j_ := ⟨_, rfl⟩
    replace H : (if 0 ≤ (IntKind.u64.wrap (32 - (ji3))) then (some (Go.bits .or .u32 (ji5) (shr .u32 a0 (IntKind.u64.wrap (32 - (ji3)))))) else (none)) = some r := by first | (rw [hji5] at H; exact H) | (simp only [hji5] at H ⊢; exact H)
    have hji5_ : (IntKind.u32.wrap (a0 * 2 ^ min (ji3).toNat 32)) = ji5 := hji5
    have hji5z : (ji3) ≤ 32 → (IntKind.u32.wrap (a0 * 2 ^ (ji3).toNat)) = ji5 := shl_small hji5
    obtain ⟨ji6, hji6⟩ : ∃ j_ : Int, (IntKind.u64.wrap (32 - (ji3))) = j_ := ⟨_, rfl⟩
    replace H : (if 0 ≤ (ji6) then (some (Go.bits .or .u32 (ji5) (shr .u32 a0 (ji6)))) else (none)) = some r := by first | (rw [hji6] at H; exact H) | (simp only [hji6] at H ⊢; exact H)
    by_cases c7 : 0 ≤ (ji6)
    · rw [if_pos c7] at H
      have c7b0 := eq_true c7
      have c7b1 : decide (0 ≤ (ji6)) = true := decide_eq_true c7
      clear c7
      obtain ⟨ji8, hji8⟩ : ∃ j_ : Int, (shr .u32 a0 (ji6)) = j_ := ⟨_, rfl⟩
      replace H : (some (Go.bits .or .u32 (ji5) (ji8))) = some r := by first | (rw [hji8] at H; exact H) | (simp only [hji8] at H ⊢; exact H)
      have hji8_ : (a0 / 2 ^ min (ji6).toNat 32) = ji8 := hji8
      have hji8z : (ji6) ≤ 32 → (a0 / 2 ^ (ji6).toNat) = ji8 := shr_small hji8
      obtain rfl := Option.some.inj H
      go_enter Tryd.func50, Tryd.ntmps50
      go_wp2
      go_ret
      exact ⟨by first | rfl | (simp; done) | (simp only [← hji3, ← hji5, ← hji6, ← hji8] <;> (first | rfl | simp)) | (simp [*]; done), by repeat (first | exact Drawn0.refl _ | apply Drawn0.step)⟩
    · rw [if_neg c7] at H
      exact absurd H (by simp)
  · rw [if_neg c4] at H
    exact absurd H (by simp)

-- NOT PRINTED: function 35 (ints_narrow)

/-! ### ints_Two: function 16 -/
theorem two_wi (a f t : Int) (r : Bool) (h : (if f ≤ a ∧ a ≤ t then true else false) = r) : ints_within.f a f t = some r := by
  unfold ints_within.f
  subst h
  by_cases c1 : a ≥ f
  · rw [if_pos c1]
    by_cases c2 : a ≤ t
    · rw [if_pos ⟨c1, c2⟩, decide_eq_true c2]
    · rw [if_neg (fun h => c2 h.2), decide_eq_false c2]
  · rw [if_neg c1, if_neg (fun h => c1 h.1)]
theorem two_tr (c : Bool) : ints_truth.f c = some (if c = true then 1 else 0) := by
  unfold ints_truth.f; split <;> rfl
set_option maxHeartbeats 8000000 in
theorem two_c32 (a0 a1 a2 : Int) (c : Bool) (g : 70 ≤ a0 ∧ a0 ≤ 79) (h : ints_compare.f (a0 - 70) (a1 % 4294967296) (a2 % 4294967296) (wrap64 (wrap32 (a1 % 4294967296))) (wrap64 (wrap32 (a2 % 4294967296))) = some c) (w : World) :
    Calls Tryd.prog 16 #[.int .i64 a0, .int .u64 a1, .int .u64 a2] w fun e w' => e = .returned (.tuple #[.int .u64 (if c = true then 1 else 0), .int .i64 0, .bool true]) ∧ Below w.heap.size w w' := by
  have HB := Aside0.mk (Below.refl w.heap.size w)
  have w0 := two_wi a0 70 79 true (if_pos g)
  have k1 : wrap64 (a0 - 70) = a0 - 70 := by unfold wrap64; omega
  generalize hr : (if c = true then (1 : Int) else 0) = rr
  have ht : ints_truth.f c = some rr := by rw [two_tr, hr]
  clear hr
  go_enter Tryd.func16, Tryd.ntmps16
  go_wp2_with (first | simp only [k1] | (go_at_call 26; ((with_reducible refine (ints_within.calls _ _ _ _ _ w0).mono ?_); rintro e w' ⟨rfl, hd⟩; have nb := Aside0.mk (below_step HB.out hd.below); clear HB hd; have HB := nb; clear nb)) | (go_at_call 34; ((with_reducible refine (ints_compare.calls _ _ _ _ _ _ _ h).mono ?_); rintro e w' ⟨rfl, hd⟩; have nb := Aside0.mk (below_step HB.out hd.below); clear HB hd; have HB := nb; clear nb)) | (go_at_call 27; ((with_reducible refine (ints_truth.calls _ _ _ ht).mono ?_); rintro e w' ⟨rfl, hd⟩; have nb := Aside0.mk (below_step HB.out hd.below); clear HB hd; have HB := nb; clear nb)))
  go_ret3
  exact ⟨rfl, HB.out⟩
set_option maxHeartbeats 8000000 in
theorem two_c64 (a0 a1 a2 : Int) (c : Bool) (g : 81 ≤ a0 ∧ a0 ≤ 90) (h : ints_compare.f (a0 - 81) a1 a2 (wrap64 a1) (wrap64 a2) = some c) (w : World) :
    Calls Tryd.prog 16 #[.int .i64 a0, .int .u64 a1, .int .u64 a2] w fun e w' => e = .returned (.tuple #[.int .u64 (if c = true then 1 else 0), .int .i64 0, .bool true]) ∧ Below w.heap.size w w' := by
  have HB := Aside0.mk (Below.refl w.heap.size w)
  have w0 := two_wi a0 70 79 false (if_neg (by omega))
  have w1 := two_wi a0 81 90 true (if_pos g)
  have k1 : wrap64 (a0 - 81) = a0 - 81 := by unfold wrap64; omega
  generalize hr : (if c = true then (1 : Int) else 0) = rr
  have ht : ints_truth.f c = some rr := by rw [two_tr, hr]
  clear hr
  go_enter Tryd.func16, Tryd.ntmps16
  go_wp2_with (first | simp only [k1] | (go_at_call 26; ((with_reducible refine (ints_within.calls _ _ _ _ _ w0).mono ?_); rintro e w' ⟨rfl, hd⟩; have nb := Aside0.mk (below_step HB.out hd.below); clear HB hd; have HB := nb; clear nb)) | (go_at_call 26; ((with_reducible refine (ints_within.calls _ _ _ _ _ w1).mono ?_); rintro e w' ⟨rfl, hd⟩; have nb := Aside0.mk (below_step HB.out hd.below); clear HB hd; have HB := nb; clear nb)) | (go_at_call 34; ((with_reducible refine (ints_compare.calls _ _ _ _ _ _ _ h).mono ?_); rintro e w' ⟨rfl, hd⟩; have nb := Aside0.mk (below_step HB.out hd.below); clear HB hd; have HB := nb; clear nb)) | (go_at_call 27; ((with_reducible refine (ints_truth.calls _ _ _ ht).mono ?_); rintro e w' ⟨rfl, hd⟩; have nb := Aside0.mk (below_step HB.out hd.below); clear HB hd; have HB := nb; clear nb)))
  go_ret3
  exact ⟨rfl, HB.out⟩
set_option maxHeartbeats 8000000 in
theorem two_nar (a0 a1 a2 : Int) (g : 106 ≤ a0 ∧ a0 ≤ 120) (r : Int × Int) (hr : narV (a0 - 106) (a1 % 4294967296) (a2 % 4294967296) = r) (w : World) :
    Calls Tryd.prog 16 #[.int .i64 a0, .int .u64 a1, .int .u64 a2] w fun e w' => e = .returned (.tuple #[.int .u64 r.1, .int .i64 r.2, .bool true]) ∧ Below w.heap.size w w' := by
  have HB := Aside0.mk (Below.refl w.heap.size w)
  have w0 := two_wi a0 70 79 false (if_neg (by omega))
  have w1 := two_wi a0 81 90 false (if_neg (by omega))
  have w2 := two_wi a0 106 120 true (if_pos g)
  have k1 : wrap64 (a0 - 106) = a0 - 106 := by unfold wrap64; omega
  have cn : ∀ W, Calls Tryd.prog 35 #[.int .i64 (a0 - 106), .int .u32 (a1 % 4294967296), .int .u32 (a2 % 4294967296)] W fun e w' => e = .returned (.tuple #[.int .u64 r.1, .int .i64 r.2]) ∧ Below W.heap.size W w' := fun W => by
    have c := narrow_calls (a0 - 106) (a1 % 4294967296) (a2 % 4294967296) W (by omega) (by omega) (by omega) (by omega)
    unfold NarAt at c
    rw [hr] at c
    exact c
  clear hr
  go_enter Tryd.func16, Tryd.ntmps16
  go_wp2_with (first | simp only [k1] | (go_at_call 26; ((with_reducible refine (ints_within.calls _ _ _ _ _ w0).mono ?_); rintro e w' ⟨rfl, hd⟩; have nb := Aside0.mk (below_step HB.out hd.below); clear HB hd; have HB := nb; clear nb)) | (go_at_call 26; ((with_reducible refine (ints_within.calls _ _ _ _ _ w1).mono ?_); rintro e w' ⟨rfl, hd⟩; have nb := Aside0.mk (below_step HB.out hd.below); clear HB hd; have HB := nb; clear nb)) | (go_at_call 26; ((with_reducible refine (ints_within.calls _ _ _ _ _ w2).mono ?_); rintro e w' ⟨rfl, hd⟩; have nb := Aside0.mk (below_step HB.out hd.below); clear HB hd; have HB := nb; clear nb)) | (go_at_call 35; ((with_reducible refine (cn _).mono ?_); rintro e w1 ⟨rfl, hb⟩; have nb := Aside0.mk (below_step HB.out hb); clear HB hb; have HB := nb; clear nb)))
  go_ret3
  exact ⟨rfl, HB.out⟩
set_option maxHeartbeats 8000000 in
theorem two_ws (a0 a1 a2 : Int) (g : 124 ≤ a0 ∧ a0 ≤ 138) (hk : ¬ (3 ≤ a0 - 124 ∧ a0 - 124 ≤ 6)) (q0 : 0 ≤ a2) (q1 : a2 < 18446744073709551616) (w : World) :
    Calls Tryd.prog 16 #[.int .i64 a0, .int .u64 a1, .int .u64 a2] w fun e w' => e = .returned (.tuple #[.int .u64 (wideV (a0 - 124) a1 a2).1, .int .i64 (wideV (a0 - 124) a1 a2).2, .bool true]) ∧ Below w.heap.size w w' := by
  have HB := Aside0.mk (Below.refl w.heap.size w)
  have w0 := two_wi a0 70 79 false (if_neg (by omega))
  have w1 := two_wi a0 81 90 false (if_neg (by omega))
  have w2 := two_wi a0 106 120 false (if_neg (by omega))
  have w3 := two_wi a0 124 138 true (if_pos g)
  have k1 : wrap64 (a0 - 124) = a0 - 124 := by unfold wrap64; omega
  have e1 : wideV (a0 - 124) a1 a2 = _ := if_neg hk
  rw [e1]
  clear e1
  go_enter Tryd.func16, Tryd.ntmps16
  go_wp2_with (first | simp only [k1] | (go_at_call 26; ((with_reducible refine (ints_within.calls _ _ _ _ _ w0).mono ?_); rintro e w' ⟨rfl, hd⟩; have nb := Aside0.mk (below_step HB.out hd.below); clear HB hd; have HB := nb; clear nb)) | (go_at_call 26; ((with_reducible refine (ints_within.calls _ _ _ _ _ w1).mono ?_); rintro e w' ⟨rfl, hd⟩; have nb := Aside0.mk (below_step HB.out hd.below); clear HB hd; have HB := nb; clear nb)) | (go_at_call 26; ((with_reducible refine (ints_within.calls _ _ _ _ _ w2).mono ?_); rintro e w' ⟨rfl, hd⟩; have nb := Aside0.mk (below_step HB.out hd.below); clear HB hd; have HB := nb; clear nb)) | (go_at_call 26; ((with_reducible refine (ints_within.calls _ _ _ _ _ w3).mono ?_); rintro e w' ⟨rfl, hd⟩; have nb := Aside0.mk (below_step HB.out hd.below); clear HB hd; have HB := nb; clear nb)) | (go_at_call 36; refine (wide_sure (a0 - 124) hk _).mono ?_; rintro e w1 ⟨hb, B, rfl, hd⟩; have HC := Aside0.mk hd; have nb := Aside0.mk (below_step HB.out hb); clear HB hb hd; have HB := nb; clear nb) | (go_at_call 70; refine (HC.out a1 a2 q0 q1).mono ?_; rintro e w' ⟨rfl, hw'⟩; rw [hw']; clear hw'))
  go_ret3
  exact ⟨rfl, HB.out⟩
set_option maxHeartbeats 8000000 in
theorem two_wd (a0 a1 a2 : Int) (g : 124 ≤ a0 ∧ a0 ≤ 138) (hk : 3 ≤ a0 - 124 ∧ a0 - 124 ≤ 6) (q0 : 0 ≤ a2) (q1 : a2 < 18446744073709551616) (w : World) :
    Calls Tryd.prog 16 #[.int .i64 a0, .int .u64 a1, .int .u64 a2] w fun e w' => e = .returned (.tuple #[.int .u64 (wideV (a0 - 124) a1 a2).1, .int .i64 (wideV (a0 - 124) a1 a2).2, .bool true]) ∧ Below w.heap.size w w' := by
  have HB := Aside0.mk (Below.refl w.heap.size w)
  have w0 := two_wi a0 70 79 false (if_neg (by omega))
  have w1 := two_wi a0 81 90 false (if_neg (by omega))
  have w2 := two_wi a0 106 120 false (if_neg (by omega))
  have w3 := two_wi a0 124 138 true (if_pos g)
  have k1 : wrap64 (a0 - 124) = a0 - 124 := by unfold wrap64; omega
  have e1 : wideV (a0 - 124) a1 a2 = _ := if_pos hk
  rw [e1]
  clear e1
  go_enter Tryd.func16, Tryd.ntmps16
  go_wp2_with (first | simp only [k1] | (go_at_call 26; ((with_reducible refine (ints_within.calls _ _ _ _ _ w0).mono ?_); rintro e w' ⟨rfl, hd⟩; have nb := Aside0.mk (below_step HB.out hd.below); clear HB hd; have HB := nb; clear nb)) | (go_at_call 26; ((with_reducible refine (ints_within.calls _ _ _ _ _ w1).mono ?_); rintro e w' ⟨rfl, hd⟩; have nb := Aside0.mk (below_step HB.out hd.below); clear HB hd; have HB := nb; clear nb)) | (go_at_call 26; ((with_reducible refine (ints_within.calls _ _ _ _ _ w2).mono ?_); rintro e w' ⟨rfl, hd⟩; have nb := Aside0.mk (below_step HB.out hd.below); clear HB hd; have HB := nb; clear nb)) | (go_at_call 26; ((with_reducible refine (ints_within.calls _ _ _ _ _ w3).mono ?_); rintro e w' ⟨rfl, hd⟩; have nb := Aside0.mk (below_step HB.out hd.below); clear HB hd; have HB := nb; clear nb)) | (go_at_call 36; refine (wide_div (a0 - 124) hk _).mono ?_; rintro e w1 ⟨hb, B, C, rfl, hd⟩; have HC := Aside0.mk hd; have nb := Aside0.mk (below_step HB.out hb); clear HB hb hd; have HB := nb; clear nb) | (go_at_call 69; refine (HC.out a1 a2 q0 q1).mono ?_; rintro e w' ⟨rfl, hw'⟩; rw [hw']; clear hw'))
  go_ret3
  exact ⟨rfl, HB.out⟩
set_option maxHeartbeats 8000000 in
theorem two_no (a0 a1 a2 : Int) (g : ¬ (70 ≤ a0 ∧ a0 ≤ 79) ∧ ¬ (81 ≤ a0 ∧ a0 ≤ 90) ∧ ¬ (106 ≤ a0 ∧ a0 ≤ 120) ∧ ¬ (124 ≤ a0 ∧ a0 ≤ 138)) (w : World) :
    Calls Tryd.prog 16 #[.int .i64 a0, .int .u64 a1, .int .u64 a2] w fun e w' => e = .returned (.tuple #[.int .u64 0, .int .i64 0, .bool false]) ∧ Below w.heap.size w w' := by
  have HB := Aside0.mk (Below.refl w.heap.size w)
  have w0 := two_wi a0 70 79 false (if_neg g.1)
  have w1 := two_wi a0 81 90 false (if_neg g.2.1)
  have w2 := two_wi a0 106 120 false (if_neg g.2.2.1)
  have w3 := two_wi a0 124 138 false (if_neg g.2.2.2)
  go_enter Tryd.func16, Tryd.ntmps16
  go_wp2_with (first | (go_at_call 26; ((with_reducible refine (ints_within.calls _ _ _ _ _ w0).mono ?_); rintro e w' ⟨rfl, hd⟩; have nb := Aside0.mk (below_step HB.out hd.below); clear HB hd; have HB := nb; clear nb)) | (go_at_call 26; ((with_reducible refine (ints_within.calls _ _ _ _ _ w1).mono ?_); rintro e w' ⟨rfl, hd⟩; have nb := Aside0.mk (below_step HB.out hd.below); clear HB hd; have HB := nb; clear nb)) | (go_at_call 26; ((with_reducible refine (ints_within.calls _ _ _ _ _ w2).mono ?_); rintro e w' ⟨rfl, hd⟩; have nb := Aside0.mk (below_step HB.out hd.below); clear HB hd; have HB := nb; clear nb)) | (go_at_call 26; ((with_reducible refine (ints_within.calls _ _ _ _ _ w3).mono ?_); rintro e w' ⟨rfl, hd⟩; have nb := Aside0.mk (below_step HB.out hd.below); clear HB hd; have HB := nb; clear nb)))
  go_ret3
  exact ⟨rfl, HB.out⟩
def ints_Two.f (a0 a1 a2 : Int) : Option (Int × Int × Bool) :=
  if 0 ≤ a1 ∧ a1 < 18446744073709551616 ∧ 0 ≤ a2 ∧ a2 < 18446744073709551616 then
    (if 70 ≤ a0 ∧ a0 ≤ 79 then (ints_compare.f (a0 - 70) (a1 % 4294967296) (a2 % 4294967296) (wrap64 (wrap32 (a1 % 4294967296))) (wrap64 (wrap32 (a2 % 4294967296)))).bind fun c => some (if c = true then 1 else 0, 0, true)
     else if 81 ≤ a0 ∧ a0 ≤ 90 then (ints_compare.f (a0 - 81) a1 a2 (wrap64 a1) (wrap64 a2)).bind fun c => some (if c = true then 1 else 0, 0, true)
     else if 106 ≤ a0 ∧ a0 ≤ 120 then some ((narV (a0 - 106) (a1 % 4294967296) (a2 % 4294967296)).1, (narV (a0 - 106) (a1 % 4294967296) (a2 % 4294967296)).2, true)
     else if 124 ≤ a0 ∧ a0 ≤ 138 then some ((wideV (a0 - 124) a1 a2).1, (wideV (a0 - 124) a1 a2).2, true)
     else some (0, 0, false))
  else none
theorem ints_Two.calls (a0 a1 a2 : Int) (r0 r1 : Int) (r2 : Bool) (w : World) (h : ints_Two.f a0 a1 a2 = some (r0, r1, r2)) :
    Calls Tryd.prog 16 #[.int .i64 a0, .int .u64 a1, .int .u64 a2] w fun e w' => e = .returned (.tuple #[.int .u64 r0, .int .i64 r1, .bool r2]) ∧ Below w.heap.size w w' := by
  unfold ints_Two.f at h
  by_cases hb : 0 ≤ a1 ∧ a1 < 18446744073709551616 ∧ 0 ≤ a2 ∧ a2 < 18446744073709551616
  · rw [if_pos hb] at h
    by_cases g0 : 70 ≤ a0 ∧ a0 ≤ 79
    · rw [if_pos g0] at h
      obtain ⟨c, hc, h⟩ := Option.bind_eq_some_iff.mp h
      simp only [Option.some.injEq, Prod.mk.injEq] at h
      obtain ⟨rfl, rfl, rfl⟩ := h
      exact two_c32 a0 a1 a2 c g0 hc w
    · rw [if_neg g0] at h
      by_cases g1 : 81 ≤ a0 ∧ a0 ≤ 90
      · rw [if_pos g1] at h
        obtain ⟨c, hc, h⟩ := Option.bind_eq_some_iff.mp h
        simp only [Option.some.injEq, Prod.mk.injEq] at h
        obtain ⟨rfl, rfl, rfl⟩ := h
        exact two_c64 a0 a1 a2 c g1 hc w
      · rw [if_neg g1] at h
        by_cases g2 : 106 ≤ a0 ∧ a0 ≤ 120
        · rw [if_pos g2] at h
          simp only [Option.some.injEq, Prod.mk.injEq] at h
          obtain ⟨rfl, rfl, rfl⟩ := h
          exact two_nar a0 a1 a2 g2 _ rfl w
        · rw [if_neg g2] at h
          by_cases g3 : 124 ≤ a0 ∧ a0 ≤ 138
          · rw [if_pos g3] at h
            simp only [Option.some.injEq, Prod.mk.injEq] at h
            obtain ⟨rfl, rfl, rfl⟩ := h
            by_cases hk : 3 ≤ a0 - 124 ∧ a0 - 124 ≤ 6
            · exact two_wd a0 a1 a2 g3 hk hb.2.2.1 hb.2.2.2 w
            · exact two_ws a0 a1 a2 g3 hk hb.2.2.1 hb.2.2.2 w
          · rw [if_neg g3] at h
            simp only [Option.some.injEq, Prod.mk.injEq] at h
            obtain ⟨rfl, rfl, rfl⟩ := h
            exact two_no a0 a1 a2 ⟨g0, g1, g2, g3⟩ w
  · rw [if_neg hb] at h
    cases h

end Go.Proofs.YtjonlcnmpejamaaDoor.G
