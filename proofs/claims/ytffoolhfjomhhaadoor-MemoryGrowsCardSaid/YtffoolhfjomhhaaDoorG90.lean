/- The law MemorySigns walked: the five pairs of loads. -/
import Derived.Test.YtffoolhfjomhhaaDoorG
import Derived.Test.YtffoolhfjomhhaaDoorMemA
namespace Go.Proofs.YtffoolhfjomhhaaDoor.G
open Go.RowKit Go.Proofs.YtffoolhfjomhhaaDoorW.PrintWords Go.Proofs.YtffoolhfjomhhaaDoorW.PrintLast Go.Proofs.YtffoolhfjomhhaaDoorW.PrintMore
attribute [local go_sem] max2_int min2_int max_two min_two max_three min_three max_four min_four   -- for this text's walks alone
set_option linter.unusedVariables false
set_option linter.unusedSimpArgs false
theorem le_take : ∀ (n m v : Nat), n ≤ m → (le m v).take n = le n v
  | 0, m, v, _ => by simp [le]
  | n + 1, 0, v, h => by omega
  | n + 1, m + 1, v, h => by rw [le, List.take_succ_cons, le_take n m (v / 256) (by omega), le]
theorem sg_store (v a : Nat) (ha : a ≤ 4095) : mStore b0 55 a 0 v = some (splice b0 a (le 8 v)) := by
  unfold mStore
  rw [if_pos ⟨rfl, mFits_iff.2 ⟨by omega, by decide, by decide, by rw [b0_len]; show (a : Int) + 0 + 8 ≤ 65536; omega⟩⟩]
  show some (splice b0 ((a : Int) + 0).toNat (le 8 (v : Int).toNat)) = _
  rw [Int.add_zero, Int.toNat_natCast, Int.toNat_natCast]
theorem sg_seg (v a n : Nat) (ha : a ≤ 4095) (hn : n ≤ 8) : seg (splice b0 a (le 8 v)) a n = le n v := by
  have h := seg_splice (b := b0) (l := le 8 v) (a := a) (by rw [b0_len, le_length]; omega)
  rw [le_length] at h
  rw [← seg_take (n := 8) hn, h, le_take n 8 v hn]
theorem sg_load (v a n : Nat) (op ty : Int) (sg : Bool) (ha : a ≤ 4095) (hn : 0 < n ∧ n ≤ 8) (hacc : acc op = (ty, (n : Int), sg, false)) : mLoad (splice b0 a (le 8 v)) op a 0 = (mVal sg ty n ((v % 256 ^ n : Nat) : Int), true) := by
  have hl : (splice b0 a (le 8 v)).length = 65536 := by rw [splice_length (by rw [b0_len, le_length]; omega), b0_len]
  unfold mLoad
  rw [hacc, if_pos ⟨rfl, by show (n : Int) ≠ 0; omega, mFits_iff.2 ⟨by omega, by decide, by show (0 : Int) ≤ n; omega, by rw [hl]; show (a : Int) + 0 + n ≤ 65536; omega⟩⟩]
  show (mVal sg ty (n : Int).toNat (ev (seg _ ((a : Int) + 0).toNat (n : Int).toNat)), true) = _
  rw [Int.add_zero, Int.toNat_natCast, Int.toNat_natCast, sg_seg v a n ha hn.2, ev_le]
theorem sg_good (v a : Nat) (ha : a ≤ 4095) : Good ⟨splice b0 a (le 8 v), 1, 0, false⟩ := ⟨splice_oct b0_oct (le_oct _ _), by show (splice b0 a (le 8 v)).length ≤ _; rw [splice_length (by rw [b0_len, le_length]; omega), b0_len]; decide⟩
theorem and_u64_nat (a b : Nat) (ha : a < 18446744073709551616) (hb : b < 18446744073709551616) : bits .and .u64 (a : Int) (b : Int) = ((a &&& b : Nat) : Int) := by
  have h1 : (BitVec.ofInt 64 (a : Int)).toNat = a := by simp; omega
  have h2 : (BitVec.ofInt 64 (b : Int)).toNat = b := by simp; omega
  have h3 : a &&& b < 2 ^ 64 := Nat.and_lt_two_pow (n := 64) _ hb
  show IntKind.u64.wrap ((BitVec.ofInt 64 (a : Int) &&& BitVec.ofInt 64 (b : Int)).toNat : Int) = _
  rw [BitVec.toNat_and, h1, h2, wrap_u64_]
  omega
theorem and_low (x : Int) (m : Nat) (hx : 0 ≤ x ∧ x < 18446744073709551616) (hm : m < 18446744073709551616) : ∃ a : Nat, bits .and .u64 x (m : Int) = (a : Int) ∧ a ≤ m := by
  obtain ⟨n, rfl⟩ := Int.eq_ofNat_of_zero_le hx.1
  exact ⟨n &&& m, and_u64_nat n m (by omega) hm, Nat.and_le_right⟩
theorem and_lowi (x : Int) (m : Nat) (hm : m < 9223372036854775808) : ∃ a : Nat, bits .and .i64 x (m : Int) = (a : Int) ∧ a ≤ m := by
  have h2 : (BitVec.ofInt 64 (m : Int)).toNat = m := by simp; omega
  have h3 : (BitVec.ofInt 64 x &&& BitVec.ofInt 64 (m : Int)).toNat ≤ m := by rw [BitVec.toNat_and, h2]; exact Nat.and_le_right
  refine ⟨_, ?_, h3⟩
  show IntKind.i64.wrap ((BitVec.ofInt 64 x &&& BitVec.ofInt 64 (m : Int)).toNat : Int) = _
  rw [IntKind.wrap_i64]
  omega
theorem SB.get1 {w0 w : World} {L : List As} {X : As} {g t : Nat} {cs : Array Value} (h : SB w0 w (X :: Box g cs t :: L)) : w.heap[g]? = some (.cells cs t (0, 0)) := by
  obtain ⟨F, hF, _⟩ := h.swap.head
  exact hF.1
theorem SB.get2 {w0 w : World} {L : List As} {X Y : As} {g t : Nat} {cs : Array Value} (h : SB w0 w (X :: Y :: Box g cs t :: L)) : w.heap[g]? = some (.cells cs t (0, 0)) := by
  obtain ⟨F, hF, _⟩ := h.rot2.head
  exact hF.1
theorem and_mask (v n m : Nat) (hv : v < 18446744073709551616) (hm : m = 2 ^ n - 1) (hm2 : m < 18446744073709551616) : bits .and .u64 (v : Int) (m : Int) = ((v % 2 ^ n : Nat) : Int) := by
  rw [and_u64_nat v m hv hm2, hm, Nat.and_two_pow_sub_one_eq_mod]
theorem sv_127_1 {v : Int} (h0 : 0 ≤ v) (h1 : v < 256) : (v < 128 → mVal true 127 1 v = v) ∧ (¬ v < 128 → mVal true 127 1 v = v - 256 + 4294967296) := by
  have e : mVal true 127 1 v = (if v < 128 * 256 ^ (1 - 1) then v else v - 256 ^ 1) % 4294967296 := rfl
  rw [e]
  constructor
  · intro h; rw [if_pos (by omega)]; omega
  · intro h; rw [if_neg (by omega)]; omega
theorem ft_127 {v : Int} (h0 : 0 ≤ v) (h1 : v < 4294967296) : ints_Fits.f 127 v = some true := by
  unfold ints_Fits.f; rw [if_neg (by decide), if_pos rfl]; congr 1; rw [beq_iff_eq]; omega
theorem sg_127_1 {v : Int} (h0 : 0 ≤ v) (h1 : v < 128) : ints_Signed.f 127 v = some v := by
  unfold ints_Signed.f; rw [if_pos rfl]; congr 1; unfold wrap64 wrap32; omega
theorem sh_127_1 {v x : Int} (h0 : 128 ≤ v) (h1 : v < 256) (hx : x = v - 256 + 4294967296) : ints_Signed.f 127 x = some (v - 256) := by
  subst hx
  unfold ints_Signed.f; rw [if_pos rfl]; congr 1; unfold wrap64 wrap32; omega
theorem sv_127_2 {v : Int} (h0 : 0 ≤ v) (h1 : v < 65536) : (v < 32768 → mVal true 127 2 v = v) ∧ (¬ v < 32768 → mVal true 127 2 v = v - 65536 + 4294967296) := by
  have e : mVal true 127 2 v = (if v < 128 * 256 ^ (2 - 1) then v else v - 256 ^ 2) % 4294967296 := rfl
  rw [e]
  constructor
  · intro h; rw [if_pos (by omega)]; omega
  · intro h; rw [if_neg (by omega)]; omega
theorem sg_127_2 {v : Int} (h0 : 0 ≤ v) (h1 : v < 32768) : ints_Signed.f 127 v = some v := by
  unfold ints_Signed.f; rw [if_pos rfl]; congr 1; unfold wrap64 wrap32; omega
theorem sh_127_2 {v x : Int} (h0 : 32768 ≤ v) (h1 : v < 65536) (hx : x = v - 65536 + 4294967296) : ints_Signed.f 127 x = some (v - 65536) := by
  subst hx
  unfold ints_Signed.f; rw [if_pos rfl]; congr 1; unfold wrap64 wrap32; omega
theorem sv_126_1 {v : Int} (h0 : 0 ≤ v) (h1 : v < 256) : (v < 128 → mVal true 126 1 v = v) ∧ (¬ v < 128 → mVal true 126 1 v = v - 256 + 18446744073709551616) := by
  have e : mVal true 126 1 v = (if v < 128 * 256 ^ (1 - 1) then v else v - 256 ^ 1) % 18446744073709551616 := rfl
  rw [e]
  constructor
  · intro h; rw [if_pos (by omega)]; omega
  · intro h; rw [if_neg (by omega)]; omega
theorem ft_126 {v : Int} (h0 : 0 ≤ v) (h1 : v < 18446744073709551616) : ints_Fits.f 126 v = some true := by
  unfold ints_Fits.f; rw [if_pos rfl]
theorem sg_126_1 {v : Int} (h0 : 0 ≤ v) (h1 : v < 128) : ints_Signed.f 126 v = some v := by
  unfold ints_Signed.f; rw [if_neg (by decide)]; congr 1; unfold wrap64; omega
theorem sh_126_1 {v x : Int} (h0 : 128 ≤ v) (h1 : v < 256) (hx : x = v - 256 + 18446744073709551616) : ints_Signed.f 126 x = some (v - 256) := by
  subst hx
  unfold ints_Signed.f; rw [if_neg (by decide)]; congr 1; unfold wrap64; omega
theorem sv_126_2 {v : Int} (h0 : 0 ≤ v) (h1 : v < 65536) : (v < 32768 → mVal true 126 2 v = v) ∧ (¬ v < 32768 → mVal true 126 2 v = v - 65536 + 18446744073709551616) := by
  have e : mVal true 126 2 v = (if v < 128 * 256 ^ (2 - 1) then v else v - 256 ^ 2) % 18446744073709551616 := rfl
  rw [e]
  constructor
  · intro h; rw [if_pos (by omega)]; omega
  · intro h; rw [if_neg (by omega)]; omega
theorem sg_126_2 {v : Int} (h0 : 0 ≤ v) (h1 : v < 32768) : ints_Signed.f 126 v = some v := by
  unfold ints_Signed.f; rw [if_neg (by decide)]; congr 1; unfold wrap64; omega
theorem sh_126_2 {v x : Int} (h0 : 32768 ≤ v) (h1 : v < 65536) (hx : x = v - 65536 + 18446744073709551616) : ints_Signed.f 126 x = some (v - 65536) := by
  subst hx
  unfold ints_Signed.f; rw [if_neg (by decide)]; congr 1; unfold wrap64; omega
theorem sv_126_4 {v : Int} (h0 : 0 ≤ v) (h1 : v < 4294967296) : (v < 2147483648 → mVal true 126 4 v = v) ∧ (¬ v < 2147483648 → mVal true 126 4 v = v - 4294967296 + 18446744073709551616) := by
  have e : mVal true 126 4 v = (if v < 128 * 256 ^ (4 - 1) then v else v - 256 ^ 4) % 18446744073709551616 := rfl
  rw [e]
  constructor
  · intro h; rw [if_pos (by omega)]; omega
  · intro h; rw [if_neg (by omega)]; omega
theorem sg_126_4 {v : Int} (h0 : 0 ≤ v) (h1 : v < 2147483648) : ints_Signed.f 126 v = some v := by
  unfold ints_Signed.f; rw [if_neg (by decide)]; congr 1; unfold wrap64; omega
theorem sh_126_4 {v x : Int} (h0 : 2147483648 ≤ v) (h1 : v < 4294967296) (hx : x = v - 4294967296 + 18446744073709551616) : ints_Signed.f 126 x = some (v - 4294967296) := by
  subst hx
  unfold ints_Signed.f; rw [if_neg (by decide)]; congr 1; unfold wrap64; omega
set_option maxRecDepth 100000 in
theorem signs0 (v at_ : Int) (k : Int) (w : World) (hG : Globs w) (hv : 0 ≤ v ∧ v < 18446744073709551616) (hat : 0 ≤ at_ ∧ at_ < 18446744073709551616) (htm : (bits .and .i64 k 255).tmod 5 = 0) :
    Calls Tryd.prog 3 #[.int .u64 v, .int .u64 at_, .int .i64 k] w fun e w' => e = .returned (.bool true) ∧ Below w.heap.size w w' := by
  have HG := Aside0.mk hG
  clear hG
  obtain ⟨a, ha, ha2⟩ := and_low at_ 4095 hat (by decide)
  replace ha : bits .and .u64 at_ 4095 = (a : Int) := ha
  obtain ⟨vn, rfl⟩ := Int.eq_ofNat_of_zero_le hv.1
  have HV := Aside0.mk hv
  have hlow : bits .and .u64 (vn : Int) 255 = ((vn % 256 : Nat) : Int) := and_mask vn 8 255 (by omega) (by decide) (by decide)
  obtain ⟨lw, hlw⟩ : ∃ lw, lw = vn % 256 := ⟨_, rfl⟩
  rw [← hlw] at hlow
  have hlt : lw < 256 := by rw [hlw]; exact Nat.mod_lt _ (by decide)
  have hu : mLoad (splice b0 a (le 8 vn)) 45 a 0 = ((lw : Int), true) := by rw [sg_load vn a 1 45 127 false ha2 (by decide) (by rfl), hlw]; rfl
  have hs : mLoad (splice b0 a (le 8 vn)) 44 a 0 = (mVal true 127 1 (lw : Int), true) := by rw [sg_load vn a 1 44 127 true ha2 (by decide) (by rfl), hlw]
  have hsv := sv_127_1 (v := (lw : Int)) (by omega) (by omega)
  have HGD := Aside0.mk (sg_good vn a ha2)
  have HU := Aside0.mk hu
  have HS_ := Aside0.mk hs
  have HF2 := Aside0.mk (ft_127 (v := (lw : Int)) (by omega) (by omega))
  clear hat hv hu hs hlw
  by_cases c : (lw : Int) < 128
  · have d1 : decide (128 ≤ (lw : Int)) = false := decide_eq_false (by omega)
    replace hsv := hsv.1 c
    have HSG := Aside0.mk (sg_127_1 (v := (lw : Int)) (by omega) c)
    have HSV := Aside0.mk hsv
    clear hsv
    go_enter Tryd.func3, Tryd.ntmps3
    go_wp2_with (first
      | (go_at_call 9; (with_reducible refine (awake _ HG.out).mono ?_); rintro e w1 ⟨rfl, hb⟩; have HB := Aside0.mk hb; clear hb)
      | (go_at_call 10; (with_reducible refine (memNew1 ((SB.start w).below HB.out)).mono ?_); rintro e w2 ⟨p, rfl, hs⟩; have HS := Aside0.mk hs; clear hs)
      | (go_at_call 11; (with_reducible refine (memStoreS (((HS.out.box #[.int .i64 44, .int .i64 46, .int .i64 48, .int .i64 50, .int .i64 52] 3).box #[.int .u64 8, .int .u64 16, .int .u64 8, .int .u64 16, .int .u64 32] 31).rot2) (HG.out.below (((HS.out.box #[.int .i64 44, .int .i64 46, .int .i64 48, .int .i64 50, .int .i64 52] 3).box #[.int .u64 8, .int .u64 16, .int .u64 8, .int .u64 16, .int .u64 32] 31).bel)) (good0 _ _ _) 55 a 0 vn (by decide) (by omega) (by decide) HV.out (sg_store vn a ha2)).mono ?_); rintro e w3 ⟨rfl, hs⟩; simp only [World.size_alloc] at hs; have hca := (blk_cell hs.get2 0).trans rfl; have HS2 := Aside0.mk hs; clear hs)
      | (go_at_call 12; (with_reducible refine (memLoadS HS2.out (HG.out.below HS2.out.bel) HGD.out 44 a 0 (by decide) (by omega) (by decide) HS_.out).mono ?_); rintro e w4 ⟨rfl, hs⟩; rw [HSV.out]; have hcb := (blk_cell hs.get2 0).trans rfl; have HS3 := Aside0.mk hs; clear hs hca)
      | (go_at_call 12; (with_reducible refine (memLoadS HS3.out (HG.out.below HS3.out.bel) HGD.out 45 a 0 (by decide) (by omega) (by decide) HU.out).mono ?_); rintro e w5 ⟨rfl, hs⟩; have hcc := (blk_cell hs.get1 0).trans rfl; have HS4 := Aside0.mk hs; clear hs hcb)
      | (go_at_call 13; (with_reducible refine (ints_Signed.calls 127 (lw : Int) (lw : Int) _ HSG.out).mono ?_); rintro e w' ⟨rfl, ⟨nd, rfl⟩⟩)
      | (go_at_call 14; (with_reducible refine (ints_Fits.calls 127 (lw : Int) true _ HF2.out).mono ?_); rintro e w' ⟨rfl, ⟨nd2, rfl⟩⟩)
      | (go_at_call 14; (with_reducible refine (ints_Fits.calls 127 (lw : Int) true _ HF2.out).mono ?_); rintro e w' ⟨rfl, ⟨nd3, rfl⟩⟩))
    go_ret
    exact ⟨by first | rfl | simp, by repeat (first | exact HS4.out.bel | apply pw_below_drewN | apply below_alloc)⟩
  · have d1 : decide (128 ≤ (lw : Int)) = true := decide_eq_true (by omega)
    replace hsv := hsv.2 c
    obtain ⟨sv, hsv2⟩ : ∃ sv : Nat, (lw : Int) - 256 + 4294967296 = (sv : Int) := ⟨((lw : Int) - 256 + 4294967296).toNat, by omega⟩
    rw [hsv2] at hsv
    have HSG := Aside0.mk (sh_127_1 (v := (lw : Int)) (x := (sv : Int)) (by omega) (by omega) hsv2.symm)
    have HF3 := Aside0.mk (ft_127 (v := (sv : Int)) (by omega) (by omega))
    have HSV := Aside0.mk hsv
    clear hsv hsv2
    go_enter Tryd.func3, Tryd.ntmps3
    go_wp2_with (first
      | (go_at_call 9; (with_reducible refine (awake _ HG.out).mono ?_); rintro e w1 ⟨rfl, hb⟩; have HB := Aside0.mk hb; clear hb)
      | (go_at_call 10; (with_reducible refine (memNew1 ((SB.start w).below HB.out)).mono ?_); rintro e w2 ⟨p, rfl, hs⟩; have HS := Aside0.mk hs; clear hs)
      | (go_at_call 11; (with_reducible refine (memStoreS (((HS.out.box #[.int .i64 44, .int .i64 46, .int .i64 48, .int .i64 50, .int .i64 52] 3).box #[.int .u64 8, .int .u64 16, .int .u64 8, .int .u64 16, .int .u64 32] 31).rot2) (HG.out.below (((HS.out.box #[.int .i64 44, .int .i64 46, .int .i64 48, .int .i64 50, .int .i64 52] 3).box #[.int .u64 8, .int .u64 16, .int .u64 8, .int .u64 16, .int .u64 32] 31).bel)) (good0 _ _ _) 55 a 0 vn (by decide) (by omega) (by decide) HV.out (sg_store vn a ha2)).mono ?_); rintro e w3 ⟨rfl, hs⟩; simp only [World.size_alloc] at hs; have hca := (blk_cell hs.get2 0).trans rfl; have HS2 := Aside0.mk hs; clear hs)
      | (go_at_call 12; (with_reducible refine (memLoadS HS2.out (HG.out.below HS2.out.bel) HGD.out 44 a 0 (by decide) (by omega) (by decide) HS_.out).mono ?_); rintro e w4 ⟨rfl, hs⟩; rw [HSV.out]; have hcb := (blk_cell hs.get2 0).trans rfl; have HS3 := Aside0.mk hs; clear hs hca)
      | (go_at_call 12; (with_reducible refine (memLoadS HS3.out (HG.out.below HS3.out.bel) HGD.out 45 a 0 (by decide) (by omega) (by decide) HU.out).mono ?_); rintro e w5 ⟨rfl, hs⟩; have hcc := (blk_cell hs.get1 0).trans rfl; have HS4 := Aside0.mk hs; clear hs hcb)
      | (go_at_call 13; (with_reducible refine (ints_Signed.calls 127 (sv : Int) ((lw : Int) - 256) _ HSG.out).mono ?_); rintro e w' ⟨rfl, ⟨nd, rfl⟩⟩)
      | (go_at_call 14; (with_reducible refine (ints_Fits.calls 127 (sv : Int) true _ HF3.out).mono ?_); rintro e w' ⟨rfl, ⟨nd2, rfl⟩⟩)
      | (go_at_call 14; (with_reducible refine (ints_Fits.calls 127 (lw : Int) true _ HF2.out).mono ?_); rintro e w' ⟨rfl, ⟨nd3, rfl⟩⟩))
    go_ret
    exact ⟨by first | rfl | simp, by repeat (first | exact HS4.out.bel | apply pw_below_drewN | apply below_alloc)⟩
set_option maxRecDepth 100000 in
theorem signs1 (v at_ : Int) (k : Int) (w : World) (hG : Globs w) (hv : 0 ≤ v ∧ v < 18446744073709551616) (hat : 0 ≤ at_ ∧ at_ < 18446744073709551616) (htm : (bits .and .i64 k 255).tmod 5 = 1) :
    Calls Tryd.prog 3 #[.int .u64 v, .int .u64 at_, .int .i64 k] w fun e w' => e = .returned (.bool true) ∧ Below w.heap.size w w' := by
  have HG := Aside0.mk hG
  clear hG
  obtain ⟨a, ha, ha2⟩ := and_low at_ 4095 hat (by decide)
  replace ha : bits .and .u64 at_ 4095 = (a : Int) := ha
  obtain ⟨vn, rfl⟩ := Int.eq_ofNat_of_zero_le hv.1
  have HV := Aside0.mk hv
  have hlow : bits .and .u64 (vn : Int) 65535 = ((vn % 65536 : Nat) : Int) := and_mask vn 16 65535 (by omega) (by decide) (by decide)
  obtain ⟨lw, hlw⟩ : ∃ lw, lw = vn % 65536 := ⟨_, rfl⟩
  rw [← hlw] at hlow
  have hlt : lw < 65536 := by rw [hlw]; exact Nat.mod_lt _ (by decide)
  have hu : mLoad (splice b0 a (le 8 vn)) 47 a 0 = ((lw : Int), true) := by rw [sg_load vn a 2 47 127 false ha2 (by decide) (by rfl), hlw]; rfl
  have hs : mLoad (splice b0 a (le 8 vn)) 46 a 0 = (mVal true 127 2 (lw : Int), true) := by rw [sg_load vn a 2 46 127 true ha2 (by decide) (by rfl), hlw]
  have hsv := sv_127_2 (v := (lw : Int)) (by omega) (by omega)
  have HGD := Aside0.mk (sg_good vn a ha2)
  have HU := Aside0.mk hu
  have HS_ := Aside0.mk hs
  have HF2 := Aside0.mk (ft_127 (v := (lw : Int)) (by omega) (by omega))
  clear hat hv hu hs hlw
  by_cases c : (lw : Int) < 32768
  · have d1 : decide (32768 ≤ (lw : Int)) = false := decide_eq_false (by omega)
    replace hsv := hsv.1 c
    have HSG := Aside0.mk (sg_127_2 (v := (lw : Int)) (by omega) c)
    have HSV := Aside0.mk hsv
    clear hsv
    go_enter Tryd.func3, Tryd.ntmps3
    go_wp2_with (first
      | (go_at_call 9; (with_reducible refine (awake _ HG.out).mono ?_); rintro e w1 ⟨rfl, hb⟩; have HB := Aside0.mk hb; clear hb)
      | (go_at_call 10; (with_reducible refine (memNew1 ((SB.start w).below HB.out)).mono ?_); rintro e w2 ⟨p, rfl, hs⟩; have HS := Aside0.mk hs; clear hs)
      | (go_at_call 11; (with_reducible refine (memStoreS (((HS.out.box #[.int .i64 44, .int .i64 46, .int .i64 48, .int .i64 50, .int .i64 52] 3).box #[.int .u64 8, .int .u64 16, .int .u64 8, .int .u64 16, .int .u64 32] 31).rot2) (HG.out.below (((HS.out.box #[.int .i64 44, .int .i64 46, .int .i64 48, .int .i64 50, .int .i64 52] 3).box #[.int .u64 8, .int .u64 16, .int .u64 8, .int .u64 16, .int .u64 32] 31).bel)) (good0 _ _ _) 55 a 0 vn (by decide) (by omega) (by decide) HV.out (sg_store vn a ha2)).mono ?_); rintro e w3 ⟨rfl, hs⟩; simp only [World.size_alloc] at hs; have hca := (blk_cell hs.get2 1).trans rfl; have HS2 := Aside0.mk hs; clear hs)
      | (go_at_call 12; (with_reducible refine (memLoadS HS2.out (HG.out.below HS2.out.bel) HGD.out 46 a 0 (by decide) (by omega) (by decide) HS_.out).mono ?_); rintro e w4 ⟨rfl, hs⟩; rw [HSV.out]; have hcb := (blk_cell hs.get2 1).trans rfl; have HS3 := Aside0.mk hs; clear hs hca)
      | (go_at_call 12; (with_reducible refine (memLoadS HS3.out (HG.out.below HS3.out.bel) HGD.out 47 a 0 (by decide) (by omega) (by decide) HU.out).mono ?_); rintro e w5 ⟨rfl, hs⟩; have hcc := (blk_cell hs.get1 1).trans rfl; have HS4 := Aside0.mk hs; clear hs hcb)
      | (go_at_call 13; (with_reducible refine (ints_Signed.calls 127 (lw : Int) (lw : Int) _ HSG.out).mono ?_); rintro e w' ⟨rfl, ⟨nd, rfl⟩⟩)
      | (go_at_call 14; (with_reducible refine (ints_Fits.calls 127 (lw : Int) true _ HF2.out).mono ?_); rintro e w' ⟨rfl, ⟨nd2, rfl⟩⟩)
      | (go_at_call 14; (with_reducible refine (ints_Fits.calls 127 (lw : Int) true _ HF2.out).mono ?_); rintro e w' ⟨rfl, ⟨nd3, rfl⟩⟩))
    go_ret
    exact ⟨by first | rfl | simp, by repeat (first | exact HS4.out.bel | apply pw_below_drewN | apply below_alloc)⟩
  · have d1 : decide (32768 ≤ (lw : Int)) = true := decide_eq_true (by omega)
    replace hsv := hsv.2 c
    obtain ⟨sv, hsv2⟩ : ∃ sv : Nat, (lw : Int) - 65536 + 4294967296 = (sv : Int) := ⟨((lw : Int) - 65536 + 4294967296).toNat, by omega⟩
    rw [hsv2] at hsv
    have HSG := Aside0.mk (sh_127_2 (v := (lw : Int)) (x := (sv : Int)) (by omega) (by omega) hsv2.symm)
    have HF3 := Aside0.mk (ft_127 (v := (sv : Int)) (by omega) (by omega))
    have HSV := Aside0.mk hsv
    clear hsv hsv2
    go_enter Tryd.func3, Tryd.ntmps3
    go_wp2_with (first
      | (go_at_call 9; (with_reducible refine (awake _ HG.out).mono ?_); rintro e w1 ⟨rfl, hb⟩; have HB := Aside0.mk hb; clear hb)
      | (go_at_call 10; (with_reducible refine (memNew1 ((SB.start w).below HB.out)).mono ?_); rintro e w2 ⟨p, rfl, hs⟩; have HS := Aside0.mk hs; clear hs)
      | (go_at_call 11; (with_reducible refine (memStoreS (((HS.out.box #[.int .i64 44, .int .i64 46, .int .i64 48, .int .i64 50, .int .i64 52] 3).box #[.int .u64 8, .int .u64 16, .int .u64 8, .int .u64 16, .int .u64 32] 31).rot2) (HG.out.below (((HS.out.box #[.int .i64 44, .int .i64 46, .int .i64 48, .int .i64 50, .int .i64 52] 3).box #[.int .u64 8, .int .u64 16, .int .u64 8, .int .u64 16, .int .u64 32] 31).bel)) (good0 _ _ _) 55 a 0 vn (by decide) (by omega) (by decide) HV.out (sg_store vn a ha2)).mono ?_); rintro e w3 ⟨rfl, hs⟩; simp only [World.size_alloc] at hs; have hca := (blk_cell hs.get2 1).trans rfl; have HS2 := Aside0.mk hs; clear hs)
      | (go_at_call 12; (with_reducible refine (memLoadS HS2.out (HG.out.below HS2.out.bel) HGD.out 46 a 0 (by decide) (by omega) (by decide) HS_.out).mono ?_); rintro e w4 ⟨rfl, hs⟩; rw [HSV.out]; have hcb := (blk_cell hs.get2 1).trans rfl; have HS3 := Aside0.mk hs; clear hs hca)
      | (go_at_call 12; (with_reducible refine (memLoadS HS3.out (HG.out.below HS3.out.bel) HGD.out 47 a 0 (by decide) (by omega) (by decide) HU.out).mono ?_); rintro e w5 ⟨rfl, hs⟩; have hcc := (blk_cell hs.get1 1).trans rfl; have HS4 := Aside0.mk hs; clear hs hcb)
      | (go_at_call 13; (with_reducible refine (ints_Signed.calls 127 (sv : Int) ((lw : Int) - 65536) _ HSG.out).mono ?_); rintro e w' ⟨rfl, ⟨nd, rfl⟩⟩)
      | (go_at_call 14; (with_reducible refine (ints_Fits.calls 127 (sv : Int) true _ HF3.out).mono ?_); rintro e w' ⟨rfl, ⟨nd2, rfl⟩⟩)
      | (go_at_call 14; (with_reducible refine (ints_Fits.calls 127 (lw : Int) true _ HF2.out).mono ?_); rintro e w' ⟨rfl, ⟨nd3, rfl⟩⟩))
    go_ret
    exact ⟨by first | rfl | simp, by repeat (first | exact HS4.out.bel | apply pw_below_drewN | apply below_alloc)⟩
set_option maxRecDepth 100000 in
theorem signs2 (v at_ : Int) (k : Int) (w : World) (hG : Globs w) (hv : 0 ≤ v ∧ v < 18446744073709551616) (hat : 0 ≤ at_ ∧ at_ < 18446744073709551616) (htm : (bits .and .i64 k 255).tmod 5 = 2) :
    Calls Tryd.prog 3 #[.int .u64 v, .int .u64 at_, .int .i64 k] w fun e w' => e = .returned (.bool true) ∧ Below w.heap.size w w' := by
  have HG := Aside0.mk hG
  clear hG
  obtain ⟨a, ha, ha2⟩ := and_low at_ 4095 hat (by decide)
  replace ha : bits .and .u64 at_ 4095 = (a : Int) := ha
  obtain ⟨vn, rfl⟩ := Int.eq_ofNat_of_zero_le hv.1
  have HV := Aside0.mk hv
  have hlow : bits .and .u64 (vn : Int) 255 = ((vn % 256 : Nat) : Int) := and_mask vn 8 255 (by omega) (by decide) (by decide)
  obtain ⟨lw, hlw⟩ : ∃ lw, lw = vn % 256 := ⟨_, rfl⟩
  rw [← hlw] at hlow
  have hlt : lw < 256 := by rw [hlw]; exact Nat.mod_lt _ (by decide)
  have hu : mLoad (splice b0 a (le 8 vn)) 49 a 0 = ((lw : Int), true) := by rw [sg_load vn a 1 49 126 false ha2 (by decide) (by rfl), hlw]; rfl
  have hs : mLoad (splice b0 a (le 8 vn)) 48 a 0 = (mVal true 126 1 (lw : Int), true) := by rw [sg_load vn a 1 48 126 true ha2 (by decide) (by rfl), hlw]
  have hsv := sv_126_1 (v := (lw : Int)) (by omega) (by omega)
  have HGD := Aside0.mk (sg_good vn a ha2)
  have HU := Aside0.mk hu
  have HS_ := Aside0.mk hs
  have HF2 := Aside0.mk (ft_126 (v := (lw : Int)) (by omega) (by omega))
  clear hat hv hu hs hlw
  by_cases c : (lw : Int) < 128
  · have d1 : decide (128 ≤ (lw : Int)) = false := decide_eq_false (by omega)
    replace hsv := hsv.1 c
    have HSG := Aside0.mk (sg_126_1 (v := (lw : Int)) (by omega) c)
    have HSV := Aside0.mk hsv
    clear hsv
    go_enter Tryd.func3, Tryd.ntmps3
    go_wp2_with (first
      | (go_at_call 9; (with_reducible refine (awake _ HG.out).mono ?_); rintro e w1 ⟨rfl, hb⟩; have HB := Aside0.mk hb; clear hb)
      | (go_at_call 10; (with_reducible refine (memNew1 ((SB.start w).below HB.out)).mono ?_); rintro e w2 ⟨p, rfl, hs⟩; have HS := Aside0.mk hs; clear hs)
      | (go_at_call 11; (with_reducible refine (memStoreS (((HS.out.box #[.int .i64 44, .int .i64 46, .int .i64 48, .int .i64 50, .int .i64 52] 3).box #[.int .u64 8, .int .u64 16, .int .u64 8, .int .u64 16, .int .u64 32] 31).rot2) (HG.out.below (((HS.out.box #[.int .i64 44, .int .i64 46, .int .i64 48, .int .i64 50, .int .i64 52] 3).box #[.int .u64 8, .int .u64 16, .int .u64 8, .int .u64 16, .int .u64 32] 31).bel)) (good0 _ _ _) 55 a 0 vn (by decide) (by omega) (by decide) HV.out (sg_store vn a ha2)).mono ?_); rintro e w3 ⟨rfl, hs⟩; simp only [World.size_alloc] at hs; have hca := (blk_cell hs.get2 2).trans rfl; have HS2 := Aside0.mk hs; clear hs)
      | (go_at_call 12; (with_reducible refine (memLoadS HS2.out (HG.out.below HS2.out.bel) HGD.out 48 a 0 (by decide) (by omega) (by decide) HS_.out).mono ?_); rintro e w4 ⟨rfl, hs⟩; rw [HSV.out]; have hcb := (blk_cell hs.get2 2).trans rfl; have HS3 := Aside0.mk hs; clear hs hca)
      | (go_at_call 12; (with_reducible refine (memLoadS HS3.out (HG.out.below HS3.out.bel) HGD.out 49 a 0 (by decide) (by omega) (by decide) HU.out).mono ?_); rintro e w5 ⟨rfl, hs⟩; have hcc := (blk_cell hs.get1 2).trans rfl; have HS4 := Aside0.mk hs; clear hs hcb)
      | (go_at_call 13; (with_reducible refine (ints_Signed.calls 126 (lw : Int) (lw : Int) _ HSG.out).mono ?_); rintro e w' ⟨rfl, ⟨nd, rfl⟩⟩)
      | (go_at_call 14; (with_reducible refine (ints_Fits.calls 126 (lw : Int) true _ HF2.out).mono ?_); rintro e w' ⟨rfl, ⟨nd2, rfl⟩⟩)
      | (go_at_call 14; (with_reducible refine (ints_Fits.calls 126 (lw : Int) true _ HF2.out).mono ?_); rintro e w' ⟨rfl, ⟨nd3, rfl⟩⟩))
    go_ret
    exact ⟨by first | rfl | simp, by repeat (first | exact HS4.out.bel | apply pw_below_drewN | apply below_alloc)⟩
  · have d1 : decide (128 ≤ (lw : Int)) = true := decide_eq_true (by omega)
    replace hsv := hsv.2 c
    obtain ⟨sv, hsv2⟩ : ∃ sv : Nat, (lw : Int) - 256 + 18446744073709551616 = (sv : Int) := ⟨((lw : Int) - 256 + 18446744073709551616).toNat, by omega⟩
    rw [hsv2] at hsv
    have HSG := Aside0.mk (sh_126_1 (v := (lw : Int)) (x := (sv : Int)) (by omega) (by omega) hsv2.symm)
    have HF3 := Aside0.mk (ft_126 (v := (sv : Int)) (by omega) (by omega))
    have HSV := Aside0.mk hsv
    clear hsv hsv2
    go_enter Tryd.func3, Tryd.ntmps3
    go_wp2_with (first
      | (go_at_call 9; (with_reducible refine (awake _ HG.out).mono ?_); rintro e w1 ⟨rfl, hb⟩; have HB := Aside0.mk hb; clear hb)
      | (go_at_call 10; (with_reducible refine (memNew1 ((SB.start w).below HB.out)).mono ?_); rintro e w2 ⟨p, rfl, hs⟩; have HS := Aside0.mk hs; clear hs)
      | (go_at_call 11; (with_reducible refine (memStoreS (((HS.out.box #[.int .i64 44, .int .i64 46, .int .i64 48, .int .i64 50, .int .i64 52] 3).box #[.int .u64 8, .int .u64 16, .int .u64 8, .int .u64 16, .int .u64 32] 31).rot2) (HG.out.below (((HS.out.box #[.int .i64 44, .int .i64 46, .int .i64 48, .int .i64 50, .int .i64 52] 3).box #[.int .u64 8, .int .u64 16, .int .u64 8, .int .u64 16, .int .u64 32] 31).bel)) (good0 _ _ _) 55 a 0 vn (by decide) (by omega) (by decide) HV.out (sg_store vn a ha2)).mono ?_); rintro e w3 ⟨rfl, hs⟩; simp only [World.size_alloc] at hs; have hca := (blk_cell hs.get2 2).trans rfl; have HS2 := Aside0.mk hs; clear hs)
      | (go_at_call 12; (with_reducible refine (memLoadS HS2.out (HG.out.below HS2.out.bel) HGD.out 48 a 0 (by decide) (by omega) (by decide) HS_.out).mono ?_); rintro e w4 ⟨rfl, hs⟩; rw [HSV.out]; have hcb := (blk_cell hs.get2 2).trans rfl; have HS3 := Aside0.mk hs; clear hs hca)
      | (go_at_call 12; (with_reducible refine (memLoadS HS3.out (HG.out.below HS3.out.bel) HGD.out 49 a 0 (by decide) (by omega) (by decide) HU.out).mono ?_); rintro e w5 ⟨rfl, hs⟩; have hcc := (blk_cell hs.get1 2).trans rfl; have HS4 := Aside0.mk hs; clear hs hcb)
      | (go_at_call 13; (with_reducible refine (ints_Signed.calls 126 (sv : Int) ((lw : Int) - 256) _ HSG.out).mono ?_); rintro e w' ⟨rfl, ⟨nd, rfl⟩⟩)
      | (go_at_call 14; (with_reducible refine (ints_Fits.calls 126 (sv : Int) true _ HF3.out).mono ?_); rintro e w' ⟨rfl, ⟨nd2, rfl⟩⟩)
      | (go_at_call 14; (with_reducible refine (ints_Fits.calls 126 (lw : Int) true _ HF2.out).mono ?_); rintro e w' ⟨rfl, ⟨nd3, rfl⟩⟩))
    go_ret
    exact ⟨by first | rfl | simp, by repeat (first | exact HS4.out.bel | apply pw_below_drewN | apply below_alloc)⟩
set_option maxRecDepth 100000 in
theorem signs3 (v at_ : Int) (k : Int) (w : World) (hG : Globs w) (hv : 0 ≤ v ∧ v < 18446744073709551616) (hat : 0 ≤ at_ ∧ at_ < 18446744073709551616) (htm : (bits .and .i64 k 255).tmod 5 = 3) :
    Calls Tryd.prog 3 #[.int .u64 v, .int .u64 at_, .int .i64 k] w fun e w' => e = .returned (.bool true) ∧ Below w.heap.size w w' := by
  have HG := Aside0.mk hG
  clear hG
  obtain ⟨a, ha, ha2⟩ := and_low at_ 4095 hat (by decide)
  replace ha : bits .and .u64 at_ 4095 = (a : Int) := ha
  obtain ⟨vn, rfl⟩ := Int.eq_ofNat_of_zero_le hv.1
  have HV := Aside0.mk hv
  have hlow : bits .and .u64 (vn : Int) 65535 = ((vn % 65536 : Nat) : Int) := and_mask vn 16 65535 (by omega) (by decide) (by decide)
  obtain ⟨lw, hlw⟩ : ∃ lw, lw = vn % 65536 := ⟨_, rfl⟩
  rw [← hlw] at hlow
  have hlt : lw < 65536 := by rw [hlw]; exact Nat.mod_lt _ (by decide)
  have hu : mLoad (splice b0 a (le 8 vn)) 51 a 0 = ((lw : Int), true) := by rw [sg_load vn a 2 51 126 false ha2 (by decide) (by rfl), hlw]; rfl
  have hs : mLoad (splice b0 a (le 8 vn)) 50 a 0 = (mVal true 126 2 (lw : Int), true) := by rw [sg_load vn a 2 50 126 true ha2 (by decide) (by rfl), hlw]
  have hsv := sv_126_2 (v := (lw : Int)) (by omega) (by omega)
  have HGD := Aside0.mk (sg_good vn a ha2)
  have HU := Aside0.mk hu
  have HS_ := Aside0.mk hs
  have HF2 := Aside0.mk (ft_126 (v := (lw : Int)) (by omega) (by omega))
  clear hat hv hu hs hlw
  by_cases c : (lw : Int) < 32768
  · have d1 : decide (32768 ≤ (lw : Int)) = false := decide_eq_false (by omega)
    replace hsv := hsv.1 c
    have HSG := Aside0.mk (sg_126_2 (v := (lw : Int)) (by omega) c)
    have HSV := Aside0.mk hsv
    clear hsv
    go_enter Tryd.func3, Tryd.ntmps3
    go_wp2_with (first
      | (go_at_call 9; (with_reducible refine (awake _ HG.out).mono ?_); rintro e w1 ⟨rfl, hb⟩; have HB := Aside0.mk hb; clear hb)
      | (go_at_call 10; (with_reducible refine (memNew1 ((SB.start w).below HB.out)).mono ?_); rintro e w2 ⟨p, rfl, hs⟩; have HS := Aside0.mk hs; clear hs)
      | (go_at_call 11; (with_reducible refine (memStoreS (((HS.out.box #[.int .i64 44, .int .i64 46, .int .i64 48, .int .i64 50, .int .i64 52] 3).box #[.int .u64 8, .int .u64 16, .int .u64 8, .int .u64 16, .int .u64 32] 31).rot2) (HG.out.below (((HS.out.box #[.int .i64 44, .int .i64 46, .int .i64 48, .int .i64 50, .int .i64 52] 3).box #[.int .u64 8, .int .u64 16, .int .u64 8, .int .u64 16, .int .u64 32] 31).bel)) (good0 _ _ _) 55 a 0 vn (by decide) (by omega) (by decide) HV.out (sg_store vn a ha2)).mono ?_); rintro e w3 ⟨rfl, hs⟩; simp only [World.size_alloc] at hs; have hca := (blk_cell hs.get2 3).trans rfl; have HS2 := Aside0.mk hs; clear hs)
      | (go_at_call 12; (with_reducible refine (memLoadS HS2.out (HG.out.below HS2.out.bel) HGD.out 50 a 0 (by decide) (by omega) (by decide) HS_.out).mono ?_); rintro e w4 ⟨rfl, hs⟩; rw [HSV.out]; have hcb := (blk_cell hs.get2 3).trans rfl; have HS3 := Aside0.mk hs; clear hs hca)
      | (go_at_call 12; (with_reducible refine (memLoadS HS3.out (HG.out.below HS3.out.bel) HGD.out 51 a 0 (by decide) (by omega) (by decide) HU.out).mono ?_); rintro e w5 ⟨rfl, hs⟩; have hcc := (blk_cell hs.get1 3).trans rfl; have HS4 := Aside0.mk hs; clear hs hcb)
      | (go_at_call 13; (with_reducible refine (ints_Signed.calls 126 (lw : Int) (lw : Int) _ HSG.out).mono ?_); rintro e w' ⟨rfl, ⟨nd, rfl⟩⟩)
      | (go_at_call 14; (with_reducible refine (ints_Fits.calls 126 (lw : Int) true _ HF2.out).mono ?_); rintro e w' ⟨rfl, ⟨nd2, rfl⟩⟩)
      | (go_at_call 14; (with_reducible refine (ints_Fits.calls 126 (lw : Int) true _ HF2.out).mono ?_); rintro e w' ⟨rfl, ⟨nd3, rfl⟩⟩))
    go_ret
    exact ⟨by first | rfl | simp, by repeat (first | exact HS4.out.bel | apply pw_below_drewN | apply below_alloc)⟩
  · have d1 : decide (32768 ≤ (lw : Int)) = true := decide_eq_true (by omega)
    replace hsv := hsv.2 c
    obtain ⟨sv, hsv2⟩ : ∃ sv : Nat, (lw : Int) - 65536 + 18446744073709551616 = (sv : Int) := ⟨((lw : Int) - 65536 + 18446744073709551616).toNat, by omega⟩
    rw [hsv2] at hsv
    have HSG := Aside0.mk (sh_126_2 (v := (lw : Int)) (x := (sv : Int)) (by omega) (by omega) hsv2.symm)
    have HF3 := Aside0.mk (ft_126 (v := (sv : Int)) (by omega) (by omega))
    have HSV := Aside0.mk hsv
    clear hsv hsv2
    go_enter Tryd.func3, Tryd.ntmps3
    go_wp2_with (first
      | (go_at_call 9; (with_reducible refine (awake _ HG.out).mono ?_); rintro e w1 ⟨rfl, hb⟩; have HB := Aside0.mk hb; clear hb)
      | (go_at_call 10; (with_reducible refine (memNew1 ((SB.start w).below HB.out)).mono ?_); rintro e w2 ⟨p, rfl, hs⟩; have HS := Aside0.mk hs; clear hs)
      | (go_at_call 11; (with_reducible refine (memStoreS (((HS.out.box #[.int .i64 44, .int .i64 46, .int .i64 48, .int .i64 50, .int .i64 52] 3).box #[.int .u64 8, .int .u64 16, .int .u64 8, .int .u64 16, .int .u64 32] 31).rot2) (HG.out.below (((HS.out.box #[.int .i64 44, .int .i64 46, .int .i64 48, .int .i64 50, .int .i64 52] 3).box #[.int .u64 8, .int .u64 16, .int .u64 8, .int .u64 16, .int .u64 32] 31).bel)) (good0 _ _ _) 55 a 0 vn (by decide) (by omega) (by decide) HV.out (sg_store vn a ha2)).mono ?_); rintro e w3 ⟨rfl, hs⟩; simp only [World.size_alloc] at hs; have hca := (blk_cell hs.get2 3).trans rfl; have HS2 := Aside0.mk hs; clear hs)
      | (go_at_call 12; (with_reducible refine (memLoadS HS2.out (HG.out.below HS2.out.bel) HGD.out 50 a 0 (by decide) (by omega) (by decide) HS_.out).mono ?_); rintro e w4 ⟨rfl, hs⟩; rw [HSV.out]; have hcb := (blk_cell hs.get2 3).trans rfl; have HS3 := Aside0.mk hs; clear hs hca)
      | (go_at_call 12; (with_reducible refine (memLoadS HS3.out (HG.out.below HS3.out.bel) HGD.out 51 a 0 (by decide) (by omega) (by decide) HU.out).mono ?_); rintro e w5 ⟨rfl, hs⟩; have hcc := (blk_cell hs.get1 3).trans rfl; have HS4 := Aside0.mk hs; clear hs hcb)
      | (go_at_call 13; (with_reducible refine (ints_Signed.calls 126 (sv : Int) ((lw : Int) - 65536) _ HSG.out).mono ?_); rintro e w' ⟨rfl, ⟨nd, rfl⟩⟩)
      | (go_at_call 14; (with_reducible refine (ints_Fits.calls 126 (sv : Int) true _ HF3.out).mono ?_); rintro e w' ⟨rfl, ⟨nd2, rfl⟩⟩)
      | (go_at_call 14; (with_reducible refine (ints_Fits.calls 126 (lw : Int) true _ HF2.out).mono ?_); rintro e w' ⟨rfl, ⟨nd3, rfl⟩⟩))
    go_ret
    exact ⟨by first | rfl | simp, by repeat (first | exact HS4.out.bel | apply pw_below_drewN | apply below_alloc)⟩
set_option maxRecDepth 100000 in
theorem signs4 (v at_ : Int) (k : Int) (w : World) (hG : Globs w) (hv : 0 ≤ v ∧ v < 18446744073709551616) (hat : 0 ≤ at_ ∧ at_ < 18446744073709551616) (htm : (bits .and .i64 k 255).tmod 5 = 4) :
    Calls Tryd.prog 3 #[.int .u64 v, .int .u64 at_, .int .i64 k] w fun e w' => e = .returned (.bool true) ∧ Below w.heap.size w w' := by
  have HG := Aside0.mk hG
  clear hG
  obtain ⟨a, ha, ha2⟩ := and_low at_ 4095 hat (by decide)
  replace ha : bits .and .u64 at_ 4095 = (a : Int) := ha
  obtain ⟨vn, rfl⟩ := Int.eq_ofNat_of_zero_le hv.1
  have HV := Aside0.mk hv
  have hlow : bits .and .u64 (vn : Int) 4294967295 = ((vn % 4294967296 : Nat) : Int) := and_mask vn 32 4294967295 (by omega) (by decide) (by decide)
  obtain ⟨lw, hlw⟩ : ∃ lw, lw = vn % 4294967296 := ⟨_, rfl⟩
  rw [← hlw] at hlow
  have hlt : lw < 4294967296 := by rw [hlw]; exact Nat.mod_lt _ (by decide)
  have hu : mLoad (splice b0 a (le 8 vn)) 53 a 0 = ((lw : Int), true) := by rw [sg_load vn a 4 53 126 false ha2 (by decide) (by rfl), hlw]; rfl
  have hs : mLoad (splice b0 a (le 8 vn)) 52 a 0 = (mVal true 126 4 (lw : Int), true) := by rw [sg_load vn a 4 52 126 true ha2 (by decide) (by rfl), hlw]
  have hsv := sv_126_4 (v := (lw : Int)) (by omega) (by omega)
  have HGD := Aside0.mk (sg_good vn a ha2)
  have HU := Aside0.mk hu
  have HS_ := Aside0.mk hs
  have HF2 := Aside0.mk (ft_126 (v := (lw : Int)) (by omega) (by omega))
  clear hat hv hu hs hlw
  by_cases c : (lw : Int) < 2147483648
  · have d1 : decide (2147483648 ≤ (lw : Int)) = false := decide_eq_false (by omega)
    replace hsv := hsv.1 c
    have HSG := Aside0.mk (sg_126_4 (v := (lw : Int)) (by omega) c)
    have HSV := Aside0.mk hsv
    clear hsv
    go_enter Tryd.func3, Tryd.ntmps3
    go_wp2_with (first
      | (go_at_call 9; (with_reducible refine (awake _ HG.out).mono ?_); rintro e w1 ⟨rfl, hb⟩; have HB := Aside0.mk hb; clear hb)
      | (go_at_call 10; (with_reducible refine (memNew1 ((SB.start w).below HB.out)).mono ?_); rintro e w2 ⟨p, rfl, hs⟩; have HS := Aside0.mk hs; clear hs)
      | (go_at_call 11; (with_reducible refine (memStoreS (((HS.out.box #[.int .i64 44, .int .i64 46, .int .i64 48, .int .i64 50, .int .i64 52] 3).box #[.int .u64 8, .int .u64 16, .int .u64 8, .int .u64 16, .int .u64 32] 31).rot2) (HG.out.below (((HS.out.box #[.int .i64 44, .int .i64 46, .int .i64 48, .int .i64 50, .int .i64 52] 3).box #[.int .u64 8, .int .u64 16, .int .u64 8, .int .u64 16, .int .u64 32] 31).bel)) (good0 _ _ _) 55 a 0 vn (by decide) (by omega) (by decide) HV.out (sg_store vn a ha2)).mono ?_); rintro e w3 ⟨rfl, hs⟩; simp only [World.size_alloc] at hs; have hca := (blk_cell hs.get2 4).trans rfl; have HS2 := Aside0.mk hs; clear hs)
      | (go_at_call 12; (with_reducible refine (memLoadS HS2.out (HG.out.below HS2.out.bel) HGD.out 52 a 0 (by decide) (by omega) (by decide) HS_.out).mono ?_); rintro e w4 ⟨rfl, hs⟩; rw [HSV.out]; have hcb := (blk_cell hs.get2 4).trans rfl; have HS3 := Aside0.mk hs; clear hs hca)
      | (go_at_call 12; (with_reducible refine (memLoadS HS3.out (HG.out.below HS3.out.bel) HGD.out 53 a 0 (by decide) (by omega) (by decide) HU.out).mono ?_); rintro e w5 ⟨rfl, hs⟩; have hcc := (blk_cell hs.get1 4).trans rfl; have HS4 := Aside0.mk hs; clear hs hcb)
      | (go_at_call 13; (with_reducible refine (ints_Signed.calls 126 (lw : Int) (lw : Int) _ HSG.out).mono ?_); rintro e w' ⟨rfl, ⟨nd, rfl⟩⟩)
      | (go_at_call 14; (with_reducible refine (ints_Fits.calls 126 (lw : Int) true _ HF2.out).mono ?_); rintro e w' ⟨rfl, ⟨nd2, rfl⟩⟩)
      | (go_at_call 14; (with_reducible refine (ints_Fits.calls 126 (lw : Int) true _ HF2.out).mono ?_); rintro e w' ⟨rfl, ⟨nd3, rfl⟩⟩))
    go_ret
    exact ⟨by first | rfl | simp, by repeat (first | exact HS4.out.bel | apply pw_below_drewN | apply below_alloc)⟩
  · have d1 : decide (2147483648 ≤ (lw : Int)) = true := decide_eq_true (by omega)
    replace hsv := hsv.2 c
    obtain ⟨sv, hsv2⟩ : ∃ sv : Nat, (lw : Int) - 4294967296 + 18446744073709551616 = (sv : Int) := ⟨((lw : Int) - 4294967296 + 18446744073709551616).toNat, by omega⟩
    rw [hsv2] at hsv
    have HSG := Aside0.mk (sh_126_4 (v := (lw : Int)) (x := (sv : Int)) (by omega) (by omega) hsv2.symm)
    have HF3 := Aside0.mk (ft_126 (v := (sv : Int)) (by omega) (by omega))
    have HSV := Aside0.mk hsv
    clear hsv hsv2
    go_enter Tryd.func3, Tryd.ntmps3
    go_wp2_with (first
      | (go_at_call 9; (with_reducible refine (awake _ HG.out).mono ?_); rintro e w1 ⟨rfl, hb⟩; have HB := Aside0.mk hb; clear hb)
      | (go_at_call 10; (with_reducible refine (memNew1 ((SB.start w).below HB.out)).mono ?_); rintro e w2 ⟨p, rfl, hs⟩; have HS := Aside0.mk hs; clear hs)
      | (go_at_call 11; (with_reducible refine (memStoreS (((HS.out.box #[.int .i64 44, .int .i64 46, .int .i64 48, .int .i64 50, .int .i64 52] 3).box #[.int .u64 8, .int .u64 16, .int .u64 8, .int .u64 16, .int .u64 32] 31).rot2) (HG.out.below (((HS.out.box #[.int .i64 44, .int .i64 46, .int .i64 48, .int .i64 50, .int .i64 52] 3).box #[.int .u64 8, .int .u64 16, .int .u64 8, .int .u64 16, .int .u64 32] 31).bel)) (good0 _ _ _) 55 a 0 vn (by decide) (by omega) (by decide) HV.out (sg_store vn a ha2)).mono ?_); rintro e w3 ⟨rfl, hs⟩; simp only [World.size_alloc] at hs; have hca := (blk_cell hs.get2 4).trans rfl; have HS2 := Aside0.mk hs; clear hs)
      | (go_at_call 12; (with_reducible refine (memLoadS HS2.out (HG.out.below HS2.out.bel) HGD.out 52 a 0 (by decide) (by omega) (by decide) HS_.out).mono ?_); rintro e w4 ⟨rfl, hs⟩; rw [HSV.out]; have hcb := (blk_cell hs.get2 4).trans rfl; have HS3 := Aside0.mk hs; clear hs hca)
      | (go_at_call 12; (with_reducible refine (memLoadS HS3.out (HG.out.below HS3.out.bel) HGD.out 53 a 0 (by decide) (by omega) (by decide) HU.out).mono ?_); rintro e w5 ⟨rfl, hs⟩; have hcc := (blk_cell hs.get1 4).trans rfl; have HS4 := Aside0.mk hs; clear hs hcb)
      | (go_at_call 13; (with_reducible refine (ints_Signed.calls 126 (sv : Int) ((lw : Int) - 4294967296) _ HSG.out).mono ?_); rintro e w' ⟨rfl, ⟨nd, rfl⟩⟩)
      | (go_at_call 14; (with_reducible refine (ints_Fits.calls 126 (sv : Int) true _ HF3.out).mono ?_); rintro e w' ⟨rfl, ⟨nd2, rfl⟩⟩)
      | (go_at_call 14; (with_reducible refine (ints_Fits.calls 126 (lw : Int) true _ HF2.out).mono ?_); rintro e w' ⟨rfl, ⟨nd3, rfl⟩⟩))
    go_ret
    exact ⟨by first | rfl | simp, by repeat (first | exact HS4.out.bel | apply pw_below_drewN | apply below_alloc)⟩
def okU (v : Int) : Bool := decide (0 ≤ v) && decide (v < 18446744073709551616)
def okI (v : Int) : Bool := decide (-9223372036854775808 ≤ v) && decide (v < 9223372036854775808)
theorem okU_iff {v : Int} : okU v = true ↔ 0 ≤ v ∧ v < 18446744073709551616 := by simp [okU]
theorem okI_iff {v : Int} : okI v = true ↔ -9223372036854775808 ≤ v ∧ v < 9223372036854775808 := by simp [okI]
theorem memorySigns (v at_ k : Int) (w : World) (hG : Globs w) (hv : 0 ≤ v ∧ v < 18446744073709551616) (hat : 0 ≤ at_ ∧ at_ < 18446744073709551616) :
    Calls Tryd.prog 3 #[.int .u64 v, .int .u64 at_, .int .i64 k] w fun e w' => e = .returned (.bool true) ∧ Below w.heap.size w w' := by
  obtain ⟨q, hq, hq2⟩ := and_lowi k 255 (by decide)
  replace hq : bits .and .i64 k 255 = (q : Int) := hq
  have ht : (bits .and .i64 k 255).tmod 5 = (q : Int) % 5 := by rw [hq]; exact Int.tmod_eq_emod_of_nonneg (by omega)
  have h5 : (q : Int) % 5 = 0 ∨ (q : Int) % 5 = 1 ∨ (q : Int) % 5 = 2 ∨ (q : Int) % 5 = 3 ∨ (q : Int) % 5 = 4 := by omega
  rcases h5 with h | h | h | h | h
  · exact signs0 v at_ k w hG hv hat (ht.trans h)
  · exact signs1 v at_ k w hG hv hat (ht.trans h)
  · exact signs2 v at_ k w hG hv hat (ht.trans h)
  · exact signs3 v at_ k w hG hv hat (ht.trans h)
  · exact signs4 v at_ k w hG hv hat (ht.trans h)
/-- Where the walk's law holds: the arguments are numbers of their kinds. -/
def avocetlaw13_MemorySigns.f (a0 : Int) (a1 : Int) (a2 : Int) : Option (Bool) := if okU a0 && okU a1 then some true else none
theorem avocetlaw13_MemorySigns.calls (a0 : Int) (a1 : Int) (a2 : Int) (r : Bool) (w : World) (hG : Globs w) (hr_ : r = true) (h : avocetlaw13_MemorySigns.f a0 a1 a2 = some r) :
    Calls Tryd.prog 3 #[.int .u64 a0, .int .u64 a1, .int .i64 a2] w fun e w' => e = .returned (.bool r) ∧ Below w.heap.size w w' := by
  subst hr_
  unfold avocetlaw13_MemorySigns.f at h
  split at h
  · rename_i hb
    rw [Bool.and_eq_true] at hb
    exact memorySigns a0 a1 a2 w hG (okU_iff.1 hb.1) (okU_iff.1 hb.2)
  · cases h
end Go.Proofs.YtffoolhfjomhhaaDoor.G
