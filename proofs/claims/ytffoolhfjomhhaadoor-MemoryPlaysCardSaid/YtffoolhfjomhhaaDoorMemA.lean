/- The walks of package memory's functions: what they read, and what they turn. -/
import Derived.Deep.RegionHeld3
import Derived.Test.YtffoolhfjomhhaaDoorG
import Derived.Test.YtffoolhfjomhhaaDoorMemO
namespace Go.Proofs.YtffoolhfjomhhaaDoor.G
open Go.RowKit Go.Proofs.YtffoolhfjomhhaaDoorW.PrintWords Go.Proofs.YtffoolhfjomhhaaDoorW.PrintLast Go.Proofs.YtffoolhfjomhhaaDoorW.PrintMore
attribute [local go_sem] max2_int min2_int max_two min_two max_three min_three max_four min_four   -- for this text's walks alone
set_option linter.unusedVariables false
set_option linter.unusedSimpArgs false
theorem memAll (p : Nat) (A : Option Addr) (n c : Nat) (w : World) (h : w.cell? ⟨p, 0, none⟩ = some (.slice A n c)) :
    Calls Tryd.prog 31 #[.pointer (some ⟨p, 0, none⟩)] w fun e w' => e = .returned (.slice A n c) ∧ Drawn0 w w' := by
  go_enter Tryd.func31, Tryd.ntmps31
  go_wp2
  go_ret
  exact ⟨rfl, by repeat (first | exact Drawn0.refl _ | apply Drawn0.step)⟩
theorem memAllNil (w : World) : Calls Tryd.prog 31 #[.pointer none] w fun e w' => e = .returned (.slice none 0 0) ∧ Drawn0 w w' := by
  go_enter Tryd.func31, Tryd.ntmps31
  go_wp2
  go_ret
  exact ⟨rfl, by repeat (first | exact Drawn0.refl _ | apply Drawn0.step)⟩
theorem memPages (p : Nat) (A : Option Addr) (n c : Nat) (w : World) (hn : (n : Int) ≤ 9223372036854775807) (h : w.cell? ⟨p, 0, none⟩ = some (.slice A n c)) :
    Calls Tryd.prog 19 #[.pointer (some ⟨p, 0, none⟩)] w fun e w' => e = .returned (.int .i64 ((n : Int) / 65536)) ∧ Drawn0 w w' := by
  go_enter Tryd.func19, Tryd.ntmps19
  go_wp2_with (go_at_call 31; refine (memAll p A n c _ h).mono ?_; rintro e w' ⟨rfl, ⟨nd, rfl⟩⟩)
  go_ret
  exact ⟨rfl, _, rfl⟩
def mFits (n : Nat) (base off k : Int) : Bool := decide (base ≤ 4294967295) && decide (off ≤ 4294967295) && decide (0 ≤ k) && decide (base + off + k ≤ n)
theorem memFits (p : Nat) (A : Option Addr) (n c : Nat) (base off k : Int) (w : World) (hn : n ≤ 4294967295) (hb : 0 ≤ base ∧ base < 18446744073709551616) (ho : 0 ≤ off ∧ off < 18446744073709551616) (hk : -9223372036854775808 ≤ k ∧ k < 9223372036854775808) (h : w.cell? ⟨p, 0, none⟩ = some (.slice A n c)) :
    Calls Tryd.prog 21 #[.pointer (some ⟨p, 0, none⟩), .int .u64 base, .int .u64 off, .int .i64 k] w fun e w' => e = .returned (.bool (mFits n base off k)) ∧ Drawn0 w w' := by
  obtain ⟨hb0, hb1⟩ := hb
  obtain ⟨ho0, ho1⟩ := ho
  obtain ⟨hk0, hk1⟩ := hk
  by_cases c1 : base ≤ 4294967295
  · have d1 : decide (base ≤ 4294967295) = true := decide_eq_true c1
    by_cases c2 : off ≤ 4294967295
    · have d2 : decide (off ≤ 4294967295) = true := decide_eq_true c2
      by_cases c3 : 0 ≤ k
      · have d3 : decide (0 ≤ k) = true := decide_eq_true c3
        by_cases c4 : k ≤ 4294967295
        · have d4 : decide (k ≤ 4294967295) = true := decide_eq_true c4
          by_cases c5 : base + off + k ≤ n
          · have d5 : decide (base + off + k ≤ (n : Int)) = true := decide_eq_true c5
            go_enter Tryd.func21, Tryd.ntmps21
            go_wp2_with (go_at_call 31; refine (memAll p A n c _ h).mono ?_; rintro e w' ⟨rfl, ⟨nd, rfl⟩⟩)
            go_ret
            exact ⟨by simp [mFits, *], _, rfl⟩
          · have d5 : decide (base + off + k ≤ (n : Int)) = false := decide_eq_false c5
            go_enter Tryd.func21, Tryd.ntmps21
            go_wp2_with (go_at_call 31; refine (memAll p A n c _ h).mono ?_; rintro e w' ⟨rfl, ⟨nd, rfl⟩⟩)
            go_ret
            exact ⟨by simp [mFits, *], _, rfl⟩
        · have d4 : decide (k ≤ 4294967295) = false := decide_eq_false c4
          have d5 : decide (base + off + k ≤ (n : Int)) = false := decide_eq_false (by omega)
          go_enter Tryd.func21, Tryd.ntmps21
          go_wp2
          go_ret
          exact ⟨by simp [mFits, *], by repeat (first | exact Drawn0.refl _ | apply Drawn0.step)⟩
      · have d3 : decide (0 ≤ k) = false := decide_eq_false c3
        go_enter Tryd.func21, Tryd.ntmps21
        go_wp2
        go_ret
        exact ⟨by simp [mFits, *], by repeat (first | exact Drawn0.refl _ | apply Drawn0.step)⟩
    · have d2 : decide (off ≤ 4294967295) = false := decide_eq_false c2
      go_enter Tryd.func21, Tryd.ntmps21
      go_wp2
      go_ret
      exact ⟨by simp [mFits, *], by repeat (first | exact Drawn0.refl _ | apply Drawn0.step)⟩
  · have d1 : decide (base ≤ 4294967295) = false := decide_eq_false c1
    go_enter Tryd.func21, Tryd.ntmps21
    go_wp2
    go_ret
    exact ⟨by simp [mFits, *], by repeat (first | exact Drawn0.refl _ | apply Drawn0.step)⟩
theorem mFits_iff {n : Nat} {base off k : Int} : mFits n base off k = true ↔ base ≤ 4294967295 ∧ off ≤ 4294967295 ∧ 0 ≤ k ∧ base + off + k ≤ n := by
  simp [mFits, and_assoc]
theorem add_blk (g t : Nat) : (⟨g, 0, none⟩ : Addr).add t = ⟨g, t, none⟩ := by
  by_cases h : t = 0
  · subst h; simp [Addr.add]
  · simp [Addr.add, h]
theorem memWinNo (p : Nat) (A : Option Addr) (n c : Nat) (base off k : Int) (w : World) (hn : n ≤ 4294967295) (hb : 0 ≤ base ∧ base < 18446744073709551616) (ho : 0 ≤ off ∧ off < 18446744073709551616) (hk : -9223372036854775808 ≤ k ∧ k < 9223372036854775808) (h : w.cell? ⟨p, 0, none⟩ = some (.slice A n c))
    (hf : k = 0 ∨ mFits n base off k = false) :
    Calls Tryd.prog 29 #[.pointer (some ⟨p, 0, none⟩), .int .u64 base, .int .u64 off, .int .i64 k] w fun e w' => e = .returned (.tuple #[.slice none 0 0, .bool false]) ∧ Drawn0 w w' := by
  by_cases c1 : k = 0
  · have d1 : (k == 0) = true := beq_iff_eq.2 c1
    go_enter Tryd.func29, Tryd.ntmps29
    go_wp2
    go_ret2
    exact ⟨rfl, by repeat (first | exact Drawn0.refl _ | apply Drawn0.step)⟩
  · have d1 : (k == 0) = false := beq_eq_false_iff_ne.2 c1
    have hf := hf.resolve_left c1
    go_enter Tryd.func29, Tryd.ntmps29
    go_wp2_with (go_at_call 21; refine (memFits p A n c base off k _ hn hb ho hk h).mono ?_; rintro e w' ⟨rfl, ⟨nd, rfl⟩⟩; rw [hf])
    go_ret2
    exact ⟨rfl, _, rfl⟩
theorem memWin (p g : Nat) (n c : Nat) (base off : Int) (t m : Nat) (w : World) (hn : n ≤ 4294967295) (hb : 0 ≤ base ∧ base < 18446744073709551616) (ho : 0 ≤ off ∧ off < 18446744073709551616) (h : w.cell? ⟨p, 0, none⟩ = some (.slice (some ⟨g, 0, none⟩) n c)) (hc : n ≤ c)
    (he : base + off = (t : Int)) (hm : 0 < m) (hf : mFits n base off m = true) :
    Calls Tryd.prog 29 #[.pointer (some ⟨p, 0, none⟩), .int .u64 base, .int .u64 off, .int .i64 m] w fun e w' => e = .returned (.tuple #[.slice (some ⟨g, t, none⟩) m m, .bool true]) ∧ Drawn0 w w' := by
  have d1 : ((m : Int) == 0) = false := beq_eq_false_iff_ne.2 (by omega)
  obtain ⟨h1, h2, h3, h4⟩ := mFits_iff.1 hf
  have b1 : (0 : Int) ≤ (t : Int) := by omega
  have b2 : (t : Int) ≤ (t : Int) + (m : Int) := by omega
  have b3 : (t : Int) + (m : Int) ≤ (t : Int) + (m : Int) := by omega
  have b4 : (t : Int) + (m : Int) ≤ (c : Int) := by omega
  have hs : ∀ W : World, (Instr.slice 39 (.slice (some ⟨g, 0, none⟩) n c) (some (.int .i64 (t : Int))) (some (.int .i64 ((t : Int) + (m : Int)))) (some (.int .i64 ((t : Int) + (m : Int))))).run Tryd.prog W = .ok (.slice (some ⟨g, t, none⟩) m m) W := fun W => by
    have hel : Tryd.prog.elem 39 = 5 := by simp [Program.elem, Tryd.underlying39]
    have hu : Tryd.prog.underlying 39 = some (.slice (Tryd.prog.elem 39)) := by rw [hel]; exact Tryd.underlying39
    have hi : (Tryd.prog.info? 5).map (fun i => (i.zero, i.size, i.bytes)) = some (some (.int .u8 0), 1, 1) := by kernel_rfl
    obtain ⟨i0, hi0, hz0, hz1, hz2⟩ := info_parts hi
    rw [run_slice_lhm W 39 (some ⟨g, 0, none⟩) n c hu .i64 .i64 .i64 (t : Int) ((t : Int) + (m : Int)) ((t : Int) + (m : Int)) b1 b2 b3 b4, hel]
    have e1 : ((t : Int) + (m : Int)).toNat = t + m := by omega
    simp [sizeOf, typeInfo, hi0, hz1, sliced, Result.andThen, e1, add_blk, show ¬ (m = 0) by omega]
  go_enter Tryd.func29, Tryd.ntmps29
  go_wp2_with (go_at_call 21; refine (memFits p (some ⟨g, 0, none⟩) n c base off m _ hn hb ho (by omega) h).mono ?_; rintro e w' ⟨rfl, ⟨nd, rfl⟩⟩; rw [hf])
  go_ret2
  exact ⟨rfl, _, rfl⟩
/-- What a code reads or writes: type, bytes, is it signed, is it a store. -/
def accT : List (Int × Int × Bool × Bool) := [(127, 4, false, false), (126, 8, false, false), (0, 0, false, false), (0, 0, false, false), (127, 1, true, false), (127, 1, false, false), (127, 2, true, false), (127, 2, false, false),
  (126, 1, true, false), (126, 1, false, false), (126, 2, true, false), (126, 2, false, false), (126, 4, true, false), (126, 4, false, false), (127, 4, false, true), (126, 8, false, true), (0, 0, false, false), (0, 0, false, false),
  (127, 1, false, true), (127, 2, false, true), (126, 1, false, true), (126, 2, false, true), (126, 4, false, true)]
def accR (i : Nat) : Int × Int × Bool × Bool := accT.getD i (0, 0, false, false)
def acc (op : Int) : Int × Int × Bool × Bool := if 40 ≤ op then accR (op - 40).toNat else (0, 0, false, false)
def Globs (w : World) : Prop := ∀ i, i < 23 → w.cell? ⟨0, i * 4, none⟩ = some (.int .u8 (accR i).1) ∧ w.cell? ⟨0, i * 4 + 1, none⟩ = some (.int .i64 (accR i).2.1) ∧ w.cell? ⟨0, i * 4 + 2, none⟩ = some (.bool (accR i).2.2.1) ∧ w.cell? ⟨0, i * 4 + 3, none⟩ = some (.bool (accR i).2.2.2)
theorem Globs.below {w w' : World} (h : Globs w) (hb : Below w.heap.size w w') : Globs w' :=
  fun i hi => ⟨pw_cell_below hb (h i hi).1, pw_cell_below hb (h i hi).2.1, pw_cell_below hb (h i hi).2.2.1, pw_cell_below hb (h i hi).2.2.2⟩
theorem Globs.alloc {w : World} (h : Globs w) (o : Obj) : Globs (w.alloc o) := h.below (below_alloc (Below.refl _ _) o)
theorem Globs.drewN {w : World} (h : Globs w) (n : Nat) : Globs (w.drewN n) := h.below (pw_below_drewN (Below.refl _ _) n)
theorem Globs.drew {w : World} (h : Globs w) : Globs w.drew := h.below (below_drew (Below.refl _ _))
theorem instrAccess (op : Int) (w : World) (hG : Globs w) (ho : -9223372036854775808 ≤ op ∧ op < 9223372036854775808) :
    Calls Tryd.prog 17 #[.int .i64 op] w fun e w' => e = .returned (.tuple #[.int .u8 (acc op).1, .int .i64 (acc op).2.1, .bool (acc op).2.2.1, .bool (acc op).2.2.2]) ∧ Below w.heap.size w w' := by
  by_cases c1 : op < 40
  · have d1 : decide (op < 40) = true := decide_eq_true c1
    have hr : acc op = (0, 0, false, false) := if_neg (by omega)
    rw [hr]
    go_enter Tryd.func17, Tryd.ntmps17
    go_wp2
    refine bodyPost_ret (results_list (rs := [.tmp 2, .tmp 3, .tmp 4, .tmp 5]) rfl (by simp) (.tmp (.tmp (.tmp (.tmp .nil))))) rfl ?_
    exact ⟨rfl, Below.refl _ _⟩
  · have d1 : decide (op < 40) = false := decide_eq_false c1
    by_cases c2 : 63 ≤ op
    · have d2 : decide (63 ≤ op) = true := decide_eq_true c2
      have hr : acc op = (0, 0, false, false) := by
        rw [acc, if_pos (by omega), accR, List.getD_eq_getElem?_getD, List.getElem?_eq_none (by simp [accT]; omega)]; rfl
      rw [hr]
      go_enter Tryd.func17, Tryd.ntmps17
      go_wp2
      refine bodyPost_ret (results_list (rs := [.tmp 2, .tmp 3, .tmp 4, .tmp 5]) rfl (by simp) (.tmp (.tmp (.tmp (.tmp .nil))))) rfl ?_
      exact ⟨rfl, Below.refl _ _⟩
    · have d2 : decide (63 ≤ op) = false := decide_eq_false c2
      obtain ⟨i, hi⟩ : ∃ i : Nat, op = 40 + (i : Int) := ⟨(op - 40).toNat, by omega⟩
      have hi23 : i < 23 := by omega
      have hr : acc op = accR i := by rw [acc, if_pos (by omega)]; congr 1; omega
      rw [hr]
      obtain ⟨g0, g1, g2, g3⟩ := hG i hi23
      subst hi
      have e1 : 40 + (i : Int) - 40 = (i : Int) := by omega
      go_enter Tryd.func17, Tryd.ntmps17
      go_wp2
      go_quiet (fail)
      go_wp2
      refine bodyPost_ret (results_list (rs := [.tmp 2, .tmp 3, .tmp 4, .tmp 5]) rfl (by simp) (.tmp (.tmp (.tmp (.tmp .nil))))) rfl ?_
      exact ⟨rfl, by repeat (first | exact Below.refl _ _ | apply below_alloc | apply below_drew1 | apply pw_below_drewN)⟩
theorem wrap_u64_ (n : Int) : IntKind.u64.wrap n = n % 18446744073709551616 := by simp [IntKind.wrap, IntKind.signed, IntKind.bits]
theorem or_u64_nat (a b : Nat) (ha : a < 18446744073709551616) (hb : b < 18446744073709551616) : bits .or .u64 (a : Int) (b : Int) = ((a ||| b : Nat) : Int) := by
  have h1 : (BitVec.ofInt 64 (a : Int)).toNat = a := by simp; omega
  have h2 : (BitVec.ofInt 64 (b : Int)).toNat = b := by simp; omega
  have h3 : a ||| b < 18446744073709551616 := Nat.or_lt_two_pow (n := 64) ha hb
  show IntKind.u64.wrap ((BitVec.ofInt 64 (a : Int) ||| BitVec.ofInt 64 (b : Int)).toNat : Int) = _
  rw [BitVec.toNat_or, h1, h2, wrap_u64_]
  omega
theorem xor_u64_nat (a b : Nat) (ha : a < 18446744073709551616) (hb : b < 18446744073709551616) : bits .xor .u64 (a : Int) (b : Int) = ((a ^^^ b : Nat) : Int) := by
  have h1 : (BitVec.ofInt 64 (a : Int)).toNat = a := by simp; omega
  have h2 : (BitVec.ofInt 64 (b : Int)).toNat = b := by simp; omega
  have h3 : a ^^^ b < 18446744073709551616 := Nat.xor_lt_two_pow (n := 64) ha hb
  show IntKind.u64.wrap ((BitVec.ofInt 64 (a : Int) ^^^ BitVec.ofInt 64 (b : Int)).toNat : Int) = _
  rw [BitVec.toNat_xor, h1, h2, wrap_u64_]
  omega
theorem oct_getD {b : List Int} (h : Oct b) (i : Nat) : 0 ≤ rdOf 0 b (i : Int) ∧ rdOf 0 b (i : Int) < 256 := by
  unfold rdOf
  rw [Int.toNat_natCast, List.getD_eq_getElem?_getD]
  rcases hb : b[i]? with _ | x
  · exact ⟨Int.le_refl _, by decide⟩
  · exact h x (List.mem_of_getElem? hb)
theorem pow256 (k : Nat) : (256 : Int) ^ k = ((2 ^ (8 * k) : Nat) : Int) := by
  have h : (2 : Nat) ^ (8 * k) = 256 ^ k := by rw [Nat.pow_mul]
  rw [h]
  exact (Int.natCast_pow 256 k).symm
theorem pow2_ (k : Nat) : (2 : Int) ^ k = ((2 ^ k : Nat) : Int) := (Int.natCast_pow 2 k).symm
theorem or_step {b : List Int} {t k : Nat} (hb : Oct b) (hk : k < 8) (h : t + k < b.length) :
    bits BinOp.or IntKind.u64 (ev (seg b t k)) (IntKind.u64.wrap (IntKind.u64.wrap (rdOf 0 b ((t : Int) + (k : Int))) * 2 ^ (8 * k))) = ev (seg b t (k + 1)) := by
  have e1 : ((t : Int) + (k : Int)) = ((t + k : Nat) : Int) := by omega
  rw [e1, seg_snoc h, ev_snoc, seg_length (by omega)]
  obtain ⟨c0, c1⟩ := oct_getD hb (t + k)
  have hg : b[t + k] = rdOf 0 b ((t + k : Nat) : Int) := by
    unfold rdOf
    rw [Int.toNat_natCast, List.getD_eq_getElem?_getD, List.getElem?_eq_getElem h]; rfl
  rw [hg]
  have l0 := ev_nonneg (seg_oct hb t k)
  have l1 := ev_lt (seg_oct hb t k)
  rw [seg_length (by omega)] at l1
  generalize ev (seg b t k) = v at *
  generalize rdOf 0 b ((t + k : Nat) : Int) = c at *
  obtain ⟨v, rfl⟩ := Int.eq_ofNat_of_zero_le l0
  obtain ⟨c, rfl⟩ := Int.eq_ofNat_of_zero_le c0
  have hc : c < 256 := by omega
  have hv : v < 2 ^ (8 * k) := by
    rw [pow256] at l1
    exact Int.ofNat_lt.1 l1
  have hp : (2 : Nat) ^ (8 * k) ≤ 2 ^ 56 := Nat.pow_le_pow_right (by decide) (by omega)
  have h256 := pow256 k
  have hm : c * 2 ^ (8 * k) < 2 ^ 64 := by
    calc c * 2 ^ (8 * k) < 256 * 2 ^ (8 * k) := Nat.mul_lt_mul_of_pos_right hc (Nat.two_pow_pos _)
      _ ≤ 256 * 2 ^ 56 := Nat.mul_le_mul_left _ hp
      _ = 2 ^ 64 := by decide
  have w1 : IntKind.u64.wrap (c : Int) = (c : Int) := by rw [wrap_u64_]; omega
  have e2 := pow2_ (8 * k)
  have w2 : IntKind.u64.wrap ((c : Int) * 2 ^ (8 * k)) = ((c * 2 ^ (8 * k) : Nat) : Int) := by
    rw [e2, ← Int.natCast_mul, wrap_u64_]
    omega
  rw [w1, w2, or_u64_nat _ _ (by omega) (by omega), h256, ← Int.natCast_mul, ← Int.natCast_add, Nat.mul_comm c, Nat.or_comm, ← Nat.two_pow_add_eq_or_of_lt hv c, Nat.add_comm]
/-- The signed number of n bytes' number. -/
def sext (n : Nat) (v : Int) : Int := if v < 128 * 256 ^ (n - 1) then v else v - 256 ^ n
def value (t v : Int) : Int := if t = 127 then v % 4294967296 else v % 18446744073709551616
def mVal (sg : Bool) (t : Int) (n : Nat) (v : Int) : Int := if sg then value t (sext n v) else v
theorem sx_1 {v : Int} (h0 : 0 ≤ v) (h1 : v < 256 ^ 1) : mVal true 127 1 v = wrap64 (v * 72057594037927936) / 72057594037927936 % 4294967296 := by
  simp only [mVal, if_true, value, sext, wrap64]
  split <;> omega
theorem sy_1 {v ty : Int} (ht : ¬ ty = 127) (h0 : 0 ≤ v) (h1 : v < 256 ^ 1) : mVal true ty 1 v = IntKind.u64.wrap (wrap64 (v * 72057594037927936) / 72057594037927936) := by
  simp only [mVal, if_true, value, sext, wrap64, wrap_u64_]
  rw [if_neg ht]
  split <;> omega
theorem sx_2 {v : Int} (h0 : 0 ≤ v) (h1 : v < 256 ^ 2) : mVal true 127 2 v = wrap64 (v * 281474976710656) / 281474976710656 % 4294967296 := by
  simp only [mVal, if_true, value, sext, wrap64]
  split <;> omega
theorem sy_2 {v ty : Int} (ht : ¬ ty = 127) (h0 : 0 ≤ v) (h1 : v < 256 ^ 2) : mVal true ty 2 v = IntKind.u64.wrap (wrap64 (v * 281474976710656) / 281474976710656) := by
  simp only [mVal, if_true, value, sext, wrap64, wrap_u64_]
  rw [if_neg ht]
  split <;> omega
theorem sx_4 {v : Int} (h0 : 0 ≤ v) (h1 : v < 256 ^ 4) : mVal true 127 4 v = wrap64 (v * 4294967296) / 4294967296 % 4294967296 := by
  simp only [mVal, if_true, value, sext, wrap64]
  split <;> omega
theorem sy_4 {v ty : Int} (ht : ¬ ty = 127) (h0 : 0 ≤ v) (h1 : v < 256 ^ 4) : mVal true ty 4 v = IntKind.u64.wrap (wrap64 (v * 4294967296) / 4294967296) := by
  simp only [mVal, if_true, value, sext, wrap64, wrap_u64_]
  rw [if_neg ht]
  split <;> omega
set_option maxHeartbeats 4000000 in
theorem memLoadRaw (p g : Nat) (b : List Int) (c : Nat) (op base off : Int) (t n : Nat) (w : World) (ok : Nat → Prop) (hG : Globs w) (hop : -9223372036854775808 ≤ op ∧ op < 9223372036854775808) (hb : 0 ≤ base ∧ base < 18446744073709551616) (ho : 0 ≤ off ∧ off < 18446744073709551616)
    (h : w.cell? ⟨p, 0, none⟩ = some (.slice (some ⟨g, 0, none⟩) b.length c)) (hlen : b.length ≤ 4294967295) (hc : b.length ≤ c)
    (hR : (Kd.int .u8).R 5 w 0 ok (.slice (some ⟨g, 0, none⟩) b.length c) b) (hOct : Oct b)
    (ty : Int) (sg : Bool) (hacc : acc op = (ty, (n : Int), sg, false)) (hn : 0 < n ∧ n ≤ 8) (hsg : sg = true → n = 1 ∨ n = 2 ∨ n = 4) (he : base + off = (t : Int)) (hf : mFits b.length base off n = true) :
    Calls Tryd.prog 12 #[.pointer (some ⟨p, 0, none⟩), .int .i64 op, .int .u64 base, .int .u64 off] w fun e w' => e = .returned (.tuple #[.int .u64 (mVal sg ty n (ev (seg b t n))), .bool true]) ∧ Below w.heap.size w w' := by
  have HG := Aside0.mk hG
  have HR := Aside0.mk hR
  have HO := Aside0.mk hOct
  clear hG hR hOct
  obtain ⟨h1, h2, h3, h4⟩ := mFits_iff.1 hf
  go_enter Tryd.func12, Tryd.ntmps12
  go_wp2_with (first
    | (go_at_call 17; refine (instrAccess op _ HG.out hop).mono ?_; rintro e w1 ⟨rfl, hb1⟩; rw [hacc]; have HB := Aside0.mk hb1; have h' := pw_cell_below hb1 h; clear hb1)
    | (go_at_call 29; refine (memWin p g b.length c base off t n _ hlen hb ho h' hc he hn.1 hf).mono ?_; rintro e w' ⟨rfl, ⟨nd, rfl⟩⟩))
  go_loopw [16, 42] (fun v16 v42 wr => ∃ k : Nat, v42 = .int .i64 k ∧ v16 = .int .u64 (ev (seg b t k)) ∧ k ≤ n ∧ Aside0 (Below w.heap.size w wr)) (fun _ v42 _ => n - (intOf v42).toNat)
  case atStart => exact ⟨0, rfl, by simp [seg, ev], Nat.zero_le _, ⟨HB.out.trans (by repeat (first | exact Below.refl _ _ | apply pw_below_drewN))⟩⟩
  case round =>
    obtain ⟨k, rfl, rfl, hk, HB2⟩ := hrel
    by_cases hlt : k < n
    · have d1 : decide ((k : Int) < (n : Int)) = true := decide_eq_true (by omega)
      have d2 : decide (k < n) = true := decide_eq_true hlt
      have hx := pw_cell_below HB2.out (Kd.R_celln 0 HR.out ((t + k : Nat) : Int) (by omega) (by omega)).1
      simp only [Int.toNat_natCast] at hx
      have hst := or_step (b := b) (t := t) (k := k) HO.out (by omega) (by omega)
      go_wp2
      exact ⟨⟨k + 1, rfl, by first | rfl | rw [hst], by omega, HB2⟩, by simp [intOf]; omega⟩
    · have d1 : decide ((k : Int) < (n : Int)) = false := decide_eq_false (by omega)
      have d2 : decide (k < n) = false := decide_eq_false hlt
      obtain rfl : k = n := by omega
      cases sg with
      | false =>
        go_wp2
        go_ret2
        exact ⟨rfl, HB2.out⟩
      | true =>
        have hv0 := ev_nonneg (seg_oct HO.out t k)
        have hv1 := ev_lt (seg_oct HO.out t k)
        rw [seg_length (by omega)] at hv1
        by_cases cty : ty = 127
        · have dty : (ty == 127) = true := beq_iff_eq.2 cty
          rcases hsg rfl with rfl | rfl | rfl
          · go_wp2
            go_ret2
            exact ⟨by rw [sx_1 hv0 hv1]; rfl, HB2.out⟩
          · go_wp2
            go_ret2
            exact ⟨by rw [sx_2 hv0 hv1]; rfl, HB2.out⟩
          · go_wp2
            go_ret2
            exact ⟨by rw [sx_4 hv0 hv1]; rfl, HB2.out⟩
        · have dty : (ty == 127) = false := beq_eq_false_iff_ne.2 cty
          rcases hsg rfl with rfl | rfl | rfl
          · go_wp2
            go_ret2
            exact ⟨by rw [sy_1 cty hv0 hv1]; rfl, HB2.out⟩
          · go_wp2
            go_ret2
            exact ⟨by rw [sy_2 cty hv0 hv1]; rfl, HB2.out⟩
          · go_wp2
            go_ret2
            exact ⟨by rw [sy_4 cty hv0 hv1]; rfl, HB2.out⟩
theorem shr_le (v : Nat) (k : Nat) : ((v : Int) / 2 ^ (8 * k)) % 256 = ((v / 256 ^ k % 256 : Nat) : Int) := by
  have h : (256 : Nat) ^ k = 2 ^ (8 * k) := by rw [Nat.pow_mul]
  rw [pow2_, h]
  omega
set_option maxHeartbeats 4000000 in
theorem memStoreRaw (p g : Nat) (b : List Int) (c : Nat) (op base off : Int) (v t n : Nat) (w : World) (ok : Nat → Prop) (hG : Globs w) (hop : -9223372036854775808 ≤ op ∧ op < 9223372036854775808) (hb : 0 ≤ base ∧ base < 18446744073709551616) (ho : 0 ≤ off ∧ off < 18446744073709551616) (hv : v < 18446744073709551616)
    (h : w.cell? ⟨p, 0, none⟩ = some (.slice (some ⟨g, 0, none⟩) b.length c)) (hlen : b.length ≤ 4294967295) (hc : b.length ≤ c)
    (hR : (Kd.int .u8).R 5 w 0 ok (.slice (some ⟨g, 0, none⟩) b.length c) b)
    (ty : Int) (sg : Bool) (hacc : acc op = (ty, (n : Int), sg, true)) (hn : 0 < n ∧ n ≤ 8) (he : base + off = (t : Int)) (hf : mFits b.length base off n = true) :
    Calls Tryd.prog 11 #[.pointer (some ⟨p, 0, none⟩), .int .i64 op, .int .u64 base, .int .u64 off, .int .u64 v] w fun e w' => e = .returned (.bool true) ∧
      (Kd.int .u8).R 5 w' 0 ok (.slice (some ⟨g, 0, none⟩) b.length c) (splice b t (le n v)) ∧ Fr w w' (fun x => x = g) := by
  have HG := Aside0.mk hG
  have HR := Aside0.mk hR
  clear hG hR
  obtain ⟨h1, h2, h3, h4⟩ := mFits_iff.1 hf
  go_enter Tryd.func11, Tryd.ntmps11
  go_wp2_with (first
    | (go_at_call 17; refine (instrAccess op _ HG.out hop).mono ?_; rintro e w1 ⟨rfl, hb1⟩; rw [hacc]; have HB := Aside0.mk hb1; have h' := pw_cell_below hb1 h; clear hb1)
    | (go_at_call 29; refine (memWin p g b.length c base off t n _ hlen hb ho h' hc he hn.1 hf).mono ?_; rintro e w' ⟨rfl, ⟨nd, rfl⟩⟩))
  go_loopw [41] (fun v41 wr => ∃ k : Nat, v41 = .int .i64 k ∧ k ≤ n ∧ Aside0 ((Kd.int .u8).R 5 wr 0 ok (.slice (some ⟨g, 0, none⟩) b.length c) (splice b t (le k v))) ∧ Aside0 (Fr w wr (fun x => x = g))) (fun v41 _ => n - (intOf v41).toNat)
  case atStart => exact ⟨0, rfl, Nat.zero_le _, ⟨by rw [show le 0 v = [] from rfl, splice_nil]; exact Kd.R_drewN (Kd.R_below HR.out HB.out) _⟩, ⟨(Fr.of_below HB.out).drewN _⟩⟩
  case round =>
    obtain ⟨k, rfl, hk, HRk, HF⟩ := hrel
    by_cases hlt : k < n
    · have d1 : decide ((k : Int) < (n : Int)) = true := decide_eq_true (by omega)
      have d2 : decide (k < n) = true := decide_eq_true hlt
      obtain ⟨hx, hfz⟩ := Kd.R_celln 0 HRk.out ((t + k : Nat) : Int) (by omega) (by omega)
      simp only [Int.toNat_natCast] at hx hfz
      have hp := Kd.R_putn HRk.out ((t + k : Nat) : Int) ((v : Int) / 2 ^ (8 * k) % 256)
      rw [Int.toNat_natCast, shr_le] at hp
      have hs := splice_snoc (b := b) (l := le k v) (a := t) ((v / 256 ^ k % 256 : Nat) : Int) (by rw [le_length]; omega)
      rw [le_length, ← le_snoc] at hs
      rw [hs] at hp
      have HP := Aside0.mk hp
      clear hp hs
      go_wp2
      refine ⟨⟨k + 1, rfl, by omega, ⟨by rw [shr_le]; exact HP.out⟩, ⟨HF.out.setCell (p := ⟨g, t + k, none⟩) (.inl rfl) _⟩⟩, by simp [intOf]; omega⟩
    · have d1 : decide ((k : Int) < (n : Int)) = false := decide_eq_false (by omega)
      have d2 : decide (k < n) = false := decide_eq_false hlt
      obtain rfl : k = n := by omega
      go_wp2
      go_ret
      exact ⟨rfl, HRk.out, HF.out⟩
def MO (p : Nat) (m : Mem) : As := ObR (Kd.int .u8) 5 63 p m.b [.int .i64 m.lo, .int .i64 m.hi, .bool m.has]
def Good (m : Mem) : Prop := Oct m.b ∧ m.b.length ≤ 4294967295
theorem acc_ok (op : Int) : 0 ≤ (acc op).2.1 ∧ (acc op).2.1 ≤ 8 ∧ ((acc op).2.2.1 = true → ((acc op).2.1 = 1 ∨ (acc op).2.1 = 2 ∨ (acc op).2.1 = 4) ∧ (acc op).2.2.2 = false) ∧ ((acc op).2.2.2 = true → 0 < (acc op).2.1) := by
  have h : ∀ r ∈ accT, 0 ≤ r.2.1 ∧ r.2.1 ≤ 8 ∧ (r.2.2.1 = true → (r.2.1 = 1 ∨ r.2.1 = 2 ∨ r.2.1 = 4) ∧ r.2.2.2 = false) ∧ (r.2.2.2 = true → 0 < r.2.1) := by decide
  unfold acc
  split
  · unfold accR
    rw [List.getD_eq_getElem?_getD]
    cases hx : accT[(op - 40).toNat]? with
    | none => simp
    | some r => exact h r (List.mem_of_getElem? hx)
  · simp
/-- What a load reads. -/
def mLoad (b : List Int) (op base off : Int) : Int × Bool :=
  if (acc op).2.2.2 = false ∧ (acc op).2.1 ≠ 0 ∧ mFits b.length base off (acc op).2.1 = true then (mVal (acc op).2.2.1 (acc op).1 (acc op).2.1.toNat (ev (seg b (base + off).toNat (acc op).2.1.toNat)), true) else (0, false)
/-- What a store writes; None: nothing. -/
def mStore (b : List Int) (op base off v : Int) : Option (List Int) :=
  if (acc op).2.2.2 = true ∧ mFits b.length base off (acc op).2.1 = true then some (splice b (base + off).toNat (le (acc op).2.1.toNat v.toNat)) else none
theorem MO.open_ {p : Nat} {m : Mem} {w : World} {F : Nat → Prop} (h : (MO p m).P w F) : ∃ A c, w.heap[p]? = some (.cells #[.slice A m.b.length c, .int .i64 m.lo, .int .i64 m.hi, .bool m.has] 63 (0, 0)) ∧ (Kd.int .u8).R 5 w 0 (fun k => F k ∧ k ≠ p) (.slice A m.b.length c) m.b ∧ m.b.length ≤ c ∧ F p ∧ ∀ k, F k → k < w.heap.size := by
  obtain ⟨v, hb, hR, hp, hl⟩ := h
  obtain ⟨A, c, rfl, hc, hC⟩ := Kd.R_reads hR
  exact ⟨A, c, hb, hR, hc, hp, hl⟩
theorem memLoadNo (p : Nat) (A : Option Addr) (n c : Nat) (op base off : Int) (w : World) (hG : Globs w) (hop : -9223372036854775808 ≤ op ∧ op < 9223372036854775808) (hb : 0 ≤ base ∧ base < 18446744073709551616) (ho : 0 ≤ off ∧ off < 18446744073709551616)
    (h : w.cell? ⟨p, 0, none⟩ = some (.slice A n c)) (hlen : n ≤ 4294967295) (hf : (acc op).2.1 = 0 ∨ mFits n base off (acc op).2.1 = false) :
    Calls Tryd.prog 12 #[.pointer (some ⟨p, 0, none⟩), .int .i64 op, .int .u64 base, .int .u64 off] w fun e w' => e = .returned (.tuple #[.int .u64 0, .bool false]) ∧ Below w.heap.size w w' := by
  have HG := Aside0.mk hG
  clear hG
  have hk := acc_ok op
  rcases ha : acc op with ⟨ty, k, sg, st⟩
  rw [ha] at hf hk
  cases st with
  | true =>
    go_enter Tryd.func12, Tryd.ntmps12
    go_wp2_with (first
      | (go_at_call 17; refine (instrAccess op _ HG.out hop).mono ?_; rintro e w1 ⟨rfl, hb1⟩; rw [ha]; have HB := Aside0.mk hb1; have h' := pw_cell_below hb1 h; clear hb1)
      | (go_at_call 29; refine (memWinNo p A n c base off k _ hlen hb ho (by have := hk.1; have := hk.2.1; omega) h' hf).mono ?_; rintro e w' ⟨rfl, ⟨nd, rfl⟩⟩))
    go_ret2
    exact ⟨rfl, HB.out.trans (by repeat (first | exact Below.refl _ _ | apply pw_below_drewN))⟩
  | false =>
    go_enter Tryd.func12, Tryd.ntmps12
    go_wp2_with (first
      | (go_at_call 17; refine (instrAccess op _ HG.out hop).mono ?_; rintro e w1 ⟨rfl, hb1⟩; rw [ha]; have HB := Aside0.mk hb1; have h' := pw_cell_below hb1 h; clear hb1)
      | (go_at_call 29; refine (memWinNo p A n c base off k _ hlen hb ho (by have := hk.1; have := hk.2.1; omega) h' hf).mono ?_; rintro e w' ⟨rfl, ⟨nd, rfl⟩⟩))
    go_ret2
    exact ⟨rfl, HB.out.trans (by repeat (first | exact Below.refl _ _ | apply pw_below_drewN))⟩
theorem memLoadSt (p g : Nat) (n c : Nat) (op base off : Int) (t k : Nat) (w : World) (hG : Globs w) (hop : -9223372036854775808 ≤ op ∧ op < 9223372036854775808) (hb : 0 ≤ base ∧ base < 18446744073709551616) (ho : 0 ≤ off ∧ off < 18446744073709551616)
    (h : w.cell? ⟨p, 0, none⟩ = some (.slice (some ⟨g, 0, none⟩) n c)) (hlen : n ≤ 4294967295) (hc : n ≤ c) (ty : Int) (sg : Bool) (ha : acc op = (ty, (k : Int), sg, true)) (hk : 0 < k) (he : base + off = (t : Int)) (hf : mFits n base off k = true) :
    Calls Tryd.prog 12 #[.pointer (some ⟨p, 0, none⟩), .int .i64 op, .int .u64 base, .int .u64 off] w fun e w' => e = .returned (.tuple #[.int .u64 0, .bool false]) ∧ Below w.heap.size w w' := by
  have HG := Aside0.mk hG
  clear hG
  go_enter Tryd.func12, Tryd.ntmps12
  go_wp2_with (first
    | (go_at_call 17; refine (instrAccess op _ HG.out hop).mono ?_; rintro e w1 ⟨rfl, hb1⟩; rw [ha]; have HB := Aside0.mk hb1; have h' := pw_cell_below hb1 h; clear hb1)
    | (go_at_call 29; refine (memWin p g n c base off t k _ hlen hb ho h' hc he hk hf).mono ?_; rintro e w' ⟨rfl, ⟨nd, rfl⟩⟩))
  go_ret2
  exact ⟨rfl, HB.out.trans (by repeat (first | exact Below.refl _ _ | apply pw_below_drewN))⟩
theorem memLoad {w0 w : World} {L : List As} {p : Nat} {m : Mem} (hS : SB w0 w (MO p m :: L)) (hG : Globs w) (hm : Good m) (op base off : Int) (hop : -9223372036854775808 ≤ op ∧ op < 9223372036854775808) (hb : 0 ≤ base ∧ base < 18446744073709551616) (ho : 0 ≤ off ∧ off < 18446744073709551616) :
    Calls Tryd.prog 12 #[.pointer (some ⟨p, 0, none⟩), .int .i64 op, .int .u64 base, .int .u64 off] w fun e w' => e = .returned (.tuple #[.int .u64 (mLoad m.b op base off).1, .bool (mLoad m.b op base off).2]) ∧ Below w.heap.size w w' := by
  obtain ⟨F, hF, _⟩ := hS.head
  obtain ⟨A, c, hblk, hR, hc, hp, hl⟩ := MO.open_ hF
  have h : w.cell? ⟨p, 0, none⟩ = some (.slice A m.b.length c) := (blk_cell hblk 0).trans rfl
  have hk := acc_ok op
  by_cases c1 : (acc op).2.1 = 0 ∨ mFits m.b.length base off (acc op).2.1 = false
  · have hr : mLoad m.b op base off = (0, false) := if_neg (fun hh => by rcases c1 with c1 | c1; exact hh.2.1 c1; rw [c1] at hh; exact absurd hh.2.2 (by decide))
    rw [hr]
    exact memLoadNo p A _ c op base off w hG hop hb ho h hm.2 c1
  · have c2 : (acc op).2.1 ≠ 0 := fun e => c1 (.inl e)
    have c3 : mFits m.b.length base off (acc op).2.1 = true := by cases hh : mFits m.b.length base off (acc op).2.1; exact absurd (.inr hh) c1; rfl
    obtain ⟨q1, q2, q3, q4⟩ := mFits_iff.1 c3
    obtain ⟨k, hk'⟩ : ∃ k : Nat, (acc op).2.1 = (k : Int) := ⟨(acc op).2.1.toNat, by omega⟩
    obtain ⟨t, ht⟩ : ∃ t : Nat, base + off = (t : Int) := ⟨(base + off).toNat, by omega⟩
    rw [hk'] at c3 q3 q4 c2
    have hpos : 0 < m.b.length := by omega
    obtain ⟨g, cap, hv, hg0, hg1, _⟩ := Kd.R_form hR hpos
    injection hv with hA _ hcap
    subst hA
    cases st : (acc op).2.2.2 with
    | true =>
      have hr : mLoad m.b op base off = (0, false) := if_neg (fun hh => by rw [st] at hh; exact absurd hh.1 (by decide))
      rw [hr]
      exact memLoadSt p g _ c op base off t k w hG hop hb ho h hm.2 hc (acc op).1 (acc op).2.2.1 (by rw [← hk', ← st]) (by omega) ht c3
    | false =>
      have hr : mLoad m.b op base off = (mVal (acc op).2.2.1 (acc op).1 k (ev (seg m.b t k)), true) := by
        unfold mLoad
        rw [if_pos ⟨st, by omega, by rw [hk']; exact c3⟩, hk', ht, Int.toNat_natCast, Int.toNat_natCast]
      rw [hr]
      exact memLoadRaw p g m.b c op base off t k w _ hG hop hb ho h hm.2 hc hR hm.1 (acc op).1 (acc op).2.2.1 (by rw [← hk', ← st]) (by omega) (fun hs => by have := (hk.2.2.1 hs).1; omega) ht c3
theorem memStoreNo (p : Nat) (A : Option Addr) (n c : Nat) (op base off v : Int) (w : World) (hG : Globs w) (hop : -9223372036854775808 ≤ op ∧ op < 9223372036854775808) (hb : 0 ≤ base ∧ base < 18446744073709551616) (ho : 0 ≤ off ∧ off < 18446744073709551616)
    (h : w.cell? ⟨p, 0, none⟩ = some (.slice A n c)) (hlen : n ≤ 4294967295) (hf : (acc op).2.1 = 0 ∨ mFits n base off (acc op).2.1 = false) :
    Calls Tryd.prog 11 #[.pointer (some ⟨p, 0, none⟩), .int .i64 op, .int .u64 base, .int .u64 off, .int .u64 v] w fun e w' => e = .returned (.bool false) ∧ Below w.heap.size w w' := by
  have HG := Aside0.mk hG
  clear hG
  have hk := acc_ok op
  rcases ha : acc op with ⟨ty, k, sg, st⟩
  rw [ha] at hf hk
  cases st with
  | true =>
    go_enter Tryd.func11, Tryd.ntmps11
    go_wp2_with (first
      | (go_at_call 17; refine (instrAccess op _ HG.out hop).mono ?_; rintro e w1 ⟨rfl, hb1⟩; rw [ha]; have HB := Aside0.mk hb1; have h' := pw_cell_below hb1 h; clear hb1)
      | (go_at_call 29; refine (memWinNo p A n c base off k _ hlen hb ho (by have := hk.1; have := hk.2.1; omega) h' hf).mono ?_; rintro e w' ⟨rfl, ⟨nd, rfl⟩⟩))
    go_ret
    exact ⟨rfl, HB.out.trans (by repeat (first | exact Below.refl _ _ | apply pw_below_drewN))⟩
  | false =>
    go_enter Tryd.func11, Tryd.ntmps11
    go_wp2_with (first
      | (go_at_call 17; refine (instrAccess op _ HG.out hop).mono ?_; rintro e w1 ⟨rfl, hb1⟩; rw [ha]; have HB := Aside0.mk hb1; have h' := pw_cell_below hb1 h; clear hb1)
      | (go_at_call 29; refine (memWinNo p A n c base off k _ hlen hb ho (by have := hk.1; have := hk.2.1; omega) h' hf).mono ?_; rintro e w' ⟨rfl, ⟨nd, rfl⟩⟩))
    go_ret
    exact ⟨rfl, HB.out.trans (by repeat (first | exact Below.refl _ _ | apply pw_below_drewN))⟩
theorem memStoreLd (p g : Nat) (n c : Nat) (op base off v : Int) (t k : Nat) (w : World) (hG : Globs w) (hop : -9223372036854775808 ≤ op ∧ op < 9223372036854775808) (hb : 0 ≤ base ∧ base < 18446744073709551616) (ho : 0 ≤ off ∧ off < 18446744073709551616)
    (h : w.cell? ⟨p, 0, none⟩ = some (.slice (some ⟨g, 0, none⟩) n c)) (hlen : n ≤ 4294967295) (hc : n ≤ c) (ty : Int) (sg : Bool) (ha : acc op = (ty, (k : Int), sg, false)) (hk : 0 < k) (he : base + off = (t : Int)) (hf : mFits n base off k = true) :
    Calls Tryd.prog 11 #[.pointer (some ⟨p, 0, none⟩), .int .i64 op, .int .u64 base, .int .u64 off, .int .u64 v] w fun e w' => e = .returned (.bool false) ∧ Below w.heap.size w w' := by
  have HG := Aside0.mk hG
  clear hG
  go_enter Tryd.func11, Tryd.ntmps11
  go_wp2_with (first
    | (go_at_call 17; refine (instrAccess op _ HG.out hop).mono ?_; rintro e w1 ⟨rfl, hb1⟩; rw [ha]; have HB := Aside0.mk hb1; have h' := pw_cell_below hb1 h; clear hb1)
    | (go_at_call 29; refine (memWin p g n c base off t k _ hlen hb ho h' hc he hk hf).mono ?_; rintro e w' ⟨rfl, ⟨nd, rfl⟩⟩))
  go_ret
  exact ⟨rfl, HB.out.trans (by repeat (first | exact Below.refl _ _ | apply pw_below_drewN))⟩
theorem MO.upd {w0 w w' : World} {L : List As} {p g : Nat} {m : Mem} {c n : Nat} {b : List Int} (hS : SB w0 w (MO p m :: L))
    (hu : ∀ ok : Nat → Prop, (Kd.int .u8).R 5 w 0 ok (.slice (some ⟨g, 0, none⟩) m.b.length c) m.b → (Kd.int .u8).R 5 w' 0 ok (.slice (some ⟨g, 0, none⟩) n c) b)
    (hb : w.heap[p]? = some (.cells #[.slice (some ⟨g, 0, none⟩) m.b.length c, .int .i64 m.lo, .int .i64 m.hi, .bool m.has] 63 (0, 0))) (hf : Fr w w' (fun x => x = g)) (hn : n = m.b.length) : SB w0 w' (MO p { m with b := b } :: L) := by
  subst hn
  refine hS.upd (fun F hF hge => ?_)
  obtain ⟨A, c', hb', hR, hc, hp, hl⟩ := MO.open_ hF
  rw [hb] at hb'
  simp only [Option.some.injEq, Obj.cells.injEq, Array.mk.injEq, List.cons.injEq, Value.slice.injEq] at hb'
  obtain ⟨⟨⟨rfl, _, rfl⟩, _⟩, _⟩ := hb'
  have hg := hR.1 g (by simp [Value.ownBlock])
  refine ⟨F, ⟨_, (hf.block p (blk_lt hb) (fun e => hg.2 e.symm)).trans hb, hu _ hR, hp, fun k hk => Nat.lt_of_lt_of_le (hl k hk) hf.size⟩, hf.mono (fun k hk => by rw [hk]; exact hg.1), fun k hk => .inl hk⟩
theorem memStore {w0 w : World} {L : List As} {p : Nat} {m : Mem} (hS : SB w0 w (MO p m :: L)) (hG : Globs w) (hm : Good m) (op base off v : Int) (hop : -9223372036854775808 ≤ op ∧ op < 9223372036854775808) (hb : 0 ≤ base ∧ base < 18446744073709551616) (ho : 0 ≤ off ∧ off < 18446744073709551616) (hv : 0 ≤ v ∧ v < 18446744073709551616) :
    Calls Tryd.prog 11 #[.pointer (some ⟨p, 0, none⟩), .int .i64 op, .int .u64 base, .int .u64 off, .int .u64 v] w fun e w' => e = .returned (.bool (mStore m.b op base off v).isSome) ∧ SB w0 w' (MO p { m with b := (mStore m.b op base off v).getD m.b } :: L) := by
  obtain ⟨F, hF, _⟩ := hS.head
  obtain ⟨A, c, hblk, hR, hc, hp, hl⟩ := MO.open_ hF
  have h : w.cell? ⟨p, 0, none⟩ = some (.slice A m.b.length c) := (blk_cell hblk 0).trans rfl
  have hk := acc_ok op
  by_cases c1 : (acc op).2.1 = 0 ∨ mFits m.b.length base off (acc op).2.1 = false
  · have hr : mStore m.b op base off v = none := if_neg (fun hh => by
      rcases c1 with c1 | c1
      · have := hk.2.2.2 hh.1; omega
      · rw [c1] at hh; exact absurd hh.2 (by decide))
    rw [hr]
    refine (memStoreNo p A _ c op base off v w hG hop hb ho h hm.2 c1).mono ?_
    rintro e w' ⟨rfl, hb⟩
    exact ⟨rfl, hS.below hb⟩
  · have c2 : (acc op).2.1 ≠ 0 := fun e => c1 (.inl e)
    have c3 : mFits m.b.length base off (acc op).2.1 = true := by cases hh : mFits m.b.length base off (acc op).2.1; exact absurd (.inr hh) c1; rfl
    obtain ⟨q1, q2, q3, q4⟩ := mFits_iff.1 c3
    obtain ⟨k, hk'⟩ : ∃ k : Nat, (acc op).2.1 = (k : Int) := ⟨(acc op).2.1.toNat, by omega⟩
    obtain ⟨t, ht⟩ : ∃ t : Nat, base + off = (t : Int) := ⟨(base + off).toNat, by omega⟩
    rw [hk'] at c3 q3 q4 c2
    have hpos : 0 < m.b.length := by omega
    obtain ⟨g, cap, hvv, hg0, hg1, _⟩ := Kd.R_form hR hpos
    injection hvv with hA _ hcap
    subst hA
    cases st : (acc op).2.2.2 with
    | false =>
      have hr : mStore m.b op base off v = none := if_neg (fun hh => by rw [st] at hh; exact absurd hh.1 (by decide))
      rw [hr]
      refine (memStoreLd p g _ c op base off v t k w hG hop hb ho h hm.2 hc (acc op).1 (acc op).2.2.1 (by rw [← hk', ← st]) (by omega) ht c3).mono ?_
      rintro e w' ⟨rfl, hb⟩
      exact ⟨rfl, hS.below hb⟩
    | true =>
      obtain ⟨vn, rfl⟩ := Int.eq_ofNat_of_zero_le hv.1
      have hr : mStore m.b op base off vn = some (splice m.b t (le k vn)) := by
        unfold mStore
        rw [if_pos ⟨st, by rw [hk']; exact c3⟩, hk', ht, Int.toNat_natCast, Int.toNat_natCast, Int.toNat_natCast]
      rw [hr]
      refine (memStoreRaw p g m.b c op base off vn t k w _ hG hop hb ho (by omega) h hm.2 hc hR (acc op).1 (acc op).2.2.1 (by rw [← hk', ← st]) (by omega) ht c3).mono ?_
      rintro e w' ⟨rfl, hR', hf⟩
      refine ⟨rfl, MO.upd hS (fun ok hok => ?_) hblk hf rfl⟩
      exact Kd.R_reok rfl hR' (fun k_ e_ => hok.1 k_ e_)
section
variable {P : Program} {ops : Array Oper} {rest : List Oper} {o : Oper} {a : Act} {Q : Exit → Act → World → Prop} {W : World}
/-- copy(v[t:], ys), v a row of bytes of one's own. -/
theorem copy_tail (hgd : o.guard = none) (s x : Operand) (ty ty' : TypeId) (ho : o.op = .call { callee := .builtin .copy, args := #[s, x], argTypes := #[ty, ty'] }) (ht : P.underlying ty = some (.slice 5)) (hinfo : (P.info? 5).map (·.size) = some 1)
    (g c t m cc cs : Nat) (b ys : List Int) (A : Option Addr) (ok : Nat → Prop) (hs : a.eval s = .slice (some ⟨g, t, none⟩) m cc) (hx : a.eval x = .slice A ys.length cs)
    (HO : (Kd.int .u8).R 5 W 0 ok (.slice (some ⟨g, 0, none⟩) b.length c) b) (HC : (Kd.int .u8).C W A ys.length ys) (hfit : t + ys.length ≤ b.length) (hmin : ys.length ≤ m)
    (h : ∀ w1, (Kd.int .u8).R 5 w1 0 ok (.slice (some ⟨g, 0, none⟩) b.length c) (splice b t ys) → Fr W w1 (fun k => k = g) → wpList P ops Q rest (a.put o.dst (.int .i64 (ys.length : Int))) w1) :
    wpList P ops Q (o :: rest) a W := by
  have hR := Kd.reads_of_C (enc := Value.int .u8) (d := 0) (h1 := fun _ => rfl) HC
  have hown := Kd.own_of_R HO
  have fin : ∀ w1, (Builtin.copy_ #[ty, ty'] o.type #[.slice (some ⟨g, t, none⟩) m cc, .slice A ys.length cs]).run P W = .ok (goInt (ys.length : Int)) w1 → (Kd.int .u8).R 5 w1 0 ok (.slice (some ⟨g, 0, none⟩) b.length c) (splice b t ys) → Fr W w1 (fun k => k = g) → wpList P ops Q (o :: rest) a W := by
    intro w1 hr hrow hg
    refine wpList_plain hgd fun K hK => ?_
    unfold Oper.wp execOp
    simp only [ho, resolve, invoke, builtin, Sem.run_bind, Sem.run_pure, Result.andThen_ok, List.map_toArray, List.map_cons, List.map_nil, hs, hx, hr]
    exact hK _ _ (h w1 hrow hg)
  have hmn : Nat.min ys.length m = ys.length := Nat.min_eq_left hmin
  rcases Nat.eq_zero_or_pos ys.length with h0 | hp
  · have hys : ys = [] := List.length_eq_zero_iff.1 h0
    subst hys
    refine fin W ?_ (by rw [splice_nil]; exact HO) (Fr.refl _ _)
    exact run_copy_none W ty ty' o.type 5 _ A m cc 0 cs ht hinfo (by simp)
  · obtain ⟨ad, hA, hc⟩ := hR.2.2 (by omega)
    subst hA
    rcases hown.2 with ⟨hbad, _⟩ | ⟨g', cap, cur, hv, hb, hh, hnc, hcm, hcs, htake⟩
    · cases hbad
    injection hv with hv1 _ hv3
    injection hv1 with hv1
    injection hv1 with hv1
    subst hv1
    subst hv3
    have hcs1 : cur.size = c := by omega
    have hkl : (encs (Value.int .u8) ys).length = ys.length := encs_length _
    have hsrc : ∀ j u, (encs (Value.int .u8) ys)[j]? = some u → W.cell? (ad.add j) = some u := by
      intro j u hu
      have hj : j < ys.length := by
        rcases Nat.lt_or_ge j ys.length with h | h
        · exact h
        · rw [List.getElem?_eq_none (by rw [encs_length]; exact h)] at hu
          cases hu
      rw [encs_get (d := (0 : Int)) _ j hj] at hu
      rw [hc j hj, ← hu]
    have hr := run_copy_cells (P := P) W ty ty' o.type 5 g t m cc ad ys.length cs (encs (Value.int .u8) ys) ht hinfo (by rw [hkl, hmn]) hsrc
      (fun j hj => by rw [cell_of_row W g _ cur 5 (0, 0) hh]; simp; omega) (fun j _ => blk_frozen hh _) (by intro u hu; simp only [encs, List.mem_map] at hu; obtain ⟨q, _, rfl⟩ := hu; rfl)
    obtain ⟨cur', h3, h4, h5⟩ := setCells_row (encs (Value.int .u8) ys) t W cur hh (by rw [hkl]; omega)
    obtain ⟨s1, s2, s3, s4⟩ := setCells_same g (encs (Value.int .u8) ys) t W
    refine fin _ (by rw [hr, hkl]) (Kd.R_of_own ?_ HO.1) ⟨s1, s2, s3, by rw [s4]; exact Nat.le_refl _, fun k _ hk => setCells_far _ _ k (fun he => hk he)⟩
    rw [splice_length hfit]
    refine ⟨by rw [encs_length, splice_length hfit, Nat.mul_one], .inr ⟨g, c, cur', rfl, hb, h3, hnc, hcm, by rw [h4, hcs], ?_⟩⟩
    have htk : cur.toList.take b.length = encs (Value.int .u8) b := by rw [← htake, Nat.mul_one]
    rw [h5, hkl, Nat.mul_one]
    unfold splice
    rw [encs_append, encs_append]
    have e1 : encs (Value.int .u8) (b.take t) = (encs (Value.int .u8) b).take t := by simp [encs, List.map_take]
    have e2 : encs (Value.int .u8) (b.drop (t + ys.length)) = (encs (Value.int .u8) b).drop (t + ys.length) := by simp [encs, List.map_drop]
    rw [e1, e2, ← htk, List.take_take, Nat.min_eq_left (by omega), List.drop_take]
    have l1 : (cur.toList.take t).length = t := by rw [List.length_take, Array.length_toList]; omega
    rw [List.take_append, List.take_of_length_le (by rw [List.length_append, l1, hkl]; omega), List.length_append, l1, hkl]
end
/-- What is laid; None: it has no room. -/
def mLay (b : List Int) (at_ : Int) (l : List Int) : Option (List Int) := if 0 ≤ at_ ∧ at_ ≤ b.length ∧ (l.length : Int) ≤ b.length - at_ then some (splice b at_.toNat l) else none
theorem size5 : (Tryd.prog.info? 5).map (·.size) = some 1 := by kernel_rfl
set_option maxHeartbeats 4000000 in
theorem memLay {w0 w : World} {L : List As} {p : Nat} {m : Mem} (hS : SB w0 w (MO p m :: L)) (hm : Good m) (at_ : Int) (l : List Int) (Ab : Option Addr) (cb : Nat) (ha : -9223372036854775808 ≤ at_ ∧ at_ < 9223372036854775808) (hC : Kd.C (Kd.int .u8) w Ab l.length l) (hl : (l.length : Int) ≤ 9223372036854775807) :
    Calls Tryd.prog 15 #[.pointer (some ⟨p, 0, none⟩), .int .i64 at_, .slice Ab l.length cb] w fun e w' => e = .returned (.bool (mLay m.b at_ l).isSome) ∧ SB w0 w' (MO p { m with b := (mLay m.b at_ l).getD m.b } :: L) := by
  obtain ⟨F, hF, _⟩ := hS.head
  obtain ⟨A, c, hblk, hR, hc, hp, hlt⟩ := MO.open_ hF
  have h : w.cell? ⟨p, 0, none⟩ = some (.slice A m.b.length c) := (blk_cell hblk 0).trans rfl
  have hlen := hm.2
  have HS := Aside0.mk hS
  have HBK := Aside0.mk hblk
  have HR := Aside0.mk hR
  have HC := Aside0.mk hC
  clear hS hblk hR hC hF
  by_cases c1 : at_ < 0
  · have d1 : decide (at_ < 0) = true := decide_eq_true c1
    have hr : mLay m.b at_ l = none := if_neg (by omega)
    rw [hr]
    go_enter Tryd.func15, Tryd.ntmps15
    go_wp2_with (go_at_call 31; refine (memAll p A _ c _ h).mono ?_; rintro e w' ⟨rfl, ⟨nd, rfl⟩⟩)
    go_ret
    exact ⟨rfl, HS.out.drewN _⟩
  · have d1 : decide (at_ < 0) = false := decide_eq_false c1
    obtain ⟨t, rfl⟩ := Int.eq_ofNat_of_zero_le (show 0 ≤ at_ by omega)
    by_cases c2 : (m.b.length : Int) < (t : Int)
    · have d2 : decide ((m.b.length : Int) < (t : Int)) = true := decide_eq_true c2
      have d2' : decide (m.b.length < t) = true := decide_eq_true (by omega)
      have hr : mLay m.b t l = none := if_neg (by omega)
      rw [hr]
      go_enter Tryd.func15, Tryd.ntmps15
      go_wp2_with (go_at_call 31; refine (memAll p A _ c _ h).mono ?_; rintro e w' ⟨rfl, ⟨nd, rfl⟩⟩)
      go_ret
      exact ⟨rfl, HS.out.drewN _⟩
    · have d2 : decide ((m.b.length : Int) < (t : Int)) = false := decide_eq_false c2
      have d2' : decide (m.b.length < t) = false := decide_eq_false (by omega)
      by_cases c3 : (m.b.length : Int) - (t : Int) < (l.length : Int)
      · have d3 : decide ((m.b.length : Int) - (t : Int) < (l.length : Int)) = true := decide_eq_true c3
        have hr : mLay m.b t l = none := if_neg (by omega)
        rw [hr]
        go_enter Tryd.func15, Tryd.ntmps15
        go_wp2_with (go_at_call 31; refine (memAll p A _ c _ h).mono ?_; rintro e w' ⟨rfl, ⟨nd, rfl⟩⟩)
        go_ret
        exact ⟨rfl, HS.out.drewN _⟩
      · have d3 : decide ((m.b.length : Int) - (t : Int) < (l.length : Int)) = false := decide_eq_false c3
        have hr : mLay m.b t l = some (splice m.b t l) := by unfold mLay; rw [if_pos (by omega), Int.toNat_natCast]
        rw [hr]
        have b1 : (0 : Int) ≤ (t : Int) := by omega
        have b2 : (t : Int) ≤ (m.b.length : Int) := by omega
        have hcut : ∃ A', (∀ W : World, (Instr.slice 39 (.slice A m.b.length c) (some (.int .i64 (t : Int))) none none).run Tryd.prog W = .ok (.slice A' (m.b.length - t) (c - t)) W) ∧ (∀ g, A = some ⟨g, 0, none⟩ → t < c → A' = some ⟨g, t, none⟩) := by
          have hel : Tryd.prog.elem 39 = 5 := by simp [Program.elem, Tryd.underlying39]
          have hu : Tryd.prog.underlying 39 = some (.slice (Tryd.prog.elem 39)) := by rw [hel]; exact Tryd.underlying39
          have hi : (Tryd.prog.info? 5).map (fun i => (i.zero, i.size, i.bytes)) = some (some (.int .u8 0), 1, 1) := by kernel_rfl
          obtain ⟨i0, hi0, hz0, hz1, hz2⟩ := info_parts hi
          refine ⟨if c = t then A else A.map (·.add t), fun W => ?_, fun g hg htc => by rw [if_neg (by omega), hg]; simp [add_blk]⟩
          rw [run_slice_l W 39 A m.b.length c hu .i64 (t : Int) b1 b2, hel]
          simp [sizeOf, typeInfo, hi0, hz1, sliced, Result.andThen]
        obtain ⟨A', hcut, hA'⟩ := hcut
        by_cases c4 : l = []
        · subst c4
          have hcopy : ∀ W : World, (Builtin.copy_ #[39, 39] 3 #[.slice A' (m.b.length - t) (c - t), .slice Ab 0 cb]).run Tryd.prog W = .ok (goInt 0) W := fun W => run_copy_none W 39 39 3 5 A' Ab (m.b.length - t) (c - t) 0 cb Tryd.underlying39 size5 (by simp)
          go_enter Tryd.func15, Tryd.ntmps15
          go_wp2_with (go_at_call 31; refine (memAll p A _ c _ h).mono ?_; rintro e w' ⟨rfl, ⟨nd, rfl⟩⟩)
          go_ret
          rw [splice_nil]
          exact ⟨rfl, HS.out.drewN _⟩
        · have hpos : 0 < l.length := List.length_pos_iff.2 c4
          obtain ⟨g, cap, hvv, hg0, hg1, _⟩ := Kd.R_form HR.out (by omega)
          injection hvv with hA _ hcap
          subst hA
          subst hcap
          have hA2 := hA' g rfl (by omega)
          subst hA2
          go_enter Tryd.func15, Tryd.ntmps15
          go_wp2_with (first
            | (go_at_call 31; refine (memAll p (some ⟨g, 0, none⟩) _ c _ h).mono ?_; rintro e w' ⟨rfl, ⟨nd, rfl⟩⟩)
            | ((with_reducible refine gate_builtin (b := .copy) (xs := #[.tmp 29, .tmp 30]) rfl ?_); refine copy_tail rfl (.tmp 29) (.tmp 30) 39 39 rfl Tryd.underlying39 size5 _ _ _ _ _ _ m.b l _ _ rfl rfl (Kd.R_drewN HR.out _) (Kd.C_drewN HC.out _) (by omega) (by omega) ?_; intro w2 hR2 hF2; have HR2 := Aside0.mk hR2; have HF2 := Aside0.mk hF2; clear hR2 hF2))
          go_ret
          refine ⟨rfl, MO.upd (w := w.drewN _) (HS.out.drewN _) (fun ok hok => ?_) HBK.out HF2.out rfl⟩
          exact Kd.R_reok rfl HR2.out (fun k_ e_ => hok.1 k_ e_)
theorem cut_mid (A : Option Addr) (c : Nat) (b : List Int) (t n : Nat) (h : t + n ≤ b.length) (hc : b.length ≤ c) :
    ∃ (A' : Option Addr) (c' : Nat), (∀ W : World, (Instr.slice 39 (.slice A b.length c) (some (.int .i64 (t : Int))) (some (.int .i64 ((t : Int) + (n : Int)))) none).run Tryd.prog W = .ok (.slice A' n c') W) ∧ (∀ w : World, Kd.C (Kd.int .u8) w A b.length b → Kd.C (Kd.int .u8) w A' (seg b t n).length (seg b t n)) ∧ n ≤ c' := by
  obtain ⟨i0, hi0, _, hsz, _⟩ := info_parts (show (Tryd.prog.info? 5).map (fun i => (i.zero, i.size, i.bytes)) = some (some (.int .u8 0), 1, 1) by kernel_rfl)
  have hl := seg_length h
  have hs : (b.take (t + n)).drop t = seg b t n := by unfold seg; rw [List.drop_take]; congr 1; omega
  obtain ⟨A', h1, h2, h3⟩ := print_mid_of (P := Tryd.prog) (Value.int .u8) 0 39 5 .i64 .i64 Tryd.underlying39 hi0 hsz A c b (t : Int) ((t : Int) + (n : Int)) (by omega) (by omega) (by omega) hc
  have e1 : ((t : Int) + (n : Int)).toNat = t + n := by omega
  rw [e1, Int.toNat_natCast, hs, hl] at h1 h3
  refine ⟨A', c - t, h1, fun w hC => ?_, h3⟩
  have h4 := h2 w (Kd.reads_of_C hC)
  rw [e1, Int.toNat_natCast, hs] at h4
  exact Kd.C_of_reads (h1 := fun _ => rfl) h4
/-- Bytes that are told. -/
def mBytes (b : List Int) (at_ n : Int) : List Int := if 0 ≤ at_ ∧ 0 ≤ n ∧ at_ ≤ b.length ∧ n ≤ b.length - at_ then seg b at_.toNat n.toNat else []
set_option maxHeartbeats 4000000 in
theorem memBytes {w0 w : World} {L : List As} {p : Nat} {m : Mem} (hS : SB w0 w (MO p m :: L)) (hm : Good m) (at_ n : Int) (ha : -9223372036854775808 ≤ at_ ∧ at_ < 9223372036854775808) (hn : -9223372036854775808 ≤ n ∧ n < 9223372036854775808) :
    Calls Tryd.prog 16 #[.pointer (some ⟨p, 0, none⟩), .int .i64 at_, .int .i64 n] w fun e w' => ∃ v, e = .returned v ∧ SB w0 w' (Row (Kd.int .u8) 5 v (mBytes m.b at_ n) :: MO p m :: L) := by
  obtain ⟨F, hF, _⟩ := hS.head
  obtain ⟨A, c, hblk, hR, hc, hp, hlt⟩ := MO.open_ hF
  have h : w.cell? ⟨p, 0, none⟩ = some (.slice A m.b.length c) := (blk_cell hblk 0).trans rfl
  have hlen := hm.2
  have HC := Aside0.mk (Kd.R_reads' hR).2.2
  have HS := Aside0.mk hS
  clear hS hblk hR hF
  have no : ∀ nd, mBytes m.b at_ n = [] → SB w0 (w.drewN nd) (Row (Kd.int .u8) 5 (.slice none 0 0) (mBytes m.b at_ n) :: MO p m :: L) := fun nd he => by
    rw [he]
    exact (HS.out.drewN nd).row (Below.refl _ _) (Kd.R_nil _ _ _ _ (fun _ => True))
  by_cases c1 : at_ < 0
  · have d1 : decide (at_ < 0) = true := decide_eq_true c1
    have hr : mBytes m.b at_ n = [] := if_neg (by omega)
    have NO := Aside0.mk no
    clear no
    go_enter Tryd.func16, Tryd.ntmps16
    go_wp2_with (go_at_call 31; refine (memAll p A _ c _ h).mono ?_; rintro e w' ⟨rfl, ⟨nd, rfl⟩⟩)
    go_ret
    exact ⟨_, rfl, NO.out _ hr⟩
  · have d1 : decide (at_ < 0) = false := decide_eq_false c1
    by_cases c0 : n < 0
    · have d0 : decide (n < 0) = true := decide_eq_true c0
      have hr : mBytes m.b at_ n = [] := if_neg (by omega)
      have NO := Aside0.mk no
      clear no
      go_enter Tryd.func16, Tryd.ntmps16
      go_wp2_with (go_at_call 31; refine (memAll p A _ c _ h).mono ?_; rintro e w' ⟨rfl, ⟨nd, rfl⟩⟩)
      go_ret
      exact ⟨_, rfl, NO.out _ hr⟩
    · have d0 : decide (n < 0) = false := decide_eq_false c0
      obtain ⟨t, rfl⟩ := Int.eq_ofNat_of_zero_le (show 0 ≤ at_ by omega)
      obtain ⟨k, rfl⟩ := Int.eq_ofNat_of_zero_le (show 0 ≤ n by omega)
      by_cases c2 : (m.b.length : Int) < (t : Int)
      · have d2 : decide ((m.b.length : Int) < (t : Int)) = true := decide_eq_true c2
        have d2' : decide (m.b.length < t) = true := decide_eq_true (by omega)
        have hr : mBytes m.b t k = [] := if_neg (by omega)
        have NO := Aside0.mk no
        clear no
        go_enter Tryd.func16, Tryd.ntmps16
        go_wp2_with (go_at_call 31; refine (memAll p A _ c _ h).mono ?_; rintro e w' ⟨rfl, ⟨nd, rfl⟩⟩)
        go_ret
        exact ⟨_, rfl, NO.out _ hr⟩
      · have d2 : decide ((m.b.length : Int) < (t : Int)) = false := decide_eq_false c2
        have d2' : decide (m.b.length < t) = false := decide_eq_false (by omega)
        by_cases c3 : (m.b.length : Int) - (t : Int) < (k : Int)
        · have d3 : decide ((m.b.length : Int) - (t : Int) < (k : Int)) = true := decide_eq_true c3
          have hr : mBytes m.b t k = [] := if_neg (by omega)
          have NO := Aside0.mk no
          clear no
          go_enter Tryd.func16, Tryd.ntmps16
          go_wp2_with (go_at_call 31; refine (memAll p A _ c _ h).mono ?_; rintro e w' ⟨rfl, ⟨nd, rfl⟩⟩)
          go_ret
          exact ⟨_, rfl, NO.out _ hr⟩
        · have d3 : decide ((m.b.length : Int) - (t : Int) < (k : Int)) = false := decide_eq_false c3
          have hr : mBytes m.b t k = seg m.b t k := by unfold mBytes; rw [if_pos (by omega), Int.toNat_natCast, Int.toNat_natCast]
          have hsl := seg_length (b := m.b) (a := t) (n := k) (by omega)
          obtain ⟨A', c', hcut, hC', hc'⟩ := cut_mid A c m.b t k (by omega) hc
          have hcl := fun (W : World) (hW : Kd.C (Kd.int .u8) W A' (seg m.b t k).length (seg m.b t k)) => bytes_Clone.calls A' c' (seg m.b t k) (seg m.b t k) W hW (by rw [hsl]; exact hc') (by unfold bytes_Clone.f; rw [if_pos (by rw [hsl]; omega)])
          rw [hsl] at hcl
          have hC2 : ∀ W, Kd.C (Kd.int .u8) W A m.b.length m.b → Kd.C (Kd.int .u8) W A' k (seg m.b t k) := fun W hW => by have := hC' W hW; rw [hsl] at this; exact this
          have HC2 := Aside0.mk hC2
          have HCL := Aside0.mk hcl
          have HSL := Aside0.mk hsl
          clear hcl hC' hC2 hsl no
          go_enter Tryd.func16, Tryd.ntmps16
          go_wp2_with (first
            | (go_at_call 31; refine (memAll p A _ c _ h).mono ?_; rintro e w' ⟨rfl, ⟨nd, rfl⟩⟩)
            | (go_at_call 32; refine (HCL.out _ (HC2.out _ (Kd.C_drewN HC.out _))).mono ?_; rintro e w' ⟨v, rfl, ho, hb⟩; have HN := Aside0.mk ho; have HB := Aside0.mk hb; clear ho hb))
          go_ret
          rw [hr]
          exact ⟨_, rfl, (HS.out.drewN _).row HB.out HN.out⟩
/-- The sum of all bytes. -/
def mSum (b : List Int) : Int := b.foldl (fun s c => (IntKind.u64.wrap (bits .xor .u64 s c * 1099511628211))) 14695981039346656037
theorem foldl_take_succ {f : Int → Int → Int} {a : Int} {l : List Int} {k : Nat} (h : k < l.length) : (l.take (k + 1)).foldl f a = f ((l.take k).foldl f a) l[k] := by
  rw [List.take_succ_eq_append_getElem h, List.foldl_append]; rfl
theorem rdOf_get {l : List Int} {k : Nat} (h : k < l.length) : rdOf 0 l (k : Int) = l[k] := by
  unfold rdOf
  rw [Int.toNat_natCast, List.getD_eq_getElem?_getD, List.getElem?_eq_getElem h]; rfl
set_option maxHeartbeats 4000000 in
theorem memSum {w0 w : World} {L : List As} {p : Nat} {m : Mem} (hS : SB w0 w (MO p m :: L)) (hm : Good m) :
    Calls Tryd.prog 18 #[.pointer (some ⟨p, 0, none⟩)] w fun e w' => e = .returned (.int .u64 (mSum m.b)) ∧ Drawn0 w w' := by
  obtain ⟨F, hF, _⟩ := hS.head
  obtain ⟨A, c, hblk, hR, hc, hp, hlt⟩ := MO.open_ hF
  have h : w.cell? ⟨p, 0, none⟩ = some (.slice A m.b.length c) := (blk_cell hblk 0).trans rfl
  have hlen := hm.2
  have HR := Aside0.mk hR
  have HO := Aside0.mk hm.1
  clear hS hblk hR hF hm
  go_enter Tryd.func18, Tryd.ntmps18
  go_wp2_with (go_at_call 31; refine (memAll p A _ c _ h).mono ?_; rintro e w' ⟨rfl, ⟨nd, rfl⟩⟩)
  go_loopw [3, 9] (fun v3 v9 wr => ∃ k : Nat, v9 = .int .i64 k ∧ v3 = .int .u64 (mSum (m.b.take k)) ∧ k ≤ m.b.length ∧ wr = w.drewN nd) (fun _ v9 _ => m.b.length - (intOf v9).toNat)
  case atStart => exact ⟨0, rfl, rfl, Nat.zero_le _, rfl⟩
  case round =>
    obtain ⟨k, rfl, rfl, hk, rfl⟩ := hrel
    by_cases hlt : k < m.b.length
    · have d1 : decide ((k : Int) < (m.b.length : Int)) = true := decide_eq_true (by omega)
      have d2 : decide (k < m.b.length) = true := decide_eq_true hlt
      obtain ⟨g, cap, hv, _, _, _⟩ := Kd.R_form HR.out (by omega)
      injection hv with hA _ hcap
      subst hA
      have hx := (Kd.R_celln 0 HR.out (k : Int) (by omega) (by omega)).1
      simp only [Int.toNat_natCast] at hx
      rw [rdOf_get hlt] at hx
      have hs : mSum (m.b.take (k + 1)) = IntKind.u64.wrap (bits .xor .u64 (mSum (m.b.take k)) m.b[k] * 1099511628211) := foldl_take_succ hlt
      have hw : IntKind.u64.wrap m.b[k] = m.b[k] := by
        obtain ⟨q0, q1⟩ := HO.out _ (List.getElem_mem hlt)
        rw [wrap_u64_]; omega
      go_wp2
      exact ⟨⟨k + 1, rfl, by first | rfl | rw [hs], by omega, by first | rfl | trivial⟩, by simp [intOf]; omega⟩
    · have d1 : decide ((k : Int) < (m.b.length : Int)) = false := decide_eq_false (by omega)
      have d2 : decide (k < m.b.length) = false := decide_eq_false hlt
      go_wp2
      go_ret
      exact ⟨by rw [List.take_of_length_le (by omega)]; rfl, _, rfl⟩
theorem memPagesS {w0 w : World} {L : List As} {p : Nat} {m : Mem} (hS : SB w0 w (MO p m :: L)) (hm : Good m) :
    Calls Tryd.prog 19 #[.pointer (some ⟨p, 0, none⟩)] w fun e w' => e = .returned (.int .i64 ((m.b.length : Int) / 65536)) ∧ Drawn0 w w' := by
  obtain ⟨F, hF, _⟩ := hS.head
  obtain ⟨A, c, hblk, hR, hc, hp, hlt⟩ := MO.open_ hF
  exact memPages p A m.b.length c w (by have := hm.2; omega) ((blk_cell hblk 0).trans rfl)
theorem memFitsS {w0 w : World} {L : List As} {p : Nat} {m : Mem} (hS : SB w0 w (MO p m :: L)) (hm : Good m) (base off k : Int) (hb : 0 ≤ base ∧ base < 18446744073709551616) (ho : 0 ≤ off ∧ off < 18446744073709551616) (hk : -9223372036854775808 ≤ k ∧ k < 9223372036854775808) :
    Calls Tryd.prog 21 #[.pointer (some ⟨p, 0, none⟩), .int .u64 base, .int .u64 off, .int .i64 k] w fun e w' => e = .returned (.bool (mFits m.b.length base off k)) ∧ Drawn0 w w' := by
  obtain ⟨F, hF, _⟩ := hS.head
  obtain ⟨A, c, hblk, hR, hc, hp, hlt⟩ := MO.open_ hF
  exact memFits p A m.b.length c base off k w hm.2 hb ho hk ((blk_cell hblk 0).trans rfl)
theorem make_run (n : Nat) (hn : n ≤ 281474976710656) (W : World) : (Instr.makeSlice 39 (.int .i64 (n : Int)) (.int .i64 (n : Int))).run Tryd.prog W = .ok (.slice (some ⟨W.heap.size, 0, none⟩) n n) (W.alloc (.cells (madeCells #[.int .u8 0] n) 5)) := by
  obtain ⟨i0, hi0, hz, hsz, hby⟩ := info_parts (show (Tryd.prog.info? 5).map (fun i => (i.zero, i.size, i.bytes)) = some (some (.int .u8 0), 1, 1) by kernel_rfl)
  have hr := run_make (P := Tryd.prog) W 39 5 i0 (.int .u8 0) Tryd.underlying39 hi0 hz .i64 .i64 (n : Int) (n : Int) (by omega) (by omega) (by rw [hby]; omega) (by omega)
  rw [hr, hsz, Nat.mul_one, Int.toNat_natCast]
  rfl
theorem made_list (n : Nat) : (madeCells #[.int .u8 0] n).toList = encs (Value.int .u8) (List.replicate n 0) := by
  apply List.ext_getElem
  · simp [madeCells, encs]
  · intro i h1 h2
    simp [madeCells, encs, Nat.mod_one]
theorem made_R {w1 : World} {g n : Nat} {base : Nat} (h : w1.heap[g]? = some (.cells (madeCells #[.int .u8 0] n) 5 (0, 0))) (hb : base ≤ g) (hn : n ≤ 281474976710656) {ok : Nat → Prop} (hok : ok g) : (Kd.int .u8).R 5 w1 base ok (.slice (some ⟨g, 0, none⟩) n n) (List.replicate n 0) := by
  refine Kd.R_of_own (h1 := fun _ => rfl) ?_ (fun k hk => by simp [Value.ownBlock] at hk; rw [← hk]; exact hok)
  rw [List.length_replicate]
  refine ⟨by rw [encs_length, List.length_replicate, Nat.mul_one], .inr ⟨g, n, _, rfl, hb, h, Nat.le_refl _, by unfold maxLen; omega, by simp [madeCells], ?_⟩⟩
  rw [made_list, List.take_of_length_le (by rw [encs_length, List.length_replicate]; omega)]
theorem MO.new {w0 w W : World} {L : List As} (hS : SB w0 w L) (hb : Below w.heap.size w W) (p g n : Nat) (lo hi : Int) (has : Bool) (hp : W.heap[p]? = some (.cells #[.slice (some ⟨g, 0, none⟩) n n, .int .i64 lo, .int .i64 hi, .bool has] 63 (0, 0)))
    (hg : W.heap[g]? = some (.cells (madeCells #[.int .u8 0] n) 5 (0, 0))) (h1 : w.heap.size ≤ p) (h2 : w.heap.size ≤ g) (hn : n ≤ 281474976710656) : SB w0 W (MO p ⟨List.replicate n 0, lo, hi, has⟩ :: L) := by
  have hne : g ≠ p := fun e => by subst e; rw [hp] at hg; injection hg with hg; injection hg with _ hg; exact absurd hg (by decide)
  refine hS.new hb (A := MO p ⟨List.replicate n 0, lo, hi, has⟩) (F' := fun k => k = p ∨ k = g) ⟨_, hp, made_R hg (Nat.zero_le _) hn ⟨.inr rfl, hne⟩, .inl rfl, ?_⟩ ?_
  · rintro k (rfl | rfl)
    · exact blk_lt hp
    · exact blk_lt hg
  · rintro k (rfl | rfl)
    · exact h1
    · exact h2
theorem below4 (w : World) (a b c d : Obj) : Below w.heap.size w ((((w.alloc a).alloc b).alloc c).alloc d) := below_alloc (below_alloc (below_alloc (below_alloc (Below.refl _ _) _) _) _) _
theorem heap43 (w : World) (a b c d : Obj) : ((((w.alloc a).alloc b).alloc c).alloc d).heap[w.heap.size + 1 + 1 + 1]? = some d := by
  have := heap_alloc_new (((w.alloc a).alloc b).alloc c) d
  simpa using this
theorem heap42 (w : World) (a b c d : Obj) : ((((w.alloc a).alloc b).alloc c).alloc d).heap[w.heap.size + 1 + 1]? = some c := by
  rw [Below.heap_alloc _ _ _ (by simp)]
  have := heap_alloc_new ((w.alloc a).alloc b) c
  simpa using this
/-- Why there is no such memory; 0: there is one. -/
def mBad (lo hi : Int) (has : Bool) : Int := if lo < 0 ∨ (has = true ∧ (hi < lo ∨ 65536 < hi)) ∨ (has = false ∧ hi ≠ 0) then 1 else if 4 < lo then 4 else 0
set_option maxHeartbeats 4000000 in
theorem memNewOk {w0 w : World} {L : List As} (hS : SB w0 w L) (lo : Nat) (hi : Int) (has : Bool) (h : mBad lo hi has = 0) :
    Calls Tryd.prog 10 #[.agg #[.int .i64 lo, .int .i64 hi, .bool has]] w fun e w' => ∃ p, e = .returned (.tuple #[.pointer (some ⟨p, 0, none⟩), .int .i64 0]) ∧ SB w0 w' (MO p ⟨List.replicate (65536 * lo) 0, lo, hi, has⟩ :: L) := by
  have hlo : (lo : Int) ≤ 4 := by
    unfold mBad at h
    split at h
    · cases h
    · split at h
      · cases h
      · omega
  have hbad : ¬ ((lo : Int) < 0 ∨ (has = true ∧ (hi < lo ∨ 65536 < hi)) ∨ (has = false ∧ hi ≠ 0)) := by
    intro hh
    unfold mBad at h
    rw [if_pos hh] at h
    cases h
  have d0 : decide ((lo : Int) < 0) = false := decide_eq_false (by omega)
  have d4 : decide (4 < (lo : Int)) = false := decide_eq_false (by omega)
  have HS := Aside0.mk hS
  clear hS
  cases has with
  | false =>
    have h0 : hi = 0 := by
      by_cases e : hi = 0
      · exact e
      · exact absurd (.inr (.inr ⟨rfl, e⟩)) hbad
    subst h0
    obtain ⟨n, hn⟩ : ∃ n, n = 65536 * lo := ⟨_, rfl⟩
    have hw64 : IntKind.i64.wrap ((lo : Int) * 65536) = (n : Int) := by rw [IntKind.wrap_i64]; omega
    have hmk := make_run n (by omega)
    have HN := Aside0.mk hn
    have HL := Aside0.mk (show n ≤ 281474976710656 by omega)
    clear hn
    go_enter Tryd.func10, Tryd.ntmps10
    go_wp2
    go_region_held3 (fun w' => w'.cell? ⟨w.heap.size, 0, none⟩ = some (.int .i64 lo) ∧ w'.cell? ⟨w.heap.size, 1, none⟩ = some (.int .i64 0) ∧ w'.cell? ⟨w.heap.size, 2, none⟩ = some (.bool false)) (go_keep) (fail)
    go_wp2
    go_ret2
    rw [← HN.out]
    exact ⟨_, rfl, (MO.new HS.out (below4 _ _ _ _ _) _ (w.heap.size + 1 + 1) n _ _ _ (heap43 _ _ _ _ _) (heap42 _ _ _ _ _) (by omega) (by omega) HL.out).drew⟩
  | true =>
    have d1 : decide (hi < (lo : Int)) = false := decide_eq_false (fun e => hbad (.inr (.inl ⟨rfl, .inl e⟩)))
    have d2 : decide (65536 < hi) = false := decide_eq_false (fun e => hbad (.inr (.inl ⟨rfl, .inr e⟩)))
    obtain ⟨n, hn⟩ : ∃ n, n = 65536 * lo := ⟨_, rfl⟩
    have hw64 : IntKind.i64.wrap ((lo : Int) * 65536) = (n : Int) := by rw [IntKind.wrap_i64]; omega
    have hmk := make_run n (by omega)
    have HN := Aside0.mk hn
    have HL := Aside0.mk (show n ≤ 281474976710656 by omega)
    clear hn
    go_enter Tryd.func10, Tryd.ntmps10
    go_wp2
    go_region_held3 (fun w' => w'.cell? ⟨w.heap.size, 0, none⟩ = some (.int .i64 lo) ∧ w'.cell? ⟨w.heap.size, 1, none⟩ = some (.int .i64 hi) ∧ w'.cell? ⟨w.heap.size, 2, none⟩ = some (.bool true)) (go_keep) (fail)
    go_wp2
    go_ret2
    rw [← HN.out]
    exact ⟨_, rfl, (MO.new HS.out (below4 _ _ _ _ _) _ (w.heap.size + 1 + 1) n _ _ _ (heap43 _ _ _ _ _) (heap42 _ _ _ _ _) (by omega) (by omega) HL.out).drew⟩
set_option maxHeartbeats 4000000 in
theorem memNewNo (lo hi : Int) (has : Bool) (w : World) (hlo : -9223372036854775808 ≤ lo ∧ lo < 9223372036854775808) (hhi : -9223372036854775808 ≤ hi ∧ hi < 9223372036854775808) (h : mBad lo hi has ≠ 0) :
    Calls Tryd.prog 10 #[.agg #[.int .i64 lo, .int .i64 hi, .bool has]] w fun e w' => e = .returned (.tuple #[.pointer none, .int .i64 (mBad lo hi has)]) ∧ Below w.heap.size w w' := by
  by_cases c0 : lo < 0
  · have d0 : decide (lo < 0) = true := decide_eq_true c0
    have hr : mBad lo hi has = 1 := if_pos (.inl c0)
    rw [hr]
    go_enter Tryd.func10, Tryd.ntmps10
    go_wp2
    go_ret2
    exact ⟨rfl, by repeat (first | exact Below.refl _ _ | apply below_alloc)⟩
  · have d0 : decide (lo < 0) = false := decide_eq_false c0
    cases has with
    | true =>
      by_cases c1 : hi < lo
      · have d1 : decide (hi < lo) = true := decide_eq_true c1
        have hr : mBad lo hi true = 1 := if_pos (.inr (.inl ⟨rfl, .inl c1⟩))
        rw [hr]
        go_enter Tryd.func10, Tryd.ntmps10
        go_wp2
        go_ret2
        exact ⟨rfl, by repeat (first | exact Below.refl _ _ | apply below_alloc)⟩
      · have d1 : decide (hi < lo) = false := decide_eq_false c1
        by_cases c2 : 65536 < hi
        · have d2 : decide (65536 < hi) = true := decide_eq_true c2
          have hr : mBad lo hi true = 1 := if_pos (.inr (.inl ⟨rfl, .inr c2⟩))
          rw [hr]
          go_enter Tryd.func10, Tryd.ntmps10
          go_wp2
          go_ret2
          exact ⟨rfl, by repeat (first | exact Below.refl _ _ | apply below_alloc)⟩
        · have d2 : decide (65536 < hi) = false := decide_eq_false c2
          have hno : ¬ (lo < 0 ∨ (true = true ∧ (hi < lo ∨ 65536 < hi)) ∨ (true = false ∧ hi ≠ 0)) := by
            rintro (h | ⟨_, h | h⟩ | ⟨h, _⟩)
            · exact c0 h
            · exact c1 h
            · exact c2 h
            · cases h
          have hr0 : mBad lo hi true = if 4 < lo then 4 else 0 := if_neg hno
          by_cases c3 : 4 < lo
          · have d3 : decide (4 < lo) = true := decide_eq_true c3
            have hr : mBad lo hi true = 4 := hr0.trans (if_pos c3)
            rw [hr]
            go_enter Tryd.func10, Tryd.ntmps10
            go_wp2
            go_ret2
            exact ⟨rfl, by repeat (first | exact Below.refl _ _ | apply below_alloc)⟩
          · exact absurd (hr0.trans (if_neg c3)) h
    | false =>
      by_cases c2 : hi = 0
      · subst c2
        have hno : ¬ (lo < 0 ∨ (false = true ∧ ((0 : Int) < lo ∨ 65536 < (0 : Int))) ∨ (false = false ∧ (0 : Int) ≠ 0)) := by
          rintro (h | ⟨h, _⟩ | ⟨_, h⟩)
          · exact c0 h
          · cases h
          · exact h rfl
        have hr0 : mBad lo 0 false = if 4 < lo then 4 else 0 := if_neg hno
        by_cases c3 : 4 < lo
        · have d3 : decide (4 < lo) = true := decide_eq_true c3
          have hr : mBad lo 0 false = 4 := hr0.trans (if_pos c3)
          rw [hr]
          go_enter Tryd.func10, Tryd.ntmps10
          go_wp2
          go_ret2
          exact ⟨rfl, by repeat (first | exact Below.refl _ _ | apply below_alloc)⟩
        · exact absurd (hr0.trans (if_neg c3)) h
      · have d2 : (hi == 0) = false := beq_eq_false_iff_ne.2 c2
        have d3 : (hi != 0) = true := bne_iff_ne.2 c2
        have hr : mBad lo hi false = 1 := if_pos (.inr (.inr ⟨rfl, c2⟩))
        rw [hr]
        go_enter Tryd.func10, Tryd.ntmps10
        go_wp2
        go_ret2
        exact ⟨rfl, by repeat (first | exact Below.refl _ _ | apply below_alloc)⟩
def b0 : List Int := List.replicate 65536 0
theorem b0_len : b0.length = 65536 := List.length_replicate
theorem b0_oct : Oct b0 := fun c hc => by rw [List.eq_of_mem_replicate hc]; decide
theorem good0 (lo hi : Int) (has : Bool) : Good ⟨b0, lo, hi, has⟩ := ⟨b0_oct, by rw [b0_len]; decide⟩
theorem mStore_ok {b : List Int} {op base off v : Int} (hb : Oct b) (h0 : 0 ≤ base) (h1 : 0 ≤ off) {b' : List Int} (h : mStore b op base off v = some b') : b'.length = b.length ∧ Oct b' := by
  unfold mStore at h
  split at h
  · rename_i hc
    obtain ⟨q1, q2, q3, q4⟩ := mFits_iff.1 hc.2
    obtain rfl := Option.some.inj h
    exact ⟨splice_length (by rw [le_length]; omega), splice_oct hb (le_oct _ _)⟩
  · cases h
/-- A store that is done. -/
theorem memStoreS {w0 w : World} {L : List As} {p : Nat} {b b' : List Int} {lo hi : Int} {has : Bool} (hS : SB w0 w (MO p ⟨b, lo, hi, has⟩ :: L)) (hG : Globs w) (hm : Good ⟨b, lo, hi, has⟩) (op base off v : Int) (hop : -9223372036854775808 ≤ op ∧ op < 9223372036854775808) (hb : 0 ≤ base ∧ base < 18446744073709551616) (ho : 0 ≤ off ∧ off < 18446744073709551616) (hv : 0 ≤ v ∧ v < 18446744073709551616) (h : mStore b op base off v = some b') :
    Calls Tryd.prog 11 #[.pointer (some ⟨p, 0, none⟩), .int .i64 op, .int .u64 base, .int .u64 off, .int .u64 v] w fun e w' => e = .returned (.bool true) ∧ SB w0 w' (MO p ⟨b', lo, hi, has⟩ :: L) := by
  have := memStore hS hG hm op base off v hop hb ho hv
  simp only [h, Option.isSome_some, Option.getD_some] at this
  exact this
theorem memLoadS {w0 w : World} {L : List As} {p : Nat} {b : List Int} {lo hi : Int} {has : Bool} (hS : SB w0 w (MO p ⟨b, lo, hi, has⟩ :: L)) (hG : Globs w) (hm : Good ⟨b, lo, hi, has⟩) (op base off : Int) (hop : -9223372036854775808 ≤ op ∧ op < 9223372036854775808) (hb : 0 ≤ base ∧ base < 18446744073709551616) (ho : 0 ≤ off ∧ off < 18446744073709551616) {x : Int} {k : Bool} (h : mLoad b op base off = (x, k)) :
    Calls Tryd.prog 12 #[.pointer (some ⟨p, 0, none⟩), .int .i64 op, .int .u64 base, .int .u64 off] w fun e w' => e = .returned (.tuple #[.int .u64 x, .bool k]) ∧ SB w0 w' (MO p ⟨b, lo, hi, has⟩ :: L) := by
  refine (memLoad hS hG hm op base off hop hb ho).mono ?_
  rintro e w' ⟨rfl, hb⟩
  refine ⟨?_, hS.below hb⟩
  simp only [h]
theorem memPagesB {w0 w : World} {L : List As} {p : Nat} {b : List Int} {lo hi : Int} {has : Bool} (hS : SB w0 w (MO p ⟨b, lo, hi, has⟩ :: L)) (hm : Good ⟨b, lo, hi, has⟩) {n : Int} (h : (b.length : Int) / 65536 = n) :
    Calls Tryd.prog 19 #[.pointer (some ⟨p, 0, none⟩)] w fun e w' => e = .returned (.int .i64 n) ∧ SB w0 w' (MO p ⟨b, lo, hi, has⟩ :: L) := by
  refine (memPagesS hS hm).mono ?_
  rintro e w' ⟨rfl, ⟨nd, rfl⟩⟩
  refine ⟨?_, hS.drewN _⟩
  simp only [h]
theorem oct255 : Oct [255] := fun c hc => by rw [List.mem_singleton.1 hc]; decide
theorem memNew1 {w0 w : World} {L : List As} (hS : SB w0 w L) : Calls Tryd.prog 10 #[.agg #[.int .i64 1, .int .i64 0, .bool false]] w fun e w' => ∃ p, e = .returned (.tuple #[.pointer (some ⟨p, 0, none⟩), .int .i64 0]) ∧ SB w0 w' (MO p ⟨b0, 1, 0, false⟩ :: L) := memNewOk hS 1 0 false rfl
theorem aw_store : mStore b0 58 8 1 511 = some (splice b0 9 [255]) := by
  unfold mStore
  rw [if_pos ⟨rfl, mFits_iff.2 ⟨by decide, by decide, by decide, by rw [b0_len]; decide⟩⟩]
  rfl
theorem aw_load : mLoad (splice b0 9 [255]) 44 9 0 = (4294967295, true) := by
  have hl : (splice b0 9 [255]).length = 65536 := by rw [splice_length (by rw [b0_len]; decide), b0_len]
  have hs : seg (splice b0 9 [255]) 9 1 = [255] := seg_splice (b := b0) (l := [255]) (a := 9) (by rw [b0_len]; decide)
  unfold mLoad
  rw [if_pos ⟨rfl, by decide, mFits_iff.2 ⟨by decide, by decide, by decide, by rw [hl]; decide⟩⟩]
  show (mVal true 127 1 (ev (seg (splice b0 9 [255]) 9 1)), true) = _
  rw [hs]
  decide
theorem aw_none : mLoad (splice b0 9 [255]) 40 65533 0 = (0, false) := by
  have hl : (splice b0 9 [255]).length = 65536 := by rw [splice_length (by rw [b0_len]; decide), b0_len]
  refine if_neg (fun h => ?_)
  have := (mFits_iff.1 h.2.2).2.2.2
  rw [hl] at this
  exact absurd this (by decide)
attribute [irreducible] b0
theorem awake (w : World) (hG : Globs w) : Calls Tryd.prog 9 #[] w fun e w' => e = .returned (.bool true) ∧ Below w.heap.size w w' := by
  have HG := Aside0.mk hG
  clear hG
  have hb1l : (splice b0 9 [255]).length = 65536 := by rw [splice_length (by rw [b0_len]; decide), b0_len]
  have HL := Aside0.mk hb1l
  have HO := Aside0.mk (splice_oct (a := 9) (l := [255]) b0_oct oct255)
  clear hb1l
  have HGD := Aside0.mk (show Good ⟨splice b0 9 [255], 1, 0, false⟩ from ⟨HO.out, by show (splice b0 9 [255]).length ≤ _; rw [HL.out]; decide⟩)
  have HPG := Aside0.mk (show ((splice b0 9 [255]).length : Int) / 65536 = 1 by rw [HL.out]; rfl)
  go_enter Tryd.func9, Tryd.ntmps9
  go_wp2_with (first
    | (go_at_call 10; (with_reducible refine (memNew1 (SB.start w)).mono ?_); rintro e w1 ⟨p, rfl, hs⟩; have HS := Aside0.mk hs; clear hs)
    | (go_at_call 11; (with_reducible refine (memStoreS HS.out (HG.out.below HS.out.bel) (good0 _ _ _) 58 8 1 511 (by decide) (by decide) (by decide) (by decide) aw_store).mono ?_); rintro e w2 ⟨rfl, hs⟩; have HS2 := Aside0.mk hs; clear hs)
    | (go_at_call 12; (with_reducible refine (memLoadS HS2.out (HG.out.below HS2.out.bel) HGD.out 44 9 0 (by decide) (by decide) (by decide) aw_load).mono ?_); rintro e w3 ⟨rfl, hs⟩; have HS3 := Aside0.mk hs; clear hs)
    | (go_at_call 12; (with_reducible refine (memLoadS HS3.out (HG.out.below HS3.out.bel) HGD.out 40 65533 0 (by decide) (by decide) (by decide) aw_none).mono ?_); rintro e w4 ⟨rfl, hs⟩; have HS4 := Aside0.mk hs; clear hs)
    | (go_at_call 19; (with_reducible refine (memPagesB HS4.out HGD.out HPG.out).mono ?_); rintro e w5 ⟨rfl, hs⟩; have HS5 := Aside0.mk hs; clear hs))
  go_ret
  exact ⟨rfl, HS5.out.bel⟩
end Go.Proofs.YtffoolhfjomhhaaDoor.G
