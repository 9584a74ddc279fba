/- The premise on the two tables of unicode/utf8, and the contract of unicode/utf8.word over bytes. -/
import Derived.Test.YtoeknjmdlmhajaaDoorWMore
import Derived.Lib.ValidAsc
import Derived.Lib.Endian
import Derived.Lib.EndianBits
import Derived.Laws.BitsAllLaws
import Derived.BigQuiet
import Derived.Deep.QuietTactic
import Derived.Deep.DeepMust
import Derived.Deep.LoopGhost
import Derived.Deep.CutBlock
import Derived.Deep.DeepCutAuto
import Derived.WalkKit
import Derived.Test.YtoeknjmdlmhajaaDoorProg
namespace Go.Proofs.YtoeknjmdlmhajaaDoor.G
open Go.RowKit Go.Proofs.YtoeknjmdlmhajaaDoorW.PrintWords Go.Proofs.YtoeknjmdlmhajaaDoorW.PrintLast Go.Proofs.YtoeknjmdlmhajaaDoorW.PrintMore
set_option linter.unusedVariables false
set_option linter.unusedSimpArgs false
/-! ### what the walk of utf8.Valid uses -/
def Globs (w : World) : Prop := (∀ c, c < 256 → w.cell? ⟨0, c, none⟩ = some (.int .u8 (Lib.firstT c))) ∧ (∀ i, i < 16 → w.cell? ⟨1, 2 * i, none⟩ = some (.int .u8 (Lib.accLo i)) ∧ w.cell? ⟨1, 2 * i + 1, none⟩ = some (.int .u8 (Lib.accHi i)))
theorem Globs.below {w w' : World} (h : Globs w) (hb : Below w.heap.size w w') : Globs w' :=
  ⟨fun c hc => pw_cell_below hb (h.1 c hc), fun i hi => ⟨pw_cell_below hb (h.2 i hi).1, pw_cell_below hb (h.2 i hi).2⟩⟩
theorem Globs.alloc {w : World} (h : Globs w) (o : Obj) : Globs (w.alloc o) := h.below (below_alloc (Below.refl _ _) o)
theorem Globs.drewN {w : World} (h : Globs w) (n : Nat) : Globs (w.drewN n) := h.below (pw_below_drewN (Below.refl _ _) n)
theorem Globs.drew {w : World} (h : Globs w) : Globs w.drew := h.below (below_drew (Below.refl _ _))
theorem below_drewNv {B : Nat} {a w : World} (h : Below B a w) (q : Nat) : Below B a (w.drewN q) := pw_below_drewN h q
set_option maxRecDepth 100000 in
theorem and7_ : ∀ X : Fin 256, bits .and .u8 ((X.val : Nat) : Int) 7 = ((X.val % 8 : Nat) : Int) := by decide
theorem firstT_lt (b : Nat) : Lib.firstT b ≤ 241 := by
  unfold Lib.firstT; repeat' split
  all_goals omega
theorem getD_get!_ (s : ByteArray) (i : Nat) : s.data.toList.getD i 0 = s.get! i := by
  simp only [ByteArray.get!, getElem!_def, List.getD_eq_getElem?_getD, Array.getElem?_toList]
  cases s.data[i]? <;> rfl
/-- The bytes of t lie from A on. -/
def BRow (W : World) (A : Option Addr) (t : ByteArray) : Prop := ∀ i, i < t.size → ∃ ad, A = some ad ∧ W.cell? (ad.add i) = some (.int .u8 ((t.get! i).toNat : Int))
theorem BRow.below {w w' : World} {A : Option Addr} {t : ByteArray} (h : BRow w A t) (hb : Below w.heap.size w w') : BRow w' A t := fun i hi => by
  obtain ⟨ad, e, hc⟩ := h i hi
  exact ⟨ad, e, pw_cell_below hb hc⟩
theorem BRow.cells {w : World} {ad : Addr} {t : ByteArray} (h : BRow w (some ad) t) (hn : 8 ≤ t.size) : ∀ i, i < 8 → w.cell? (ad.add i) = some (.int .u8 ((t.get! i).toNat : Int)) := fun i hi => by
  obtain ⟨ad', e, hc⟩ := h i (by omega)
  cases e
  exact hc
theorem BRow.cell_at {w : World} {ad : Addr} {t : ByteArray} {i : Nat} (h : BRow w (some ad) t) (h0 : 0 < i) (hi : i < t.size) : w.cell? ⟨ad.block, ad.off + i, none⟩ = some (.int .u8 ((t.get! i).toNat : Int)) := by
  obtain ⟨ad', e, hc⟩ := h i hi
  cases e
  rwa [show ad.add i = ⟨ad.block, ad.off + i, none⟩ from by simp [Addr.add, Nat.ne_of_gt h0]] at hc
theorem add_add_ (a : Addr) (i j : Nat) : (a.add i).add j = a.add (i + j) := by
  simp only [Addr.add]
  by_cases hi : i = 0
  · subst hi; simp
  · by_cases hj : j = 0
    · subst hj; simp [hi]
    · simp [hi, hj]; omega
theorem get!_extract_ (t : ByteArray) (k i : Nat) : (t.extract k t.size).get! i = t.get! (k + i) := by
  rw [← getD_get!_, ← getD_get!_, Lib.ext_list]
  simp [List.getD_eq_getElem?_getD]
theorem BRow.cut {w : World} (A : Option Addr) (t : ByteArray) (j : Int) (k : Nat) (hj : j = (k : Int)) (hk : k ≤ t.size) (h : BRow w A t) :
    ∃ A' : Option Addr, (∀ W : World, (Instr.slice 25 (.slice A t.size t.size) (some (.int .i64 j)) none none).run Tryd.prog W = .ok (.slice A' (t.extract k t.size).size (t.extract k t.size).size) W) ∧ BRow w A' (t.extract k t.size) := by
  subst hj
  have hu : Tryd.prog.underlying 25 = some (.slice (Tryd.prog.elem 25)) := by kernel_rfl
  refine ⟨if t.size = k then A else A.map (·.add k), fun W => ?_, fun i hi => ?_⟩
  · rw [run_slice_l W 25 A t.size t.size hu .i64 (k : Int) (Int.natCast_nonneg _) (by omega)]
    have hs : (sizeOf (Tryd.prog.elem 25)).run Tryd.prog W = .ok 1 W := by kernel_rfl
    rw [hs, Lib.ext_size]
    simp [sliced, Result.andThen]
  · rw [Lib.ext_size] at hi
    obtain ⟨ad, rfl, hc⟩ := h (k + i) (by omega)
    rw [if_neg (by omega)]
    exact ⟨ad.add k, rfl, by rw [add_add_, get!_extract_]; exact hc⟩
set_option maxHeartbeats 8000000 in
set_option maxRecDepth 100000 in
theorem u8_word (ad : Addr) (n c : Nat) (t : ByteArray) (w : World) (hn : 8 ≤ n) (h : ∀ i, i < 8 → w.cell? (ad.add i) = some (.int .u8 ((t.get! i).toNat : Int))) :
    Calls Tryd.prog 49 #[.slice (some ad) n c] w fun e w' => e = .returned (.int .u64 (Lib.leNat [t.get! 0, t.get! 1, t.get! 2, t.get! 3, t.get! 4, t.get! 5, t.get! 6, t.get! 7])) ∧ ∃ q, w' = w.drewN q := by
  have c0 := h 0 (by omega)
  rw [show ad.add 0 = ad from by simp [Addr.add]] at c0
  have c1 := h 1 (by omega)
  rw [show ad.add 1 = ⟨ad.block, ad.off + 1, none⟩ from by simp [Addr.add]] at c1
  have c2 := h 2 (by omega)
  rw [show ad.add 2 = ⟨ad.block, ad.off + 2, none⟩ from by simp [Addr.add]] at c2
  have c3 := h 3 (by omega)
  rw [show ad.add 3 = ⟨ad.block, ad.off + 3, none⟩ from by simp [Addr.add]] at c3
  have c4 := h 4 (by omega)
  rw [show ad.add 4 = ⟨ad.block, ad.off + 4, none⟩ from by simp [Addr.add]] at c4
  have c5 := h 5 (by omega)
  rw [show ad.add 5 = ⟨ad.block, ad.off + 5, none⟩ from by simp [Addr.add]] at c5
  have c6 := h 6 (by omega)
  rw [show ad.add 6 = ⟨ad.block, ad.off + 6, none⟩ from by simp [Addr.add]] at c6
  have c7 := h 7 (by omega)
  rw [show ad.add 7 = ⟨ad.block, ad.off + 7, none⟩ from by simp [Addr.add]] at c7
  clear h
  obtain ⟨x0, hx0⟩ : ∃ x0, t.get! 0 = x0 := ⟨_, rfl⟩
  obtain ⟨x1, hx1⟩ : ∃ x0, t.get! 1 = x0 := ⟨_, rfl⟩
  obtain ⟨x2, hx2⟩ : ∃ x0, t.get! 2 = x0 := ⟨_, rfl⟩
  obtain ⟨x3, hx3⟩ : ∃ x0, t.get! 3 = x0 := ⟨_, rfl⟩
  obtain ⟨x4, hx4⟩ : ∃ x0, t.get! 4 = x0 := ⟨_, rfl⟩
  obtain ⟨x5, hx5⟩ : ∃ x0, t.get! 5 = x0 := ⟨_, rfl⟩
  obtain ⟨x6, hx6⟩ : ∃ x0, t.get! 6 = x0 := ⟨_, rfl⟩
  obtain ⟨x7, hx7⟩ : ∃ x0, t.get! 7 = x0 := ⟨_, rfl⟩
  rw [hx0] at c0; rw [hx1] at c1; rw [hx2] at c2; rw [hx3] at c3; rw [hx4] at c4; rw [hx5] at c5; rw [hx6] at c6; rw [hx7] at c7
  rw [hx0, hx1, hx2, hx3, hx4, hx5, hx6, hx7]
  clear hx0 hx1 hx2 hx3 hx4 hx5 hx6 hx7
  have l0 := x0.toNat_lt
  have l1 := x1.toNat_lt
  have l2 := x2.toNat_lt
  have l3 := x3.toNat_lt
  have l4 := x4.toNat_lt
  have l5 := x5.toNat_lt
  have l6 := x6.toNat_lt
  have l7 := x7.toNat_lt
  have hv : ((Lib.leNat [x0, x1, x2, x3, x4, x5, x6, x7] : Nat) : Int) = (x0.toNat : Int) + (x1.toNat : Int) * 256 + (x2.toNat : Int) * 65536 + (x3.toNat : Int) * 16777216 + (x4.toNat : Int) * 4294967296 + (x5.toNat : Int) * 1099511627776 + (x6.toNat : Int) * 281474976710656 + (x7.toNat : Int) * 72057594037927936 := by
    simp only [Lib.leNat]
    push_cast
    omega
  have HV := Aside0.mk hv
  clear hv
  have q0 : (0 : Int) < (n : Int) := by omega
  have q1 : (1 : Int) < (n : Int) := by omega
  have q2 : (2 : Int) < (n : Int) := by omega
  have q3 : (3 : Int) < (n : Int) := by omega
  have q4 : (4 : Int) < (n : Int) := by omega
  have q5 : (5 : Int) < (n : Int) := by omega
  have q6 : (6 : Int) < (n : Int) := by omega
  have q7 : (7 : Int) < (n : Int) := by omega
  have p0 : 0 < n := by omega
  have p1 : 1 < n := by omega
  have p2 : 2 < n := by omega
  have p3 : 3 < n := by omega
  have p4 : 4 < n := by omega
  have p5 : 5 < n := by omega
  have p6 : 6 < n := by omega
  have p7 : 7 < n := by omega
  go_enter Tryd.func49, Tryd.ntmps49
  go_wp2
  go_quiet (fail)
  go_wp2
  go_ret
  refine ⟨?_, _, rfl⟩
  simp (disch := omega) only [u64_wrap_id, u64_or8, u64_or16, u64_or24, u64_or32, u64_or40, u64_or48, u64_or56]
  rw [HV.out]
  rfl
end Go.Proofs.YtoeknjmdlmhajaaDoor.G
