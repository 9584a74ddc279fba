/- Package table's tables: what its functions do. -/
import Derived.Lib.SliceRun
import Derived.Test.YtjdnkhgpnddncaaG
import Derived.Test.YtjdnkhgpnddncaaApp
import Derived.Test.YtjdnkhgpnddncaaMemP
namespace Go.Proofs.Ytjdnkhgpnddncaa.G
open Go.RowKit Go.Proofs.YtjdnkhgpnddncaaW.PrintWords Go.Proofs.YtjdnkhgpnddncaaW.PrintLast Go.Proofs.YtjdnkhgpnddncaaW.PrintMore
attribute [local go_sem] max2_int min2_int max_two min_two max_three min_three max_four min_four   -- for this text's walks alone
set_option linter.unusedVariables false
set_option linter.unusedSimpArgs false
/-- A table: what is where, its limits. -/
structure Tb where
  l : List Int
  lo : Int
  hi : Int
  has : Bool
def TO (p : Nat) (m : Tb) : As := ObR (Kd.int .i64) 3 76 p m.l [.int .i64 m.lo, .int .i64 m.hi, .bool m.has]
def okI (v : Int) : Prop := -9223372036854775808 ≤ v ∧ v < 9223372036854775808
instance (v : Int) : Decidable (okI v) := inferInstanceAs (Decidable (-9223372036854775808 ≤ v ∧ v < 9223372036854775808))
theorem tabLen (p : Nat) (A : Option Addr) (n c : Nat) (w : World) (h : w.cell? ⟨p, 0, none⟩ = some (.slice A n c)) :
    Calls Try.prog 14 #[.pointer (some ⟨p, 0, none⟩)] w fun e w' => e = .returned (.int .i64 n) ∧ Drawn0 w w' := by
  go_enter Try.func14, Try.ntmps14
  go_wp2
  go_ret
  exact ⟨rfl, by repeat (first | exact Drawn0.refl _ | apply Drawn0.step)⟩
theorem tabLenNil (w : World) : Calls Try.prog 14 #[.pointer none] w fun e w' => e = .returned (.int .i64 0) ∧ Drawn0 w w' := by
  go_enter Try.func14, Try.ntmps14
  go_wp2
  go_ret
  exact ⟨rfl, by repeat (first | exact Drawn0.refl _ | apply Drawn0.step)⟩
/-- A place: its address. -/
theorem rowAt (p : Nat) (ad : Addr) (n c : Nat) (i : Nat) (w : World) (hn : (n : Int) ≤ 9223372036854775807) (h : w.cell? ⟨p, 0, none⟩ = some (.slice (some ad) n c)) (hi : i < n) :
    Calls Try.prog 30 #[.pointer (some ⟨p, 0, none⟩), .int .i64 i] w fun e w' => e = .returned (.pointer (some (ad.add i))) ∧ Drawn0 w w' := by
  have d1 : decide ((i : Int) < 0) = false := decide_eq_false (by omega)
  have d2 : decide ((n : Int) ≤ (i : Int)) = false := decide_eq_false (by omega)
  have d2' : decide (n ≤ i) = false := decide_eq_false (by omega)
  go_enter Try.func30, Try.ntmps30
  go_wp2
  go_ret
  exact ⟨rfl, by repeat (first | exact Drawn0.refl _ | apply Drawn0.step)⟩
/-- What At answers. -/
def tAt (l : List Int) (i : Int) : Int × Int := if (l.length : Int) ≤ i then (0, 5) else if l.getD i.toNat 0 = -1 then (0, 6) else (l.getD i.toNat 0, 0)
theorem tabAt {w0 w : World} {L : List As} {p : Nat} {m : Tb} (hS : SB w0 w (TO p m :: L)) (i : Int) (hi : 0 ≤ i ∧ i < 18446744073709551616) :
    Calls Try.prog 12 #[.pointer (some ⟨p, 0, none⟩), .int .u64 i] w fun e w' => e = .returned (.tuple #[.int .i64 (tAt m.l i).1, .int .i64 (tAt m.l i).2]) ∧ SB w0 w' (TO p m :: L) := by
  obtain ⟨F, hF, _⟩ := hS.head
  obtain ⟨A, c, hblk, hR, hc, hC, hp, hlt⟩ := ObR.open_ hF
  have h : w.cell? ⟨p, 0, none⟩ = some (.slice A m.l.length c) := (blk_cell hblk 0).trans rfl
  have hmax := Kd.C_max hC
  have HC := Aside0.mk hC
  have HS := Aside0.mk hS
  clear hS hblk hR hF hC
  obtain ⟨t, rfl⟩ := Int.eq_ofNat_of_zero_le hi.1
  have hwl : IntKind.u64.wrap (m.l.length : Int) = (m.l.length : Int) := by simp [IntKind.wrap, IntKind.signed, IntKind.bits]; omega
  by_cases c1 : (m.l.length : Int) ≤ (t : Int)
  · have d1 : decide ((m.l.length : Int) ≤ (t : Int)) = true := decide_eq_true c1
    have d1' : decide (m.l.length ≤ t) = true := decide_eq_true (by omega)
    have hr : tAt m.l t = (0, 5) := if_pos c1
    rw [hr]
    go_enter Try.func12, Try.ntmps12
    go_wp2_with (go_at_call 14; (with_reducible refine (tabLen p A _ c _ h).mono ?_); rintro e w' ⟨rfl, ⟨nd, rfl⟩⟩)
    go_ret2
    exact ⟨rfl, HS.out.drewN _⟩
  · have d1 : decide ((m.l.length : Int) ≤ (t : Int)) = false := decide_eq_false c1
    have d1' : decide (m.l.length ≤ t) = false := decide_eq_false (by omega)
    have htl : t < m.l.length := by omega
    obtain ⟨ad, rfl, hcell⟩ := row_cell HC.out htl
    have hgd : m.l.getD (t : Int).toNat 0 = m.l[t] := by rw [Int.toNat_natCast, List.getD_eq_getElem?_getD, List.getElem?_eq_getElem htl]; rfl
    obtain ⟨x, hx⟩ : ∃ x, m.l[t] = x := ⟨_, rfl⟩
    rw [hx] at hcell hgd
    have hwt : IntKind.i64.wrap (t : Int) = (t : Int) := by rw [IntKind.wrap_i64]; omega
    clear hx
    by_cases c2 : x = -1
    · have d2 : (x == -1) = true := beq_iff_eq.2 c2
      have hr : tAt m.l t = (0, 6) := by unfold tAt; rw [if_neg c1, hgd, if_pos c2]
      rw [hr]
      clear c2 hgd
      go_enter Try.func12, Try.ntmps12
      go_wp2_with (first
        | (go_at_call 14; (with_reducible refine (tabLen p _ _ c _ h).mono ?_); rintro e w' ⟨rfl, ⟨nd, rfl⟩⟩)
        | (go_at_call 30; (with_reducible refine (rowAt p ad _ c t _ (by omega) ?hh htl).mono ?_); (case hh => exact h); rintro e w' ⟨rfl, ⟨nd2, rfl⟩⟩))
      go_ret2
      exact ⟨rfl, by repeat (first | exact HS.out | refine SB.drewN ?_ _)⟩
    · have d2 : (x == -1) = false := beq_eq_false_iff_ne.2 c2
      have hr : tAt m.l t = (x, 0) := by unfold tAt; rw [if_neg c1, hgd, if_neg c2]
      rw [hr]
      clear c2 hgd
      go_enter Try.func12, Try.ntmps12
      go_wp2_with (first
        | (go_at_call 14; (with_reducible refine (tabLen p _ _ c _ h).mono ?_); rintro e w' ⟨rfl, ⟨nd, rfl⟩⟩)
        | (go_at_call 30; (with_reducible refine (rowAt p ad _ c t _ (by omega) ?hh htl).mono ?_); (case hh => exact h); rintro e w' ⟨rfl, ⟨nd2, rfl⟩⟩))
      go_ret2
      exact ⟨rfl, by repeat (first | exact HS.out | refine SB.drewN ?_ _)⟩
/-- A copy of a row of numbers. -/
theorem cloneI {w0 w : World} {L : List As} (hS : SB w0 w L) (A : Option Addr) (c : Nat) (l : List Int) (hC : Kd.C (Kd.int .i64) w A l.length l) (hc : l.length ≤ c) (hl : l.length ≤ 1000000) :
    Calls Try.prog 29 #[.slice A l.length c] w fun e w' => ∃ v, e = .returned v ∧ SB w0 w' (Row (Kd.int .i64) 3 v l :: L) := by
  have HC := Aside0.mk hC
  have HS := Aside0.mk hS
  clear hC hS
  have heq := fun (w : World) (a : Option Addr) (n c : Nat) => Lib.run_eql_slice_nil (P := Try.prog) w 22 3 a n c 0 0 Try.underlying22
  cases A with
  | none =>
    have h0 : l = [] := by
      cases l with
      | nil => rfl
      | cons x l =>
        obtain ⟨ad, e, _⟩ := HC.out.2.2 (by simp)
        simp at e
    subst h0
    go_enter Try.func29, Try.ntmps29
    go_wp2
    go_ret
    exact ⟨_, rfl, HS.out.row (Below.refl _ _) (Kd.R_nil _ _ _ _ (fun _ => True))⟩
  | some ad =>
    go_enter Try.func29, Try.ntmps29
    go_wp2_with (first
      | ((with_reducible refine gate_dst (N := 5) rfl ?_); refine Kd.R_lit (Kd.int .i64) (w0 := w) w.heap.size 3 rfl (N := 5) rfl (xs := ([] : List Int)) (inner := []) (ok := fun _ => True) (okp := fun _ => True) (by first | (go_simp; done) | (go_simp; rfl)) (Reps.none _ _) (fun _ hk => hk) trivial (Below.refl _ _) (Nat.le_refl _) (by simp) ?_; intro v5 w4 ho5 hb hg_ hnew_; have HS4 := Aside0.mk (HS.out.row hb ho5); have HC4 := Aside0.mk (Kd.C_below HC.out hb); clear ho5 hb hg_ hnew_)
      | ((with_reducible refine gate_builtin (b := .append) (xs := #[.tmp 5, .tmp 6]) rfl ?_); refine SB.appRows (ys := l) HS4.out rfl (.tmp 5) (.tmp 6) 22 (.int .i64 0) 8 rfl Try.underlying22 (show (Try.prog.info? 3).map (fun i => (i.zero, i.size, i.bytes)) = some (some (.int .i64 0), 1, 8) from by kernel_rfl) rfl (by decide) (by decide) rfl rfl (fun _ _ h => h) HC4.out (by simp; omega) ?_; intro v5 w5 hs5; have HS5 := Aside0.mk hs5; clear hs5))
    go_ret
    exact ⟨_, rfl, HS5.out⟩
theorem tabAll {w0 w : World} {L : List As} {p : Nat} {m : Tb} (hS : SB w0 w (TO p m :: L)) (hl : m.l.length ≤ 1000000) :
    Calls Try.prog 11 #[.pointer (some ⟨p, 0, none⟩)] w fun e w' => ∃ v, e = .returned v ∧ SB w0 w' (Row (Kd.int .i64) 3 v m.l :: TO p m :: L) := by
  obtain ⟨F, hF, _⟩ := hS.head
  obtain ⟨A, c, hblk, hR, hc, hC, hp, hlt⟩ := ObR.open_ hF
  have h : w.cell? ⟨p, 0, none⟩ = some (.slice A m.l.length c) := (blk_cell hblk 0).trans rfl
  have HC := Aside0.mk hC
  have HS := Aside0.mk hS
  clear hS hblk hR hF hC
  go_enter Try.func11, Try.ntmps11
  go_wp2_with (go_at_call 29; (with_reducible refine (cloneI HS.out A c m.l HC.out hc hl).mono ?_); rintro e w1 ⟨v, rfl, hs⟩; have HS1 := Aside0.mk hs; clear hs)
  go_ret
  exact ⟨_, rfl, HS1.out⟩
/-- Is a number below -1? -/
theorem low1 (x : Int) (w : World) : Calls Try.prog 28 #[.int .i64 x] w fun e w' => e = .returned (.bool (decide (x < -1))) ∧ Drawn0 w w' := by
  go_enter Try.func28, Try.ntmps28
  go_wp2
  go_ret
  exact ⟨rfl, by repeat (first | exact Drawn0.refl _ | apply Drawn0.step)⟩
end Go.Proofs.Ytjdnkhgpnddncaa.G

