/- Package table's contracts wherever the object stands; the document's example. -/
import Derived.Test.YtjdnkhgpnddncaaTabD
namespace Go.Proofs.Ytjdnkhgpnddncaa.G
open Go.RowKit Go.Proofs.YtjdnkhgpnddncaaW.PrintWords Go.Proofs.YtjdnkhgpnddncaaW.PrintLast Go.Proofs.YtjdnkhgpnddncaaW.PrintMore
attribute [local go_sem] max2_int min2_int max_two min_two max_three min_three max_four min_four   -- for this text's walks alone
set_option linter.unusedVariables false
set_option linter.unusedSimpArgs false
section
variable {w0 w : World} {L : List As} {p : Nat} {m : Tb} {U : Tb → List As} [hH : Has (TO p) L m U]
include hH
theorem tabLenH (hS : SB w0 w L) {n : Nat} (hn : m.l.length = n) : Calls Try.prog 14 #[.pointer (some ⟨p, 0, none⟩)] w fun e w' => e = .returned (.int .i64 n) ∧ SB w0 w' L := by
  obtain ⟨R, h1, h2, _⟩ := hS.at_ (mk := TO p)
  subst hn
  obtain ⟨F, hF, _⟩ := h1.head
  obtain ⟨A, c, hblk, _⟩ := ObR.open_ hF
  refine (tabLen p A _ c w ((blk_cell hblk 0).trans rfl)).mono ?_
  rintro e w' ⟨rfl, hd⟩
  exact ⟨rfl, hS.below (drawn_below hd)⟩
theorem tabAtH (hS : SB w0 w L) (i : Int) (hi : 0 ≤ i ∧ i < 18446744073709551616) {x t : Int} (h : tAt m.l i = (x, t)) : Calls Try.prog 12 #[.pointer (some ⟨p, 0, none⟩), .int .u64 i] w fun e w' => e = .returned (.tuple #[.int .i64 x, .int .i64 t]) ∧ SB w0 w' L := by
  obtain ⟨R, h1, h2, _⟩ := hS.at_ (mk := TO p)
  refine (tabAt h1 i hi).mono ?_
  rintro e w' ⟨rfl, hs⟩
  rw [h]
  exact ⟨rfl, h2 hs⟩
theorem tabLayG (hS : SB w0 w L) (at_ : Int) (ys : List Int) (Ab : Option Addr) (cb : Nat) (ha : okI at_) (hC : Kd.C (Kd.int .i64) w Ab ys.length ys) (hlen : m.l.length ≤ 1000000) {r : Bool} {l' : List Int} (hr : (tLay m.l at_ ys).isSome = r) (hl : (tLay m.l at_ ys).getD m.l = l') :
    Calls Try.prog 10 #[.pointer (some ⟨p, 0, none⟩), .int .i64 at_, .slice Ab ys.length cb] w fun e w' => e = .returned (.bool r) ∧ SB w0 w' (U { m with l := l' }) := by
  obtain ⟨R, h1, _, _, h2, _⟩ := hS.at_ (mk := TO p)
  subst hr
  subst hl
  refine (tabLay h1 at_ ys Ab cb ha hC hlen).mono ?_
  rintro e w' ⟨rfl, hs⟩
  exact ⟨rfl, h2 hs⟩
theorem tabAllH (hS : SB w0 w L) (hl : m.l.length ≤ 1000000) {l : List Int} (h : m.l = l) : Calls Try.prog 11 #[.pointer (some ⟨p, 0, none⟩)] w fun e w' => ∃ v, e = .returned v ∧ SB w0 w' (Row (Kd.int .i64) 3 v l :: L) := by
  obtain ⟨R, h1, _, h2, _⟩ := hS.at_ (mk := TO p)
  subst h
  refine (tabAll h1 hl).mono ?_
  rintro e w' ⟨v, rfl, hs⟩
  exact ⟨v, rfl, h2 hs⟩
end
section
variable {w0 w : World} {L : List As} {p : Nat} {l : List S95} {U : List S95 → List As} [hH : Has (GO p) L l U]
include hH
theorem globGetH (hS : SB w0 w L) (hl : l.length ≤ 1000000) (i : Int) (hi : okI i) {x : Int} {b : Bool} (h : gGet l i = (x, b)) : Calls Try.prog 20 #[.pointer (some ⟨p, 0, none⟩), .int .i64 i] w fun e w' => e = .returned (.tuple #[.int .u64 x, .bool b]) ∧ SB w0 w' L := by
  obtain ⟨R, h1, h2, _⟩ := hS.at_ (mk := GO p)
  refine (globGet h1 hl i hi).mono ?_
  rintro e w' ⟨rfl, hs⟩
  rw [h]
  exact ⟨rfl, h2 hs⟩
theorem globTypeH (hS : SB w0 w L) (hl : l.length ≤ 1000000) (i : Int) (hi : okI i) {t : Int} {b k : Bool} (h : gType l i = (t, b, k)) : Calls Try.prog 18 #[.pointer (some ⟨p, 0, none⟩), .int .i64 i] w fun e w' => e = .returned (.tuple #[.int .u8 t, .bool b, .bool k]) ∧ SB w0 w' L := by
  obtain ⟨R, h1, h2, _⟩ := hS.at_ (mk := GO p)
  refine (globType h1 hl i hi).mono ?_
  rintro e w' ⟨rfl, hs⟩
  rw [h]
  exact ⟨rfl, h2 hs⟩
theorem globSetH (hS : SB w0 w L) (hl : l.length ≤ 1000000) (i v : Int) (hi : okI i) (hv : 0 ≤ v ∧ v < 18446744073709551616) {r : Int} {l' : List S95} (h : gSet l i v = (r, l')) : Calls Try.prog 19 #[.pointer (some ⟨p, 0, none⟩), .int .i64 i, .int .u64 v] w fun e w' => e = .returned (.int .i64 r) ∧ SB w0 w' (U l') := by
  obtain ⟨R, h1, _, _, h2, _⟩ := hS.at_ (mk := GO p)
  refine (globSet h1 hl i v hi hv).mono ?_
  rintro e w' ⟨rfl, hs⟩
  rw [h] at hs ⊢
  exact ⟨rfl, h2 hs⟩
theorem globAddH (hS : SB w0 w L) (hl : l.length ≤ 128) (t : Int) (mu : Bool) (v : Int) (ht : 0 ≤ t ∧ t < 256) (hv : 0 ≤ v ∧ v < 18446744073709551616) {x y : Int} {l' : List S95} (h : gAdd l t mu v = (x, y, l')) : Calls Try.prog 16 #[.pointer (some ⟨p, 0, none⟩), .int .u8 t, .bool mu, .int .u64 v] w fun e w' => e = .returned (.tuple #[.int .i64 x, .int .i64 y]) ∧ SB w0 w' (U l') := by
  obtain ⟨R, h1, _, _, h2, _⟩ := hS.at_ (mk := GO p)
  refine (globAdd h1 hl t mu v ht hv).mono ?_
  rintro e w' ⟨rfl, hs⟩
  rw [h] at hs ⊢
  exact ⟨rfl, h2 hs⟩
theorem globAllH (hS : SB w0 w L) (hl : l.length ≤ 1000000) {ys : List Int} (h : l.map S95.f2 = ys) : Calls Try.prog 22 #[.pointer (some ⟨p, 0, none⟩)] w fun e w' => ∃ v, e = .returned v ∧ SB w0 w' (Row (Kd.int .u64) 35 v ys :: L) := by
  obtain ⟨R, h1, _, h2, _⟩ := hS.at_ (mk := GO p)
  subst h
  refine (globAll h1 hl).mono ?_
  rintro e w' ⟨v, rfl, hs⟩
  exact ⟨v, rfl, h2 hs⟩
end
/-- The new, empty globals. -/
theorem SB.newGlobs {w0 w : World} {L : List As} (h : SB w0 w L) : SB w0 (w.alloc (.cells #[.slice none 0 0] 48)) (GO w.heap.size [] :: L) := SB.newObj (d := k95) (e := 83) (t := 48) h []
theorem newTab3 {w0 w : World} {L : List As} (hS : SB w0 w L) : Calls Try.prog 9 #[.agg #[.int .i64 3, .int .i64 0, .bool false]] w fun e w' => ∃ p, e = .returned (.tuple #[.pointer (some ⟨p, 0, none⟩), .int .i64 0]) ∧ SB w0 w' (TO p ⟨[-1, -1, -1], 3, 0, false⟩ :: L) := newTabOk hS 3 0 false rfl
/-- The literal's row, and what may be read of it. -/
theorem SB.litC {w0 w : World} {L : List As} {k : IntKind} {e : Nat} (h : SB w0 w L) (xs : List Int) (hl : xs.length ≤ 1000000) : (Kd.int k).C (w.alloc (.cells (encs (Value.int k) xs).toArray e)) (some ⟨w.heap.size, 0, none⟩) xs.length xs := by
  obtain ⟨A, c, he, _, hC⟩ := (SB.lit (k := k) (e := e) h xs hl).reads
  injection he with ea _ _
  subst ea
  exact hC
theorem lit7 {w0 w : World} {L : List As} (h : SB w0 w L) : (Kd.int .i64).C (w.alloc (.cells #[.int .i64 7] 3)) (some ⟨w.heap.size, 0, none⟩) 1 [7] := h.litC [7] (by decide)
theorem tabLay7 {w0 w : World} {L : List As} {p : Nat} {A : Option Addr} (hS : SB w0 w (TO p ⟨[-1, -1, -1], 3, 0, false⟩ :: L)) (hC : (Kd.int .i64).C w A 1 [7]) :
    Calls Try.prog 10 #[.pointer (some ⟨p, 0, none⟩), .int .i64 1, .slice A 1 1] w fun e w' => e = .returned (.bool true) ∧ SB w0 w' (TO p ⟨[-1, 7, -1], 3, 0, false⟩ :: L) :=
  tabLayG (p := p) hS 1 [7] A 1 (by decide) hC (by decide) rfl rfl
theorem awake (w : World) : Calls Try.prog 8 #[] w fun e w' => e = .returned (.bool true) ∧ Below w.heap.size w w' := by
  go_enter Try.func8, Try.ntmps8
  go_wp2_with (first
    | (go_at_call 9; (with_reducible refine (newTab3 (SB.start w)).mono ?_); rintro e w1 ⟨p, rfl, hs⟩; have HS := Aside0.mk hs; clear hs)
    | (go_at_call 10; (with_reducible refine (tabLay7 (HS.out.alloc _) (lit7 HS.out)).mono ?_); rintro e w2 ⟨rfl, hs⟩; have HS2 := Aside0.mk hs; clear hs)
    | (go_at_call 12; (with_reducible refine (tabAtH (p := p) HS2.out 1 (by decide) (x := 7) (t := 0) (by decide)).mono ?_); rintro e w3 ⟨rfl, hs⟩; have HS3 := Aside0.mk hs; clear hs)
    | (go_at_call 12; (with_reducible refine (tabAtH (p := p) HS3.out 0 (by decide) (x := 0) (t := 6) (by decide)).mono ?_); rintro e w4 ⟨rfl, hs⟩; have HS4 := Aside0.mk hs; clear hs)
    | (go_at_call 12; (with_reducible refine (tabAtH (p := p) HS4.out 3 (by decide) (x := 0) (t := 5) (by decide)).mono ?_); rintro e w5 ⟨rfl, hs⟩; have HS5 := Aside0.mk hs; clear hs)
    | (go_at_call 16; (with_reducible refine (globAddH (p := w5.heap.size) HS5.out.newGlobs (by decide) 127 true 5 (by decide) (by decide) rfl).mono ?_); rintro e w6 ⟨rfl, hs⟩; have HS6 := Aside0.mk hs; clear hs)
    | (go_at_call 20; (with_reducible refine (globGetH (p := w5.heap.size) HS6.out (by decide) 0 (by decide) (x := 5) (b := true) rfl).mono ?_); rintro e w7 ⟨rfl, hs⟩; have HS7 := Aside0.mk hs; clear hs))
  go_ret
  exact ⟨rfl, HS7.out.bel⟩
end Go.Proofs.Ytjdnkhgpnddncaa.G

