/- Package memory's contracts, wherever the memory stands in the list of what is held. -/
import Derived.Test.YtffoolhfjomhhaaDoorMemA
namespace Go.Proofs.YtffoolhfjomhhaaDoor.G
open Go.RowKit Go.Proofs.YtffoolhfjomhhaaDoorW.PrintWords Go.Proofs.YtffoolhfjomhhaaDoorW.PrintLast Go.Proofs.YtffoolhfjomhhaaDoorW.PrintMore
set_option linter.unusedVariables false
set_option linter.unusedSimpArgs false
theorem SB.made {w0 w : World} {n : Nat} {L : List As} (hS : SB w0 w L) (hn : n ≤ 281474976710656) : SB w0 (w.alloc (.cells (madeCells #[.int .u8 0] n) 5)) (Row (Kd.int .u8) 5 (.slice (some ⟨w.heap.size, 0, none⟩) n n) (List.replicate n 0) :: L) :=
  SB.new hS (w1 := w.alloc (.cells (madeCells #[.int .u8 0] n) 5)) (below_alloc (Below.refl _ _) _) (A := Row (Kd.int .u8) 5 (.slice (some ⟨w.heap.size, 0, none⟩) n n) (List.replicate n 0)) (F' := fun k => k = w.heap.size)
    ⟨made_R (heap_alloc_new w _) (Nat.zero_le _) hn rfl, fun k hk => by rw [hk]; simp⟩ (fun k hk => by omega)
/-- A row of one's own as a string. -/
theorem SB.str {w0 w : World} {L : List As} {v : Value} {l : List Int} (h : SB w0 w (Row (Kd.int .u8) 5 v l :: L)) : (convert 39 9 v).run Tryd.prog w = .ok (.string (strOfNums l)) w := by
  obtain ⟨F, hF, _⟩ := h.head
  exact own_string (P := Tryd.prog) Tryd.underlying39 Tryd.underlying5 Tryd.underlying9 (Kd.own_of_R hF.1)
theorem SB.strAt {w0 w : World} {L : List As} (v : Value) {l : List Int} {U : List Int → List As} [Has (fun l => Row (Kd.int .u8) 5 v l) L l U] (h : SB w0 w L) : (convert 39 9 v).run Tryd.prog w = .ok (.string (strOfNums l)) w := by
  obtain ⟨R, h1, _⟩ := h.at_ (mk := fun l => Row (Kd.int .u8) 5 v l)
  exact h1.str
section
variable {w0 w : World} {L : List As} {p : Nat} {m : Mem} {U : Mem → List As} [hH : Has (MO p) L m U]
include hH
theorem memBytesH (hS : SB w0 w L) (hm : Good m) (at_ n : Int) {l : List Int} (ha : -9223372036854775808 ≤ at_ ∧ at_ < 9223372036854775808) (hn : -9223372036854775808 ≤ n ∧ n < 9223372036854775808) (h : mBytes m.b at_ n = l) :
    Calls Tryd.prog 16 #[.pointer (some ⟨p, 0, none⟩), .int .i64 at_, .int .i64 n] w fun e w' => ∃ v, e = .returned v ∧ SB w0 w' (Row (Kd.int .u8) 5 v l :: L) := by
  obtain ⟨R, h1, _, h2, _⟩ := hS.at_ (mk := MO p)
  subst h
  refine (memBytes h1 hm at_ n ha hn).mono ?_
  rintro e w' ⟨v, rfl, hs⟩
  exact ⟨v, rfl, h2 hs⟩
theorem memLayH (hS : SB w0 w L) (hm : Good m) (at_ : Int) (l : List Int) (Ab : Option Addr) (cb : Nat) (ha : -9223372036854775808 ≤ at_ ∧ at_ < 9223372036854775808) (hC : Kd.C (Kd.int .u8) w Ab l.length l) (hl : (l.length : Int) ≤ 9223372036854775807) {b' : List Int} (h : mLay m.b at_ l = some b') :
    Calls Tryd.prog 15 #[.pointer (some ⟨p, 0, none⟩), .int .i64 at_, .slice Ab l.length cb] w fun e w' => e = .returned (.bool true) ∧ SB w0 w' (U { m with b := b' }) := by
  obtain ⟨R, h1, _, _, h2, _⟩ := hS.at_ (mk := MO p)
  refine (memLay h1 hm at_ l Ab cb ha hC hl).mono ?_
  rintro e w' ⟨rfl, hs⟩
  rw [h] at hs ⊢
  exact ⟨rfl, h2 hs⟩
theorem memLayN (hS : SB w0 w L) (hm : Good m) (at_ : Int) (l : List Int) (Ab : Option Addr) (cb : Nat) (ha : -9223372036854775808 ≤ at_ ∧ at_ < 9223372036854775808) (hC : Kd.C (Kd.int .u8) w Ab l.length l) (hl : (l.length : Int) ≤ 9223372036854775807) (h : mLay m.b at_ l = none) :
    Calls Tryd.prog 15 #[.pointer (some ⟨p, 0, none⟩), .int .i64 at_, .slice Ab l.length cb] w fun e w' => e = .returned (.bool false) ∧ SB w0 w' L := by
  obtain ⟨R, h1, h2, _⟩ := hS.at_ (mk := MO p)
  refine (memLay h1 hm at_ l Ab cb ha hC hl).mono ?_
  rintro e w' ⟨rfl, hs⟩
  rw [h] at hs ⊢
  exact ⟨rfl, h2 hs⟩
theorem memStoreH (hS : SB w0 w L) (hG : Globs w) (hm : Good m) (op base off v : Int) (hop : -9223372036854775808 ≤ op ∧ op < 9223372036854775808) (hb : 0 ≤ base ∧ base < 18446744073709551616) (ho : 0 ≤ off ∧ off < 18446744073709551616) (hv : 0 ≤ v ∧ v < 18446744073709551616) {b' : List Int} (h : mStore m.b op base off v = some b') :
    Calls Tryd.prog 11 #[.pointer (some ⟨p, 0, none⟩), .int .i64 op, .int .u64 base, .int .u64 off, .int .u64 v] w fun e w' => e = .returned (.bool true) ∧ SB w0 w' (U { m with b := b' }) := by
  obtain ⟨R, h1, _, _, h2, _⟩ := hS.at_ (mk := MO p)
  refine (memStore h1 hG hm op base off v hop hb ho hv).mono ?_
  rintro e w' ⟨rfl, hs⟩
  rw [h] at hs ⊢
  exact ⟨rfl, h2 hs⟩
theorem memStoreN (hS : SB w0 w L) (hG : Globs w) (hm : Good m) (op base off v : Int) (hop : -9223372036854775808 ≤ op ∧ op < 9223372036854775808) (hb : 0 ≤ base ∧ base < 18446744073709551616) (ho : 0 ≤ off ∧ off < 18446744073709551616) (hv : 0 ≤ v ∧ v < 18446744073709551616) (h : mStore m.b op base off v = none) :
    Calls Tryd.prog 11 #[.pointer (some ⟨p, 0, none⟩), .int .i64 op, .int .u64 base, .int .u64 off, .int .u64 v] w fun e w' => e = .returned (.bool false) ∧ SB w0 w' L := by
  obtain ⟨R, h1, h2, _⟩ := hS.at_ (mk := MO p)
  refine (memStore h1 hG hm op base off v hop hb ho hv).mono ?_
  rintro e w' ⟨rfl, hs⟩
  rw [h] at hs ⊢
  exact ⟨rfl, h2 hs⟩
theorem memLayG (hS : SB w0 w L) (hm : Good m) (at_ : Int) (l : List Int) (Ab : Option Addr) (cb : Nat) (ha : -9223372036854775808 ≤ at_ ∧ at_ < 9223372036854775808) (hC : Kd.C (Kd.int .u8) w Ab l.length l) (hl : (l.length : Int) ≤ 9223372036854775807) {r : Bool} {b' : List Int} (hr : r = (mLay m.b at_ l).isSome) (hb' : b' = (mLay m.b at_ l).getD m.b) :
    Calls Tryd.prog 15 #[.pointer (some ⟨p, 0, none⟩), .int .i64 at_, .slice Ab l.length cb] w fun e w' => e = .returned (.bool r) ∧ SB w0 w' (U { m with b := b' }) := by
  obtain ⟨R, h1, _, _, h2, _⟩ := hS.at_ (mk := MO p)
  subst hr
  subst hb'
  refine (memLay h1 hm at_ l Ab cb ha hC hl).mono ?_
  rintro e w' ⟨rfl, hs⟩
  exact ⟨rfl, h2 hs⟩
theorem memStoreG (hS : SB w0 w L) (hG : Globs w) (hm : Good m) (op base off v : Int) (hop : -9223372036854775808 ≤ op ∧ op < 9223372036854775808) (hb : 0 ≤ base ∧ base < 18446744073709551616) (ho : 0 ≤ off ∧ off < 18446744073709551616) (hv : 0 ≤ v ∧ v < 18446744073709551616) {r : Bool} {b' : List Int} (hr : r = (mStore m.b op base off v).isSome) (hb' : b' = (mStore m.b op base off v).getD m.b) :
    Calls Tryd.prog 11 #[.pointer (some ⟨p, 0, none⟩), .int .i64 op, .int .u64 base, .int .u64 off, .int .u64 v] w fun e w' => e = .returned (.bool r) ∧ SB w0 w' (U { m with b := b' }) := by
  obtain ⟨R, h1, _, _, h2, _⟩ := hS.at_ (mk := MO p)
  subst hr
  subst hb'
  refine (memStore h1 hG hm op base off v hop hb ho hv).mono ?_
  rintro e w' ⟨rfl, hs⟩
  exact ⟨rfl, h2 hs⟩
theorem memSumH (hS : SB w0 w L) (hm : Good m) : Calls Tryd.prog 18 #[.pointer (some ⟨p, 0, none⟩)] w fun e w' => e = .returned (.int .u64 (mSum m.b)) ∧ SB w0 w' L := by
  obtain ⟨R, h1, h2, _⟩ := hS.at_ (mk := MO p)
  refine (memSum h1 hm).mono ?_
  rintro e w' ⟨rfl, ⟨nd, rfl⟩⟩
  exact ⟨rfl, h2 (h1.drewN _)⟩
theorem memPagesH (hS : SB w0 w L) (hm : Good m) {n : Int} (h : (m.b.length : Int) / 65536 = n) : Calls Tryd.prog 19 #[.pointer (some ⟨p, 0, none⟩)] w fun e w' => e = .returned (.int .i64 n) ∧ SB w0 w' L := by
  obtain ⟨R, h1, h2, _⟩ := hS.at_ (mk := MO p)
  subst h
  refine (memPagesS h1 hm).mono ?_
  rintro e w' ⟨rfl, ⟨nd, rfl⟩⟩
  exact ⟨rfl, h2 (h1.drewN _)⟩
end
end Go.Proofs.YtffoolhfjomhhaaDoor.G
