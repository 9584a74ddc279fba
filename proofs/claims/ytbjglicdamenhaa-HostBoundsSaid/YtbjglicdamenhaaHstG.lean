/- Package host: Do. -/
import Derived.Deep.DeepMust
import Derived.Test.YtbjglicdamenhaaHstF
namespace Go.Proofs.Ytbjglicdamenhaa.G
open Go.RowKit Go.Proofs.YtbjglicdamenhaaW.PrintWords Go.Proofs.YtbjglicdamenhaaW.PrintLast Go.Proofs.YtbjglicdamenhaaW.PrintMore
attribute [local go_sem] max2_int min2_int max_two min_two max_three min_three max_four min_four   -- for this text's walks alone
attribute [local go_sem] run_store_func
set_option linter.unusedVariables false
set_option linter.unusedSimpArgs false
theorem SB.pick6 {w0 w : World} {A B C D E F : As} {L : List As} (h : SB w0 w (A :: B :: C :: D :: E :: F :: L)) (ix : List Nat) (hp : pickOk 6 ix = true := by kernel_rfl) : SB w0 w ((ix.map fun i => [A, B, C, D, E, F].getD i As.none) ++ L) := SB.pickL [A, B, C, D, E, F] h ix hp
theorem SB.pick7 {w0 w : World} {A B C D E F G : As} {L : List As} (h : SB w0 w (A :: B :: C :: D :: E :: F :: G :: L)) (ix : List Nat) (hp : pickOk 7 ix = true := by kernel_rfl) : SB w0 w ((ix.map fun i => [A, B, C, D, E, F, G].getD i As.none) ++ L) := SB.pickL [A, B, C, D, E, F, G] h ix hp
theorem SB.pick8 {w0 w : World} {A B C D E F G H : As} {L : List As} (h : SB w0 w (A :: B :: C :: D :: E :: F :: G :: H :: L)) (ix : List Nat) (hp : pickOk 8 ix = true := by kernel_rfl) : SB w0 w ((ix.map fun i => [A, B, C, D, E, F, G, H].getD i As.none) ++ L) := SB.pickL [A, B, C, D, E, F, G, H] h ix hp
theorem SB.pick9 {w0 w : World} {A B C D E F G H I : As} {L : List As} (h : SB w0 w (A :: B :: C :: D :: E :: F :: G :: H :: I :: L)) (ix : List Nat) (hp : pickOk 9 ix = true := by kernel_rfl) : SB w0 w ((ix.map fun i => [A, B, C, D, E, F, G, H, I].getD i As.none) ++ L) := SB.pickL [A, B, C, D, E, F, G, H, I] h ix hp
/-- A call's types and arguments, read. -/
def ArgR (w0 : World) (Ap : Option Addr) (ps : List Int) (Ar : Option Addr) (ts : List Int) (Aa : Option Addr) (ws : List Int) : As :=
  RdP w0 (fun W => Kd.C (Kd.int .u8) W Ap ps.length ps ∧ Kd.C (Kd.int .u8) W Ar ts.length ts ∧ Kd.C (Kd.int .u64) W Aa ws.length ws)
/-- What memory and globals say at a call. -/
structure EnvA (w0 : World) (am ag : Option Addr) (E : As) (s : Int) (gs : List Int) : Prop where
  sum : ∀ {w : World} {L : List As}, SB w0 w (E :: L) → Calls Try.prog 22 #[.pointer am] w fun e w' => e = .returned (.int .u64 s) ∧ SB w0 w' (E :: L)
  all : ∀ {w : World} {L : List As}, SB w0 w (E :: L) → Calls Try.prog 25 #[.pointer ag] w fun e w' => ∃ v, e = .returned v ∧ SB w0 w' (Row (Kd.int .u64) 31 v gs :: E :: L)
theorem hstDoNil (f : Int) (tv av : Value) (am ag : Option Addr) (A1 A2 : Option Addr) (n1 c1 n2 c2 : Nat) (w : World) :
    Calls Try.prog 12 #[.pointer none, .int .i64 f, .agg #[.slice A1 n1 c1, .slice A2 n2 c2], av, .pointer am, .pointer ag] w fun e w' => e = .returned (.tuple #[.int .u64 0, .int .i64 11]) ∧ Below w.heap.size w w' := by
  go_enter Try.func12, Try.ntmps12
  go_wp2
  go_ret2
  exact ⟨rfl, below_alloc (Below.refl _ _) _⟩
theorem hstDoNo {w0 w : World} {L : List As} {p : Nat} {rs : List S86} {lg : List S80} {E : As} {Ap Ar Aa : Option Addr} {ps ts ws : List Int} {cp cr ca : Nat} {am ag : Option Addr} (f : Int)
    (hS : SB w0 w (HO p rs lg :: E :: ArgR w0 Ap ps Ar ts Aa ws :: L)) (hl : ps.length ≤ 1000000) (hl2 : ws.length ≤ 1000000) (hf : fitsB ps ws = false) :
    Calls Try.prog 12 #[.pointer (some ⟨p, 0, none⟩), .int .i64 f, .agg #[.slice Ap ps.length cp, .slice Ar ts.length cr], .slice Aa ws.length ca, .pointer am, .pointer ag] w fun e w' =>
      e = .returned (.tuple #[.int .u64 0, .int .i64 11]) ∧ SB w0 w' (HO p rs lg :: E :: ArgR w0 Ap ps Ar ts Aa ws :: L) := by
  have hbx := hS.box #[.slice Ap ps.length cp, .slice Ar ts.length cr] 37
  have q0 : _ = some (Value.slice Ap ps.length cp) := blk_cell hbx.blk 0
  have HS := Aside0.mk hbx
  have hq := (hbx.pick4 [3]).rdp
  have HF := Aside0.mk (hstFits Ap Aa cp ca ps ws _ hq.1 hq.2.2 hl hl2)
  rw [hf] at HF
  clear hS hbx hf hq
  go_enter Try.func12, Try.ntmps12
  go_wp2_with (go_at_call 32; go_must ((with_reducible refine (HF.out).mono ?_); rintro e w2 ⟨rfl, hb⟩; have HS2 := Aside0.mk (HS.out.below hb); clear hb))
  go_ret2
  exact ⟨rfl, HS2.out.drop⟩
end Go.Proofs.Ytbjglicdamenhaa.G
