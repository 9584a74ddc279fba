/- From the rows' condition on math/bits' two tables to what the walks ask; a world that meets the condition. -/
import Derived.Test.YtjonlcnmpejamaaDoorRows
import Derived.Test.YtjonlcnmpejamaaDoorIGlob
import Derived.Lib.LaidTab
import Derived.Lib.LaidU8
import Derived.Lib.LaidIn
import Derived.LaidHandle
import Derived.Handed
import Derived.Stop.Joined
namespace Go.Proofs.YtjonlcnmpejamaaDoor.G
open Go Go.Lib
set_option maxRecDepth 100000
def tabs : List (String × DataW Unit) := [("math/bits.deBruijn32tab", Rows.laid_math_bits_deBruijn32tab), ("math/bits.deBruijn64tab", Rows.laid_math_bits_deBruijn64tab)]
def zs32 : List Int := Lib.deBruijn32tab.map fun (n : Nat) => (n : Int)
def zs64 : List Int := Lib.deBruijn64tab.map fun (n : Nat) => (n : Int)
theorem tab32_eq : (Rows.laid_math_bits_deBruijn32tab : DataW Unit) = tabData .u8 zs32 := by kernel_rfl
theorem tab64_eq : (Rows.laid_math_bits_deBruijn64tab : DataW Unit) = tabData .u8 zs64 := by kernel_rfl
theorem at32 : ∀ j, j < 32 → zs32[j]? = some ((Lib.deBruijn32tab.getD j 0 : Nat) : Int) := by decide +kernel
theorem at64 : ∀ j, j < 64 → zs64[j]? = some ((Lib.deBruijn64tab.getD j 0 : Nat) : Int) := by decide +kernel
theorem globs_of_laid {W : World} (h : laidMetH Tryd.prog tabs W) : Globs W := by
  have h' : laidMet Tryd.prog tabs W := h
  have h3 := Lib.laidMet.reads h' (n := "math/bits.deBruijn32tab") (.head _)
  have h4 := Lib.laidMet.reads h' (n := "math/bits.deBruijn64tab") (.tail _ (.head _))
  rw [tab32_eq] at h3
  rw [tab64_eq] at h4
  have n3 : Tryd.prog.globalNamed "math/bits.deBruijn32tab" = some 0 := by kernel_rfl
  have n4 : Tryd.prog.globalNamed "math/bits.deBruijn64tab" = some 1 := by kernel_rfl
  have y3 : (Tryd.prog.globals[0]?).map (·.type) = some 63 := by kernel_rfl
  have y4 : (Tryd.prog.globals[1]?).map (·.type) = some 64 := by kernel_rfl
  have t5 : Tryd.prog.underlying 5 = some (.int .u8) := Tryd.underlying5
  have t119 : Tryd.prog.underlying 63 = some (.array 32 5) := by kernel_rfl
  have t139 : Tryd.prog.underlying 64 = some (.array 64 5) := by kernel_rfl
  have c5 : Tryd.prog.cellsOf 5 = 1 := by kernel_rfl
  have c119 : Tryd.prog.cellsOf 63 = 32 := by kernel_rfl
  have c139 : Tryd.prog.cellsOf 64 = 64 := by kernel_rfl
  refine ⟨fun c hc => ?_, fun c hc => ?_⟩
  · obtain ⟨g, t, cs, fuel, p, hg, hty, hvar, hd⟩ := h3
    obtain rfl := Option.some.inj (n3.symm.trans hg)
    obtain rfl := Option.some.inj (y3.symm.trans hty)
    have hcs := cells_of_tab t119 t5 c5 c119 hd
    have := World.var?_cell hg hvar c
    rw [this, ← Array.getElem?_toList, hcs, List.getElem?_map, at32 c hc]
    rfl
  · obtain ⟨g, t, cs, fuel, p, hg, hty, hvar, hd⟩ := h4
    obtain rfl := Option.some.inj (n4.symm.trans hg)
    obtain rfl := Option.some.inj (y4.symm.trans hty)
    have hcs := cells_of_tab t139 t5 c5 c139 hd
    have := World.var?_cell hg hvar c
    rw [this, ← Array.getElem?_toList, hcs, List.getElem?_map, at64 c hc]
    rfl
/-- A world that meets the condition. -/
noncomputable def laidWorld (os : Os) : World :=
  let w0 := World.holding Tryd.prog os ⟨#[], #[], []⟩
  let put (h : Array Obj) (g : Nat) (cs : Array Value) : Array Obj := h.modify g fun
    | .cells _ t frozen => .cells cs t frozen
    | o => o
  let h1 := put w0.heap 0 (zs32.map fun z => Value.int .u8 z).toArray
  let h2 := put h1 1 (zs64.map fun z => Value.int .u8 z).toArray
  { w0 with heap := h2 }
theorem laid_met (os : Os) (args : Array Value) : laidMetH Tryd.prog tabs ((laidWorld os).forCall (fun _ _ => 0) ⟨#[], args, []⟩).memory :=
  laidMetH_of_parts (show laidMet Tryd.prog tabs _ from (LaidIn.of_run [0, 1] 8 (by kernel_rfl) (by kernel_rfl) (by kernel_rfl) (by kernel_rfl)).met) (by kernel_rfl)
end Go.Proofs.YtjonlcnmpejamaaDoor.G
