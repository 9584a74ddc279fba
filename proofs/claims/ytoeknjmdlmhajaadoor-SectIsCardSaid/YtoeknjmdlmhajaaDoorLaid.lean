/- From the rows' condition on unicode/utf8's two tables to what the walks ask; a world that meets the condition. -/
import Derived.Test.YtoeknjmdlmhajaaDoorRows
import Derived.Test.YtoeknjmdlmhajaaDoorGlob
import Derived.Lib.LaidU8
import Derived.Lib.LaidIn
import Derived.LaidHandle
import Derived.Handed
import Derived.Stop.Joined
namespace Go.Proofs.YtoeknjmdlmhajaaDoor.G
open Go Go.Lib
set_option maxRecDepth 100000
def tabs : List (String × DataW Unit) := [("unicode/utf8.acceptRanges", Rows.laid_unicode_utf8_acceptRanges), ("unicode/utf8.first", Rows.laid_unicode_utf8_first)]
theorem first_eq : Rows.laid_unicode_utf8_first = Lib.firstData := by kernel_rfl
theorem accept_eq : (Rows.laid_unicode_utf8_acceptRanges : DataW Unit) = Lib.acceptData := by kernel_rfl
theorem globs_of_laid {W : World} (h : laidMetH Tryd.prog tabs W) : Globs W := by
  have h' : laidMet Tryd.prog tabs W := h
  have h4 := Lib.laidMet.reads h' (n := "unicode/utf8.acceptRanges") (.head _)
  have h3 := Lib.laidMet.reads h' (n := "unicode/utf8.first") (.tail _ (.head _))
  rw [accept_eq] at h4
  rw [first_eq] at h3
  have n3 : Tryd.prog.globalNamed "unicode/utf8.first" = some 0 := by kernel_rfl
  have n4 : Tryd.prog.globalNamed "unicode/utf8.acceptRanges" = some 1 := by kernel_rfl
  have y3 : (Tryd.prog.globals[0]?).map (·.type) = some 88 := by kernel_rfl
  have y4 : (Tryd.prog.globals[1]?).map (·.type) = some 91 := by kernel_rfl
  have t5 : Tryd.prog.underlying 5 = some (.int .u8) := Tryd.underlying5
  have t119 : Tryd.prog.underlying 88 = some (.array 256 5) := by kernel_rfl
  have t139 : Tryd.prog.underlying 91 = some (.array 16 90) := by kernel_rfl
  have c5 : Tryd.prog.cellsOf 5 = 1 := by kernel_rfl
  have c119 : Tryd.prog.cellsOf 88 = 256 := by kernel_rfl
  have c138 : Tryd.prog.cellsOf 90 = 2 := by kernel_rfl
  refine ⟨fun c hc => ?_, fun i hi => ?_⟩
  · obtain ⟨g, t, cs, fuel, p, hg, hty, hvar, hd⟩ := h3
    obtain rfl := Option.some.inj (n3.symm.trans hg)
    obtain rfl := Option.some.inj (y3.symm.trans hty)
    have hcs := cells_of_tab t119 t5 c5 c119 hd
    have := World.var?_cell hg hvar c
    rw [this, ← Array.getElem?_toList, hcs]
    simp [firstTab, hc]
  · obtain ⟨g, t, cs, fuel, p, hg, hty, hvar, hd⟩ := h4
    obtain rfl := Option.some.inj (n4.symm.trans hg)
    obtain rfl := Option.some.inj (y4.symm.trans hty)
    obtain ⟨fuel', d, q, hdi, he⟩ := array_elem t139 hd i hi
    simp only [List.getElem?_map, List.getElem?_range hi, Option.map_some, Option.some.injEq] at hdi
    subst hdi
    rw [c138] at he
    have hcs := ints_of_struct Tryd.underlying90 (fun j f hj => by
      match j, hj with
      | 0, hj => simp at hj; subst hj; exact ⟨t5, rfl, c5⟩
      | 1, hj => simp at hj; subst hj; exact ⟨t5, rfl, c5⟩
      | j + 2, hj => simp at hj) (by rw [c138]; rfl) he
    have e0 := congrArg (·[0]?) hcs
    have e1 := congrArg (·[1]?) hcs
    simp only [List.getElem?_take, List.getElem?_drop] at e0 e1
    constructor
    · rw [World.var?_cell hg hvar (2 * i), ← Array.getElem?_toList]
      simpa [Nat.mul_comm] using e0
    · rw [World.var?_cell hg hvar (2 * i + 1), ← Array.getElem?_toList]
      simpa [Nat.mul_comm] using e1
/-- A world that meets the condition. -/
noncomputable def laidWorld (os : Os) : World :=
  let w0 := World.holding Tryd.prog os ⟨#[], #[], []⟩
  let put (h : Array Obj) (g : Nat) (cs : Array Value) : Array Obj := h.modify g fun
    | .cells _ t frozen => .cells cs t frozen
    | o => o
  let h1 := put w0.heap 0 (Lib.firstTab.map fun z => Value.int .u8 z).toArray
  let h2 := put h1 1 ((List.range 16).flatMap fun i => [Value.int .u8 (Lib.accLo i), Value.int .u8 (Lib.accHi i)]).toArray
  { w0 with heap := h2 }
theorem laid_met (os : Os) (args : Array Value) : laidMetH Tryd.prog tabs ((laidWorld os).forCall (fun _ _ => 0) ⟨#[], args, []⟩).memory :=
  laidMetH_of_parts (show laidMet Tryd.prog tabs _ from (LaidIn.of_run [1, 0] 8 (by kernel_rfl) (by kernel_rfl) (by kernel_rfl) (by kernel_rfl)).met) (by kernel_rfl)
end Go.Proofs.YtoeknjmdlmhajaaDoor.G
