/- From the rows' condition on package instr's table to what the walks ask; a world that meets the condition. -/
import Derived.Test.YtffoolhfjomhhaaDoorRows
import Derived.Test.YtffoolhfjomhhaaDoorMemA
import Derived.Lib.LaidU8
import Derived.Lib.LaidIn
import Derived.Lib.SmallJoins
import Derived.LaidHandle
import Derived.Handed
import Derived.Stop.Joined
namespace Go.Proofs.YtffoolhfjomhhaaDoor.G
open Go Go.Lib
set_option maxRecDepth 100000
set_option linter.unusedVariables false
def tabs : List (String × DataW Unit) := [("avocet/instr.rows", Rows.laid_avocet_instr_rows)]
def rowD (r : Int × Int × Bool × Bool) : DataW Unit := .agg [.lit (.int .u8 r.1), .lit (.int .i64 r.2.1), .lit (.bool r.2.2.1), .lit (.bool r.2.2.2)]
theorem rows_eq : (Rows.laid_avocet_instr_rows : DataW Unit) = .agg (accT.map rowD) := by kernel_rfl
theorem globs_of_laid {W : World} (h : laidMetH Tryd.prog tabs W) : Globs W := by
  have h' : laidMet Tryd.prog tabs W := h
  have h4 := Lib.laidMet.reads h' (n := "avocet/instr.rows") (.head _)
  rw [rows_eq] at h4
  have n4 : Tryd.prog.globalNamed "avocet/instr.rows" = some 0 := by kernel_rfl
  have y4 : (Tryd.prog.globals[0]?).map (·.type) = some 71 := by kernel_rfl
  have t71 : Tryd.prog.underlying 71 = some (.array 23 70) := by kernel_rfl
  have c70 : Tryd.prog.cellsOf 70 = 4 := by kernel_rfl
  intro i hi
  obtain ⟨g, t, cs, fuel, p, hg, hty, hvar, hd⟩ := h4
  obtain rfl := Option.some.inj (n4.symm.trans hg)
  obtain rfl := Option.some.inj (y4.symm.trans hty)
  obtain ⟨fuel', d, q, hdi, he⟩ := array_elem t71 hd i hi
  have hr : accT[i]? = some (accR i) := by
    have : i < accT.length := hi
    simp [accR, this]
  simp only [List.getElem?_map, hr, Option.map_some, Option.some.injEq] at hdi
  subst hdi
  rw [c70] at he
  obtain ⟨y0, y1, y2, y3, n, hx, hl, h0, h1, h2, h3⟩ := Go.Joins.trod_struct4 Tryd.underlying70 he
  obtain ⟨z0, e0, rfl, _⟩ := DataW.trod_int Tryd.underlying5 h0
  obtain ⟨z1, e1, rfl, _⟩ := DataW.trod_int Tryd.underlying3 h1
  obtain ⟨z2, e2, rfl⟩ := DataW.trod_bool Tryd.underlying4 h2
  obtain ⟨z3, e3, rfl⟩ := DataW.trod_bool Tryd.underlying4 h3
  have k0 : Tryd.prog.cellsOf 5 = 1 := by kernel_rfl
  have k1 : Tryd.prog.cellsOf 3 = 1 := by kernel_rfl
  have k2 : Tryd.prog.cellsOf 4 = 1 := by kernel_rfl
  simp only [rowD, Prod.mk.injEq, DataW.agg.injEq, List.cons.injEq, DataW.lit.injEq, Lit.int.injEq, Lit.bool.injEq, true_and, and_true] at hx
  obtain ⟨⟨r0, r1, r2, r3⟩, _⟩ := hx
  have f0 := congrArg (·[0]?) e0
  have f1 := congrArg (·[0]?) e1
  have f2 := congrArg (·[0]?) e2
  have f3 := congrArg (·[0]?) e3
  simp only [k0, k1, k2, List.getElem?_take, List.getElem?_drop] at f0 f1 f2 f3
  refine ⟨?_, ?_, ?_, ?_⟩
  · rw [World.var?_cell hg hvar (i * 4), ← Array.getElem?_toList, r0]; simpa using f0
  · rw [World.var?_cell hg hvar (i * 4 + 1), ← Array.getElem?_toList, r1]; simpa using f1
  · rw [World.var?_cell hg hvar (i * 4 + 2), ← Array.getElem?_toList, r2]; simpa using f2
  · rw [World.var?_cell hg hvar (i * 4 + 3), ← Array.getElem?_toList, r3]; simpa using f3
/-- A world that meets the condition. -/
noncomputable def laidWorld (os : Os) : World :=
  let w0 := World.holding Tryd.prog os ⟨#[], #[], []⟩
  let put (h : Array Obj) (g : Nat) (cs : Array Value) : Array Obj := h.modify g fun
    | .cells _ t frozen => .cells cs t frozen
    | o => o
  let h1 := put w0.heap 0 (accT.flatMap fun r => [Value.int .u8 r.1, Value.int .i64 r.2.1, Value.bool r.2.2.1, Value.bool r.2.2.2]).toArray
  { w0 with heap := h1 }
theorem laid_met (os : Os) (args : Array Value) : laidMetH Tryd.prog tabs ((laidWorld os).forCall (fun _ _ => 0) ⟨#[], args, []⟩).memory :=
  laidMetH_of_parts (show laidMet Tryd.prog tabs _ from (LaidIn.of_run [0] 8 (by kernel_rfl) (by kernel_rfl) (by kernel_rfl) (by kernel_rfl)).met) (by kernel_rfl)
end Go.Proofs.YtffoolhfjomhhaaDoor.G
