/- '[]byte("..")' of a constant, as one step of a walk over two operations (the literal's row, and its conversion to its own type, which marks it): what it makes reads as the bytes. -/
import Derived.Test.YtoeknjmdlmhajaaDoorWMore
import Derived.Test.YtoeknjmdlmhajaaDoorWWords
import Derived.Lib.SlBytesConst
import Derived.Deep.RegionLawGrows
namespace Go.Proofs.YtoeknjmdlmhajaaDoor.G
open Go.RowKit Go.Proofs.YtoeknjmdlmhajaaDoorW.PrintWords Go.Proofs.YtoeknjmdlmhajaaDoorW.PrintLast Go.Proofs.YtoeknjmdlmhajaaDoorW.PrintMore
set_option linter.unusedVariables false
theorem mark_cell {w : World} {g : Nat} {cs : Array Value} {t : TypeId} {f : Nat × Nat} (h : w.heap[g]? = some (Obj.cells cs t f)) (j : Nat) : w.cell? ((⟨g, 0, none⟩ : Addr).add j) = cs[j]? := by
  by_cases h0 : j = 0
  · subst h0; simp [Addr.add, World.cell?, h]
  · simp [Addr.add, World.cell?, h, h0]
theorem mark_C {w : World} {g : Nat} {t : TypeId} {f : Nat × Nat} {xs : List Int} (hc : w.heap[g]? = some (Obj.cells (encs (Value.int .u8) xs).toArray t f)) (hl : xs.length ≤ 9223372036854775807) : Kd.C (Kd.int .u8) w (some ⟨g, 0, none⟩) xs.length xs := by
  refine ⟨rfl, hl, fun _ => ⟨_, rfl, fun j p hj => ⟨[.int .u8 p], rfl, rfl, fun i u hu => ?_⟩⟩⟩
  have hi : i = 0 ∧ u = .int .u8 p := by
    cases i with
    | zero => exact ⟨rfl, by simpa using hu.symm⟩
    | succ i => simp at hu
  obtain ⟨rfl, rfl⟩ := hi
  have hj' : (encs (Value.int .u8) xs)[j]? = some (.int .u8 p) := by simp [encs, hj]
  rw [mark_cell hc]
  simpa [Kd.int, Kd.scalar] using hj'
theorem V_string {P : Program} {w : World} {src dst e base e0 : Nat} {ok : Nat → Prop} {v : Value} {xs : List Int} (hs : P.underlying src = some (.slice e)) (he : P.underlying e = some (.int .u8)) (hd : P.underlying dst = some .string) (h : Kd.V (Kd.int .u8) e0 w base ok v xs) :
    (convert src dst v).run P w = .ok (.string (strOfNums xs)) w := by
  obtain ⟨A, c, rfl, hl, hF⟩ := h
  exact Kd.C_string hs he hd (Kd.V_reads' (base := base) (e := e0) (Kd.V_mk hl hF)).2.2
section
variable {P : Program} {ops : Array Oper} {rest : List Oper} {o1 o2 : Oper} {a : Act} {Q : Exit → Act → World → Prop}
theorem mark_event {W : World} (hg1 : o1.guard = none) (hg2 : o2.guard = none) {N1 N2 : Tmp} (hd1 : o1.dst = some N1) (hd2 : o2.dst = some N2) {t e : TypeId} {ys xs : List Int} (hys : ys = xs) (ho2 : o2.op = .convert t t (.tmp N1))
    (ht : P.underlying t = some (.slice e)) (he : P.underlying e = some (.int .u8)) (hl : xs.length ≤ 9223372036854775807)
    (hrun : (execOp a.eval o1).run P W = .ok (.value (.slice (some ⟨W.heap.size, 0, none⟩) xs.length xs.length)) (W.alloc (.cells (encs (Value.int .u8) xs).toArray e)))
    (hev : ∀ v : Value, (a.put o1.dst v).eval (.tmp N1) = v)
    (h : ∀ A c w1, Kd.C (Kd.int .u8) w1 A ys.length ys → ys.length ≤ c → Below W.heap.size W w1 → wpList P ops Q rest ((a.put o1.dst (.slice A ys.length c)).put o2.dst (.slice A ys.length c)) w1) : wpList P ops Q (o1 :: o2 :: rest) a W := by
  subst hys
  refine Kd.event_run hg1 hrun (Kd.event_run (w1 := W.alloc (.cells (encs (Value.int .u8) ys).toArray e ((encs (Value.int .u8) ys).toArray.size, (encs (Value.int .u8) ys).toArray.size + 1))) (v := .slice (some ⟨W.heap.size, 0, none⟩) ys.length ys.length) hg2 ?_ (h _ _ _ (mark_C (g := W.heap.size) (by simpa using heap_alloc_new W _) hl) (Nat.le_refl _) ((Below.refl _ _).alloc (Nat.le_refl _) _)))
  have hk := Lib.run_convert_bytes_const (P := P) W t e (encs (Value.int .u8) ys).toArray ys.length ys.length ht he
  simp only [execOp, ho2, hev]
  simp [hk, Result.andThen]
end
end Go.Proofs.YtoeknjmdlmhajaaDoor.G
