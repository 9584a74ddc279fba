/- '[]byte(s)' as one step of a walk: what it makes reads as the string's bytes. -/
import Derived.Test.YtoeknjmdlmhajaaDoorWMore
import Derived.Test.YtoeknjmdlmhajaaDoorWWords
import Derived.Lib.OthersKept
import Derived.Lib.DecodeN
import Derived.Laws.RangeAny
import Derived.Laws.RangeString
namespace Go.Proofs.YtoeknjmdlmhajaaDoor.G
open Go.RowKit Go.Proofs.YtoeknjmdlmhajaaDoorW.PrintWords Go.Proofs.YtoeknjmdlmhajaaDoorW.PrintLast Go.Proofs.YtoeknjmdlmhajaaDoorW.PrintMore
set_option linter.unusedVariables false
theorem conv_le (W : World) (n : Nat) (e : TypeId) : n ≤ grownCap W n 0 e := grownCap_ge W n 0 e
theorem conv_C (W : World) (e : TypeId) (s : ByteArray) {ys : List Int} (hys : ys = bytesOf s) (hsz : s.size ≤ 9223372036854775807) : Kd.C (Kd.int .u8) (Lib.bytesWorld W e s) (some ⟨W.heap.size, 0, none⟩) ys.length ys := by
  subst hys
  have h := bytes_reads W e s hsz
  rw [← bytesOf_length s] at h
  exact Kd.C_of_reads (enc := Value.int .u8) (d := (0 : Int)) (h1 := fun _ => rfl) h
set_option maxRecDepth 100000 in
theorem u8tail_ : ∀ X : Fin 256, bits .or .u8 128 (bits .and .u8 ((X.val : Nat) : Int) 63) = (((128 + X.val % 64) : Nat) : Int) := by decide
/-- A byte behind the first one, as the walk writes it. -/
theorem u8tail (x : Int) : bits .or .u8 128 (bits .and .u8 (x % 256) 63) = 128 + x % 64 := by
  obtain ⟨n, hn⟩ := Int.eq_ofNat_of_zero_le (Int.emod_nonneg x (show (256 : Int) ≠ 0 by decide))
  have h := u8tail_ ⟨n, by omega⟩
  simp only at h
  rw [hn, h]
  omega
section
variable {P : Program} {ops : Array Oper} {rest : List Oper} {o : Oper} {a : Act} {Q : Exit → Act → World → Prop} {Kc : Act → World → Prop}
theorem conv_event {W : World} (hgd : o.guard = none) {N : Tmp} (_hd : o.dst = some N) {s : ByteArray} {e : TypeId} {ys : List Int} (hys : ys = bytesOf s)
    (hrun : (execOp a.eval o).run P W = .ok (.value (.slice (some ⟨W.heap.size, 0, none⟩) s.size (grownCap W s.size 0 e))) (Lib.bytesWorld W e s)) (hsz : s.size ≤ 9223372036854775807)
    (h : ∀ A c w1, Kd.C (Kd.int .u8) w1 A ys.length ys → ys.length ≤ c → Below W.heap.size W w1 → wpList P ops Q rest (a.put o.dst (.slice A ys.length c)) w1) : wpList P ops Q (o :: rest) a W := by
  have hl : s.size = ys.length := by rw [hys, bytesOf_length]
  rw [hl] at hrun
  exact Kd.event_run hgd hrun (h _ _ _ (conv_C W e s hys hsz) (conv_le W _ e) (bytes_below (Below.refl _ _) (Nat.le_refl _) e s))
theorem conv_step {W : World} (hw : Region.wanted o (yielded ops a.tmps) = true) {N : Tmp} (_hd : o.dst = some N) {s : ByteArray} {e : TypeId} {ys : List Int} (hys : ys = bytesOf s)
    (hrun : (execOp a.eval o).run P W = .ok (.value (.slice (some ⟨W.heap.size, 0, none⟩) s.size (grownCap W s.size 0 e))) (Lib.bytesWorld W e s)) (hsz : s.size ≤ 9223372036854775807)
    (h : ∀ A c w1, Kd.C (Kd.int .u8) w1 A ys.length ys → ys.length ≤ c → Below W.heap.size W w1 → Kc (a.put o.dst (.slice A ys.length c)) w1) : if Region.wanted o (yielded ops a.tmps) = true then Oper.wp P o a W Kc Q else Kc (a.put o.dst undef) W := by
  have hl : s.size = ys.length := by rw [hys, bytesOf_length]
  rw [hl] at hrun
  exact event_step hw hrun (h _ _ _ (conv_C W e s hys hsz) (conv_le W _ e) (bytes_below (Below.refl _ _) (Nat.le_refl _) e s))
end
end Go.Proofs.YtoeknjmdlmhajaaDoor.G
