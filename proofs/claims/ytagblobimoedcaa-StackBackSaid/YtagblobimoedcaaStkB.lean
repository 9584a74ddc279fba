/- Package stack: a range over slices.Backward: want. -/
import Derived.RangeFuncNested
import Derived.RangeFuncBox
import Derived.RangeFuncLeaves
import Derived.Shelf.Abstract
import Derived.WalkKit
import Derived.OwnWalkIn
import Derived.TacticsInMore
import Derived.LoopNIn
import Derived.LoopIn
import Derived.Test.YtagblobimoedcaaStkA
namespace Go.Proofs.Ytagblobimoedcaa.G
open Go.RowKit Go.Shelf Go.Proofs.YtagblobimoedcaaW.PrintWords Go.Proofs.YtagblobimoedcaaW.PrintLast Go.Proofs.YtagblobimoedcaaW.PrintMore
attribute [local go_sem] Oper.semAt_some
set_option linter.unusedVariables false
set_option linter.unusedSimpArgs false
/-- what has come when k rounds are over. -/
def upto {α : Type} (f : Nat → α) (k : Nat) : List α := (List.range k).map f
theorem upto_succ {α : Type} (f : Nat → α) (k : Nat) : upto f (k + 1) = upto f k ++ [f k] := by simp [upto, List.range_succ]
theorem upto_length {α : Type} (f : Nat → α) (k : Nat) : (upto f k).length = k := by simp [upto]
/-- All blocks below N but p are as they were. -/
def KP (p N : Nat) (W W' : World) : Prop := W.heap.size ≤ W'.heap.size ∧ ∀ k, k < N → k ≠ p → W'.heap[k]? = W.heap[k]?
theorem KP.refl (p N : Nat) (W : World) : KP p N W W := ⟨Nat.le_refl _, fun _ _ _ => rfl⟩
theorem KP.trans {p N : Nat} {A B C : World} (h : KP p N A B) (k : KP p N B C) : KP p N A C := ⟨Nat.le_trans h.1 k.1, fun i hi hn => (k.2 i hi hn).trans (h.2 i hi hn)⟩
theorem cell_of_heap {W W' : World} {g : Nat} (h : W'.heap[g]? = W.heap[g]?) (o : Nat) : W'.cell? ⟨g, o, none⟩ = W.cell? ⟨g, o, none⟩ := by
  simp only [World.cell?, h]
theorem cell_of_heapA {W W' : World} {a : Addr} (h : W'.heap[a.block]? = W.heap[a.block]?) : W'.cell? a = W.cell? a := by
  simp only [World.cell?, h]
theorem addBlk (a : Addr) (j : Nat) : (a.add j).block = a.block := by
  unfold Addr.add; split <;> rfl
theorem KP.cellA {p N : Nat} {W W' : World} (h : KP p N W W') {a : Addr} (hg : a.block < N) (hn : a.block ≠ p) : W'.cell? a = W.cell? a := cell_of_heapA (h.2 _ hg hn)
theorem KP.cell {p N : Nat} {W W' : World} (h : KP p N W W') {g : Nat} (hg : g < N) (hn : g ≠ p) (o : Nat) : W'.cell? ⟨g, o, none⟩ = W.cell? ⟨g, o, none⟩ := cell_of_heap (h.2 g hg hn) o
set_option maxRecDepth 100000 in
set_option maxHeartbeats 2000000 in
theorem back1_in (F : Fence) (n : Nat) (hf : F.fn 50) (hro : F.round = none) (hn : 1 ≤ n) (l Bs p N : Nat) (ad : Addr) (len cap : Nat) (zs : List Int) (hlen : len = zs.length) (hl : len < 1000000000) (hb : ad.block < N) (hbp : ad.block ≠ p) (hBN : Bs < N) (hBp : Bs ≠ p) (J Jx : List (Int × Int) → World → Prop)
    (hY : ∀ pre x W, J pre W → pre.length < len → YieldAt F (n - 1) Try.prog l #[.int .i64 x.1, .int .u8 x.2] W fun e W' =>
      (e = .returned (.bool true) ∧ J (pre ++ [x]) W' ∧ KP p N W W') ∨ (e = .returned (.bool false) ∧ Jx (pre ++ [x]) W'))
    (W : World) (hBs : W.cell? ⟨Bs, 0, none⟩ = some (.slice (some ad) len cap)) (hc : ∀ j, j < len → W.cell? (ad.add j) = some (.int .u8 (rd zs (j : Int)))) (h0 : J [] W) :
    CallsIn F n Try.prog 50 #[.func (.yield l) #[] #[], .pointer (some ⟨Bs, 0, none⟩)] W fun e W' => (∃ v, e = .returned v) ∧
      ((∃ ys, ys = upto (fun k => ((len : Int) - 1 - (k : Int), rd zs ((len : Int) - 1 - (k : Int)))) len ∧ J ys W') ∨ (∃ pre, (∃ k, k ≤ len ∧ pre = upto (fun k => ((len : Int) - 1 - (k : Int), rd zs ((len : Int) - 1 - (k : Int)))) k) ∧ Jx pre W')) := by
  have hw := wrap_sub1 len (by omega)
  have HJ := Aside0.mk h0
  have HBs := Aside0.mk hBs
  have HCc := Aside0.mk hc
  have HY := Aside0.mk hY
  clear h0 hc hY
  refine callsIn_of_wp Try.func50 rfl hf ?_ hro
  simp only [Try.ntmps50, List.size_toArray, List.length_cons, List.length_nil, Nat.reduceAdd, Nat.reduceSub, Array.replicate_succ, Array.replicate_zero, List.push_toArray, List.append_toArray, List.nil_append, List.cons_append]
  gi_wp2
  clear hBs
  gi_loopw [3] (fun i wr => ∃ (k : Nat) (i' : Int), k ≤ len ∧ i = .int .i64 i' ∧ Aside0 (i' = (len : Int) - 1 - (k : Int)) ∧ Aside0 (J (upto (fun k => ((len : Int) - 1 - (k : Int), rd zs ((len : Int) - 1 - (k : Int)))) k) wr) ∧ Aside0 (KP p N W wr))
    (fun i _ => (intOf i + 1).toNat)
  case atStart => exact ⟨0, _, Nat.zero_le _, rfl, ⟨by simp [hlen]⟩, ⟨HJ.out⟩, ⟨KP.refl _ _ _⟩⟩
  case round =>
    obtain ⟨k, i', hk, rfl, HI, HJs, HK⟩ := hrel
    by_cases hlt : k < len
    · obtain ⟨j, hj⟩ : ∃ j, len = k + j + 1 := ⟨len - k - 1, by omega⟩
      obtain rfl : i' = (j : Int) := by have := HI.out; omega
      have hBx := (HK.out.cell hBN hBp 0).trans HBs.out
      have hcx := (HK.out.cellA (a := ad.add j) (by rw [addBlk]; exact hb) (by rw [addBlk]; exact hbp)).trans (HCc.out j (by omega))
      have d0 : decide ((0 : Int) ≤ (j : Int)) = true := decide_eq_true (by omega)
      have p0 := eq_true (show (0 : Int) ≤ (j : Int) by omega)
      have hjl : j < len := by omega
      have hwj : IntKind.i64.wrap ((j : Int) - 1) = (j : Int) - 1 := wrap_sub1 j (by omega)
      obtain ⟨fn, tmps, assign, body, hy, hR⟩ := HY.out _ ((j : Int), rd zs (j : Int)) wr HJs.out (by rw [upto_length]; exact hlt)
      dsimp only at hy
      gi_wp2
      refine hR.mono ?_
      rintro e W3 (⟨rfl, hJ3, hk3⟩ | ⟨rfl, hJx3⟩)
      · have HJ3 := Aside0.mk hJ3
        have HK3 := Aside0.mk hk3
        clear hJ3 hk3
        gi_wp2
        go_roundw
        case rel => exact ⟨k + 1, (j : Int) - 1, by omega, rfl, ⟨by omega⟩, ⟨by rw [upto_succ, show ((len : Int) - 1 - (k : Int)) = (j : Int) by omega]; exact HJ3.out⟩, ⟨HK.out.trans HK3.out⟩⟩
        case measure => simp only [intOf]; omega
      · have HJx3 := Aside0.mk hJx3
        clear hJx3
        gi_wp2
        refine bodyPost_ret (results_none rfl _ _ _) rfl ?_
        exact ⟨⟨_, rfl⟩, .inr ⟨_, ⟨k + 1, by omega, by rw [upto_succ, show ((len : Int) - 1 - (k : Int)) = (j : Int) by omega]⟩, HJx3.out⟩⟩
    · obtain rfl : k = len := by omega
      obtain rfl : i' = -1 := by have := HI.out; omega
      gi_wp2
      go_end0
      exact ⟨⟨_, rfl⟩, .inl ⟨_, rfl, HJs.out⟩⟩
set_option maxRecDepth 100000 in
set_option maxHeartbeats 2000000 in
theorem back1_nil_in (F : Fence) (n : Nat) (hf : F.fn 50) (hro : F.round = none) (l Bs : Nat) (A : Option Addr) (c : Nat) (J : List (Int × Int) → World → Prop) (W : World) (hBs : W.cell? ⟨Bs, 0, none⟩ = some (.slice A 0 c)) (h0 : J [] W) :
    CallsIn F n Try.prog 50 #[.func (.yield l) #[] #[], .pointer (some ⟨Bs, 0, none⟩)] W fun e W' => (∃ v, e = .returned v) ∧ J [] W' := by
  refine callsIn_of_wp Try.func50 rfl hf ?_ hro
  simp only [Try.ntmps50, List.size_toArray, List.length_cons, List.length_nil, Nat.reduceAdd, Nat.reduceSub, Array.replicate_succ, Array.replicate_zero, List.push_toArray, List.append_toArray, List.nil_append, List.cons_append]
  gi_wp2
  gi_loopw [3] (fun i wr => i = .int .i64 (-1) ∧ J [] wr) (fun _ _ => 0)
  case atStart => exact ⟨rfl, h0⟩
  case round =>
    obtain ⟨rfl, hJs⟩ := hrel
    gi_wp2
    go_end0
    exact ⟨⟨_, rfl⟩, hJs⟩
set_option maxHeartbeats 1000000 in
/-- slices.Backward(s): the slice value is boxed; the function value captures the box. -/
theorem back_in (F : Fence) (n : Nat) (h5 : F.fn 48) (hro : F.round = none) (a : Option Addr) (len cap : Nat) (w : World) :
    CallsIn F n Try.prog 48 #[.slice a len cap] w fun e w' => e = .returned (.func (.func 50) #[] #[.pointer (some ⟨w.heap.size, 0, none⟩)]) ∧ w' = w.alloc (.cells #[.slice a len cap] 25) := by
  refine callsIn_of_wp Try.func48 rfl h5 ?_ hro
  simp only [Try.ntmps48, List.size_toArray, List.length_cons, List.length_nil, Nat.reduceAdd, Nat.reduceSub, Array.replicate_succ, Array.replicate_zero, List.push_toArray, List.append_toArray, List.nil_append, List.cons_append]
  gi_wp2
  go_ret
  exact ⟨rfl, rfl⟩
/-- the types from the last one on, each with its place. -/
def bk (zs : List Int) (k : Nat) : Int × Int := ((zs.length : Int) - 1 - (k : Int), rd zs ((zs.length : Int) - 1 - (k : Int)))
theorem back_stops (F : Fence) (n : Nat) (hf : F.fn 50) (hro : F.round = none) (hn : 1 ≤ n) (Bs p N : Nat) (A : Option Addr) (c : Nat) (zs : List Int) (hl : zs.length < 1000000000) (w : World) (hBs : w.cell? ⟨Bs, 0, none⟩ = some (.slice A zs.length c)) (hBN : Bs < N) (hBp : Bs ≠ p) (hN : N ≤ w.heap.size)
    (hC : zs = [] ∨ ∃ ad, A = some ad ∧ ad.block < N ∧ ad.block ≠ p ∧ ∀ j, j < zs.length → w.cell? (ad.add j) = some (.int .u8 (rd zs (j : Int)))) :
    SeqStopsK F n Try.prog 50 #[.pointer (some ⟨Bs, 0, none⟩)] (fun x : Int × Int => #[Value.int .i64 x.1, Value.int .u8 x.2]) (KP p N) (fun ys => ys = upto (bk zs) zs.length)
      (fun pre => ∃ k, k ≤ zs.length ∧ pre = upto (bk zs) k) zs.length w := fun l J Jx W hW _ _ hY h0 => by
  have hc' := (hW.cell (p := ⟨Bs, 0, none⟩) (by show Bs < _; omega)).trans hBs
  by_cases hz : zs = []
  · subst hz
    exact (back1_nil_in F n hf hro l Bs A c J W hc' h0).mono fun e W' ⟨he, hj⟩ => ⟨he, .inl ⟨_, rfl, hj⟩⟩
  · obtain h | ⟨ad, rfl, hb, hbp, hcs⟩ := hC
    · exact absurd h hz
    · exact back1_in F n hf hro hn l Bs p N ad zs.length c zs rfl hl hb hbp hBN hBp J Jx hY W hc' (fun j hj => (hW.cell (p := ad.add j) (by rw [addBlk]; omega)).trans (hcs j hj)) h0
/-- types are wanted, the last one first. -/
def kWant (h : Int) (d : Bool) : List Int → List Int → List Int × Int
  | [], vs => (vs, 0)
  | t :: ts, vs =>
    if (kPop vs h d).2.2 = 0 then (if (kPop vs h d).2.1 ≠ 0 ∧ t ≠ 0 ∧ (kPop vs h d).2.1 ≠ t then ((kPop vs h d).1, 5) else kWant h d ts (kPop vs h d).1) else ((kPop vs h d).1, (kPop vs h d).2.2)
/-- how far it is when some have been wanted: none: it has ended. -/
def kWas (h : Int) (d : Bool) : List Int → List Int → Option (List Int)
  | [], vs => some vs
  | t :: ts, vs => if (kPop vs h d).2.2 = 0 then (if (kPop vs h d).2.1 ≠ 0 ∧ t ≠ 0 ∧ (kPop vs h d).2.1 ≠ t then none else kWas h d ts (kPop vs h d).1) else none
theorem kWas_snoc {h : Int} {d : Bool} : ∀ {ts vs vs' : List Int} {t : Int}, kWas h d ts vs = some vs' → kWas h d (ts ++ [t]) vs = kWas h d [t] vs'
  | [], vs, vs', t, e => by simp only [kWas, Option.some.injEq] at e; subst e; rfl
  | x :: ts, vs, vs', t, e => by
    rw [List.cons_append]
    unfold kWas at e ⊢
    split at e
    · rename_i h1
      rw [if_pos h1]
      split at e
      · exact absurd e (by simp)
      · rename_i h2
        rw [if_neg h2]
        exact kWas_snoc e
    · exact absurd e (by simp)
theorem kWant_was {h : Int} {d : Bool} : ∀ {ts us vs vs' : List Int}, kWas h d ts vs = some vs' → kWant h d (ts ++ us) vs = kWant h d us vs'
  | [], us, vs, vs', e => by simp only [kWas, Option.some.injEq] at e; subst e; rfl
  | x :: ts, us, vs, vs', e => by
    rw [List.cons_append]
    unfold kWas at e
    split at e
    · rename_i h1
      split at e
      · exact absurd e (by simp)
      · rename_i h2
        rw [kWant, if_pos h1, if_neg h2]
        exact kWant_was e
    · exact absurd e (by simp)
theorem bk_take (zs : List Int) (k : Nat) (hk : k ≤ zs.length) : (upto (bk zs) k).map (·.2) = zs.reverse.take k := by
  apply List.ext_getElem
  · simp [upto, hk]
  · intro i h1 h2
    have hi : i < k := by simpa [upto] using h1
    simp only [upto, List.map_map, List.getElem_map, List.getElem_range, Function.comp, bk, List.getElem_take, List.getElem_reverse]
    have e1 : ((zs.length : Int) - 1 - (i : Int)) = ((zs.length - 1 - i : Nat) : Int) := by omega
    rw [e1]
    unfold rd
    rw [Int.toNat_natCast, List.getD_eq_getElem?_getD, List.getElem?_eq_getElem (by omega)]
    rfl
end Go.Proofs.Ytagblobimoedcaa.G
