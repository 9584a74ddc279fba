/- layer 04: what PutFunc, Sane, Same come to. -/
import Derived.Test.YthddcbfgdpfcjaaG
import Derived.Test.YthddcbfgdpfcjaaTyA
import Derived.Test.YthddcbfgdpfcjaaLebM
import Derived.Test.YthddcbfgdpfcjaaTyR
import Derived.Lib.Bytes
set_option linter.unusedVariables false
set_option linter.unusedSimpArgs false
namespace Go.Proofs.Ythddcbfgdpfcjaa.TyP
open Go.RowKit Go.Proofs.Ythddcbfgdpfcjaa.G Go.Proofs.YthddcbfgdpfcjaaW.PrintWords Go.Proofs.YthddcbfgdpfcjaaW.PrintLast Go.Proofs.YthddcbfgdpfcjaaW.PrintMore Go.Proofs.Ythddcbfgdpfcjaa.TyA Go.Proofs.Ythddcbfgdpfcjaa.TyR

theorem allB_of {l : List Int} (h : ∀ x ∈ l, (Lit.int .u8 x).wf = true) : allB l := fun x hx => LebM.wf_u8 (h x hx)
theorem byte_inj {a b : Int} (h0 : 0 ≤ a) (h1 : a < 256) (h2 : 0 ≤ b) (h3 : b < 256) (h : UInt8.ofNat a.toNat = UInt8.ofNat b.toNat) : a = b := by
  have := congrArg UInt8.toNat h
  simp only [UInt8.toNat_ofNat'] at this
  omega
theorem bytes_inj : ∀ (a b : List Int), allB a → allB b → Lib.bytesOf a = Lib.bytesOf b → a = b
  | [], [], _, _, _ => rfl
  | [], y :: t, _, _, h => by simp [Lib.bytesOf] at h
  | x :: s, [], _, _, h => by simp [Lib.bytesOf] at h
  | x :: s, y :: t, ha, hb, h => by
    simp only [Lib.bytesOf, List.map_cons, List.cons.injEq] at h
    have hx := ha x (by simp)
    have hy := hb y (by simp)
    rw [byte_inj hx.1 hx.2 hy.1 hy.2 h.1, bytes_inj s t (fun z hz => ha z (by simp [hz])) (fun z hz => hb z (by simp [hz])) h.2]
theorem str_eq {a b : List Int} (ha : allB a) (hb : allB b) : ((strOfNums a).toList = (strOfNums b).toList) ↔ a = b := by
  rw [Lib.strOfNums_toList, Lib.strOfNums_toList]
  exact ⟨bytes_inj a b ha hb, fun h => by rw [h]⟩
theorem str_beq {a b : List Int} (ha : allB a) (hb : allB b) : ((strOfNums a).toList == (strOfNums b).toList) = decide (a = b) := by
  by_cases h : a = b
  · rw [h]; simp
  · have : ¬ (strOfNums a).toList = (strOfNums b).toList := fun h' => h ((str_eq ha hb).1 h')
    rw [decide_eq_false h]; exact beq_eq_false_iff_ne.mpr this
def sane (p r : List Int) : Bool := decide (p.length ≤ 16) && (decide (r.length ≤ 1) && (p.all tySane_okT && r.all tySane_okT))
theorem Sane_f (p r : List Int) : types_Sane.f p r = some (sane p r) := rfl
theorem sane_len {p r : List Int} (h : sane p r = true) : p.length ≤ 16 ∧ r.length ≤ 1 := by
  unfold sane at h
  simp only [Bool.and_eq_true, decide_eq_true_eq] at h
  exact ⟨h.1, h.2.1⟩
theorem U_small (k : Nat) (l : List Int) (v : Int) (h0 : 0 ≤ v) (h1 : v < 128) (hk : 1 ≤ k) (hl : l.length < 140737488355328) : leb_U.f k l v = some (l ++ [v]) := by
  unfold leb_U.f bytes_Clone.f
  rw [if_pos hl, Option.bind_some]
  obtain ⟨j, rfl⟩ : ∃ j, k = j + 1 := ⟨k - 1, by omega⟩
  simp only [leb_U.l0]
  rw [if_neg (by omega), if_pos hl, Int.emod_eq_of_lt h0 (by omega)]
def pf (l p r : List Int) : List Int := l ++ [96] ++ [(p.length : Int)] ++ p ++ [(r.length : Int)] ++ r
theorem put_round (k : Nat) (hk : 1 ≤ k) (x p r q : List Int) (i : Int) (hi : i = 0 ∨ i = 1) (hq : rd_L1 [p, r] i = q) (hx : x.length < 100000000000000) (hl : q.length ≤ 100) :
    types_PutFunc.l0 (k + 1) x [p, r] 2 i = types_PutFunc.l0 k (x ++ [(q.length : Int)] ++ q) [p, r] 2 (i + 1) := by
  have hw : IntKind.u64.wrap (q.length : Int) = (q.length : Int) := by rw [IntKind.wrap_u64]; omega
  have h64 : wrap64 (i + 1) = i + 1 := by unfold wrap64; omega
  simp only [types_PutFunc.l0]
  rw [if_pos (by omega), if_pos (by omega), if_pos (by simp; omega), hq, hw, U_small k x _ (by omega) (by omega) hk (by omega), Option.bind_some, if_pos (by simp; omega), h64]
theorem PutFunc_f (k : Nat) (hk : 4 ≤ k) (l p r : List Int) (hl : l.length < 10000000000000) : types_PutFunc.f k l p r = some (if sane p r = true then (pf l p r, 0) else ([], 1)) := by
  unfold types_PutFunc.f
  rw [Sane_f, Option.bind_some]
  by_cases hs : sane p r = true
  · have hlen := sane_len hs
    rw [if_pos hs, if_pos hs]
    unfold bytes_Clone.f
    rw [if_pos (by omega), Option.bind_some, if_pos (by omega), Option.bind_some]
    obtain ⟨j, rfl⟩ : ∃ j, k = j + 4 := ⟨k - 4, by omega⟩
    have e : (([p, r] : List (List Int)).length : Int) = 2 := rfl
    rw [e, put_round (j + 3) (by omega) _ p r p 0 (by omega) rfl (by simp; omega) (by omega), put_round (j + 2) (by omega) _ p r r (0 + 1) (by omega) rfl (by simp; omega) (by omega)]
    simp only [types_PutFunc.l0]
    rw [if_neg (by omega)]
    simp [pf]
  · rw [if_neg hs, if_neg hs]
theorem Same_f {p r p' r' : List Int} (hp : allB p) (hr : allB r) (hp' : allB p') (hr' : allB r') : types_Same.f p r p' r' = some (decide (p = p') && decide (r = r')) := by
  unfold types_Same.f bytes_Equal.f
  rw [Option.bind_some, Option.bind_some, str_beq hp hp', str_beq hr hr']
  by_cases h : p = p'
  · rw [if_pos (by simpa using h)]; simp [h]
  · rw [if_neg (by simpa using h)]; simp [h]
theorem pf_allB {l p r : List Int} (hl : allB l) (hp : allB p) (hr : allB r) (h1 : p.length ≤ 100) (h2 : r.length ≤ 100) : allB (pf l p r) := by
  intro x hx
  simp only [pf, List.mem_append, List.mem_cons, List.not_mem_nil, or_false] at hx
  rcases hx with ((((h | h) | h) | h) | h) | h
  · exact hl x h
  · omega
  · omega
  · exact hp x h
  · omega
  · exact hr x h
theorem pf_inj {p r p' r' : List Int} : pf [] p r = pf [] p' r' ↔ p = p' ∧ r = r' := by
  constructor
  · intro h
    simp only [pf, List.nil_append, List.cons_append, List.append_assoc, List.cons.injEq, true_and] at h
    obtain ⟨hl, h⟩ := h
    have h1 := List.append_inj h (by omega)
    exact ⟨h1.1, (List.cons.inj h1.2).2⟩
  · rintro ⟨rfl, rfl⟩; rfl
theorem pf_len (l p r : List Int) : (pf l p r).length = l.length + 3 + p.length + r.length := by simp [pf]; omega
theorem small_f (p r : List Int) : avocetlaw04_small.f p r = some (decide (p.length ≤ 100) && decide (r.length ≤ 100)) := by
  unfold avocetlaw04_small.f
  by_cases h : p.length ≤ 100
  · rw [if_pos (by omega)]
    congr 1
    simp [h]
    omega
  · rw [if_neg (by omega)]; simp [h]
end Go.Proofs.Ythddcbfgdpfcjaa.TyP
