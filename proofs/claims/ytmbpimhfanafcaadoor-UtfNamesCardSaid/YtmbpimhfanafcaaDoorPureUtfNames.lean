/- For every bytes ahead, every string and every bytes behind: a name that is laid is read again; with a byte less it is too short; what is no name is refused. -/
import Derived.Test.YtmbpimhfanafcaaDoorUtfP
import Derived.Test.YtmbpimhfanafcaaDoorLebV
import Derived.Test.YtmbpimhfanafcaaDoorG5
namespace Go.Proofs.YtmbpimhfanafcaaDoor.Pure
open Go.RowKit Go.Proofs.YtmbpimhfanafcaaDoor.G Go.Proofs.YtmbpimhfanafcaaDoorW.PrintWords Go.Proofs.YtmbpimhfanafcaaDoorW.PrintLast Go.Proofs.YtmbpimhfanafcaaDoorW.PrintMore Go.Proofs.YtmbpimhfanafcaaDoor.LebM Go.Proofs.YtmbpimhfanafcaaDoor.LebV
set_option linter.unusedVariables false
theorem bytes_byte (s : ByteArray) : (bytesOf s).all u8byte = true := by
  rw [List.all_eq_true]
  intro x hx
  unfold bytesOf at hx
  obtain ⟨b, _, rfl⟩ := List.mem_map.1 hx
  have := b.toNat_lt
  simp only [u8byte, decide_eq_true_eq]
  omega
theorem str_bytes (s : ByteArray) : strOfNums (bytesOf s) = s := by
  unfold strOfNums bytesOf
  rw [List.map_map, List.map_congr_left (g := id) (fun b _ => by simp), List.map_id]
theorem allB_of {l : List Int} (h : l.all u8byte = true) : allB l := fun x hx => by
  have := List.all_eq_true.1 h x hx
  simpa only [u8byte, decide_eq_true_eq] using this
theorem may_eq {l : List Int} (hb : l.all u8byte = true) : utf_may.f l = some (if (l.length : Int) > 64 then 4 else if valid8 l = true then 0 else 3) := by
  unfold utf_may.f
  by_cases h : (l.length : Int) > 64
  · rw [if_pos h, if_pos h]
  · rw [if_neg h, if_neg h, Valid_eq hb]
    simp only [Option.bind_some]
    cases valid8 l <;> simp
theorem uB_small (n : Nat) (h : n < 128) : uB 9 (n : Int) = [(n : Int)] := by
  show uB (8 + 1) (n : Int) = _
  simp only [uB]
  rw [if_neg (by omega)]
theorem read_name (pre rest : List Int) (n : Nat) (hn : n < 128) : rU (pre ++ ((n : Int) :: rest)) (pre.length : Int) 32 = ((n : Int), (pre.length : Int) + 1, 0) := by
  have hg : Grp [(n : Int)] := by rw [← uB_small n hn]; exact uB_grp 9 (n : Int) (by omega) (by omega)
  have hv : val [(n : Int)] = (n : Int) := by rw [← uB_small n hn]; exact uB_val 9 (n : Int) (by omega) (by omega)
  have := rU_at pre [(n : Int)] rest hg 32 (by omega) (by omega) (by simp) (by rw [hv]; omega)
  rw [hv] at this
  simpa using this
theorem name_yes (pre t : List Int) (s : List Int) (hp : pre.all u8byte = true) (ht : t.all u8byte = true) (hs : s.all u8byte = true) (hl : s.length ≤ 64) (hlp : pre.length ≤ 1000) (hlt : t.length ≤ 1000) (hv : valid8 s = true) :
    utf_Name.f (pre ++ ((s.length : Int) :: (s ++ t))) (pre.length : Int) = some (strOfNums s, (pre.length : Int) + 1 + s.length, 0) := by
  have hb : u8byte (s.length : Int) = true := by simp only [u8byte, decide_eq_true_eq]; omega
  have hall : (pre ++ ((s.length : Int) :: (s ++ t))).all u8byte = true := by simp [List.all_append, hp, hb, hs, ht]
  have hlen : (pre ++ ((s.length : Int) :: (s ++ t))).length = pre.length + (s.length + t.length + 1) := by simp
  unfold utf_Name.f
  rw [ReadU_f _ (allB_of hall) _ _ (by rw [hlen]; omega), read_name pre (s ++ t) s.length (by omega)]
  simp only [Option.bind_some, if_true]
  rw [hlen, wrap_u64, show wrap64 (((pre.length + (s.length + t.length + 1) : Nat) : Int) - ((pre.length : Int) + 1)) = (s.length : Int) + t.length by unfold wrap64; omega, show wrap64 (s.length : Int) = (s.length : Int) by unfold wrap64; omega,
    show wrap64 ((pre.length : Int) + 1 + (s.length : Int)) = (pre.length : Int) + 1 + s.length by unfold wrap64; omega, if_neg (by omega), if_pos (by omega), if_pos (by omega), if_pos (by omega)]
  have hcut : ((pre ++ ((s.length : Int) :: (s ++ t))).take ((pre.length : Int) + 1 + (s.length : Int)).toNat).drop ((pre.length : Int) + 1).toNat = s := by
    rw [show ((pre.length : Int) + 1 + (s.length : Int)).toNat = pre.length + (s.length + 1) by omega, show ((pre.length : Int) + 1).toNat = pre.length + 1 by omega, List.take_append, List.take_of_length_le (by omega),
      show pre.length + (s.length + 1) - pre.length = s.length + 1 by omega, List.take_succ_cons, List.take_left, ← List.drop_drop, List.drop_left]
    rfl
  rw [hcut, may_eq hs, if_neg (by omega), if_pos hv]
  simp
theorem name_less (pre : List Int) (n : Nat) (r : List Int) (hp : pre.all u8byte = true) (hr : r.all u8byte = true) (hn : n ≤ 64) (hlp : pre.length ≤ 1000) (hlr : r.length < n) :
    utf_Name.f (pre ++ ((n : Int) :: r)) (pre.length : Int) = some ((⟨#[]⟩ : ByteArray), 0, 2) := by
  have hb : u8byte (n : Int) = true := by simp only [u8byte, decide_eq_true_eq]; omega
  have hall : (pre ++ ((n : Int) :: r)).all u8byte = true := by simp [List.all_append, hp, hb, hr]
  have hlen : (pre ++ ((n : Int) :: r)).length = pre.length + (r.length + 1) := by simp
  unfold utf_Name.f
  rw [ReadU_f _ (allB_of hall) _ _ (by rw [hlen]; omega), read_name pre r n (by omega)]
  simp only [Option.bind_some, if_true]
  rw [hlen, wrap_u64, show wrap64 (((pre.length + (r.length + 1) : Nat) : Int) - ((pre.length : Int) + 1)) = (r.length : Int) by unfold wrap64; omega, if_pos (by omega)]
theorem name_none (pre : List Int) (hp : pre.all u8byte = true) (hlp : pre.length ≤ 1000) : utf_Name.f pre (pre.length : Int) = some ((⟨#[]⟩ : ByteArray), 0, 2) := by
  unfold utf_Name.f
  rw [ReadU_f _ (allB_of hp) _ _ (by omega)]
  unfold rU
  rw [if_pos (by omega)]
  simp only [Int.toNat_natCast]
  rw [List.drop_of_length_le (Nat.le_refl _)]
  rfl
theorem lay_eq (k : Nat) (hk : 10 ≤ k) (pre : List Int) (s : ByteArray) (hlp : pre.length ≤ 1000) (hs : s.size ≤ 200) : utf_Lay.f k pre s =
    some (if s.size > 64 then ([], 4) else if valid8 (bytesOf s) = true then (pre ++ ((s.size : Int) :: bytesOf s), 0) else ([], 3)) := by
  have hl := bytesOf_length s
  unfold utf_Lay.f
  rw [if_pos (by omega), may_eq (bytes_byte s), hl]
  simp only [Option.bind_some]
  by_cases h : s.size > 64
  · rw [if_pos (show (s.size : Int) > 64 by omega), if_pos h]
    simp
  · rw [if_neg (show ¬ (s.size : Int) > 64 by omega), if_neg h]
    cases hv : valid8 (bytesOf s) with
    | false => simp
    | true =>
      simp only [if_true]
      rw [wrap_u64, Int.emod_eq_of_lt (by omega) (by omega), U_f k pre _ (by omega) (by omega) hk (by omega), uB_small s.size (by omega)]
      simp only [Option.bind_some]
      rw [if_pos (by simp; omega)]
      simp
theorem names_j0 (pre : List Int) (s : ByteArray) (t : List Int) (hp : pre.all u8byte = true) (ht : t.all u8byte = true) (hlp : pre.length ≤ 100) (hls : s.size ≤ 200) (hlt : t.length ≤ 100) : avocetlaw03_UtfNames.j0 21 pre s t true false = some true := by
  have hl := bytesOf_length s
  have hbs := bytes_byte s
  show avocetlaw03_UtfNames.j0 (20 + 1) pre s t true false = _
  simp only [avocetlaw03_UtfNames.j0]
  rw [if_neg (by decide), lay_eq 20 (by omega) pre s (by omega) hls]
  simp only [Option.bind_some]
  by_cases h : s.size > 64
  · rw [if_pos h]
    simp only
    rw [if_neg (by decide)]
    simp only [if_true, List.length_nil]
    rw [if_pos (by omega), if_pos (by simp; omega), if_neg (by omega)]
    simp
  · rw [if_neg h]
    cases hv : valid8 (bytesOf s) with
    | false =>
      simp only [Bool.false_eq_true, if_false]
      rw [if_neg (by decide)]
      simp only [if_true, List.length_nil]
      rw [if_pos (by omega), if_pos (by simp; omega), if_pos (by omega), if_pos (by omega), Valid_eq hbs, hv]
      simp
    | true =>
      simp only [if_true, List.nil_append, List.length_nil]
      have hlen : (pre ++ ((s.size : Int) :: bytesOf s)).length = pre.length + (s.size + 1) := by simp [hl]
      rw [hlen, if_pos (by omega), if_pos (by omega)]
      have hy := name_yes pre t (bytesOf s) hp ht hbs (by omega) (by omega) (by omega) hv
      rw [hl] at hy
      rw [show pre ++ ((s.size : Int) :: bytesOf s) ++ t = pre ++ ((s.size : Int) :: (bytesOf s ++ t)) by simp, hy]
      simp only [Option.bind_some]
      rw [show mx 0 (wrap64 (((pre.length + (s.size + 1) : Nat) : Int) - 1)) = ((pre.length + s.size : Nat) : Int) by unfold mx wrap64; split <;> omega, if_pos (by omega), if_pos (by omega), Int.toNat_natCast]
      have hz : utf_Name.f ((pre ++ ((s.size : Int) :: bytesOf s)).take (pre.length + s.size)) (pre.length : Int) = some ((⟨#[]⟩ : ByteArray), 0, 2) := by
        by_cases h0 : s.size = 0
        · rw [h0, Nat.add_zero, List.take_left]
          exact name_none pre hp (by omega)
        · obtain ⟨m, hm⟩ : ∃ m, s.size = m + 1 := ⟨s.size - 1, by omega⟩
          have : (pre ++ ((s.size : Int) :: bytesOf s)).take (pre.length + s.size) = pre ++ ((s.size : Int) :: (bytesOf s).take m) := by
            rw [List.take_append, List.take_of_length_le (by omega), show pre.length + s.size - pre.length = m + 1 by omega, List.take_succ_cons]
          rw [this]
          exact name_less pre s.size _ hp (take_byte hbs m) (by omega) (by omega) (by rw [List.length_take]; omega)
      rw [hz, str_bytes]
      simp only [Option.bind_some, if_true]
      rw [if_pos (by omega)]
      rfl
theorem UtfNames : avocetlaw03_UtfNames.Pure := by
  intro a s t ha1 ha2 ha3 hs ht1 ht2 ht3
  have wa := bytes_wf ha3
  have wt := bytes_wf ht3
  refine ⟨21, ?_⟩
  unfold avocetlaw03_UtfNames.f
  rw [awake_yes]
  simp only [Option.bind_some]
  have hj : avocetlaw03_UtfNames.j0 21 a s t true true = some true := by
    show avocetlaw03_UtfNames.j0 (20 + 1) a s t true true = _
    simp only [avocetlaw03_UtfNames.j0, if_true]
  by_cases c1 : (a.length : Int) > 100
  · rw [if_pos c1, hj]
  rw [if_neg c1]
  by_cases c2 : (s.size : Int) > 200
  · rw [if_pos c2, hj]
  rw [if_neg c2]
  by_cases c3 : (t.length : Int) > 100
  · rw [decide_eq_true c3, hj]
  rw [decide_eq_false c3]
  exact names_j0 a s t wa wt (by omega) (by omega) (by omega)
end Go.Proofs.YtmbpimhfanafcaaDoor.Pure
