/- For every sections, place, name and data: a section of a name that is laid in anywhere says nothing: the others are split as they were. -/
import Derived.Test.YtoeknjmdlmhajaaDoorSectQ
import Derived.Test.YtoeknjmdlmhajaaDoorMask
import Derived.Test.YtoeknjmdlmhajaaDoorLawPSectCustom
import Derived.Test.YtoeknjmdlmhajaaDoorG1
import Derived.Test.YtoeknjmdlmhajaaDoorG4
import Derived.Test.YtoeknjmdlmhajaaDoorG5
namespace Go.Proofs.YtoeknjmdlmhajaaDoor.Pure
open Go.RowKit Go.Proofs.YtoeknjmdlmhajaaDoor.G Go.Proofs.YtoeknjmdlmhajaaDoorW.PrintWords Go.Proofs.YtoeknjmdlmhajaaDoorW.PrintLast Go.Proofs.YtoeknjmdlmhajaaDoorW.PrintMore Go.Proofs.YtoeknjmdlmhajaaDoor.LebM Go.Proofs.YtoeknjmdlmhajaaDoor.LebV
set_option linter.unusedVariables false
set_option linter.unusedSimpArgs false
theorem uB_small (n : Nat) (h : n < 128) : uB 9 (n : Int) = [(n : Int)] := by
  show uB (8 + 1) (n : Int) = _
  simp only [uB]
  rw [if_neg (by omega)]
theorem name_ok (t s : List Int) (ht : t.all u8byte = true) (hs : s.all u8byte = true) (hl : s.length ≤ 64) (hlt : t.length ≤ 1000) (hv : valid8 s = true) : nmE ((s.length : Int) :: (s ++ t)) = 0 := by
  have hb : u8byte (s.length : Int) = true := by simp only [u8byte, decide_eq_true_eq]; omega
  have hall : ((s.length : Int) :: (s ++ t)).all u8byte = true := by simp [List.all_append, hb, hs, ht]
  have hg : Grp [(s.length : Int)] := by rw [← uB_small s.length (by omega)]; exact uB_grp 9 (s.length : Int) (by omega) (by omega)
  have hvl : val [(s.length : Int)] = (s.length : Int) := by rw [← uB_small s.length (by omega)]; exact uB_val 9 (s.length : Int) (by omega) (by omega)
  have hru : rU ((s.length : Int) :: (s ++ t)) 0 32 = ((s.length : Int), 1, 0) := by
    have := rU_at [] [(s.length : Int)] (s ++ t) hg 32 (by omega) (by omega) (by simp) (by rw [hvl]; omega)
    rw [hvl] at this
    simpa using this
  have hcut : ((((s.length : Int) :: (s ++ t)).take (1 + (s.length : Int)).toNat).drop (1 : Int).toNat) = s := by
    rw [show (1 + (s.length : Int)).toNat = s.length + 1 by omega, List.take_succ_cons, List.take_left]
    rfl
  unfold nmE utf_Name.f
  rw [ReadU_f _ (allB_of hall) _ _ (by simp; omega), hru]
  simp only [Option.bind_some]
  have hlen : ((s.length : Int) :: (s ++ t)).length = s.length + t.length + 1 := by simp
  rw [if_pos trivial, hlen, w64 _ (by omega) (by omega), wrap_u64, Int.emod_eq_of_lt (by omega) (by omega), if_neg (by omega), w64 (s.length : Int) (by omega) (by omega), w64 (1 + (s.length : Int)) (by omega) (by omega), if_pos (by omega), if_pos (by omega), if_pos (by omega), hcut, may_eq hs, if_neg (by omega), if_pos hv]
  simp only [Option.bind_some]
  rfl
theorem custom_ok (s : ByteArray) (hs : s.size ≤ 200) (d : List Int) (hd : allB d) (hdl : d.length ≤ 200) (k : Nat) (hk : 200 ≤ k) :
    ∃ r, sect_Custom.f k s d = some r ∧ (r.2.2 = 0 → r.1 = 0 ∧ allB r.2.1 ∧ r.2.1.length ≤ 300 ∧ nmE r.2.1 = 0) := by
  have hd' : d.all u8byte = true := List.all_eq_true.2 (fun x hx => by have := hd x hx; simp only [u8byte, decide_eq_true_eq]; exact this)
  have hbl := bytesOf_length s
  unfold sect_Custom.f utf_Lay.f
  rw [if_pos (by omega), may_eq (bytes_byte s), hbl]
  simp only [Option.bind_some]
  by_cases c : (s.size : Int) > 64
  · rw [if_pos c, if_neg (by decide)]
    exact ⟨_, rfl, fun h => absurd h (by decide)⟩
  · rw [if_neg c]
    cases hv : valid8 (bytesOf s) with
    | false => exact ⟨_, rfl, fun h => absurd h (by decide)⟩
    | true =>
      simp only [if_true]
      rw [wrap_u64, Int.emod_eq_of_lt (a := (s.size : Int)) (by omega) (by omega), U_f k [] _ (by omega) (by omega) (by omega) (by simp)]
      simp only [Option.bind_some, List.nil_append]
      rw [uB_small s.size (by omega), if_pos (by simp; omega)]
      simp only [Option.bind_some, if_true]
      rw [if_pos (by simp; omega)]
      refine ⟨_, rfl, fun _ => ⟨rfl, ?_, ?_, ?_⟩⟩
      · intro x hx
        rcases List.mem_append.1 hx with hx | hx
        · rcases List.mem_append.1 hx with hx | hx
          · simp at hx
            omega
          · exact allB_of (bytes_byte s) x hx
        · exact hd x hx
      · simp
        omega
      · have := name_ok d (bytesOf s) hd' (bytes_byte s) (by omega) (by omega) hv
        rw [hbl] at this
        simpa using this
theorem okS_insert : ∀ (a b : List S38) (last : Int), 0 ≤ last → okS last (a ++ b) → ∀ c : S38, c.f0 = 0 → nmE c.f1 = 0 → okS last (a ++ c :: b)
  | [], b, last, h0, h, c, h1, h2 => by
    have hone : one last c := ⟨by omega, by omega, fun _ => h2, .inl h1⟩
    refine ⟨hone, ?_⟩
    rw [(mx_one hone h0).2 h1]
    exact h
  | x :: a, b, last, h0, h, c, h1, h2 => ⟨h.1, okS_insert a b (mx last x.f0) (mx_one h.1 h0).1 h.2 c h1 h2⟩
theorem wf_small2 {l : List S36} (h : ∀ x ∈ l, Own.wf36 x) (hf : ∀ x ∈ l, x.f1.length ≤ 70000) : small (l.map to38) := by
  intro s hs
  obtain ⟨x, hx, rfl⟩ := List.mem_map.1 hs
  exact ⟨fun z hz => wf_u8 ((h x hx).2.2 z hz), hf x hx⟩
theorem custom_j2 (l : List S36) (hl : l.length ≤ 30) (kk : Nat) (hk : kk ≤ l.length) (c : S38) (h0 : c.f0 = 0) (k : Nat) (hkk : 100 ≤ k) :
    avocetlaw07_SectCustom.j2 (k + 1) l true (kk : Int) ((l.take kk).map to38 ++ c :: (l.drop kk).map to38) false c.f0 c.f1 = some true := by
  have hA : ((l.take kk).map to38).length = kk := by rw [List.length_map, List.length_take]; omega
  have hall : ((l.take kk).map to38 ++ c :: (l.drop kk).map to38).length = l.length + 1 := by simp; omega
  have ht : ((l.take kk).map to38 ++ c :: (l.drop kk).map to38).take kk = (l.take kk).map to38 := by
    rw [List.take_append_of_le_length (by omega), List.take_of_length_le (by omega)]
  have hd : ((l.take kk).map to38 ++ c :: (l.drop kk).map to38).drop (kk + 1) = (l.drop kk).map to38 := by
    rw [List.drop_append, List.drop_of_length_le (by omega), hA, show kk + 1 - kk = 1 by omega]
    rfl
  have hg : rd_T38 ((l.take kk).map to38 ++ c :: (l.drop kk).map to38) (kk : Int) = c := by
    have e : ((l.take kk).map to38 ++ c :: (l.drop kk).map to38)[kk]? = some c := by
      rw [List.getElem?_append_right (by omega), hA, Nat.sub_self]
      rfl
    unfold rd_T38
    rw [Int.toNat_natCast, List.getD_eq_getElem?_getD, e]
    rfl
  simp only [avocetlaw07_SectCustom.j2]
  rw [if_neg (by decide), Option.bind_some, if_pos (by omega), hall, if_pos (by omega), Int.toNat_natCast, ht, w64 ((kk : Int) + 1) (by omega) (by omega), show ((kk : Int) + 1).toNat = kk + 1 by omega, hd]
  simp only [Option.bind_some, List.nil_append, List.length_nil, Nat.zero_add, if_true]
  rw [if_pos (by rw [hA]; omega), if_pos (by omega), if_pos (by omega), if_pos (by rw [hA, List.length_map, List.length_drop]; omega), ← List.map_append, List.take_append_drop, theirs_f _ (by rw [List.length_map]; omega) k (by rw [List.length_map]; omega), to_to, Option.bind_some, same_f l (by omega) k (by omega), Option.bind_some, if_pos rfl,
    if_pos (by omega), hg, if_pos h0]
  simp
theorem SectCustom : avocetlaw07_SectCustom.Pure := by
  intro l a s d hl hw _ _ _ _ hd
  refine ⟨1003, ?_⟩
  have hdB : allB d := fun x hx => wf_u8 (hd x hx)
  unfold avocetlaw07_SectCustom.f
  rw [awake_yes 1003 (by omega), Option.bind_some]
  have ht : avocetlaw07_SectCustom.j0 1003 l a s d true true = some true := by
    show avocetlaw07_SectCustom.j0 (1002 + 1) l a s d true true = _
    simp only [avocetlaw07_SectCustom.j0]
    rfl
  obtain ⟨q, h1, h2⟩ := few_f l hl 1003 (by omega)
  rw [h1, Option.bind_some]
  cases q with
  | false => rw [if_neg (by decide), ht]
  | true =>
    rw [if_pos rfl]
    obtain ⟨hn, hf⟩ := h2 rfl
    have hs := wf_small2 hw hf
    have hlen : (l.map to38).length = l.length := List.length_map _
    by_cases c2 : (s.size : Int) > 200
    · rw [if_pos c2, ht]
    · rw [if_neg c2]
      by_cases c3 : (d.length : Int) > 200
      · rw [decide_eq_true c3, ht]
      · rw [decide_eq_false c3]
        show avocetlaw07_SectCustom.j0 (1002 + 1) l a s d true false = _
        simp only [avocetlaw07_SectCustom.j0]
        obtain ⟨r, g1, g2⟩ := custom_ok s (by omega) d hdB (by omega) 1002 (by omega)
        have ht1 : ∀ x y, avocetlaw07_SectCustom.j1 1002 l a true true x y = some true := by
          intro x y
          show avocetlaw07_SectCustom.j1 (1001 + 1) l a true true x y = _
          simp only [avocetlaw07_SectCustom.j1]
          rfl
        rw [if_neg (by decide), g1, Option.bind_some, ours_f l (by omega) 1002 (by omega), Option.bind_some]
        rcases join_f (l.map to38) hs (by omega) 1002 (by omega) with ⟨ho, hj⟩ | ⟨_, hj⟩
        · rw [hj]
          simp only [Option.bind_some]
          by_cases c4 : r.2.2 = 0
          · rw [if_pos c4]
            obtain ⟨r0, rB, rL, rN⟩ := g2 c4
            by_cases c5 : ((h8 ++ encL (l.map to38)).length : Int) > 65536
            · rw [if_pos c5, if_neg (by decide), ht1]
            · rw [if_neg c5, if_pos rfl]
              by_cases c6 : ((h8 ++ encL (l.map to38)).length : Int) > 60000
              · rw [decide_eq_true c6, ht1]
              · rw [decide_eq_false c6]
                show avocetlaw07_SectCustom.j1 (1001 + 1) l a true false r.1 r.2.1 = _
                simp only [avocetlaw07_SectCustom.j1]
                rw [List.length_append, show h8.length = 8 from rfl] at c6
                have hm : Int.tmod (Go.bits .and .i64 a 65535) ((l.length : Int) + 1) = (((a % 65536) % ((l.length : Int) + 1)).toNat : Int) := by
                  rw [mask16, Int.tmod_eq_emod_of_nonneg (by omega), Int.toNat_of_nonneg (Int.emod_nonneg _ (by omega))]
                have hml : ((a % 65536) % ((l.length : Int) + 1)).toNat ≤ l.length := by
                  have := Int.emod_lt_of_pos (a % 65536) (show (0 : Int) < (l.length : Int) + 1 by omega)
                  omega
                rw [if_neg (by decide), w64 ((l.length : Int) + 1) (by omega) (by omega), if_neg (by omega), hm]
                generalize ((a % 65536) % ((l.length : Int) + 1)).toNat = kk at *
                simp only [Option.bind_some, List.nil_append, List.length_nil, Nat.zero_add, Int.toNat_natCast]
                rw [if_pos (by omega), if_pos (by omega), ours_f (l.take kk) (by rw [List.length_take]; omega) 1001 (by rw [List.length_take]; omega), Option.bind_some, if_pos (by rw [List.length_map, List.length_take]; omega),
                  if_pos (by rw [List.length_map, List.length_take, List.length_cons, List.length_nil]; omega), ours_f (l.drop kk) (by rw [List.length_drop]; omega) 1001 (by rw [List.length_drop]; omega), Option.bind_some,
                  if_pos (by rw [List.length_append, List.length_map, List.length_map, List.length_take, List.length_drop, List.length_cons, List.length_nil]; omega)]
                have hsplit : (l.take kk).map to38 ++ (l.drop kk).map to38 = l.map to38 := by rw [← List.map_append, List.take_append_drop]
                have hal : (l.take kk).map to38 ++ [(⟨r.1, r.2.1⟩ : S38)] ++ (l.drop kk).map to38 = (l.take kk).map to38 ++ (⟨r.1, r.2.1⟩ : S38) :: (l.drop kk).map to38 := by simp
                rw [hal]
                have hoA : okS 0 ((l.take kk).map to38 ++ (⟨r.1, r.2.1⟩ : S38) :: (l.drop kk).map to38) := okS_insert _ _ 0 (by omega) (by rw [hsplit]; exact ho) _ r0 rN
                have hsA : small ((l.take kk).map to38 ++ (⟨r.1, r.2.1⟩ : S38) :: (l.drop kk).map to38) := by
                  intro z hz
                  rcases List.mem_append.1 hz with hz | hz
                  · exact hs z (by rw [← hsplit]; exact List.mem_append_left _ hz)
                  · rcases List.mem_cons.1 hz with rfl | hz
                    · exact ⟨rB, by show r.2.1.length ≤ 70000; omega⟩
                    · exact hs z (by rw [← hsplit]; exact List.mem_append_right _ hz)
                have hlA : ((l.take kk).map to38 ++ (⟨r.1, r.2.1⟩ : S38) :: (l.drop kk).map to38).length = l.length + 1 := by simp; omega
                have hes := encS_len (⟨r.1, r.2.1⟩ : S38) (by show r.2.1.length ≤ 70000; omega)
                have heA : (encL ((l.take kk).map to38 ++ (⟨r.1, r.2.1⟩ : S38) :: (l.drop kk).map to38)).length = (encL (l.map to38)).length + (encS (⟨r.1, r.2.1⟩ : S38)).length := by
                  rw [← hsplit, encL_append, encL_append, encL_cons]
                  simp
                  omega
                have hes2 : (encS (⟨r.1, r.2.1⟩ : S38)).length ≤ 304 := by
                  have := hes.2
                  simp only at this
                  omega
                have hbig : (h8 ++ encL ((l.take kk).map to38 ++ (⟨r.1, r.2.1⟩ : S38) :: (l.drop kk).map to38)).length ≤ 65536 := by
                  rw [List.length_append, heA, show h8.length = 8 from rfl]
                  omega
                rcases join_f _ hsA (by omega) 1001 (by omega) with ⟨_, hjA⟩ | ⟨hno, _⟩
                · rw [hjA, if_neg (by omega)]
                  simp only [Option.bind_some]
                  rw [split_back_f _ 1001 hoA hsA hbig (by omega) (by omega)]
                  simp only [Option.bind_some, if_true]
                  rw [hlA, show (((l.length + 1 : Nat) : Int) != (l.length : Int) + 1) = false by simp]
                  have := custom_j2 l hn kk hml (⟨r.1, r.2.1⟩ : S38) r0 1000 (by omega)
                  exact this
                · exact absurd hoA hno
          · rw [if_neg c4, ht1]
        · rw [hj]
          simp only [Option.bind_some]
          by_cases c4 : r.2.2 = 0
          · rw [if_pos c4, if_neg (by decide), ht1]
          · rw [if_neg c4, ht1]
end Go.Proofs.YtoeknjmdlmhajaaDoor.Pure
