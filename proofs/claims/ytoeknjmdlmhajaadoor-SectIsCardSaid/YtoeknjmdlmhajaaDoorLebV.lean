/- What the program's laying and reading of whole numbers (leb.U, leb.ReadU) come to: in the plain words of LebM. (Out of LebU and LebR, for seats without the signed ones.) -/
import Derived.Test.YtoeknjmdlmhajaaDoorLebM
import Derived.Test.YtoeknjmdlmhajaaDoorG1
set_option linter.unusedVariables false
set_option linter.unusedSimpArgs false
namespace Go.Proofs.YtoeknjmdlmhajaaDoor.LebV
open Go.RowKit Go.Proofs.YtoeknjmdlmhajaaDoor.G Go.Proofs.YtoeknjmdlmhajaaDoorW.PrintWords Go.Proofs.YtoeknjmdlmhajaaDoorW.PrintLast Go.Proofs.YtoeknjmdlmhajaaDoorW.PrintMore Go.Proofs.YtoeknjmdlmhajaaDoor.LebM
theorem wrap64_id (x : Int) (h0 : -9223372036854775808 ≤ x) (h1 : x < 9223372036854775808) : wrap64 x = x := by unfold wrap64; omega
theorem U_l0 : ∀ (j k : Nat) (v : Int) (out : List Int), 0 ≤ v → v < 128 * 128 ^ j → j < k → out.length + j + 1 < 140737488355328 → leb_U.l0 k v out = some (out ++ uB j v)
  | 0, k, v, out, h0, h1, hk, hl => by
    obtain ⟨k, rfl⟩ : ∃ m, k = m + 1 := ⟨k - 1, by omega⟩
    simp at h1
    simp only [leb_U.l0, uB]
    rw [if_neg (by omega), if_pos (by omega)]
    congr 3; omega
  | j + 1, k, v, out, h0, h1, hk, hl => by
    obtain ⟨k, rfl⟩ : ∃ m, k = m + 1 := ⟨k - 1, by omega⟩
    rw [Int.pow_succ] at h1
    simp only [leb_U.l0, uB]
    by_cases hv : v ≥ 128
    · rw [if_pos hv, if_pos (by omega), if_pos hv, U_l0 j k (v / 128) _ (by omega) (by omega) (by omega) (by simp; omega)]
      rw [or128 _ (by omega) (by omega), List.append_assoc]
      congr 2
      simp
    · rw [if_neg hv, if_pos (by omega), if_neg hv]
      congr 3; omega
theorem U_f (k : Nat) (l : List Int) (v : Int) (h0 : 0 ≤ v) (h1 : v < 18446744073709551616) (hk : 10 ≤ k) (hl : l.length + 10 < 140737488355328) : leb_U.f k l v = some (l ++ uB 9 v) := by
  unfold leb_U.f bytes_Clone.f
  rw [if_pos (by omega), Option.bind_some]
  exact U_l0 9 k v l h0 (by omega) (by omega) (by omega)
theorem wrap_u64 (x : Int) : IntKind.u64.wrap x = x % 18446744073709551616 := IntKind.wrap_u64 x
theorem pow_nn (i : Nat) : (0 : Int) < 2 ^ i := by exact_mod_cast Nat.two_pow_pos i
theorem or_nat (i V C : Nat) (hi : i ≤ 63) (hV : V < 2 ^ i) : V ||| (C * 2 ^ i % 18446744073709551616) = (V + C * 2 ^ i) % 18446744073709551616 := by
  have hM : (18446744073709551616 : Nat) = 2 ^ (64 - i) * 2 ^ i := by rw [← Nat.pow_add, show 64 - i + i = 64 by omega]
  have hX : C * 2 ^ i % 18446744073709551616 = (C % 2 ^ (64 - i)) * 2 ^ i := by rw [hM, Nat.mul_mod_mul_right]
  have hD : C % 2 ^ (64 - i) < 2 ^ (64 - i) := Nat.mod_lt _ (Nat.two_pow_pos _)
  have hle : (C % 2 ^ (64 - i) + 1) * 2 ^ i ≤ 18446744073709551616 := by
    rw [hM]; exact Nat.mul_le_mul_right _ hD
  rw [Nat.add_mul, Nat.one_mul] at hle
  have e1 : (V + C * 2 ^ i) % 18446744073709551616 = V + (C % 2 ^ (64 - i)) * 2 ^ i := by
    rw [Nat.add_mod, hX, Nat.mod_eq_of_lt (show V < 18446744073709551616 by omega)]
    exact Nat.mod_eq_of_lt (by omega)
  rw [e1, hX, Nat.or_comm, nat_join i _ _ (Nat.mul_mod_left _ _) hV, Nat.add_comm]
theorem or_step (n : Nat) (hn : n ≤ 9) (v c : Int) (h0 : 0 ≤ v) (h1 : v < 2 ^ (7 * n)) (hc0 : 0 ≤ c) (hc1 : c < 256) :
    Go.bits .or .u64 v (IntKind.u64.wrap (IntKind.u64.wrap (Go.bits .and .u8 c 127) * 2 ^ (7 * (n : Int)).toNat)) = (v + c % 128 * 2 ^ (7 * n)) % 18446744073709551616 := by
  have e0 : IntKind.u64.wrap (Go.bits .and .u8 c 127) = c % 128 := by rw [and127 c hc0 hc1, wrap_u64]; omega
  have e : (7 * (n : Int)).toNat = 7 * n := by omega
  rw [e0, wrap_u64, e]
  obtain ⟨V, rfl⟩ := Int.eq_ofNat_of_zero_le h0
  obtain ⟨C, hC⟩ := Int.eq_ofNat_of_zero_le (show 0 ≤ c % 128 by omega)
  have hV : V < 2 ^ (7 * n) := by exact_mod_cast h1
  have hb : (2 : Nat) ^ (7 * n) ≤ 2 ^ 63 := Nat.pow_le_pow_right (by omega) (by omega)
  have ey : ((C : Int) * 2 ^ (7 * n)) % 18446744073709551616 = ((C * 2 ^ (7 * n) % 18446744073709551616 : Nat) : Int) := by simp
  rw [hC, ey, u64_or _ _ (by omega) (by omega) (by omega) (by omega), Int.toNat_natCast, Int.toNat_natCast, or_nat _ _ _ (by omega) hV]
  simp

def allB (l : List Int) : Prop := ∀ x ∈ l, 0 ≤ x ∧ x < 256
theorem rd_at (l : List Int) (x : Nat) (h : x < l.length) : rd l (x : Int) = l[x] := by
  unfold rd
  rw [Int.toNat_natCast, List.getD_eq_getElem?_getD, List.getElem?_eq_getElem h]
  rfl
theorem drop_at (l : List Int) (x : Nat) (h : x < l.length) : l.drop x = rd l (x : Int) :: l.drop (x + 1) := by
  rw [rd_at l x h]
  exact List.drop_eq_getElem_cons h
/-- What a read of a group comes to. -/
def rres (v : Int) (n x : Nat) (g : Int × List Int) : Int × Int × Int × Int × Int :=
  if g.1 = 0 then ((v + val g.2 * 2 ^ (7 * n)) % 18446744073709551616, 7 * ((n : Int) + g.2.length), last g.2, (x : Int) + g.2.length, 0) else (0, 0, 0, 0, g.1)
theorem read_l0 (l : List Int) (hl : allB l) : ∀ (rem k n x : Nat) (v : Int), 1 ≤ rem → rem ≤ k → n + rem ≤ 10 → 0 ≤ v → v < 2 ^ (7 * n) → x ≤ l.length →
    leb_read.l0 k l ((n : Int) + rem) x v n = some (rres v n x (take7 rem (l.drop x)))
  | 0, k, n, x, v, h1, _, _, _, _, _ => by omega
  | rem + 1, k, n, x, v, _, hk, hn, h0, h1, hx => by
    obtain ⟨k, rfl⟩ : ∃ m, k = m + 1 := ⟨k - 1, by omega⟩
    simp only [leb_read.l0]
    by_cases hlt : x < l.length
    · have hc := hl (rd l x) (by rw [rd_at l x hlt]; exact List.getElem_mem hlt)
      rw [if_pos (by omega), drop_at l x hlt, or_step n (by omega) v (rd l x) h0 h1 hc.1 hc.2]
      generalize rd l (x : Int) = c at hc
      simp only [take7]
      by_cases hc1 : c < 128
      · rw [if_pos hc1, if_pos hc1]
        simp only [rres, val, last, if_true, List.length_singleton, Int.mul_zero, Int.add_zero]
        rfl
      · rw [if_neg hc1, if_neg hc1]
        cases rem with
        | zero =>
          rw [if_pos (by omega)]
          rfl
        | succ rem =>
          rw [if_neg (by omega)]
          have hp7 : (2 : Int) ^ (7 * (n + 1)) = 128 * 2 ^ (7 * n) := by rw [← pow7]; rfl
          have hP := pow_nn (7 * n)
          have hP9 : (2 : Int) ^ (7 * n) ≤ 2 ^ 56 := by exact_mod_cast Nat.pow_le_pow_right (by omega) (by omega)
          generalize hPe : (2 : Int) ^ (7 * n) = P at *
          have hcP : c % 128 * P ≤ 127 * P := Int.mul_le_mul_of_nonneg_right (by omega) (by omega)
          have hcP0 : 0 ≤ c % 128 * P := Int.mul_nonneg (by omega) (by omega)
          rw [Int.emod_eq_of_lt (by omega) (by omega)]
          have ih := read_l0 l hl (rem + 1) k (n + 1) (x + 1) (v + c % 128 * P) (by omega) (by omega) (by omega) (by omega) (by rw [hp7]; omega) (by omega)
          rw [show ((n + 1 : Nat) : Int) + ((rem + 1 : Nat) : Int) = (n : Int) + ((rem + 1 + 1 : Nat) : Int) by omega] at ih
          rw [show ((x + 1 : Nat) : Int) = (x : Int) + 1 by omega, show ((n + 1 : Nat) : Int) = (n : Int) + 1 by omega] at ih
          rw [ih]
          congr 1
          simp only [rres]
          have hne := take7_ne (rem + 1) (l.drop (x + 1))
          generalize take7 (rem + 1) (l.drop (x + 1)) = g at hne ⊢
          by_cases hg : g.1 = 0
          · rw [if_pos hg, if_pos hg]
            simp only [val]
            rw [last_cons _ (hne hg), hp7, hPe]
            have e1 : val g.2 * (128 * P) = 128 * val g.2 * P := by rw [← Int.mul_assoc, Int.mul_comm (val g.2) 128]
            rw [e1, Int.add_mul, List.length_cons]
            refine Prod.ext ?_ (Prod.ext ?_ (Prod.ext rfl (Prod.ext ?_ rfl)))
            · simp only; congr 1; omega
            · simp only; omega
            · simp only; omega
          · rw [if_neg hg, if_neg hg]
    · rw [if_neg (by omega), List.drop_eq_nil_of_le (by omega)]
      rfl
theorem read_f (l : List Int) (hl : allB l) (at_ bits : Int) :
    leb_read.f l at_ bits = some (if 1 ≤ bits ∧ bits ≤ 64 ∧ 0 ≤ at_ ∧ at_ ≤ (l.length : Int) then rres 0 0 at_.toNat (take7 ((bits.toNat + 6) / 7) (l.drop at_.toNat)) else (0, 0, 0, 0, 1)) := by
  unfold leb_read.f
  split
  · rename_i h
    have := read_l0 l hl ((bits.toNat + 6) / 7) 11 0 at_.toNat 0 (by omega) (by omega) (by omega) (by omega) (by simp) (by omega)
    rw [show ((0 : Nat) : Int) + (((bits.toNat + 6) / 7 : Nat) : Int) = (bits + 7 - 1) / 7 by omega, show ((at_.toNat : Nat) : Int) = at_ by omega, show ((0 : Nat) : Int) = 0 by rfl] at this
    exact this
  · rfl

/-- What a read of a number comes to. -/
def rU (l : List Int) (at_ bits : Int) : Int × Int × Int :=
  if 1 ≤ bits ∧ bits ≤ 64 ∧ 0 ≤ at_ ∧ at_ ≤ (l.length : Int) then
    (if (take7 ((bits.toNat + 6) / 7) (l.drop at_.toNat)).1 = 0 then
      (if val (take7 ((bits.toNat + 6) / 7) (l.drop at_.toNat)).2 < 2 ^ bits.toNat then (val (take7 ((bits.toNat + 6) / 7) (l.drop at_.toNat)).2, at_ + (take7 ((bits.toNat + 6) / 7) (l.drop at_.toNat)).2.length, 0) else (0, 0, 3))
    else (0, 0, (take7 ((bits.toNat + 6) / 7) (l.drop at_.toNat)).1))
  else (0, 0, 1)
theorem allB_drop {l : List Int} (hl : allB l) (n : Nat) : allB (l.drop n) := fun x hx => hl x (List.mem_of_mem_drop hx)
theorem shr_u8 (x : Int) (n : Nat) (hn : n ≤ 8) : shr .u8 x (n : Int) = x / 2 ^ n := by
  unfold shr
  rw [Int.toNat_natCast, Nat.min_eq_left (by simpa [IntKind.bits] using hn)]
theorem ReadU_f (l : List Int) (hl : allB l) (at_ bits : Int) (hlen : l.length < 4611686018427387904) : leb_ReadU.f l at_ bits = some (rU l at_ bits) := by
  unfold leb_ReadU.f
  rw [read_f l hl]
  unfold rU
  by_cases hb : 1 ≤ bits ∧ bits ≤ 64 ∧ 0 ≤ at_ ∧ at_ ≤ (l.length : Int)
  · rw [if_pos hb, if_pos hb]
    have tt := take7_tells ((bits.toNat + 6) / 7) (l.drop at_.toNat) (allB_drop hl _)
    have ea : ((at_.toNat : Nat) : Int) = at_ := by omega
    generalize take7 ((bits.toNat + 6) / 7) (l.drop at_.toNat) = g at tt ⊢
    simp only [Option.bind_some, rres, ea]
    by_cases hg : g.1 = 0
    · rcases tt with ⟨_, hG, hm, _⟩ | h | h
      · rw [if_pos hg, if_pos hg]
        simp only [if_true]
        have hp := hG.pos
        have hv := val_nonneg hG
        have hf := fitU hG bits.toNat (by omega)
        have h64 : (2 : Int) ^ bits.toNat ≤ 2 ^ 64 := by exact_mod_cast Nat.pow_le_pow_right (by omega) (by omega)
        have hlr := last_range hG
        obtain ⟨L, hL⟩ : ∃ L, g.2.length = L := ⟨_, rfl⟩
        rw [hL] at hp hm hf ⊢
        simp only [Nat.mul_zero, Int.pow_zero, Int.mul_one, Int.zero_add, Int.natCast_zero]
        by_cases hn : 7 * (L : Int) > bits
        · rw [if_pos hn]
          have e1 : wrap64 (7 * (L : Int) - bits) = 7 * (L : Int) - bits := wrap64_id _ (by omega) (by omega)
          have e2 : wrap64 (7 - (7 * (L : Int) - bits)) = ((bits.toNat - 7 * (L - 1) : Nat) : Int) := by rw [wrap64_id _ (by omega) (by omega)]; omega
          rw [e1, e2, if_pos (by omega), shr_u8 _ _ (by omega)]
          have hi := hf.2 (by omega)
          by_cases hz : last g.2 / 2 ^ (bits.toNat - 7 * (L - 1)) = 0
          · rw [if_pos hz, if_pos (hi.1 hz), Int.emod_eq_of_lt hv (by have := hi.1 hz; omega)]
          · rw [if_neg hz, if_neg (fun h => hz (hi.2 h))]
        · rw [if_neg hn]
          have := hf.1 (by omega)
          rw [if_pos this, Int.emod_eq_of_lt hv (by omega)]
      · omega
      · omega
    · rw [if_neg hg, if_neg hg]
      simp only
      rw [if_neg hg]
  · rw [if_neg hb, if_neg hb]
    rfl
theorem rU_at (pre g rest : List Int) (hG : Grp g) (bits : Nat) (h1 : 1 ≤ bits) (h2 : bits ≤ 64) (hL : g.length ≤ (bits + 6) / 7) (hv : val g < 2 ^ bits) : rU (pre ++ (g ++ rest)) pre.length bits = (val g, (pre.length : Int) + g.length, 0) := by
  unfold rU
  rw [if_pos (by simp; omega)]
  simp only [Int.toNat_natCast, List.drop_left]
  rw [take7_grp hG _ rest hL]
  simp [hv]
end Go.Proofs.YtoeknjmdlmhajaaDoor.LebV
