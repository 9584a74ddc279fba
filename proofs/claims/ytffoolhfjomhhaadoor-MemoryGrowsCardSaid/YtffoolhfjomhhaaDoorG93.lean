/- The law MemoryBack walked. -/
import Derived.Test.YtffoolhfjomhhaaDoorG
import Derived.Test.YtffoolhfjomhhaaDoorG92
import Derived.Test.YtffoolhfjomhhaaDoorMemH
import Derived.Test.YtffoolhfjomhhaaDoorMemS
namespace Go.Proofs.YtffoolhfjomhhaaDoor.G
open Go.RowKit Go.Proofs.YtffoolhfjomhhaaDoorW.PrintWords Go.Proofs.YtffoolhfjomhhaaDoorW.PrintLast Go.Proofs.YtffoolhfjomhhaaDoorW.PrintMore
attribute [local go_sem] max2_int min2_int max_two min_two max_three min_three max_four min_four   -- for this text's walks alone
set_option linter.unusedVariables false
set_option linter.unusedSimpArgs false
set_option maxHeartbeats 4000000 in
theorem backOff (op base off v : Int) (fill : List Int) (Ab : Option Addr) (cb : Nat) (w : World) (hG : Globs w) (hC : Kd.C (Kd.int .u8) w Ab fill.length fill) (hcb : fill.length ≤ cb) (hfo : Oct fill) (hfl : fill.length ≤ 300)
    (hb : 0 ≤ base ∧ base < 18446744073709551616) (ho : 0 ≤ off ∧ off < 18446744073709551616) (hv : 0 ≤ v ∧ v < 18446744073709551616) (q : Nat) (hq : bits .and .i64 op 15 = (q : Int)) (hq2 : q ≤ 15) (ty : Int) (n : Int) (sg : Bool) (ha : acc (54 + (q : Int)) = (ty, n, sg, false)) :
    Calls Tryd.prog 4 #[.int .i64 op, .int .u64 base, .int .u64 off, .int .u64 v, .slice Ab fill.length cb] w fun e w' => e = .returned (.bool true) ∧ Below w.heap.size w w' := by
  have HG := Aside0.mk hG
  have HC := Aside0.mk hC
  have HV := Aside0.mk hv
  obtain ⟨a, haa, ha2⟩ := and_low base 65535 hb (by decide)
  replace haa : bits .and .u64 base 65535 = (a : Int) := haa
  obtain ⟨o, hoo, ho2⟩ := and_low off 255 ho (by decide)
  replace hoo : bits .and .u64 off 255 = (o : Int) := hoo
  have d0 : decide ((300 : Int) < (fill.length : Int)) = false := decide_eq_false (by omega)
  have d0' : decide (300 < fill.length) = false := decide_eq_false (by omega)
  obtain ⟨t, ht⟩ : ∃ t : Nat, t = a + o := ⟨_, rfl⟩
  have hto : (a : Int) + (o : Int) = (t : Int) := by omega
  obtain ⟨mm, hmm⟩ : ∃ mm : Int, (if 65536 < t then (65536 : Int) else (t : Int)) = mm := ⟨_, rfl⟩
  have hmn : (if (65536 : Int) < (t : Int) then (65536 : Int) else (t : Int)) = mm := by rw [← hmm]; split <;> split <;> omega
  obtain ⟨ps, hps⟩ : ∃ ps : Int, (if 20 < mm then mm - 20 else 0) = ps := ⟨_, rfl⟩
  have hmm0 : 0 ≤ mm ∧ mm ≤ 65536 := by rw [← hmm]; split <;> omega
  have hps0 : 0 ≤ ps ∧ ps ≤ 65516 := by rw [← hps]; split <;> omega
  obtain ⟨kk, hkk⟩ : ∃ kk : Int, 54 + (q : Int) = kk := ⟨_, rfl⟩
  rw [hkk] at ha
  obtain ⟨r1, hr1⟩ : ∃ r1, r1 = (mLay b0 ps fill).isSome := ⟨_, rfl⟩
  obtain ⟨b1, hb1⟩ : ∃ b1, b1 = (mLay b0 ps fill).getD b0 := ⟨_, rfl⟩
  have hg1 : b1.length = 65536 ∧ Oct b1 := by
    rw [hb1]
    unfold mLay
    split
    · rename_i hc
      exact ⟨by rw [Option.getD_some, splice_length (by omega), b0_len], splice_oct b0_oct hfo⟩
    · exact ⟨b0_len, b0_oct⟩
  have HGD := Aside0.mk (show Good ⟨b1, 1, 0, false⟩ from ⟨hg1.2, by show b1.length ≤ _; rw [hg1.1]; decide⟩)
  have HST := Aside0.mk (show mStore b1 kk a o v = none by unfold mStore; rw [if_neg]; rw [ha]; exact fun h => Bool.noConfusion h.1)
  have HBY := Aside0.mk (show mBytes b1 0 65536 = b1 by rw [show (0 : Int) = ((0 : Nat) : Int) from rfl, show (65536 : Int) = ((65536 : Nat) : Int) from rfl, mBytes_seg (by omega)]; unfold seg; rw [List.drop_zero, List.take_of_length_le (by omega)])
  have HL := Aside0.mk hg1.1
  have HT := Aside0.mk ht
  have HR1 := Aside0.mk hr1
  have HB1 := Aside0.mk hb1
  clear hG hC hv hg1 ht hr1 hb1
  go_enter Tryd.func4, Tryd.ntmps4
  go_wp2_with (first
    | (go_at_call 9; (with_reducible refine (awake _ HG.out).mono ?_); rintro e w1 ⟨rfl, hb⟩; have HB := Aside0.mk hb; clear hb)
    | (go_at_call 10; (with_reducible refine (memNew1 ((SB.start w).below HB.out)).mono ?_); rintro e w2 ⟨p1, rfl, hs⟩; have HS := Aside0.mk hs; clear hs)
    | (go_at_call 15; (with_reducible refine (memLayG (p := p1) HS.out (good0 _ _ _) ps fill Ab cb (by omega) (Kd.C_below HC.out HS.out.bel) (by omega) HR1.out HB1.out).mono ?_); rintro e w4 ⟨rfl, hs⟩; have HS3 := Aside0.mk hs; clear hs)
    | (go_at_call 16; (with_reducible refine (memBytesH (p := p1) HS3.out HGD.out 0 65536 (by decide) (by decide) HBY.out).mono ?_); rintro e w5 ⟨v1, rfl, hs⟩; have HS4 := Aside0.mk hs; clear hs; obtain ⟨A1, c1, hv1, hc1, _⟩ := HS4.out.reads; rw [HL.out] at hv1; subst hv1)
    | (go_at_call 17; (with_reducible refine (instrAccess kk _ (HG.out.below HS4.out.bel) (by omega)).mono ?_); rintro e w6 ⟨rfl, hb6⟩; rw [ha]; have HS5 := Aside0.mk (HS4.out.below hb6); clear hb6)
    | (go_at_call 11; (with_reducible refine (memStoreN (p := p1) HS5.out (HG.out.below HS5.out.bel) HGD.out kk a o v (by omega) (by omega) (by omega) HV.out HST.out).mono ?_); rintro e w7 ⟨rfl, hs⟩; have HS6 := Aside0.mk hs; clear hs)
    | (go_at_call 16; (with_reducible refine (memBytesH (p := p1) HS6.out HGD.out 0 65536 (by decide) (by decide) HBY.out).mono ?_); rintro e w8 ⟨v2, rfl, hs⟩; have HS7 := Aside0.mk hs; clear hs; obtain ⟨A2, c2, hv2, hc2, _⟩ := HS7.out.reads; rw [HL.out] at hv2; subst hv2; have hcA := SB.strAt (.slice A1 65536 c1) HS7.out; have hcB := SB.strAt (.slice A2 65536 c2) HS7.out))
  go_ret
  exact ⟨rfl, HS7.out.bel⟩
set_option maxHeartbeats 4000000 in
theorem backFar (op base off v : Int) (fill : List Int) (Ab : Option Addr) (cb : Nat) (w : World) (hG : Globs w) (hC : Kd.C (Kd.int .u8) w Ab fill.length fill) (hcb : fill.length ≤ cb) (hfo : Oct fill) (hfl : fill.length ≤ 300)
    (hb : 0 ≤ base ∧ base < 18446744073709551616) (ho : 0 ≤ off ∧ off < 18446744073709551616) (hv : 0 ≤ v ∧ v < 18446744073709551616) (q : Nat) (hq : bits .and .i64 op 15 = (q : Int)) (hq2 : q ≤ 15) (ty : Int) (n : Nat) (sg : Bool) (ha : acc (54 + (q : Int)) = (ty, (n : Int), sg, true)) (hn : n ≤ 8) (hfar : ∀ a o : Nat, bits .and .u64 base 65535 = (a : Int) → bits .and .u64 off 255 = (o : Int) → 65536 < a + o + n) :
    Calls Tryd.prog 4 #[.int .i64 op, .int .u64 base, .int .u64 off, .int .u64 v, .slice Ab fill.length cb] w fun e w' => e = .returned (.bool true) ∧ Below w.heap.size w w' := by
  have HG := Aside0.mk hG
  have HC := Aside0.mk hC
  have HV := Aside0.mk hv
  obtain ⟨a, haa, ha2⟩ := and_low base 65535 hb (by decide)
  replace haa : bits .and .u64 base 65535 = (a : Int) := haa
  obtain ⟨o, hoo, ho2⟩ := and_low off 255 ho (by decide)
  replace hoo : bits .and .u64 off 255 = (o : Int) := hoo
  have d0 : decide ((300 : Int) < (fill.length : Int)) = false := decide_eq_false (by omega)
  have d0' : decide (300 < fill.length) = false := decide_eq_false (by omega)
  obtain ⟨t, ht⟩ : ∃ t : Nat, t = a + o := ⟨_, rfl⟩
  have hto : (a : Int) + (o : Int) = (t : Int) := by omega
  obtain ⟨mm, hmm⟩ : ∃ mm : Int, (if 65536 < t then (65536 : Int) else (t : Int)) = mm := ⟨_, rfl⟩
  have hmn : (if (65536 : Int) < (t : Int) then (65536 : Int) else (t : Int)) = mm := by rw [← hmm]; split <;> split <;> omega
  obtain ⟨ps, hps⟩ : ∃ ps : Int, (if 20 < mm then mm - 20 else 0) = ps := ⟨_, rfl⟩
  have hmm0 : 0 ≤ mm ∧ mm ≤ 65536 := by rw [← hmm]; split <;> omega
  have hps0 : 0 ≤ ps ∧ ps ≤ 65516 := by rw [← hps]; split <;> omega
  obtain ⟨kk, hkk⟩ : ∃ kk : Int, 54 + (q : Int) = kk := ⟨_, rfl⟩
  rw [hkk] at ha
  obtain ⟨r1, hr1⟩ : ∃ r1, r1 = (mLay b0 ps fill).isSome := ⟨_, rfl⟩
  obtain ⟨b1, hb1⟩ : ∃ b1, b1 = (mLay b0 ps fill).getD b0 := ⟨_, rfl⟩
  have hg1 : b1.length = 65536 ∧ Oct b1 := by
    rw [hb1]
    unfold mLay
    split
    · rename_i hc
      exact ⟨by rw [Option.getD_some, splice_length (by omega), b0_len], splice_oct b0_oct hfo⟩
    · exact ⟨b0_len, b0_oct⟩
  have HGD := Aside0.mk (show Good ⟨b1, 1, 0, false⟩ from ⟨hg1.2, by show b1.length ≤ _; rw [hg1.1]; decide⟩)
  have HST := Aside0.mk (show mStore b1 kk a o v = none by unfold mStore; rw [if_neg]; rw [ha]; exact fun h => absurd (mFits_iff.1 h.2).2.2.2 (by have := hfar a o haa hoo; rw [hg1.1]; show ¬ ((a : Int) + (o : Int) + (n : Int) ≤ 65536); omega))
  have HBY := Aside0.mk (show mBytes b1 0 65536 = b1 by rw [show (0 : Int) = ((0 : Nat) : Int) from rfl, show (65536 : Int) = ((65536 : Nat) : Int) from rfl, mBytes_seg (by omega)]; unfold seg; rw [List.drop_zero, List.take_of_length_le (by omega)])
  have HL := Aside0.mk hg1.1
  have dfar : decide ((t : Int) + (n : Int) ≤ 65536) = false := decide_eq_false (by have := hfar a o haa hoo; omega)
  have dfar' : decide (t + n ≤ 65536) = false := decide_eq_false (by have := hfar a o haa hoo; omega)
  have HT := Aside0.mk ht
  have HR1 := Aside0.mk hr1
  have HB1 := Aside0.mk hb1
  clear hfar hG hC hv hg1 ht hr1 hb1
  go_enter Tryd.func4, Tryd.ntmps4
  go_wp2_with (first
    | (go_at_call 9; (with_reducible refine (awake _ HG.out).mono ?_); rintro e w1 ⟨rfl, hb⟩; have HB := Aside0.mk hb; clear hb)
    | (go_at_call 10; (with_reducible refine (memNew1 ((SB.start w).below HB.out)).mono ?_); rintro e w2 ⟨p1, rfl, hs⟩; have HS := Aside0.mk hs; clear hs)
    | (go_at_call 15; (with_reducible refine (memLayG (p := p1) HS.out (good0 _ _ _) ps fill Ab cb (by omega) (Kd.C_below HC.out HS.out.bel) (by omega) HR1.out HB1.out).mono ?_); rintro e w4 ⟨rfl, hs⟩; have HS3 := Aside0.mk hs; clear hs)
    | (go_at_call 16; (with_reducible refine (memBytesH (p := p1) HS3.out HGD.out 0 65536 (by decide) (by decide) HBY.out).mono ?_); rintro e w5 ⟨v1, rfl, hs⟩; have HS4 := Aside0.mk hs; clear hs; obtain ⟨A1, c1, hv1, hc1, _⟩ := HS4.out.reads; rw [HL.out] at hv1; subst hv1)
    | (go_at_call 17; (with_reducible refine (instrAccess kk _ (HG.out.below HS4.out.bel) (by omega)).mono ?_); rintro e w6 ⟨rfl, hb6⟩; rw [ha]; have HS5 := Aside0.mk (HS4.out.below hb6); clear hb6)
    | (go_at_call 11; (with_reducible refine (memStoreN (p := p1) HS5.out (HG.out.below HS5.out.bel) HGD.out kk a o v (by omega) (by omega) (by omega) HV.out HST.out).mono ?_); rintro e w7 ⟨rfl, hs⟩; have HS6 := Aside0.mk hs; clear hs)
    | (go_at_call 16; (with_reducible refine (memBytesH (p := p1) HS6.out HGD.out 0 65536 (by decide) (by decide) HBY.out).mono ?_); rintro e w8 ⟨v2, rfl, hs⟩; have HS7 := Aside0.mk hs; clear hs; obtain ⟨A2, c2, hv2, hc2, _⟩ := HS7.out.reads; rw [HL.out] at hv2; subst hv2; have hcA := SB.strAt (.slice A1 65536 c1) HS7.out; have hcB := SB.strAt (.slice A2 65536 c2) HS7.out))
  go_ret
  exact ⟨rfl, HS7.out.bel⟩
theorem i0_info : ∃ i0, Tryd.prog.info? 5 = some i0 ∧ i0.size = 1 := by
  obtain ⟨i0, hi0, _, hsz, _⟩ := info_parts (show (Tryd.prog.info? 5).map (fun i => (i.zero, i.size, i.bytes)) = some (some (.int .u8 0), 1, 1) by kernel_rfl)
  exact ⟨i0, hi0, hsz⟩
theorem cut_lo (A : Option Addr) (c : Nat) (b : List Int) (t : Nat) (h : t ≤ b.length) (hc : b.length ≤ c) :
    ∃ (k : Nat), (∀ W : World, (Instr.slice 39 (.slice A b.length c) none (some (.int .i64 (t : Int))) none).run Tryd.prog W = .ok (.slice A k c) W) ∧ (∀ w : World, Kd.C (Kd.int .u8) w A b.length b → (convert 39 9 (.slice A k c)).run Tryd.prog w = .ok (.string (strOfNums (b.take t))) w) := by
  obtain ⟨i0, hi0, hsz⟩ := i0_info
  obtain ⟨h1, h2, h3⟩ := print_take_of (P := Tryd.prog) (Value.int .u8) 0 39 5 .i64 Tryd.underlying39 hi0 hsz A c b (t : Int) (by omega) (by omega) hc
  refine ⟨_, h1, fun w hC => ?_⟩
  have h4 := h2 w (Kd.reads_of_C hC)
  rw [Int.toNat_natCast] at h4 ⊢
  exact Kd.C_string (P := Tryd.prog) Tryd.underlying39 Tryd.underlying5 Tryd.underlying9 (Kd.C_of_reads (h1 := fun _ => rfl) h4)
theorem cut_hi (A : Option Addr) (c : Nat) (b : List Int) (t : Nat) (h : t ≤ b.length) (hc : b.length ≤ c) :
    ∃ (A' : Option Addr) (k c' : Nat), (∀ W : World, (Instr.slice 39 (.slice A b.length c) (some (.int .i64 (t : Int))) none none).run Tryd.prog W = .ok (.slice A' k c') W) ∧ (∀ w : World, Kd.C (Kd.int .u8) w A b.length b → (convert 39 9 (.slice A' k c')).run Tryd.prog w = .ok (.string (strOfNums (b.drop t))) w) := by
  obtain ⟨i0, hi0, hsz⟩ := i0_info
  obtain ⟨A', h1, h2, h3⟩ := print_drop_of (P := Tryd.prog) (Value.int .u8) 0 39 5 .i64 Tryd.underlying39 hi0 hsz A c b (t : Int) (by omega) (by omega) hc
  refine ⟨A', _, _, h1, fun w hC => ?_⟩
  have h4 := h2 w (Kd.reads_of_C hC)
  rw [Int.toNat_natCast] at h4 ⊢
  exact Kd.C_string (P := Tryd.prog) Tryd.underlying39 Tryd.underlying5 Tryd.underlying9 (Kd.C_of_reads (h1 := fun _ => rfl) h4)
/-- What is read of a row that stands in the list. -/
theorem SB.readAt {w0 w : World} {L : List As} (A : Option Addr) (n c : Nat) {l : List Int} {U : List Int → List As} [Has (fun l => Row (Kd.int .u8) 5 (.slice A n c) l) L l U] (h : SB w0 w L) : Kd.C (Kd.int .u8) w A l.length l ∧ n = l.length := by
  obtain ⟨R, h1, _⟩ := h.at_ (mk := fun l => Row (Kd.int .u8) 5 (.slice A n c) l)
  obtain ⟨A', c', he, _, hC⟩ := h1.reads
  injection he with e1 e2 e3
  subst e1
  exact ⟨hC, e2⟩
/-- The number of the bytes from j on. -/
def gotN (n v j : Nat) : Nat := (v % 256 ^ n) / 256 ^ j
theorem gotN_top (n v : Nat) : gotN n v n = 0 := Nat.div_eq_of_lt (Nat.mod_lt _ (Nat.pow_pos (by decide)))
theorem gotN_zero (n v : Nat) : gotN n v 0 = v % 256 ^ n := by simp [gotN]
theorem gotN_step {n v j : Nat} (h : j < n) : gotN n v j = gotN n v (j + 1) * 256 + v / 256 ^ j % 256 := by
  unfold gotN
  rw [Nat.pow_succ, ← Nat.div_div_eq_div_mul]
  have e : v % 256 ^ n / 256 ^ j % 256 = v / 256 ^ j % 256 := by
    obtain ⟨k, rfl⟩ : ∃ k, n = j + 1 + k := ⟨n - j - 1, by omega⟩
    rw [← Nat.mod_mul_right_div_self, ← Nat.mod_mul_right_div_self, ← Nat.pow_succ, Nat.pow_add 256 (j + 1) k, Nat.mod_mod_of_dvd _ (Nat.dvd_mul_right _ _)]
  rw [← e]
  omega
theorem gotN_lt {n v j : Nat} (h : n ≤ 8) (hj : 1 ≤ j) : gotN n v j < 72057594037927936 := by
  unfold gotN
  have h1 : v % 256 ^ n < 256 ^ n := Nat.mod_lt _ (Nat.pow_pos (by decide))
  have h2 : 256 ^ n ≤ 256 ^ 8 := Nat.pow_le_pow_right (by decide) h
  have h3 : 256 ^ 1 ≤ 256 ^ j := Nat.pow_le_pow_right (by decide) hj
  have h4 : v % 256 ^ n / 256 ^ j ≤ v % 256 ^ n / 256 ^ 1 := Nat.div_le_div_left h3 (by decide)
  have h5 : (256 : Nat) ^ 8 = 18446744073709551616 := by decide
  omega
theorem le_get : ∀ {n v j : Nat} (h : j < n), (le n v)[j]? = some (((v / 256 ^ j % 256 : Nat)) : Int)
  | n + 1, v, 0, _ => by simp [le]
  | n + 1, v, j + 1, h => by
    rw [le, List.getElem?_cons_succ, le_get (n := n) (v := v / 256) (j := j) (by omega), Nat.pow_succ, Nat.mul_comm, ← Nat.div_div_eq_div_mul]
theorem splice_get {b l : List Int} {a j : Nat} {x : Int} (h : a + l.length ≤ b.length) (hj : l[j]? = some x) : (splice b a l)[a + j]? = some x := by
  have hl : (b.take a).length = a := by rw [List.length_take]; omega
  have hjl := (List.getElem?_eq_some_iff.1 hj).1
  unfold splice
  rw [List.append_assoc, List.getElem?_append_right (by omega), hl, List.getElem?_append_left (by omega)]
  simpa using hj
theorem splice_take {b l : List Int} {a : Nat} (h : a + l.length ≤ b.length) : (splice b a l).take a = b.take a := by
  have hl : (b.take a).length = a := by rw [List.length_take]; omega
  unfold splice
  rw [List.append_assoc, List.take_append_of_le_length (by omega), List.take_of_length_le (by omega)]
theorem splice_drop {b l : List Int} {a : Nat} (h : a + l.length ≤ b.length) : (splice b a l).drop (a + l.length) = b.drop (a + l.length) := by
  have hl : (b.take a ++ l).length = a + l.length := by rw [List.length_append, List.length_take]; omega
  unfold splice
  rw [List.drop_append_of_le_length (by omega), List.drop_of_length_le (by omega), List.nil_append]
theorem or_u64_add {g c : Nat} (hc : c < 256) (hg : g < 72057594037927936) : bits .or .u64 (((g * 256 : Nat)) : Int) (c : Int) = ((g * 256 + c : Nat) : Int) := by
  rw [or_u64_nat _ _ (by omega) (by omega), Nat.mul_comm g 256, ← Nat.two_pow_add_eq_or_of_lt (i := 8) hc g]
theorem own_le {F : Nat → Prop} {w : World} {A : Option Addr} {n c : Nat} {b : List Int} (h : (Row (Kd.int .u8) 5 (.slice A n c) b).P w F) : n ≤ c := by
  obtain ⟨e, _, _⟩ := Kd.R_reads' h.1
  obtain ⟨A', c', he, hc, _⟩ := Kd.R_reads h.1
  injection he with e1 e2 e3
set_option maxRecDepth 100000 in
set_option maxHeartbeats 4000000 in
theorem backOk1 (op base off v : Int) (fill : List Int) (Ab : Option Addr) (cb : Nat) (w : World) (hG : Globs w) (hC : Kd.C (Kd.int .u8) w Ab fill.length fill) (hcb : fill.length ≤ cb) (hfo : Oct fill) (hfl : fill.length ≤ 300)
    (hb : 0 ≤ base ∧ base < 18446744073709551616) (ho : 0 ≤ off ∧ off < 18446744073709551616) (hv : 0 ≤ v ∧ v < 18446744073709551616) (q : Nat) (hq : bits .and .i64 op 15 = (q : Int)) (hq2 : q ≤ 15) (ty : Int) (sg : Bool) (ha : acc (54 + (q : Int)) = (ty, 1, sg, true))
    (hnear : ∀ a o : Nat, bits .and .u64 base 65535 = (a : Int) → bits .and .u64 off 255 = (o : Int) → a + o + 1 ≤ 65536) :
    Calls Tryd.prog 4 #[.int .i64 op, .int .u64 base, .int .u64 off, .int .u64 v, .slice Ab fill.length cb] w fun e w' => e = .returned (.bool true) ∧ Below w.heap.size w w' := by
  have HG := Aside0.mk hG
  have HC := Aside0.mk hC
  have HV := Aside0.mk hv
  obtain ⟨a, haa, ha2⟩ := and_low base 65535 hb (by decide)
  replace haa : bits .and .u64 base 65535 = (a : Int) := haa
  obtain ⟨o, hoo, ho2⟩ := and_low off 255 ho (by decide)
  replace hoo : bits .and .u64 off 255 = (o : Int) := hoo
  have d0 : decide ((300 : Int) < (fill.length : Int)) = false := decide_eq_false (by omega)
  have d0' : decide (300 < fill.length) = false := decide_eq_false (by omega)
  obtain ⟨t, ht⟩ : ∃ t : Nat, t = a + o := ⟨_, rfl⟩
  have hto : (a : Int) + (o : Int) = (t : Int) := by omega
  have htn : t + 1 ≤ 65536 := by rw [ht]; exact hnear a o haa hoo
  obtain ⟨vn, rfl⟩ := Int.eq_ofNat_of_zero_le hv.1
  obtain ⟨ps, hps⟩ : ∃ ps : Int, (if (20 : Int) < (t : Int) then (t : Int) - 20 else 0) = ps := ⟨_, rfl⟩
  have hpn : (if 20 < t then (t : Int) - 20 else 0) = ps := by rw [← hps]; split <;> split <;> omega
  have hps0 : 0 ≤ ps ∧ ps ≤ 65516 := by rw [← hps]; split <;> omega
  obtain ⟨kk, hkk⟩ : ∃ kk : Int, 54 + (q : Int) = kk := ⟨_, rfl⟩
  rw [hkk] at ha
  obtain ⟨r1, hr1⟩ : ∃ r1, r1 = (mLay b0 ps fill).isSome := ⟨_, rfl⟩
  obtain ⟨b1, hb1⟩ : ∃ b1, b1 = (mLay b0 ps fill).getD b0 := ⟨_, rfl⟩
  have hg1 : b1.length = 65536 ∧ Oct b1 := by
    rw [hb1]
    unfold mLay
    split
    · rename_i hc
      exact ⟨by rw [Option.getD_some, splice_length (by omega), b0_len], splice_oct b0_oct hfo⟩
    · exact ⟨b0_len, b0_oct⟩
  have hll : (le 1 vn).length = 1 := le_length _ _
  have hfit : t + (le 1 vn).length ≤ b1.length := by rw [hll, hg1.1]; omega
  obtain ⟨b2, hb2⟩ : ∃ b2, b2 = splice b1 t (le 1 vn) := ⟨_, rfl⟩
  have hg2 : b2.length = 65536 ∧ Oct b2 := by rw [hb2]; exact ⟨by rw [splice_length hfit, hg1.1], splice_oct hg1.2 (le_oct _ _)⟩
  have HGD := Aside0.mk (show Good ⟨b1, 1, 0, false⟩ from ⟨hg1.2, by show b1.length ≤ _; rw [hg1.1]; decide⟩)
  have HGD2 := Aside0.mk (show Good ⟨b2, 1, 0, false⟩ from ⟨hg2.2, by show b2.length ≤ _; rw [hg2.1]; decide⟩)
  have HST := Aside0.mk (show mStore b1 kk a o vn = some b2 by
    unfold mStore
    rw [if_pos ⟨by rw [ha], mFits_iff.2 ⟨by omega, by omega, by rw [ha]; show (0 : Int) ≤ 1; decide, by rw [ha, hg1.1]; show (a : Int) + (o : Int) + 1 ≤ 65536; omega⟩⟩, ha, hb2, Int.toNat_natCast]
    show some (splice b1 ((a : Int) + (o : Int)).toNat (le 1 vn)) = _
    rw [hto, Int.toNat_natCast])
  have hseg : ∀ b : List Int, b.length = 65536 → mBytes b 0 65536 = b := fun b hl => by rw [show (0 : Int) = ((0 : Nat) : Int) from rfl, show (65536 : Int) = ((65536 : Nat) : Int) from rfl, mBytes_seg (by omega)]; unfold seg; rw [List.drop_zero, List.take_of_length_le (by omega)]
  have HBY := Aside0.mk (hseg b1 hg1.1)
  have HBY2 := Aside0.mk (hseg b2 hg2.1)
  have HL := Aside0.mk hg1.1
  have HL2 := Aside0.mk hg2.1
  have HT := Aside0.mk ht
  have HR1 := Aside0.mk hr1
  have HB1 := Aside0.mk hb1
  have HGET := Aside0.mk (show ∀ j, j < 1 → b2[t + j]? = some (((vn / 256 ^ j % 256 : Nat)) : Int) from fun j hj => by rw [hb2]; exact splice_get hfit (le_get hj))
  have HTK := Aside0.mk (show b2.take t = b1.take t by rw [hb2]; exact splice_take hfit)
  have HDR := Aside0.mk (show b2.drop (t + 1) = b1.drop (t + 1) by have := splice_drop hfit; rw [hll] at this; rw [hb2]; exact this)
  have dn : decide ((t : Int) + 1 ≤ 65536) = true := decide_eq_true (by omega)
  have dn' : decide (t + 1 ≤ 65536) = true := decide_eq_true htn
  have hw2 : IntKind.i64.wrap ((t : Int) + 1) = (t : Int) + 1 := by rw [IntKind.wrap_i64]; omega
  clear hnear hG hC hv hg1 ht hr1 hb1 hll hfit hb2 hg2 hseg
  go_enter Tryd.func4, Tryd.ntmps4
  go_wp2_with (first
    | (go_at_call 9; (with_reducible refine (awake _ HG.out).mono ?_); rintro e w1 ⟨rfl, hb⟩; have HB := Aside0.mk hb; clear hb)
    | (go_at_call 10; (with_reducible refine (memNew1 ((SB.start w).below HB.out)).mono ?_); rintro e w2 ⟨p1, rfl, hs⟩; have HS := Aside0.mk hs; clear hs)
    | (go_at_call 15; (with_reducible refine (memLayG (p := p1) HS.out (good0 _ _ _) ps fill Ab cb (by omega) (Kd.C_below HC.out HS.out.bel) (by omega) HR1.out HB1.out).mono ?_); rintro e w4 ⟨rfl, hs⟩; have HS3 := Aside0.mk hs; clear hs)
    | (go_at_call 16; (with_reducible refine (memBytesH (p := p1) HS3.out HGD.out 0 65536 (by decide) (by decide) HBY.out).mono ?_); rintro e w5 ⟨v1, rfl, hs⟩; have HS4 := Aside0.mk hs; clear hs; obtain ⟨A1, c1, hv1, hc1, _⟩ := HS4.out.reads; rw [HL.out] at hv1; subst hv1)
    | (go_at_call 17; (with_reducible refine (instrAccess kk _ (HG.out.below HS4.out.bel) (by omega)).mono ?_); rintro e w6 ⟨rfl, hb6⟩; rw [ha]; have HS5 := Aside0.mk (HS4.out.below hb6); clear hb6)
    | (go_at_call 11; (with_reducible refine (memStoreH (p := p1) HS5.out (HG.out.below HS5.out.bel) HGD.out kk a o vn (by omega) (by omega) (by omega) HV.out HST.out).mono ?_); rintro e w7 ⟨rfl, hs⟩; have HS6 := Aside0.mk hs; clear hs)
    | (go_at_call 16; (with_reducible refine (memBytesH (p := p1) HS6.out HGD2.out 0 65536 (by decide) (by decide) HBY2.out).mono ?_); rintro e w8 ⟨v2, rfl, hs⟩; have HS7 := Aside0.mk hs; clear hs; obtain ⟨F7, hF7, _⟩ := HS7.out.head; obtain ⟨g2, c2, hv2, _⟩ := Kd.R_form hF7.1 (by rw [HL2.out]; decide); rw [HL2.out] at hv2; subst hv2; have HC2 := Aside0.mk (own_le hF7); clear hF7))
  go_loopw [24, 25] (fun v24 v25 wr => ∃ (j : Nat) (x : Int), v24 = .int .u64 (gotN 1 vn j : Int) ∧ v25 = .int .i64 x ∧ Aside0 (x = (j : Int) - 1) ∧ j ≤ 1 ∧ wr = w8) (fun v24 v25 _ => (intOf v25 + 1).toNat)
  case atStart => exact ⟨1, _, by rw [gotN_top]; rfl, rfl, ⟨rfl⟩, Nat.le_refl _, rfl⟩
  case round =>
    obtain ⟨j, x, rfl, rfl, hx, hj, rfl⟩ := hrel
    cases j with
    | zero =>
      obtain rfl : x = -1 := hx.out
      clear hx
      obtain ⟨gg, hgg⟩ : ∃ gg : Int, ((gotN 1 vn 0 : Nat) : Int) = gg := ⟨_, rfl⟩
      rw [hgg]
      have hwant : bits .and .u64 (vn : Int) 255 = gg := by rw [← hgg, gotN_zero]; exact and_mask vn 8 255 (by have := HV.out; omega) (by decide) (by decide)
      obtain ⟨k1, hs1, hx1⟩ := cut_lo A1 c1 b1 t (by rw [HL.out]; omega) hc1
      obtain ⟨k2, hs2, hx2⟩ := cut_lo (some ⟨g2, 0, none⟩) c2 b2 t (by rw [HL2.out]; omega) (by rw [HL2.out]; exact HC2.out)
      obtain ⟨A3, k3, c3, hs3, hx3⟩ := cut_hi A1 c1 b1 (t + 1) (by rw [HL.out]; omega) hc1
      obtain ⟨A4, k4, c4, hs4, hx4⟩ := cut_hi (some ⟨g2, 0, none⟩) c2 b2 (t + 1) (by rw [HL2.out]; omega) (by rw [HL2.out]; exact HC2.out)
      rw [HL.out] at hs1 hs3
      rw [HL2.out] at hs2 hs4
      rw [HTK.out] at hx2
      rw [HDR.out] at hx4
      obtain ⟨s1, hs1e⟩ : ∃ s1, strOfNums (b1.take t) = s1 := ⟨_, rfl⟩
      obtain ⟨s2, hs2e⟩ : ∃ s2, strOfNums (b1.drop (t + 1)) = s2 := ⟨_, rfl⟩
      rw [hs1e] at hx1 hx2
      rw [hs2e] at hx3 hx4
      have HX1 := Aside0.mk hx1
      have HX2 := Aside0.mk hx2
      have HX3 := Aside0.mk hx3
      have HX4 := Aside0.mk hx4
      have hsd := HS7.out.drew
      have e1 : ((t + 1 : Nat) : Int) = (t : Int) + 1 := by omega
      rw [e1] at hs3 hs4
      clear hs1e hs2e e1 hx1 hx2 hx3 hx4
      go_wp2
      refine rg_start (n := 33) (S := fun w' => SB w w' [Row (Kd.int .u8) 5 (.slice (some ⟨g2, 0, none⟩) 65536 c2) b2, Row (Kd.int .u8) 5 (.slice A1 65536 c1) b1, MO p1 ⟨b2, 1, 0, false⟩]) (bm 33 0) (by kernel_rfl) rfl (by kernel_rfl) (hsd) (fun hHeld => ?_)
      refine rg_take (i := 0) (N := some 130) (v := ?_) (a' := ?_) (bm 33 1) rfl rfl (by kernel_rfl) (fun _ _ _ h => h) hHeld (Or.inl ⟨by rfl, ?_⟩) ?_ ?_
      rotate_left
      · intro w' hw'
        go_simp
        with_reducible rfl
      rotate_left
      · simp only [Act.put, List.setIfInBounds_toArray, List.set_cons_zero, List.set_cons_succ]
        rfl
      refine rg_take (i := 1) (N := some 131) (v := ?_) (a' := ?_) (bm 33 3) rfl rfl (by kernel_rfl) (fun _ _ _ h => h) hHeld (Or.inl ⟨by rfl, ?_⟩) ?_ ?_
      rotate_left
      · intro w' hw'
        go_simp
        with_reducible rfl
      rotate_left
      · simp only [Act.put, List.setIfInBounds_toArray, List.set_cons_zero, List.set_cons_succ]
        rfl
      refine rg_take (i := 2) (N := some 132) (v := ?_) (a' := ?_) (bm 33 7) rfl rfl (by kernel_rfl) (fun _ _ _ h => h) hHeld (Or.inl ⟨by rfl, ?_⟩) ?_ ?_
      rotate_left
      · intro w' hw'
        go_simp
        with_reducible rfl
      rotate_left
      · simp only [Act.put, List.setIfInBounds_toArray, List.set_cons_zero, List.set_cons_succ]
        rfl
      refine rg_take (i := 3) (N := some 133) (v := ?_) (a' := ?_) (bm 33 15) rfl rfl (by kernel_rfl) (fun _ _ _ h => h) hHeld (Or.inl ⟨by rfl, ?_⟩) ?_ ?_
      rotate_left
      · intro w' hw'
        go_simp
        with_reducible rfl
      rotate_left
      · simp only [Act.put, List.setIfInBounds_toArray, List.set_cons_zero, List.set_cons_succ]
        rfl
      refine rg_take (i := 4) (N := some 134) (v := ?_) (a' := ?_) (bm 33 31) rfl rfl (by kernel_rfl) (fun _ _ _ h => h) hHeld (Or.inl ⟨by rfl, ?_⟩) ?_ ?_
      rotate_left
      · intro w' hw'
        go_simp
        with_reducible rfl
      rotate_left
      · simp only [Act.put, List.setIfInBounds_toArray, List.set_cons_zero, List.set_cons_succ]
        rfl
      refine rg_take (i := 5) (N := some 135) (v := ?_) (a' := ?_) (bm 33 63) rfl rfl (by kernel_rfl) (fun _ _ _ h => h) hHeld (Or.inl ⟨by rfl, ?_⟩) ?_ ?_
      rotate_left
      · intro w' hw'
        go_simp
        with_reducible rfl
      rotate_left
      · simp only [Act.put, List.setIfInBounds_toArray, List.set_cons_zero, List.set_cons_succ]
        rfl
      refine rg_take (i := 6) (N := some 136) (v := ?_) (a' := ?_) (bm 33 127) rfl rfl (by kernel_rfl) (fun _ _ _ h => h) hHeld (Or.inl ⟨by rfl, ?_⟩) ?_ ?_
      rotate_left
      · intro w' hw'
        go_simp
        with_reducible rfl
      rotate_left
      · simp only [Act.put, List.setIfInBounds_toArray, List.set_cons_zero, List.set_cons_succ]
        rfl
      refine rg_take (i := 7) (N := some 137) (v := ?_) (a' := ?_) (bm 33 255) rfl rfl (by kernel_rfl) (fun _ _ _ h => h) hHeld (Or.inl ⟨by rfl, ?_⟩) ?_ ?_
      rotate_left
      · intro w' hw'
        go_simp
        with_reducible rfl
      rotate_left
      · simp only [Act.put, List.setIfInBounds_toArray, List.set_cons_zero, List.set_cons_succ]
        rfl
      refine rg_take (i := 8) (N := some 138) (v := ?_) (a' := ?_) (bm 33 511) rfl rfl (by kernel_rfl) (fun _ _ _ h => h) hHeld (Or.inl ⟨by rfl, ?_⟩) ?_ ?_
      rotate_left
      · intro w' hw'
        go_simp
        with_reducible rfl
      rotate_left
      · simp only [Act.put, List.setIfInBounds_toArray, List.set_cons_zero, List.set_cons_succ]
        rfl
      refine rg_take (i := 9) (N := some 139) (v := ?_) (a' := ?_) (bm 33 1023) rfl rfl (by kernel_rfl) (fun _ _ _ h => h) hHeld (Or.inl ⟨by rfl, ?_⟩) ?_ ?_
      rotate_left
      · intro w' hw'
        go_simp
        with_reducible rfl
      rotate_left
      · simp only [Act.put, List.setIfInBounds_toArray, List.set_cons_zero, List.set_cons_succ]
        rfl
      refine rg_take (i := 10) (N := some 140) (v := ?_) (a' := ?_) (bm 33 2047) rfl rfl (by kernel_rfl) (fun _ _ _ h => h) hHeld (Or.inl ⟨by rfl, ?_⟩) ?_ ?_
      rotate_left
      · intro w' hw'
        have hc := HX1.out w' (SB.readAt A1 65536 c1 hw').1
        go_simp
        with_reducible rfl
      rotate_left
      · simp only [Act.put, List.setIfInBounds_toArray, List.set_cons_zero, List.set_cons_succ]
        rfl
      refine rg_take (i := 11) (N := some 141) (v := ?_) (a' := ?_) (bm 33 4095) rfl rfl (by kernel_rfl) (fun _ _ _ h => h) hHeld (Or.inl ⟨by rfl, ?_⟩) ?_ ?_
      rotate_left
      · intro w' hw'
        go_simp
        with_reducible rfl
      rotate_left
      · simp only [Act.put, List.setIfInBounds_toArray, List.set_cons_zero, List.set_cons_succ]
        rfl
      refine rg_take (i := 12) (N := some 142) (v := ?_) (a' := ?_) (bm 33 8191) rfl rfl (by kernel_rfl) (fun _ _ _ h => h) hHeld (Or.inl ⟨by rfl, ?_⟩) ?_ ?_
      rotate_left
      · intro w' hw'
        go_simp
        with_reducible rfl
      rotate_left
      · simp only [Act.put, List.setIfInBounds_toArray, List.set_cons_zero, List.set_cons_succ]
        rfl
      refine rg_take (i := 13) (N := some 143) (v := ?_) (a' := ?_) (bm 33 16383) rfl rfl (by kernel_rfl) (fun _ _ _ h => h) hHeld (Or.inl ⟨by rfl, ?_⟩) ?_ ?_
      rotate_left
      · intro w' hw'
        go_simp
        with_reducible rfl
      rotate_left
      · simp only [Act.put, List.setIfInBounds_toArray, List.set_cons_zero, List.set_cons_succ]
        rfl
      refine rg_take (i := 14) (N := some 144) (v := ?_) (a' := ?_) (bm 33 32767) rfl rfl (by kernel_rfl) (fun _ _ _ h => h) hHeld (Or.inl ⟨by rfl, ?_⟩) ?_ ?_
      rotate_left
      · intro w' hw'
        have hc := HX2.out w' (SB.readAt (some ⟨g2, 0, none⟩) 65536 c2 hw').1
        go_simp
        with_reducible rfl
      rotate_left
      · simp only [Act.put, List.setIfInBounds_toArray, List.set_cons_zero, List.set_cons_succ]
        rfl
      refine rg_take (i := 15) (N := some 145) (v := ?_) (a' := ?_) (bm 33 65535) rfl rfl (by kernel_rfl) (fun _ _ _ h => h) hHeld (Or.inl ⟨by rfl, ?_⟩) ?_ ?_
      rotate_left
      · intro w' hw'
        go_simp
        with_reducible rfl
      rotate_left
      · simp only [Act.put, List.setIfInBounds_toArray, List.set_cons_zero, List.set_cons_succ]
        rfl
      refine rg_take (i := 16) (N := some 146) (v := ?_) (a' := ?_) (bm 33 131071) rfl rfl (by kernel_rfl) (fun _ _ _ h => h) hHeld (Or.inl ⟨by rfl, ?_⟩) ?_ ?_
      rotate_left
      · intro w' hw'
        go_simp
        with_reducible rfl
      rotate_left
      · simp only [Act.put, List.setIfInBounds_toArray, List.set_cons_zero, List.set_cons_succ]
        rfl
      refine rg_take (i := 17) (N := some 147) (v := ?_) (a' := ?_) (bm 33 262143) rfl rfl (by kernel_rfl) (fun _ _ _ h => h) hHeld (Or.inl ⟨by rfl, ?_⟩) ?_ ?_
      rotate_left
      · intro w' hw'
        go_simp
        with_reducible rfl
      rotate_left
      · simp only [Act.put, List.setIfInBounds_toArray, List.set_cons_zero, List.set_cons_succ]
        rfl
      refine rg_take (i := 18) (N := some 148) (v := ?_) (a' := ?_) (bm 33 524287) rfl rfl (by kernel_rfl) (fun _ _ _ h => h) hHeld (Or.inl ⟨by rfl, ?_⟩) ?_ ?_
      rotate_left
      · intro w' hw'
        go_simp
        with_reducible rfl
      rotate_left
      · simp only [Act.put, List.setIfInBounds_toArray, List.set_cons_zero, List.set_cons_succ]
        rfl
      refine rg_take (i := 19) (N := some 149) (v := ?_) (a' := ?_) (bm 33 1048575) rfl rfl (by kernel_rfl) (fun _ _ _ h => h) hHeld (Or.inl ⟨by rfl, ?_⟩) ?_ ?_
      rotate_left
      · intro w' hw'
        go_simp
        with_reducible rfl
      rotate_left
      · simp only [Act.put, List.setIfInBounds_toArray, List.set_cons_zero, List.set_cons_succ]
        rfl
      refine rg_take (i := 20) (N := some 150) (v := ?_) (a' := ?_) (bm 33 2097151) rfl rfl (by kernel_rfl) (fun _ _ _ h => h) hHeld (Or.inl ⟨by rfl, ?_⟩) ?_ ?_
      rotate_left
      · intro w' hw'
        go_simp
        with_reducible rfl
      rotate_left
      · simp only [Act.put, List.setIfInBounds_toArray, List.set_cons_zero, List.set_cons_succ]
        rfl
      refine rg_take (i := 21) (N := some 151) (v := ?_) (a' := ?_) (bm 33 4194303) rfl rfl (by kernel_rfl) (fun _ _ _ h => h) hHeld (Or.inl ⟨by rfl, ?_⟩) ?_ ?_
      rotate_left
      · intro w' hw'
        go_simp
        with_reducible rfl
      rotate_left
      · simp only [Act.put, List.setIfInBounds_toArray, List.set_cons_zero, List.set_cons_succ]
        rfl
      refine rg_take (i := 22) (N := some 152) (v := ?_) (a' := ?_) (bm 33 8388607) rfl rfl (by kernel_rfl) (fun _ _ _ h => h) hHeld (Or.inl ⟨by rfl, ?_⟩) ?_ ?_
      rotate_left
      · intro w' hw'
        go_simp
        with_reducible rfl
      rotate_left
      · simp only [Act.put, List.setIfInBounds_toArray, List.set_cons_zero, List.set_cons_succ]
        rfl
      refine rg_take (i := 23) (N := some 153) (v := ?_) (a' := ?_) (bm 33 16777215) rfl rfl (by kernel_rfl) (fun _ _ _ h => h) hHeld (Or.inl ⟨by rfl, ?_⟩) ?_ ?_
      rotate_left
      · intro w' hw'
        have hc := HX3.out w' (SB.readAt A1 65536 c1 hw').1
        go_simp
        with_reducible rfl
      rotate_left
      · simp only [Act.put, List.setIfInBounds_toArray, List.set_cons_zero, List.set_cons_succ]
        rfl
      refine rg_take (i := 24) (N := some 154) (v := ?_) (a' := ?_) (bm 33 33554431) rfl rfl (by kernel_rfl) (fun _ _ _ h => h) hHeld (Or.inl ⟨by rfl, ?_⟩) ?_ ?_
      rotate_left
      · intro w' hw'
        go_simp
        with_reducible rfl
      rotate_left
      · simp only [Act.put, List.setIfInBounds_toArray, List.set_cons_zero, List.set_cons_succ]
        rfl
      refine rg_take (i := 25) (N := some 155) (v := ?_) (a' := ?_) (bm 33 67108863) rfl rfl (by kernel_rfl) (fun _ _ _ h => h) hHeld (Or.inl ⟨by rfl, ?_⟩) ?_ ?_
      rotate_left
      · intro w' hw'
        go_simp
        with_reducible rfl
      rotate_left
      · simp only [Act.put, List.setIfInBounds_toArray, List.set_cons_zero, List.set_cons_succ]
        rfl
      refine rg_take (i := 26) (N := some 156) (v := ?_) (a' := ?_) (bm 33 134217727) rfl rfl (by kernel_rfl) (fun _ _ _ h => h) hHeld (Or.inl ⟨by rfl, ?_⟩) ?_ ?_
      rotate_left
      · intro w' hw'
        go_simp
        with_reducible rfl
      rotate_left
      · simp only [Act.put, List.setIfInBounds_toArray, List.set_cons_zero, List.set_cons_succ]
        rfl
      refine rg_take (i := 27) (N := some 157) (v := ?_) (a' := ?_) (bm 33 268435455) rfl rfl (by kernel_rfl) (fun _ _ _ h => h) hHeld (Or.inl ⟨by rfl, ?_⟩) ?_ ?_
      rotate_left
      · intro w' hw'
        go_simp
        with_reducible rfl
      rotate_left
      · simp only [Act.put, List.setIfInBounds_toArray, List.set_cons_zero, List.set_cons_succ]
        rfl
      refine rg_take (i := 28) (N := some 158) (v := ?_) (a' := ?_) (bm 33 536870911) rfl rfl (by kernel_rfl) (fun _ _ _ h => h) hHeld (Or.inl ⟨by rfl, ?_⟩) ?_ ?_
      rotate_left
      · intro w' hw'
        go_simp
        with_reducible rfl
      rotate_left
      · simp only [Act.put, List.setIfInBounds_toArray, List.set_cons_zero, List.set_cons_succ]
        rfl
      refine rg_take (i := 29) (N := some 159) (v := ?_) (a' := ?_) (bm 33 1073741823) rfl rfl (by kernel_rfl) (fun _ _ _ h => h) hHeld (Or.inl ⟨by rfl, ?_⟩) ?_ ?_
      rotate_left
      · intro w' hw'
        have hc := HX4.out w' (SB.readAt (some ⟨g2, 0, none⟩) 65536 c2 hw').1
        go_simp
        with_reducible rfl
      rotate_left
      · simp only [Act.put, List.setIfInBounds_toArray, List.set_cons_zero, List.set_cons_succ]
        rfl
      refine rg_take (i := 30) (N := some 160) (v := ?_) (a' := ?_) (bm 33 2147483647) rfl rfl (by kernel_rfl) (fun _ _ _ h => h) hHeld (Or.inl ⟨by rfl, ?_⟩) ?_ ?_
      rotate_left
      · intro w' hw'
        go_simp
        with_reducible rfl
      rotate_left
      · simp only [Act.put, List.setIfInBounds_toArray, List.set_cons_zero, List.set_cons_succ]
        rfl
      refine rg_take (i := 31) (N := some 161) (v := ?_) (a' := ?_) (bm 33 4294967295) rfl rfl (by kernel_rfl) (fun _ _ _ h => h) hHeld (Or.inl ⟨by rfl, ?_⟩) ?_ ?_
      rotate_left
      · intro w' hw'
        go_simp
        with_reducible rfl
      rotate_left
      · simp only [Act.put, List.setIfInBounds_toArray, List.set_cons_zero, List.set_cons_succ]
        rfl
      refine rg_take (i := 32) (N := some 10) (v := ?_) (a' := ?_) (bm 33 8589934591) rfl rfl (by kernel_rfl) (fun _ _ _ h => h) hHeld (Or.inl ⟨by rfl, ?_⟩) ?_ ?_
      rotate_left
      · intro w' hw'
        go_simp
        with_reducible rfl
      rotate_left
      · simp only [Act.put, List.setIfInBounds_toArray, List.set_cons_zero, List.set_cons_succ]
        rfl
      refine rg_done (by kernel_rfl) ?_
      go_wp2
      go_ret
      exact ⟨rfl, SB.bel hHeld⟩
    | succ i =>
      obtain rfl : x = (i : Int) := by have := hx.out; omega
      clear hx
      have dj : decide ((0 : Int) ≤ (i : Int)) = true := decide_eq_true (by omega)
      obtain ⟨gv, hgv⟩ : ∃ gv : Nat, gotN 1 vn (i + 1) = gv := ⟨_, rfl⟩
      have hgl : gv < 72057594037927936 := by rw [← hgv]; exact gotN_lt (by decide) (by omega)
      obtain ⟨cc, hcc⟩ : ∃ cc : Nat, vn / 256 ^ i % 256 = cc := ⟨_, rfl⟩
      have hcl : cc < 256 := by rw [← hcc]; exact Nat.mod_lt _ (by decide)
      have hst : gotN 1 vn i = gv * 256 + cc := by rw [gotN_step (by omega), hgv, hcc]
      have hcell : wr.cell? ⟨g2, t + i, none⟩ = some (.int .u8 (cc : Int)) := by
        have h1 := HGET.out i (by omega)
        rw [hcc] at h1
        obtain ⟨h2, h3⟩ := List.getElem?_eq_some_iff.1 h1
        rw [SB.cell HS7.out h2, h3]
      have hor : bits .or .u64 ((gv : Int) * 256) (cc : Int) = ((gv * 256 + cc : Nat) : Int) := by rw [show (gv : Int) * 256 = ((gv * 256 : Nat) : Int) by omega]; exact or_u64_add hcl hgl
      have HST := Aside0.mk hst
      rw [hgv]
      clear hst hgv hcc
      go_wp2
      exact ⟨⟨i, _, by rw [HST.out]; simp, rfl, ⟨rfl⟩, by omega, trivial⟩, by first | (simp [intOf]; done) | (simp [intOf]; omega)⟩
set_option maxRecDepth 100000 in
set_option maxHeartbeats 4000000 in
theorem backOk2 (op base off v : Int) (fill : List Int) (Ab : Option Addr) (cb : Nat) (w : World) (hG : Globs w) (hC : Kd.C (Kd.int .u8) w Ab fill.length fill) (hcb : fill.length ≤ cb) (hfo : Oct fill) (hfl : fill.length ≤ 300)
    (hb : 0 ≤ base ∧ base < 18446744073709551616) (ho : 0 ≤ off ∧ off < 18446744073709551616) (hv : 0 ≤ v ∧ v < 18446744073709551616) (q : Nat) (hq : bits .and .i64 op 15 = (q : Int)) (hq2 : q ≤ 15) (ty : Int) (sg : Bool) (ha : acc (54 + (q : Int)) = (ty, 2, sg, true))
    (hnear : ∀ a o : Nat, bits .and .u64 base 65535 = (a : Int) → bits .and .u64 off 255 = (o : Int) → a + o + 2 ≤ 65536) :
    Calls Tryd.prog 4 #[.int .i64 op, .int .u64 base, .int .u64 off, .int .u64 v, .slice Ab fill.length cb] w fun e w' => e = .returned (.bool true) ∧ Below w.heap.size w w' := by
  have HG := Aside0.mk hG
  have HC := Aside0.mk hC
  have HV := Aside0.mk hv
  obtain ⟨a, haa, ha2⟩ := and_low base 65535 hb (by decide)
  replace haa : bits .and .u64 base 65535 = (a : Int) := haa
  obtain ⟨o, hoo, ho2⟩ := and_low off 255 ho (by decide)
  replace hoo : bits .and .u64 off 255 = (o : Int) := hoo
  have d0 : decide ((300 : Int) < (fill.length : Int)) = false := decide_eq_false (by omega)
  have d0' : decide (300 < fill.length) = false := decide_eq_false (by omega)
  obtain ⟨t, ht⟩ : ∃ t : Nat, t = a + o := ⟨_, rfl⟩
  have hto : (a : Int) + (o : Int) = (t : Int) := by omega
  have htn : t + 2 ≤ 65536 := by rw [ht]; exact hnear a o haa hoo
  obtain ⟨vn, rfl⟩ := Int.eq_ofNat_of_zero_le hv.1
  obtain ⟨ps, hps⟩ : ∃ ps : Int, (if (20 : Int) < (t : Int) then (t : Int) - 20 else 0) = ps := ⟨_, rfl⟩
  have hpn : (if 20 < t then (t : Int) - 20 else 0) = ps := by rw [← hps]; split <;> split <;> omega
  have hps0 : 0 ≤ ps ∧ ps ≤ 65516 := by rw [← hps]; split <;> omega
  obtain ⟨kk, hkk⟩ : ∃ kk : Int, 54 + (q : Int) = kk := ⟨_, rfl⟩
  rw [hkk] at ha
  obtain ⟨r1, hr1⟩ : ∃ r1, r1 = (mLay b0 ps fill).isSome := ⟨_, rfl⟩
  obtain ⟨b1, hb1⟩ : ∃ b1, b1 = (mLay b0 ps fill).getD b0 := ⟨_, rfl⟩
  have hg1 : b1.length = 65536 ∧ Oct b1 := by
    rw [hb1]
    unfold mLay
    split
    · rename_i hc
      exact ⟨by rw [Option.getD_some, splice_length (by omega), b0_len], splice_oct b0_oct hfo⟩
    · exact ⟨b0_len, b0_oct⟩
  have hll : (le 2 vn).length = 2 := le_length _ _
  have hfit : t + (le 2 vn).length ≤ b1.length := by rw [hll, hg1.1]; omega
  obtain ⟨b2, hb2⟩ : ∃ b2, b2 = splice b1 t (le 2 vn) := ⟨_, rfl⟩
  have hg2 : b2.length = 65536 ∧ Oct b2 := by rw [hb2]; exact ⟨by rw [splice_length hfit, hg1.1], splice_oct hg1.2 (le_oct _ _)⟩
  have HGD := Aside0.mk (show Good ⟨b1, 1, 0, false⟩ from ⟨hg1.2, by show b1.length ≤ _; rw [hg1.1]; decide⟩)
  have HGD2 := Aside0.mk (show Good ⟨b2, 1, 0, false⟩ from ⟨hg2.2, by show b2.length ≤ _; rw [hg2.1]; decide⟩)
  have HST := Aside0.mk (show mStore b1 kk a o vn = some b2 by
    unfold mStore
    rw [if_pos ⟨by rw [ha], mFits_iff.2 ⟨by omega, by omega, by rw [ha]; show (0 : Int) ≤ 2; decide, by rw [ha, hg1.1]; show (a : Int) + (o : Int) + 2 ≤ 65536; omega⟩⟩, ha, hb2, Int.toNat_natCast]
    show some (splice b1 ((a : Int) + (o : Int)).toNat (le 2 vn)) = _
    rw [hto, Int.toNat_natCast])
  have hseg : ∀ b : List Int, b.length = 65536 → mBytes b 0 65536 = b := fun b hl => by rw [show (0 : Int) = ((0 : Nat) : Int) from rfl, show (65536 : Int) = ((65536 : Nat) : Int) from rfl, mBytes_seg (by omega)]; unfold seg; rw [List.drop_zero, List.take_of_length_le (by omega)]
  have HBY := Aside0.mk (hseg b1 hg1.1)
  have HBY2 := Aside0.mk (hseg b2 hg2.1)
  have HL := Aside0.mk hg1.1
  have HL2 := Aside0.mk hg2.1
  have HT := Aside0.mk ht
  have HR1 := Aside0.mk hr1
  have HB1 := Aside0.mk hb1
  have HGET := Aside0.mk (show ∀ j, j < 2 → b2[t + j]? = some (((vn / 256 ^ j % 256 : Nat)) : Int) from fun j hj => by rw [hb2]; exact splice_get hfit (le_get hj))
  have HTK := Aside0.mk (show b2.take t = b1.take t by rw [hb2]; exact splice_take hfit)
  have HDR := Aside0.mk (show b2.drop (t + 2) = b1.drop (t + 2) by have := splice_drop hfit; rw [hll] at this; rw [hb2]; exact this)
  have dn : decide ((t : Int) + 2 ≤ 65536) = true := decide_eq_true (by omega)
  have dn' : decide (t + 2 ≤ 65536) = true := decide_eq_true htn
  have hw2 : IntKind.i64.wrap ((t : Int) + 2) = (t : Int) + 2 := by rw [IntKind.wrap_i64]; omega
  clear hnear hG hC hv hg1 ht hr1 hb1 hll hfit hb2 hg2 hseg
  go_enter Tryd.func4, Tryd.ntmps4
  go_wp2_with (first
    | (go_at_call 9; (with_reducible refine (awake _ HG.out).mono ?_); rintro e w1 ⟨rfl, hb⟩; have HB := Aside0.mk hb; clear hb)
    | (go_at_call 10; (with_reducible refine (memNew1 ((SB.start w).below HB.out)).mono ?_); rintro e w2 ⟨p1, rfl, hs⟩; have HS := Aside0.mk hs; clear hs)
    | (go_at_call 15; (with_reducible refine (memLayG (p := p1) HS.out (good0 _ _ _) ps fill Ab cb (by omega) (Kd.C_below HC.out HS.out.bel) (by omega) HR1.out HB1.out).mono ?_); rintro e w4 ⟨rfl, hs⟩; have HS3 := Aside0.mk hs; clear hs)
    | (go_at_call 16; (with_reducible refine (memBytesH (p := p1) HS3.out HGD.out 0 65536 (by decide) (by decide) HBY.out).mono ?_); rintro e w5 ⟨v1, rfl, hs⟩; have HS4 := Aside0.mk hs; clear hs; obtain ⟨A1, c1, hv1, hc1, _⟩ := HS4.out.reads; rw [HL.out] at hv1; subst hv1)
    | (go_at_call 17; (with_reducible refine (instrAccess kk _ (HG.out.below HS4.out.bel) (by omega)).mono ?_); rintro e w6 ⟨rfl, hb6⟩; rw [ha]; have HS5 := Aside0.mk (HS4.out.below hb6); clear hb6)
    | (go_at_call 11; (with_reducible refine (memStoreH (p := p1) HS5.out (HG.out.below HS5.out.bel) HGD.out kk a o vn (by omega) (by omega) (by omega) HV.out HST.out).mono ?_); rintro e w7 ⟨rfl, hs⟩; have HS6 := Aside0.mk hs; clear hs)
    | (go_at_call 16; (with_reducible refine (memBytesH (p := p1) HS6.out HGD2.out 0 65536 (by decide) (by decide) HBY2.out).mono ?_); rintro e w8 ⟨v2, rfl, hs⟩; have HS7 := Aside0.mk hs; clear hs; obtain ⟨F7, hF7, _⟩ := HS7.out.head; obtain ⟨g2, c2, hv2, _⟩ := Kd.R_form hF7.1 (by rw [HL2.out]; decide); rw [HL2.out] at hv2; subst hv2; have HC2 := Aside0.mk (own_le hF7); clear hF7))
  go_loopw [24, 25] (fun v24 v25 wr => ∃ (j : Nat) (x : Int), v24 = .int .u64 (gotN 2 vn j : Int) ∧ v25 = .int .i64 x ∧ Aside0 (x = (j : Int) - 1) ∧ j ≤ 2 ∧ wr = w8) (fun v24 v25 _ => (intOf v25 + 1).toNat)
  case atStart => exact ⟨2, _, by rw [gotN_top]; rfl, rfl, ⟨rfl⟩, Nat.le_refl _, rfl⟩
  case round =>
    obtain ⟨j, x, rfl, rfl, hx, hj, rfl⟩ := hrel
    cases j with
    | zero =>
      obtain rfl : x = -1 := hx.out
      clear hx
      obtain ⟨gg, hgg⟩ : ∃ gg : Int, ((gotN 2 vn 0 : Nat) : Int) = gg := ⟨_, rfl⟩
      rw [hgg]
      have hwant : bits .and .u64 (vn : Int) 65535 = gg := by rw [← hgg, gotN_zero]; exact and_mask vn 16 65535 (by have := HV.out; omega) (by decide) (by decide)
      obtain ⟨k1, hs1, hx1⟩ := cut_lo A1 c1 b1 t (by rw [HL.out]; omega) hc1
      obtain ⟨k2, hs2, hx2⟩ := cut_lo (some ⟨g2, 0, none⟩) c2 b2 t (by rw [HL2.out]; omega) (by rw [HL2.out]; exact HC2.out)
      obtain ⟨A3, k3, c3, hs3, hx3⟩ := cut_hi A1 c1 b1 (t + 2) (by rw [HL.out]; omega) hc1
      obtain ⟨A4, k4, c4, hs4, hx4⟩ := cut_hi (some ⟨g2, 0, none⟩) c2 b2 (t + 2) (by rw [HL2.out]; omega) (by rw [HL2.out]; exact HC2.out)
      rw [HL.out] at hs1 hs3
      rw [HL2.out] at hs2 hs4
      rw [HTK.out] at hx2
      rw [HDR.out] at hx4
      obtain ⟨s1, hs1e⟩ : ∃ s1, strOfNums (b1.take t) = s1 := ⟨_, rfl⟩
      obtain ⟨s2, hs2e⟩ : ∃ s2, strOfNums (b1.drop (t + 2)) = s2 := ⟨_, rfl⟩
      rw [hs1e] at hx1 hx2
      rw [hs2e] at hx3 hx4
      have HX1 := Aside0.mk hx1
      have HX2 := Aside0.mk hx2
      have HX3 := Aside0.mk hx3
      have HX4 := Aside0.mk hx4
      have hsd := HS7.out.drew
      have e1 : ((t + 2 : Nat) : Int) = (t : Int) + 2 := by omega
      rw [e1] at hs3 hs4
      clear hs1e hs2e e1 hx1 hx2 hx3 hx4
      go_wp2
      refine rg_start (n := 33) (S := fun w' => SB w w' [Row (Kd.int .u8) 5 (.slice (some ⟨g2, 0, none⟩) 65536 c2) b2, Row (Kd.int .u8) 5 (.slice A1 65536 c1) b1, MO p1 ⟨b2, 1, 0, false⟩]) (bm 33 0) (by kernel_rfl) rfl (by kernel_rfl) (hsd) (fun hHeld => ?_)
      refine rg_take (i := 0) (N := some 130) (v := ?_) (a' := ?_) (bm 33 1) rfl rfl (by kernel_rfl) (fun _ _ _ h => h) hHeld (Or.inl ⟨by rfl, ?_⟩) ?_ ?_
      rotate_left
      · intro w' hw'
        go_simp
        with_reducible rfl
      rotate_left
      · simp only [Act.put, List.setIfInBounds_toArray, List.set_cons_zero, List.set_cons_succ]
        rfl
      refine rg_take (i := 1) (N := some 131) (v := ?_) (a' := ?_) (bm 33 3) rfl rfl (by kernel_rfl) (fun _ _ _ h => h) hHeld (Or.inl ⟨by rfl, ?_⟩) ?_ ?_
      rotate_left
      · intro w' hw'
        go_simp
        with_reducible rfl
      rotate_left
      · simp only [Act.put, List.setIfInBounds_toArray, List.set_cons_zero, List.set_cons_succ]
        rfl
      refine rg_take (i := 2) (N := some 132) (v := ?_) (a' := ?_) (bm 33 7) rfl rfl (by kernel_rfl) (fun _ _ _ h => h) hHeld (Or.inl ⟨by rfl, ?_⟩) ?_ ?_
      rotate_left
      · intro w' hw'
        go_simp
        with_reducible rfl
      rotate_left
      · simp only [Act.put, List.setIfInBounds_toArray, List.set_cons_zero, List.set_cons_succ]
        rfl
      refine rg_take (i := 3) (N := some 133) (v := ?_) (a' := ?_) (bm 33 15) rfl rfl (by kernel_rfl) (fun _ _ _ h => h) hHeld (Or.inl ⟨by rfl, ?_⟩) ?_ ?_
      rotate_left
      · intro w' hw'
        go_simp
        with_reducible rfl
      rotate_left
      · simp only [Act.put, List.setIfInBounds_toArray, List.set_cons_zero, List.set_cons_succ]
        rfl
      refine rg_take (i := 4) (N := some 134) (v := ?_) (a' := ?_) (bm 33 31) rfl rfl (by kernel_rfl) (fun _ _ _ h => h) hHeld (Or.inl ⟨by rfl, ?_⟩) ?_ ?_
      rotate_left
      · intro w' hw'
        go_simp
        with_reducible rfl
      rotate_left
      · simp only [Act.put, List.setIfInBounds_toArray, List.set_cons_zero, List.set_cons_succ]
        rfl
      refine rg_take (i := 5) (N := some 135) (v := ?_) (a' := ?_) (bm 33 63) rfl rfl (by kernel_rfl) (fun _ _ _ h => h) hHeld (Or.inl ⟨by rfl, ?_⟩) ?_ ?_
      rotate_left
      · intro w' hw'
        go_simp
        with_reducible rfl
      rotate_left
      · simp only [Act.put, List.setIfInBounds_toArray, List.set_cons_zero, List.set_cons_succ]
        rfl
      refine rg_take (i := 6) (N := some 136) (v := ?_) (a' := ?_) (bm 33 127) rfl rfl (by kernel_rfl) (fun _ _ _ h => h) hHeld (Or.inl ⟨by rfl, ?_⟩) ?_ ?_
      rotate_left
      · intro w' hw'
        go_simp
        with_reducible rfl
      rotate_left
      · simp only [Act.put, List.setIfInBounds_toArray, List.set_cons_zero, List.set_cons_succ]
        rfl
      refine rg_take (i := 7) (N := some 137) (v := ?_) (a' := ?_) (bm 33 255) rfl rfl (by kernel_rfl) (fun _ _ _ h => h) hHeld (Or.inl ⟨by rfl, ?_⟩) ?_ ?_
      rotate_left
      · intro w' hw'
        go_simp
        with_reducible rfl
      rotate_left
      · simp only [Act.put, List.setIfInBounds_toArray, List.set_cons_zero, List.set_cons_succ]
        rfl
      refine rg_take (i := 8) (N := some 138) (v := ?_) (a' := ?_) (bm 33 511) rfl rfl (by kernel_rfl) (fun _ _ _ h => h) hHeld (Or.inl ⟨by rfl, ?_⟩) ?_ ?_
      rotate_left
      · intro w' hw'
        go_simp
        with_reducible rfl
      rotate_left
      · simp only [Act.put, List.setIfInBounds_toArray, List.set_cons_zero, List.set_cons_succ]
        rfl
      refine rg_take (i := 9) (N := some 139) (v := ?_) (a' := ?_) (bm 33 1023) rfl rfl (by kernel_rfl) (fun _ _ _ h => h) hHeld (Or.inl ⟨by rfl, ?_⟩) ?_ ?_
      rotate_left
      · intro w' hw'
        go_simp
        with_reducible rfl
      rotate_left
      · simp only [Act.put, List.setIfInBounds_toArray, List.set_cons_zero, List.set_cons_succ]
        rfl
      refine rg_take (i := 10) (N := some 140) (v := ?_) (a' := ?_) (bm 33 2047) rfl rfl (by kernel_rfl) (fun _ _ _ h => h) hHeld (Or.inl ⟨by rfl, ?_⟩) ?_ ?_
      rotate_left
      · intro w' hw'
        have hc := HX1.out w' (SB.readAt A1 65536 c1 hw').1
        go_simp
        with_reducible rfl
      rotate_left
      · simp only [Act.put, List.setIfInBounds_toArray, List.set_cons_zero, List.set_cons_succ]
        rfl
      refine rg_take (i := 11) (N := some 141) (v := ?_) (a' := ?_) (bm 33 4095) rfl rfl (by kernel_rfl) (fun _ _ _ h => h) hHeld (Or.inl ⟨by rfl, ?_⟩) ?_ ?_
      rotate_left
      · intro w' hw'
        go_simp
        with_reducible rfl
      rotate_left
      · simp only [Act.put, List.setIfInBounds_toArray, List.set_cons_zero, List.set_cons_succ]
        rfl
      refine rg_take (i := 12) (N := some 142) (v := ?_) (a' := ?_) (bm 33 8191) rfl rfl (by kernel_rfl) (fun _ _ _ h => h) hHeld (Or.inl ⟨by rfl, ?_⟩) ?_ ?_
      rotate_left
      · intro w' hw'
        go_simp
        with_reducible rfl
      rotate_left
      · simp only [Act.put, List.setIfInBounds_toArray, List.set_cons_zero, List.set_cons_succ]
        rfl
      refine rg_take (i := 13) (N := some 143) (v := ?_) (a' := ?_) (bm 33 16383) rfl rfl (by kernel_rfl) (fun _ _ _ h => h) hHeld (Or.inl ⟨by rfl, ?_⟩) ?_ ?_
      rotate_left
      · intro w' hw'
        go_simp
        with_reducible rfl
      rotate_left
      · simp only [Act.put, List.setIfInBounds_toArray, List.set_cons_zero, List.set_cons_succ]
        rfl
      refine rg_take (i := 14) (N := some 144) (v := ?_) (a' := ?_) (bm 33 32767) rfl rfl (by kernel_rfl) (fun _ _ _ h => h) hHeld (Or.inl ⟨by rfl, ?_⟩) ?_ ?_
      rotate_left
      · intro w' hw'
        have hc := HX2.out w' (SB.readAt (some ⟨g2, 0, none⟩) 65536 c2 hw').1
        go_simp
        with_reducible rfl
      rotate_left
      · simp only [Act.put, List.setIfInBounds_toArray, List.set_cons_zero, List.set_cons_succ]
        rfl
      refine rg_take (i := 15) (N := some 145) (v := ?_) (a' := ?_) (bm 33 65535) rfl rfl (by kernel_rfl) (fun _ _ _ h => h) hHeld (Or.inl ⟨by rfl, ?_⟩) ?_ ?_
      rotate_left
      · intro w' hw'
        go_simp
        with_reducible rfl
      rotate_left
      · simp only [Act.put, List.setIfInBounds_toArray, List.set_cons_zero, List.set_cons_succ]
        rfl
      refine rg_take (i := 16) (N := some 146) (v := ?_) (a' := ?_) (bm 33 131071) rfl rfl (by kernel_rfl) (fun _ _ _ h => h) hHeld (Or.inl ⟨by rfl, ?_⟩) ?_ ?_
      rotate_left
      · intro w' hw'
        go_simp
        with_reducible rfl
      rotate_left
      · simp only [Act.put, List.setIfInBounds_toArray, List.set_cons_zero, List.set_cons_succ]
        rfl
      refine rg_take (i := 17) (N := some 147) (v := ?_) (a' := ?_) (bm 33 262143) rfl rfl (by kernel_rfl) (fun _ _ _ h => h) hHeld (Or.inl ⟨by rfl, ?_⟩) ?_ ?_
      rotate_left
      · intro w' hw'
        go_simp
        with_reducible rfl
      rotate_left
      · simp only [Act.put, List.setIfInBounds_toArray, List.set_cons_zero, List.set_cons_succ]
        rfl
      refine rg_take (i := 18) (N := some 148) (v := ?_) (a' := ?_) (bm 33 524287) rfl rfl (by kernel_rfl) (fun _ _ _ h => h) hHeld (Or.inl ⟨by rfl, ?_⟩) ?_ ?_
      rotate_left
      · intro w' hw'
        go_simp
        with_reducible rfl
      rotate_left
      · simp only [Act.put, List.setIfInBounds_toArray, List.set_cons_zero, List.set_cons_succ]
        rfl
      refine rg_take (i := 19) (N := some 149) (v := ?_) (a' := ?_) (bm 33 1048575) rfl rfl (by kernel_rfl) (fun _ _ _ h => h) hHeld (Or.inl ⟨by rfl, ?_⟩) ?_ ?_
      rotate_left
      · intro w' hw'
        go_simp
        with_reducible rfl
      rotate_left
      · simp only [Act.put, List.setIfInBounds_toArray, List.set_cons_zero, List.set_cons_succ]
        rfl
      refine rg_take (i := 20) (N := some 150) (v := ?_) (a' := ?_) (bm 33 2097151) rfl rfl (by kernel_rfl) (fun _ _ _ h => h) hHeld (Or.inl ⟨by rfl, ?_⟩) ?_ ?_
      rotate_left
      · intro w' hw'
        go_simp
        with_reducible rfl
      rotate_left
      · simp only [Act.put, List.setIfInBounds_toArray, List.set_cons_zero, List.set_cons_succ]
        rfl
      refine rg_take (i := 21) (N := some 151) (v := ?_) (a' := ?_) (bm 33 4194303) rfl rfl (by kernel_rfl) (fun _ _ _ h => h) hHeld (Or.inl ⟨by rfl, ?_⟩) ?_ ?_
      rotate_left
      · intro w' hw'
        go_simp
        with_reducible rfl
      rotate_left
      · simp only [Act.put, List.setIfInBounds_toArray, List.set_cons_zero, List.set_cons_succ]
        rfl
      refine rg_take (i := 22) (N := some 152) (v := ?_) (a' := ?_) (bm 33 8388607) rfl rfl (by kernel_rfl) (fun _ _ _ h => h) hHeld (Or.inl ⟨by rfl, ?_⟩) ?_ ?_
      rotate_left
      · intro w' hw'
        go_simp
        with_reducible rfl
      rotate_left
      · simp only [Act.put, List.setIfInBounds_toArray, List.set_cons_zero, List.set_cons_succ]
        rfl
      refine rg_take (i := 23) (N := some 153) (v := ?_) (a' := ?_) (bm 33 16777215) rfl rfl (by kernel_rfl) (fun _ _ _ h => h) hHeld (Or.inl ⟨by rfl, ?_⟩) ?_ ?_
      rotate_left
      · intro w' hw'
        have hc := HX3.out w' (SB.readAt A1 65536 c1 hw').1
        go_simp
        with_reducible rfl
      rotate_left
      · simp only [Act.put, List.setIfInBounds_toArray, List.set_cons_zero, List.set_cons_succ]
        rfl
      refine rg_take (i := 24) (N := some 154) (v := ?_) (a' := ?_) (bm 33 33554431) rfl rfl (by kernel_rfl) (fun _ _ _ h => h) hHeld (Or.inl ⟨by rfl, ?_⟩) ?_ ?_
      rotate_left
      · intro w' hw'
        go_simp
        with_reducible rfl
      rotate_left
      · simp only [Act.put, List.setIfInBounds_toArray, List.set_cons_zero, List.set_cons_succ]
        rfl
      refine rg_take (i := 25) (N := some 155) (v := ?_) (a' := ?_) (bm 33 67108863) rfl rfl (by kernel_rfl) (fun _ _ _ h => h) hHeld (Or.inl ⟨by rfl, ?_⟩) ?_ ?_
      rotate_left
      · intro w' hw'
        go_simp
        with_reducible rfl
      rotate_left
      · simp only [Act.put, List.setIfInBounds_toArray, List.set_cons_zero, List.set_cons_succ]
        rfl
      refine rg_take (i := 26) (N := some 156) (v := ?_) (a' := ?_) (bm 33 134217727) rfl rfl (by kernel_rfl) (fun _ _ _ h => h) hHeld (Or.inl ⟨by rfl, ?_⟩) ?_ ?_
      rotate_left
      · intro w' hw'
        go_simp
        with_reducible rfl
      rotate_left
      · simp only [Act.put, List.setIfInBounds_toArray, List.set_cons_zero, List.set_cons_succ]
        rfl
      refine rg_take (i := 27) (N := some 157) (v := ?_) (a' := ?_) (bm 33 268435455) rfl rfl (by kernel_rfl) (fun _ _ _ h => h) hHeld (Or.inl ⟨by rfl, ?_⟩) ?_ ?_
      rotate_left
      · intro w' hw'
        go_simp
        with_reducible rfl
      rotate_left
      · simp only [Act.put, List.setIfInBounds_toArray, List.set_cons_zero, List.set_cons_succ]
        rfl
      refine rg_take (i := 28) (N := some 158) (v := ?_) (a' := ?_) (bm 33 536870911) rfl rfl (by kernel_rfl) (fun _ _ _ h => h) hHeld (Or.inl ⟨by rfl, ?_⟩) ?_ ?_
      rotate_left
      · intro w' hw'
        go_simp
        with_reducible rfl
      rotate_left
      · simp only [Act.put, List.setIfInBounds_toArray, List.set_cons_zero, List.set_cons_succ]
        rfl
      refine rg_take (i := 29) (N := some 159) (v := ?_) (a' := ?_) (bm 33 1073741823) rfl rfl (by kernel_rfl) (fun _ _ _ h => h) hHeld (Or.inl ⟨by rfl, ?_⟩) ?_ ?_
      rotate_left
      · intro w' hw'
        have hc := HX4.out w' (SB.readAt (some ⟨g2, 0, none⟩) 65536 c2 hw').1
        go_simp
        with_reducible rfl
      rotate_left
      · simp only [Act.put, List.setIfInBounds_toArray, List.set_cons_zero, List.set_cons_succ]
        rfl
      refine rg_take (i := 30) (N := some 160) (v := ?_) (a' := ?_) (bm 33 2147483647) rfl rfl (by kernel_rfl) (fun _ _ _ h => h) hHeld (Or.inl ⟨by rfl, ?_⟩) ?_ ?_
      rotate_left
      · intro w' hw'
        go_simp
        with_reducible rfl
      rotate_left
      · simp only [Act.put, List.setIfInBounds_toArray, List.set_cons_zero, List.set_cons_succ]
        rfl
      refine rg_take (i := 31) (N := some 161) (v := ?_) (a' := ?_) (bm 33 4294967295) rfl rfl (by kernel_rfl) (fun _ _ _ h => h) hHeld (Or.inl ⟨by rfl, ?_⟩) ?_ ?_
      rotate_left
      · intro w' hw'
        go_simp
        with_reducible rfl
      rotate_left
      · simp only [Act.put, List.setIfInBounds_toArray, List.set_cons_zero, List.set_cons_succ]
        rfl
      refine rg_take (i := 32) (N := some 10) (v := ?_) (a' := ?_) (bm 33 8589934591) rfl rfl (by kernel_rfl) (fun _ _ _ h => h) hHeld (Or.inl ⟨by rfl, ?_⟩) ?_ ?_
      rotate_left
      · intro w' hw'
        go_simp
        with_reducible rfl
      rotate_left
      · simp only [Act.put, List.setIfInBounds_toArray, List.set_cons_zero, List.set_cons_succ]
        rfl
      refine rg_done (by kernel_rfl) ?_
      go_wp2
      go_ret
      exact ⟨rfl, SB.bel hHeld⟩
    | succ i =>
      obtain rfl : x = (i : Int) := by have := hx.out; omega
      clear hx
      have dj : decide ((0 : Int) ≤ (i : Int)) = true := decide_eq_true (by omega)
      obtain ⟨gv, hgv⟩ : ∃ gv : Nat, gotN 2 vn (i + 1) = gv := ⟨_, rfl⟩
      have hgl : gv < 72057594037927936 := by rw [← hgv]; exact gotN_lt (by decide) (by omega)
      obtain ⟨cc, hcc⟩ : ∃ cc : Nat, vn / 256 ^ i % 256 = cc := ⟨_, rfl⟩
      have hcl : cc < 256 := by rw [← hcc]; exact Nat.mod_lt _ (by decide)
      have hst : gotN 2 vn i = gv * 256 + cc := by rw [gotN_step (by omega), hgv, hcc]
      have hcell : wr.cell? ⟨g2, t + i, none⟩ = some (.int .u8 (cc : Int)) := by
        have h1 := HGET.out i (by omega)
        rw [hcc] at h1
        obtain ⟨h2, h3⟩ := List.getElem?_eq_some_iff.1 h1
        rw [SB.cell HS7.out h2, h3]
      have hor : bits .or .u64 ((gv : Int) * 256) (cc : Int) = ((gv * 256 + cc : Nat) : Int) := by rw [show (gv : Int) * 256 = ((gv * 256 : Nat) : Int) by omega]; exact or_u64_add hcl hgl
      have HST := Aside0.mk hst
      rw [hgv]
      clear hst hgv hcc
      go_wp2
      exact ⟨⟨i, _, by rw [HST.out]; simp, rfl, ⟨rfl⟩, by omega, trivial⟩, by first | (simp [intOf]; done) | (simp [intOf]; omega)⟩
set_option maxRecDepth 100000 in
set_option maxHeartbeats 4000000 in
theorem backOk4 (op base off v : Int) (fill : List Int) (Ab : Option Addr) (cb : Nat) (w : World) (hG : Globs w) (hC : Kd.C (Kd.int .u8) w Ab fill.length fill) (hcb : fill.length ≤ cb) (hfo : Oct fill) (hfl : fill.length ≤ 300)
    (hb : 0 ≤ base ∧ base < 18446744073709551616) (ho : 0 ≤ off ∧ off < 18446744073709551616) (hv : 0 ≤ v ∧ v < 18446744073709551616) (q : Nat) (hq : bits .and .i64 op 15 = (q : Int)) (hq2 : q ≤ 15) (ty : Int) (sg : Bool) (ha : acc (54 + (q : Int)) = (ty, 4, sg, true))
    (hnear : ∀ a o : Nat, bits .and .u64 base 65535 = (a : Int) → bits .and .u64 off 255 = (o : Int) → a + o + 4 ≤ 65536) :
    Calls Tryd.prog 4 #[.int .i64 op, .int .u64 base, .int .u64 off, .int .u64 v, .slice Ab fill.length cb] w fun e w' => e = .returned (.bool true) ∧ Below w.heap.size w w' := by
  have HG := Aside0.mk hG
  have HC := Aside0.mk hC
  have HV := Aside0.mk hv
  obtain ⟨a, haa, ha2⟩ := and_low base 65535 hb (by decide)
  replace haa : bits .and .u64 base 65535 = (a : Int) := haa
  obtain ⟨o, hoo, ho2⟩ := and_low off 255 ho (by decide)
  replace hoo : bits .and .u64 off 255 = (o : Int) := hoo
  have d0 : decide ((300 : Int) < (fill.length : Int)) = false := decide_eq_false (by omega)
  have d0' : decide (300 < fill.length) = false := decide_eq_false (by omega)
  obtain ⟨t, ht⟩ : ∃ t : Nat, t = a + o := ⟨_, rfl⟩
  have hto : (a : Int) + (o : Int) = (t : Int) := by omega
  have htn : t + 4 ≤ 65536 := by rw [ht]; exact hnear a o haa hoo
  obtain ⟨vn, rfl⟩ := Int.eq_ofNat_of_zero_le hv.1
  obtain ⟨ps, hps⟩ : ∃ ps : Int, (if (20 : Int) < (t : Int) then (t : Int) - 20 else 0) = ps := ⟨_, rfl⟩
  have hpn : (if 20 < t then (t : Int) - 20 else 0) = ps := by rw [← hps]; split <;> split <;> omega
  have hps0 : 0 ≤ ps ∧ ps ≤ 65516 := by rw [← hps]; split <;> omega
  obtain ⟨kk, hkk⟩ : ∃ kk : Int, 54 + (q : Int) = kk := ⟨_, rfl⟩
  rw [hkk] at ha
  obtain ⟨r1, hr1⟩ : ∃ r1, r1 = (mLay b0 ps fill).isSome := ⟨_, rfl⟩
  obtain ⟨b1, hb1⟩ : ∃ b1, b1 = (mLay b0 ps fill).getD b0 := ⟨_, rfl⟩
  have hg1 : b1.length = 65536 ∧ Oct b1 := by
    rw [hb1]
    unfold mLay
    split
    · rename_i hc
      exact ⟨by rw [Option.getD_some, splice_length (by omega), b0_len], splice_oct b0_oct hfo⟩
    · exact ⟨b0_len, b0_oct⟩
  have hll : (le 4 vn).length = 4 := le_length _ _
  have hfit : t + (le 4 vn).length ≤ b1.length := by rw [hll, hg1.1]; omega
  obtain ⟨b2, hb2⟩ : ∃ b2, b2 = splice b1 t (le 4 vn) := ⟨_, rfl⟩
  have hg2 : b2.length = 65536 ∧ Oct b2 := by rw [hb2]; exact ⟨by rw [splice_length hfit, hg1.1], splice_oct hg1.2 (le_oct _ _)⟩
  have HGD := Aside0.mk (show Good ⟨b1, 1, 0, false⟩ from ⟨hg1.2, by show b1.length ≤ _; rw [hg1.1]; decide⟩)
  have HGD2 := Aside0.mk (show Good ⟨b2, 1, 0, false⟩ from ⟨hg2.2, by show b2.length ≤ _; rw [hg2.1]; decide⟩)
  have HST := Aside0.mk (show mStore b1 kk a o vn = some b2 by
    unfold mStore
    rw [if_pos ⟨by rw [ha], mFits_iff.2 ⟨by omega, by omega, by rw [ha]; show (0 : Int) ≤ 4; decide, by rw [ha, hg1.1]; show (a : Int) + (o : Int) + 4 ≤ 65536; omega⟩⟩, ha, hb2, Int.toNat_natCast]
    show some (splice b1 ((a : Int) + (o : Int)).toNat (le 4 vn)) = _
    rw [hto, Int.toNat_natCast])
  have hseg : ∀ b : List Int, b.length = 65536 → mBytes b 0 65536 = b := fun b hl => by rw [show (0 : Int) = ((0 : Nat) : Int) from rfl, show (65536 : Int) = ((65536 : Nat) : Int) from rfl, mBytes_seg (by omega)]; unfold seg; rw [List.drop_zero, List.take_of_length_le (by omega)]
  have HBY := Aside0.mk (hseg b1 hg1.1)
  have HBY2 := Aside0.mk (hseg b2 hg2.1)
  have HL := Aside0.mk hg1.1
  have HL2 := Aside0.mk hg2.1
  have HT := Aside0.mk ht
  have HR1 := Aside0.mk hr1
  have HB1 := Aside0.mk hb1
  have HGET := Aside0.mk (show ∀ j, j < 4 → b2[t + j]? = some (((vn / 256 ^ j % 256 : Nat)) : Int) from fun j hj => by rw [hb2]; exact splice_get hfit (le_get hj))
  have HTK := Aside0.mk (show b2.take t = b1.take t by rw [hb2]; exact splice_take hfit)
  have HDR := Aside0.mk (show b2.drop (t + 4) = b1.drop (t + 4) by have := splice_drop hfit; rw [hll] at this; rw [hb2]; exact this)
  have dn : decide ((t : Int) + 4 ≤ 65536) = true := decide_eq_true (by omega)
  have dn' : decide (t + 4 ≤ 65536) = true := decide_eq_true htn
  have hw2 : IntKind.i64.wrap ((t : Int) + 4) = (t : Int) + 4 := by rw [IntKind.wrap_i64]; omega
  clear hnear hG hC hv hg1 ht hr1 hb1 hll hfit hb2 hg2 hseg
  go_enter Tryd.func4, Tryd.ntmps4
  go_wp2_with (first
    | (go_at_call 9; (with_reducible refine (awake _ HG.out).mono ?_); rintro e w1 ⟨rfl, hb⟩; have HB := Aside0.mk hb; clear hb)
    | (go_at_call 10; (with_reducible refine (memNew1 ((SB.start w).below HB.out)).mono ?_); rintro e w2 ⟨p1, rfl, hs⟩; have HS := Aside0.mk hs; clear hs)
    | (go_at_call 15; (with_reducible refine (memLayG (p := p1) HS.out (good0 _ _ _) ps fill Ab cb (by omega) (Kd.C_below HC.out HS.out.bel) (by omega) HR1.out HB1.out).mono ?_); rintro e w4 ⟨rfl, hs⟩; have HS3 := Aside0.mk hs; clear hs)
    | (go_at_call 16; (with_reducible refine (memBytesH (p := p1) HS3.out HGD.out 0 65536 (by decide) (by decide) HBY.out).mono ?_); rintro e w5 ⟨v1, rfl, hs⟩; have HS4 := Aside0.mk hs; clear hs; obtain ⟨A1, c1, hv1, hc1, _⟩ := HS4.out.reads; rw [HL.out] at hv1; subst hv1)
    | (go_at_call 17; (with_reducible refine (instrAccess kk _ (HG.out.below HS4.out.bel) (by omega)).mono ?_); rintro e w6 ⟨rfl, hb6⟩; rw [ha]; have HS5 := Aside0.mk (HS4.out.below hb6); clear hb6)
    | (go_at_call 11; (with_reducible refine (memStoreH (p := p1) HS5.out (HG.out.below HS5.out.bel) HGD.out kk a o vn (by omega) (by omega) (by omega) HV.out HST.out).mono ?_); rintro e w7 ⟨rfl, hs⟩; have HS6 := Aside0.mk hs; clear hs)
    | (go_at_call 16; (with_reducible refine (memBytesH (p := p1) HS6.out HGD2.out 0 65536 (by decide) (by decide) HBY2.out).mono ?_); rintro e w8 ⟨v2, rfl, hs⟩; have HS7 := Aside0.mk hs; clear hs; obtain ⟨F7, hF7, _⟩ := HS7.out.head; obtain ⟨g2, c2, hv2, _⟩ := Kd.R_form hF7.1 (by rw [HL2.out]; decide); rw [HL2.out] at hv2; subst hv2; have HC2 := Aside0.mk (own_le hF7); clear hF7))
  go_loopw [24, 25] (fun v24 v25 wr => ∃ (j : Nat) (x : Int), v24 = .int .u64 (gotN 4 vn j : Int) ∧ v25 = .int .i64 x ∧ Aside0 (x = (j : Int) - 1) ∧ j ≤ 4 ∧ wr = w8) (fun v24 v25 _ => (intOf v25 + 1).toNat)
  case atStart => exact ⟨4, _, by rw [gotN_top]; rfl, rfl, ⟨rfl⟩, Nat.le_refl _, rfl⟩
  case round =>
    obtain ⟨j, x, rfl, rfl, hx, hj, rfl⟩ := hrel
    cases j with
    | zero =>
      obtain rfl : x = -1 := hx.out
      clear hx
      obtain ⟨gg, hgg⟩ : ∃ gg : Int, ((gotN 4 vn 0 : Nat) : Int) = gg := ⟨_, rfl⟩
      rw [hgg]
      have hwant : bits .and .u64 (vn : Int) 4294967295 = gg := by rw [← hgg, gotN_zero]; exact and_mask vn 32 4294967295 (by have := HV.out; omega) (by decide) (by decide)
      obtain ⟨k1, hs1, hx1⟩ := cut_lo A1 c1 b1 t (by rw [HL.out]; omega) hc1
      obtain ⟨k2, hs2, hx2⟩ := cut_lo (some ⟨g2, 0, none⟩) c2 b2 t (by rw [HL2.out]; omega) (by rw [HL2.out]; exact HC2.out)
      obtain ⟨A3, k3, c3, hs3, hx3⟩ := cut_hi A1 c1 b1 (t + 4) (by rw [HL.out]; omega) hc1
      obtain ⟨A4, k4, c4, hs4, hx4⟩ := cut_hi (some ⟨g2, 0, none⟩) c2 b2 (t + 4) (by rw [HL2.out]; omega) (by rw [HL2.out]; exact HC2.out)
      rw [HL.out] at hs1 hs3
      rw [HL2.out] at hs2 hs4
      rw [HTK.out] at hx2
      rw [HDR.out] at hx4
      obtain ⟨s1, hs1e⟩ : ∃ s1, strOfNums (b1.take t) = s1 := ⟨_, rfl⟩
      obtain ⟨s2, hs2e⟩ : ∃ s2, strOfNums (b1.drop (t + 4)) = s2 := ⟨_, rfl⟩
      rw [hs1e] at hx1 hx2
      rw [hs2e] at hx3 hx4
      have HX1 := Aside0.mk hx1
      have HX2 := Aside0.mk hx2
      have HX3 := Aside0.mk hx3
      have HX4 := Aside0.mk hx4
      have hsd := HS7.out.drew
      have e1 : ((t + 4 : Nat) : Int) = (t : Int) + 4 := by omega
      rw [e1] at hs3 hs4
      clear hs1e hs2e e1 hx1 hx2 hx3 hx4
      go_wp2
      refine rg_start (n := 33) (S := fun w' => SB w w' [Row (Kd.int .u8) 5 (.slice (some ⟨g2, 0, none⟩) 65536 c2) b2, Row (Kd.int .u8) 5 (.slice A1 65536 c1) b1, MO p1 ⟨b2, 1, 0, false⟩]) (bm 33 0) (by kernel_rfl) rfl (by kernel_rfl) (hsd) (fun hHeld => ?_)
      refine rg_take (i := 0) (N := some 130) (v := ?_) (a' := ?_) (bm 33 1) rfl rfl (by kernel_rfl) (fun _ _ _ h => h) hHeld (Or.inl ⟨by rfl, ?_⟩) ?_ ?_
      rotate_left
      · intro w' hw'
        go_simp
        with_reducible rfl
      rotate_left
      · simp only [Act.put, List.setIfInBounds_toArray, List.set_cons_zero, List.set_cons_succ]
        rfl
      refine rg_take (i := 1) (N := some 131) (v := ?_) (a' := ?_) (bm 33 3) rfl rfl (by kernel_rfl) (fun _ _ _ h => h) hHeld (Or.inl ⟨by rfl, ?_⟩) ?_ ?_
      rotate_left
      · intro w' hw'
        go_simp
        with_reducible rfl
      rotate_left
      · simp only [Act.put, List.setIfInBounds_toArray, List.set_cons_zero, List.set_cons_succ]
        rfl
      refine rg_take (i := 2) (N := some 132) (v := ?_) (a' := ?_) (bm 33 7) rfl rfl (by kernel_rfl) (fun _ _ _ h => h) hHeld (Or.inl ⟨by rfl, ?_⟩) ?_ ?_
      rotate_left
      · intro w' hw'
        go_simp
        with_reducible rfl
      rotate_left
      · simp only [Act.put, List.setIfInBounds_toArray, List.set_cons_zero, List.set_cons_succ]
        rfl
      refine rg_take (i := 3) (N := some 133) (v := ?_) (a' := ?_) (bm 33 15) rfl rfl (by kernel_rfl) (fun _ _ _ h => h) hHeld (Or.inl ⟨by rfl, ?_⟩) ?_ ?_
      rotate_left
      · intro w' hw'
        go_simp
        with_reducible rfl
      rotate_left
      · simp only [Act.put, List.setIfInBounds_toArray, List.set_cons_zero, List.set_cons_succ]
        rfl
      refine rg_take (i := 4) (N := some 134) (v := ?_) (a' := ?_) (bm 33 31) rfl rfl (by kernel_rfl) (fun _ _ _ h => h) hHeld (Or.inl ⟨by rfl, ?_⟩) ?_ ?_
      rotate_left
      · intro w' hw'
        go_simp
        with_reducible rfl
      rotate_left
      · simp only [Act.put, List.setIfInBounds_toArray, List.set_cons_zero, List.set_cons_succ]
        rfl
      refine rg_take (i := 5) (N := some 135) (v := ?_) (a' := ?_) (bm 33 63) rfl rfl (by kernel_rfl) (fun _ _ _ h => h) hHeld (Or.inl ⟨by rfl, ?_⟩) ?_ ?_
      rotate_left
      · intro w' hw'
        go_simp
        with_reducible rfl
      rotate_left
      · simp only [Act.put, List.setIfInBounds_toArray, List.set_cons_zero, List.set_cons_succ]
        rfl
      refine rg_take (i := 6) (N := some 136) (v := ?_) (a' := ?_) (bm 33 127) rfl rfl (by kernel_rfl) (fun _ _ _ h => h) hHeld (Or.inl ⟨by rfl, ?_⟩) ?_ ?_
      rotate_left
      · intro w' hw'
        go_simp
        with_reducible rfl
      rotate_left
      · simp only [Act.put, List.setIfInBounds_toArray, List.set_cons_zero, List.set_cons_succ]
        rfl
      refine rg_take (i := 7) (N := some 137) (v := ?_) (a' := ?_) (bm 33 255) rfl rfl (by kernel_rfl) (fun _ _ _ h => h) hHeld (Or.inl ⟨by rfl, ?_⟩) ?_ ?_
      rotate_left
      · intro w' hw'
        go_simp
        with_reducible rfl
      rotate_left
      · simp only [Act.put, List.setIfInBounds_toArray, List.set_cons_zero, List.set_cons_succ]
        rfl
      refine rg_take (i := 8) (N := some 138) (v := ?_) (a' := ?_) (bm 33 511) rfl rfl (by kernel_rfl) (fun _ _ _ h => h) hHeld (Or.inl ⟨by rfl, ?_⟩) ?_ ?_
      rotate_left
      · intro w' hw'
        go_simp
        with_reducible rfl
      rotate_left
      · simp only [Act.put, List.setIfInBounds_toArray, List.set_cons_zero, List.set_cons_succ]
        rfl
      refine rg_take (i := 9) (N := some 139) (v := ?_) (a' := ?_) (bm 33 1023) rfl rfl (by kernel_rfl) (fun _ _ _ h => h) hHeld (Or.inl ⟨by rfl, ?_⟩) ?_ ?_
      rotate_left
      · intro w' hw'
        go_simp
        with_reducible rfl
      rotate_left
      · simp only [Act.put, List.setIfInBounds_toArray, List.set_cons_zero, List.set_cons_succ]
        rfl
      refine rg_take (i := 10) (N := some 140) (v := ?_) (a' := ?_) (bm 33 2047) rfl rfl (by kernel_rfl) (fun _ _ _ h => h) hHeld (Or.inl ⟨by rfl, ?_⟩) ?_ ?_
      rotate_left
      · intro w' hw'
        have hc := HX1.out w' (SB.readAt A1 65536 c1 hw').1
        go_simp
        with_reducible rfl
      rotate_left
      · simp only [Act.put, List.setIfInBounds_toArray, List.set_cons_zero, List.set_cons_succ]
        rfl
      refine rg_take (i := 11) (N := some 141) (v := ?_) (a' := ?_) (bm 33 4095) rfl rfl (by kernel_rfl) (fun _ _ _ h => h) hHeld (Or.inl ⟨by rfl, ?_⟩) ?_ ?_
      rotate_left
      · intro w' hw'
        go_simp
        with_reducible rfl
      rotate_left
      · simp only [Act.put, List.setIfInBounds_toArray, List.set_cons_zero, List.set_cons_succ]
        rfl
      refine rg_take (i := 12) (N := some 142) (v := ?_) (a' := ?_) (bm 33 8191) rfl rfl (by kernel_rfl) (fun _ _ _ h => h) hHeld (Or.inl ⟨by rfl, ?_⟩) ?_ ?_
      rotate_left
      · intro w' hw'
        go_simp
        with_reducible rfl
      rotate_left
      · simp only [Act.put, List.setIfInBounds_toArray, List.set_cons_zero, List.set_cons_succ]
        rfl
      refine rg_take (i := 13) (N := some 143) (v := ?_) (a' := ?_) (bm 33 16383) rfl rfl (by kernel_rfl) (fun _ _ _ h => h) hHeld (Or.inl ⟨by rfl, ?_⟩) ?_ ?_
      rotate_left
      · intro w' hw'
        go_simp
        with_reducible rfl
      rotate_left
      · simp only [Act.put, List.setIfInBounds_toArray, List.set_cons_zero, List.set_cons_succ]
        rfl
      refine rg_take (i := 14) (N := some 144) (v := ?_) (a' := ?_) (bm 33 32767) rfl rfl (by kernel_rfl) (fun _ _ _ h => h) hHeld (Or.inl ⟨by rfl, ?_⟩) ?_ ?_
      rotate_left
      · intro w' hw'
        have hc := HX2.out w' (SB.readAt (some ⟨g2, 0, none⟩) 65536 c2 hw').1
        go_simp
        with_reducible rfl
      rotate_left
      · simp only [Act.put, List.setIfInBounds_toArray, List.set_cons_zero, List.set_cons_succ]
        rfl
      refine rg_take (i := 15) (N := some 145) (v := ?_) (a' := ?_) (bm 33 65535) rfl rfl (by kernel_rfl) (fun _ _ _ h => h) hHeld (Or.inl ⟨by rfl, ?_⟩) ?_ ?_
      rotate_left
      · intro w' hw'
        go_simp
        with_reducible rfl
      rotate_left
      · simp only [Act.put, List.setIfInBounds_toArray, List.set_cons_zero, List.set_cons_succ]
        rfl
      refine rg_take (i := 16) (N := some 146) (v := ?_) (a' := ?_) (bm 33 131071) rfl rfl (by kernel_rfl) (fun _ _ _ h => h) hHeld (Or.inl ⟨by rfl, ?_⟩) ?_ ?_
      rotate_left
      · intro w' hw'
        go_simp
        with_reducible rfl
      rotate_left
      · simp only [Act.put, List.setIfInBounds_toArray, List.set_cons_zero, List.set_cons_succ]
        rfl
      refine rg_take (i := 17) (N := some 147) (v := ?_) (a' := ?_) (bm 33 262143) rfl rfl (by kernel_rfl) (fun _ _ _ h => h) hHeld (Or.inl ⟨by rfl, ?_⟩) ?_ ?_
      rotate_left
      · intro w' hw'
        go_simp
        with_reducible rfl
      rotate_left
      · simp only [Act.put, List.setIfInBounds_toArray, List.set_cons_zero, List.set_cons_succ]
        rfl
      refine rg_take (i := 18) (N := some 148) (v := ?_) (a' := ?_) (bm 33 524287) rfl rfl (by kernel_rfl) (fun _ _ _ h => h) hHeld (Or.inl ⟨by rfl, ?_⟩) ?_ ?_
      rotate_left
      · intro w' hw'
        go_simp
        with_reducible rfl
      rotate_left
      · simp only [Act.put, List.setIfInBounds_toArray, List.set_cons_zero, List.set_cons_succ]
        rfl
      refine rg_take (i := 19) (N := some 149) (v := ?_) (a' := ?_) (bm 33 1048575) rfl rfl (by kernel_rfl) (fun _ _ _ h => h) hHeld (Or.inl ⟨by rfl, ?_⟩) ?_ ?_
      rotate_left
      · intro w' hw'
        go_simp
        with_reducible rfl
      rotate_left
      · simp only [Act.put, List.setIfInBounds_toArray, List.set_cons_zero, List.set_cons_succ]
        rfl
      refine rg_take (i := 20) (N := some 150) (v := ?_) (a' := ?_) (bm 33 2097151) rfl rfl (by kernel_rfl) (fun _ _ _ h => h) hHeld (Or.inl ⟨by rfl, ?_⟩) ?_ ?_
      rotate_left
      · intro w' hw'
        go_simp
        with_reducible rfl
      rotate_left
      · simp only [Act.put, List.setIfInBounds_toArray, List.set_cons_zero, List.set_cons_succ]
        rfl
      refine rg_take (i := 21) (N := some 151) (v := ?_) (a' := ?_) (bm 33 4194303) rfl rfl (by kernel_rfl) (fun _ _ _ h => h) hHeld (Or.inl ⟨by rfl, ?_⟩) ?_ ?_
      rotate_left
      · intro w' hw'
        go_simp
        with_reducible rfl
      rotate_left
      · simp only [Act.put, List.setIfInBounds_toArray, List.set_cons_zero, List.set_cons_succ]
        rfl
      refine rg_take (i := 22) (N := some 152) (v := ?_) (a' := ?_) (bm 33 8388607) rfl rfl (by kernel_rfl) (fun _ _ _ h => h) hHeld (Or.inl ⟨by rfl, ?_⟩) ?_ ?_
      rotate_left
      · intro w' hw'
        go_simp
        with_reducible rfl
      rotate_left
      · simp only [Act.put, List.setIfInBounds_toArray, List.set_cons_zero, List.set_cons_succ]
        rfl
      refine rg_take (i := 23) (N := some 153) (v := ?_) (a' := ?_) (bm 33 16777215) rfl rfl (by kernel_rfl) (fun _ _ _ h => h) hHeld (Or.inl ⟨by rfl, ?_⟩) ?_ ?_
      rotate_left
      · intro w' hw'
        have hc := HX3.out w' (SB.readAt A1 65536 c1 hw').1
        go_simp
        with_reducible rfl
      rotate_left
      · simp only [Act.put, List.setIfInBounds_toArray, List.set_cons_zero, List.set_cons_succ]
        rfl
      refine rg_take (i := 24) (N := some 154) (v := ?_) (a' := ?_) (bm 33 33554431) rfl rfl (by kernel_rfl) (fun _ _ _ h => h) hHeld (Or.inl ⟨by rfl, ?_⟩) ?_ ?_
      rotate_left
      · intro w' hw'
        go_simp
        with_reducible rfl
      rotate_left
      · simp only [Act.put, List.setIfInBounds_toArray, List.set_cons_zero, List.set_cons_succ]
        rfl
      refine rg_take (i := 25) (N := some 155) (v := ?_) (a' := ?_) (bm 33 67108863) rfl rfl (by kernel_rfl) (fun _ _ _ h => h) hHeld (Or.inl ⟨by rfl, ?_⟩) ?_ ?_
      rotate_left
      · intro w' hw'
        go_simp
        with_reducible rfl
      rotate_left
      · simp only [Act.put, List.setIfInBounds_toArray, List.set_cons_zero, List.set_cons_succ]
        rfl
      refine rg_take (i := 26) (N := some 156) (v := ?_) (a' := ?_) (bm 33 134217727) rfl rfl (by kernel_rfl) (fun _ _ _ h => h) hHeld (Or.inl ⟨by rfl, ?_⟩) ?_ ?_
      rotate_left
      · intro w' hw'
        go_simp
        with_reducible rfl
      rotate_left
      · simp only [Act.put, List.setIfInBounds_toArray, List.set_cons_zero, List.set_cons_succ]
        rfl
      refine rg_take (i := 27) (N := some 157) (v := ?_) (a' := ?_) (bm 33 268435455) rfl rfl (by kernel_rfl) (fun _ _ _ h => h) hHeld (Or.inl ⟨by rfl, ?_⟩) ?_ ?_
      rotate_left
      · intro w' hw'
        go_simp
        with_reducible rfl
      rotate_left
      · simp only [Act.put, List.setIfInBounds_toArray, List.set_cons_zero, List.set_cons_succ]
        rfl
      refine rg_take (i := 28) (N := some 158) (v := ?_) (a' := ?_) (bm 33 536870911) rfl rfl (by kernel_rfl) (fun _ _ _ h => h) hHeld (Or.inl ⟨by rfl, ?_⟩) ?_ ?_
      rotate_left
      · intro w' hw'
        go_simp
        with_reducible rfl
      rotate_left
      · simp only [Act.put, List.setIfInBounds_toArray, List.set_cons_zero, List.set_cons_succ]
        rfl
      refine rg_take (i := 29) (N := some 159) (v := ?_) (a' := ?_) (bm 33 1073741823) rfl rfl (by kernel_rfl) (fun _ _ _ h => h) hHeld (Or.inl ⟨by rfl, ?_⟩) ?_ ?_
      rotate_left
      · intro w' hw'
        have hc := HX4.out w' (SB.readAt (some ⟨g2, 0, none⟩) 65536 c2 hw').1
        go_simp
        with_reducible rfl
      rotate_left
      · simp only [Act.put, List.setIfInBounds_toArray, List.set_cons_zero, List.set_cons_succ]
        rfl
      refine rg_take (i := 30) (N := some 160) (v := ?_) (a' := ?_) (bm 33 2147483647) rfl rfl (by kernel_rfl) (fun _ _ _ h => h) hHeld (Or.inl ⟨by rfl, ?_⟩) ?_ ?_
      rotate_left
      · intro w' hw'
        go_simp
        with_reducible rfl
      rotate_left
      · simp only [Act.put, List.setIfInBounds_toArray, List.set_cons_zero, List.set_cons_succ]
        rfl
      refine rg_take (i := 31) (N := some 161) (v := ?_) (a' := ?_) (bm 33 4294967295) rfl rfl (by kernel_rfl) (fun _ _ _ h => h) hHeld (Or.inl ⟨by rfl, ?_⟩) ?_ ?_
      rotate_left
      · intro w' hw'
        go_simp
        with_reducible rfl
      rotate_left
      · simp only [Act.put, List.setIfInBounds_toArray, List.set_cons_zero, List.set_cons_succ]
        rfl
      refine rg_take (i := 32) (N := some 10) (v := ?_) (a' := ?_) (bm 33 8589934591) rfl rfl (by kernel_rfl) (fun _ _ _ h => h) hHeld (Or.inl ⟨by rfl, ?_⟩) ?_ ?_
      rotate_left
      · intro w' hw'
        go_simp
        with_reducible rfl
      rotate_left
      · simp only [Act.put, List.setIfInBounds_toArray, List.set_cons_zero, List.set_cons_succ]
        rfl
      refine rg_done (by kernel_rfl) ?_
      go_wp2
      go_ret
      exact ⟨rfl, SB.bel hHeld⟩
    | succ i =>
      obtain rfl : x = (i : Int) := by have := hx.out; omega
      clear hx
      have dj : decide ((0 : Int) ≤ (i : Int)) = true := decide_eq_true (by omega)
      obtain ⟨gv, hgv⟩ : ∃ gv : Nat, gotN 4 vn (i + 1) = gv := ⟨_, rfl⟩
      have hgl : gv < 72057594037927936 := by rw [← hgv]; exact gotN_lt (by decide) (by omega)
      obtain ⟨cc, hcc⟩ : ∃ cc : Nat, vn / 256 ^ i % 256 = cc := ⟨_, rfl⟩
      have hcl : cc < 256 := by rw [← hcc]; exact Nat.mod_lt _ (by decide)
      have hst : gotN 4 vn i = gv * 256 + cc := by rw [gotN_step (by omega), hgv, hcc]
      have hcell : wr.cell? ⟨g2, t + i, none⟩ = some (.int .u8 (cc : Int)) := by
        have h1 := HGET.out i (by omega)
        rw [hcc] at h1
        obtain ⟨h2, h3⟩ := List.getElem?_eq_some_iff.1 h1
        rw [SB.cell HS7.out h2, h3]
      have hor : bits .or .u64 ((gv : Int) * 256) (cc : Int) = ((gv * 256 + cc : Nat) : Int) := by rw [show (gv : Int) * 256 = ((gv * 256 : Nat) : Int) by omega]; exact or_u64_add hcl hgl
      have HST := Aside0.mk hst
      rw [hgv]
      clear hst hgv hcc
      go_wp2
      exact ⟨⟨i, _, by rw [HST.out]; simp, rfl, ⟨rfl⟩, by omega, trivial⟩, by first | (simp [intOf]; done) | (simp [intOf]; omega)⟩
set_option maxRecDepth 100000 in
set_option maxHeartbeats 4000000 in
theorem backOk8 (op base off v : Int) (fill : List Int) (Ab : Option Addr) (cb : Nat) (w : World) (hG : Globs w) (hC : Kd.C (Kd.int .u8) w Ab fill.length fill) (hcb : fill.length ≤ cb) (hfo : Oct fill) (hfl : fill.length ≤ 300)
    (hb : 0 ≤ base ∧ base < 18446744073709551616) (ho : 0 ≤ off ∧ off < 18446744073709551616) (hv : 0 ≤ v ∧ v < 18446744073709551616) (q : Nat) (hq : bits .and .i64 op 15 = (q : Int)) (hq2 : q ≤ 15) (ty : Int) (sg : Bool) (ha : acc (54 + (q : Int)) = (ty, 8, sg, true))
    (hnear : ∀ a o : Nat, bits .and .u64 base 65535 = (a : Int) → bits .and .u64 off 255 = (o : Int) → a + o + 8 ≤ 65536) :
    Calls Tryd.prog 4 #[.int .i64 op, .int .u64 base, .int .u64 off, .int .u64 v, .slice Ab fill.length cb] w fun e w' => e = .returned (.bool true) ∧ Below w.heap.size w w' := by
  have HG := Aside0.mk hG
  have HC := Aside0.mk hC
  have HV := Aside0.mk hv
  obtain ⟨a, haa, ha2⟩ := and_low base 65535 hb (by decide)
  replace haa : bits .and .u64 base 65535 = (a : Int) := haa
  obtain ⟨o, hoo, ho2⟩ := and_low off 255 ho (by decide)
  replace hoo : bits .and .u64 off 255 = (o : Int) := hoo
  have d0 : decide ((300 : Int) < (fill.length : Int)) = false := decide_eq_false (by omega)
  have d0' : decide (300 < fill.length) = false := decide_eq_false (by omega)
  obtain ⟨t, ht⟩ : ∃ t : Nat, t = a + o := ⟨_, rfl⟩
  have hto : (a : Int) + (o : Int) = (t : Int) := by omega
  have htn : t + 8 ≤ 65536 := by rw [ht]; exact hnear a o haa hoo
  obtain ⟨vn, rfl⟩ := Int.eq_ofNat_of_zero_le hv.1
  obtain ⟨ps, hps⟩ : ∃ ps : Int, (if (20 : Int) < (t : Int) then (t : Int) - 20 else 0) = ps := ⟨_, rfl⟩
  have hpn : (if 20 < t then (t : Int) - 20 else 0) = ps := by rw [← hps]; split <;> split <;> omega
  have hps0 : 0 ≤ ps ∧ ps ≤ 65516 := by rw [← hps]; split <;> omega
  obtain ⟨kk, hkk⟩ : ∃ kk : Int, 54 + (q : Int) = kk := ⟨_, rfl⟩
  rw [hkk] at ha
  obtain ⟨r1, hr1⟩ : ∃ r1, r1 = (mLay b0 ps fill).isSome := ⟨_, rfl⟩
  obtain ⟨b1, hb1⟩ : ∃ b1, b1 = (mLay b0 ps fill).getD b0 := ⟨_, rfl⟩
  have hg1 : b1.length = 65536 ∧ Oct b1 := by
    rw [hb1]
    unfold mLay
    split
    · rename_i hc
      exact ⟨by rw [Option.getD_some, splice_length (by omega), b0_len], splice_oct b0_oct hfo⟩
    · exact ⟨b0_len, b0_oct⟩
  have hll : (le 8 vn).length = 8 := le_length _ _
  have hfit : t + (le 8 vn).length ≤ b1.length := by rw [hll, hg1.1]; omega
  obtain ⟨b2, hb2⟩ : ∃ b2, b2 = splice b1 t (le 8 vn) := ⟨_, rfl⟩
  have hg2 : b2.length = 65536 ∧ Oct b2 := by rw [hb2]; exact ⟨by rw [splice_length hfit, hg1.1], splice_oct hg1.2 (le_oct _ _)⟩
  have HGD := Aside0.mk (show Good ⟨b1, 1, 0, false⟩ from ⟨hg1.2, by show b1.length ≤ _; rw [hg1.1]; decide⟩)
  have HGD2 := Aside0.mk (show Good ⟨b2, 1, 0, false⟩ from ⟨hg2.2, by show b2.length ≤ _; rw [hg2.1]; decide⟩)
  have HST := Aside0.mk (show mStore b1 kk a o vn = some b2 by
    unfold mStore
    rw [if_pos ⟨by rw [ha], mFits_iff.2 ⟨by omega, by omega, by rw [ha]; show (0 : Int) ≤ 8; decide, by rw [ha, hg1.1]; show (a : Int) + (o : Int) + 8 ≤ 65536; omega⟩⟩, ha, hb2, Int.toNat_natCast]
    show some (splice b1 ((a : Int) + (o : Int)).toNat (le 8 vn)) = _
    rw [hto, Int.toNat_natCast])
  have hseg : ∀ b : List Int, b.length = 65536 → mBytes b 0 65536 = b := fun b hl => by rw [show (0 : Int) = ((0 : Nat) : Int) from rfl, show (65536 : Int) = ((65536 : Nat) : Int) from rfl, mBytes_seg (by omega)]; unfold seg; rw [List.drop_zero, List.take_of_length_le (by omega)]
  have HBY := Aside0.mk (hseg b1 hg1.1)
  have HBY2 := Aside0.mk (hseg b2 hg2.1)
  have HL := Aside0.mk hg1.1
  have HL2 := Aside0.mk hg2.1
  have HT := Aside0.mk ht
  have HR1 := Aside0.mk hr1
  have HB1 := Aside0.mk hb1
  have HGET := Aside0.mk (show ∀ j, j < 8 → b2[t + j]? = some (((vn / 256 ^ j % 256 : Nat)) : Int) from fun j hj => by rw [hb2]; exact splice_get hfit (le_get hj))
  have HTK := Aside0.mk (show b2.take t = b1.take t by rw [hb2]; exact splice_take hfit)
  have HDR := Aside0.mk (show b2.drop (t + 8) = b1.drop (t + 8) by have := splice_drop hfit; rw [hll] at this; rw [hb2]; exact this)
  have dn : decide ((t : Int) + 8 ≤ 65536) = true := decide_eq_true (by omega)
  have dn' : decide (t + 8 ≤ 65536) = true := decide_eq_true htn
  have hw2 : IntKind.i64.wrap ((t : Int) + 8) = (t : Int) + 8 := by rw [IntKind.wrap_i64]; omega
  clear hnear hG hC hv hg1 ht hr1 hb1 hll hfit hb2 hg2 hseg
  go_enter Tryd.func4, Tryd.ntmps4
  go_wp2_with (first
    | (go_at_call 9; (with_reducible refine (awake _ HG.out).mono ?_); rintro e w1 ⟨rfl, hb⟩; have HB := Aside0.mk hb; clear hb)
    | (go_at_call 10; (with_reducible refine (memNew1 ((SB.start w).below HB.out)).mono ?_); rintro e w2 ⟨p1, rfl, hs⟩; have HS := Aside0.mk hs; clear hs)
    | (go_at_call 15; (with_reducible refine (memLayG (p := p1) HS.out (good0 _ _ _) ps fill Ab cb (by omega) (Kd.C_below HC.out HS.out.bel) (by omega) HR1.out HB1.out).mono ?_); rintro e w4 ⟨rfl, hs⟩; have HS3 := Aside0.mk hs; clear hs)
    | (go_at_call 16; (with_reducible refine (memBytesH (p := p1) HS3.out HGD.out 0 65536 (by decide) (by decide) HBY.out).mono ?_); rintro e w5 ⟨v1, rfl, hs⟩; have HS4 := Aside0.mk hs; clear hs; obtain ⟨A1, c1, hv1, hc1, _⟩ := HS4.out.reads; rw [HL.out] at hv1; subst hv1)
    | (go_at_call 17; (with_reducible refine (instrAccess kk _ (HG.out.below HS4.out.bel) (by omega)).mono ?_); rintro e w6 ⟨rfl, hb6⟩; rw [ha]; have HS5 := Aside0.mk (HS4.out.below hb6); clear hb6)
    | (go_at_call 11; (with_reducible refine (memStoreH (p := p1) HS5.out (HG.out.below HS5.out.bel) HGD.out kk a o vn (by omega) (by omega) (by omega) HV.out HST.out).mono ?_); rintro e w7 ⟨rfl, hs⟩; have HS6 := Aside0.mk hs; clear hs)
    | (go_at_call 16; (with_reducible refine (memBytesH (p := p1) HS6.out HGD2.out 0 65536 (by decide) (by decide) HBY2.out).mono ?_); rintro e w8 ⟨v2, rfl, hs⟩; have HS7 := Aside0.mk hs; clear hs; obtain ⟨F7, hF7, _⟩ := HS7.out.head; obtain ⟨g2, c2, hv2, _⟩ := Kd.R_form hF7.1 (by rw [HL2.out]; decide); rw [HL2.out] at hv2; subst hv2; have HC2 := Aside0.mk (own_le hF7); clear hF7))
  go_loopw [24, 25] (fun v24 v25 wr => ∃ (j : Nat) (x : Int), v24 = .int .u64 (gotN 8 vn j : Int) ∧ v25 = .int .i64 x ∧ Aside0 (x = (j : Int) - 1) ∧ j ≤ 8 ∧ wr = w8) (fun v24 v25 _ => (intOf v25 + 1).toNat)
  case atStart => exact ⟨8, _, by rw [gotN_top]; rfl, rfl, ⟨rfl⟩, Nat.le_refl _, rfl⟩
  case round =>
    obtain ⟨j, x, rfl, rfl, hx, hj, rfl⟩ := hrel
    cases j with
    | zero =>
      obtain rfl : x = -1 := hx.out
      clear hx
      obtain ⟨gg, hgg⟩ : ∃ gg : Int, ((gotN 8 vn 0 : Nat) : Int) = gg := ⟨_, rfl⟩
      rw [hgg]
      obtain rfl : gg = (vn : Int) := by rw [← hgg, gotN_zero]; have := HV.out; omega
      obtain ⟨k1, hs1, hx1⟩ := cut_lo A1 c1 b1 t (by rw [HL.out]; omega) hc1
      obtain ⟨k2, hs2, hx2⟩ := cut_lo (some ⟨g2, 0, none⟩) c2 b2 t (by rw [HL2.out]; omega) (by rw [HL2.out]; exact HC2.out)
      obtain ⟨A3, k3, c3, hs3, hx3⟩ := cut_hi A1 c1 b1 (t + 8) (by rw [HL.out]; omega) hc1
      obtain ⟨A4, k4, c4, hs4, hx4⟩ := cut_hi (some ⟨g2, 0, none⟩) c2 b2 (t + 8) (by rw [HL2.out]; omega) (by rw [HL2.out]; exact HC2.out)
      rw [HL.out] at hs1 hs3
      rw [HL2.out] at hs2 hs4
      rw [HTK.out] at hx2
      rw [HDR.out] at hx4
      obtain ⟨s1, hs1e⟩ : ∃ s1, strOfNums (b1.take t) = s1 := ⟨_, rfl⟩
      obtain ⟨s2, hs2e⟩ : ∃ s2, strOfNums (b1.drop (t + 8)) = s2 := ⟨_, rfl⟩
      rw [hs1e] at hx1 hx2
      rw [hs2e] at hx3 hx4
      have HX1 := Aside0.mk hx1
      have HX2 := Aside0.mk hx2
      have HX3 := Aside0.mk hx3
      have HX4 := Aside0.mk hx4
      have hsd := HS7.out.drew
      have e1 : ((t + 8 : Nat) : Int) = (t : Int) + 8 := by omega
      rw [e1] at hs3 hs4
      clear hs1e hs2e e1 hx1 hx2 hx3 hx4
      go_wp2
      refine rg_start (n := 33) (S := fun w' => SB w w' [Row (Kd.int .u8) 5 (.slice (some ⟨g2, 0, none⟩) 65536 c2) b2, Row (Kd.int .u8) 5 (.slice A1 65536 c1) b1, MO p1 ⟨b2, 1, 0, false⟩]) (bm 33 0) (by kernel_rfl) rfl (by kernel_rfl) (hsd) (fun hHeld => ?_)
      refine rg_take (i := 0) (N := some 130) (v := ?_) (a' := ?_) (bm 33 1) rfl rfl (by kernel_rfl) (fun _ _ _ h => h) hHeld (Or.inl ⟨by rfl, ?_⟩) ?_ ?_
      rotate_left
      · intro w' hw'
        go_simp
        with_reducible rfl
      rotate_left
      · simp only [Act.put, List.setIfInBounds_toArray, List.set_cons_zero, List.set_cons_succ]
        rfl
      refine rg_take (i := 1) (N := some 131) (v := ?_) (a' := ?_) (bm 33 3) rfl rfl (by kernel_rfl) (fun _ _ _ h => h) hHeld (Or.inl ⟨by rfl, ?_⟩) ?_ ?_
      rotate_left
      · intro w' hw'
        go_simp
        with_reducible rfl
      rotate_left
      · simp only [Act.put, List.setIfInBounds_toArray, List.set_cons_zero, List.set_cons_succ]
        rfl
      refine rg_take (i := 2) (N := some 132) (v := ?_) (a' := ?_) (bm 33 7) rfl rfl (by kernel_rfl) (fun _ _ _ h => h) hHeld (Or.inl ⟨by rfl, ?_⟩) ?_ ?_
      rotate_left
      · intro w' hw'
        go_simp
        with_reducible rfl
      rotate_left
      · simp only [Act.put, List.setIfInBounds_toArray, List.set_cons_zero, List.set_cons_succ]
        rfl
      refine rg_take (i := 3) (N := some 133) (v := ?_) (a' := ?_) (bm 33 15) rfl rfl (by kernel_rfl) (fun _ _ _ h => h) hHeld (Or.inl ⟨by rfl, ?_⟩) ?_ ?_
      rotate_left
      · intro w' hw'
        go_simp
        with_reducible rfl
      rotate_left
      · simp only [Act.put, List.setIfInBounds_toArray, List.set_cons_zero, List.set_cons_succ]
        rfl
      refine rg_take (i := 4) (N := some 134) (v := ?_) (a' := ?_) (bm 33 31) rfl rfl (by kernel_rfl) (fun _ _ _ h => h) hHeld (Or.inl ⟨by rfl, ?_⟩) ?_ ?_
      rotate_left
      · intro w' hw'
        go_simp
        with_reducible rfl
      rotate_left
      · simp only [Act.put, List.setIfInBounds_toArray, List.set_cons_zero, List.set_cons_succ]
        rfl
      refine rg_take (i := 5) (N := some 135) (v := ?_) (a' := ?_) (bm 33 63) rfl rfl (by kernel_rfl) (fun _ _ _ h => h) hHeld (Or.inl ⟨by rfl, ?_⟩) ?_ ?_
      rotate_left
      · intro w' hw'
        go_simp
        with_reducible rfl
      rotate_left
      · simp only [Act.put, List.setIfInBounds_toArray, List.set_cons_zero, List.set_cons_succ]
        rfl
      refine rg_take (i := 6) (N := some 136) (v := ?_) (a' := ?_) (bm 33 127) rfl rfl (by kernel_rfl) (fun _ _ _ h => h) hHeld (Or.inl ⟨by rfl, ?_⟩) ?_ ?_
      rotate_left
      · intro w' hw'
        go_simp
        with_reducible rfl
      rotate_left
      · simp only [Act.put, List.setIfInBounds_toArray, List.set_cons_zero, List.set_cons_succ]
        rfl
      refine rg_take (i := 7) (N := some 137) (v := ?_) (a' := ?_) (bm 33 255) rfl rfl (by kernel_rfl) (fun _ _ _ h => h) hHeld (Or.inl ⟨by rfl, ?_⟩) ?_ ?_
      rotate_left
      · intro w' hw'
        go_simp
        with_reducible rfl
      rotate_left
      · simp only [Act.put, List.setIfInBounds_toArray, List.set_cons_zero, List.set_cons_succ]
        rfl
      refine rg_take (i := 8) (N := some 138) (v := ?_) (a' := ?_) (bm 33 511) rfl rfl (by kernel_rfl) (fun _ _ _ h => h) hHeld (Or.inl ⟨by rfl, ?_⟩) ?_ ?_
      rotate_left
      · intro w' hw'
        go_simp
        with_reducible rfl
      rotate_left
      · simp only [Act.put, List.setIfInBounds_toArray, List.set_cons_zero, List.set_cons_succ]
        rfl
      refine rg_take (i := 9) (N := some 139) (v := ?_) (a' := ?_) (bm 33 1023) rfl rfl (by kernel_rfl) (fun _ _ _ h => h) hHeld (Or.inl ⟨by rfl, ?_⟩) ?_ ?_
      rotate_left
      · intro w' hw'
        go_simp
        with_reducible rfl
      rotate_left
      · simp only [Act.put, List.setIfInBounds_toArray, List.set_cons_zero, List.set_cons_succ]
        rfl
      refine rg_take (i := 10) (N := some 140) (v := ?_) (a' := ?_) (bm 33 2047) rfl rfl (by kernel_rfl) (fun _ _ _ h => h) hHeld (Or.inl ⟨by rfl, ?_⟩) ?_ ?_
      rotate_left
      · intro w' hw'
        have hc := HX1.out w' (SB.readAt A1 65536 c1 hw').1
        go_simp
        with_reducible rfl
      rotate_left
      · simp only [Act.put, List.setIfInBounds_toArray, List.set_cons_zero, List.set_cons_succ]
        rfl
      refine rg_take (i := 11) (N := some 141) (v := ?_) (a' := ?_) (bm 33 4095) rfl rfl (by kernel_rfl) (fun _ _ _ h => h) hHeld (Or.inl ⟨by rfl, ?_⟩) ?_ ?_
      rotate_left
      · intro w' hw'
        go_simp
        with_reducible rfl
      rotate_left
      · simp only [Act.put, List.setIfInBounds_toArray, List.set_cons_zero, List.set_cons_succ]
        rfl
      refine rg_take (i := 12) (N := some 142) (v := ?_) (a' := ?_) (bm 33 8191) rfl rfl (by kernel_rfl) (fun _ _ _ h => h) hHeld (Or.inl ⟨by rfl, ?_⟩) ?_ ?_
      rotate_left
      · intro w' hw'
        go_simp
        with_reducible rfl
      rotate_left
      · simp only [Act.put, List.setIfInBounds_toArray, List.set_cons_zero, List.set_cons_succ]
        rfl
      refine rg_take (i := 13) (N := some 143) (v := ?_) (a' := ?_) (bm 33 16383) rfl rfl (by kernel_rfl) (fun _ _ _ h => h) hHeld (Or.inl ⟨by rfl, ?_⟩) ?_ ?_
      rotate_left
      · intro w' hw'
        go_simp
        with_reducible rfl
      rotate_left
      · simp only [Act.put, List.setIfInBounds_toArray, List.set_cons_zero, List.set_cons_succ]
        rfl
      refine rg_take (i := 14) (N := some 144) (v := ?_) (a' := ?_) (bm 33 32767) rfl rfl (by kernel_rfl) (fun _ _ _ h => h) hHeld (Or.inl ⟨by rfl, ?_⟩) ?_ ?_
      rotate_left
      · intro w' hw'
        have hc := HX2.out w' (SB.readAt (some ⟨g2, 0, none⟩) 65536 c2 hw').1
        go_simp
        with_reducible rfl
      rotate_left
      · simp only [Act.put, List.setIfInBounds_toArray, List.set_cons_zero, List.set_cons_succ]
        rfl
      refine rg_take (i := 15) (N := some 145) (v := ?_) (a' := ?_) (bm 33 65535) rfl rfl (by kernel_rfl) (fun _ _ _ h => h) hHeld (Or.inl ⟨by rfl, ?_⟩) ?_ ?_
      rotate_left
      · intro w' hw'
        go_simp
        with_reducible rfl
      rotate_left
      · simp only [Act.put, List.setIfInBounds_toArray, List.set_cons_zero, List.set_cons_succ]
        rfl
      refine rg_take (i := 16) (N := some 146) (v := ?_) (a' := ?_) (bm 33 131071) rfl rfl (by kernel_rfl) (fun _ _ _ h => h) hHeld (Or.inl ⟨by rfl, ?_⟩) ?_ ?_
      rotate_left
      · intro w' hw'
        go_simp
        with_reducible rfl
      rotate_left
      · simp only [Act.put, List.setIfInBounds_toArray, List.set_cons_zero, List.set_cons_succ]
        rfl
      refine rg_take (i := 17) (N := some 147) (v := ?_) (a' := ?_) (bm 33 262143) rfl rfl (by kernel_rfl) (fun _ _ _ h => h) hHeld (Or.inl ⟨by rfl, ?_⟩) ?_ ?_
      rotate_left
      · intro w' hw'
        go_simp
        with_reducible rfl
      rotate_left
      · simp only [Act.put, List.setIfInBounds_toArray, List.set_cons_zero, List.set_cons_succ]
        rfl
      refine rg_take (i := 18) (N := some 148) (v := ?_) (a' := ?_) (bm 33 524287) rfl rfl (by kernel_rfl) (fun _ _ _ h => h) hHeld (Or.inl ⟨by rfl, ?_⟩) ?_ ?_
      rotate_left
      · intro w' hw'
        go_simp
        with_reducible rfl
      rotate_left
      · simp only [Act.put, List.setIfInBounds_toArray, List.set_cons_zero, List.set_cons_succ]
        rfl
      refine rg_take (i := 19) (N := some 149) (v := ?_) (a' := ?_) (bm 33 1048575) rfl rfl (by kernel_rfl) (fun _ _ _ h => h) hHeld (Or.inl ⟨by rfl, ?_⟩) ?_ ?_
      rotate_left
      · intro w' hw'
        go_simp
        with_reducible rfl
      rotate_left
      · simp only [Act.put, List.setIfInBounds_toArray, List.set_cons_zero, List.set_cons_succ]
        rfl
      refine rg_take (i := 20) (N := some 150) (v := ?_) (a' := ?_) (bm 33 2097151) rfl rfl (by kernel_rfl) (fun _ _ _ h => h) hHeld (Or.inl ⟨by rfl, ?_⟩) ?_ ?_
      rotate_left
      · intro w' hw'
        go_simp
        with_reducible rfl
      rotate_left
      · simp only [Act.put, List.setIfInBounds_toArray, List.set_cons_zero, List.set_cons_succ]
        rfl
      refine rg_take (i := 21) (N := some 151) (v := ?_) (a' := ?_) (bm 33 4194303) rfl rfl (by kernel_rfl) (fun _ _ _ h => h) hHeld (Or.inl ⟨by rfl, ?_⟩) ?_ ?_
      rotate_left
      · intro w' hw'
        go_simp
        with_reducible rfl
      rotate_left
      · simp only [Act.put, List.setIfInBounds_toArray, List.set_cons_zero, List.set_cons_succ]
        rfl
      refine rg_take (i := 22) (N := some 152) (v := ?_) (a' := ?_) (bm 33 8388607) rfl rfl (by kernel_rfl) (fun _ _ _ h => h) hHeld (Or.inl ⟨by rfl, ?_⟩) ?_ ?_
      rotate_left
      · intro w' hw'
        go_simp
        with_reducible rfl
      rotate_left
      · simp only [Act.put, List.setIfInBounds_toArray, List.set_cons_zero, List.set_cons_succ]
        rfl
      refine rg_take (i := 23) (N := some 153) (v := ?_) (a' := ?_) (bm 33 16777215) rfl rfl (by kernel_rfl) (fun _ _ _ h => h) hHeld (Or.inl ⟨by rfl, ?_⟩) ?_ ?_
      rotate_left
      · intro w' hw'
        have hc := HX3.out w' (SB.readAt A1 65536 c1 hw').1
        go_simp
        with_reducible rfl
      rotate_left
      · simp only [Act.put, List.setIfInBounds_toArray, List.set_cons_zero, List.set_cons_succ]
        rfl
      refine rg_take (i := 24) (N := some 154) (v := ?_) (a' := ?_) (bm 33 33554431) rfl rfl (by kernel_rfl) (fun _ _ _ h => h) hHeld (Or.inl ⟨by rfl, ?_⟩) ?_ ?_
      rotate_left
      · intro w' hw'
        go_simp
        with_reducible rfl
      rotate_left
      · simp only [Act.put, List.setIfInBounds_toArray, List.set_cons_zero, List.set_cons_succ]
        rfl
      refine rg_take (i := 25) (N := some 155) (v := ?_) (a' := ?_) (bm 33 67108863) rfl rfl (by kernel_rfl) (fun _ _ _ h => h) hHeld (Or.inl ⟨by rfl, ?_⟩) ?_ ?_
      rotate_left
      · intro w' hw'
        go_simp
        with_reducible rfl
      rotate_left
      · simp only [Act.put, List.setIfInBounds_toArray, List.set_cons_zero, List.set_cons_succ]
        rfl
      refine rg_take (i := 26) (N := some 156) (v := ?_) (a' := ?_) (bm 33 134217727) rfl rfl (by kernel_rfl) (fun _ _ _ h => h) hHeld (Or.inl ⟨by rfl, ?_⟩) ?_ ?_
      rotate_left
      · intro w' hw'
        go_simp
        with_reducible rfl
      rotate_left
      · simp only [Act.put, List.setIfInBounds_toArray, List.set_cons_zero, List.set_cons_succ]
        rfl
      refine rg_take (i := 27) (N := some 157) (v := ?_) (a' := ?_) (bm 33 268435455) rfl rfl (by kernel_rfl) (fun _ _ _ h => h) hHeld (Or.inl ⟨by rfl, ?_⟩) ?_ ?_
      rotate_left
      · intro w' hw'
        go_simp
        with_reducible rfl
      rotate_left
      · simp only [Act.put, List.setIfInBounds_toArray, List.set_cons_zero, List.set_cons_succ]
        rfl
      refine rg_take (i := 28) (N := some 158) (v := ?_) (a' := ?_) (bm 33 536870911) rfl rfl (by kernel_rfl) (fun _ _ _ h => h) hHeld (Or.inl ⟨by rfl, ?_⟩) ?_ ?_
      rotate_left
      · intro w' hw'
        go_simp
        with_reducible rfl
      rotate_left
      · simp only [Act.put, List.setIfInBounds_toArray, List.set_cons_zero, List.set_cons_succ]
        rfl
      refine rg_take (i := 29) (N := some 159) (v := ?_) (a' := ?_) (bm 33 1073741823) rfl rfl (by kernel_rfl) (fun _ _ _ h => h) hHeld (Or.inl ⟨by rfl, ?_⟩) ?_ ?_
      rotate_left
      · intro w' hw'
        have hc := HX4.out w' (SB.readAt (some ⟨g2, 0, none⟩) 65536 c2 hw').1
        go_simp
        with_reducible rfl
      rotate_left
      · simp only [Act.put, List.setIfInBounds_toArray, List.set_cons_zero, List.set_cons_succ]
        rfl
      refine rg_take (i := 30) (N := some 160) (v := ?_) (a' := ?_) (bm 33 2147483647) rfl rfl (by kernel_rfl) (fun _ _ _ h => h) hHeld (Or.inl ⟨by rfl, ?_⟩) ?_ ?_
      rotate_left
      · intro w' hw'
        go_simp
        with_reducible rfl
      rotate_left
      · simp only [Act.put, List.setIfInBounds_toArray, List.set_cons_zero, List.set_cons_succ]
        rfl
      refine rg_take (i := 31) (N := some 161) (v := ?_) (a' := ?_) (bm 33 4294967295) rfl rfl (by kernel_rfl) (fun _ _ _ h => h) hHeld (Or.inl ⟨by rfl, ?_⟩) ?_ ?_
      rotate_left
      · intro w' hw'
        go_simp
        with_reducible rfl
      rotate_left
      · simp only [Act.put, List.setIfInBounds_toArray, List.set_cons_zero, List.set_cons_succ]
        rfl
      refine rg_take (i := 32) (N := some 10) (v := ?_) (a' := ?_) (bm 33 8589934591) rfl rfl (by kernel_rfl) (fun _ _ _ h => h) hHeld (Or.inl ⟨by rfl, ?_⟩) ?_ ?_
      rotate_left
      · intro w' hw'
        go_simp
        with_reducible rfl
      rotate_left
      · simp only [Act.put, List.setIfInBounds_toArray, List.set_cons_zero, List.set_cons_succ]
        rfl
      refine rg_done (by kernel_rfl) ?_
      go_wp2
      go_ret
      exact ⟨rfl, SB.bel hHeld⟩
    | succ i =>
      obtain rfl : x = (i : Int) := by have := hx.out; omega
      clear hx
      have dj : decide ((0 : Int) ≤ (i : Int)) = true := decide_eq_true (by omega)
      obtain ⟨gv, hgv⟩ : ∃ gv : Nat, gotN 8 vn (i + 1) = gv := ⟨_, rfl⟩
      have hgl : gv < 72057594037927936 := by rw [← hgv]; exact gotN_lt (by decide) (by omega)
      obtain ⟨cc, hcc⟩ : ∃ cc : Nat, vn / 256 ^ i % 256 = cc := ⟨_, rfl⟩
      have hcl : cc < 256 := by rw [← hcc]; exact Nat.mod_lt _ (by decide)
      have hst : gotN 8 vn i = gv * 256 + cc := by rw [gotN_step (by omega), hgv, hcc]
      have hcell : wr.cell? ⟨g2, t + i, none⟩ = some (.int .u8 (cc : Int)) := by
        have h1 := HGET.out i (by omega)
        rw [hcc] at h1
        obtain ⟨h2, h3⟩ := List.getElem?_eq_some_iff.1 h1
        rw [SB.cell HS7.out h2, h3]
      have hor : bits .or .u64 ((gv : Int) * 256) (cc : Int) = ((gv * 256 + cc : Nat) : Int) := by rw [show (gv : Int) * 256 = ((gv * 256 : Nat) : Int) by omega]; exact or_u64_add hcl hgl
      have HST := Aside0.mk hst
      rw [hgv]
      clear hst hgv hcc
      go_wp2
      exact ⟨⟨i, _, by rw [HST.out]; simp, rfl, ⟨rfl⟩, by omega, trivial⟩, by first | (simp [intOf]; done) | (simp [intOf]; omega)⟩
theorem acc_cases (q : Nat) (hq : q ≤ 15) : (∃ ty n sg, acc (54 + (q : Int)) = (ty, n, sg, false)) ∨ ∃ ty sg, acc (54 + (q : Int)) = (ty, 1, sg, true) ∨ acc (54 + (q : Int)) = (ty, 2, sg, true) ∨ acc (54 + (q : Int)) = (ty, 4, sg, true) ∨ acc (54 + (q : Int)) = (ty, 8, sg, true) := by
  have hh : ∀ q : Nat, q < 16 → (acc (54 + (q : Int))).2.2.2 = false ∨ ((acc (54 + (q : Int))).2.2.2 = true ∧ ((acc (54 + (q : Int))).2.1 = 1 ∨ (acc (54 + (q : Int))).2.1 = 2 ∨ (acc (54 + (q : Int))).2.1 = 4 ∨ (acc (54 + (q : Int))).2.1 = 8)) := by decide
  rcases hh q (by omega) with h | ⟨h, h2⟩
  · rcases ha : acc (54 + (q : Int)) with ⟨ty, n, sg, st⟩
    rw [ha] at h
    obtain rfl : st = false := h
    exact .inl ⟨ty, n, sg, rfl⟩
  · rcases ha : acc (54 + (q : Int)) with ⟨ty, n, sg, st⟩
    rw [ha] at h h2
    obtain rfl : st = true := h
    refine .inr ⟨ty, sg, ?_⟩
    rcases h2 with h2 | h2 | h2 | h2
    · obtain rfl : n = 1 := h2; exact .inl rfl
    · obtain rfl : n = 2 := h2; exact .inr (.inl rfl)
    · obtain rfl : n = 4 := h2; exact .inr (.inr (.inl rfl))
    · obtain rfl : n = 8 := h2; exact .inr (.inr (.inr rfl))
theorem memoryBack (op base off v : Int) (fill : List Int) (Ab : Option Addr) (cb : Nat) (w : World) (hG : Globs w) (hC : Kd.C (Kd.int .u8) w Ab fill.length fill) (hcb : fill.length ≤ cb) (hfo : Oct fill) (hbl : (fill.length : Int) ≤ 9223372036854775807)
    (hb : 0 ≤ base ∧ base < 18446744073709551616) (ho : 0 ≤ off ∧ off < 18446744073709551616) (hv : 0 ≤ v ∧ v < 18446744073709551616) :
    Calls Tryd.prog 4 #[.int .i64 op, .int .u64 base, .int .u64 off, .int .u64 v, .slice Ab fill.length cb] w fun e w' => e = .returned (.bool true) ∧ Below w.heap.size w w' := by
  by_cases c0 : (300 : Int) < (fill.length : Int)
  · have HG := Aside0.mk hG
    clear hG hC
    have d0 : decide ((300 : Int) < (fill.length : Int)) = true := decide_eq_true c0
    have d0' : decide (300 < fill.length) = true := decide_eq_true (by omega)
    go_enter Tryd.func4, Tryd.ntmps4
    go_wp2_with (go_at_call 9; (with_reducible refine (awake _ HG.out).mono ?_); rintro e w1 ⟨rfl, hb⟩; have HB := Aside0.mk hb; clear hb)
    go_ret
    exact ⟨rfl, HB.out⟩
  · have hfl : fill.length ≤ 300 := by omega
    obtain ⟨q, hq, hq2⟩ := and_lowi op 15 (by decide)
    replace hq : bits .and .i64 op 15 = (q : Int) := hq
    have sp : ∀ n : Nat, (∀ a o : Nat, bits .and .u64 base 65535 = (a : Int) → bits .and .u64 off 255 = (o : Int) → a + o + n ≤ 65536) ∨ (∀ a o : Nat, bits .and .u64 base 65535 = (a : Int) → bits .and .u64 off 255 = (o : Int) → 65536 < a + o + n) := fun n => by
      obtain ⟨a, haa, _⟩ := and_low base 65535 hb (by decide)
      replace haa : bits .and .u64 base 65535 = (a : Int) := haa
      obtain ⟨o, hoo, _⟩ := and_low off 255 ho (by decide)
      replace hoo : bits .and .u64 off 255 = (o : Int) := hoo
      by_cases c : a + o + n ≤ 65536
      · exact .inl (fun a' o' h1 h2 => by rw [haa] at h1; rw [hoo] at h2; omega)
      · exact .inr (fun a' o' h1 h2 => by rw [haa] at h1; rw [hoo] at h2; omega)
    rcases acc_cases q hq2 with ⟨ty, n, sg, ha⟩ | ⟨ty, sg, ha | ha | ha | ha⟩
    · exact backOff op base off v fill Ab cb w hG hC hcb hfo hfl hb ho hv q hq hq2 ty n sg ha
    · rcases sp 1 with h | h
      · exact backOk1 op base off v fill Ab cb w hG hC hcb hfo hfl hb ho hv q hq hq2 ty sg ha h
      · exact backFar op base off v fill Ab cb w hG hC hcb hfo hfl hb ho hv q hq hq2 ty 1 sg ha (by decide) h
    · rcases sp 2 with h | h
      · exact backOk2 op base off v fill Ab cb w hG hC hcb hfo hfl hb ho hv q hq hq2 ty sg ha h
      · exact backFar op base off v fill Ab cb w hG hC hcb hfo hfl hb ho hv q hq hq2 ty 2 sg ha (by decide) h
    · rcases sp 4 with h | h
      · exact backOk4 op base off v fill Ab cb w hG hC hcb hfo hfl hb ho hv q hq hq2 ty sg ha h
      · exact backFar op base off v fill Ab cb w hG hC hcb hfo hfl hb ho hv q hq hq2 ty 4 sg ha (by decide) h
    · rcases sp 8 with h | h
      · exact backOk8 op base off v fill Ab cb w hG hC hcb hfo hfl hb ho hv q hq hq2 ty sg ha h
      · exact backFar op base off v fill Ab cb w hG hC hcb hfo hfl hb ho hv q hq hq2 ty 8 sg ha (by decide) h
def avocetlaw13_MemoryBack.f (a0 : Int) (a1 : Int) (a2 : Int) (a3 : Int) (l4 : List Int) : Option (Bool) := if okB l4 && okU a1 && okU a2 && okU a3 then some true else none
theorem avocetlaw13_MemoryBack.calls (a0 : Int) (a1 : Int) (a2 : Int) (a3 : Int) (A4 : Option Addr) (c4 : Nat) (l4 : List Int) (r : Bool) (w : World) (hG : Globs w) (hr4 : Kd.C (Kd.int .u8) w A4 l4.length l4) (hc4 : l4.length ≤ c4) (hr_ : r = true) (h : avocetlaw13_MemoryBack.f a0 a1 a2 a3 l4 = some r) :
    Calls Tryd.prog 4 #[.int .i64 a0, .int .u64 a1, .int .u64 a2, .int .u64 a3, .slice A4 l4.length c4] w fun e w' => e = .returned (.bool r) ∧ Below w.heap.size w w' := by
  subst hr_
  unfold avocetlaw13_MemoryBack.f at h
  split at h
  · rename_i hb
    simp only [Bool.and_eq_true] at hb
    obtain ⟨h1, h2⟩ := okB_iff.1 hb.1.1.1
    exact memoryBack a0 a1 a2 a3 l4 A4 c4 w hG hr4 hc4 h1 (by omega) (okU_iff.1 hb.1.1.2) (okU_iff.1 hb.1.2) (okU_iff.1 hb.2)
  · cases h
end Go.Proofs.YtffoolhfjomhhaaDoor.G

