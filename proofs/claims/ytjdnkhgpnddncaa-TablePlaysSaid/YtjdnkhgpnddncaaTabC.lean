/- Package table's tables: NewTab. -/
import Derived.Deep.RegionHeld3
import Derived.Test.YtjdnkhgpnddncaaTabB
import Derived.Test.YtjdnkhgpnddncaaBits
namespace Go.Proofs.Ytjdnkhgpnddncaa.G
open Go.RowKit Go.Proofs.YtjdnkhgpnddncaaW.PrintWords Go.Proofs.YtjdnkhgpnddncaaW.PrintLast Go.Proofs.YtjdnkhgpnddncaaW.PrintMore
attribute [local go_sem] max2_int min2_int max_two min_two max_three min_three max_four min_four   -- for this text's walks alone
set_option linter.unusedVariables false
set_option linter.unusedSimpArgs false
theorem make22 (n : Nat) (hn : n * 8 ≤ 281474976710656) (W : World) : (Instr.makeSlice 22 (.int .i64 (n : Int)) (.int .i64 (n : Int))).run Try.prog W = .ok (.slice (some ⟨W.heap.size, 0, none⟩) n n) (W.alloc (.cells (madeCells #[.int .i64 0] n) 3)) :=
  print_make_of (P := Try.prog) 22 3 (.int .i64 0) 8 Try.underlying22 (by kernel_rfl) rfl (by decide) n hn W
theorem made_list (n : Nat) : (madeCells #[.int .i64 0] n).toList = encs (Value.int .i64) (List.replicate n 0) := by
  apply List.ext_getElem
  · simp [madeCells, encs]
  · intro i h1 h2
    simp [madeCells, encs, Nat.mod_one]
theorem SB.made {w0 w : World} {n : Nat} {L : List As} (hS : SB w0 w L) (hn : n ≤ 281474976710656) : SB w0 (w.alloc (.cells (madeCells #[.int .i64 0] n) 3)) (Row (Kd.int .i64) 3 (.slice (some ⟨w.heap.size, 0, none⟩) n n) (List.replicate n 0) :: L) := by
  refine SB.new hS (w1 := w.alloc (.cells (madeCells #[.int .i64 0] n) 3)) (below_alloc (Below.refl _ _) _) (A := Row (Kd.int .i64) 3 (.slice (some ⟨w.heap.size, 0, none⟩) n n) (List.replicate n 0)) (F' := fun k => k = w.heap.size) ⟨?_, fun k hk => by rw [hk]; simp⟩ (fun k hk => by omega)
  refine Kd.R_of_own (h1 := fun _ => rfl) ?_ (fun k hk => by simp [Value.ownBlock] at hk; exact hk.symm)
  rw [List.length_replicate]
  refine ⟨by rw [encs_length, List.length_replicate, Nat.mul_one], .inr ⟨w.heap.size, n, _, rfl, Nat.zero_le _, heap_alloc_new w _, Nat.le_refl _, by unfold maxLen; omega, by simp [madeCells], ?_⟩⟩
  rw [made_list, List.take_of_length_le (by rw [encs_length, List.length_replicate]; omega)]
/-- q numbers x, then zeros. -/
def fil (N q : Nat) (x : Int) : List Int := List.replicate q x ++ List.replicate (N - q) 0
theorem fil_length {N q : Nat} {x : Int} (h : q ≤ N) : (fil N q x).length = N := by simp [fil]; omega
theorem fil_step {N q : Nat} {x : Int} (h : q ≤ N) : splice (fil N q x) q ((List.replicate q x).take (N - q)) = fil N (q + Nat.min q (N - q)) x := by
  unfold splice fil
  have h1 : (List.replicate q x ++ List.replicate (N - q) (0 : Int)).take q = List.replicate q x := by rw [List.take_append_of_le_length (by simp), List.take_of_length_le (by simp)]
  rw [h1, List.take_replicate, List.replicate_append_replicate, List.length_replicate, Nat.min_comm (N - q) q, List.drop_append, List.drop_of_length_le (by simp), List.nil_append, List.drop_replicate, List.length_replicate]
  congr 2
  show N - q - (q + min q (N - q) - q) = N - (q + min q (N - q))
  omega
theorem fil_first {N : Nat} {x : Int} : splice (List.replicate N 0) 0 ([x].take N) = fil N (Nat.min 1 N) x := by
  cases N with
  | zero => rfl
  | succ n => 
    have : Nat.min 1 (n + 1) = 1 := Nat.min_eq_left (by omega)
    rw [this]
    simp [splice, fil, List.replicate_succ]
theorem cut_hd (A : Option Addr) (c : Nat) (l : List Int) (t : Nat) (h : t ≤ l.length) (hc : l.length ≤ c) (W : World) : (Instr.slice 22 (.slice A l.length c) none (some (.int .i64 (t : Int))) none).run Try.prog W = .ok (.slice A t c) W := by
  obtain ⟨i0, hi0, _, hsz, _⟩ := info_parts (show (Try.prog.info? 3).map (fun i => (i.zero, i.size, i.bytes)) = some (some (.int .i64 0), 1, 8) by kernel_rfl)
  have h1 := (print_take_of (P := Try.prog) (Value.int .i64) 0 22 3 .i64 Try.underlying22 hi0 hsz A c l (t : Int) (by omega) (by omega) hc).1 W
  rw [Int.toNat_natCast, List.length_take, Nat.min_eq_left h] at h1
  exact h1
set_option maxRecDepth 100000 in
set_option maxHeartbeats 4000000 in
theorem repeatI {w0 w : World} {L : List As} (hS : SB w0 w L) (A : Option Addr) (x : Int) (N : Nat) (hC : Kd.C (Kd.int .i64) w A 1 [x]) (hN : N ≤ 1000000) :
    Calls Try.prog 26 #[.slice A 1 1, .int .i64 N] w fun e w' => ∃ g, e = .returned (.slice (some ⟨g, 0, none⟩) N N) ∧ SB w0 w' (Row (Kd.int .i64) 3 (.slice (some ⟨g, 0, none⟩) N N) (List.replicate N x) :: L) := by
  have HS := Aside0.mk hS
  have HC := Aside0.mk hC
  clear hS hC
  have d1 : decide ((N : Int) < 0) = false := decide_eq_false (by omega)
  have hmul : bits_Mul.f 1 (N : Int) = some (0, (N : Int)) := by
    have e1 : bits .and .u64 (N : Int) 4294967295 = (N : Int) := by
      have := and_mask N 32 4294967295 (by omega) (by decide) (by decide)
      rw [show ((4294967295 : Nat) : Int) = 4294967295 from rfl] at this
      rw [this, Nat.mod_eq_of_lt (by omega)]
    have e2 : bits .and .u64 1 4294967295 = 1 := by decide
    have e3 : (N : Int) / 4294967296 = 0 := by omega
    have e4 : bits .and .u64 0 4294967295 = 0 := by decide
    unfold bits_Mul.f bits_Mul64.f
    simp only [e1, e2, e3, wrap_u64_, show (1 : Int) / 4294967296 = 0 by decide, Int.zero_mul, Int.mul_zero, Int.one_mul, Int.add_zero, Int.zero_add, Int.zero_emod, Int.zero_ediv, Option.bind_some]
    have e5 : (N : Int) % 18446744073709551616 / 4294967296 = 0 := by omega
    rw [e5]
    simp only [Int.zero_emod, e4, Int.zero_add, Int.zero_ediv]
    congr 2
    omega
  have HMUL := Aside0.mk hmul
  have hmk := make22 N (by omega)
  have hwN : IntKind.u64.wrap (N : Int) = (N : Int) := by simp [IntKind.wrap, IntKind.signed, IntKind.bits]; omega
  have hwI : IntKind.i64.wrap (N : Int) = (N : Int) := by rw [IntKind.wrap_i64]; omega
  clear hmul
  go_enter Try.func26, Try.ntmps26
  obtain ⟨z, hz⟩ : ∃ z : List Int, z = List.replicate N 0 := ⟨_, rfl⟩
  have HZ := Aside0.mk (show z.length = N by rw [hz, List.length_replicate])
  have HF := Aside0.mk (show splice z 0 ([x].take N) = fil N (Nat.min 1 N) x by rw [hz]; exact fil_first)
  have HM := Aside0.mk (fun (W : World) (hb : Below w.heap.size w W) => (by have := (HS.out.below hb).made (n := N) (by omega); rw [← hz] at this; exact this))
  clear hz
  go_wp2_with (first
    | (go_at_call 40; (with_reducible refine (bits_Mul.calls 1 N _ _ _ HMUL.out).mono ?_); rintro e w' ⟨rfl, hd⟩; have HB1 := Aside0.mk (drawn_below hd); clear hd)
    | ((with_reducible refine gate_builtin (b := .copy) (xs := #[.tmp 31, .tmp 32]) rfl ?_); have hs1 := HM.out w' HB1.out; obtain ⟨F1, hF1, _⟩ := hs1.head; refine copy_into rfl (.tmp 31) (.tmp 32) 22 22 3 rfl Try.underlying22 size3 w'.heap.size N 0 N N 1 1 z [x] A F1 rfl rfl rfl (by rw [HZ.out]; exact hF1.1) (Kd.C_below (Kd.C_below HC.out HB1.out) (below_alloc (Below.refl _ _) _)) (by rw [HZ.out, Nat.zero_add]; exact Nat.min_le_right _ _) ?_; intro w2 hR2 hF2; rw [HF.out, HZ.out] at hR2; have HS2 := Aside0.mk (row_turned hs1 (fun ok hok => Kd.R_reok rfl hR2 (fun k_ e_ => hok.1 k_ e_)) hF2); clear hs1 hF1 hR2 hF2))
  go_loopw [8] (fun v8 wr => ∃ q : Nat, v8 = .int .i64 q ∧ q ≤ N ∧ (0 < N → 0 < q) ∧ Aside0 (SB w0 wr (Row (Kd.int .i64) 3 (.slice (some ⟨w'.heap.size, 0, none⟩) N N) (fil N q x) :: L))) (fun v8 _ => N - (intOf v8).toNat)
  case atStart => exact ⟨Nat.min 1 N, rfl, Nat.min_le_right _ _, fun h => by show 0 < min 1 N; omega, HS2⟩
  case round =>
    obtain ⟨q, rfl, hq, hq0, HW⟩ := hrel
    obtain ⟨g, hg⟩ : ∃ g, w'.heap.size = g := ⟨_, rfl⟩
    rw [hg] at HW
    by_cases hlt : q < N
    · have e1 : decide ((q : Int) < (N : Int)) = true := decide_eq_true (by omega)
      have e2 : decide (q < N) = true := decide_eq_true hlt
      have hfl := fil_length (x := x) hq
      have hp := hq0 (by omega)
      have hs2 : ∀ W : World, (Instr.slice 22 (.slice (some ⟨g, 0, none⟩) N N) none (some (.int .i64 (q : Int))) none).run Try.prog W = .ok (.slice (some ⟨g, 0, none⟩) q N) W := fun W => by
        have := cut_hd (some ⟨g, 0, none⟩) N (fil N q x) q (by omega) (by omega) W
        rw [hfl] at this
        exact this
      have hs1 : ∀ W : World, (Instr.slice 22 (.slice (some ⟨g, 0, none⟩) N N) (some (.int .i64 (q : Int))) none none).run Try.prog W = .ok (.slice (some ⟨g, q, none⟩) (N - q) (N - q)) W := fun W => by
        obtain ⟨A', h1, h2⟩ := cut_at (some ⟨g, 0, none⟩) N (fil N q x) q (by omega) (by omega)
        rw [h2 g rfl hlt, hfl] at h1
        exact h1 W
      obtain ⟨q2, hq2⟩ : ∃ q2, Nat.min q (N - q) = q2 := ⟨_, rfl⟩
      have hq2b : 0 < q2 ∧ q + q2 ≤ N := by
        rw [← hq2]
        show 0 < min q (N - q) ∧ q + min q (N - q) ≤ N
        omega
      have hwq : IntKind.i64.wrap ((q : Int) + (q2 : Int)) = (q : Int) + (q2 : Int) := by rw [IntKind.wrap_i64]; omega
      have HFS := Aside0.mk (fil_step (x := x) hq)
      have HFL := Aside0.mk hfl
      have HQ2 := Aside0.mk hq2
      have HTK := Aside0.mk (show (fil N q x).take q = List.replicate q x by unfold fil; rw [List.take_append_of_le_length (by simp), List.take_of_length_le (by simp)])
      clear hfl hq2
      go_wp2
      refine rg_start (n := 10) (S := fun _ => True) (bm 10 0) (by kernel_rfl) rfl (by kernel_rfl) (trivial) (fun hHeld => ?_)
      refine rg_take (i := 0) (N := some 38) (v := ?_) (a' := ?_) (bm 10 1) rfl rfl (by kernel_rfl) (fun _ _ _ h => h) hHeld (Or.inl ⟨by rfl, ?_⟩) ?_ ?_
      rotate_left
      · intro w' hw'
        go_simp
        with_reducible rfl
      rotate_left
      · simp only [Act.put, List.setIfInBounds_toArray, List.set_cons_zero, List.set_cons_succ]
        rfl
      refine rg_take (i := 1) (N := some 39) (v := ?_) (a' := ?_) (bm 10 3) rfl rfl (by kernel_rfl) (fun _ _ _ h => h) hHeld (Or.inl ⟨by rfl, ?_⟩) ?_ ?_
      rotate_left
      · intro w' hw'
        go_simp
        with_reducible rfl
      rotate_left
      · simp only [Act.put, List.setIfInBounds_toArray, List.set_cons_zero, List.set_cons_succ]
        rfl
      refine rg_take (i := 2) (N := some 40) (v := ?_) (a' := ?_) (bm 10 7) rfl rfl (by kernel_rfl) (fun _ _ _ h => h) hHeld (Or.inl ⟨by rfl, ?_⟩) ?_ ?_
      rotate_left
      · intro w' hw'
        go_simp
        with_reducible rfl
      rotate_left
      · simp only [Act.put, List.setIfInBounds_toArray, List.set_cons_zero, List.set_cons_succ]
        rfl
      refine rg_take (i := 3) (N := some 41) (v := ?_) (a' := ?_) (bm 10 15) rfl rfl (by kernel_rfl) (fun _ _ _ h => h) hHeld (Or.inl ⟨by rfl, ?_⟩) ?_ ?_
      rotate_left
      · intro w' hw'
        go_simp
        with_reducible rfl
      rotate_left
      · simp only [Act.put, List.setIfInBounds_toArray, List.set_cons_zero, List.set_cons_succ]
        rfl
      refine rg_take (i := 4) (N := some 42) (v := ?_) (a' := ?_) (bm 10 31) rfl rfl (by kernel_rfl) (fun _ _ _ h => h) hHeld (Or.inl ⟨by rfl, ?_⟩) ?_ ?_
      rotate_left
      · intro w' hw'
        go_simp
        with_reducible rfl
      rotate_left
      · simp only [Act.put, List.setIfInBounds_toArray, List.set_cons_zero, List.set_cons_succ]
        rfl
      refine rg_take (i := 5) (N := some 43) (v := ?_) (a' := ?_) (bm 10 63) rfl rfl (by kernel_rfl) (fun _ _ _ h => h) hHeld (Or.inl ⟨by rfl, ?_⟩) ?_ ?_
      rotate_left
      · intro w' hw'
        go_simp
        with_reducible rfl
      rotate_left
      · simp only [Act.put, List.setIfInBounds_toArray, List.set_cons_zero, List.set_cons_succ]
        rfl
      refine rg_take (i := 6) (N := some 44) (v := ?_) (a' := ?_) (bm 10 127) rfl rfl (by kernel_rfl) (fun _ _ _ h => h) hHeld (Or.inl ⟨by rfl, ?_⟩) ?_ ?_
      rotate_left
      · intro w' hw'
        go_simp
        with_reducible rfl
      rotate_left
      · simp only [Act.put, List.setIfInBounds_toArray, List.set_cons_zero, List.set_cons_succ]
        rfl
      refine rg_ready [7] (by kernel_rfl) (by simp) ?_
      refine rg_one (i := 7) (N := some 45) (bm 10 255) rfl rfl (by kernel_rfl) (fun K hK => ?_) rg_nil
      obtain ⟨F1, hF1, _⟩ := HW.out.drew.head
      refine copy_step (by rfl) rfl (.tmp 41) (.tmp 44) 22 22 3 rfl Try.underlying22 size3 g N q (N - q) (N - q) q N (fil N q x) (List.replicate q x) (some ⟨g, 0, none⟩) F1 rfl rfl (List.length_replicate ..) (by rw [HFL.out]; exact hF1.1) ?_ (by rw [HFL.out, HQ2.out]; exact hq2b.2) ?_
      · have h1 := Kd.C_take (m := q) (show Kd.C (Kd.int .i64) wr.drew (some ⟨g, 0, none⟩) (fil N q x).length (fil N q x) from (Kd.R_reads' hF1.1).2.2) (by rw [HFL.out]; omega)
        rw [HTK.out, List.length_replicate] at h1
        exact h1
      intro wx7r9 hR2 hF2
      rw [HFS.out, HFL.out, HQ2.out] at hR2
      rw [HQ2.out]
      have HS3 := Aside0.mk (row_turned HW.out.drew (fun ok hok => Kd.R_reok rfl hR2 (fun k_ e_ => hok.1 k_ e_)) hF2)
      clear hF1 hR2 hF2
      have hnew := trivial
      refine hK.out _ _ hnew ?_
      clear hK K
      refine rg_norm (a' := ?_) ?_ ?_
      rotate_left
      · simp only [Act.put, List.setIfInBounds_toArray, List.set_cons_zero, List.set_cons_succ]
        rfl
      clear hHeld
      have hHeld := hnew
      clear hnew
      refine rg_take (i := 8) (N := some 46) (v := ?_) (a' := ?_) (bm 10 511) rfl rfl (by kernel_rfl) (fun _ _ _ h => h) hHeld (Or.inl ⟨by rfl, ?_⟩) ?_ ?_
      rotate_left
      · intro w' hw'
        go_simp
        with_reducible rfl
      rotate_left
      · simp only [Act.put, List.setIfInBounds_toArray, List.set_cons_zero, List.set_cons_succ]
        rfl
      refine rg_take (i := 9) (N := some 8) (v := ?_) (a' := ?_) (bm 10 1023) rfl rfl (by kernel_rfl) (fun _ _ _ h => h) hHeld (Or.inl ⟨by rfl, ?_⟩) ?_ ?_
      rotate_left
      · intro w' hw'
        go_simp
        with_reducible rfl
      rotate_left
      · simp only [Act.put, List.setIfInBounds_toArray, List.set_cons_zero, List.set_cons_succ]
        rfl
      refine rg_done (by kernel_rfl) ?_
      go_wp2
      rw [hg]
      exact ⟨⟨q + q2, by simp, by omega, fun _ => by omega, HS3⟩, by simp [intOf]; omega⟩
    · have e1 : decide ((q : Int) < (N : Int)) = false := decide_eq_false (by omega)
      have e2 : decide (q < N) = false := decide_eq_false hlt
      obtain rfl : q = N := by omega
      go_wp2
      go_ret
      refine ⟨_, rfl, ?_⟩
      have h := HW.out
      unfold fil at h
      rw [Nat.sub_self, List.replicate_zero, List.append_nil, ← hg] at h
      exact h
/-- Why there is no such table; 0: there is one. -/
def tBad (lo hi : Int) (has : Bool) : Int := if lo < 0 ∨ (has = true ∧ hi < lo) ∨ (has = false ∧ hi ≠ 0) then 1 else if 256 < lo then 4 else 0
set_option maxRecDepth 100000 in
set_option maxHeartbeats 4000000 in
theorem newTabOk {w0 w : World} {L : List As} (hS : SB w0 w L) (lo : Nat) (hi : Int) (has : Bool) (h : tBad lo hi has = 0) :
    Calls Try.prog 9 #[.agg #[.int .i64 lo, .int .i64 hi, .bool has]] w fun e w' => ∃ p, e = .returned (.tuple #[.pointer (some ⟨p, 0, none⟩), .int .i64 0]) ∧ SB w0 w' (TO p ⟨List.replicate lo (-1), lo, hi, has⟩ :: L) := by
  have hlo : (lo : Int) ≤ 256 := by
    unfold tBad at h
    split at h
    · cases h
    · split at h
      · cases h
      · omega
  have hbad : ¬ ((lo : Int) < 0 ∨ (has = true ∧ hi < lo) ∨ (has = false ∧ hi ≠ 0)) := by
    intro hh
    unfold tBad at h
    rw [if_pos hh] at h
    cases h
  have d0 : decide ((lo : Int) < 0) = false := decide_eq_false (by omega)
  have d4 : decide (256 < (lo : Int)) = false := decide_eq_false (by omega)
  have d4' : decide (256 < lo) = false := decide_eq_false (by omega)
  have HB0 := Aside0.mk ((hS.box #[.int .i64 lo, .int .i64 hi, .bool has] 29).box #[.int .i64 lo, .int .i64 0, .bool false] 29)
  have HS := Aside0.mk hS
  clear hS h
  cases has with
  | false =>
    have h0 : hi = 0 := by
      by_cases e : hi = 0
      · exact e
      · exact absurd (.inr (.inr ⟨rfl, e⟩)) hbad
    subst h0
    clear hbad
    go_enter Try.func9, Try.ntmps9
    go_wp2
    refine rg_startL (n := 10) (S := fun w' => SB w0 w' (Box (w.alloc (.cells #[.int .i64 lo, .int .i64 0, .bool false] 29)).heap.size #[.int .i64 lo, .int .i64 0, .bool false] 29 :: Box w.heap.size #[.int .i64 lo, .int .i64 0, .bool false] 29 :: L)) (bm 10 0) (by kernel_rfl) rfl (by kernel_rfl) (HB0.out.drew) (fun wd hwd hHeld => ?_)
    refine rg_take (i := 1) (N := some 38) (v := ?_) (a' := ?_) (bm 10 2) rfl rfl (by kernel_rfl) (fun _ _ _ h => h) hHeld (Or.inl ⟨by rfl, ?_⟩) ?_ ?_
    rotate_left
    · intro w' hw'
      have hbx := SB.boxAt w.heap.size 29 hw'
      have s0 := blk_cell hbx 0
      have s1 := blk_cell hbx 1
      have s2 := blk_cell hbx 2
      go_simp
      with_reducible rfl
    rotate_left
    · simp only [Act.put, List.setIfInBounds_toArray, List.set_cons_zero, List.set_cons_succ]
      rfl
    refine rg_take (i := 2) (N := some 39) (v := ?_) (a' := ?_) (bm 10 6) rfl rfl (by kernel_rfl) (fun _ _ _ h => h) hHeld (Or.inl ⟨by rfl, ?_⟩) ?_ ?_
    rotate_left
    · intro w' hw'
      have hbx := SB.boxAt w.heap.size 29 hw'
      have s0 := blk_cell hbx 0
      have s1 := blk_cell hbx 1
      have s2 := blk_cell hbx 2
      go_simp
      with_reducible rfl
    rotate_left
    · simp only [Act.put, List.setIfInBounds_toArray, List.set_cons_zero, List.set_cons_succ]
      rfl
    refine rg_take (i := 5) (N := some 42) (v := ?_) (a' := ?_) (bm 10 38) rfl rfl (by kernel_rfl) (fun _ _ _ h => h) hHeld (Or.inl ⟨by rfl, ?_⟩) ?_ ?_
    rotate_left
    · intro w' hw'
      have hbx := SB.boxAt w.heap.size 29 hw'
      have s0 := blk_cell hbx 0
      have s1 := blk_cell hbx 1
      have s2 := blk_cell hbx 2
      go_simp
      with_reducible rfl
    rotate_left
    · simp only [Act.put, List.setIfInBounds_toArray, List.set_cons_zero, List.set_cons_succ]
      rfl
    refine rg_ready [0] (by kernel_rfl) (by simp) ?_
    refine rg_one (i := 0) (N := some 37) (bm 10 39) rfl rfl (by kernel_rfl) (fun K hK => ?_) rg_nil
    refine valueL_ (w1 := ?_) (v := ?_) (by rfl) rfl ?_ ?_
    rotate_left 2
    · go_simp
      constructor
      · rfl
      · rfl
    intro wx0r6 hwwx0r6
    have hnew := SB.lit (k := .i64) (e := 3) hHeld [-1] (by decide)
    replace hnew : SB w0 wx0r6 _ := hwwx0r6 ▸ hnew
    clear hwwx0r6
    refine hK.out _ _ hnew.drop ?_
    clear hK K
    refine rg_norm (a' := ?_) ?_ ?_
    rotate_left
    · simp only [Act.put, List.setIfInBounds_toArray, List.set_cons_zero, List.set_cons_succ]
      rfl
    refine rg_sb hnew ?_
    clear hHeld
    have hHeld := hnew
    clear hnew
    refine rg_ready [3] (by kernel_rfl) (by simp) ?_
    refine rg_one (i := 3) (N := some 40) (bm 10 47) rfl rfl (by kernel_rfl) (fun K hK => ?_) rg_nil
    go_simp
    go_at_call 26
    obtain ⟨A3, c3, he3, _, hC3⟩ := hHeld.reads
    injection he3 with ea _ _
    subst ea
    with_reducible refine (repeatI hHeld _ (-1) lo hC3 (by omega)).mono ?_
    clear hC3
    rintro e wx0x3r6 ⟨g, rfl, hnew⟩
    go_wp2_with fail
    refine hK.out _ _ hnew.drop ?_
    clear hK K
    refine rg_norm (a' := ?_) ?_ ?_
    rotate_left
    · simp only [Act.put, List.setIfInBounds_toArray, List.set_cons_zero, List.set_cons_succ]
      rfl
    refine rg_sb hnew ?_
    clear hHeld
    have hHeld := hnew
    clear hnew
    refine rg_take (i := 4) (N := some 41) (v := ?_) (a' := ?_) (bm 10 63) rfl rfl (by kernel_rfl) (fun _ _ _ h => h) hHeld (Or.inl ⟨by rfl, ?_⟩) ?_ ?_
    rotate_left
    · intro w' hw'
      have hbx := SB.boxAt w.heap.size 29 hw'
      have s0 := blk_cell hbx 0
      have s1 := blk_cell hbx 1
      have s2 := blk_cell hbx 2
      go_simp
      with_reducible rfl
    rotate_left
    · simp only [Act.put, List.setIfInBounds_toArray, List.set_cons_zero, List.set_cons_succ]
      rfl
    refine rg_take (i := 6) (N := some 43) (v := ?_) (a' := ?_) (bm 10 127) rfl rfl (by kernel_rfl) (fun _ _ _ h => h) hHeld (Or.inl ⟨by rfl, ?_⟩) ?_ ?_
    rotate_left
    · intro w' hw'
      have hbx := SB.boxAt w.heap.size 29 hw'
      have s0 := blk_cell hbx 0
      have s1 := blk_cell hbx 1
      have s2 := blk_cell hbx 2
      go_simp
      with_reducible rfl
    rotate_left
    · simp only [Act.put, List.setIfInBounds_toArray, List.set_cons_zero, List.set_cons_succ]
      rfl
    refine rg_ready [7] (by kernel_rfl) (by simp) ?_
    refine rg_one (i := 7) (N := some 44) (bm 10 255) rfl rfl (by kernel_rfl) (fun K hK => ?_) rg_nil
    refine valueL_ (w1 := ?_) (v := ?_) (by rfl) rfl ?_ ?_
    rotate_left 2
    · go_simp
      constructor
      · rfl
      · rfl
    intro wx0x3x7r6 hwwx0x3x7r6
    have HS7 := Aside0.mk (hHeld.wrap (t := 76) [.int .i64 lo, .int .i64 0, .bool false])
    have hnew := hHeld.alloc (.cells #[.slice (some ⟨g, 0, none⟩) lo lo, .int .i64 lo, .int .i64 0, .bool false] 76)
    replace hnew : SB w0 wx0x3x7r6 _ := hwwx0x3x7r6 ▸ hnew
    have HS8 : Aside0 (SB w0 wx0x3x7r6 _) := ⟨hwwx0x3x7r6 ▸ HS7.out⟩
    clear hwwx0x3x7r6
    refine hK.out _ _ hnew ?_
    clear hK K
    refine rg_norm (a' := ?_) ?_ ?_
    rotate_left
    · simp only [Act.put, List.setIfInBounds_toArray, List.set_cons_zero, List.set_cons_succ]
      rfl
    clear hHeld
    have hHeld := hnew
    clear hnew
    refine rg_take (i := 8) (N := some 2) (v := ?_) (a' := ?_) (bm 10 511) rfl rfl (by kernel_rfl) (fun _ _ _ h => h) hHeld (Or.inl ⟨by rfl, ?_⟩) ?_ ?_
    rotate_left
    · intro w' hw'
      have hbx := SB.boxAt w.heap.size 29 hw'
      have s0 := blk_cell hbx 0
      have s1 := blk_cell hbx 1
      have s2 := blk_cell hbx 2
      go_simp
      with_reducible rfl
    rotate_left
    · simp only [Act.put, List.setIfInBounds_toArray, List.set_cons_zero, List.set_cons_succ]
      rfl
    refine rg_take (i := 9) (N := some 3) (v := ?_) (a' := ?_) (bm 10 1023) rfl rfl (by kernel_rfl) (fun _ _ _ h => h) hHeld (Or.inl ⟨by rfl, ?_⟩) ?_ ?_
    rotate_left
    · intro w' hw'
      have hbx := SB.boxAt w.heap.size 29 hw'
      have s0 := blk_cell hbx 0
      have s1 := blk_cell hbx 1
      have s2 := blk_cell hbx 2
      go_simp
      with_reducible rfl
    rotate_left
    · simp only [Act.put, List.setIfInBounds_toArray, List.set_cons_zero, List.set_cons_succ]
      rfl
    refine rg_done (by kernel_rfl) ?_
    go_wp2
    go_ret2
    exact ⟨_, rfl, HS8.out.swap.drop.swap.drop.swap.drop⟩
  | true =>
    have d1 : decide (hi < (lo : Int)) = false := decide_eq_false (fun e => hbad (.inr (.inl ⟨rfl, e⟩)))
    clear hbad
    go_enter Try.func9, Try.ntmps9
    go_wp2
    refine rg_startL (n := 10) (S := fun w' => SB w0 w' (Box (w.alloc (.cells #[.int .i64 lo, .int .i64 hi, .bool true] 29)).heap.size #[.int .i64 lo, .int .i64 0, .bool false] 29 :: Box w.heap.size #[.int .i64 lo, .int .i64 hi, .bool true] 29 :: L)) (bm 10 0) (by kernel_rfl) rfl (by kernel_rfl) (HB0.out.drew) (fun wd hwd hHeld => ?_)
    refine rg_take (i := 1) (N := some 38) (v := ?_) (a' := ?_) (bm 10 2) rfl rfl (by kernel_rfl) (fun _ _ _ h => h) hHeld (Or.inl ⟨by rfl, ?_⟩) ?_ ?_
    rotate_left
    · intro w' hw'
      have hbx := SB.boxAt w.heap.size 29 hw'
      have s0 := blk_cell hbx 0
      have s1 := blk_cell hbx 1
      have s2 := blk_cell hbx 2
      go_simp
      with_reducible rfl
    rotate_left
    · simp only [Act.put, List.setIfInBounds_toArray, List.set_cons_zero, List.set_cons_succ]
      rfl
    refine rg_take (i := 2) (N := some 39) (v := ?_) (a' := ?_) (bm 10 6) rfl rfl (by kernel_rfl) (fun _ _ _ h => h) hHeld (Or.inl ⟨by rfl, ?_⟩) ?_ ?_
    rotate_left
    · intro w' hw'
      have hbx := SB.boxAt w.heap.size 29 hw'
      have s0 := blk_cell hbx 0
      have s1 := blk_cell hbx 1
      have s2 := blk_cell hbx 2
      go_simp
      with_reducible rfl
    rotate_left
    · simp only [Act.put, List.setIfInBounds_toArray, List.set_cons_zero, List.set_cons_succ]
      rfl
    refine rg_take (i := 5) (N := some 42) (v := ?_) (a' := ?_) (bm 10 38) rfl rfl (by kernel_rfl) (fun _ _ _ h => h) hHeld (Or.inl ⟨by rfl, ?_⟩) ?_ ?_
    rotate_left
    · intro w' hw'
      have hbx := SB.boxAt w.heap.size 29 hw'
      have s0 := blk_cell hbx 0
      have s1 := blk_cell hbx 1
      have s2 := blk_cell hbx 2
      go_simp
      with_reducible rfl
    rotate_left
    · simp only [Act.put, List.setIfInBounds_toArray, List.set_cons_zero, List.set_cons_succ]
      rfl
    refine rg_ready [0] (by kernel_rfl) (by simp) ?_
    refine rg_one (i := 0) (N := some 37) (bm 10 39) rfl rfl (by kernel_rfl) (fun K hK => ?_) rg_nil
    refine valueL_ (w1 := ?_) (v := ?_) (by rfl) rfl ?_ ?_
    rotate_left 2
    · go_simp
      constructor
      · rfl
      · rfl
    intro wx0r6 hwwx0r6
    have hnew := SB.lit (k := .i64) (e := 3) hHeld [-1] (by decide)
    replace hnew : SB w0 wx0r6 _ := hwwx0r6 ▸ hnew
    clear hwwx0r6
    refine hK.out _ _ hnew.drop ?_
    clear hK K
    refine rg_norm (a' := ?_) ?_ ?_
    rotate_left
    · simp only [Act.put, List.setIfInBounds_toArray, List.set_cons_zero, List.set_cons_succ]
      rfl
    refine rg_sb hnew ?_
    clear hHeld
    have hHeld := hnew
    clear hnew
    refine rg_ready [3] (by kernel_rfl) (by simp) ?_
    refine rg_one (i := 3) (N := some 40) (bm 10 47) rfl rfl (by kernel_rfl) (fun K hK => ?_) rg_nil
    go_simp
    go_at_call 26
    obtain ⟨A3, c3, he3, _, hC3⟩ := hHeld.reads
    injection he3 with ea _ _
    subst ea
    with_reducible refine (repeatI hHeld _ (-1) lo hC3 (by omega)).mono ?_
    clear hC3
    rintro e wx0x3r6 ⟨g, rfl, hnew⟩
    go_wp2_with fail
    refine hK.out _ _ hnew.drop ?_
    clear hK K
    refine rg_norm (a' := ?_) ?_ ?_
    rotate_left
    · simp only [Act.put, List.setIfInBounds_toArray, List.set_cons_zero, List.set_cons_succ]
      rfl
    refine rg_sb hnew ?_
    clear hHeld
    have hHeld := hnew
    clear hnew
    refine rg_take (i := 4) (N := some 41) (v := ?_) (a' := ?_) (bm 10 63) rfl rfl (by kernel_rfl) (fun _ _ _ h => h) hHeld (Or.inl ⟨by rfl, ?_⟩) ?_ ?_
    rotate_left
    · intro w' hw'
      have hbx := SB.boxAt w.heap.size 29 hw'
      have s0 := blk_cell hbx 0
      have s1 := blk_cell hbx 1
      have s2 := blk_cell hbx 2
      go_simp
      with_reducible rfl
    rotate_left
    · simp only [Act.put, List.setIfInBounds_toArray, List.set_cons_zero, List.set_cons_succ]
      rfl
    refine rg_take (i := 6) (N := some 43) (v := ?_) (a' := ?_) (bm 10 127) rfl rfl (by kernel_rfl) (fun _ _ _ h => h) hHeld (Or.inl ⟨by rfl, ?_⟩) ?_ ?_
    rotate_left
    · intro w' hw'
      have hbx := SB.boxAt w.heap.size 29 hw'
      have s0 := blk_cell hbx 0
      have s1 := blk_cell hbx 1
      have s2 := blk_cell hbx 2
      go_simp
      with_reducible rfl
    rotate_left
    · simp only [Act.put, List.setIfInBounds_toArray, List.set_cons_zero, List.set_cons_succ]
      rfl
    refine rg_ready [7] (by kernel_rfl) (by simp) ?_
    refine rg_one (i := 7) (N := some 44) (bm 10 255) rfl rfl (by kernel_rfl) (fun K hK => ?_) rg_nil
    refine valueL_ (w1 := ?_) (v := ?_) (by rfl) rfl ?_ ?_
    rotate_left 2
    · go_simp
      constructor
      · rfl
      · rfl
    intro wx0x3x7r6 hwwx0x3x7r6
    have HS7 := Aside0.mk (hHeld.wrap (t := 76) [.int .i64 lo, .int .i64 hi, .bool true])
    have hnew := hHeld.alloc (.cells #[.slice (some ⟨g, 0, none⟩) lo lo, .int .i64 lo, .int .i64 hi, .bool true] 76)
    replace hnew : SB w0 wx0x3x7r6 _ := hwwx0x3x7r6 ▸ hnew
    have HS8 : Aside0 (SB w0 wx0x3x7r6 _) := ⟨hwwx0x3x7r6 ▸ HS7.out⟩
    clear hwwx0x3x7r6
    refine hK.out _ _ hnew ?_
    clear hK K
    refine rg_norm (a' := ?_) ?_ ?_
    rotate_left
    · simp only [Act.put, List.setIfInBounds_toArray, List.set_cons_zero, List.set_cons_succ]
      rfl
    clear hHeld
    have hHeld := hnew
    clear hnew
    refine rg_take (i := 8) (N := some 2) (v := ?_) (a' := ?_) (bm 10 511) rfl rfl (by kernel_rfl) (fun _ _ _ h => h) hHeld (Or.inl ⟨by rfl, ?_⟩) ?_ ?_
    rotate_left
    · intro w' hw'
      have hbx := SB.boxAt w.heap.size 29 hw'
      have s0 := blk_cell hbx 0
      have s1 := blk_cell hbx 1
      have s2 := blk_cell hbx 2
      go_simp
      with_reducible rfl
    rotate_left
    · simp only [Act.put, List.setIfInBounds_toArray, List.set_cons_zero, List.set_cons_succ]
      rfl
    refine rg_take (i := 9) (N := some 3) (v := ?_) (a' := ?_) (bm 10 1023) rfl rfl (by kernel_rfl) (fun _ _ _ h => h) hHeld (Or.inl ⟨by rfl, ?_⟩) ?_ ?_
    rotate_left
    · intro w' hw'
      have hbx := SB.boxAt w.heap.size 29 hw'
      have s0 := blk_cell hbx 0
      have s1 := blk_cell hbx 1
      have s2 := blk_cell hbx 2
      go_simp
      with_reducible rfl
    rotate_left
    · simp only [Act.put, List.setIfInBounds_toArray, List.set_cons_zero, List.set_cons_succ]
      rfl
    refine rg_done (by kernel_rfl) ?_
    go_wp2
    go_ret2
    exact ⟨_, rfl, HS8.out.swap.drop.swap.drop.swap.drop⟩
set_option maxRecDepth 100000 in
set_option maxHeartbeats 4000000 in
theorem newTabNo (lo hi : Int) (has : Bool) (w : World) (hlo : okI lo) (hhi : okI hi) (h : tBad lo hi has ≠ 0) :
    Calls Try.prog 9 #[.agg #[.int .i64 lo, .int .i64 hi, .bool has]] w fun e w' => e = .returned (.tuple #[.pointer none, .int .i64 (tBad lo hi has)]) ∧ Below w.heap.size w w' := by
  by_cases c0 : lo < 0
  · have d0 : decide (lo < 0) = true := decide_eq_true c0
    have hr : tBad lo hi has = 1 := if_pos (.inl c0)
    rw [hr]
    go_enter Try.func9, Try.ntmps9
    go_wp2
    go_ret2
    exact ⟨rfl, by repeat (first | exact Below.refl _ _ | apply below_alloc)⟩
  · have d0 : decide (lo < 0) = false := decide_eq_false c0
    cases has with
    | true =>
      by_cases c1 : hi < lo
      · have d1 : decide (hi < lo) = true := decide_eq_true c1
        have hr : tBad lo hi true = 1 := if_pos (.inr (.inl ⟨rfl, c1⟩))
        rw [hr]
        go_enter Try.func9, Try.ntmps9
        go_wp2
        go_ret2
        exact ⟨rfl, by repeat (first | exact Below.refl _ _ | apply below_alloc)⟩
      · have d1 : decide (hi < lo) = false := decide_eq_false c1
        have hno : ¬ (lo < 0 ∨ (true = true ∧ hi < lo) ∨ (true = false ∧ hi ≠ 0)) := by
          rintro (h | ⟨_, h⟩ | ⟨h, _⟩)
          · exact c0 h
          · exact c1 h
          · cases h
        have hr0 : tBad lo hi true = if 256 < lo then 4 else 0 := if_neg hno
        by_cases c3 : 256 < lo
        · have d3 : decide (256 < lo) = true := decide_eq_true c3
          have hr : tBad lo hi true = 4 := hr0.trans (if_pos c3)
          rw [hr]
          go_enter Try.func9, Try.ntmps9
          go_wp2
          go_ret2
          exact ⟨rfl, by repeat (first | exact Below.refl _ _ | apply below_alloc)⟩
        · exact absurd (hr0.trans (if_neg c3)) h
    | false =>
      by_cases c2 : hi = 0
      · subst c2
        have hno : ¬ (lo < 0 ∨ (false = true ∧ (0 : Int) < lo) ∨ (false = false ∧ (0 : Int) ≠ 0)) := by
          rintro (h | ⟨h, _⟩ | ⟨_, h⟩)
          · exact c0 h
          · cases h
          · exact h rfl
        have hr0 : tBad lo 0 false = if 256 < lo then 4 else 0 := if_neg hno
        by_cases c3 : 256 < lo
        · have d3 : decide (256 < lo) = true := decide_eq_true c3
          have hr : tBad lo 0 false = 4 := hr0.trans (if_pos c3)
          rw [hr]
          go_enter Try.func9, Try.ntmps9
          go_wp2
          go_ret2
          exact ⟨rfl, by repeat (first | exact Below.refl _ _ | apply below_alloc)⟩
        · exact absurd (hr0.trans (if_neg c3)) h
      · have d2 : (hi == 0) = false := beq_eq_false_iff_ne.2 c2
        have d3 : (hi != 0) = true := bne_iff_ne.2 c2
        have hr : tBad lo hi false = 1 := if_pos (.inr (.inr ⟨rfl, c2⟩))
        rw [hr]
        go_enter Try.func9, Try.ntmps9
        go_wp2
        go_ret2
        exact ⟨rfl, by repeat (first | exact Below.refl _ _ | apply below_alloc)⟩
end Go.Proofs.Ytjdnkhgpnddncaa.G

