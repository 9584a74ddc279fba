/- The document's stacks: Load; frames from the document's. -/
import Derived.Deep.DeepMust
import Derived.Test.YtbbgkelcdooabaaFraZ
import Derived.Test.YtbbgkelcdooabaaG4
namespace Go.Proofs.Ytbbgkelcdooabaa.G
open Go.RowKit Go.Proofs.YtbbgkelcdooabaaW.PrintWords Go.Proofs.YtbbgkelcdooabaaW.PrintLast Go.Proofs.YtbbgkelcdooabaaW.PrintMore
set_option linter.unusedVariables false
set_option linter.unusedSimpArgs false
/-- A document's frame as the program's. -/
def ou (x : S61) : S58 := ⟨x.f0, x.f1, x.f2, x.f3⟩
theorem ours_l0 (l : List S61) (hl : l.length ≤ 1000000000) : ∀ (k i : Nat), i ≤ l.length → l.length < i + k → avocetlaw17_ours.l0 k l ((l.take i).map ou) i = some (l.map ou)
  | 0, i, h1, h => by omega
  | k + 1, i, h1, h => by
    unfold avocetlaw17_ours.l0
    by_cases hi : (i : Int) < (l.length : Int)
    · have hil : i < l.length := by omega
      rw [if_pos hi, if_pos (by omega), if_pos (by simp; omega), rd61 hil, wrap64_id (by omega) (by omega)]
      have e : (l.take i).map ou ++ [(⟨l[i].f0, l[i].f1, l[i].f2, l[i].f3⟩ : S58)] = (l.take (i + 1)).map ou := by rw [List.take_succ_eq_append_getElem hil, List.map_append]; rfl
      rw [e]
      exact ours_l0 l hl k (i + 1) (by omega) (by omega)
    · rw [if_neg hi, List.take_of_length_le (by omega)]
theorem ours_f (l : List S61) (hl : l.length ≤ 1000000000) : avocetlaw17_ours.f (l.length + 1) l = some (l.map ou) := ours_l0 l hl _ 0 (by omega) (by omega)
theorem heap61 : Kd.Heap k61 := Kd.heap_iso _ (Kd.heap_pair (Kd.heap_int _) (Kd.heap_pair (Kd.heap_int _) (Kd.heap_pair (Kd.heap_slice _ (Kd.heap_int _)) (Kd.heap_int _))))
theorem frOurs {w0 w : World} {L : List As} (HS : SB w0 w L) (A : Option Addr) (n c : Nat) (xs : List S61) (hn : xs.length = n) (hC : Kd.C k61 w0 A n xs) (hc : n ≤ c) (hl : n ≤ 1000000) :
    Calls Try.prog 30 #[.slice A n c] w fun e w' => ∃ A' c', e = .returned (.slice A' n c') ∧ n ≤ c' ∧ SB w0 w' (RdA w0 k58 A' n (xs.map ou) :: L) := by
  subst hn
  have hF := Kd.F_below (Kd.C_F heap61 hC) HS.bel
  have hV := Kd.V_mk (e := 61) (base := w.heap.size) hc hF
  refine (avocetlaw17_ours.calls _ (fun k => k < w0.heap.size) A c xs _ w hV (ours_f xs (by omega))).mono ?_
  rintro e w' ⟨v0, rfl, hN, hb⟩
  obtain ⟨A1, c1, rfl, hc1, hC1⟩ := Kd.N_reads hN
  have hf := Kd.F_bound (Kd.N_F hN)
  rw [List.length_map] at hc1 hf ⊢
  refine ⟨A1, c1, rfl, hc1, HS.new hb (A := RdA w0 k58 A1 xs.length (xs.map ou)) (F' := fun k => w.heap.size ≤ k ∧ k < w'.heap.size) ⟨fun W h1 h2 => hf W (fun k hk _ => ?_), fun k hk => hk.2⟩ (fun k hk => hk.1)⟩
  rcases hk.1 with h | h
  · rw [h2 k h]
    have e1 := HS.bel.block k h
    have e2 := hb.block k (Nat.lt_of_lt_of_le h HS.size)
    rw [e2, e1]
  · exact h1 k ⟨h, hk.2⟩
theorem fs_eta (t : FS) : (⟨t.v, t.fr, t.room⟩ : FS) = t := by cases t; rfl
set_option maxHeartbeats 8000000 in
theorem xLoad {w0 w : World} {L : List As} {g : Nat} {t : FS} {A Av : Option Addr} {n m c cv : Nat} {fr : List S61} {vals : List Int} (hS : SB w0 w (XO g t :: L)) (hC : Kd.C k61 w0 A n fr) (hCv : Kd.C (Kd.int .u64) w0 Av m vals) (hn : fr.length = n) (hm : vals.length = m) (hc : n ≤ c) (hcv : m ≤ cv) (hM : n ≤ 1000000) (hMv : m ≤ 1000000) (hr0 : t.room ≤ 64) (hl : ∀ x ∈ fr, x.f2.length ≤ 1000000)
    {t' : FS} {r : Bool} (hr : fLoad t (fr.map ou) vals = (t', r)) :
    Calls Try.prog 31 #[.pointer (some ⟨g, 0, none⟩), .slice A n c, .slice Av m cv] w fun e w' => e = .returned (.bool r) ∧ SB w0 w' (XO g t' :: L) := by
  have HC := Aside0.mk hC
  have HCv := Aside0.mk hCv
  have HS := Aside0.mk hS
  have HN := Aside0.mk hn
  have HM := Aside0.mk hm
  clear hS hn hm hC hCv
  unfold fLoad at hr
  rw [List.length_map, HN.out, HM.out] at hr
  have HR := Aside0.mk hr
  clear hr
  go_enter Try.func31, Try.ntmps31
  go_wp2
  go_loopw [7, 8] (fun v7 v8 wr => ∃ (i : Nat) (last : Int), v8 = .int .i64 i ∧ v7 = .int .i64 last ∧ i ≤ n ∧ Aside0 (okB (m : Int) 0 (fr.map ou) = okB (m : Int) last ((fr.map ou).drop i)) ∧ Aside0 (SB w0 wr (XO g t :: L))) (fun _ v8 _ => n - (intOf v8).toNat)
  case atStart => exact ⟨0, 0, rfl, rfl, Nat.zero_le _, ⟨rfl⟩, HS⟩
  case round =>
    obtain ⟨i, last, rfl, rfl, hi, HO, HW⟩ := hrel
    by_cases hlt : i < n
    · have e1 : decide ((i : Int) < (n : Int)) = true := decide_eq_true (by omega)
      have e2 : decide (i < n) = true := decide_eq_true hlt
      have hil : i < fr.length := by rw [HN.out]; exact hlt
      obtain ⟨x, hx⟩ : ∃ x, fr[i] = x := ⟨_, rfl⟩
      have HD := HO.out
      rw [List.drop_eq_getElem_cons (by rw [List.length_map]; exact hil), List.getElem_map, hx, okB_cons] at HD
      have hat := at_T61 (Kd.C_below HC.out HW.out.bel) (i : Int) (by omega) (by omega)
      rw [rd61 hil, hx, Int.toNat_natCast] at hat
      obtain ⟨ad, A2, c2, rfl, q0, q1, q2, q3, l2, g2⟩ := hat
      clear g2 hx q0 q1 q2
      have hou : (ou x).f3 = x.f3 := rfl
      rw [hou] at HD
      clear hou
      by_cases hb1 : x.f3 < last
      · rw [if_pos hb1] at HD
        have e3 : decide (x.f3 < last) = true := decide_eq_true hb1
        have HR2 := HR.out
        rw [HD, if_neg (show ¬ (false = true) by simp), ite_self] at HR2
        simp only [Prod.mk.injEq] at HR2
        obtain ⟨rfl, rfl⟩ := HR2
        go_wp2
        go_ret
        exact ⟨rfl, HW.out⟩
      · have e3 : decide (x.f3 < last) = false := decide_eq_false hb1
        rw [if_neg hb1] at HD
        by_cases hb2 : (m : Int) < x.f3
        · rw [if_pos hb2] at HD
          have e4 : decide ((m : Int) < x.f3) = true := decide_eq_true hb2
          have HR2 := HR.out
          rw [HD, if_neg (show ¬ (false = true) by simp), ite_self] at HR2
          simp only [Prod.mk.injEq] at HR2
          obtain ⟨rfl, rfl⟩ := HR2
          go_wp2
          go_ret
          exact ⟨rfl, HW.out⟩
        · rw [if_neg hb2] at HD
          have e4 : decide ((m : Int) < x.f3) = false := decide_eq_false hb2
          go_wp2
          refine ⟨⟨i + 1, x.f3, by simp, rfl, by omega, ⟨HD⟩, HW⟩, by simp [intOf]; omega⟩
    · have e1 : decide ((i : Int) < (n : Int)) = false := decide_eq_false (by omega)
      have e2 : decide (i < n) = false := decide_eq_false hlt
      have HD := HO.out
      rw [List.drop_of_length_le (by rw [List.length_map, HN.out]; omega)] at HD
      have HD := HD.trans (show okB (m : Int) last [] = true from rfl)
      obtain ⟨v0, vf0, z0, hz0, h1⟩ := HW.out.xopen
      obtain ⟨A0, c0, rfl, hc0, _⟩ := (h1.pick2 [1]).reads
      obtain ⟨Af0, cf0, rfl, hcf0, _⟩ := (h1.pick3 [2]).reads
      have hb1 := h1.blk
      have y0 := blk_cell hb1 0
      have y2 := blk_cell hb1 2
      by_cases hroom : t.room < (n : Int)
      · have d1 : decide (t.room < (n : Int)) = true := decide_eq_true hroom
        have HR2 := HR.out
        rw [if_pos hroom] at HR2
        simp only [Prod.mk.injEq] at HR2
        obtain ⟨rfl, rfl⟩ := HR2
        clear h1 hb1
        go_wp2
        go_ret
        exact ⟨rfl, HW.out⟩
      have d1 : decide (t.room < (n : Int)) = false := decide_eq_false hroom
      have HR2 := HR.out
      rw [if_neg hroom, HD, if_pos rfl] at HR2
      simp only [Prod.mk.injEq] at HR2
      obtain ⟨rfl, rfl⟩ := HR2
      have hn64 : n ≤ 64 := by omega
      have HX := Aside0.mk (h1.pick4 [0])
      clear h1 hz0 HD HO HR hb1
      go_wp2_with (first
        | ((with_reducible refine gate_dst (N := 46) rfl ?_); go_must (refine Kd.R_lit (Kd.int .u64) (w0 := wr) wr.heap.size 35 rfl (N := 46) rfl (xs := ([] : List Int)) (inner := []) (ok := fun _ => True) (okp := fun _ => True) (by first | (go_simp; done) | (go_simp; rfl)) (Reps.none _ _) (fun _ hk => hk) trivial (Below.refl _ _) (Nat.le_refl _) (by simp) ?_; intro v5 w5 ho5 hb hg_ hnew_; have HS5 := Aside0.mk (HX.out.row hb ho5); clear ho5 hb hg_ hnew_))
        | ((with_reducible refine gate_builtin (b := .append) (xs := #[.tmp 46, .tmp 47]) rfl ?_); at_builtin; go_must (refine SB.appRows (ys := vals) HS5.out rfl (.tmp 46) (.tmp 47) 22 (.int .u64 0) 8 rfl Try.underlying22 info35 rfl (by decide) (by decide) rfl rfl (fun _ _ h => h) (Kd.C_below HCv.out HS5.out.bel) (by simp; omega) ?_; intro v6 w6 hs6; obtain ⟨A6, c6, rfl, _, _⟩ := hs6.reads; rw [List.nil_append, HM.out] at hs6 ⊢; have hb6 := hs6.swap.blk; have x0 := blk_cell hb6 0; have x1 := blk_cell hb6 1; have f0 := blk_frozen hb6 0; have f1 := blk_frozen hb6 1; have HS6 := Aside0.mk ((hs6.swap.set1 0 (.slice A6 m c6)).set1 1 (.slice none 0 0)); clear hs6 hb6)))
      have HS6b := Aside0.mk (show SB w0 _ (Box g #[.slice A6 m c6, .slice none 0 0, .int .i64 t.room] 56 :: Row (Kd.int .u64) 35 (.slice A6 m c6) vals :: L) from HS6.out)
      go_loopw [9] (fun v9 wr => ∃ (k : Nat) (z : List (Fm × Value)) (Af : Option Addr) (cf : Nat), v9 = .int .i64 k ∧ k ≤ n ∧ Aside0 (z.map Prod.fst = ((fr.map ou).take k).map sFm) ∧ Aside0 (SB w0 wr (Box g #[.slice A6 m c6, .slice Af k cf, .int .i64 t.room] 56 :: Row (Kd.int .u64) 35 (.slice A6 m c6) vals :: Row (Kd.raw 4) 61 (.slice Af k cf) (z.map fm4) :: Sep (rowsOf z) :: L))) (fun v9 _ => n - (intOf v9).toNat)
      case atStart => exact ⟨0, [], none, 0, rfl, Nat.zero_le _, ⟨rfl⟩, ⟨(SB.sep0.2 (SB.row (d := Kd.raw 4) (e := 61) (v := .slice none 0 0) (xs := []) (ok := fun _ => True) HS6b.out (Below.refl _ _) (Kd.R_nil _ _ _ _ _))).pick4 [2, 3, 1, 0]⟩⟩
      case round =>
        obtain ⟨k, z, Af, cf, rfl, hkn, HZ, HW⟩ := hrel
        by_cases hlt2 : k < n
        · have e3 : decide ((k : Int) < (n : Int)) = true := decide_eq_true (by omega)
          have e4 : decide (k < n) = true := decide_eq_true hlt2
          have hil : k < fr.length := by rw [HN.out]; exact hlt2
          obtain ⟨x, hx⟩ : ∃ x, fr[k] = x := ⟨_, rfl⟩
          have hxl : x.f2.length ≤ 1000000 := hl x (by rw [← hx]; exact List.getElem_mem _)
          have HTK := Aside0.mk (show ((fr.map ou).take (k + 1)).map sFm = ((fr.map ou).take k).map sFm ++ [sFm (ou x)] by rw [List.take_succ_eq_append_getElem (by rw [List.length_map]; exact hil), List.getElem_map, hx, List.map_append]; rfl)
          have hzl : z.length = k := by have := congrArg List.length HZ.out; rw [List.length_map, List.length_map, List.length_take, List.length_map] at this; omega
          have HZL := Aside0.mk (show (z.map fm4).length = k by rw [List.length_map, hzl])
          have hat := at_T61 HC.out (k : Int) (by omega) (by omega)
          rw [rd61 hil, hx, Int.toNat_natCast] at hat
          obtain ⟨ad, A2, c2, hAd, q0, q1, q2, q3, l2, g2⟩ := hat
          have HG2 := Aside0.mk g2
          have HQ := Aside0.mk (And.intro q0 (And.intro q1 (And.intro q2 q3)))
          have HDF := Aside0.mk HW.out.drew
          have HAD := Aside0.mk hAd
          subst hAd
          clear g2 hx hzl q0 q1 q2 q3
          go_wp2
          refine rg_startL (n := 15) (S := fun w' => Below w0.heap.size w0 w') (bm 15 0) (by kernel_rfl) rfl (by kernel_rfl) (HDF.out.bel) (fun wd hwd hHeld => ?_)
          refine rg_take (i := 0) (N := some 60) (v := ?_) (a' := ?_) (bm 15 1) rfl rfl (by kernel_rfl) (fun _ _ _ h => h) hHeld (Or.inl ⟨by rfl, ?_⟩) ?_ ?_
          rotate_left
          · intro w' hw'
            have q0 := pw_cell_below hw' HQ.out.1
            have q1 := pw_cell_below hw' HQ.out.2.1
            have q2 := pw_cell_below hw' HQ.out.2.2.1
            have q3 := pw_cell_below hw' HQ.out.2.2.2
            go_simp
            with_reducible rfl
          rotate_left
          · simp only [Act.put, List.setIfInBounds_toArray, List.set_cons_zero, List.set_cons_succ]
            rfl
          refine rg_take (i := 1) (N := some 61) (v := ?_) (a' := ?_) (bm 15 3) rfl rfl (by kernel_rfl) (fun _ _ _ h => h) hHeld (Or.inl ⟨by rfl, ?_⟩) ?_ ?_
          rotate_left
          · intro w' hw'
            have q0 := pw_cell_below hw' HQ.out.1
            have q1 := pw_cell_below hw' HQ.out.2.1
            have q2 := pw_cell_below hw' HQ.out.2.2.1
            have q3 := pw_cell_below hw' HQ.out.2.2.2
            go_simp
            with_reducible rfl
          rotate_left
          · simp only [Act.put, List.setIfInBounds_toArray, List.set_cons_zero, List.set_cons_succ]
            rfl
          refine rg_take (i := 2) (N := some 62) (v := ?_) (a' := ?_) (bm 15 7) rfl rfl (by kernel_rfl) (fun _ _ _ h => h) hHeld (Or.inl ⟨by rfl, ?_⟩) ?_ ?_
          rotate_left
          · intro w' hw'
            have q0 := pw_cell_below hw' HQ.out.1
            have q1 := pw_cell_below hw' HQ.out.2.1
            have q2 := pw_cell_below hw' HQ.out.2.2.1
            have q3 := pw_cell_below hw' HQ.out.2.2.2
            go_simp
            with_reducible rfl
          rotate_left
          · simp only [Act.put, List.setIfInBounds_toArray, List.set_cons_zero, List.set_cons_succ]
            rfl
          refine rg_take (i := 3) (N := some 63) (v := ?_) (a' := ?_) (bm 15 15) rfl rfl (by kernel_rfl) (fun _ _ _ h => h) hHeld (Or.inl ⟨by rfl, ?_⟩) ?_ ?_
          rotate_left
          · intro w' hw'
            have q0 := pw_cell_below hw' HQ.out.1
            have q1 := pw_cell_below hw' HQ.out.2.1
            have q2 := pw_cell_below hw' HQ.out.2.2.1
            have q3 := pw_cell_below hw' HQ.out.2.2.2
            go_simp
            with_reducible rfl
          rotate_left
          · simp only [Act.put, List.setIfInBounds_toArray, List.set_cons_zero, List.set_cons_succ]
            rfl
          refine rg_take (i := 5) (N := some 65) (v := ?_) (a' := ?_) (bm 15 47) rfl rfl (by kernel_rfl) (fun _ _ _ h => h) hHeld (Or.inl ⟨by rfl, ?_⟩) ?_ ?_
          rotate_left
          · intro w' hw'
            have q0 := pw_cell_below hw' HQ.out.1
            have q1 := pw_cell_below hw' HQ.out.2.1
            have q2 := pw_cell_below hw' HQ.out.2.2.1
            have q3 := pw_cell_below hw' HQ.out.2.2.2
            go_simp
            with_reducible rfl
          rotate_left
          · simp only [Act.put, List.setIfInBounds_toArray, List.set_cons_zero, List.set_cons_succ]
            rfl
          refine rg_take (i := 6) (N := some 66) (v := ?_) (a' := ?_) (bm 15 111) rfl rfl (by kernel_rfl) (fun _ _ _ h => h) hHeld (Or.inl ⟨by rfl, ?_⟩) ?_ ?_
          rotate_left
          · intro w' hw'
            have q0 := pw_cell_below hw' HQ.out.1
            have q1 := pw_cell_below hw' HQ.out.2.1
            have q2 := pw_cell_below hw' HQ.out.2.2.1
            have q3 := pw_cell_below hw' HQ.out.2.2.2
            go_simp
            with_reducible rfl
          rotate_left
          · simp only [Act.put, List.setIfInBounds_toArray, List.set_cons_zero, List.set_cons_succ]
            rfl
          refine rg_take (i := 7) (N := some 67) (v := ?_) (a' := ?_) (bm 15 239) rfl rfl (by kernel_rfl) (fun _ _ _ h => h) hHeld (Or.inl ⟨by rfl, ?_⟩) ?_ ?_
          rotate_left
          · intro w' hw'
            have q0 := pw_cell_below hw' HQ.out.1
            have q1 := pw_cell_below hw' HQ.out.2.1
            have q2 := pw_cell_below hw' HQ.out.2.2.1
            have q3 := pw_cell_below hw' HQ.out.2.2.2
            go_simp
            with_reducible rfl
          rotate_left
          · simp only [Act.put, List.setIfInBounds_toArray, List.set_cons_zero, List.set_cons_succ]
            rfl
          refine rg_take (i := 8) (N := some 68) (v := ?_) (a' := ?_) (bm 15 495) rfl rfl (by kernel_rfl) (fun _ _ _ h => h) hHeld (Or.inl ⟨by rfl, ?_⟩) ?_ ?_
          rotate_left
          · intro w' hw'
            have q0 := pw_cell_below hw' HQ.out.1
            have q1 := pw_cell_below hw' HQ.out.2.1
            have q2 := pw_cell_below hw' HQ.out.2.2.1
            have q3 := pw_cell_below hw' HQ.out.2.2.2
            go_simp
            with_reducible rfl
          rotate_left
          · simp only [Act.put, List.setIfInBounds_toArray, List.set_cons_zero, List.set_cons_succ]
            rfl
          refine rg_ready [4, 9] (by kernel_rfl) (by simp) ?_
          refine rg_one (i := 4) (N := some 64) (bm 15 511) rfl rfl (by kernel_rfl) (fun K hK => ?_) ?_
          · skip
            first
              | (have hb4 := (HCUR.out.pick3 [2]).blk; have s1 : _ = some (Value.slice Af k cf) := blk_cell hb4 1; have HN4 := Aside0.mk HCUR.out.bel; clear hb4)
              | (have hb4 := SB.blk (hwd.out ▸ HDF.out); have s1 : _ = some (Value.slice Af k cf) := blk_cell hb4 1; have HN4 := Aside0.mk (SB.bel (hwd.out ▸ HDF.out)); clear hb4)
            refine value_ (w1 := ?_) (v := ?_) (by rfl) rfl ?_ ?_
            rotate_left 2
            · go_simp
              constructor
              · rfl
              · rfl
            have hnew := HN4.out
            refine hK.out _ _ hnew ?_
            clear hK K
            refine rg_norm (a' := ?_) ?_ ?_
            rotate_left
            · simp only [Act.put, List.setIfInBounds_toArray, List.set_cons_zero, List.set_cons_succ]
              rfl
            clear hHeld
            have hHeld := hnew
            clear hnew
            refine rg_ready [9] (by kernel_rfl) (by simp) ?_
            refine rg_one (i := 9) (N := some 69) (bm 15 1023) rfl rfl (by kernel_rfl) (fun K hK => ?_) rg_nil
            have HD := Aside0.mk (hwd.out ▸ HDF.out)
            have HCW := Aside0.mk (Kd.C_below HG2.out HD.out.bel)
            go_simp
            go_at_call 51
            with_reducible refine (xCopied HD.out x.f0 x.f1 x.f3 A2 c2 x.f2 HCW.out l2 hxl).mono ?_
            rintro e wx4x9r15 ⟨v7, rfl, hs, hbel⟩
            obtain ⟨A7, c7, rfl, hc7, _⟩ := hs.reads
            have HCUR := Aside0.mk (hs.pick5 [3, 0, 1, 2, 4])
            have hnew := hs.bel
            clear hs hbel
            go_wp2_with fail
            refine hK.out _ _ hnew ?_
            clear hK K
            refine rg_norm (a' := ?_) ?_ ?_
            rotate_left
            · simp only [Act.put, List.setIfInBounds_toArray, List.set_cons_zero, List.set_cons_succ]
              rfl
            clear hHeld
            have hHeld := hnew
            clear hnew
            refine rg_ready [10] (by kernel_rfl) (by simp) ?_
            refine rg_one (i := 10) (N := some 70) (bm 15 2047) rfl rfl (by kernel_rfl) (fun K hK => ?_) rg_nil
            refine valueL_ (w1 := ?_) (v := ?_) (by rfl) rfl ?_ ?_
            rotate_left 2
            · go_simp
              constructor
              · rfl
              · rfl
            intro wx4x9x10r15 hn10
            have hs10 := HCUR.out.alloc (.cells #[.int .i64 x.f0, .int .i64 x.f1, .slice A7 x.f2.length c7, .int .i64 x.f3] 61)
            rw [← hn10] at hs10
            have HC9 := HCUR
            have HN10 := Aside0.mk hn10
            have HCUR := Aside0.mk hs10
            have hnew := hs10.bel
            clear hs10 hn10
            refine hK.out _ _ hnew ?_
            clear hK K
            refine rg_norm (a' := ?_) ?_ ?_
            rotate_left
            · simp only [Act.put, List.setIfInBounds_toArray, List.set_cons_zero, List.set_cons_succ]
              rfl
            clear hHeld
            have hHeld := hnew
            clear hnew
            refine rg_ready [11] (by kernel_rfl) (by simp) ?_
            refine rg_one (i := 11) (N := some 71) (bm 15 4095) rfl rfl (by kernel_rfl) (fun K hK => ?_) rg_nil
            rw [HN10.out]
            refine SB.app1Step (y := [.int .i64 x.f0, .int .i64 x.f1, .slice A7 x.f2.length c7, .int .i64 x.f3]) HC9.out (by rfl) (.tmp 64) (.tmp 70) 49 (.agg #[.int .i64 0, .int .i64 0, .slice none 0 0, .int .i64 0]) 48 rfl Try.underlying49 info61 rfl (by decide) (by decide) rfl rfl ⟨rfl, rfl, by simp [Value.oneCell']⟩ (by rw [HZL.out]; omega) ?_
            intro v11 wx4x9x10x11r15 hs11
            obtain ⟨zc, hzc⟩ : ∃ zc : List (List Value), z.map fm4 ++ [[Value.int .i64 x.f0, Value.int .i64 x.f1, Value.slice A7 x.f2.length c7, Value.int .i64 x.f3]] = zc := ⟨_, rfl⟩
            rw [hzc] at hs11
            have HZC := Aside0.mk hzc
            have hzcl : zc.length = k + 1 := by rw [← hzc, List.length_append, HZL.out]; rfl
            clear hzc
            obtain ⟨A11, c11, rfl, hc11, _⟩ := hs11.reads
            rw [hzcl] at hs11 ⊢
            have HCUR := Aside0.mk hs11
            have hnew := hs11.bel
            clear hs11 hzcl
            refine hK.out _ _ hnew ?_
            clear hK K
            refine rg_norm (a' := ?_) ?_ ?_
            rotate_left
            · simp only [Act.put, List.setIfInBounds_toArray, List.set_cons_zero, List.set_cons_succ]
              rfl
            clear hHeld
            have hHeld := hnew
            clear hnew
            refine rg_take (i := 12) (N := some 72) (v := ?_) (a' := ?_) (bm 15 8191) rfl rfl (by kernel_rfl) (fun _ _ _ h => h) hHeld (Or.inl ⟨by rfl, ?_⟩) ?_ ?_
            rotate_left
            · intro w' hw'
              have q0 := pw_cell_below hw' HQ.out.1
              have q1 := pw_cell_below hw' HQ.out.2.1
              have q2 := pw_cell_below hw' HQ.out.2.2.1
              have q3 := pw_cell_below hw' HQ.out.2.2.2
              go_simp
              with_reducible rfl
            rotate_left
            · simp only [Act.put, List.setIfInBounds_toArray, List.set_cons_zero, List.set_cons_succ]
              rfl
            refine rg_take (i := 13) (N := some 73) (v := ?_) (a' := ?_) (bm 15 16383) rfl rfl (by kernel_rfl) (fun _ _ _ h => h) hHeld (Or.inl ⟨by rfl, ?_⟩) ?_ ?_
            rotate_left
            · intro w' hw'
              have q0 := pw_cell_below hw' HQ.out.1
              have q1 := pw_cell_below hw' HQ.out.2.1
              have q2 := pw_cell_below hw' HQ.out.2.2.1
              have q3 := pw_cell_below hw' HQ.out.2.2.2
              go_simp
              with_reducible rfl
            rotate_left
            · simp only [Act.put, List.setIfInBounds_toArray, List.set_cons_zero, List.set_cons_succ]
              rfl
            refine rg_ready [14] (by kernel_rfl) (by simp) ?_
            refine rg_one (i := 14) (N := none) (bm 15 32767) rfl rfl (by kernel_rfl) (fun K hK => ?_) rg_nil
            have hh := HCUR.out.pick5 [2, 0, 1, 3, 4]
            have hb14 := hh.blk
            have x1 := blk_cell hb14 1
            have f1 := blk_frozen hb14 1
            have h14 := hh.set1 1 (.slice A11 (k + 1) c11)
            have HD14 := Aside0.mk h14
            have hnew := h14.bel
            clear hb14 hh h14
            go_simp
            refine hK.out undef _ hnew ?_
            clear hK K
            refine rg_norm (a' := ?_) ?_ ?_
            rotate_left
            · simp only [Act.put, List.setIfInBounds_toArray, List.set_cons_zero, List.set_cons_succ]
              rfl
            clear hHeld
            have hHeld := hnew
            clear hnew
            refine rg_done (by kernel_rfl) ?_
            go_wp2
            have h15 : SB w0 _ (Sep (rowsOf z ++ [Row (Kd.int .u64) 35 (.slice A7 x.f2.length c7) x.f2]) :: Box g #[.slice A6 m c6, .slice A11 (k + 1) c11, .int .i64 t.room] 56 :: Row (Kd.int .u64) 35 (.slice A6 m c6) vals :: Row (Kd.raw 4) 61 (.slice A11 (k + 1) c11) zc :: L) := SB.sepPush (HD14.out.pick5 [2, 4, 0, 3, 1])
            have e5 : rowsOf (z ++ [(sFm (ou x), Value.slice A7 x.f2.length c7)]) = rowsOf z ++ [Row (Kd.int .u64) 35 (.slice A7 x.f2.length c7) x.f2] := rowsOf_push _ _
            have e6 : (z ++ [(sFm (ou x), Value.slice A7 x.f2.length c7)]).map fm4 = zc := by rw [List.map_append, ← HZC.out]; rfl
            rw [← e5, ← e6] at h15
            refine ⟨⟨k + 1, z ++ [(sFm (ou x), Value.slice A7 x.f2.length c7)], A11, c11, by simp, by omega, ⟨by rw [HTK.out, List.map_append, HZ.out]; rfl⟩, ⟨h15.pick4 [1, 2, 3, 0]⟩⟩, by simp [intOf]; omega⟩
          refine rg_one (i := 9) (N := some 69) (bm 15 1007) rfl rfl (by kernel_rfl) (fun K hK => ?_) ?_
          · skip
            have HD := Aside0.mk (hwd.out ▸ HDF.out)
            have HCW := Aside0.mk (Kd.C_below HG2.out HD.out.bel)
            go_simp
            go_at_call 51
            with_reducible refine (xCopied HD.out x.f0 x.f1 x.f3 A2 c2 x.f2 HCW.out l2 hxl).mono ?_
            rintro e wx9r15 ⟨v7, rfl, hs, hbel⟩
            obtain ⟨A7, c7, rfl, hc7, _⟩ := hs.reads
            have HCUR := Aside0.mk (hs.pick5 [3, 0, 1, 2, 4])
            have hnew := hs.bel
            clear hs hbel
            go_wp2_with fail
            refine hK.out _ _ hnew ?_
            clear hK K
            refine rg_norm (a' := ?_) ?_ ?_
            rotate_left
            · simp only [Act.put, List.setIfInBounds_toArray, List.set_cons_zero, List.set_cons_succ]
              rfl
            clear hHeld
            have hHeld := hnew
            clear hnew
            refine rg_ready [4, 10] (by kernel_rfl) (by simp) ?_
            refine rg_one (i := 4) (N := some 64) (bm 15 1023) rfl rfl (by kernel_rfl) (fun K hK => ?_) ?_
            · skip
              first
                | (have hb4 := (HCUR.out.pick3 [2]).blk; have s1 : _ = some (Value.slice Af k cf) := blk_cell hb4 1; have HN4 := Aside0.mk HCUR.out.bel; clear hb4)
                | (have hb4 := SB.blk (hwd.out ▸ HDF.out); have s1 : _ = some (Value.slice Af k cf) := blk_cell hb4 1; have HN4 := Aside0.mk (SB.bel (hwd.out ▸ HDF.out)); clear hb4)
              refine value_ (w1 := ?_) (v := ?_) (by rfl) rfl ?_ ?_
              rotate_left 2
              · go_simp
                constructor
                · rfl
                · rfl
              have hnew := HN4.out
              refine hK.out _ _ hnew ?_
              clear hK K
              refine rg_norm (a' := ?_) ?_ ?_
              rotate_left
              · simp only [Act.put, List.setIfInBounds_toArray, List.set_cons_zero, List.set_cons_succ]
                rfl
              clear hHeld
              have hHeld := hnew
              clear hnew
              refine rg_ready [10] (by kernel_rfl) (by simp) ?_
              refine rg_one (i := 10) (N := some 70) (bm 15 2047) rfl rfl (by kernel_rfl) (fun K hK => ?_) rg_nil
              refine valueL_ (w1 := ?_) (v := ?_) (by rfl) rfl ?_ ?_
              rotate_left 2
              · go_simp
                constructor
                · rfl
                · rfl
              intro wx9x4x10r15 hn10
              have hs10 := HCUR.out.alloc (.cells #[.int .i64 x.f0, .int .i64 x.f1, .slice A7 x.f2.length c7, .int .i64 x.f3] 61)
              rw [← hn10] at hs10
              have HC9 := HCUR
              have HN10 := Aside0.mk hn10
              have HCUR := Aside0.mk hs10
              have hnew := hs10.bel
              clear hs10 hn10
              refine hK.out _ _ hnew ?_
              clear hK K
              refine rg_norm (a' := ?_) ?_ ?_
              rotate_left
              · simp only [Act.put, List.setIfInBounds_toArray, List.set_cons_zero, List.set_cons_succ]
                rfl
              clear hHeld
              have hHeld := hnew
              clear hnew
              refine rg_ready [11] (by kernel_rfl) (by simp) ?_
              refine rg_one (i := 11) (N := some 71) (bm 15 4095) rfl rfl (by kernel_rfl) (fun K hK => ?_) rg_nil
              rw [HN10.out]
              refine SB.app1Step (y := [.int .i64 x.f0, .int .i64 x.f1, .slice A7 x.f2.length c7, .int .i64 x.f3]) HC9.out (by rfl) (.tmp 64) (.tmp 70) 49 (.agg #[.int .i64 0, .int .i64 0, .slice none 0 0, .int .i64 0]) 48 rfl Try.underlying49 info61 rfl (by decide) (by decide) rfl rfl ⟨rfl, rfl, by simp [Value.oneCell']⟩ (by rw [HZL.out]; omega) ?_
              intro v11 wx9x4x10x11r15 hs11
              obtain ⟨zc, hzc⟩ : ∃ zc : List (List Value), z.map fm4 ++ [[Value.int .i64 x.f0, Value.int .i64 x.f1, Value.slice A7 x.f2.length c7, Value.int .i64 x.f3]] = zc := ⟨_, rfl⟩
              rw [hzc] at hs11
              have HZC := Aside0.mk hzc
              have hzcl : zc.length = k + 1 := by rw [← hzc, List.length_append, HZL.out]; rfl
              clear hzc
              obtain ⟨A11, c11, rfl, hc11, _⟩ := hs11.reads
              rw [hzcl] at hs11 ⊢
              have HCUR := Aside0.mk hs11
              have hnew := hs11.bel
              clear hs11 hzcl
              refine hK.out _ _ hnew ?_
              clear hK K
              refine rg_norm (a' := ?_) ?_ ?_
              rotate_left
              · simp only [Act.put, List.setIfInBounds_toArray, List.set_cons_zero, List.set_cons_succ]
                rfl
              clear hHeld
              have hHeld := hnew
              clear hnew
              refine rg_take (i := 12) (N := some 72) (v := ?_) (a' := ?_) (bm 15 8191) rfl rfl (by kernel_rfl) (fun _ _ _ h => h) hHeld (Or.inl ⟨by rfl, ?_⟩) ?_ ?_
              rotate_left
              · intro w' hw'
                have q0 := pw_cell_below hw' HQ.out.1
                have q1 := pw_cell_below hw' HQ.out.2.1
                have q2 := pw_cell_below hw' HQ.out.2.2.1
                have q3 := pw_cell_below hw' HQ.out.2.2.2
                go_simp
                with_reducible rfl
              rotate_left
              · simp only [Act.put, List.setIfInBounds_toArray, List.set_cons_zero, List.set_cons_succ]
                rfl
              refine rg_take (i := 13) (N := some 73) (v := ?_) (a' := ?_) (bm 15 16383) rfl rfl (by kernel_rfl) (fun _ _ _ h => h) hHeld (Or.inl ⟨by rfl, ?_⟩) ?_ ?_
              rotate_left
              · intro w' hw'
                have q0 := pw_cell_below hw' HQ.out.1
                have q1 := pw_cell_below hw' HQ.out.2.1
                have q2 := pw_cell_below hw' HQ.out.2.2.1
                have q3 := pw_cell_below hw' HQ.out.2.2.2
                go_simp
                with_reducible rfl
              rotate_left
              · simp only [Act.put, List.setIfInBounds_toArray, List.set_cons_zero, List.set_cons_succ]
                rfl
              refine rg_ready [14] (by kernel_rfl) (by simp) ?_
              refine rg_one (i := 14) (N := none) (bm 15 32767) rfl rfl (by kernel_rfl) (fun K hK => ?_) rg_nil
              have hh := HCUR.out.pick5 [2, 0, 1, 3, 4]
              have hb14 := hh.blk
              have x1 := blk_cell hb14 1
              have f1 := blk_frozen hb14 1
              have h14 := hh.set1 1 (.slice A11 (k + 1) c11)
              have HD14 := Aside0.mk h14
              have hnew := h14.bel
              clear hb14 hh h14
              go_simp
              refine hK.out undef _ hnew ?_
              clear hK K
              refine rg_norm (a' := ?_) ?_ ?_
              rotate_left
              · simp only [Act.put, List.setIfInBounds_toArray, List.set_cons_zero, List.set_cons_succ]
                rfl
              clear hHeld
              have hHeld := hnew
              clear hnew
              refine rg_done (by kernel_rfl) ?_
              go_wp2
              have h15 : SB w0 _ (Sep (rowsOf z ++ [Row (Kd.int .u64) 35 (.slice A7 x.f2.length c7) x.f2]) :: Box g #[.slice A6 m c6, .slice A11 (k + 1) c11, .int .i64 t.room] 56 :: Row (Kd.int .u64) 35 (.slice A6 m c6) vals :: Row (Kd.raw 4) 61 (.slice A11 (k + 1) c11) zc :: L) := SB.sepPush (HD14.out.pick5 [2, 4, 0, 3, 1])
              have e5 : rowsOf (z ++ [(sFm (ou x), Value.slice A7 x.f2.length c7)]) = rowsOf z ++ [Row (Kd.int .u64) 35 (.slice A7 x.f2.length c7) x.f2] := rowsOf_push _ _
              have e6 : (z ++ [(sFm (ou x), Value.slice A7 x.f2.length c7)]).map fm4 = zc := by rw [List.map_append, ← HZC.out]; rfl
              rw [← e5, ← e6] at h15
              refine ⟨⟨k + 1, z ++ [(sFm (ou x), Value.slice A7 x.f2.length c7)], A11, c11, by simp, by omega, ⟨by rw [HTK.out, List.map_append, HZ.out]; rfl⟩, ⟨h15.pick4 [1, 2, 3, 0]⟩⟩, by simp [intOf]; omega⟩
            refine rg_one (i := 10) (N := some 70) (bm 15 2031) rfl rfl (by kernel_rfl) (fun K hK => ?_) ?_
            · skip
              refine valueL_ (w1 := ?_) (v := ?_) (by rfl) rfl ?_ ?_
              rotate_left 2
              · go_simp
                constructor
                · rfl
                · rfl
              intro wx9x10r15 hn10
              have hs10 := HCUR.out.alloc (.cells #[.int .i64 x.f0, .int .i64 x.f1, .slice A7 x.f2.length c7, .int .i64 x.f3] 61)
              rw [← hn10] at hs10
              have HC9 := HCUR
              have HN10 := Aside0.mk hn10
              have HCUR := Aside0.mk hs10
              have hnew := hs10.bel
              clear hs10 hn10
              refine hK.out _ _ hnew ?_
              clear hK K
              refine rg_norm (a' := ?_) ?_ ?_
              rotate_left
              · simp only [Act.put, List.setIfInBounds_toArray, List.set_cons_zero, List.set_cons_succ]
                rfl
              clear hHeld
              have hHeld := hnew
              clear hnew
              refine rg_ready [4] (by kernel_rfl) (by simp) ?_
              refine rg_one (i := 4) (N := some 64) (bm 15 2047) rfl rfl (by kernel_rfl) (fun K hK => ?_) rg_nil
              first
                | (have hb4 := (HCUR.out.pick3 [2]).blk; have s1 : _ = some (Value.slice Af k cf) := blk_cell hb4 1; have HN4 := Aside0.mk HCUR.out.bel; clear hb4)
                | (have hb4 := SB.blk (hwd.out ▸ HDF.out); have s1 : _ = some (Value.slice Af k cf) := blk_cell hb4 1; have HN4 := Aside0.mk (SB.bel (hwd.out ▸ HDF.out)); clear hb4)
              refine value_ (w1 := ?_) (v := ?_) (by rfl) rfl ?_ ?_
              rotate_left 2
              · go_simp
                constructor
                · rfl
                · rfl
              have hnew := HN4.out
              refine hK.out _ _ hnew ?_
              clear hK K
              refine rg_norm (a' := ?_) ?_ ?_
              rotate_left
              · simp only [Act.put, List.setIfInBounds_toArray, List.set_cons_zero, List.set_cons_succ]
                rfl
              clear hHeld
              have hHeld := hnew
              clear hnew
              refine rg_ready [11] (by kernel_rfl) (by simp) ?_
              refine rg_one (i := 11) (N := some 71) (bm 15 4095) rfl rfl (by kernel_rfl) (fun K hK => ?_) rg_nil
              rw [HN10.out]
              refine SB.app1Step (y := [.int .i64 x.f0, .int .i64 x.f1, .slice A7 x.f2.length c7, .int .i64 x.f3]) HC9.out (by rfl) (.tmp 64) (.tmp 70) 49 (.agg #[.int .i64 0, .int .i64 0, .slice none 0 0, .int .i64 0]) 48 rfl Try.underlying49 info61 rfl (by decide) (by decide) rfl rfl ⟨rfl, rfl, by simp [Value.oneCell']⟩ (by rw [HZL.out]; omega) ?_
              intro v11 wx9x10x4x11r15 hs11
              obtain ⟨zc, hzc⟩ : ∃ zc : List (List Value), z.map fm4 ++ [[Value.int .i64 x.f0, Value.int .i64 x.f1, Value.slice A7 x.f2.length c7, Value.int .i64 x.f3]] = zc := ⟨_, rfl⟩
              rw [hzc] at hs11
              have HZC := Aside0.mk hzc
              have hzcl : zc.length = k + 1 := by rw [← hzc, List.length_append, HZL.out]; rfl
              clear hzc
              obtain ⟨A11, c11, rfl, hc11, _⟩ := hs11.reads
              rw [hzcl] at hs11 ⊢
              have HCUR := Aside0.mk hs11
              have hnew := hs11.bel
              clear hs11 hzcl
              refine hK.out _ _ hnew ?_
              clear hK K
              refine rg_norm (a' := ?_) ?_ ?_
              rotate_left
              · simp only [Act.put, List.setIfInBounds_toArray, List.set_cons_zero, List.set_cons_succ]
                rfl
              clear hHeld
              have hHeld := hnew
              clear hnew
              refine rg_take (i := 12) (N := some 72) (v := ?_) (a' := ?_) (bm 15 8191) rfl rfl (by kernel_rfl) (fun _ _ _ h => h) hHeld (Or.inl ⟨by rfl, ?_⟩) ?_ ?_
              rotate_left
              · intro w' hw'
                have q0 := pw_cell_below hw' HQ.out.1
                have q1 := pw_cell_below hw' HQ.out.2.1
                have q2 := pw_cell_below hw' HQ.out.2.2.1
                have q3 := pw_cell_below hw' HQ.out.2.2.2
                go_simp
                with_reducible rfl
              rotate_left
              · simp only [Act.put, List.setIfInBounds_toArray, List.set_cons_zero, List.set_cons_succ]
                rfl
              refine rg_take (i := 13) (N := some 73) (v := ?_) (a' := ?_) (bm 15 16383) rfl rfl (by kernel_rfl) (fun _ _ _ h => h) hHeld (Or.inl ⟨by rfl, ?_⟩) ?_ ?_
              rotate_left
              · intro w' hw'
                have q0 := pw_cell_below hw' HQ.out.1
                have q1 := pw_cell_below hw' HQ.out.2.1
                have q2 := pw_cell_below hw' HQ.out.2.2.1
                have q3 := pw_cell_below hw' HQ.out.2.2.2
                go_simp
                with_reducible rfl
              rotate_left
              · simp only [Act.put, List.setIfInBounds_toArray, List.set_cons_zero, List.set_cons_succ]
                rfl
              refine rg_ready [14] (by kernel_rfl) (by simp) ?_
              refine rg_one (i := 14) (N := none) (bm 15 32767) rfl rfl (by kernel_rfl) (fun K hK => ?_) rg_nil
              have hh := HCUR.out.pick5 [2, 0, 1, 3, 4]
              have hb14 := hh.blk
              have x1 := blk_cell hb14 1
              have f1 := blk_frozen hb14 1
              have h14 := hh.set1 1 (.slice A11 (k + 1) c11)
              have HD14 := Aside0.mk h14
              have hnew := h14.bel
              clear hb14 hh h14
              go_simp
              refine hK.out undef _ hnew ?_
              clear hK K
              refine rg_norm (a' := ?_) ?_ ?_
              rotate_left
              · simp only [Act.put, List.setIfInBounds_toArray, List.set_cons_zero, List.set_cons_succ]
                rfl
              clear hHeld
              have hHeld := hnew
              clear hnew
              refine rg_done (by kernel_rfl) ?_
              go_wp2
              have h15 : SB w0 _ (Sep (rowsOf z ++ [Row (Kd.int .u64) 35 (.slice A7 x.f2.length c7) x.f2]) :: Box g #[.slice A6 m c6, .slice A11 (k + 1) c11, .int .i64 t.room] 56 :: Row (Kd.int .u64) 35 (.slice A6 m c6) vals :: Row (Kd.raw 4) 61 (.slice A11 (k + 1) c11) zc :: L) := SB.sepPush (HD14.out.pick5 [2, 4, 0, 3, 1])
              have e5 : rowsOf (z ++ [(sFm (ou x), Value.slice A7 x.f2.length c7)]) = rowsOf z ++ [Row (Kd.int .u64) 35 (.slice A7 x.f2.length c7) x.f2] := rowsOf_push _ _
              have e6 : (z ++ [(sFm (ou x), Value.slice A7 x.f2.length c7)]).map fm4 = zc := by rw [List.map_append, ← HZC.out]; rfl
              rw [← e5, ← e6] at h15
              refine ⟨⟨k + 1, z ++ [(sFm (ou x), Value.slice A7 x.f2.length c7)], A11, c11, by simp, by omega, ⟨by rw [HTK.out, List.map_append, HZ.out]; rfl⟩, ⟨h15.pick4 [1, 2, 3, 0]⟩⟩, by simp [intOf]; omega⟩
            exact rg_nil
          exact rg_nil
        · have e3 : decide ((k : Int) < (n : Int)) = false := decide_eq_false (by omega)
          have e4 : decide (k < n) = false := decide_eq_false hlt2
          obtain rfl : k = n := by omega
          go_wp2
          go_ret
          have hz2 := HZ.out
          rw [List.take_of_length_le (by rw [List.length_map, HN.out]; exact Nat.le_refl _)] at hz2
          exact ⟨rfl, SB.xclose (s := ⟨vals, (fr.map ou).map sFm, t.room⟩) hz2 HW.out⟩
end Go.Proofs.Ytbbgkelcdooabaa.G
