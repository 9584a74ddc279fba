/- The document's globals as objects. -/
import Derived.Deep.DeepMust
import Derived.Test.YtjdnkhgpnddncaaTabE
namespace Go.Proofs.Ytjdnkhgpnddncaa.G
open Go.RowKit Go.Proofs.YtjdnkhgpnddncaaW.PrintWords Go.Proofs.YtjdnkhgpnddncaaW.PrintLast Go.Proofs.YtjdnkhgpnddncaaW.PrintMore
set_option linter.unusedVariables false
set_option linter.unusedSimpArgs false
def XG (p : Nat) (l : List S95) : As := ObR k95 95 68 p l []
theorem fitsX (t v : Int) (hv : 0 ≤ v ∧ v < 18446744073709551616) : avocetref02_Fits.f t v = some (fit t v) := by
  unfold avocetref02_Fits.f fit
  by_cases h1 : t = 127
  · subst h1
    simp
  · by_cases h2 : t = 126
    · subst h2; simp
    · simp [h1, h2]
section
variable {w0 w : World} {L : List As} {p : Nat} {l : List S95}
theorem xgGet (hS : SB w0 w (XG p l :: L)) (hl : l.length ≤ 1000000) (i : Int) {x : Int} {b : Bool} (h : gGet l i = (x, b)) : Calls Try.prog 37 #[.pointer (some ⟨p, 0, none⟩), .int .i64 i] w fun e w' => e = .returned (.tuple #[.int .u64 x, .bool b]) ∧ SB w0 w' (XG p l :: L) := by
  obtain ⟨F, hF, _⟩ := hS.head
  obtain ⟨A, c, hblk, hR, hc, hC, hp, hlt⟩ := ObR.open_ hF
  have hq : w.cell? ⟨p, 0, none⟩ = some (.slice A l.length c) := (blk_cell hblk 0).trans rfl
  have HS := Aside0.mk hS
  have HC := Aside0.mk hC
  obtain ⟨n, hn⟩ : ∃ n, l.length = n := ⟨_, rfl⟩
  have HN := Aside0.mk hn
  rw [hn] at hq
  clear hS hblk hR hF hC
  unfold gGet at h
  rw [hn] at h
  by_cases c0 : i < 0
  · rw [if_neg (by omega)] at h
    simp only [Prod.mk.injEq] at h
    obtain ⟨rfl, rfl⟩ := h
    have d1 : decide (i < 0) = true := decide_eq_true c0
    clear hn
    go_enter Try.func37, Try.ntmps37
    go_wp2
    go_ret2
    exact ⟨rfl, HS.out⟩
  have d1 : decide (i < 0) = false := decide_eq_false c0
  obtain ⟨t, rfl⟩ := Int.eq_ofNat_of_zero_le (show 0 ≤ i by omega)
  by_cases c1 : t < n
  · rw [if_pos (by omega)] at h
    simp only [Prod.mk.injEq] at h
    obtain ⟨rfl, rfl⟩ := h
    have d2 : decide ((n : Int) ≤ (t : Int)) = false := decide_eq_false (by omega)
    have d2' : decide (n ≤ t) = false := decide_eq_false (by omega)
    obtain ⟨ad, rfl, q0, q1, q2⟩ := at_T95 HC.out (t : Int) (by omega) (by omega)
    rw [Int.toNat_natCast] at q0 q1 q2
    obtain ⟨x, hx⟩ : ∃ x, (rd_T95 l (t : Int)).f2 = x := ⟨_, rfl⟩
    rw [hx] at q2 ⊢
    have hc2 : (t : Int) < (n : Int) := by omega
    clear hx q0 q1 hn
    go_enter Try.func37, Try.ntmps37
    go_wp2
    go_ret2
    exact ⟨rfl, HS.out⟩
  · rw [if_neg (by omega)] at h
    simp only [Prod.mk.injEq] at h
    obtain ⟨rfl, rfl⟩ := h
    have d2 : decide ((n : Int) ≤ (t : Int)) = true := decide_eq_true (by omega)
    have d2' : decide (n ≤ t) = true := decide_eq_true (by omega)
    clear hn
    go_enter Try.func37, Try.ntmps37
    go_wp2
    go_ret2
    exact ⟨rfl, HS.out⟩
theorem xgType (hS : SB w0 w (XG p l :: L)) (hl : l.length ≤ 1000000) (i : Int) {x : Int} {a b : Bool} (h : gType l i = (x, a, b)) : Calls Try.prog 38 #[.pointer (some ⟨p, 0, none⟩), .int .i64 i] w fun e w' => e = .returned (.tuple #[.int .u8 x, .bool a, .bool b]) ∧ SB w0 w' (XG p l :: L) := by
  obtain ⟨F, hF, _⟩ := hS.head
  obtain ⟨A, c, hblk, hR, hc, hC, hp, hlt⟩ := ObR.open_ hF
  have hq : w.cell? ⟨p, 0, none⟩ = some (.slice A l.length c) := (blk_cell hblk 0).trans rfl
  have HS := Aside0.mk hS
  have HC := Aside0.mk hC
  obtain ⟨n, hn⟩ : ∃ n, l.length = n := ⟨_, rfl⟩
  have HN := Aside0.mk hn
  rw [hn] at hq
  clear hS hblk hR hF hC
  unfold gType at h
  rw [hn] at h
  by_cases c0 : i < 0
  · rw [if_neg (by omega)] at h
    simp only [Prod.mk.injEq] at h
    obtain ⟨rfl, rfl, rfl⟩ := h
    have d1 : decide (i < 0) = true := decide_eq_true c0
    clear hn
    go_enter Try.func38, Try.ntmps38
    go_wp2
    refine bodyPost_ret (results_list (rs := [.tmp 4, .tmp 5, .tmp 6]) rfl (by simp) (.tmp (.tmp (.tmp .nil)))) rfl ?_
    exact ⟨rfl, HS.out⟩
  have d1 : decide (i < 0) = false := decide_eq_false c0
  obtain ⟨t, rfl⟩ := Int.eq_ofNat_of_zero_le (show 0 ≤ i by omega)
  by_cases c1 : t < n
  · rw [if_pos (by omega)] at h
    simp only [Prod.mk.injEq] at h
    obtain ⟨rfl, rfl, rfl⟩ := h
    have d2 : decide ((n : Int) ≤ (t : Int)) = false := decide_eq_false (by omega)
    have d2' : decide (n ≤ t) = false := decide_eq_false (by omega)
    obtain ⟨ad, rfl, q0, q1, q2⟩ := at_T95 HC.out (t : Int) (by omega) (by omega)
    rw [Int.toNat_natCast] at q0 q1 q2
    obtain ⟨x, hx⟩ : ∃ x, (rd_T95 l (t : Int)).f0 = x := ⟨_, rfl⟩
    obtain ⟨y, hy⟩ : ∃ y, (rd_T95 l (t : Int)).f1 = y := ⟨_, rfl⟩
    rw [hx] at q0
    rw [hy] at q1
    rw [hx, hy]
    have hc2 : (t : Int) < (n : Int) := by omega
    clear hx hy q2 hn
    go_enter Try.func38, Try.ntmps38
    go_wp2
    go_quiet (fail)
    go_wp2
    refine bodyPost_ret (results_list (rs := [.tmp 4, .tmp 5, .tmp 6]) rfl (by simp) (.tmp (.tmp (.tmp .nil)))) rfl ?_
    exact ⟨rfl, HS.out.drewN _⟩
  · rw [if_neg (by omega)] at h
    simp only [Prod.mk.injEq] at h
    obtain ⟨rfl, rfl, rfl⟩ := h
    have d2 : decide ((n : Int) ≤ (t : Int)) = true := decide_eq_true (by omega)
    have d2' : decide (n ≤ t) = true := decide_eq_true (by omega)
    clear hn
    go_enter Try.func38, Try.ntmps38
    go_wp2
    refine bodyPost_ret (results_list (rs := [.tmp 4, .tmp 5, .tmp 6]) rfl (by simp) (.tmp (.tmp (.tmp .nil)))) rfl ?_
    exact ⟨rfl, HS.out⟩
set_option maxRecDepth 100000 in
theorem xgSet (hS : SB w0 w (XG p l :: L)) (hl : l.length ≤ 1000000) (i v : Int) (hv : 0 ≤ v ∧ v < 18446744073709551616) : Calls Try.prog 36 #[.pointer (some ⟨p, 0, none⟩), .int .i64 i, .int .u64 v] w fun e w' => e = .returned (.int .i64 (gSet l i v).1) ∧ SB w0 w' (XG p (gSet l i v).2 :: L) := by
  obtain ⟨F, hF, _⟩ := hS.head
  obtain ⟨A, c, hblk, hR, hc, hC, hp, hlt⟩ := ObR.open_ hF
  have h : w.cell? ⟨p, 0, none⟩ = some (.slice A l.length c) := (blk_cell hblk 0).trans rfl
  have HS := Aside0.mk hS
  have HC := Aside0.mk hC
  have HV := Aside0.mk hv
  clear hS hblk hF hC hv
  by_cases c0 : i < 0
  · have d1 : decide (i < 0) = true := decide_eq_true c0
    have hr : gSet l i v = (6, l) := if_neg (by omega)
    rw [hr]
    clear hR hr
    go_enter Try.func36, Try.ntmps36
    go_wp2
    go_ret
    exact ⟨rfl, HS.out⟩
  have d1 : decide (i < 0) = false := decide_eq_false c0
  by_cases c1 : 0 ≤ i ∧ i < l.length
  · have hr : gSet l i v = if (rd_T95 l i).f1 = true ∧ fit (rd_T95 l i).f0 v = true then (0, l.set i.toNat ⟨(rd_T95 l i).f0, (rd_T95 l i).f1, v⟩) else (5, l) := if_pos c1
    obtain ⟨g, cap, hvv, hg0, hg1, cells, hcells⟩ := Kd.R_form hR (by omega)
    injection hvv with hA _ hcap
    subst hA
    obtain ⟨ad, hA2, q0, q1, q2⟩ := at_T95 HC.out i c1.1 c1.2
    obtain rfl := Option.some.inj hA2
    obtain ⟨t, rfl⟩ := Int.eq_ofNat_of_zero_le c1.1
    rw [Int.toNat_natCast, add_blk] at q0 q1 q2
    have htl : t < l.length := by omega
    have d2 : decide ((l.length : Int) ≤ (t : Int)) = false := decide_eq_false (by omega)
    have d2' : decide (l.length ≤ t) = false := decide_eq_false (by omega)
    have hc3 : (t : Int) < (l.length : Int) := by omega
    have hfz : w.frozen? ⟨g, t * 3 + 2, none⟩ = false := blk_frozen hcells _
    obtain ⟨x, hx⟩ : ∃ x, (rd_T95 l (t : Int)).f0 = x := ⟨_, rfl⟩
    obtain ⟨y, hy⟩ : ∃ y, (rd_T95 l (t : Int)).f1 = y := ⟨_, rfl⟩
    rw [hx] at q0 hr
    rw [hy] at q1 hr
    have HX := Aside0.mk hx
    have HY := Aside0.mk hy
    have HF := Aside0.mk (fitsX x v HV.out)
    obtain ⟨f, hf⟩ : ∃ f, fit x v = f := ⟨_, rfl⟩
    rw [hf] at hr HF
    have HFE := Aside0.mk hf
    have HH := Aside0.mk h
    rw [Int.toNat_natCast] at hr
    clear c1 hx hy hA2 hR hcells hf hg0 hg1
    cases y with
    | false =>
      rw [hr, if_neg (by simp)]
      clear hr
      go_enter Try.func36, Try.ntmps36
      go_wp2
      go_ret
      exact ⟨rfl, HS.out⟩
    | true =>
      cases f with
      | false =>
        rw [hr, if_neg (by simp)]
        clear hr
        go_enter Try.func36, Try.ntmps36
        go_wp2_with (go_at_call 43; go_must ((with_reducible refine (avocetref02_Fits.calls x v _ _ HF.out).mono ?_); rintro e w' ⟨rfl, ⟨nd2, rfl⟩⟩))
        go_ret
        exact ⟨rfl, HS.out.drewN nd2⟩
      | true =>
        rw [hr, if_pos (by simp)]
        clear hr
        go_enter Try.func36, Try.ntmps36
        go_wp2_with (go_at_call 43; go_must ((with_reducible refine (avocetref02_Fits.calls x v _ _ HF.out).mono ?_); rintro e w' ⟨rfl, ⟨nd2, rfl⟩⟩))
        go_ret
        refine ⟨rfl, obj_turned (HS.out.drewN nd2) HH.out (fun ok hok => ?_) ((Fr.refl _ (fun k => k = g)).setCell (p := ⟨g, t * 3 + 2, none⟩) (.inl rfl) _)⟩
        refine R_field (d := k95) (f := 2) k95_flat hok htl (by decide) _ _ (fun {base ok cs} h => ?_)
        obtain rfl := k95_openM h
        rw [← HX.out, rd_get htl]
        have hy2 : (l[t]).f1 = true := by rw [← rd_get htl]; exact HY.out
        rw [hy2]
        exact k95_mkM _ _ _ ⟨(l[t]).f0, true, v⟩
  · have hr : gSet l i v = (6, l) := if_neg c1
    rw [hr]
    have d2 : decide ((l.length : Int) ≤ i) = true := decide_eq_true (by omega)
    clear hr hR
    go_enter Try.func36, Try.ntmps36
    go_wp2
    go_ret
    exact ⟨rfl, HS.out⟩
set_option maxRecDepth 100000 in
theorem xgAdd (hS : SB w0 w (XG p l :: L)) (hl : l.length ≤ 128) (t : Int) (mu : Bool) (v : Int) (ht : 0 ≤ t ∧ t < 256) (hv : 0 ≤ v ∧ v < 18446744073709551616) :
    Calls Try.prog 35 #[.pointer (some ⟨p, 0, none⟩), .int .u8 t, .bool mu, .int .u64 v] w fun e w' => e = .returned (.tuple #[.int .i64 (gAdd l t mu v).1, .int .i64 (gAdd l t mu v).2.1]) ∧ SB w0 w' (XG p (gAdd l t mu v).2.2 :: L) := by
  obtain ⟨F, hF, _⟩ := hS.head
  obtain ⟨A, c, hblk, hR, hc, hC, hp, hlt⟩ := ObR.open_ hF
  have h : w.cell? ⟨p, 0, none⟩ = some (.slice A l.length c) := (blk_cell hblk 0).trans rfl
  have HS := Aside0.mk hS
  clear hS hblk hF hC hR
  by_cases c1 : 128 ≤ l.length
  · have d1 : decide ((128 : Int) ≤ (l.length : Int)) = true := decide_eq_true (by omega)
    have d1' : decide (128 ≤ l.length) = true := decide_eq_true c1
    have hr : gAdd l t mu v = (0, 4, l) := if_pos c1
    rw [hr]
    clear hr
    go_enter Try.func35, Try.ntmps35
    go_wp2
    go_ret2
    exact ⟨rfl, HS.out⟩
  · have d1 : decide ((128 : Int) ≤ (l.length : Int)) = false := decide_eq_false (by omega)
    have d1' : decide (128 ≤ l.length) = false := decide_eq_false c1
    have hr : gAdd l t mu v = if fit t v = true then ((l.length : Int), 0, l ++ [⟨t, mu, v⟩]) else (0, 5, l) := if_neg c1
    obtain ⟨f, hf⟩ : ∃ f, fit t v = f := ⟨_, rfl⟩
    have HF := Aside0.mk (fitsX t v hv)
    rw [hf] at hr HF
    clear hf
    cases f with
    | false =>
      rw [hr, if_neg (by simp)]
      clear hr
      go_enter Try.func35, Try.ntmps35
      go_wp2_with (go_at_call 43; (with_reducible refine (avocetref02_Fits.calls t v _ _ HF.out).mono ?_); rintro e w' ⟨rfl, ⟨nd2, rfl⟩⟩)
      go_ret2
      exact ⟨rfl, HS.out.drewN _⟩
    | true =>
      rw [hr, if_pos rfl]
      clear hr
      have hl1 : ((l ++ [(⟨t, mu, v⟩ : S95)]).length : Int) = (l.length : Int) + 1 := by simp
      go_enter Try.func35, Try.ntmps35
      go_wp2_with (first
        | (go_at_call 43; (with_reducible refine (avocetref02_Fits.calls t v _ _ HF.out).mono ?_); rintro e w' ⟨rfl, ⟨nd2, rfl⟩⟩)
        | ((with_reducible refine gate_builtin (b := .append) (xs := #[.tmp 24, .tmp 29]) rfl ?_); go_must (refine SB.appObj1 (W := w.drewN nd2) (d := k95) (cs := [.int .u8 t, .bool mu, .int .u64 v]) (y := ⟨t, mu, v⟩) (HS.out.drewN nd2) h rfl (.tmp 24) (.tmp 29) 66 (.agg #[.int .u8 0, .bool false, .int .u64 0]) 16 rfl Try.underlying66 (show (Try.prog.info? 95).map (fun i => (i.zero, i.size, i.bytes)) = some (some (.agg #[.int .u8 0, .bool false, .int .u64 0]), 3, 16) from by kernel_rfl) rfl (by decide) (by decide) rfl rfl (k95_mkM _ _ _ ⟨t, mu, v⟩) (by omega) ?_; intro v1 w1 A1 c1 hv1 h1 hs1; subst hv1; have q1 := blk_cell h1 0; have f1 := blk_frozen h1 0; have HS1 := Aside0.mk hs1; clear hs1 h1)))
      go_ret2
      exact ⟨rfl, HS1.out⟩
set_option maxRecDepth 100000 in
theorem xgAll (hS : SB w0 w (XG p l :: L)) (hl : l.length ≤ 1000000) :
    Calls Try.prog 39 #[.pointer (some ⟨p, 0, none⟩)] w fun e w' => ∃ v, e = .returned v ∧ SB w0 w' (Row (Kd.int .u64) 35 v (l.map S95.f2) :: XG p l :: L) := by
  obtain ⟨n, hn⟩ : ∃ n, l.length = n := ⟨_, rfl⟩
  have HS := Aside0.mk hS
  have HN := Aside0.mk hn
  rw [hn] at hl
  clear hS hn
  go_enter Try.func39, Try.ntmps39
  go_wp2
  go_loopw [3, 4] (fun v3 v4 wr => ∃ k : Nat, v4 = .int .i64 k ∧ k ≤ n ∧ Aside0 (SB w0 wr (Row (Kd.int .u64) 35 v3 ((l.take k).map S95.f2) :: XG p l :: L))) (fun _ v4 _ => n - (intOf v4).toNat)
  case atStart => exact ⟨0, rfl, Nat.zero_le _, ⟨HS.out.row (Below.refl _ _) (Kd.R_nil _ _ _ _ (fun _ => True))⟩⟩
  case round =>
    obtain ⟨k, rfl, hk, HW⟩ := hrel
    obtain ⟨F, hF, _⟩ := (SB.swap HW.out).head
    obtain ⟨A, c, hblk, hR, hc, hC, hp, hlt'⟩ := ObR.open_ hF
    have h : wr.cell? ⟨p, 0, none⟩ = some (.slice A n c) := by rw [← HN.out]; exact (blk_cell hblk 0).trans rfl
    clear hblk hF hR
    by_cases hlt : k < n
    · have d1 : decide ((k : Int) < (n : Int)) = true := decide_eq_true (by omega)
      have d2 : decide (k < n) = true := decide_eq_true hlt
      have hkl : k < l.length := by rw [HN.out]; exact hlt
      obtain ⟨ad, rfl, q0, q1, q2⟩ := at_T95 hC (k : Int) (by omega) (by omega)
      rw [rd_get hkl, Int.toNat_natCast] at q0 q1 q2
      obtain ⟨x, hx⟩ : ∃ x, l[k] = x := ⟨_, rfl⟩
      rw [hx] at q0 q1 q2
      have HTK := Aside0.mk (show (l.take (k + 1)).map S95.f2 = (l.take k).map S95.f2 ++ [x.f2] by rw [List.take_succ_eq_append_getElem hkl, hx, List.map_append]; rfl)
      clear hx hC hp hlt' q0 q1 hc
      go_wp2_with ((with_reducible refine gate_builtin (b := .append) (xs := #[.tmp 14, .tmp 23]) rfl ?_); go_must (refine SB.app1 (W := wr) (d := Kd.int .u64) (cs := [.int .u64 x.f2]) (y := x.f2) HW.out rfl (.tmp 14) (.tmp 23) 49 (.int .u64 0) 8 rfl Try.underlying49 (show (Try.prog.info? 35).map (fun i => (i.zero, i.size, i.bytes)) = some (some (.int .u64 0), 1, 8) from by kernel_rfl) rfl (by decide) (by decide) rfl rfl rfl (by simp; omega) ?_; intro v1 w1 hs1; have HS1 := Aside0.mk hs1; clear hs1))
      refine ⟨⟨k + 1, by simp, by omega, ⟨?_⟩⟩, by simp [intOf]; omega⟩
      rw [HTK.out]
      exact HS1.out
    · have d1 : decide ((k : Int) < (n : Int)) = false := decide_eq_false (by omega)
      have d2 : decide (k < n) = false := decide_eq_false hlt
      clear hC hp hlt' hc
      go_wp2
      go_ret
      have hw := HW.out
      rw [List.take_of_length_le (by rw [HN.out]; omega)] at hw
      exact ⟨_, rfl, hw⟩
end
end Go.Proofs.Ytjdnkhgpnddncaa.G
