/- Package stack: want, walked. -/
import Derived.RangeFuncWrites
import Derived.Test.YtagblobimoedcaaStkB
namespace Go.Proofs.Ytagblobimoedcaa.G
open Go.RowKit Go.Shelf Go.Proofs.YtagblobimoedcaaW.PrintWords Go.Proofs.YtagblobimoedcaaW.PrintLast Go.Proofs.YtagblobimoedcaaW.PrintMore
attribute [local go_sem] Oper.semAt_some
set_option linter.unusedVariables false
set_option linter.unusedSimpArgs false
theorem kPop_take (vs : List Int) (h : Int) (d : Bool) : ∃ m, m ≤ vs.length ∧ (kPop vs h d).1 = vs.take m := by
  unfold kPop
  split
  · exact ⟨vs.length - 1, by omega, List.dropLast_eq_take⟩
  · split
    · exact ⟨vs.length, Nat.le_refl _, by simp⟩
    · exact ⟨vs.length, Nat.le_refl _, by simp⟩
theorem kPop_err (vs : List Int) (h : Int) (d : Bool) : (kPop vs h d).2.2 = 0 ∨ (kPop vs h d).2.2 = 5 := by
  unfold kPop
  split
  · exact .inl rfl
  · split
    · exact .inl rfl
    · exact .inr rfl
theorem kWas_take {h : Int} {d : Bool} : ∀ {ts vs vs' : List Int}, kWas h d ts vs = some vs' → ∃ m, m ≤ vs.length ∧ vs' = vs.take m
  | [], vs, vs', e => by simp only [kWas, Option.some.injEq] at e; subst e; exact ⟨vs.length, Nat.le_refl _, by simp⟩
  | x :: ts, vs, vs', e => by
    unfold kWas at e
    split at e
    · split at e
      · exact absurd e (by simp)
      · obtain ⟨m, hm, e1⟩ := kPop_take vs h d
        obtain ⟨m2, hm2, e2⟩ := kWas_take e
        rw [e1] at e2 hm2
        rw [List.take_take] at e2
        exact ⟨min m2 m, by omega, e2⟩
    · exact absurd e (by simp)
/-- the work: what a checker changes. -/
def WK (w : World) (p g o : Nat) (A : Option Addr) (c : Nat) (cv : Value) (vs : List Int) : Prop := w.heap[p]? = some (.cells #[.slice A vs.length c, cv, .pointer (some ⟨g, o, none⟩)] 77 (0, 0))
theorem stkPopA (p g o : Nat) (A : Option Addr) (c : Nat) (cv : Value) (vs : List Int) (h : Int) (d : Bool) (w : World) (hb : WK w p g o A c cv vs)
    (hh : w.cell? ⟨g, o + 2, none⟩ = some (.int .i64 h)) (hd : w.cell? ⟨g, o + 3, none⟩ = some (.bool d)) (hv : Kd.C (Kd.int .u8) w A vs.length vs) (h0 : 0 ≤ h) (hl : vs.length < 1000000000) (hc : vs.length ≤ c) :
    Calls Try.prog 42 #[.pointer (some ⟨p, 0, none⟩)] w fun e w' => e = .returned (.tuple #[.int .u8 (kPop vs h d).2.1, .int .i64 (kPop vs h d).2.2]) ∧
      Fr w w' (fun k => k = p) ∧ WK w' p g o A c cv (kPop vs h d).1 := by
  refine (stkPop p g o A c cv vs h d w hb hh hd hv h0 hl hc).mono ?_
  rintro e w' ⟨rfl, W1, ⟨nd, rfl⟩, rfl⟩
  refine ⟨rfl, ?_⟩
  by_cases h1 : h < (vs.length : Int)
  · rw [if_pos h1]
    refine ⟨((Fr.refl w (fun k => k = p)).drewN nd).setCell (p := ⟨p, 0, none⟩) (.inl rfl) _, ?_⟩
    have e1 : (kPop vs h d).1 = vs.dropLast := by unfold kPop; rw [if_pos h1]
    unfold WK
    rw [e1, List.length_dropLast]
    exact blk_set (w := w.drewN nd) hb 0 _
  · rw [if_neg h1]
    refine ⟨(Fr.refl w _).drewN nd, ?_⟩
    have e1 : (kPop vs h d).1 = vs := by unfold kPop; rw [if_neg h1]; split <;> rfl
    rw [e1]
    exact hb
theorem Fr.keeps {B : Nat} {W W' : World} {F : Nat → Prop} (h : Fr W W' F) (hF : ∀ k, F k → k < B) : KeepsFrom B W W' :=
  ⟨h.size, fun k o hB hk _ => (h.block k (Array.getElem?_eq_some_iff.1 hk).1 (fun hf => by have := hF k hf; omega)).trans hk⟩
theorem Fr.kp {p N : Nat} {W W' : World} (h : Fr W W' (fun k => k = p)) (hN : N ≤ W.heap.size) : KP p N W W' := ⟨h.size, fun k hk hn => h.block k (by omega) hn⟩
set_option maxRecDepth 100000 in
set_option maxHeartbeats 4000000 in
theorem stkWant (p g o : Nat) (A : Option Addr) (c : Nat) (cv : Value) (vs : List Int) (h : Int) (d : Bool) (Al : Option Addr) (cl : Nat) (zs : List Int) (w : World) (hb : WK w p g o A c cv vs)
    (hh : w.cell? ⟨g, o + 2, none⟩ = some (.int .i64 h)) (hd : w.cell? ⟨g, o + 3, none⟩ = some (.bool d)) (hv : Kd.C (Kd.int .u8) w A vs.length vs) (h0 : 0 ≤ h) (hl : vs.length < 1000000000) (hc : vs.length ≤ c)
    (hz : Kd.C (Kd.int .u8) w Al zs.length zs) (hzl : zs.length < 1000000000) (hgp : g < p) (hAp : ∀ ad, A = some ad → 0 < vs.length → ad.block < p) (hlp : ∀ ad, Al = some ad → 0 < zs.length → ad.block < p) :
    Calls Try.prog 41 #[.pointer (some ⟨p, 0, none⟩), .slice Al zs.length cl] w fun e w' => e = .returned (.int .i64 (kWant h d zs.reverse vs).2) ∧ Fr w w' (fun k => k = p) ∧ ((kWant h d zs.reverse vs).2 = 0 → WK w' p g o A c cv (kWant h d zs.reverse vs).1) := by
  have hpw : p < w.heap.size := blk_lt hb
  refine (callsIn_wide (n := 3)).1 ?_
  refine callsIn_of_wp_marks Try.func41 rfl trivial ?_ rfl
  simp only [Try.ntmps41, List.size_toArray, List.length_cons, List.length_nil, Nat.reduceAdd, Nat.reduceSub, Array.replicate_succ, Array.replicate_zero, List.push_toArray, List.append_toArray, List.nil_append, List.cons_append]
  gi_wp2_with (refine ⟨trivial, ?_⟩; gi_at_call 48; refine (back_in Fence.wide _ trivial rfl _ _ _ _).mono ?_; rintro e w' ⟨rfl, rfl⟩)
  obtain ⟨w1, hw1⟩ : ∃ w1, ((w.alloc (.cells #[.pointer (some ⟨p, 0, none⟩)] 87)).alloc (.cells #[.int .i64 0] 33)).alloc (.cells #[.slice Al zs.length cl] 25) = w1 := ⟨_, rfl⟩
  have hB1 : Below w.heap.size w w1 := by rw [← hw1]; exact below_alloc (below_alloc (below_alloc (Below.refl _ _) _) _) _
  have hs1 : w1.heap.size = w.heap.size + 3 := by rw [← hw1]; simp
  have hx1 : w1.heap[w.heap.size]? = some (.cells #[.pointer (some ⟨p, 0, none⟩)] 87 (0, 0)) := by
    rw [← hw1]; exact (Below.heap_alloc _ _ _ (by simp; omega)).trans ((Below.heap_alloc _ _ _ (by simp)).trans (heap_alloc_new w _))
  have hx2 : w1.heap[w.heap.size + 1]? = some (.cells #[.int .i64 0] 33 (0, 0)) := by
    rw [← hw1]; exact (Below.heap_alloc _ _ _ (by simp)).trans (by have := heap_alloc_new (w.alloc (.cells #[.pointer (some ⟨p, 0, none⟩)] 87)) (.cells #[.int .i64 0] 33); rwa [World.size_alloc] at this)
  have hx3 : w1.heap[w.heap.size + 2]? = some (.cells #[.slice Al zs.length cl] 25 (0, 0)) := by
    rw [← hw1]; have := heap_alloc_new ((w.alloc (.cells #[.pointer (some ⟨p, 0, none⟩)] 87)).alloc (.cells #[.int .i64 0] 33)) (.cells #[.slice Al zs.length cl] 25); rw [World.size_alloc, World.size_alloc] at this; exact this
  simp only [hw1]
  have hb1 : WK w1 p g o A c cv vs := (hB1.block p hpw).trans hb
  have hz1 := Kd.C_below hz hB1
  have hv1 := Kd.C_below hv hB1
  have hh1 : w1.cell? ⟨g, o + 2, none⟩ = some (.int .i64 h) := (hB1.cell (p := ⟨g, o + 2, none⟩) (by show g < _; omega)).trans hh
  have hd1 : w1.cell? ⟨g, o + 3, none⟩ = some (.bool d) := (hB1.cell (p := ⟨g, o + 3, none⟩) (by show g < _; omega)).trans hd
  have hC0 : zs = [] ∨ ∃ ad, Al = some ad ∧ ad.block < w1.heap.size ∧ ad.block ≠ p ∧ ∀ j, j < zs.length → w1.cell? (ad.add j) = some (.int .u8 (rd zs (j : Int))) := by
    cases zs with
    | nil => exact .inl rfl
    | cons z zs =>
      obtain ⟨ad, e1, _⟩ := hz1.2.2 (by simp)
      have hp1 := hlp ad e1 (by simp)
      refine .inr ⟨ad, e1, by omega, by omega, fun j hj => ?_⟩
      obtain ⟨ad', e2, hx⟩ := Kd.at_int hz1 (j : Int) (by omega) (by omega)
      rw [e1] at e2
      obtain rfl := Option.some.inj e2
      simpa using hx
  refine wpIn_rangeFunc_ownG rfl (by omega) (gf := 50) (lb := #[.pointer (some ⟨w.heap.size + 2, 0, none⟩)]) rfl trivial (enters_of Try.func50 (by kernel_rfl) rfl)
    (back_stops Fence.wide _ trivial rfl (by omega) (w.heap.size + 2) p w1.heap.size Al cl zs hzl w1 ((blk_cell hx3 0).trans rfl) (by omega) (by omega) (Nat.le_refl _) hC0) KP.trans
    (fun W l o1 o2 hl1 _ _ _ => ⟨by simp, fun k hk _ => World.putObj_heap_other (by omega)⟩) (Below.refl _ _) (fun _ => rfl)
    (fun pre W => ∃ vs', Aside0 (kWas h d (pre.map (·.2)) vs = some vs') ∧ WK W p g o A c cv vs' ∧ Fr w1 W (fun k => k = p))
    (fun c pre W => c = .ret ∧ ∃ er, er ≠ 0 ∧ Aside0 (∀ us, (kWant h d (pre.map (·.2) ++ us) vs).2 = er) ∧ W.heap[w.heap.size + 1]? = some (.cells #[.int .i64 er] 33 (0, 0)) ∧ Fr w1 W (fun k => k = p ∨ k = w.heap.size + 1))
    (fun s W W' row hI hg hr => by
      obtain ⟨vs', h1, h2, h3⟩ := hI
      exact ⟨vs', h1, (hg.block p (blk_lt h2) (fun he => by have := (hr p he.symm).1; omega)).trans h2, h3.grown hg (fun k hk => .inr (hr k hk).1)⟩)
    (fun cc s W W' row hI hg hr => by
      obtain ⟨h0, er, h1, h2, h3, h4⟩ := hI
      exact ⟨h0, er, h1, h2, (hg.block _ (blk_lt h3) (fun he => by have := (hr _ he.symm).1; omega)).trans h3, h4.grown hg (fun k hk => .inr (hr k hk).1)⟩)
    ⟨vs, ⟨rfl⟩, hb1, Fr.refl _ _⟩
    (fun x => { tmps := #[.pointer (some ⟨p, 0, none⟩), .slice Al zs.length cl, .pointer (some ⟨w.heap.size, 0, none⟩), undef, .pointer (some ⟨w.heap.size + 1, 0, none⟩), undef, .int .u8 x.2, undef, undef, .slice Al zs.length cl, .func (.func 50) #[] #[.pointer (some ⟨w.heap.size + 2, 0, none⟩)], .int .i64 x.1, .int .u8 x.2, undef, undef, undef, undef, undef, undef, undef, undef, undef, undef, undef, undef, undef, undef, undef, undef, undef, undef, undef, undef, undef], defers := [] }) ?assign ?body ?done ?stop
  case assign =>
    intro l x W K hK
    gi_wp2
    exact hK
  case body =>
    rintro l pre x W ⟨vs', HWS, hw, hfr⟩ hlt
    have hdep : 1 ≤ 3 - 1 - 1 := by omega
    obtain ⟨m, hm, hvs⟩ := kWas_take HWS.out
    have hv2 : Kd.C (Kd.int .u8) W A vs'.length vs' := by
      have h1 : Kd.C (Kd.int .u8) w1 A (vs.take m).length (vs.take m) := C_take hv1 m
      rw [← hvs] at h1
      refine ⟨h1.1, h1.2.1, fun hn => ?_⟩
      obtain ⟨ad, e1, h2⟩ := h1.2.2 hn
      refine ⟨ad, e1, fun j x hj => ?_⟩
      obtain ⟨cs, l1, l2, l3⟩ := h2 j x hj
      have hbk := hAp ad e1 (by have : vs'.length ≤ vs.length := by rw [hvs, List.length_take]; omega
                                omega)
      refine ⟨cs, l1, l2, fun i u hu => (cell_of_heapA (a := ad.add (j * (Kd.int .u8).sz + i)) (by rw [addBlk]; exact hfr.block _ (by omega) (by omega))).trans (l3 i u hu)⟩
    have hh2 : W.cell? ⟨g, o + 2, none⟩ = some (.int .i64 h) := (cell_of_heap (hfr.block g (by omega) (by omega)) _).trans hh1
    have hd2 : W.cell? ⟨g, o + 3, none⟩ = some (.bool d) := (cell_of_heap (hfr.block g (by omega) (by omega)) _).trans hd1
    have hx1' := (hfr.block _ (by omega) (by omega)).trans hx1
    have hx2' := (hfr.block _ (by omega) (by omega)).trans hx2
    have hcx := (blk_cell hx1' 0).trans rfl
    have hlv : vs'.length < 1000000000 := by rw [hvs, List.length_take]; omega
    have hcv' : vs'.length ≤ c := by rw [hvs, List.length_take]; omega
    have hsn := kWas_snoc (t := x.2) HWS.out
    have hwn := fun us => kWant_was (us := [x.2] ++ us) HWS.out
    have hstep := stkPopA p g o A c cv vs' h d W hw hh2 hd2 hv2 h0 hlv hcv'
    have her := kPop_err vs' h d
    obtain ⟨v2, cc, er, hk⟩ : ∃ v2 cc er, kPop vs' h d = (v2, cc, er) := ⟨_, _, _, rfl⟩
    rw [hk] at hstep her
    simp only [kWas, kWant, List.cons_append, List.nil_append, hk] at hsn hwn
    simp only at hstep her
    have HST := Aside0.mk hstep
    have HSN := Aside0.mk hsn
    have HWN := Aside0.mk hwn
    clear hstep hsn hwn hm hvs hlv hcv' hw hk
    have HFR := Aside0.mk hfr
    have hWsz : w1.heap.size ≤ W.heap.size := hfr.size
    clear hfr
    rcases her with rfl | rfl
    · by_cases c1 : cc = 0
      · have c1b : (cc != 0) = false := bne_eq_false_iff_eq.mpr c1
        have C1 := Aside0.mk c1
        clear c1
        gi_wp2_with (refine ⟨trivial, ?_⟩; gi_at_call 42; refine (CallsIn.inRound l (callsIn_wide.2 HST.out)).mono ?_; rintro e w' ⟨rfl, hf, hw'⟩; have hx2'' := (hf.block _ (blk_lt hx2') (by omega)).trans hx2'; have hcy := (blk_cell hx2'' 0).trans rfl; have hfy := blk_fro hx2'' 0; have HF := Aside0.mk hf; have HW' := Aside0.mk hw'; clear hf hw')
        refine ⟨HF.out.keeps (fun k hk => by rw [hk]; omega), HF.out.kp hWsz, v2, ⟨?_⟩, HW'.out, HFR.out.then_ HF.out (fun k hk => .inl hk)⟩
        have h3 := HSN.out
        rw [List.map_append]
        refine h3.trans ?_
        simp [C1.out]
      · have c1b : (cc != 0) = true := bne_iff_ne.mpr c1
        have C1 := Aside0.mk c1
        clear c1
        by_cases c2 : x.2 = 0
        · have c2b : (x.2 != 0) = false := bne_eq_false_iff_eq.mpr c2
          have C2 := Aside0.mk c2
          clear c2
          gi_wp2_with (refine ⟨trivial, ?_⟩; gi_at_call 42; refine (CallsIn.inRound l (callsIn_wide.2 HST.out)).mono ?_; rintro e w' ⟨rfl, hf, hw'⟩; have hx2'' := (hf.block _ (blk_lt hx2') (by omega)).trans hx2'; have hcy := (blk_cell hx2'' 0).trans rfl; have hfy := blk_fro hx2'' 0; have HF := Aside0.mk hf; have HW' := Aside0.mk hw'; clear hf hw')
          refine ⟨HF.out.keeps (fun k hk => by rw [hk]; omega), HF.out.kp hWsz, v2, ⟨?_⟩, HW'.out, HFR.out.then_ HF.out (fun k hk => .inl hk)⟩
          have h3 := HSN.out
          rw [List.map_append]
          refine h3.trans ?_
          simp [C1.out, C2.out]
        · have c2b : (x.2 != 0) = true := bne_iff_ne.mpr c2
          have C2 := Aside0.mk c2
          clear c2
          by_cases c3 : cc = x.2
          · have c3b : (cc != x.2) = false := bne_eq_false_iff_eq.mpr c3
            have C3 := Aside0.mk c3
            clear c3
            gi_wp2_with (refine ⟨trivial, ?_⟩; gi_at_call 42; refine (CallsIn.inRound l (callsIn_wide.2 HST.out)).mono ?_; rintro e w' ⟨rfl, hf, hw'⟩; have hx2'' := (hf.block _ (blk_lt hx2') (by omega)).trans hx2'; have hcy := (blk_cell hx2'' 0).trans rfl; have hfy := blk_fro hx2'' 0; have HF := Aside0.mk hf; have HW' := Aside0.mk hw'; clear hf hw')
            refine ⟨HF.out.keeps (fun k hk => by rw [hk]; omega), HF.out.kp hWsz, v2, ⟨?_⟩, HW'.out, HFR.out.then_ HF.out (fun k hk => .inl hk)⟩
            have h3 := HSN.out
            rw [List.map_append]
            refine h3.trans ?_
            simp [C1.out, C2.out, C3.out]
          · have c3b : (cc != x.2) = true := bne_iff_ne.mpr c3
            have C3 := Aside0.mk c3
            clear c3
            gi_wp2_with (refine ⟨trivial, ?_⟩; gi_at_call 42; refine (CallsIn.inRound l (callsIn_wide.2 HST.out)).mono ?_; rintro e w' ⟨rfl, hf, hw'⟩; have hx2'' := (hf.block _ (blk_lt hx2') (by omega)).trans hx2'; have hcy := (blk_cell hx2'' 0).trans rfl; have hfy := blk_fro hx2'' 0; have HF := Aside0.mk hf; have HW' := Aside0.mk hw'; clear hf hw')
            refine ⟨((HF.out.mono (F2 := fun k => k = p ∨ k = w.heap.size + 1) (fun k hk => .inl hk)).setCell (p := ⟨w.heap.size + 1, 0, none⟩) (.inl (.inr rfl)) _).keeps (fun k hk => by rcases hk with rfl | rfl <;> omega), rfl, 5, by decide, ⟨fun us => ?_⟩, blk_set hx2'' 0 _, ?_⟩
            · have h3 := HWN.out us
              rw [List.map_append, List.append_assoc]
              refine (congrArg Prod.snd h3).trans ?_
              simp [C1.out, C2.out, C3.out]
            · exact (HFR.out.then_ (HF.out) (fun k hk => .inl hk)).mono (fun k hk => .inl hk) |>.setCell (p := ⟨w.heap.size + 1, 0, none⟩) (.inl (.inr rfl)) _
    · gi_wp2_with (refine ⟨trivial, ?_⟩; gi_at_call 42; refine (CallsIn.inRound l (callsIn_wide.2 HST.out)).mono ?_; rintro e w' ⟨rfl, hf, hw'⟩; have hx2'' := (hf.block _ (blk_lt hx2') (by omega)).trans hx2'; have hcy := (blk_cell hx2'' 0).trans rfl; have hfy := blk_fro hx2'' 0; have HF := Aside0.mk hf; have HW' := Aside0.mk hw'; clear hf hw')
      refine ⟨((HF.out.mono (F2 := fun k => k = p ∨ k = w.heap.size + 1) (fun k hk => .inl hk)).setCell (p := ⟨w.heap.size + 1, 0, none⟩) (.inl (.inr rfl)) _).keeps (fun k hk => by rcases hk with rfl | rfl <;> omega), rfl, 5, by decide, ⟨fun us => ?_⟩, blk_set hx2'' 0 _, ?_⟩
      · have h3 := HWN.out us
        rw [List.map_append, List.append_assoc]
        refine (congrArg Prod.snd h3).trans ?_
        simp []
      · exact (HFR.out.then_ (HF.out) (fun k hk => .inl hk)).mono (fun k hk => .inl hk) |>.setCell (p := ⟨w.heap.size + 1, 0, none⟩) (.inl (.inr rfl)) _
  case done =>
    rintro D ys W hD rfl ⟨vs', HWS, hw, hfr⟩ hK
    have hx2' := (hfr.block _ (by omega) (by omega)).trans hx2
    have hcy := (blk_cell hx2' 0).trans rfl
    have hfy := blk_fro hx2' 0
    have HWS2 := HWS.out
    rw [bk_take zs zs.length (Nat.le_refl _), List.take_of_length_le (by simp)] at HWS2
    have hres : kWant h d zs.reverse vs = (vs', 0) := by
      have := kWant_was (us := []) HWS2
      rwa [List.append_nil] at this
    have HR := Aside0.mk hres
    have HF := Aside0.mk hfr
    have HW := Aside0.mk hw
    clear hres hfr hw
    gi_wp2
    have hK' := (KeepsOthers.setCell W ⟨w.heap.size + 1, 0, none⟩ (.int .i64 0)).same D _ hK rfl
    refine ⟨by simp, .inl ⟨_, _, rfl, run_takeDeferred hK', ?_⟩⟩
    have hx4 := blk_set hx2' 0 (.int .i64 0)
    have hne : w.heap.size + 1 ≠ D := by omega
    have hG := grownBy_putObj' (W.setCell ⟨w.heap.size + 1, 0, none⟩ (.int .i64 0)) D (.deferred none)
    have hx5 := (hG.block (w.heap.size + 1) (blk_lt hx4) (by simp; omega)).trans hx4
    have hc5 := (blk_cell hx5 0).trans rfl
    have HFF := (((Fr.of_below hB1 (F := fun k => k = p)).then_ HF.out (fun k hk => .inl hk)).setCell (p := ⟨w.heap.size + 1, 0, none⟩) (.inr (by simp)) (.int .i64 0)).grown hG (fun k hk => by cases hk; exact .inr (by omega))
    rw [HR.out]
    refine ⟨.int .i64 0, ?_, rfl, HFF, fun _ => ?_⟩
    · simp [results, Try.f41, go_sem, hc5]
    · refine (hG.block p (by simp; exact blk_lt HW.out) (by simp; omega)).trans ?_
      exact (Below.heap_setCell W ⟨w.heap.size + 1, 0, none⟩ (.int .i64 0) p (by show p ≠ w.heap.size + 1; omega)).trans HW.out
  case stop =>
    rintro D cc pre W hD ⟨k, hk, rfl⟩ ⟨rfl, er, her, HU, hx2', hfr⟩ hK
    have hU := HU.out ((zs.reverse).drop k)
    rw [bk_take zs k hk, List.take_append_drop] at hU
    have HU2 := Aside0.mk hU
    have HF := Aside0.mk hfr
    clear hfr
    gi_wp2
    refine ⟨by simp, .inl ⟨_, _, rfl, run_takeDeferred hK, ?_⟩⟩
    have hG := grownBy_putObj' W D (.deferred none)
    have hx5 := (hG.block (w.heap.size + 1) (blk_lt hx2') (by simp; omega)).trans hx2'
    have hc5 := (blk_cell hx5 0).trans rfl
    refine ⟨.int .i64 er, ?_, by rw [HU2.out], ((Fr.of_below hB1 (F := fun k => k = p)).then_ HF.out (fun k hk => by rcases hk with rfl | rfl; exact .inl rfl; exact .inr (by omega))).grown hG (fun k hk => by cases hk; exact .inr (by omega)), fun h0 => absurd (HU2.out.symm.trans h0) her⟩
    simp [results, Try.f41, go_sem, hc5]
end Go.Proofs.Ytagblobimoedcaa.G
