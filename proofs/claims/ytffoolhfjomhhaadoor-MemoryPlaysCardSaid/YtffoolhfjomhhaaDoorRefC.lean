/- The document's memory: Access, Value, Load, Store. -/
import Derived.Test.YtffoolhfjomhhaaDoorRefB
import Derived.Test.YtffoolhfjomhhaaDoorG2
namespace Go.Proofs.YtffoolhfjomhhaaDoor.G
open Go.RowKit Go.Proofs.YtffoolhfjomhhaaDoorW.PrintWords Go.Proofs.YtffoolhfjomhhaaDoorW.PrintLast Go.Proofs.YtffoolhfjomhhaaDoorW.PrintMore
set_option linter.unusedVariables false
set_option linter.unusedSimpArgs false
theorem refAcc_f (op : Int) : avocetref05_Access.f (0+1+1+1+1+1+1+1+1+1) op = some (acc op) := by
  by_cases h : 40 ≤ op ∧ op ≤ 62
  · obtain ⟨i, rfl⟩ : ∃ i : Nat, op = 40 + (i : Int) := ⟨(op - 40).toNat, by omega⟩
    have hi : i < 23 := by omega
    have : ∀ i : Fin 23, avocetref05_Access.f 9 (40 + ((i : Nat) : Int)) = some (acc (40 + ((i : Nat) : Int))) := by decide +kernel
    exact this ⟨i, hi⟩
  · have e : acc op = (0, 0, false, false) := by
      unfold acc
      split
      · rw [accR, List.getD_eq_getElem?_getD, List.getElem?_eq_none (by simp [accT]; omega)]; rfl
      · rfl
    have n : ∀ x : Int, 40 ≤ x → x ≤ 62 → op ≠ x := fun x h0 h1 he => h ⟨by omega, by omega⟩
    rw [e]
    simp [avocetref05_Access.f, avocetref05_Access.j0, avocetref05_Access.j1, avocetref05_Access.j2, avocetref05_Access.j3, avocetref05_Access.j4, n 40 (by decide) (by decide), n 41 (by decide) (by decide), n 44 (by decide) (by decide), n 45 (by decide) (by decide), n 46 (by decide) (by decide), n 47 (by decide) (by decide), n 48 (by decide) (by decide), n 49 (by decide) (by decide), n 50 (by decide) (by decide), n 51 (by decide) (by decide), n 52 (by decide) (by decide), n 53 (by decide) (by decide), n 54 (by decide) (by decide), n 55 (by decide) (by decide), n 58 (by decide) (by decide), n 59 (by decide) (by decide), n 60 (by decide) (by decide), n 61 (by decide) (by decide), n 62 (by decide) (by decide)]
theorem refAcc (op : Int) (w : World) : Calls Tryd.prog 39 #[.int .i64 op] w fun e w' => e = .returned (.tuple #[.int .u8 (acc op).1, .int .i64 (acc op).2.1, .bool (acc op).2.2.1, .bool (acc op).2.2.2]) ∧ Drawn0 w w' :=
  avocetref05_Access.calls _ op _ _ _ _ w (refAcc_f op)
theorem refValue (t v : Int) (w : World) : Calls Tryd.prog 40 #[.int .u8 t, .int .i64 v] w fun e w' => e = .returned (.int .u64 (value t v)) ∧ Drawn0 w w' := by
  refine avocetref02_Value.calls t v _ w ?_
  unfold avocetref02_Value.f value
  split
  · unfold avocetref02_low.f
    rw [if_pos rfl, Option.bind_some, wrap_u64_]
    congr 1
    rw [Int.tmod_eq_emod_of_nonneg (by omega)]
    omega
  · rw [wrap_u64_]
theorem ev_step {b : List Int} {t j n : Nat} (h : t + n ≤ b.length) (hj : j + 1 ≤ n) : ev (seg b (t + j) (n - j)) = b[t + j]'(by omega) + 256 * ev (seg b (t + (j + 1)) (n - (j + 1))) := by
  unfold seg
  rw [List.drop_eq_getElem_cons (show t + j < b.length by omega), show n - j = (n - (j + 1)) + 1 by omega, List.take_succ_cons, show t + j + 1 = t + (j + 1) by omega]
  rfl
theorem ev_top {b : List Int} {t n : Nat} (hO : Oct b) (hn : 0 < n) (h : t + n ≤ b.length) : (128 ≤ b[t + n - 1]'(by omega) ↔ 128 * 256 ^ (n - 1) ≤ ev (seg b t n)) := by
  obtain ⟨k, rfl⟩ : ∃ k, n = k + 1 := ⟨n - 1, by omega⟩
  have h1 := seg_snoc (b := b) (a := t) (n := k) (by omega)
  have h2 := ev_lt (seg_oct hO t k)
  have h3 := ev_nonneg (seg_oct hO t k)
  have h4 : (seg b t k).length = k := seg_length (by omega)
  rw [h4] at h2
  rw [h1, ev_snoc, h4]
  have e : b[t + (k + 1) - 1]'(by omega) = b[t + k]'(by omega) := by congr 1
  rw [e, show k + 1 - 1 = k from rfl]
  generalize b[t + k]'(by omega) = c
  obtain ⟨P, hP⟩ : ∃ P : Int, (256 : Int) ^ k = P := ⟨_, rfl⟩
  rw [hP] at h2 ⊢
  constructor
  · intro hc
    have : P * 128 ≤ P * c := Int.mul_le_mul_of_nonneg_left hc (by omega)
    omega
  · intro hc
    by_cases h0 : 128 ≤ c
    · exact h0
    · have : P * c ≤ P * 127 := Int.mul_le_mul_of_nonneg_left (by omega) (by omega)
      omega
set_option maxHeartbeats 4000000 in
theorem refLoadRaw (p g : Nat) (b : List Int) (c : Nat) (op base off : Int) (t n : Nat) (w : World) (ok : Nat → Prop) (hop : -9223372036854775808 ≤ op ∧ op < 9223372036854775808) (hb : 0 ≤ base ∧ base < 18446744073709551616) (ho : 0 ≤ off ∧ off < 18446744073709551616)
    (h : w.cell? ⟨p, 0, none⟩ = some (.slice (some ⟨g, 0, none⟩) b.length c)) (hlen : b.length ≤ 4294967295) (hc : b.length ≤ c)
    (hR : (Kd.int .u8).R 5 w 0 ok (.slice (some ⟨g, 0, none⟩) b.length c) b) (hOct : Oct b)
    (ty : Int) (sg : Bool) (hacc : acc op = (ty, (n : Int), sg, false)) (hn : 0 < n ∧ n ≤ 8) (hsg : sg = true → n = 1 ∨ n = 2 ∨ n = 4) (he : base + off = (t : Int)) (hf : mFits b.length base off n = true) :
    Calls Tryd.prog 33 #[.pointer (some ⟨p, 0, none⟩), .int .i64 op, .int .u64 base, .int .u64 off] w fun e w' => e = .returned (.tuple #[.int .u64 (mVal sg ty n (ev (seg b t n))), .bool true]) ∧ Below w.heap.size w w' := by
  have HR := Aside0.mk hR
  have HO := Aside0.mk hOct
  clear hR hOct
  obtain ⟨h1, h2, h3, h4⟩ := mFits_iff.1 hf
  have hn0 : ((n : Int) == 0) = false := beq_eq_false_iff_ne.2 (by omega)
  obtain ⟨hn1, hn8⟩ := hn
  have hsum : IntKind.u64.wrap (base + off) = (t : Int) := by rw [wrap_u64_]; omega
  have htt : IntKind.i64.wrap (t : Int) = (t : Int) := by rw [IntKind.wrap_i64]; omega
  go_enter Tryd.func33, Tryd.ntmps33
  go_wp2_with (first
    | (go_at_call 39; (with_reducible refine (refAcc op _).mono ?_); rintro e w1 ⟨rfl, ⟨nd, rfl⟩⟩; rw [hacc])
    | (go_at_call 38; (with_reducible refine (refFits p (some ⟨g, 0, none⟩) b.length c base off n _ hlen hb ho (by omega) (by first | exact h | simpa [go_sem] using h)).mono ?_); rintro e w' ⟨rfl, ⟨nd2, rfl⟩⟩; rw [hf]))
  go_loopw [15, 16] (fun v15 v16 wr => ∃ (j : Nat) (q : Int), v16 = .int .i64 q ∧ q = (j : Int) - 1 ∧ v15 = .int .u64 (ev (seg b (t + j) (n - j))) ∧ j ≤ n ∧ Aside0 (Below w.heap.size w wr)) (fun _ v16 _ => (intOf v16 + 1).toNat)
  case atStart => exact ⟨n, _, rfl, by omega, by rw [Nat.sub_self]; rfl, Nat.le_refl _, ⟨by repeat (first | exact Below.refl _ _ | apply pw_below_drewN)⟩⟩
  case round =>
    obtain ⟨j, q, rfl, hq, rfl, hk, HB2⟩ := hrel
    have h' := pw_cell_below HB2.out h
    cases j with
    | succ i =>
      obtain rfl : q = (i : Int) := by omega
      clear hq
      have d1 : decide (0 ≤ (i : Int)) = true := decide_eq_true (by omega)
      have hst := ev_step (b := b) (t := t) (j := i) (n := n) (by omega) hk
      have hev0 := ev_nonneg (seg_oct HO.out (t + (i + 1)) (n - (i + 1)))
      have hev1 := ev_lt (seg_oct HO.out (t + i) (n - i))
      have hev2 := ev_nonneg (seg_oct HO.out (t + i) (n - i))
      rw [seg_length (by omega)] at hev1
      have hpow : (256 : Int) ^ (n - i) ≤ 18446744073709551616 := by
        have h8 := Nat.pow_le_pow_right (show 0 < 256 by decide) (show n - i ≤ 8 by omega)
        rw [show (256 : Int) ^ (n - i) = ((256 ^ (n - i) : Nat) : Int) from (Int.natCast_pow 256 _).symm]
        exact Int.le_trans (Int.ofNat_le.2 h8) (by decide)
      have hlt : t + i < b.length := by omega
      have hx := pw_cell_below HB2.out (Kd.R_celln 0 HR.out ((t + i : Nat) : Int) (by omega) (by omega)).1
      simp only [Int.toNat_natCast] at hx
      rw [rdOf_get hlt] at hx
      have hcx := HO.out _ (List.getElem_mem hlt)
      obtain ⟨x, hx0⟩ : ∃ x, b[t + i] = x := ⟨_, rfl⟩
      rw [hx0] at hx hcx hst
      obtain ⟨u, hu⟩ : ∃ u, ev (seg b (t + (i + 1)) (n - (i + 1))) = u := ⟨_, rfl⟩
      obtain ⟨u', hu'⟩ : ∃ u, ev (seg b (t + i) (n - i)) = u := ⟨_, rfl⟩
      rw [hu] at hev0
      rw [hu'] at hev1 hev2
      rw [hu, hu'] at hst
      obtain ⟨ti, hti⟩ : ∃ k, t + i = k := ⟨_, rfl⟩
      have hw1 : IntKind.u64.wrap (u * 256) = u * 256 := by rw [wrap_u64_]; omega
      have hw2 : IntKind.u64.wrap x = x := by rw [wrap_u64_]; omega
      have hw3 : IntKind.u64.wrap (u * 256 + x) = u' := by rw [wrap_u64_]; omega
      have hw4 : IntKind.i64.wrap ((t : Int) + (i : Int)) = (ti : Int) := by rw [IntKind.wrap_i64]; omega
      have hw5 : IntKind.i64.wrap ((i : Int) - 1) = (i : Int) - 1 := by rw [IntKind.wrap_i64]; omega
      rw [hti] at hx hlt
      have HU := Aside0.mk hu'
      rw [hu]
      clear hev1 hev2 hpow hst hu hu' hx0
      go_wp2
      exact ⟨⟨i, _, rfl, by omega, by rw [HU.out], by omega, HB2⟩, by simp [intOf]⟩
    | zero =>
      obtain rfl : q = -1 := by omega
      clear hq
      rw [Nat.sub_zero, Nat.add_zero]
      have hev0 := ev_nonneg (seg_oct HO.out t n)
      have hev1 := ev_lt (seg_oct HO.out t n)
      rw [seg_length (by omega)] at hev1
      cases sg with
      | false =>
        go_wp2
        go_ret2
        exact ⟨rfl, HB2.out⟩
      | true =>
        have hlt : t + n - 1 < b.length := by omega
        have htop := ev_top (b := b) (t := t) (n := n) HO.out hn1 (by omega)
        have hx := pw_cell_below HB2.out (Kd.R_celln 0 HR.out ((t + n - 1 : Nat) : Int) (by omega) (by omega)).1
        simp only [Int.toNat_natCast] at hx
        rw [rdOf_get hlt] at hx
        obtain ⟨x, hx0⟩ : ∃ x, b[t + n - 1] = x := ⟨_, rfl⟩
        rw [hx0] at hx htop
        obtain ⟨u, hu⟩ : ∃ u, ev (seg b t n) = u := ⟨_, rfl⟩
        rw [hu] at hev0 hev1 htop
        have HU := Aside0.mk hu
        rw [hu]
        obtain ⟨tl, htl⟩ : ∃ k, t + n - 1 = k := ⟨_, rfl⟩
        rw [htl] at hx hlt
        obtain ⟨tn, htn⟩ : ∃ k, t + n = k := ⟨_, rfl⟩
        have hw6 : IntKind.i64.wrap ((t : Int) + (n : Int)) = (tn : Int) := by rw [IntKind.wrap_i64]; omega
        have hw7 : IntKind.i64.wrap ((tn : Int) - 1) = (tl : Int) := by rw [IntKind.wrap_i64]; omega
        by_cases cx : 128 ≤ x
        · have dx : decide (128 ≤ x) = true := decide_eq_true cx
          have hlo := htop.1 cx
          have HV : ∀ k, n = k → mVal true ty k u = value ty (u - 256 ^ k) := by
            rintro k rfl
            unfold mVal sext
            rw [if_pos rfl, if_neg (by omega)]
          have HVA := Aside0.mk HV
          clear htop hu hx0 HV hw6
          rcases hsg rfl with rfl | rfl | rfl
          · have hw8 : IntKind.i64.wrap u = u := by rw [IntKind.wrap_i64]; omega
            have hw9 : IntKind.i64.wrap (u - 256) = u - 256 := by rw [IntKind.wrap_i64]; omega
            have hw6 : IntKind.i64.wrap ((t : Int) + 1) = (tn : Int) := by rw [IntKind.wrap_i64]; omega
            clear htl htn
            go_wp2_with (go_at_call 40; (with_reducible refine (refValue ty _ _).mono ?_); rintro e w' ⟨rfl, ⟨nd3, rfl⟩⟩)
            go_ret2
            exact ⟨by rw [HU.out, HVA.out 1 rfl]; rfl, by repeat (first | exact HB2.out | apply pw_below_drewN)⟩
          · have hw8 : IntKind.i64.wrap u = u := by rw [IntKind.wrap_i64]; omega
            have hw9 : IntKind.i64.wrap (u - 65536) = u - 65536 := by rw [IntKind.wrap_i64]; omega
            have hw6 : IntKind.i64.wrap ((t : Int) + 2) = (tn : Int) := by rw [IntKind.wrap_i64]; omega
            clear htl htn
            go_wp2_with (go_at_call 40; (with_reducible refine (refValue ty _ _).mono ?_); rintro e w' ⟨rfl, ⟨nd3, rfl⟩⟩)
            go_ret2
            exact ⟨by rw [HU.out, HVA.out 2 rfl]; rfl, by repeat (first | exact HB2.out | apply pw_below_drewN)⟩
          · have hw8 : IntKind.i64.wrap u = u := by rw [IntKind.wrap_i64]; omega
            have hw9 : IntKind.i64.wrap (u - 4294967296) = u - 4294967296 := by rw [IntKind.wrap_i64]; omega
            have hw6 : IntKind.i64.wrap ((t : Int) + 4) = (tn : Int) := by rw [IntKind.wrap_i64]; omega
            clear htl htn
            go_wp2_with (go_at_call 40; (with_reducible refine (refValue ty _ _).mono ?_); rintro e w' ⟨rfl, ⟨nd3, rfl⟩⟩)
            go_ret2
            exact ⟨by rw [HU.out, HVA.out 4 rfl]; rfl, by repeat (first | exact HB2.out | apply pw_below_drewN)⟩
        · have dx : decide (128 ≤ x) = false := decide_eq_false cx
          have hlo : ¬ 128 * 256 ^ (n - 1) ≤ u := fun hh => cx (htop.2 hh)
          obtain ⟨uu, huu⟩ : ∃ uu, uu = mVal true ty n u ∧ uu = u := ⟨u, by
            unfold mVal sext value
            rw [if_pos rfl, if_pos (Int.not_le.1 hlo)]
            rcases hsg rfl with rfl | rfl | rfl <;> (split <;> omega), rfl⟩
          have HUU := Aside0.mk (huu.1.symm.trans huu.2)
          clear htop hlo huu hu hx0 htl htn
          go_wp2
          go_ret2
          exact ⟨by rw [HU.out, HUU.out]; rfl, HB2.out⟩
theorem refLoadNo (p : Nat) (A : Option Addr) (n c : Nat) (op base off : Int) (w : World) (hb : 0 ≤ base ∧ base < 18446744073709551616) (ho : 0 ≤ off ∧ off < 18446744073709551616)
    (h : w.cell? ⟨p, 0, none⟩ = some (.slice A n c)) (hlen : n ≤ 4294967295) (hf : (acc op).2.1 = 0 ∨ (acc op).2.2.2 = true ∨ mFits n base off (acc op).2.1 = false) :
    Calls Tryd.prog 33 #[.pointer (some ⟨p, 0, none⟩), .int .i64 op, .int .u64 base, .int .u64 off] w fun e w' => e = .returned (.tuple #[.int .u64 0, .bool false]) ∧ Below w.heap.size w w' := by
  have hk := acc_ok op
  rcases ha : acc op with ⟨ty, k, sg, st⟩
  rw [ha] at hf hk
  by_cases c0 : k = 0
  · subst c0
    go_enter Tryd.func33, Tryd.ntmps33
    go_wp2_with (first
      | (go_at_call 39; (with_reducible refine (refAcc op _).mono ?_); rintro e w1 ⟨rfl, ⟨nd, rfl⟩⟩; rw [ha]))
    go_ret2
    exact ⟨rfl, by repeat (first | exact Below.refl _ _ | apply pw_below_drewN)⟩
  · have d0 : (k == 0) = false := beq_eq_false_iff_ne.2 c0
    cases st with
    | true =>
      go_enter Tryd.func33, Tryd.ntmps33
      go_wp2_with (first
        | (go_at_call 39; (with_reducible refine (refAcc op _).mono ?_); rintro e w1 ⟨rfl, ⟨nd, rfl⟩⟩; rw [ha]))
      go_ret2
      exact ⟨rfl, by repeat (first | exact Below.refl _ _ | apply pw_below_drewN)⟩
    | false =>
      have hf : mFits n base off k = false := by rcases hf with hf | hf | hf; exact absurd hf c0; exact absurd hf Bool.false_ne_true; exact hf
      go_enter Tryd.func33, Tryd.ntmps33
      go_wp2_with (first
        | (go_at_call 39; (with_reducible refine (refAcc op _).mono ?_); rintro e w1 ⟨rfl, ⟨nd, rfl⟩⟩; rw [ha])
        | (go_at_call 38; (with_reducible refine (refFits p A n c base off k _ hlen hb ho (by have := hk.1; have := hk.2.1; omega) (by first | exact h | simpa [go_sem] using h)).mono ?_); rintro e w' ⟨rfl, ⟨nd2, rfl⟩⟩; rw [hf]))
      go_ret2
      exact ⟨rfl, by repeat (first | exact Below.refl _ _ | apply pw_below_drewN)⟩
theorem refLoad {w0 w : World} {L : List As} {p : Nat} {m : Mem} (hS : SB w0 w (RO p m :: L)) (hm : Good m) (op base off : Int) (hop : -9223372036854775808 ≤ op ∧ op < 9223372036854775808) (hb : 0 ≤ base ∧ base < 18446744073709551616) (ho : 0 ≤ off ∧ off < 18446744073709551616) :
    Calls Tryd.prog 33 #[.pointer (some ⟨p, 0, none⟩), .int .i64 op, .int .u64 base, .int .u64 off] w fun e w' => e = .returned (.tuple #[.int .u64 (mLoad m.b op base off).1, .bool (mLoad m.b op base off).2]) ∧ Below w.heap.size w w' := by
  obtain ⟨F, hF, _⟩ := hS.head
  obtain ⟨A, c, hblk, hR, hc, hp, hl⟩ := RO.open_ hF
  have h : w.cell? ⟨p, 0, none⟩ = some (.slice A m.b.length c) := (blk_cell hblk 0).trans rfl
  have hk := acc_ok op
  by_cases c1 : (acc op).2.1 = 0 ∨ (acc op).2.2.2 = true ∨ mFits m.b.length base off (acc op).2.1 = false
  · have hr : mLoad m.b op base off = (0, false) := if_neg (fun hh => by rcases c1 with c1 | c1 | c1; exact hh.2.1 c1; rw [c1] at hh; exact absurd hh.1 (by decide); rw [c1] at hh; exact absurd hh.2.2 (by decide))
    rw [hr]
    exact refLoadNo p A _ c op base off w hb ho h hm.2 c1
  · have c2 : (acc op).2.1 ≠ 0 := fun e => c1 (.inl e)
    have st : (acc op).2.2.2 = false := by cases hh : (acc op).2.2.2; rfl; exact absurd (.inr (.inl hh)) c1
    have c3 : mFits m.b.length base off (acc op).2.1 = true := by cases hh : mFits m.b.length base off (acc op).2.1; exact absurd (.inr (.inr hh)) c1; rfl
    obtain ⟨q1, q2, q3, q4⟩ := mFits_iff.1 c3
    obtain ⟨k, hk'⟩ : ∃ k : Nat, (acc op).2.1 = (k : Int) := ⟨(acc op).2.1.toNat, by omega⟩
    obtain ⟨t, ht⟩ : ∃ t : Nat, base + off = (t : Int) := ⟨(base + off).toNat, by omega⟩
    rw [hk'] at c3 q3 q4 c2
    have hpos : 0 < m.b.length := by omega
    obtain ⟨g, cap, hv, hg0, hg1, _⟩ := Kd.R_form hR hpos
    injection hv with hA _ hcap
    subst hA
    have hr : mLoad m.b op base off = (mVal (acc op).2.2.1 (acc op).1 k (ev (seg m.b t k)), true) := by
      unfold mLoad
      rw [if_pos ⟨st, by omega, by rw [hk']; exact c3⟩, hk', ht, Int.toNat_natCast, Int.toNat_natCast]
    rw [hr]
    exact refLoadRaw p g m.b c op base off t k w _ hop hb ho h hm.2 hc hR hm.1 (acc op).1 (acc op).2.2.1 (by rw [← hk', ← st]) (by omega) (fun hs => by have := (hk.2.2.1 hs).1; omega) ht c3
theorem refStoreNo (p : Nat) (A : Option Addr) (n c : Nat) (op base off v : Int) (w : World) (hb : 0 ≤ base ∧ base < 18446744073709551616) (ho : 0 ≤ off ∧ off < 18446744073709551616)
    (h : w.cell? ⟨p, 0, none⟩ = some (.slice A n c)) (hlen : n ≤ 4294967295) (hf : (acc op).2.2.2 = false ∨ mFits n base off (acc op).2.1 = false) :
    Calls Tryd.prog 34 #[.pointer (some ⟨p, 0, none⟩), .int .i64 op, .int .u64 base, .int .u64 off, .int .u64 v] w fun e w' => e = .returned (.bool false) ∧ Below w.heap.size w w' := by
  have hk := acc_ok op
  rcases ha : acc op with ⟨ty, k, sg, st⟩
  rw [ha] at hf hk
  cases st with
  | false =>
    go_enter Tryd.func34, Tryd.ntmps34
    go_wp2_with (first
      | (go_at_call 39; (with_reducible refine (refAcc op _).mono ?_); rintro e w1 ⟨rfl, ⟨nd, rfl⟩⟩; rw [ha]))
    go_ret
    exact ⟨rfl, by repeat (first | exact Below.refl _ _ | apply pw_below_drewN)⟩
  | true =>
    have hf : mFits n base off k = false := by rcases hf with hf | hf; exact absurd hf.symm Bool.false_ne_true; exact hf
    go_enter Tryd.func34, Tryd.ntmps34
    go_wp2_with (first
      | (go_at_call 39; (with_reducible refine (refAcc op _).mono ?_); rintro e w1 ⟨rfl, ⟨nd, rfl⟩⟩; rw [ha])
      | (go_at_call 38; (with_reducible refine (refFits p A n c base off k _ hlen hb ho (by have := hk.1; have := hk.2.1; omega) (by first | exact h | simpa [go_sem] using h)).mono ?_); rintro e w' ⟨rfl, ⟨nd2, rfl⟩⟩; rw [hf]))
    go_ret
    exact ⟨rfl, by repeat (first | exact Below.refl _ _ | apply pw_below_drewN)⟩
set_option maxHeartbeats 4000000 in
theorem refStoreRaw (p g : Nat) (b : List Int) (c : Nat) (op base off : Int) (v t n : Nat) (w : World) (ok : Nat → Prop) (hb : 0 ≤ base ∧ base < 18446744073709551616) (ho : 0 ≤ off ∧ off < 18446744073709551616) (hv : v < 18446744073709551616)
    (hpg : p ≠ g) (cs : List Value) (hblk : w.heap[p]? = some (.cells (.slice (some ⟨g, 0, none⟩) b.length c :: cs).toArray 60 (0, 0))) (hlen : b.length ≤ 4294967295) (hc : b.length ≤ c)
    (hR : (Kd.int .u8).R 5 w 0 ok (.slice (some ⟨g, 0, none⟩) b.length c) b)
    (ty : Int) (sg : Bool) (hacc : acc op = (ty, (n : Int), sg, true)) (hn : 0 < n ∧ n ≤ 8) (he : base + off = (t : Int)) (hf : mFits b.length base off n = true) :
    Calls Tryd.prog 34 #[.pointer (some ⟨p, 0, none⟩), .int .i64 op, .int .u64 base, .int .u64 off, .int .u64 v] w fun e w' => e = .returned (.bool true) ∧
      (Kd.int .u8).R 5 w' 0 ok (.slice (some ⟨g, 0, none⟩) b.length c) (splice b t (le n v)) ∧ Fr w w' (fun x => x = g) := by
  have HR := Aside0.mk hR
  have h : w.cell? ⟨p, 0, none⟩ = some (.slice (some ⟨g, 0, none⟩) b.length c) := (blk_cell hblk 0).trans rfl
  have HBLK := Aside0.mk hblk
  clear hR hblk
  obtain ⟨h1, h2, h3, h4⟩ := mFits_iff.1 hf
  obtain ⟨hn1, hn8⟩ := hn
  have hsum : IntKind.u64.wrap (base + off) = (t : Int) := by rw [wrap_u64_]; omega
  have htt : IntKind.i64.wrap (t : Int) = (t : Int) := by rw [IntKind.wrap_i64]; omega
  go_enter Tryd.func34, Tryd.ntmps34
  go_wp2_with (first
    | (go_at_call 39; (with_reducible refine (refAcc op _).mono ?_); rintro e w1 ⟨rfl, ⟨nd, rfl⟩⟩; rw [hacc])
    | (go_at_call 38; (with_reducible refine (refFits p (some ⟨g, 0, none⟩) b.length c base off n _ hlen hb ho (by omega) (by first | exact h | simpa [go_sem] using h)).mono ?_); rintro e w' ⟨rfl, ⟨nd2, rfl⟩⟩; rw [hf]))
  go_loopw [4, 16] (fun v4 v16 wr => ∃ (j : Nat) (x : Int), v16 = .int .i64 j ∧ v4 = .int .u64 x ∧ x = ((v / 256 ^ j : Nat) : Int) ∧ j ≤ n ∧ Aside0 ((Kd.int .u8).R 5 wr 0 ok (.slice (some ⟨g, 0, none⟩) b.length c) (splice b t (le j v))) ∧ Aside0 (Fr w wr (fun x => x = g))) (fun _ v16 _ => n - (intOf v16).toNat)
  case atStart => exact ⟨0, _, rfl, rfl, by simp, Nat.zero_le _, ⟨by rw [show le 0 v = [] from rfl, splice_nil]; repeat (first | exact HR.out | apply Kd.R_drewN)⟩, ⟨by repeat (first | exact Fr.refl _ _ | apply Fr.drewN)⟩⟩
  case round =>
    obtain ⟨j, x, rfl, rfl, hx0, hk, HRk, HF⟩ := hrel
    have h' : wr.cell? ⟨p, 0, none⟩ = some (.slice (some ⟨g, 0, none⟩) b.length c) := (blk_cell ((HF.out.block p (blk_lt HBLK.out) hpg).trans HBLK.out) 0).trans rfl
    by_cases hlt : j < n
    · have d1 : decide ((j : Int) < (n : Int)) = true := decide_eq_true (by omega)
      have d2 : decide (j < n) = true := decide_eq_true hlt
      obtain ⟨hx, hfz⟩ := Kd.R_celln 0 HRk.out ((t + j : Nat) : Int) (by omega) (by omega)
      simp only [Int.toNat_natCast] at hx hfz
      have hp := Kd.R_putn HRk.out ((t + j : Nat) : Int) ((v / 256 ^ j % 256 : Nat) : Int)
      rw [Int.toNat_natCast] at hp
      have hs := splice_snoc (b := b) (l := le j v) (a := t) ((v / 256 ^ j % 256 : Nat) : Int) (by rw [le_length]; omega)
      rw [le_length, ← le_snoc] at hs
      rw [hs] at hp
      have hdd : v / 256 ^ (j + 1) = v / 256 ^ j / 256 := by rw [Nat.pow_succ, Nat.div_div_eq_div_mul]
      have hle : v / 256 ^ j ≤ v := Nat.div_le_self _ _
      obtain ⟨y, hy⟩ : ∃ y, v / 256 ^ j % 256 = y := ⟨_, rfl⟩
      obtain ⟨z, hz⟩ : ∃ z, v / 256 ^ j / 256 = z := ⟨_, rfl⟩
      rw [hy] at hp
      obtain ⟨tj, htj⟩ : ∃ k, t + j = k := ⟨_, rfl⟩
      rw [htj] at hx hfz hp
      have hw1 : IntKind.i64.wrap ((t : Int) + (j : Int)) = (tj : Int) := by rw [IntKind.wrap_i64]; omega
      have hw2 : Int.tmod x 256 = (y : Int) := by rw [Int.tmod_eq_emod_of_nonneg (by omega)]; omega
      have hw3 : Int.tdiv x 256 = (z : Int) := by rw [Int.tdiv_eq_ediv_of_nonneg (by omega)]; omega
      have hw4 : IntKind.u8.wrap (y : Int) = (y : Int) := by simp [IntKind.wrap, IntKind.signed, IntKind.bits]; omega
      have hw5 : IntKind.u64.wrap (z : Int) = (z : Int) := by rw [wrap_u64_]; omega
      have hlt3 : tj < b.length := by omega
      have HP := Aside0.mk hp
      have HZ := Aside0.mk (hdd.trans hz)
      have HT := Aside0.mk htj
      clear hp hs hdd hy hz hx0 hle htj
      go_wp2
      refine ⟨⟨j + 1, _, rfl, rfl, by rw [HZ.out], by omega, ⟨HP.out⟩, ⟨HF.out.setCell (p := ⟨g, tj, none⟩) (.inl rfl) _⟩⟩, by simp [intOf]; omega⟩
    · have d1 : decide ((j : Int) < (n : Int)) = false := decide_eq_false (by omega)
      have d2 : decide (j < n) = false := decide_eq_false hlt
      obtain rfl : j = n := by omega
      clear hx0
      go_wp2
      go_ret
      exact ⟨rfl, HRk.out, HF.out⟩
theorem RO.upd {w0 w w' : World} {L : List As} {p g : Nat} {m : Mem} {c n : Nat} {b : List Int} (hS : SB w0 w (RO p m :: L))
    (hu : ∀ ok : Nat → Prop, (Kd.int .u8).R 5 w 0 ok (.slice (some ⟨g, 0, none⟩) m.b.length c) m.b → (Kd.int .u8).R 5 w' 0 ok (.slice (some ⟨g, 0, none⟩) n c) b)
    (hb : w.heap[p]? = some (.cells #[.slice (some ⟨g, 0, none⟩) m.b.length c, .int .i64 m.lo, .int .i64 m.hi, .bool m.has] 60 (0, 0))) (hf : Fr w w' (fun x => x = g)) (hn : n = m.b.length) : SB w0 w' (RO p { m with b := b } :: L) := by
  subst hn
  refine hS.upd (fun F hF hge => ?_)
  obtain ⟨A, c', hb', hR, hc, hp, hl⟩ := RO.open_ hF
  rw [hb] at hb'
  simp only [Option.some.injEq, Obj.cells.injEq, Array.mk.injEq, List.cons.injEq, Value.slice.injEq] at hb'
  obtain ⟨⟨⟨rfl, _, rfl⟩, _⟩, _⟩ := hb'
  have hg := hR.1 g (by simp [Value.ownBlock])
  refine ⟨F, ⟨_, (hf.block p (blk_lt hb) (fun e => hg.2 e.symm)).trans hb, hu _ hR, hp, fun k hk => Nat.lt_of_lt_of_le (hl k hk) hf.size⟩, hf.mono (fun k hk => by rw [hk]; exact hg.1), fun k hk => .inl hk⟩
theorem refStore {w0 w : World} {L : List As} {p : Nat} {m : Mem} (hS : SB w0 w (RO p m :: L)) (hm : Good m) (op base off v : Int) (hop : -9223372036854775808 ≤ op ∧ op < 9223372036854775808) (hb : 0 ≤ base ∧ base < 18446744073709551616) (ho : 0 ≤ off ∧ off < 18446744073709551616) (hv : 0 ≤ v ∧ v < 18446744073709551616) :
    Calls Tryd.prog 34 #[.pointer (some ⟨p, 0, none⟩), .int .i64 op, .int .u64 base, .int .u64 off, .int .u64 v] w fun e w' => e = .returned (.bool (mStore m.b op base off v).isSome) ∧ SB w0 w' (RO p { m with b := (mStore m.b op base off v).getD m.b } :: L) := by
  obtain ⟨F, hF, _⟩ := hS.head
  obtain ⟨A, c, hblk, hR, hc, hp, hl⟩ := RO.open_ hF
  have h : w.cell? ⟨p, 0, none⟩ = some (.slice A m.b.length c) := (blk_cell hblk 0).trans rfl
  have hk := acc_ok op
  by_cases c1 : (acc op).2.2.2 = false ∨ mFits m.b.length base off (acc op).2.1 = false
  · have hr : mStore m.b op base off v = none := if_neg (fun hh => by
      rcases c1 with c1 | c1
      · rw [c1] at hh; exact absurd hh.1 (by decide)
      · rw [c1] at hh; exact absurd hh.2 (by decide))
    rw [hr]
    refine (refStoreNo p A _ c op base off v w hb ho h hm.2 c1).mono ?_
    rintro e w' ⟨rfl, hb⟩
    exact ⟨rfl, hS.below hb⟩
  · have st : (acc op).2.2.2 = true := by cases hh : (acc op).2.2.2; exact absurd (.inl hh) c1; rfl
    have c2 := hk.2.2.2 st
    have c3 : mFits m.b.length base off (acc op).2.1 = true := by cases hh : mFits m.b.length base off (acc op).2.1; exact absurd (.inr hh) c1; rfl
    obtain ⟨q1, q2, q3, q4⟩ := mFits_iff.1 c3
    obtain ⟨k, hk'⟩ : ∃ k : Nat, (acc op).2.1 = (k : Int) := ⟨(acc op).2.1.toNat, by omega⟩
    obtain ⟨t, ht⟩ : ∃ t : Nat, base + off = (t : Int) := ⟨(base + off).toNat, by omega⟩
    rw [hk'] at c3 q3 q4 c2
    have hpos : 0 < m.b.length := by omega
    obtain ⟨g, cap, hvv, hg0, hg1, _⟩ := Kd.R_form hR hpos
    injection hvv with hA _ hcap
    subst hA
    obtain ⟨vn, rfl⟩ := Int.eq_ofNat_of_zero_le hv.1
    have hr : mStore m.b op base off vn = some (splice m.b t (le k vn)) := by
      unfold mStore
      rw [if_pos ⟨st, by rw [hk']; exact c3⟩, hk', ht, Int.toNat_natCast, Int.toNat_natCast, Int.toNat_natCast]
    rw [hr]
    have hg := hR.1 g (by simp [Value.ownBlock])
    refine (refStoreRaw p g m.b c op base off vn t k w _ hb ho (by omega) (fun e => hg.2 e.symm) _ hblk hm.2 hc hR (acc op).1 (acc op).2.2.1 (by rw [← hk', ← st]) (by omega) ht c3).mono ?_
    rintro e w' ⟨rfl, hR', hf⟩
    refine ⟨rfl, RO.upd hS (fun ok hok => ?_) hblk hf rfl⟩
    exact Kd.R_reok rfl hR' (fun k_ e_ => hok.1 k_ e_)
end Go.Proofs.YtffoolhfjomhhaaDoor.G
