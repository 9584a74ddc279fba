/- The walks of package memory's functions, as layer 16 has them. -/
import Derived.Deep.DeepMust
import Derived.Deep.RegionHeld3
import Derived.Test.YtbjglicdamenhaaHstG
import Derived.Test.YtbjglicdamenhaaG2
namespace Go.Proofs.Ytbjglicdamenhaa.G
open Go.RowKit Go.Proofs.YtbjglicdamenhaaW.PrintWords Go.Proofs.YtbjglicdamenhaaW.PrintLast Go.Proofs.YtbjglicdamenhaaW.PrintMore
attribute [local go_sem] max2_int min2_int max_two min_two max_three min_three max_four min_four   -- for this text's walks alone
set_option linter.unusedVariables false
set_option linter.unusedSimpArgs false
structure Mem where
  b : List Int
  lo : Int
  hi : Int
  has : Bool
theorem memAll (p : Nat) (A : Option Addr) (n c : Nat) (w : World) (h : w.cell? ⟨p, 0, none⟩ = some (.slice A n c)) :
    Calls Try.prog 43 #[.pointer (some ⟨p, 0, none⟩)] w fun e w' => e = .returned (.slice A n c) ∧ Drawn0 w w' := by
  go_enter Try.func43, Try.ntmps43
  go_wp2
  go_ret
  exact ⟨rfl, by repeat (first | exact Drawn0.refl _ | apply Drawn0.step)⟩
def mFits (n : Nat) (base off k : Int) : Bool := decide (base ≤ 4294967295) && decide (off ≤ 4294967295) && decide (0 ≤ k) && decide (base + off + k ≤ n)
theorem memFits (p : Nat) (A : Option Addr) (n c : Nat) (base off k : Int) (w : World) (hn : n ≤ 4294967295) (hb : 0 ≤ base ∧ base < 18446744073709551616) (ho : 0 ≤ off ∧ off < 18446744073709551616) (hk : -9223372036854775808 ≤ k ∧ k < 9223372036854775808) (h : w.cell? ⟨p, 0, none⟩ = some (.slice A n c)) :
    Calls Try.prog 48 #[.pointer (some ⟨p, 0, none⟩), .int .u64 base, .int .u64 off, .int .i64 k] w fun e w' => e = .returned (.bool (mFits n base off k)) ∧ Drawn0 w w' := by
  obtain ⟨hb0, hb1⟩ := hb
  obtain ⟨ho0, ho1⟩ := ho
  obtain ⟨hk0, hk1⟩ := hk
  by_cases c1 : base ≤ 4294967295
  · have d1 : decide (base ≤ 4294967295) = true := decide_eq_true c1
    by_cases c2 : off ≤ 4294967295
    · have d2 : decide (off ≤ 4294967295) = true := decide_eq_true c2
      by_cases c3 : 0 ≤ k
      · have d3 : decide (0 ≤ k) = true := decide_eq_true c3
        by_cases c4 : k ≤ 4294967295
        · have d4 : decide (k ≤ 4294967295) = true := decide_eq_true c4
          by_cases c5 : base + off + k ≤ n
          · have d5 : decide (base + off + k ≤ (n : Int)) = true := decide_eq_true c5
            go_enter Try.func48, Try.ntmps48
            go_wp2_with (go_at_call 43; refine (memAll p A n c _ h).mono ?_; rintro e w' ⟨rfl, ⟨nd, rfl⟩⟩)
            go_ret
            exact ⟨by simp [mFits, *], _, rfl⟩
          · have d5 : decide (base + off + k ≤ (n : Int)) = false := decide_eq_false c5
            go_enter Try.func48, Try.ntmps48
            go_wp2_with (go_at_call 43; refine (memAll p A n c _ h).mono ?_; rintro e w' ⟨rfl, ⟨nd, rfl⟩⟩)
            go_ret
            exact ⟨by simp [mFits, *], _, rfl⟩
        · have d4 : decide (k ≤ 4294967295) = false := decide_eq_false c4
          have d5 : decide (base + off + k ≤ (n : Int)) = false := decide_eq_false (by omega)
          go_enter Try.func48, Try.ntmps48
          go_wp2
          go_ret
          exact ⟨by simp [mFits, *], by repeat (first | exact Drawn0.refl _ | apply Drawn0.step)⟩
      · have d3 : decide (0 ≤ k) = false := decide_eq_false c3
        go_enter Try.func48, Try.ntmps48
        go_wp2
        go_ret
        exact ⟨by simp [mFits, *], by repeat (first | exact Drawn0.refl _ | apply Drawn0.step)⟩
    · have d2 : decide (off ≤ 4294967295) = false := decide_eq_false c2
      go_enter Try.func48, Try.ntmps48
      go_wp2
      go_ret
      exact ⟨by simp [mFits, *], by repeat (first | exact Drawn0.refl _ | apply Drawn0.step)⟩
  · have d1 : decide (base ≤ 4294967295) = false := decide_eq_false c1
    go_enter Try.func48, Try.ntmps48
    go_wp2
    go_ret
    exact ⟨by simp [mFits, *], by repeat (first | exact Drawn0.refl _ | apply Drawn0.step)⟩
theorem mFits_iff {n : Nat} {base off k : Int} : mFits n base off k = true ↔ base ≤ 4294967295 ∧ off ≤ 4294967295 ∧ 0 ≤ k ∧ base + off + k ≤ n := by
  simp [mFits, and_assoc]
theorem add_blk (g t : Nat) : (⟨g, 0, none⟩ : Addr).add t = ⟨g, t, none⟩ := by
  by_cases h : t = 0
  · subst h; simp [Addr.add]
  · simp [Addr.add, h]
theorem wrap_u64_ (n : Int) : IntKind.u64.wrap n = n % 18446744073709551616 := by simp [IntKind.wrap, IntKind.signed, IntKind.bits]
theorem xor_u64_nat (a b : Nat) (ha : a < 18446744073709551616) (hb : b < 18446744073709551616) : bits .xor .u64 (a : Int) (b : Int) = ((a ^^^ b : Nat) : Int) := by
  have h1 : (BitVec.ofInt 64 (a : Int)).toNat = a := by simp; omega
  have h2 : (BitVec.ofInt 64 (b : Int)).toNat = b := by simp; omega
  have h3 : a ^^^ b < 18446744073709551616 := Nat.xor_lt_two_pow (n := 64) ha hb
  show IntKind.u64.wrap ((BitVec.ofInt 64 (a : Int) ^^^ BitVec.ofInt 64 (b : Int)).toNat : Int) = _
  rw [BitVec.toNat_xor, h1, h2, wrap_u64_]
  omega
theorem oct_getD {b : List Int} (h : Oct b) (i : Nat) : 0 ≤ rdOf 0 b (i : Int) ∧ rdOf 0 b (i : Int) < 256 := by
  unfold rdOf
  rw [Int.toNat_natCast, List.getD_eq_getElem?_getD]
  rcases hb : b[i]? with _ | x
  · exact ⟨Int.le_refl _, by decide⟩
  · exact h x (List.mem_of_getElem? hb)
def MO (p : Nat) (m : Mem) : As := ObR (Kd.int .u8) 5 102 p m.b [.int .i64 m.lo, .int .i64 m.hi, .bool m.has]
def Good (m : Mem) : Prop := Oct m.b ∧ m.b.length ≤ 4294967295
theorem MO.open_ {p : Nat} {m : Mem} {w : World} {F : Nat → Prop} (h : (MO p m).P w F) : ∃ A c, w.heap[p]? = some (.cells #[.slice A m.b.length c, .int .i64 m.lo, .int .i64 m.hi, .bool m.has] 102 (0, 0)) ∧ (Kd.int .u8).R 5 w 0 (fun k => F k ∧ k ≠ p) (.slice A m.b.length c) m.b ∧ m.b.length ≤ c ∧ F p ∧ ∀ k, F k → k < w.heap.size := by
  obtain ⟨v, hb, hR, hp, hl⟩ := h
  obtain ⟨A, c, rfl, hc, hC⟩ := Kd.R_reads hR
  exact ⟨A, c, hb, hR, hc, hp, hl⟩
theorem MO.upd {w0 w w' : World} {L : List As} {p g : Nat} {m : Mem} {c n : Nat} {b : List Int} (hS : SB w0 w (MO p m :: L))
    (hu : ∀ ok : Nat → Prop, (Kd.int .u8).R 5 w 0 ok (.slice (some ⟨g, 0, none⟩) m.b.length c) m.b → (Kd.int .u8).R 5 w' 0 ok (.slice (some ⟨g, 0, none⟩) n c) b)
    (hb : w.heap[p]? = some (.cells #[.slice (some ⟨g, 0, none⟩) m.b.length c, .int .i64 m.lo, .int .i64 m.hi, .bool m.has] 102 (0, 0))) (hf : Fr w w' (fun x => x = g)) (hn : n = m.b.length) : SB w0 w' (MO p { m with b := b } :: L) := by
  subst hn
  refine hS.upd (fun F hF hge => ?_)
  obtain ⟨A, c', hb', hR, hc, hp, hl⟩ := MO.open_ hF
  rw [hb] at hb'
  simp only [Option.some.injEq, Obj.cells.injEq, Array.mk.injEq, List.cons.injEq, Value.slice.injEq] at hb'
  obtain ⟨⟨⟨rfl, _, rfl⟩, _⟩, _⟩ := hb'
  have hg := hR.1 g (by simp [Value.ownBlock])
  refine ⟨F, ⟨_, (hf.block p (blk_lt hb) (fun e => hg.2 e.symm)).trans hb, hu _ hR, hp, fun k hk => Nat.lt_of_lt_of_le (hl k hk) hf.size⟩, hf.mono (fun k hk => by rw [hk]; exact hg.1), fun k hk => .inl hk⟩
section
variable {P : Program} {ops : Array Oper} {rest : List Oper} {o : Oper} {a : Act} {Q : Exit → Act → World → Prop} {W : World}
/-- copy(v[t:], ys), v a row of bytes of one's own. -/
theorem copy_tail (hgd : o.guard = none) (s x : Operand) (ty ty' : TypeId) (ho : o.op = .call { callee := .builtin .copy, args := #[s, x], argTypes := #[ty, ty'] }) (ht : P.underlying ty = some (.slice 5)) (hinfo : (P.info? 5).map (·.size) = some 1)
    (g c t m cc cs : Nat) (b ys : List Int) (A : Option Addr) (ok : Nat → Prop) (hs : a.eval s = .slice (some ⟨g, t, none⟩) m cc) (hx : a.eval x = .slice A ys.length cs)
    (HO : (Kd.int .u8).R 5 W 0 ok (.slice (some ⟨g, 0, none⟩) b.length c) b) (HC : (Kd.int .u8).C W A ys.length ys) (hfit : t + ys.length ≤ b.length) (hmin : ys.length ≤ m)
    (h : ∀ w1, (Kd.int .u8).R 5 w1 0 ok (.slice (some ⟨g, 0, none⟩) b.length c) (splice b t ys) → Fr W w1 (fun k => k = g) → wpList P ops Q rest (a.put o.dst (.int .i64 (ys.length : Int))) w1) :
    wpList P ops Q (o :: rest) a W := by
  have hR := Kd.reads_of_C (enc := Value.int .u8) (d := 0) (h1 := fun _ => rfl) HC
  have hown := Kd.own_of_R HO
  have fin : ∀ w1, (Builtin.copy_ #[ty, ty'] o.type #[.slice (some ⟨g, t, none⟩) m cc, .slice A ys.length cs]).run P W = .ok (goInt (ys.length : Int)) w1 → (Kd.int .u8).R 5 w1 0 ok (.slice (some ⟨g, 0, none⟩) b.length c) (splice b t ys) → Fr W w1 (fun k => k = g) → wpList P ops Q (o :: rest) a W := by
    intro w1 hr hrow hg
    refine wpList_plain hgd fun K hK => ?_
    unfold Oper.wp execOp
    simp only [ho, resolve, invoke, builtin, Sem.run_bind, Sem.run_pure, Result.andThen_ok, List.map_toArray, List.map_cons, List.map_nil, hs, hx, hr]
    exact hK _ _ (h w1 hrow hg)
  have hmn : Nat.min ys.length m = ys.length := Nat.min_eq_left hmin
  rcases Nat.eq_zero_or_pos ys.length with h0 | hp
  · have hys : ys = [] := List.length_eq_zero_iff.1 h0
    subst hys
    refine fin W ?_ (by rw [splice_nil]; exact HO) (Fr.refl _ _)
    exact run_copy_none W ty ty' o.type 5 _ A m cc 0 cs ht hinfo (by simp)
  · obtain ⟨ad, hA, hc⟩ := hR.2.2 (by omega)
    subst hA
    rcases hown.2 with ⟨hbad, _⟩ | ⟨g', cap, cur, hv, hb, hh, hnc, hcm, hcs, htake⟩
    · cases hbad
    injection hv with hv1 _ hv3
    injection hv1 with hv1
    injection hv1 with hv1
    subst hv1
    subst hv3
    have hcs1 : cur.size = c := by omega
    have hkl : (encs (Value.int .u8) ys).length = ys.length := encs_length _
    have hsrc : ∀ j u, (encs (Value.int .u8) ys)[j]? = some u → W.cell? (ad.add j) = some u := by
      intro j u hu
      have hj : j < ys.length := by
        rcases Nat.lt_or_ge j ys.length with h | h
        · exact h
        · rw [List.getElem?_eq_none (by rw [encs_length]; exact h)] at hu
          cases hu
      rw [encs_get (d := (0 : Int)) _ j hj] at hu
      rw [hc j hj, ← hu]
    have hr := run_copy_cells (P := P) W ty ty' o.type 5 g t m cc ad ys.length cs (encs (Value.int .u8) ys) ht hinfo (by rw [hkl, hmn]) hsrc
      (fun j hj => by rw [cell_of_row W g _ cur 5 (0, 0) hh]; simp; omega) (fun j _ => blk_frozen hh _) (by intro u hu; simp only [encs, List.mem_map] at hu; obtain ⟨q, _, rfl⟩ := hu; rfl)
    obtain ⟨cur', h3, h4, h5⟩ := setCells_row (encs (Value.int .u8) ys) t W cur hh (by rw [hkl]; omega)
    obtain ⟨s1, s2, s3, s4⟩ := setCells_same g (encs (Value.int .u8) ys) t W
    refine fin _ (by rw [hr, hkl]) (Kd.R_of_own ?_ HO.1) ⟨s1, s2, s3, by rw [s4]; exact Nat.le_refl _, fun k _ hk => setCells_far _ _ k (fun he => hk he)⟩
    rw [splice_length hfit]
    refine ⟨by rw [encs_length, splice_length hfit, Nat.mul_one], .inr ⟨g, c, cur', rfl, hb, h3, hnc, hcm, by rw [h4, hcs], ?_⟩⟩
    have htk : cur.toList.take b.length = encs (Value.int .u8) b := by rw [← htake, Nat.mul_one]
    rw [h5, hkl, Nat.mul_one]
    unfold splice
    rw [encs_append, encs_append]
    have e1 : encs (Value.int .u8) (b.take t) = (encs (Value.int .u8) b).take t := by simp [encs, List.map_take]
    have e2 : encs (Value.int .u8) (b.drop (t + ys.length)) = (encs (Value.int .u8) b).drop (t + ys.length) := by simp [encs, List.map_drop]
    rw [e1, e2, ← htk, List.take_take, Nat.min_eq_left (by omega), List.drop_take]
    have l1 : (cur.toList.take t).length = t := by rw [List.length_take, Array.length_toList]; omega
    rw [List.take_append, List.take_of_length_le (by rw [List.length_append, l1, hkl]; omega), List.length_append, l1, hkl]
end
/-- What is laid; None: it has no room. -/
def mLay (b : List Int) (at_ : Int) (l : List Int) : Option (List Int) := if 0 ≤ at_ ∧ at_ ≤ b.length ∧ (l.length : Int) ≤ b.length - at_ then some (splice b at_.toNat l) else none
theorem size5 : (Try.prog.info? 5).map (·.size) = some 1 := by kernel_rfl
set_option maxHeartbeats 4000000 in
theorem memLay {w0 w : World} {L : List As} {p : Nat} {m : Mem} (hS : SB w0 w (MO p m :: L)) (hm : Good m) (at_ : Int) (l : List Int) (Ab : Option Addr) (cb : Nat) (ha : -9223372036854775808 ≤ at_ ∧ at_ < 9223372036854775808) (hC : Kd.C (Kd.int .u8) w Ab l.length l) (hl : (l.length : Int) ≤ 9223372036854775807) :
    Calls Try.prog 29 #[.pointer (some ⟨p, 0, none⟩), .int .i64 at_, .slice Ab l.length cb] w fun e w' => e = .returned (.bool (mLay m.b at_ l).isSome) ∧ SB w0 w' (MO p { m with b := (mLay m.b at_ l).getD m.b } :: L) := by
  obtain ⟨F, hF, _⟩ := hS.head
  obtain ⟨A, c, hblk, hR, hc, hp, hlt⟩ := MO.open_ hF
  have h : w.cell? ⟨p, 0, none⟩ = some (.slice A m.b.length c) := (blk_cell hblk 0).trans rfl
  have hlen := hm.2
  have HS := Aside0.mk hS
  have HBK := Aside0.mk hblk
  have HR := Aside0.mk hR
  have HC := Aside0.mk hC
  clear hS hblk hR hC hF
  by_cases c1 : at_ < 0
  · have d1 : decide (at_ < 0) = true := decide_eq_true c1
    have hr : mLay m.b at_ l = none := if_neg (by omega)
    rw [hr]
    go_enter Try.func29, Try.ntmps29
    go_wp2_with (go_at_call 43; refine (memAll p A _ c _ h).mono ?_; rintro e w' ⟨rfl, ⟨nd, rfl⟩⟩)
    go_ret
    exact ⟨rfl, HS.out.drewN _⟩
  · have d1 : decide (at_ < 0) = false := decide_eq_false c1
    obtain ⟨t, rfl⟩ := Int.eq_ofNat_of_zero_le (show 0 ≤ at_ by omega)
    by_cases c2 : (m.b.length : Int) < (t : Int)
    · have d2 : decide ((m.b.length : Int) < (t : Int)) = true := decide_eq_true c2
      have d2' : decide (m.b.length < t) = true := decide_eq_true (by omega)
      have hr : mLay m.b t l = none := if_neg (by omega)
      rw [hr]
      go_enter Try.func29, Try.ntmps29
      go_wp2_with (go_at_call 43; refine (memAll p A _ c _ h).mono ?_; rintro e w' ⟨rfl, ⟨nd, rfl⟩⟩)
      go_ret
      exact ⟨rfl, HS.out.drewN _⟩
    · have d2 : decide ((m.b.length : Int) < (t : Int)) = false := decide_eq_false c2
      have d2' : decide (m.b.length < t) = false := decide_eq_false (by omega)
      by_cases c3 : (m.b.length : Int) - (t : Int) < (l.length : Int)
      · have d3 : decide ((m.b.length : Int) - (t : Int) < (l.length : Int)) = true := decide_eq_true c3
        have hr : mLay m.b t l = none := if_neg (by omega)
        rw [hr]
        go_enter Try.func29, Try.ntmps29
        go_wp2_with (go_at_call 43; refine (memAll p A _ c _ h).mono ?_; rintro e w' ⟨rfl, ⟨nd, rfl⟩⟩)
        go_ret
        exact ⟨rfl, HS.out.drewN _⟩
      · have d3 : decide ((m.b.length : Int) - (t : Int) < (l.length : Int)) = false := decide_eq_false c3
        have hr : mLay m.b t l = some (splice m.b t l) := by unfold mLay; rw [if_pos (by omega), Int.toNat_natCast]
        rw [hr]
        have b1 : (0 : Int) ≤ (t : Int) := by omega
        have b2 : (t : Int) ≤ (m.b.length : Int) := by omega
        have hcut : ∃ A', (∀ W : World, (Instr.slice 35 (.slice A m.b.length c) (some (.int .i64 (t : Int))) none none).run Try.prog W = .ok (.slice A' (m.b.length - t) (c - t)) W) ∧ (∀ g, A = some ⟨g, 0, none⟩ → t < c → A' = some ⟨g, t, none⟩) := by
          have hel : Try.prog.elem 35 = 5 := by simp [Program.elem, Try.underlying35]
          have hu : Try.prog.underlying 35 = some (.slice (Try.prog.elem 35)) := by rw [hel]; exact Try.underlying35
          have hi : (Try.prog.info? 5).map (fun i => (i.zero, i.size, i.bytes)) = some (some (.int .u8 0), 1, 1) := by kernel_rfl
          obtain ⟨i0, hi0, hz0, hz1, hz2⟩ := info_parts hi
          refine ⟨if c = t then A else A.map (·.add t), fun W => ?_, fun g hg htc => by rw [if_neg (by omega), hg]; simp [add_blk]⟩
          rw [run_slice_l W 35 A m.b.length c hu .i64 (t : Int) b1 b2, hel]
          simp [sizeOf, typeInfo, hi0, hz1, sliced, Result.andThen]
        obtain ⟨A', hcut, hA'⟩ := hcut
        by_cases c4 : l = []
        · subst c4
          have hcopy : ∀ W : World, (Builtin.copy_ #[35, 35] 3 #[.slice A' (m.b.length - t) (c - t), .slice Ab 0 cb]).run Try.prog W = .ok (goInt 0) W := fun W => run_copy_none W 35 35 3 5 A' Ab (m.b.length - t) (c - t) 0 cb Try.underlying35 size5 (by simp)
          go_enter Try.func29, Try.ntmps29
          go_wp2_with (go_at_call 43; refine (memAll p A _ c _ h).mono ?_; rintro e w' ⟨rfl, ⟨nd, rfl⟩⟩)
          go_ret
          rw [splice_nil]
          exact ⟨rfl, HS.out.drewN _⟩
        · have hpos : 0 < l.length := List.length_pos_iff.2 c4
          obtain ⟨g, cap, hvv, hg0, hg1, _⟩ := Kd.R_form HR.out (by omega)
          injection hvv with hA _ hcap
          subst hA
          subst hcap
          have hA2 := hA' g rfl (by omega)
          subst hA2
          go_enter Try.func29, Try.ntmps29
          go_wp2_with (first
            | (go_at_call 43; refine (memAll p (some ⟨g, 0, none⟩) _ c _ h).mono ?_; rintro e w' ⟨rfl, ⟨nd, rfl⟩⟩)
            | ((with_reducible refine gate_builtin (b := .copy) (xs := #[.tmp 29, .tmp 30]) rfl ?_); refine copy_tail rfl (.tmp 29) (.tmp 30) 35 35 rfl Try.underlying35 size5 _ _ _ _ _ _ m.b l _ _ rfl rfl (Kd.R_drewN HR.out _) (Kd.C_drewN HC.out _) (by omega) (by omega) ?_; intro w2 hR2 hF2; have HR2 := Aside0.mk hR2; have HF2 := Aside0.mk hF2; clear hR2 hF2))
          go_ret
          refine ⟨rfl, MO.upd (w := w.drewN _) (HS.out.drewN _) (fun ok hok => ?_) HBK.out HF2.out rfl⟩
          exact Kd.R_reok rfl HR2.out (fun k_ e_ => hok.1 k_ e_)
theorem cut_mid (A : Option Addr) (c : Nat) (b : List Int) (t n : Nat) (h : t + n ≤ b.length) (hc : b.length ≤ c) :
    ∃ (A' : Option Addr) (c' : Nat), (∀ W : World, (Instr.slice 35 (.slice A b.length c) (some (.int .i64 (t : Int))) (some (.int .i64 ((t : Int) + (n : Int)))) none).run Try.prog W = .ok (.slice A' n c') W) ∧ (∀ w : World, Kd.C (Kd.int .u8) w A b.length b → Kd.C (Kd.int .u8) w A' (seg b t n).length (seg b t n)) ∧ n ≤ c' := by
  obtain ⟨i0, hi0, _, hsz, _⟩ := info_parts (show (Try.prog.info? 5).map (fun i => (i.zero, i.size, i.bytes)) = some (some (.int .u8 0), 1, 1) by kernel_rfl)
  have hl := seg_length h
  have hs : (b.take (t + n)).drop t = seg b t n := by unfold seg; rw [List.drop_take, Nat.add_sub_cancel_left]
  obtain ⟨A', h1, h2, h3⟩ := print_mid_of (P := Try.prog) (Value.int .u8) 0 35 5 .i64 .i64 Try.underlying35 hi0 hsz A c b (t : Int) ((t : Int) + (n : Int)) (by omega) (by omega) (by omega) hc
  have e1 : ((t : Int) + (n : Int)).toNat = t + n := by omega
  rw [e1, Int.toNat_natCast, hs, hl] at h1 h3
  refine ⟨A', c - t, h1, fun w hC => ?_, h3⟩
  have h4 := h2 w (Kd.reads_of_C hC)
  rw [e1, Int.toNat_natCast, hs] at h4
  exact Kd.C_of_reads (h1 := fun _ => rfl) h4
/-- Bytes that are told. -/
def mBytes (b : List Int) (at_ n : Int) : List Int := if 0 ≤ at_ ∧ 0 ≤ n ∧ at_ ≤ b.length ∧ n ≤ b.length - at_ then seg b at_.toNat n.toNat else []
set_option maxHeartbeats 4000000 in
theorem memBytes {w0 w : World} {L : List As} {p : Nat} {m : Mem} (hS : SB w0 w (MO p m :: L)) (hm : Good m) (at_ n : Int) (ha : -9223372036854775808 ≤ at_ ∧ at_ < 9223372036854775808) (hn : -9223372036854775808 ≤ n ∧ n < 9223372036854775808) :
    Calls Try.prog 28 #[.pointer (some ⟨p, 0, none⟩), .int .i64 at_, .int .i64 n] w fun e w' => ∃ v, e = .returned v ∧ SB w0 w' (Row (Kd.int .u8) 5 v (mBytes m.b at_ n) :: MO p m :: L) := by
  obtain ⟨F, hF, _⟩ := hS.head
  obtain ⟨A, c, hblk, hR, hc, hp, hlt⟩ := MO.open_ hF
  have h : w.cell? ⟨p, 0, none⟩ = some (.slice A m.b.length c) := (blk_cell hblk 0).trans rfl
  have hlen := hm.2
  have HC := Aside0.mk (Kd.R_reads' hR).2.2
  have HS := Aside0.mk hS
  clear hS hblk hR hF
  have no : ∀ nd, mBytes m.b at_ n = [] → SB w0 (w.drewN nd) (Row (Kd.int .u8) 5 (.slice none 0 0) (mBytes m.b at_ n) :: MO p m :: L) := fun nd he => by
    rw [he]
    exact (HS.out.drewN nd).row (Below.refl _ _) (Kd.R_nil _ _ _ _ (fun _ => True))
  by_cases c1 : at_ < 0
  · have d1 : decide (at_ < 0) = true := decide_eq_true c1
    have hr : mBytes m.b at_ n = [] := if_neg (by omega)
    have NO := Aside0.mk no
    clear no
    go_enter Try.func28, Try.ntmps28
    go_wp2_with (go_at_call 43; refine (memAll p A _ c _ h).mono ?_; rintro e w' ⟨rfl, ⟨nd, rfl⟩⟩)
    go_ret
    exact ⟨_, rfl, NO.out _ hr⟩
  · have d1 : decide (at_ < 0) = false := decide_eq_false c1
    by_cases c0 : n < 0
    · have d0 : decide (n < 0) = true := decide_eq_true c0
      have hr : mBytes m.b at_ n = [] := if_neg (by omega)
      have NO := Aside0.mk no
      clear no
      go_enter Try.func28, Try.ntmps28
      go_wp2_with (go_at_call 43; refine (memAll p A _ c _ h).mono ?_; rintro e w' ⟨rfl, ⟨nd, rfl⟩⟩)
      go_ret
      exact ⟨_, rfl, NO.out _ hr⟩
    · have d0 : decide (n < 0) = false := decide_eq_false c0
      obtain ⟨t, rfl⟩ := Int.eq_ofNat_of_zero_le (show 0 ≤ at_ by omega)
      obtain ⟨k, rfl⟩ := Int.eq_ofNat_of_zero_le (show 0 ≤ n by omega)
      by_cases c2 : (m.b.length : Int) < (t : Int)
      · have d2 : decide ((m.b.length : Int) < (t : Int)) = true := decide_eq_true c2
        have d2' : decide (m.b.length < t) = true := decide_eq_true (by omega)
        have hr : mBytes m.b t k = [] := if_neg (by omega)
        have NO := Aside0.mk no
        clear no
        go_enter Try.func28, Try.ntmps28
        go_wp2_with (go_at_call 43; refine (memAll p A _ c _ h).mono ?_; rintro e w' ⟨rfl, ⟨nd, rfl⟩⟩)
        go_ret
        exact ⟨_, rfl, NO.out _ hr⟩
      · have d2 : decide ((m.b.length : Int) < (t : Int)) = false := decide_eq_false c2
        have d2' : decide (m.b.length < t) = false := decide_eq_false (by omega)
        by_cases c3 : (m.b.length : Int) - (t : Int) < (k : Int)
        · have d3 : decide ((m.b.length : Int) - (t : Int) < (k : Int)) = true := decide_eq_true c3
          have hr : mBytes m.b t k = [] := if_neg (by omega)
          have NO := Aside0.mk no
          clear no
          go_enter Try.func28, Try.ntmps28
          go_wp2_with (go_at_call 43; refine (memAll p A _ c _ h).mono ?_; rintro e w' ⟨rfl, ⟨nd, rfl⟩⟩)
          go_ret
          exact ⟨_, rfl, NO.out _ hr⟩
        · have d3 : decide ((m.b.length : Int) - (t : Int) < (k : Int)) = false := decide_eq_false c3
          have hr : mBytes m.b t k = seg m.b t k := by unfold mBytes; rw [if_pos (by omega), Int.toNat_natCast, Int.toNat_natCast]
          have hsl := seg_length (b := m.b) (a := t) (n := k) (by omega)
          obtain ⟨A', c', hcut, hC', hc'⟩ := cut_mid A c m.b t k (by omega) hc
          have hcl := fun (W : World) (hW : Kd.C (Kd.int .u8) W A' (seg m.b t k).length (seg m.b t k)) => bytes_Clone.calls A' c' (seg m.b t k) (seg m.b t k) W hW (by rw [hsl]; exact hc') (by unfold bytes_Clone.f; rw [if_pos (by rw [hsl]; omega)])
          rw [hsl] at hcl
          have hC2 : ∀ W, Kd.C (Kd.int .u8) W A m.b.length m.b → Kd.C (Kd.int .u8) W A' k (seg m.b t k) := fun W hW => by have := hC' W hW; rw [hsl] at this; exact this
          have HC2 := Aside0.mk hC2
          have HCL := Aside0.mk hcl
          have HSL := Aside0.mk hsl
          clear hcl hC' hC2 hsl no
          go_enter Try.func28, Try.ntmps28
          go_wp2_with (first
            | (go_at_call 43; refine (memAll p A _ c _ h).mono ?_; rintro e w' ⟨rfl, ⟨nd, rfl⟩⟩)
            | (go_at_call 45; refine (HCL.out _ (HC2.out _ (Kd.C_drewN HC.out _))).mono ?_; rintro e w' ⟨v, rfl, ho, hb⟩; have HN := Aside0.mk ho; have HB := Aside0.mk hb; clear ho hb))
          go_ret
          rw [hr]
          exact ⟨_, rfl, (HS.out.drewN _).row HB.out HN.out⟩
/-- The sum of all bytes. -/
def mSum (b : List Int) : Int := b.foldl (fun s c => (IntKind.u64.wrap (bits .xor .u64 s c * 1099511628211))) 14695981039346656037
theorem foldl_take_succ {f : Int → Int → Int} {a : Int} {l : List Int} {k : Nat} (h : k < l.length) : (l.take (k + 1)).foldl f a = f ((l.take k).foldl f a) l[k] := by
  rw [List.take_succ_eq_append_getElem h, List.foldl_append]; rfl
theorem rdOf_get {l : List Int} {k : Nat} (h : k < l.length) : rdOf 0 l (k : Int) = l[k] := by
  unfold rdOf
  rw [Int.toNat_natCast, List.getD_eq_getElem?_getD, List.getElem?_eq_getElem h]; rfl
set_option maxHeartbeats 4000000 in
theorem memSum {w0 w : World} {L : List As} {p : Nat} {m : Mem} (hS : SB w0 w (MO p m :: L)) (hm : Good m) :
    Calls Try.prog 22 #[.pointer (some ⟨p, 0, none⟩)] w fun e w' => e = .returned (.int .u64 (mSum m.b)) ∧ Drawn0 w w' := by
  obtain ⟨F, hF, _⟩ := hS.head
  obtain ⟨A, c, hblk, hR, hc, hp, hlt⟩ := MO.open_ hF
  have h : w.cell? ⟨p, 0, none⟩ = some (.slice A m.b.length c) := (blk_cell hblk 0).trans rfl
  have hlen := hm.2
  have HR := Aside0.mk hR
  have HO := Aside0.mk hm.1
  clear hS hblk hR hF hm
  go_enter Try.func22, Try.ntmps22
  go_wp2_with (go_at_call 43; refine (memAll p A _ c _ h).mono ?_; rintro e w' ⟨rfl, ⟨nd, rfl⟩⟩)
  go_loopw [3, 9] (fun v3 v9 wr => ∃ k : Nat, v9 = .int .i64 k ∧ v3 = .int .u64 (mSum (m.b.take k)) ∧ k ≤ m.b.length ∧ wr = w.drewN nd) (fun _ v9 _ => m.b.length - (intOf v9).toNat)
  case atStart => exact ⟨0, rfl, rfl, Nat.zero_le _, rfl⟩
  case round =>
    obtain ⟨k, rfl, rfl, hk, rfl⟩ := hrel
    by_cases hlt : k < m.b.length
    · have d1 : decide ((k : Int) < (m.b.length : Int)) = true := decide_eq_true (by omega)
      have d2 : decide (k < m.b.length) = true := decide_eq_true hlt
      obtain ⟨g, cap, hv, _, _, _⟩ := Kd.R_form HR.out (by omega)
      injection hv with hA _ hcap
      subst hA
      have hx := (Kd.R_celln 0 HR.out (k : Int) (by omega) (by omega)).1
      simp only [Int.toNat_natCast] at hx
      rw [rdOf_get hlt] at hx
      have hs : mSum (m.b.take (k + 1)) = IntKind.u64.wrap (bits .xor .u64 (mSum (m.b.take k)) m.b[k] * 1099511628211) := foldl_take_succ hlt
      have hw : IntKind.u64.wrap m.b[k] = m.b[k] := by
        obtain ⟨q0, q1⟩ := HO.out _ (List.getElem_mem hlt)
        rw [wrap_u64_]; omega
      go_wp2
      exact ⟨⟨k + 1, rfl, by first | rfl | rw [hs], by omega, by first | rfl | trivial⟩, by simp [intOf]; omega⟩
    · have d1 : decide ((k : Int) < (m.b.length : Int)) = false := decide_eq_false (by omega)
      have d2 : decide (k < m.b.length) = false := decide_eq_false hlt
      go_wp2
      go_ret
      exact ⟨by rw [List.take_of_length_le (by omega)]; rfl, _, rfl⟩
theorem memFitsS {w0 w : World} {L : List As} {p : Nat} {m : Mem} (hS : SB w0 w (MO p m :: L)) (hm : Good m) (base off k : Int) (hb : 0 ≤ base ∧ base < 18446744073709551616) (ho : 0 ≤ off ∧ off < 18446744073709551616) (hk : -9223372036854775808 ≤ k ∧ k < 9223372036854775808) :
    Calls Try.prog 48 #[.pointer (some ⟨p, 0, none⟩), .int .u64 base, .int .u64 off, .int .i64 k] w fun e w' => e = .returned (.bool (mFits m.b.length base off k)) ∧ Drawn0 w w' := by
  obtain ⟨F, hF, _⟩ := hS.head
  obtain ⟨A, c, hblk, hR, hc, hp, hlt⟩ := MO.open_ hF
  exact memFits p A m.b.length c base off k w hm.2 hb ho hk ((blk_cell hblk 0).trans rfl)
theorem make_run (n : Nat) (hn : n ≤ 281474976710656) (W : World) : (Instr.makeSlice 35 (.int .i64 (n : Int)) (.int .i64 (n : Int))).run Try.prog W = .ok (.slice (some ⟨W.heap.size, 0, none⟩) n n) (W.alloc (.cells (madeCells #[.int .u8 0] n) 5)) := by
  obtain ⟨i0, hi0, hz, hsz, hby⟩ := info_parts (show (Try.prog.info? 5).map (fun i => (i.zero, i.size, i.bytes)) = some (some (.int .u8 0), 1, 1) by kernel_rfl)
  have hr := run_make (P := Try.prog) W 35 5 i0 (.int .u8 0) Try.underlying35 hi0 hz .i64 .i64 (n : Int) (n : Int) (by omega) (by omega) (by rw [hby]; omega) (by omega)
  rw [hr, hsz, Nat.mul_one, Int.toNat_natCast]
  rfl
theorem made_list (n : Nat) : (madeCells #[.int .u8 0] n).toList = encs (Value.int .u8) (List.replicate n 0) := by
  apply List.ext_getElem
  · simp [madeCells, encs]
  · intro i h1 h2
    simp [madeCells, encs, Nat.mod_one]
theorem made_R {w1 : World} {g n : Nat} {base : Nat} (h : w1.heap[g]? = some (.cells (madeCells #[.int .u8 0] n) 5 (0, 0))) (hb : base ≤ g) (hn : n ≤ 281474976710656) {ok : Nat → Prop} (hok : ok g) : (Kd.int .u8).R 5 w1 base ok (.slice (some ⟨g, 0, none⟩) n n) (List.replicate n 0) := by
  refine Kd.R_of_own (h1 := fun _ => rfl) ?_ (fun k hk => by simp [Value.ownBlock] at hk; rw [← hk]; exact hok)
  rw [List.length_replicate]
  refine ⟨by rw [encs_length, List.length_replicate, Nat.mul_one], .inr ⟨g, n, _, rfl, hb, h, Nat.le_refl _, by unfold maxLen; omega, by simp [madeCells], ?_⟩⟩
  rw [made_list, List.take_of_length_le (by rw [encs_length, List.length_replicate]; omega)]
theorem MO.new {w0 w W : World} {L : List As} (hS : SB w0 w L) (hb : Below w.heap.size w W) (p g n : Nat) (lo hi : Int) (has : Bool) (hp : W.heap[p]? = some (.cells #[.slice (some ⟨g, 0, none⟩) n n, .int .i64 lo, .int .i64 hi, .bool has] 102 (0, 0)))
    (hg : W.heap[g]? = some (.cells (madeCells #[.int .u8 0] n) 5 (0, 0))) (h1 : w.heap.size ≤ p) (h2 : w.heap.size ≤ g) (hn : n ≤ 281474976710656) : SB w0 W (MO p ⟨List.replicate n 0, lo, hi, has⟩ :: L) := by
  have hne : g ≠ p := fun e => by subst e; rw [hp] at hg; injection hg with hg; injection hg with _ hg; exact absurd hg (by decide)
  refine hS.new hb (A := MO p ⟨List.replicate n 0, lo, hi, has⟩) (F' := fun k => k = p ∨ k = g) ⟨_, hp, made_R hg (Nat.zero_le _) hn ⟨.inr rfl, hne⟩, .inl rfl, ?_⟩ ?_
  · rintro k (rfl | rfl)
    · exact blk_lt hp
    · exact blk_lt hg
  · rintro k (rfl | rfl)
    · exact h1
    · exact h2
theorem below4 (w : World) (a b c d : Obj) : Below w.heap.size w ((((w.alloc a).alloc b).alloc c).alloc d) := below_alloc (below_alloc (below_alloc (below_alloc (Below.refl _ _) _) _) _) _
theorem heap43 (w : World) (a b c d : Obj) : ((((w.alloc a).alloc b).alloc c).alloc d).heap[w.heap.size + 1 + 1 + 1]? = some d := by
  have := heap_alloc_new (((w.alloc a).alloc b).alloc c) d
  simpa using this
theorem heap42 (w : World) (a b c d : Obj) : ((((w.alloc a).alloc b).alloc c).alloc d).heap[w.heap.size + 1 + 1]? = some c := by
  rw [Below.heap_alloc _ _ _ (by simp)]
  have := heap_alloc_new ((w.alloc a).alloc b) c
  simpa using this
/-- Why there is no such memory; 0: there is one. -/
def mBad (lo hi : Int) (has : Bool) : Int := if lo < 0 ∨ (has = true ∧ (hi < lo ∨ 65536 < hi)) ∨ (has = false ∧ hi ≠ 0) then 1 else if 4 < lo then 4 else 0
set_option maxHeartbeats 4000000 in
theorem memNewOk {w0 w : World} {L : List As} (hS : SB w0 w L) (lo : Nat) (hi : Int) (has : Bool) (h : mBad lo hi has = 0) :
    Calls Try.prog 17 #[.agg #[.int .i64 lo, .int .i64 hi, .bool has]] w fun e w' => ∃ p, e = .returned (.tuple #[.pointer (some ⟨p, 0, none⟩), .int .i64 0]) ∧ SB w0 w' (MO p ⟨List.replicate (65536 * lo) 0, lo, hi, has⟩ :: L) := by
  have hlo : (lo : Int) ≤ 4 := by
    unfold mBad at h
    split at h
    · cases h
    · split at h
      · cases h
      · omega
  have hbad : ¬ ((lo : Int) < 0 ∨ (has = true ∧ (hi < lo ∨ 65536 < hi)) ∨ (has = false ∧ hi ≠ 0)) := by
    intro hh
    unfold mBad at h
    rw [if_pos hh] at h
    cases h
  have d0 : decide ((lo : Int) < 0) = false := decide_eq_false (by omega)
  have d4 : decide (4 < (lo : Int)) = false := decide_eq_false (by omega)
  have HS := Aside0.mk hS
  clear hS
  cases has with
  | false =>
    have h0 : hi = 0 := by
      by_cases e : hi = 0
      · exact e
      · exact absurd (.inr (.inr ⟨rfl, e⟩)) hbad
    subst h0
    obtain ⟨n, hn⟩ : ∃ n, n = 65536 * lo := ⟨_, rfl⟩
    have hw64 : IntKind.i64.wrap ((lo : Int) * 65536) = (n : Int) := by rw [IntKind.wrap_i64]; omega
    have hmk := make_run n (by omega)
    have HN := Aside0.mk hn
    have HL := Aside0.mk (show n ≤ 281474976710656 by omega)
    clear hn
    go_enter Try.func17, Try.ntmps17
    go_wp2
    go_region_held3 (fun w' => w'.cell? ⟨w.heap.size, 0, none⟩ = some (.int .i64 lo) ∧ w'.cell? ⟨w.heap.size, 1, none⟩ = some (.int .i64 0) ∧ w'.cell? ⟨w.heap.size, 2, none⟩ = some (.bool false)) (go_keep) (fail)
    go_wp2
    go_ret2
    rw [← HN.out]
    exact ⟨_, rfl, (MO.new HS.out (below4 _ _ _ _ _) _ (w.heap.size + 1 + 1) n _ _ _ (heap43 _ _ _ _ _) (heap42 _ _ _ _ _) (by omega) (by omega) HL.out).drew⟩
  | true =>
    have d1 : decide (hi < (lo : Int)) = false := decide_eq_false (fun e => hbad (.inr (.inl ⟨rfl, .inl e⟩)))
    have d2 : decide (65536 < hi) = false := decide_eq_false (fun e => hbad (.inr (.inl ⟨rfl, .inr e⟩)))
    obtain ⟨n, hn⟩ : ∃ n, n = 65536 * lo := ⟨_, rfl⟩
    have hw64 : IntKind.i64.wrap ((lo : Int) * 65536) = (n : Int) := by rw [IntKind.wrap_i64]; omega
    have hmk := make_run n (by omega)
    have HN := Aside0.mk hn
    have HL := Aside0.mk (show n ≤ 281474976710656 by omega)
    clear hn
    go_enter Try.func17, Try.ntmps17
    go_wp2
    go_region_held3 (fun w' => w'.cell? ⟨w.heap.size, 0, none⟩ = some (.int .i64 lo) ∧ w'.cell? ⟨w.heap.size, 1, none⟩ = some (.int .i64 hi) ∧ w'.cell? ⟨w.heap.size, 2, none⟩ = some (.bool true)) (go_keep) (fail)
    go_wp2
    go_ret2
    rw [← HN.out]
    exact ⟨_, rfl, (MO.new HS.out (below4 _ _ _ _ _) _ (w.heap.size + 1 + 1) n _ _ _ (heap43 _ _ _ _ _) (heap42 _ _ _ _ _) (by omega) (by omega) HL.out).drew⟩
def b0 : List Int := List.replicate 65536 0
theorem b0_len : b0.length = 65536 := List.length_replicate
theorem b0_oct : Oct b0 := fun c hc => by rw [List.eq_of_mem_replicate hc]; decide
theorem good0 (lo hi : Int) (has : Bool) : Good ⟨b0, lo, hi, has⟩ := ⟨b0_oct, by rw [b0_len]; decide⟩
theorem memNew1 {w0 w : World} {L : List As} (hS : SB w0 w L) : Calls Try.prog 17 #[.agg #[.int .i64 1, .int .i64 0, .bool false]] w fun e w' => ∃ p, e = .returned (.tuple #[.pointer (some ⟨p, 0, none⟩), .int .i64 0]) ∧ SB w0 w' (MO p ⟨b0, 1, 0, false⟩ :: L) := memNewOk hS 1 0 false rfl
end Go.Proofs.Ytbjglicdamenhaa.G
