/- Package host: what a reply does: of, and its closures. -/
import Derived.Deep.DeepMust
import Derived.Test.YtbjglicdamenhaaHstE
namespace Go.Proofs.Ytbjglicdamenhaa.G
open Go.RowKit Go.Proofs.YtbjglicdamenhaaW.PrintWords Go.Proofs.YtbjglicdamenhaaW.PrintLast Go.Proofs.YtbjglicdamenhaaW.PrintMore
attribute [local go_sem] max2_int min2_int max_two min_two max_three min_three max_four min_four   -- for this text's walks alone
set_option linter.unusedVariables false
set_option linter.unusedSimpArgs false
theorem run_store_func {P : Program} {w : World} {a : Addr} {m : Mode} (fn : Fn) (f c : Array Value) : (store a (.func fn f c) m).run P w = stored P w a (.func fn f c) m := run_store P w a _ m rfl
attribute [local go_sem] run_store_func
def ptr (b : Nat) : Value := .pointer (some ⟨b, 0, none⟩)
def deedV (b3 b4 b5 : Nat) : Value := .agg #[.func (.func 47) #[] #[ptr b4], .func (.func 49) #[] #[ptr b5], .func (.func 52) #[] #[ptr b3]]
set_option maxHeartbeats 1000000 in
theorem hstOf {w0 w : World} {L : List As} (hS : SB w0 w L) (A1 A2 : Option Addr) (n1 c1 n2 c2 : Nat) (am ag : Option Addr) :
    Calls Try.prog 35 #[.agg #[.slice A1 n1 c1, .slice A2 n2 c2], .pointer am, .pointer ag] w fun e w' => ∃ b3 b4 b5, e = .returned (deedV b3 b4 b5) ∧ SB w0 w' (Box b3 #[.slice A1 n1 c1, .slice A2 n2 c2] 37 :: Box b4 #[.pointer am] 51 :: Box b5 #[.pointer ag] 60 :: L) := by
  have hmf : ∀ (fn : Fn) (first cap : Array Value) (w : World), (Instr.makeFunc fn first cap).run Try.prog w = .ok (.func fn first cap) w := fun _ _ _ _ => rfl
  have h1 := (((hS.box #[.slice A1 n1 c1, .slice A2 n2 c2] 37).box #[.pointer am] 51).box #[.pointer ag] 60)
  rw [World.size_alloc, World.size_alloc] at h1
  have h2 := h1.box #[.func (.func 47) #[] #[.pointer (some ⟨w.heap.size + 1, 0, none⟩)], .func (.func 49) #[] #[.pointer (some ⟨w.heap.size + 1 + 1, 0, none⟩)], .func (.func 52) #[] #[.pointer (some ⟨w.heap.size, 0, none⟩)]] 97
  have HS := Aside0.mk (h2.drop.pick3 [2, 1, 0])
  clear hS h1 h2
  go_enter Try.func35, Try.ntmps35
  go_wp2
  all_goals refine bodyPost_ret (v := deedV w.heap.size (w.heap.size + 1) (w.heap.size + 1 + 1)) (by simp [results, Try.results35, go_sem, deedV, ptr, *]) rfl ?_
  exact ⟨_, _, _, rfl, HS.out⟩
/-- What is true in whatever world these blocks, and what w0 had, stand as they are. -/
def RdP (w0 : World) (p : World → Prop) : As where
  P w F := (∀ W : World, (∀ k, F k → W.heap[k]? = w.heap[k]?) → (∀ k, k < w0.heap.size → W.heap[k]? = w0.heap[k]?) → p W) ∧ ∀ k, F k → k < w.heap.size
  lt h := h.2
  mv {w w1 F} h hm := ⟨fun W h1 h2 => h.1 W (fun k hk => (h1 k hk).trans (hm k hk)) h2, fun k hk => by
    have h1 := h.2 k hk
    have h2 := hm k hk
    rw [Array.getElem?_eq_getElem h1] at h2
    exact (Array.getElem?_eq_some_iff.1 h2).1⟩
theorem SB.rdp {p : World → Prop} {w0 w : World} {L : List As} (h : SB w0 w (RdP w0 p :: L)) : p w := by
  obtain ⟨F, hF, _⟩ := h.head
  exact hF.1 w (fun _ _ => rfl) (fun k hk => h.bel.block k hk)
/-- What memory does at a reply. -/
structure EnvL (w0 : World) (am : Option Addr) (E E1 : As) (x : S86) (r : Bool) : Prop where
  fits : ∀ {w : World} {L : List As}, SB w0 w (E :: L) → Calls Try.prog 48 #[.pointer am, .int .u64 (max x.f2 0), .int .u64 0, .int .i64 x.f3.length] w fun e w' => e = .returned (.bool r) ∧ SB w0 w' (E :: L)
  lay : r = true → ∀ {w : World} {L : List As} {A : Option Addr} {c : Nat}, SB w0 w (E :: L) → Kd.C (Kd.int .u8) w A x.f3.length x.f3 → x.f3.length ≤ c → Calls Try.prog 29 #[.pointer am, .int .i64 x.f2, .slice A x.f3.length c] w fun e w' => (∃ v, e = .returned (.bool v)) ∧ SB w0 w' (E1 :: L)
  same : r = false → E1 = E
/-- What globals do at a reply. -/
structure EnvS (w0 : World) (ag : Option Addr) (E1 E2 : As) (x : S86) (t : Int) (mu ok : Bool) : Prop where
  type : ∀ {w : World} {L : List As}, SB w0 w (E1 :: L) → Calls Try.prog 50 #[.pointer ag, .int .i64 x.f4] w fun e w' => e = .returned (.tuple #[.int .u8 t, .bool mu, .bool ok]) ∧ SB w0 w' (E1 :: L)
  set : ok = true → mu = true → ∀ {w : World} {L : List As}, SB w0 w (E1 :: L) → Calls Try.prog 51 #[.pointer ag, .int .i64 x.f4, .int .u64 x.f5] w fun e w' => (∃ r, e = .returned (.int .i64 r)) ∧ SB w0 w' (E2 :: L)
  same : (ok && mu) = false → E2 = E1
set_option maxHeartbeats 1000000 in
theorem hstLay {w0 w : World} {L : List As} {E E1 : As} {b4 n c3 : Nat} {am A3 A : Option Addr} {x : S86} {z : List (List Value)} {rs : List S86} {r : Bool} (hS : SB w0 w (E :: Box b4 #[.pointer am] 51 :: OwN A3 x A z rs :: L)) (hE : EnvL w0 am E E1 x r) (hc : x.f3.length ≤ c3)
    (h2 : -9223372036854775808 ≤ x.f2 ∧ x.f2 < 9223372036854775808) :
    Calls Try.prog 47 #[r86 x (.slice A3 x.f3.length c3), ptr b4] w fun e w' => e = .returned (.tuple #[]) ∧ SB w0 w' (E1 :: Box b4 #[.pointer am] 51 :: OwN A3 x A z rs :: L) := by
  obtain ⟨f0, f1, f2, f3, f4, f5⟩ := x
  have HF := Aside0.mk (show ∀ (w : World) (L : List As), SB w0 w (E :: L) → Calls Try.prog 48 #[.pointer am, .int .u64 (max f2 0), .int .u64 0, .int .i64 f3.length] w fun e w' => e = .returned (.bool r) ∧ SB w0 w' (E :: L) from fun w L => hE.fits)
  have HL := Aside0.mk (show r = true → ∀ (w : World) (L : List As) (A : Option Addr) (c : Nat), SB w0 w (E :: L) → Kd.C (Kd.int .u8) w A f3.length f3 → f3.length ≤ c → Calls Try.prog 29 #[.pointer am, .int .i64 f2, .slice A f3.length c] w fun e w' => (∃ v, e = .returned (.bool v)) ∧ SB w0 w' (E1 :: L) from fun h w L A c => hE.lay h)
  have HSM := Aside0.mk hE.same
  have hc : f3.length ≤ c3 := hc
  have h2 : -9223372036854775808 ≤ f2 ∧ f2 < 9223372036854775808 := h2
  have hbx := hS.box #[.int .u64 f0, .bool f1, .int .i64 f2, .slice A3 f3.length c3, .int .i64 f4, .int .u64 f5] 86
  have q0 : _ = some (Value.pointer am) := blk_cell ((hbx.pick3 [2]).blk) 0
  have HS := Aside0.mk hbx
  have hw : IntKind.u64.wrap (if f2 < 0 then 0 else f2) = max f2 0 := by
    rw [IntKind.wrap_u64]
    split <;> omega
  clear hS hbx h2 hE
  unfold r86 ptr
  cases r with
  | true =>
    have HL2 := Aside0.mk (HL.out rfl)
    clear HL
    go_enter Try.func47, Try.ntmps47
    go_wp2_with (first
      | (go_at_call 48; go_must ((with_reducible refine (HF.out _ _ (HS.out.pick4 [1, 0, 2, 3])).mono ?_); rintro e w2 ⟨rfl, hs⟩; have hb := (hs.pick2 [1]).blk; have s2 := blk_cell hb 2; have s3 := blk_cell hb 3; have q0 : _ = some (Value.pointer am) := blk_cell ((hs.pick3 [2]).blk) 0; have HS2 := Aside0.mk hs; clear hs hb))
      | (go_at_call 29; go_must ((with_reducible refine (HL2.out _ _ _ _ HS2.out ((HS2.out.pick4 [3]).owp.1) hc).mono ?_); rintro e w3 ⟨⟨v, rfl⟩, hs⟩; have HS3 := Aside0.mk hs; clear hs)))
    all_goals go_end0
    all_goals exact ⟨rfl, HS3.out.pick4 [0, 2, 3]⟩
  | false =>
    obtain rfl := HSM.out rfl
    go_enter Try.func47, Try.ntmps47
    go_wp2_with (first
      | (go_at_call 48; go_must ((with_reducible refine (HF.out _ _ (HS.out.pick4 [1, 0, 2, 3])).mono ?_); rintro e w2 ⟨rfl, hs⟩; have HS2 := Aside0.mk hs; clear hs)))
    all_goals go_end0
    all_goals exact ⟨rfl, HS2.out.pick4 [0, 2, 3]⟩
set_option maxHeartbeats 1000000 in
theorem hstSet {w0 w : World} {L : List As} {E1 E2 : As} {b5 : Nat} {ag : Option Addr} {x : S86} {A3 : Option Addr} {n3 c3 : Nat} {t : Int} {mu ok : Bool} (hS : SB w0 w (E1 :: Box b5 #[.pointer ag] 60 :: L)) (hE : EnvS w0 ag E1 E2 x t mu ok) :
    Calls Try.prog 49 #[r86 x (.slice A3 n3 c3), ptr b5] w fun e w' => e = .returned (.tuple #[]) ∧ SB w0 w' (E2 :: Box b5 #[.pointer ag] 60 :: L) := by
  obtain ⟨f0, f1, f2, f3, f4, f5⟩ := x
  have HT := Aside0.mk (show ∀ (w : World) (L : List As), SB w0 w (E1 :: L) → Calls Try.prog 50 #[.pointer ag, .int .i64 f4] w fun e w' => e = .returned (.tuple #[.int .u8 t, .bool mu, .bool ok]) ∧ SB w0 w' (E1 :: L) from fun w L => hE.type)
  have hset : ok = true → mu = true → ∀ (w : World) (L : List As), SB w0 w (E1 :: L) → Calls Try.prog 51 #[.pointer ag, .int .i64 f4, .int .u64 f5] w fun e w' => (∃ r, e = .returned (.int .i64 r)) ∧ SB w0 w' (E2 :: L) := fun h1 h2 w L => hE.set h1 h2
  have hsm := hE.same
  have hbx := hS.box #[.int .u64 f0, .bool f1, .int .i64 f2, .slice A3 n3 c3, .int .i64 f4, .int .u64 f5] 86
  have q0 : _ = some (Value.pointer ag) := blk_cell ((hbx.pick3 [2]).blk) 0
  have HS := Aside0.mk hbx
  clear hS hbx hE
  unfold r86 ptr
  cases ok with
  | false =>
    obtain rfl := hsm rfl
    clear hset hsm
    go_enter Try.func49, Try.ntmps49
    go_wp2_with (first
      | (go_at_call 50; go_must ((with_reducible refine (HT.out _ _ (HS.out.pick3 [1, 0, 2])).mono ?_); rintro e w2 ⟨rfl, hs⟩; have HS2 := Aside0.mk hs; clear hs)))
    all_goals go_end0
    all_goals exact ⟨rfl, HS2.out.pick3 [0, 2]⟩
  | true =>
    cases mu with
    | false =>
      obtain rfl := hsm rfl
      clear hset hsm
      go_enter Try.func49, Try.ntmps49
      go_wp2_with (first
        | (go_at_call 50; go_must ((with_reducible refine (HT.out _ _ (HS.out.pick3 [1, 0, 2])).mono ?_); rintro e w2 ⟨rfl, hs⟩; have HS2 := Aside0.mk hs; clear hs)))
      all_goals go_end0
      all_goals exact ⟨rfl, HS2.out.pick3 [0, 2]⟩
    | true =>
      have HL2 := Aside0.mk (hset rfl rfl)
      clear hset hsm
      go_enter Try.func49, Try.ntmps49
      go_wp2_with (first
        | (go_at_call 50; go_must ((with_reducible refine (HT.out _ _ (HS.out.pick3 [1, 0, 2])).mono ?_); rintro e w2 ⟨rfl, hs⟩; have hb := (hs.pick2 [1]).blk; have s4 := blk_cell hb 4; have s5 := blk_cell hb 5; have q0 : _ = some (Value.pointer ag) := blk_cell ((hs.pick3 [2]).blk) 0; have HS2 := Aside0.mk hs; clear hs hb))
        | (go_at_call 51; go_must ((with_reducible refine (HL2.out _ _ HS2.out).mono ?_); rintro e w3 ⟨⟨v, rfl⟩, hs⟩; have HS3 := Aside0.mk hs; clear hs)))
      all_goals first
        | (go_end0; exact ⟨rfl, HS3.out.pick3 [0, 2]⟩)
        | (refine bodyPost_ret (v := .tuple #[]) (by simp [results, Try.results49, go_sem]) rfl ?_; exact ⟨rfl, HS3.out.pick3 [0, 2]⟩)
/-- What a reply's number is as a value of a type. -/
def valB (ts : List Int) (v : Int) : Int := match ts with
  | [] => 0
  | t :: _ => if t = 127 then v % 4294967296 else v
theorem intsValue (t v : Int) (w : World) (hv : 0 ≤ v ∧ v < 18446744073709551616) :
    Calls Try.prog 53 #[.int .u8 t, .int .i64 (IntKind.i64.wrap v)] w fun e w' => e = .returned (.int .u64 (if t = 127 then v % 4294967296 else v)) ∧ Drawn0 w w' := by
  have hw1 : IntKind.u64.wrap (IntKind.i64.wrap v) = v := by rw [IntKind.wrap_u64, IntKind.wrap_i64]; omega
  have hw2 : IntKind.u64.wrap (IntKind.u32.wrap (IntKind.i64.wrap v)) = v % 4294967296 := by rw [IntKind.wrap_u64, IntKind.wrap_i64, IntKind.wrap_u32]; omega
  by_cases h : t = 127
  · have d1 : (t == 127) = true := beq_iff_eq.2 h
    rw [if_pos h]
    subst h
    have hw3 : wrap64 v % 4294967296 = v % 4294967296 := by unfold wrap64; omega
    go_enter Try.func53, Try.ntmps53
    go_wp2
    go_ret
    exact ⟨by rw [← hw3]; rfl, by repeat (first | exact Drawn0.refl _ | apply Drawn0.step)⟩
  · have d1 : (t == 127) = false := beq_eq_false_iff_ne.2 h
    rw [if_neg h]
    go_enter Try.func53, Try.ntmps53
    go_wp2
    go_ret
    exact ⟨rfl, by repeat (first | exact Drawn0.refl _ | apply Drawn0.step)⟩
set_option maxHeartbeats 1000000 in
theorem hstVal {w0 w : World} {L : List As} {b3 n1 c1 n2 c2 : Nat} {A1 A2 A3 : Option Addr} {x : S86} {n3 c3 : Nat} {ts : List Int} (hS : SB w0 w (Box b3 #[.slice A1 n1 c1, .slice A2 n2 c2] 37 :: L)) (hn : ts.length = n2) (hC : Kd.C (Kd.int .u8) w A2 n2 ts) (hl : n2 ≤ 1000000)
    (hv : 0 ≤ x.f0 ∧ x.f0 < 18446744073709551616) :
    Calls Try.prog 52 #[r86 x (.slice A3 n3 c3), ptr b3] w fun e w' => e = .returned (.int .u64 (valB ts x.f0)) ∧ SB w0 w' (Box b3 #[.slice A1 n1 c1, .slice A2 n2 c2] 37 :: L) := by
  obtain ⟨f0, f1, f2, f3, f4, f5⟩ := x
  have hv : 0 ≤ f0 ∧ f0 < 18446744073709551616 := hv
  have hbx := hS.box #[.int .u64 f0, .bool f1, .int .i64 f2, .slice A3 n3 c3, .int .i64 f4, .int .u64 f5] 86
  have hb3 := (hbx.pick2 [1]).blk
  have q1 : _ = some (Value.slice A2 n2 c2) := blk_cell hb3 1
  have hbd := hbx.drew
  have HS := Aside0.mk hbx
  have HC := Aside0.mk (Kd.C_below hC (below_alloc (Below.refl _ _) (.cells #[.int .u64 f0, .bool f1, .int .i64 f2, .slice A3 n3 c3, .int .i64 f4, .int .u64 f5] 86)))
  have HV := Aside0.mk (fun t W => intsValue t f0 W hv)
  clear hS hbx hC hb3 hbd
  unfold r86 ptr
  cases ts with
  | nil =>
    obtain rfl : n2 = 0 := hn.symm
    go_enter Try.func52, Try.ntmps52
    go_wp2
    go_ret
    exact ⟨rfl, HS.out.drop⟩
  | cons t ts =>
    obtain ⟨n, rfl⟩ : ∃ n, n2 = n + 1 := ⟨ts.length, by rw [← hn]; rfl⟩
    have e0 : (((n : Int) + 1) == 0) = false := beq_eq_false_iff_ne.2 (by omega)
    obtain ⟨ad, rfl, r0⟩ := row_cell HC.out (i := 0) (by simp)
    have had : ad.add 0 = ad := by simp [Addr.add]
    rw [had] at r0
    have r0 : _ = some (Value.int .u8 t) := r0
    obtain ⟨y, hy⟩ : ∃ y, (if t = 127 then f0 % 4294967296 else f0) = y := ⟨_, rfl⟩
    have hval : valB (t :: ts) f0 = y := hy
    have HV := HV.out t
    rw [hy] at HV
    have HV := Aside0.mk HV
    rw [hval]
    clear hval hy
    have QV := Aside0.mk (fun nd : Nat => calls_q (HV.out ((w.alloc (.cells #[.int .u64 f0, .bool f1, .int .i64 f2, .slice A3 n3 c3, .int .i64 f4, .int .u64 f5] 86)).drewN nd)))
    clear hn had
    go_enter Try.func52, Try.ntmps52
    go_wp2
    go_quiet ((go_at_call 53; with_reducible exact Calls.quiet_of (QV.out _)))
    all_goals go_wp2
    all_goals go_ret
    all_goals exact ⟨rfl, (HS.out.drewN _).drop⟩
end Go.Proofs.Ytbjglicdamenhaa.G
