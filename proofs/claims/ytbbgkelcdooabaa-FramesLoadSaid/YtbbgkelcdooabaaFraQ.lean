/- Package frames' stacks: Load. -/
import Derived.Deep.DeepMust
import Derived.Test.YtbbgkelcdooabaaFraP
import Derived.Test.YtbbgkelcdooabaaFraM
namespace Go.Proofs.Ytbbgkelcdooabaa.G
open Go.RowKit Go.Proofs.YtbbgkelcdooabaaW.PrintWords Go.Proofs.YtbbgkelcdooabaaW.PrintLast Go.Proofs.YtbbgkelcdooabaaW.PrintMore
set_option linter.unusedVariables false
set_option linter.unusedSimpArgs false
/-- A row that is read: on blocks of its own, and on what w0 had. -/
def RdA {α : Type} (w0 : World) (d : Kd α) (A : Option Addr) (n : Nat) (xs : List α) : As where
  P w F := (∀ W : World, (∀ k, F k → W.heap[k]? = w.heap[k]?) → (∀ k, k < w0.heap.size → W.heap[k]? = w0.heap[k]?) → d.C W A n xs) ∧ ∀ k, F k → k < w.heap.size
  lt h := h.2
  mv {w w1 F} h hm := ⟨fun W h1 h2 => h.1 W (fun k hk => (h1 k hk).trans (hm k hk)) h2, fun k hk => by
    have h1 := h.2 k hk
    have h2 := hm k hk
    rw [Array.getElem?_eq_getElem h1] at h2
    exact (Array.getElem?_eq_some_iff.1 h2).1⟩
theorem SB.rd {α : Type} {d : Kd α} {A : Option Addr} {n : Nat} {xs : List α} {w0 w : World} {L : List As} (h : SB w0 w (RdA w0 d A n xs :: L)) : d.C w A n xs := by
  obtain ⟨F, hF, _⟩ := h.head
  exact hF.1 w (fun _ _ => rfl) (fun k hk => h.bel.block k hk)
theorem SB.toRd {α : Type} {d : Kd α} {e : Nat} {A : Option Addr} {n c : Nat} {xs : List α} {w0 w : World} {L : List As} (h : SB w0 w (Row d e (.slice A n c) xs :: L)) : SB w0 w (RdA w0 d A n xs :: L) := by
  obtain ⟨F, hF, hge, K⟩ := h.frame
  have hf := Kd.N_F (Kd.R_N hF.1)
  exact K w (RdA w0 d A n xs) F ⟨fun W h1 _ => hf W (fun k hk _ => h1 k hk), hF.2⟩ (Fr.refl _ _) (fun k hk => .inl hk)
theorem SB.rdArg {α : Type} {d : Kd α} {A : Option Addr} {n : Nat} {xs : List α} {w0 w : World} {L : List As} (hd : Kd.Heap d) (h : SB w0 w L) (hC : d.C w0 A n xs) : SB w0 w (RdA w0 d A n xs :: L) :=
  h.new (Below.refl _ _) (A := RdA w0 d A n xs) (F' := fun _ => False) ⟨fun W _ h2 => hd.C h2 hC, fun k hk => hk.elim⟩ (fun k hk => hk.elim)
/-- The store of many cells at once. -/
theorem SB.storeAll {P : Program} {ops : Array Oper} {rest : List Oper} {o : Oper} {a : Act} {Q : Exit → Act → World → Prop} {w0 W : World} {L : List As} {p : Nat} {cs : Array Value} {t0 : TypeId} (HS : SB w0 W (Box p cs t0 :: L))
    (hN : o.dst = none) (hgd : o.guard = none) (t : TypeId) (pa x : Operand) (ho : o.op = .store t pa x) (off : Nat) (haddr : a.eval pa = .pointer (some ⟨p, off, none⟩)) (u : Value) (seg : List Value) (hx : a.eval x = u) (hu : u.cells.toList = seg) (ht : (P.info? t).map (·.size) = some seg.length)
    (hfit : off + seg.length ≤ cs.size) (h1 : ∀ q ∈ seg, q.oneCell' = true)
    (h : ∀ w1 cs1, cs1.size = cs.size → cs1.toList = cs.toList.take off ++ seg ++ cs.toList.drop (off + seg.length) → SB w0 w1 (Box p cs1 t0 :: L) → wpList P ops Q rest a w1) : wpList P ops Q (o :: rest) a W := by
  obtain ⟨F, hF, hge, K⟩ := HS.frame
  obtain ⟨cs1, h3, h4, h5⟩ := setCells_row seg off W cs hF.1 hfit
  obtain ⟨s1, s2, s3, s4⟩ := setCells_same p seg off W
  have hrun := run_store_run (P := P) t u seg hF.1 hu ht hfit h1
  refine wpList_plain hgd fun Kk hK => ?_
  unfold Oper.wp execOp
  simp only [ho, haddr, hx, Sem.run_bind, Sem.run_pure, Result.andThen_ok, hrun]
  show Kk (a.put o.dst undef) _
  rw [hN]
  refine hK _ _ (h _ cs1 h4 h5 (K _ (Box p cs1 t0) F ⟨h3, hF.2⟩ ⟨s1, s2, s3, by rw [s4]; exact Nat.le_refl _, fun k _ hk => setCells_far seg off k (fun he => hk ((hF.2 k).2 he))⟩ (fun k hk => .inl hk)))
def sFm (x : S58) : Fm := ⟨x.f0, x.f1, x.f2, x.f3⟩
def okB (n : Int) : Int → List S58 → Bool
  | _, [] => true
  | last, x :: l => if x.f3 < last then false else if n < x.f3 then false else okB n x.f3 l
theorem okB_cons (n last : Int) (x : S58) (l : List S58) : okB n last (x :: l) = if x.f3 < last then false else if n < x.f3 then false else okB n x.f3 l := rfl
def fLoad (t : FS) (fr : List S58) (vals : List Int) : FS × Bool :=
  if t.room < (fr.length : Int) then (t, false) else if okB (vals.length : Int) 0 fr then (⟨vals, fr.map sFm, t.room⟩, true) else (t, false)
theorem okB_base : ∀ {n last : Int} {l : List S58}, okB n last l = true → ∀ x ∈ l, last ≤ x.f3 ∧ x.f3 ≤ n
  | n, last, [], _, x, hx => by cases hx
  | n, last, y :: l, h, x, hx => by
    unfold okB at h
    by_cases h1 : y.f3 < last
    · rw [if_pos h1] at h; cases h
    · rw [if_neg h1] at h
      by_cases h2 : n < y.f3
      · rw [if_pos h2] at h; cases h
      · rw [if_neg h2] at h
        rcases List.mem_cons.1 hx with rfl | hx
        · omega
        · have := okB_base h x hx
          omega
/-- The cells while frames are laid. -/
def gC (v : Value) (z : List (Fm × Value)) (r : Int) (n : Nat) : Array Value := (fsC v z r).setIfInBounds 257 (.int .i64 (n : Int))
theorem gC_size (v : Value) (z : List (Fm × Value)) (r : Int) (n : Nat) : (gC v z r n).size = 259 := by unfold gC; rw [Array.size_setIfInBounds, fsC_size]
theorem gC_at (v : Value) (z : List (Fm × Value)) (r : Int) (n i : Nat) (hi : i < 259) : (gC v z r n)[i]? = some (if i = 257 then .int .i64 (n : Int) else cellAt v z r i) := by
  unfold gC
  rw [Array.getElem?_setIfInBounds, fsC_size, fsC_at _ _ _ _ hi]
  by_cases h : i = 257
  · subst h; simp
  · rw [if_neg (by omega), if_neg h]
theorem gC_done (v : Value) (z : List (Fm × Value)) (r : Int) (n : Nat) (hz : z.length = n) : gC v z r n = fsC v z r := by
  refine fsC_ext (gC_size v z r n) (fun i hi => ?_)
  rw [gC_at v z r n i hi]
  by_cases h : i = 257
  · subst h; rw [if_pos rfl, ← hz]; rfl
  · rw [if_neg h]
theorem gC_push (v : Value) (z : List (Fm × Value)) (r : Int) (n : Nat) (x : Fm × Value) (k : Nat) (hz : z.length = k) (hk : k < 64) :
    ((((gC v z r n).setIfInBounds (1 + k * 4) (.int .i64 x.1.f)).setIfInBounds (1 + k * 4 + 1) (.int .i64 x.1.pc)).setIfInBounds (1 + k * 4 + 2) x.2).setIfInBounds (1 + k * 4 + 3) (.int .i64 x.1.base) = gC v (z ++ [x]) r n := by
  have hp := fsC_push v z r x k hz hk
  unfold gC
  rw [← hp]
  apply Array.ext_getElem?
  intro i
  simp only [Array.getElem?_setIfInBounds, Array.size_setIfInBounds, fsC_size]
  by_cases h257 : 257 = i
  · subst h257
    simp only [if_true, show (257 : Nat) < 259 from by omega, if_neg (show ¬ 1 + k * 4 = 257 by omega), if_neg (show ¬ 1 + k * 4 + 1 = 257 by omega), if_neg (show ¬ 1 + k * 4 + 2 = 257 by omega), if_neg (show ¬ 1 + k * 4 + 3 = 257 by omega)]
  · simp only [if_neg h257]
def Z70 : Array Value := Array.ofFn fun i : Fin 256 => fz4.getD (i.1 % 4) (.slice none 0 0)
theorem built70 : Try.prog.built 70 [] = some Z70 := by kernel_rfl
theorem Z70_len : Z70.toList.length = 256 := by rw [Array.length_toList]; exact Array.size_ofFn
theorem Z70_at (i : Nat) (hi : i < 256) : Z70.toList[i]? = some (fz4.getD (i % 4) (.slice none 0 0)) := by
  rw [Array.getElem?_toList]
  unfold Z70
  rw [Array.getElem?_ofFn, dif_pos hi]
attribute [irreducible] Z70
theorem Z70_one : ∀ q ∈ Z70.toList, q.oneCell' = true := by
  intro q hq
  obtain ⟨i, hi, rfl⟩ := List.getElem_of_mem hq
  rw [Z70_len] at hi
  have h := Z70_at i hi
  rw [List.getElem?_eq_getElem (by rw [Z70_len]; exact hi)] at h
  injection h with h
  rw [h]
  have h4 : i % 4 < 4 := by omega
  generalize i % 4 = j at h4
  rcases j with _ | _ | _ | _ | j
  · rfl
  · rfl
  · rfl
  · rfl
  · omega
theorem info70 : (Try.prog.info? 70).map (·.size) = some Z70.toList.length := by rw [Z70_len]; kernel_rfl
theorem gC_zero (v0 v1 : Value) (z0 : List (Fm × Value)) (r : Int) (n : Nat) (cs1 : Array Value) (hs : cs1.size = 259) (ht : cs1.toList = (((fsC v0 z0 r).setIfInBounds 0 v1).setIfInBounds 257 (.int .i64 (n : Int))).toList.take 1 ++ Z70.toList ++ (((fsC v0 z0 r).setIfInBounds 0 v1).setIfInBounds 257 (.int .i64 (n : Int))).toList.drop (1 + 256)) :
    cs1 = gC v1 [] r n := by
  obtain ⟨cs, hcs⟩ : ∃ cs, ((fsC v0 z0 r).setIfInBounds 0 v1).setIfInBounds 257 (.int .i64 (n : Int)) = cs := ⟨_, rfl⟩
  rw [hcs] at ht
  have hsz : cs.size = 259 := by rw [← hcs, Array.size_setIfInBounds, Array.size_setIfInBounds, fsC_size]
  have hget : ∀ i, cs[i]? = if i = 257 then some (.int .i64 (n : Int)) else if i = 0 then some v1 else (fsC v0 z0 r)[i]? := by
    intro i
    rw [← hcs, Array.getElem?_setIfInBounds, Array.getElem?_setIfInBounds, Array.size_setIfInBounds, fsC_size]
    by_cases h1 : i = 257
    · subst h1; simp
    · rw [if_neg (by omega), if_neg h1]
      by_cases h2 : i = 0
      · subst h2; simp
      · rw [if_neg (by omega), if_neg h2]
  apply Array.ext_getElem?
  intro i
  have hl1 : (cs.toList.take 1).length = 1 := by rw [List.length_take, Array.length_toList, hsz]; rfl
  by_cases hi : i < 259
  · rw [gC_at _ _ _ _ _ hi, ← Array.getElem?_toList, ht]
    by_cases h0 : i = 0
    · subst h0
      rw [List.append_assoc, List.getElem?_append_left (by omega), List.getElem?_take_of_lt (by omega), Array.getElem?_toList, hget]
      rfl
    · by_cases h1 : i < 257
      · rw [List.getElem?_append_left (by rw [List.length_append, hl1, Z70_len]; omega), List.getElem?_append_right (by omega), hl1, Z70_at _ (by omega), if_neg (by omega)]
        unfold cellAt
        rw [if_neg h0, if_neg (by omega), if_neg (by omega)]
        rfl
      · rw [List.getElem?_append_right (by rw [List.length_append, hl1, Z70_len]; omega), List.length_append, hl1, Z70_len, List.getElem?_drop, Array.getElem?_toList, show 1 + 256 + (i - (1 + 256)) = i by omega, hget]
        by_cases h2 : i = 257
        · rw [if_pos h2, if_pos h2]
        · rw [if_neg h2, if_neg h0, if_neg h2, fsC_at _ _ _ _ hi, show i = 258 by omega]
          rfl
  · rw [Array.getElem?_eq_none (by omega), Array.getElem?_eq_none (by rw [gC_size]; omega)]
theorem cloneN {w0 w : World} {L : List As} (HB : SB w0 w L) (A : Option Addr) (n c : Nat) (l : List Int) (hn : l.length = n) (hC : Kd.C (Kd.int .u64) w A n l) (hc : n ≤ c) (hl : n ≤ 1000000) :
    Calls Try.prog 36 #[.slice A n c] w fun e w' => ∃ v, e = .returned v ∧ SB w0 w' (Row (Kd.int .u64) 35 v l :: L) := by
  subst hn
  exact cloneU HB A c l hC hc hl
attribute [-go_sem] Instr.build in
set_option maxHeartbeats 4000000 in
theorem frLoad {w0 w : World} {L : List As} {q : Nat} {t : FS} {A Av : Option Addr} {n m c cv : Nat} {fr : List S58} {vals : List Int} (hS : SB w0 w (FO q t :: RdA w0 k58 A n fr :: RdA w0 (Kd.int .u64) Av m vals :: L)) (hn : fr.length = n) (hm : vals.length = m) (hc : n ≤ c) (hcv : m ≤ cv) (hM : n ≤ 1000000) (hMv : m ≤ 1000000) (hl : ∀ x ∈ fr, x.f2.length ≤ 1000000)
    {t' : FS} {r : Bool} (hr : fLoad t fr vals = (t', r)) :
    Calls Try.prog 29 #[.pointer (some ⟨q, 0, none⟩), .slice A n c, .slice Av m cv] w fun e w' => e = .returned (.bool r) ∧ SB w0 w' (FO q t' :: RdA w0 k58 A n fr :: RdA w0 (Kd.int .u64) Av m vals :: L) := by
  have hbl : ∀ W : World, (Instr.build 70 #[]).run Try.prog W = .ok (.agg Z70) W := fun W => run_build W 70 #[] _ built70
  have HBL := Aside0.mk hbl
  clear hbl
  obtain ⟨v, z, hz, hk, h1⟩ := hS.open_
  have hb := h1.blk
  have c258 : w.cell? ⟨q, 258, none⟩ = some (.int .i64 t.room) := by rw [fsC_b _ _ _ hb 258 (by omega)]; rfl
  have HS := Aside0.mk hS
  have HK := Aside0.mk hk
  have HN := Aside0.mk hn
  have HM := Aside0.mk hm
  clear h1 hb hz hS hn hm
  unfold fLoad at hr
  rw [HN.out, HM.out] at hr
  by_cases hroom : t.room < (n : Int)
  · have d1 : decide (t.room < (n : Int)) = true := decide_eq_true hroom
    rw [if_pos hroom] at hr
    simp only [Prod.mk.injEq] at hr
    obtain ⟨rfl, rfl⟩ := hr
    go_enter Try.func29, Try.ntmps29
    go_wp2
    go_ret
    exact ⟨rfl, HS.out⟩
  have d1 : decide (t.room < (n : Int)) = false := decide_eq_false hroom
  rw [if_neg hroom] at hr
  have HR := Aside0.mk hr
  clear hr
  go_enter Try.func29, Try.ntmps29
  go_wp2
  go_loopw [7, 9, 25] (fun v7 v9 v25 wr => ∃ (i : Nat) (last : Int), v25 = .int .i64 i ∧ v7 = .int .i64 last ∧ i ≤ n ∧ Aside0 (okB (m : Int) 0 fr = okB (m : Int) last (fr.drop i)) ∧ Aside0 (SB w0 wr (FO q t :: RdA w0 k58 A n fr :: RdA w0 (Kd.int .u64) Av m vals :: L))) (fun _ _ v25 _ => n - (intOf v25).toNat)
  case atStart => exact ⟨0, 0, rfl, rfl, Nat.zero_le _, ⟨rfl⟩, HS⟩
  case round =>
    obtain ⟨i, last, rfl, rfl, hi, HO, HW⟩ := hrel
    by_cases hlt : i < n
    · have e1 : decide ((i : Int) < (n : Int)) = true := decide_eq_true (by omega)
      have e2 : decide (i < n) = true := decide_eq_true hlt
      have hil : i < fr.length := by rw [HN.out]; exact hlt
      obtain ⟨x, hx⟩ : ∃ x, fr[i] = x := ⟨_, rfl⟩
      have HD := HO.out
      rw [List.drop_eq_getElem_cons hil, hx, okB_cons] at HD
      have hat := at_T58 (HW.out.pick2 [1]).rd (i : Int) (by omega) (by omega)
      rw [show rd_T58 fr (i : Int) = fr[i] by unfold rd_T58; rw [Int.toNat_natCast, List.getD_eq_getElem?_getD, List.getElem?_eq_getElem hil]; rfl, hx, Int.toNat_natCast] at hat
      obtain ⟨ad, A2, c2, rfl, q0, q1, q2, q3, l2, g2⟩ := hat
      clear g2 hx
      by_cases hb1 : x.f3 < last
      · rw [if_pos hb1] at HD
        have e3 : decide (x.f3 < last) = true := decide_eq_true hb1
        have HR2 := HR.out
        rw [HD, if_neg (by simp)] at HR2
        simp only [Prod.mk.injEq] at HR2
        obtain ⟨rfl, rfl⟩ := HR2
        go_wp2
        go_ret
        exact ⟨rfl, (HW.out.box _ 58).drop⟩
      · have e3 : decide (x.f3 < last) = false := decide_eq_false hb1
        rw [if_neg hb1] at HD
        by_cases hb2 : (m : Int) < x.f3
        · rw [if_pos hb2] at HD
          have e4 : decide ((m : Int) < x.f3) = true := decide_eq_true hb2
          have HR2 := HR.out
          rw [HD, if_neg (by simp)] at HR2
          simp only [Prod.mk.injEq] at HR2
          obtain ⟨rfl, rfl⟩ := HR2
          go_wp2
          go_ret
          exact ⟨rfl, (HW.out.box _ 58).drop⟩
        · rw [if_neg hb2] at HD
          have e4 : decide ((m : Int) < x.f3) = false := decide_eq_false hb2
          go_wp2
          refine ⟨⟨i + 1, x.f3, by simp, rfl, by omega, ⟨HD⟩, ⟨(HW.out.box _ 58).drop⟩⟩, by simp [intOf]; omega⟩
    · have e1 : decide ((i : Int) < (n : Int)) = false := decide_eq_false (by omega)
      have e2 : decide (i < n) = false := decide_eq_false hlt
      have HD := HO.out
      rw [List.drop_of_length_le (by rw [HN.out]; omega)] at HD
      have HD := HD.trans (show okB (m : Int) last [] = true from rfl)
      have HR2 := HR.out
      rw [HD, if_pos rfl] at HR2
      simp only [Prod.mk.injEq] at HR2
      obtain ⟨rfl, rfl⟩ := HR2
      have HOK := Aside0.mk HD
      clear HD HO HR
      obtain ⟨v0, z0, hz0, _, h1⟩ := HW.out.open_
      have HX := Aside0.mk (h1.pick5 [0, 3, 4])
      clear h1 hz0
      have hbl := HBL.out
      go_wp2_with (first
        | (go_at_call 36; go_must ((with_reducible refine (cloneN (HX.out) Av m cv vals HM.out (HX.out.pick3 [2]).rd hcv hMv).mono ?_); rintro e w5 ⟨v5, rfl, hs⟩; obtain ⟨A5, c5, rfl, hc5, _⟩ := hs.reads; rw [HM.out] at hs hc5 ⊢; have hb5 := (hs.pick2 [1]).blk; have s0 := fsC_b _ _ _ hb5 0 (by omega); have f0 := blk_frozen hb5 0; have s257 := fsC_b _ _ _ hb5 257 (by omega); have f257 := blk_frozen hb5 257; have HX5 := Aside0.mk ((((hs.pick2 [1, 0]).set1 0 (.slice A5 m c5)).set1 257 (.int .i64 (n : Int)))); clear hs hb5))
        | ((with_reducible refine gate_ (.store 70 (.tmp 56) (.tmp 54)) rfl ?_); go_must (refine SB.storeAll HX5.out rfl rfl 70 (.tmp 56) (.tmp 54) rfl 1 rfl (.agg Z70) Z70.toList rfl rfl info70 (by rw [Z70_len, Array.size_setIfInBounds, Array.size_setIfInBounds, fsC_size]; omega) Z70_one ?_; intro w6 cs6 hsz6 hcs6 hs6; rw [Z70_len] at hcs6; rw [Array.size_setIfInBounds, Array.size_setIfInBounds, fsC_size] at hsz6; rw [gC_zero _ _ _ _ _ _ hsz6 hcs6] at hs6; have HX6 := Aside0.mk hs6; clear hs6 hcs6 hsz6)))
      obtain ⟨V5, hV5⟩ : ∃ V, Value.slice A5 m c5 = V := ⟨_, rfl⟩
      rw [hV5] at HX6
      clear HX HX5 HW hV5
      go_loopw [10, 11, 59] (fun v10 v11 v59 wr => ∃ (k : Nat) (z : List (Fm × Value)), v59 = .int .i64 k ∧ k ≤ n ∧ Aside0 (z.map Prod.fst = (fr.take k).map sFm) ∧ Aside0 (SB w0 wr (Box q (gC V5 z t.room n) 72 :: Row (Kd.int .u64) 35 V5 vals :: Sep (rowsOf z) :: RdA w0 k58 A n fr :: RdA w0 (Kd.int .u64) Av m vals :: L))) (fun _ _ v59 _ => n - (intOf v59).toNat)
      case atStart => exact ⟨0, [], rfl, Nat.zero_le _, ⟨rfl⟩, ⟨(SB.sep0.2 HX6.out).pick3 [1, 2, 0]⟩⟩
      case round =>
        obtain ⟨k, z, rfl, hkn, HZ, HW⟩ := hrel
        by_cases hlt2 : k < n
        · have e3 : decide ((k : Int) < (n : Int)) = true := decide_eq_true (by omega)
          have e4 : decide (k < n) = true := decide_eq_true hlt2
          have hil : k < fr.length := by rw [HN.out]; exact hlt2
          obtain ⟨x, hx⟩ : ∃ x, fr[k] = x := ⟨_, rfl⟩
          have hxl : x.f2.length ≤ 1000000 := hl x (by rw [← hx]; exact List.getElem_mem _)
          have HTK := Aside0.mk (show (fr.take (k + 1)).map sFm = (fr.take k).map sFm ++ [sFm x] by rw [List.take_succ_eq_append_getElem hil, hx, List.map_append]; rfl)
          have hk64 : k < 64 := by have := HK.out.room; omega
          have hzl : z.length = k := by have := congrArg List.length HZ.out; rw [List.length_map, List.length_map, List.length_take] at this; omega
          have HZL := Aside0.mk hzl
          have hat := at_T58 (HW.out.pick4 [3]).rd (k : Int) (by omega) (by omega)
          rw [show rd_T58 fr (k : Int) = fr[k] by unfold rd_T58; rw [Int.toNat_natCast, List.getD_eq_getElem?_getD, List.getElem?_eq_getElem hil]; rfl, hx, Int.toNat_natCast] at hat
          obtain ⟨ad, A2, c2, hAd, q0, q1, q2, q3, l2, g2⟩ := hat
          have HG2 := Aside0.mk g2
          obtain ⟨b, hb⟩ : ∃ b, wr.heap.size = b := ⟨_, rfl⟩
          have hbx := HW.out.box #[.int .i64 x.f0, .int .i64 x.f1, .slice A2 x.f2.length c2, .int .i64 x.f3] 58
          rw [hb] at hbx
          have HBX := Aside0.mk hbx.drew
          have HBel := Aside0.mk (below_drew (below_alloc (Below.refl wr.heap.size wr) (.cells #[.int .i64 x.f0, .int .i64 x.f1, .slice A2 x.f2.length c2, .int .i64 x.f3] 58)))
          have HAD := Aside0.mk hAd
          subst hAd
          clear g2 hx hzl hbx
          go_wp2
          have hb0 := HBX.out.blk
          have s0 := blk_cell hb0 0
          have s1 := blk_cell hb0 1
          have s2 := blk_cell hb0 2
          have s3 := blk_cell hb0 3
          clear hb0
          refine rg_startL (n := 8) (S := fun w' => w'.cell? ⟨b, 0, none⟩ = some (.int .i64 x.f0) ∧ w'.cell? ⟨b, 1, none⟩ = some (.int .i64 x.f1) ∧ w'.cell? ⟨b, 2, none⟩ = some (.slice A2 x.f2.length c2) ∧ w'.cell? ⟨b, 3, none⟩ = some (.int .i64 x.f3)) (bm 8 0) (by kernel_rfl) rfl (by kernel_rfl) (⟨s0, s1, s2, s3⟩) (fun wd hwd hHeld => ?_)
          refine rg_take (i := 0) (N := some 64) (v := ?_) (a' := ?_) (bm 8 1) rfl rfl (by kernel_rfl) (fun _ _ _ h => h) hHeld (Or.inl ⟨by rfl, ?_⟩) ?_ ?_
          rotate_left
          · intro w' hw'
            have s0 := hw'.1
            have s1 := hw'.2.1
            have s2 := hw'.2.2.1
            have s3 := hw'.2.2.2
            have hc1 : (k : Int) < 64 := by omega
            have hc2 : (0 : Int) ≤ (k : Int) := by omega
            go_simp
            with_reducible rfl
          rotate_left
          · simp only [Act.put, List.setIfInBounds_toArray, List.set_cons_zero, List.set_cons_succ]
            rfl
          refine rg_take (i := 1) (N := some 65) (v := ?_) (a' := ?_) (bm 8 3) rfl rfl (by kernel_rfl) (fun _ _ _ h => h) hHeld (Or.inl ⟨by rfl, ?_⟩) ?_ ?_
          rotate_left
          · intro w' hw'
            have s0 := hw'.1
            have s1 := hw'.2.1
            have s2 := hw'.2.2.1
            have s3 := hw'.2.2.2
            have hc1 : (k : Int) < 64 := by omega
            have hc2 : (0 : Int) ≤ (k : Int) := by omega
            go_simp
            with_reducible rfl
          rotate_left
          · simp only [Act.put, List.setIfInBounds_toArray, List.set_cons_zero, List.set_cons_succ]
            rfl
          refine rg_take (i := 2) (N := some 66) (v := ?_) (a' := ?_) (bm 8 7) rfl rfl (by kernel_rfl) (fun _ _ _ h => h) hHeld (Or.inl ⟨by rfl, ?_⟩) ?_ ?_
          rotate_left
          · intro w' hw'
            have s0 := hw'.1
            have s1 := hw'.2.1
            have s2 := hw'.2.2.1
            have s3 := hw'.2.2.2
            have hc1 : (k : Int) < 64 := by omega
            have hc2 : (0 : Int) ≤ (k : Int) := by omega
            go_simp
            with_reducible rfl
          rotate_left
          · simp only [Act.put, List.setIfInBounds_toArray, List.set_cons_zero, List.set_cons_succ]
            rfl
          refine rg_take (i := 4) (N := some 68) (v := ?_) (a' := ?_) (bm 8 23) rfl rfl (by kernel_rfl) (fun _ _ _ h => h) hHeld (Or.inl ⟨by rfl, ?_⟩) ?_ ?_
          rotate_left
          · intro w' hw'
            have s0 := hw'.1
            have s1 := hw'.2.1
            have s2 := hw'.2.2.1
            have s3 := hw'.2.2.2
            have hc1 : (k : Int) < 64 := by omega
            have hc2 : (0 : Int) ≤ (k : Int) := by omega
            go_simp
            with_reducible rfl
          rotate_left
          · simp only [Act.put, List.setIfInBounds_toArray, List.set_cons_zero, List.set_cons_succ]
            rfl
          refine rg_take (i := 5) (N := some 69) (v := ?_) (a' := ?_) (bm 8 55) rfl rfl (by kernel_rfl) (fun _ _ _ h => h) hHeld (Or.inl ⟨by rfl, ?_⟩) ?_ ?_
          rotate_left
          · intro w' hw'
            have s0 := hw'.1
            have s1 := hw'.2.1
            have s2 := hw'.2.2.1
            have s3 := hw'.2.2.2
            have hc1 : (k : Int) < 64 := by omega
            have hc2 : (0 : Int) ≤ (k : Int) := by omega
            go_simp
            with_reducible rfl
          rotate_left
          · simp only [Act.put, List.setIfInBounds_toArray, List.set_cons_zero, List.set_cons_succ]
            rfl
          refine rg_ready [3] (by kernel_rfl) (by simp) ?_
          refine rg_one (i := 3) (N := some 67) (bm 8 63) rfl rfl (by kernel_rfl) (fun K hK => ?_) rg_nil
          have HD := Aside0.mk (hwd.out ▸ HBX.out)
          have hCw := Kd.C_below HG2.out (hwd.out ▸ HBel.out)
          have HCW := Aside0.mk hCw
          clear hCw
          go_simp
          go_at_call 40
          with_reducible refine (frOwn HD.out x.f0 x.f1 x.f3 A2 c2 x.f2 HCW.out l2 hxl).mono ?_
          rintro e wx3r16 ⟨v7, rfl, hs⟩
          obtain ⟨A7, c7, rfl, hc7, _⟩ := hs.reads
          have HD7 := Aside0.mk (hs.pick5 [2, 0, 1, 3, 4])
          have hb7 := (hs.pick2 [1]).blk
          have hnew : _ ∧ _ ∧ _ ∧ _ := ⟨blk_cell hb7 0, blk_cell hb7 1, blk_cell hb7 2, blk_cell hb7 3⟩
          clear hs hb7
          go_wp2_with fail
          refine hK.out _ _ hnew ?_
          clear hK K
          refine rg_norm (a' := ?_) ?_ ?_
          rotate_left
          · simp only [Act.put, List.setIfInBounds_toArray, List.set_cons_zero, List.set_cons_succ]
            rfl
          clear hHeld
          have hHeld := hnew
          clear hnew
          refine rg_take (i := 6) (N := some 70) (v := ?_) (a' := ?_) (bm 8 127) rfl rfl (by kernel_rfl) (fun _ _ _ h => h) hHeld (Or.inl ⟨by rfl, ?_⟩) ?_ ?_
          rotate_left
          · intro w' hw'
            have s0 := hw'.1
            have s1 := hw'.2.1
            have s2 := hw'.2.2.1
            have s3 := hw'.2.2.2
            have hc1 : (k : Int) < 64 := by omega
            have hc2 : (0 : Int) ≤ (k : Int) := by omega
            go_simp
            with_reducible rfl
          rotate_left
          · simp only [Act.put, List.setIfInBounds_toArray, List.set_cons_zero, List.set_cons_succ]
            rfl
          refine rg_ready [7] (by kernel_rfl) (by simp) ?_
          refine rg_one (i := 7) (N := none) (bm 8 255) rfl rfl (by kernel_rfl) (fun K hK => ?_) rg_nil
          have hb8 := HD7.out.blk
          have x0 := blk_have hb8 (1 + k * 4) (by rw [gC_size]; omega)
          have x1 := blk_have hb8 (1 + k * 4 + 1) (by rw [gC_size]; omega)
          have x2 := blk_have hb8 (1 + k * 4 + 2) (by rw [gC_size]; omega)
          have x3 := blk_have hb8 (1 + k * 4 + 3) (by rw [gC_size]; omega)
          have f0 := blk_frozen hb8 (1 + k * 4)
          have f1 := blk_frozen hb8 (1 + k * 4 + 1)
          have f2 := blk_frozen hb8 (1 + k * 4 + 2)
          have f3 := blk_frozen hb8 (1 + k * 4 + 3)
          have h9 := HD7.out.set4 (1 + k * 4) (.int .i64 x.f0) (.int .i64 x.f1) (.slice A7 x.f2.length c7) (.int .i64 x.f3)
          have hb9 := (h9.pick3 [2]).blk
          have hnew : _ ∧ _ ∧ _ ∧ _ := ⟨blk_cell hb9 0, blk_cell hb9 1, blk_cell hb9 2, blk_cell hb9 3⟩
          have HD9 := Aside0.mk h9
          clear hb8 h9 hb9
          go_simp
          refine hK.out undef _ hnew ?_
          clear hK K
          refine rg_norm (a' := ?_) ?_ ?_
          rotate_left
          · simp only [Act.put, List.setIfInBounds_toArray, List.set_cons_zero, List.set_cons_succ]
            rfl
          clear hHeld
          have hHeld := hnew
          clear hnew
          refine rg_done (by kernel_rfl) ?_
          go_wp2
          have h10 := HD9.out
          have hp : ((((gC V5 z t.room n).setIfInBounds (1 + k * 4) (.int .i64 x.f0)).setIfInBounds (1 + k * 4 + 1) (.int .i64 x.f1)).setIfInBounds (1 + k * 4 + 2) (.slice A7 x.f2.length c7)).setIfInBounds (1 + k * 4 + 3) (.int .i64 x.f3) = gC V5 (z ++ [(sFm x, Value.slice A7 x.f2.length c7)]) t.room n := gC_push V5 z t.room n (sFm x, .slice A7 x.f2.length c7) k HZL.out hk64
          rw [hp] at h10
          have h11 : SB w0 _ (Sep (rowsOf z ++ [Row (Kd.int .u64) 35 (.slice A7 x.f2.length c7) x.f2]) :: Box q (gC V5 (z ++ [(sFm x, Value.slice A7 x.f2.length c7)]) t.room n) 72 :: Row (Kd.int .u64) 35 V5 vals :: RdA w0 k58 (some ad) n fr :: RdA w0 (Kd.int .u64) Av m vals :: L) := SB.sepPush (h10.pick5 [1, 4, 0, 3])
          have hp2 : rowsOf (z ++ [(sFm x, Value.slice A7 x.f2.length c7)]) = rowsOf z ++ [Row (Kd.int .u64) 35 (.slice A7 x.f2.length c7) x.f2] := rowsOf_push z (sFm x, .slice A7 x.f2.length c7)
          rw [← hp2] at h11
          refine ⟨⟨k + 1, z ++ [(sFm x, Value.slice A7 x.f2.length c7)], by simp, by omega, ⟨by rw [HTK.out, List.map_append, HZ.out]; rfl⟩, ⟨h11.pick3 [1, 2, 0]⟩⟩, by simp [intOf]; omega⟩
        · have e3 : decide ((k : Int) < (n : Int)) = false := decide_eq_false (by omega)
          have e4 : decide (k < n) = false := decide_eq_false hlt2
          obtain rfl : k = n := by omega
          go_wp2
          go_ret
          have hz2 := HZ.out
          rw [List.take_of_length_le (by rw [HN.out]; exact Nat.le_refl _)] at hz2
          have h12 := HW.out
          rw [gC_done V5 z t.room k (by have := congrArg List.length hz2; rw [List.length_map, List.length_map, HN.out] at this; exact this)] at h12
          refine ⟨rfl, SB.close_ (s := ⟨vals, fr.map sFm, t.room⟩) hz2 ⟨HK.out.room0, HK.out.room, by show ((fr.map sFm).length : Int) ≤ t.room; rw [List.length_map, HN.out]; omega, fun f hf => ?_⟩ h12⟩
          obtain ⟨y, hy, rfl⟩ := List.mem_map.1 hf
          have hbs := okB_base HOK.out y hy
          exact ⟨hbs.1, by show y.f3 ≤ 1000000000000; omega⟩
end Go.Proofs.Ytbbgkelcdooabaa.G
