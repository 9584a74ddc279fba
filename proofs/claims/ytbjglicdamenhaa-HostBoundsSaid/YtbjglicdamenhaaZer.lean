/- append(s, make([]T, m)...): zeros onto a row of the call's own. -/
import Derived.Lib.AppendZeros
import Derived.Lib.AppendZerosOnto
import Derived.Test.YtbjglicdamenhaaApp
namespace Go.Proofs.Ytbjglicdamenhaa.G
open Go.RowKit Go.Proofs.YtbjglicdamenhaaW.PrintWords Go.Proofs.YtbjglicdamenhaaW.PrintLast Go.Proofs.YtbjglicdamenhaaW.PrintMore
set_option linter.unusedVariables false
set_option linter.unusedSimpArgs false
theorem heap_old {w : World} (o : Obj) (k : Nat) (hk : k < w.heap.size) : (w.alloc o).heap[k]? = w.heap[k]? := (below_alloc (Below.refl _ _) o).block k hk
theorem zc_one (z : Value) (hz : z.cells = #[z]) (m : Nat) : (Builtin.zeroCells z.cells m).toList = List.replicate m z := by
  rw [hz]
  simp [Builtin.zeroCells]
  apply List.ext_getElem
  · simp
  · intro i h1 h2
    simp [Nat.mod_one]
theorem zc_oneA (z : Value) (hz : z.cells = #[z]) (m : Nat) : Builtin.zeroCells z.cells m = (List.replicate m z).toArray := by
  rw [← zc_one z hz m, Array.toArray_toList]
theorem run_append_own_zeros {P : Program} (w : World) (base : Nat) (t tn ty e : TypeId) (i : TypeInfo) (z : Value) (bytes : Nat) (kq kn : IntKind) (ht : P.underlying t = some (.slice e)) (htn : P.underlying tn = some (.int kn)) (hi : P.info? e = some i) (hz : i.zero = some z)
    (hsize : i.size = 1) (hby : i.bytes = bytes) (hb0 : 0 < bytes) (hzc : z.cells = #[z]) (hz1 : z.oneCell' = true)
    (v : Value) (n : Nat) (xs : List Value) (hown : w.ownsRow base e 1 v n xs) (m : Nat) (hbytes : (n + m) * bytes ≤ 140737488355328) (hbase : base ≤ w.heap.size) :
    ∃ v' w', (Builtin.append_ #[t, tn] ty #[v, .int kq (m : Int)]).run P w = .ok v' w' ∧ w'.ownsRow base e 1 v' (n + m) (xs ++ List.replicate m z) ∧ w.grownBy w' v.ownBlock ∧ (v'.ownBlock = v.ownBlock ∨ v'.ownBlock = some w.heap.size) := by
  subst hby
  have hnm : n + m ≤ 140737488355328 := Nat.le_trans (Nat.le_mul_of_pos_right _ hb0) hbytes
  have h63 : n + m ≤ maxLen := by simp only [maxLen]; omega
  have hsmall : n + m ≤ 9223372036854775807 := by omega
  have hxl : xs.length = n := by have := hown.1; omega
  have hlen : (xs ++ List.replicate m z).length = (n + m) * 1 := by rw [List.length_append, hxl, List.length_replicate, Nat.mul_one]
  have hw : IntKind.i64.wrap (m : Int) = (m : Int) := by rw [IntKind.wrap_i64]; omega
  have hm48 : m * i.bytes ≤ 140737488355328 := Nat.le_trans (Nat.mul_le_mul_right _ (by omega)) hbytes
  have h48i : ¬ (281474976710656 < (m : Int) * (i.bytes : Int)) := by rw [← Int.natCast_mul]; omega
  have hneg : ¬ ((m : Int) < 0) := by omega
  have grown : ∀ (old : Nat), old < n + m → ∀ (row : Option Nat),
      (w.drew.alloc (.cells (xs.toArray ++ (List.replicate m z).toArray ++ Builtin.zeroCells z.cells (grownCap w (n + m) old e - (n + m))) e)).ownsRow base e 1
        (.slice (some ⟨w.heap.size, 0, none⟩) (n + m) (grownCap w (n + m) old e)) (n + m) (xs ++ List.replicate m z) ∧
      w.grownBy (w.drew.alloc (.cells (xs.toArray ++ (List.replicate m z).toArray ++ Builtin.zeroCells z.cells (grownCap w (n + m) old e - (n + m))) e)) row := by
    intro old ho row
    have hge := grownCap_ge w (n + m) old e
    have hcm : grownCap w (n + m) old e ≤ maxLen := grownCap_le_maxLen w (n + m) old e h63
    refine ⟨⟨hlen, .inr ⟨w.heap.size, _, _, rfl, hbase, heap_alloc_new w.drew _, hge, hcm, ?_, ?_⟩⟩, ⟨rfl, rfl, rfl, by simp, fun k hk _ => heap_old (w := w.drew) _ k hk⟩⟩
    · simp only [Array.size_append, List.size_toArray, size_zeroCells, hzc, hxl, List.length_replicate]
      simp
      omega
    · simp only [Array.toList_append, List.append_assoc]
      rw [← List.append_assoc, ← hlen]
      exact List.take_left
  rcases hown.2 with ⟨rfl, rfl⟩ | ⟨g, cap, cur, rfl, hbg, hg, hnc, hcm, hcs, htake⟩
  · obtain rfl : xs = [] := List.eq_nil_of_length_eq_zero hxl
    rcases Nat.eq_zero_or_pos m with rfl | hm
    · refine ⟨.slice none 0 0, w, ?_, World.ownsRow_nil w base e 1, ⟨rfl, rfl, rfl, Nat.le_refl _, fun _ _ _ => rfl⟩, .inl rfl⟩
      simp [Builtin.append_, run_underlying ht, run_underlying htn, sizeOf, typeInfo, zeroValue, hi, hz, asInt, asIntOf, hsize, show IntKind.i64.wrap 0 = 0 from rfl]
    · have hr := Lib.run_append_nil_zeros (P := P) w t tn ty e i z kq kn ht htn hi hz m hm (by omega) (by omega) (by omega)
      have hgr := grown 0 (by omega) (Value.ownBlock (.slice none 0 0))
      rw [zc_oneA z hzc m] at hr
      simp only [Nat.zero_add, List.nil_append, Array.empty_append] at hgr ⊢
      exact ⟨_, _, hr, hgr.1, hgr.2, .inr rfl⟩
  · rcases Nat.eq_zero_or_pos m with rfl | hm
    · refine ⟨_, w, ?_, by simpa using hown, ⟨rfl, rfl, rfl, Nat.le_refl _, fun _ _ _ => rfl⟩, .inl rfl⟩
      simp [Builtin.append_, run_underlying ht, run_underlying htn, sizeOf, typeInfo, zeroValue, hi, hz, asInt, asIntOf, hsize, hnc, storeCells, show IntKind.i64.wrap 0 = 0 from rfl]
    · by_cases hroom : n + m ≤ cap
      · have hfit : n + m ≤ cur.size := by omega
        have hst := run_storeCells_at P g n e (List.replicate m z) 0 cur w hg (by simpa using hfit) (by intro u hu; rw [List.eq_of_mem_replicate hu]; exact hz1)
        simp only [Nat.add_zero] at hst
        have hns : ¬ (m = 0) := by omega
        have hr : (Builtin.append_ #[t, tn] ty #[.slice (some ⟨g, 0, none⟩) n cap, .int kq (m : Int)]).run P w = .ok (.slice (some ⟨g, 0, none⟩) (n + m) cap) (w.setRow g (cur.toList.take n ++ List.replicate m z ++ cur.toList.drop (n + m)).toArray) := by
          rw [List.length_replicate] at hst
          simp [Builtin.append_, run_underlying ht, run_underlying htn, sizeOf, typeInfo, zeroValue, hi, hz, asInt, asIntOf, hw, hneg, h48i, hsize, hroom, hns, Addr.add_lit, zc_oneA z hzc m, hst]
        refine ⟨_, _, hr, ⟨hlen, .inr ⟨g, cap, _, rfl, hbg, setRow_heap w g cur _ e _ hg, hroom, hcm, ?_, ?_⟩⟩, ⟨rfl, rfl, rfl, by simp, fun k _ hk => setRow_other w g k _ (fun e => hk (by simp [Value.ownBlock, e]))⟩, .inl rfl⟩
        · simp only [List.size_toArray, List.length_append, List.length_take, List.length_drop, Array.length_toList, List.length_replicate]
          omega
        · rw [Nat.mul_one] at htake
          rw [htake, ← hlen]
          exact List.take_left
      · have holds : ∀ j u, xs[j]? = some u → w.drew.cell? ((⟨g, 0, none⟩ : Addr).add j) = some u := hown.cells (g := g) rfl
        have hf := run_firstCells_some (P := P) w.drew i.size n ⟨g, 0, none⟩ n cap xs (by rw [hsize]; omega) holds
        have hr := Lib.run_append_grow_zeros (P := P) w t tn ty e i z kq kn ht htn hi hz (some ⟨g, 0, none⟩) n cap xs hf m hm (by omega) (by omega) (by omega) (by omega) (by have := growslice_fits (need := n + m) (old := cap) (bytes := i.bytes) (by omega) hbytes; omega)
        rw [zc_oneA z hzc m] at hr
        have hgr := grown cap (by omega) (Value.ownBlock (.slice (some ⟨g, 0, none⟩) n cap))
        exact ⟨_, _, hr, hgr.1, hgr.2, .inr rfl⟩
theorem row_zeros {P : Program} {w0 W : World} {L : List As} {k : IntKind} {e : Nat} {v : Value} {xs : List Int} (HS : SB w0 W (Row (Kd.int k) e v xs :: L)) (t tn ty : TypeId) (bytes : Nat) (kq kn : IntKind) (ht : P.underlying t = some (.slice e)) (htn : P.underlying tn = some (.int kn))
    (hinfo : (P.info? e).map (fun i => (i.zero, i.size, i.bytes)) = some (some (.int k 0), 1, bytes)) (hb0 : 0 < bytes) (m : Nat) (hl : (xs.length + m) * bytes ≤ 140737488355328) :
    ∃ v1 w1, (Builtin.append_ #[t, tn] ty #[v, .int kq (m : Int)]).run P W = .ok v1 w1 ∧ SB w0 w1 (Row (Kd.int k) e v1 (xs ++ List.replicate m 0) :: L) := by
  obtain ⟨i0, hi, hzz⟩ := Option.map_eq_some_iff.1 hinfo
  simp only [Prod.mk.injEq] at hzz
  obtain ⟨hz0, hz1, hz2⟩ := hzz
  obtain ⟨F, hF, hge, K⟩ := HS.frame
  obtain ⟨v1, w1, hr, ho, hg, hat⟩ := run_append_own_zeros (P := P) W 0 t tn ty e i0 (.int k 0) bytes kq kn ht htn hi hz0 hz1 hz2 hb0 rfl rfl v xs.length _ (Kd.own_of_R hF.1) m hl (Nat.zero_le _)
  refine ⟨v1, w1, hr, row_grown hF K (Kd.R_of_own (h1 := fun _ => rfl) ?_ ?_) hg⟩
  · have h2 : encs (Value.int k) xs ++ List.replicate m (.int k 0) = encs (Value.int k) (xs ++ List.replicate m 0) := by simp [encs]
    rw [h2] at ho
    simpa using ho
  · intro b hb
    rcases hat with hat | hat
    · exact .inl (hF.1.1 b (by rw [← hat]; exact hb))
    · rw [hat] at hb
      injection hb with hb
      exact .inr (by omega)
section
variable {P : Program} {ops : Array Oper} {rest : List Oper} {o : Oper} {a : Act} {Q : Exit → Act → World → Prop} {Kc : Act → World → Prop}
/-- append(v, make(.., m)...), v the head's row. -/
theorem SB.appZeros {w0 W : World} {L : List As} {k : IntKind} {e : Nat} {v : Value} {xs : List Int} (HS : SB w0 W (Row (Kd.int k) e v xs :: L)) (hgd : o.guard = none) (s x : Operand) (t tn : TypeId) (bytes : Nat) (kq kn : IntKind)
    (ho : o.op = .call { callee := .builtin .append, args := #[s, x], argTypes := #[t, tn] }) (ht : P.underlying t = some (.slice e)) (htn : P.underlying tn = some (.int kn))
    (hinfo : (P.info? e).map (fun i => (i.zero, i.size, i.bytes)) = some (some (.int k 0), 1, bytes)) (hb0 : 0 < bytes) (m : Nat)
    (hs : a.eval s = v) (hx : a.eval x = .int kq (m : Int)) (hl : (xs.length + m) * bytes ≤ 140737488355328)
    (h : ∀ v1 w1, SB w0 w1 (Row (Kd.int k) e v1 (xs ++ List.replicate m 0) :: L) → wpList P ops Q rest (a.put o.dst v1) w1) : wpList P ops Q (o :: rest) a W := by
  obtain ⟨v1, w1, hr, h1⟩ := row_zeros (P := P) HS t tn o.type bytes kq kn ht htn hinfo hb0 m hl
  exact Lib.wpList_append_run W hgd s x t tn ho v _ hs hx v1 w1 hr (h v1 w1 h1)
/-- The same in a region that draws. -/
theorem SB.appZerosStep {w0 W : World} {L : List As} {k : IntKind} {e : Nat} {v : Value} {xs : List Int} (HS : SB w0 W (Row (Kd.int k) e v xs :: L)) (hw : Region.wanted o (yielded ops a.tmps) = true) (s x : Operand) (t tn : TypeId) (bytes : Nat) (kq kn : IntKind)
    (ho : o.op = .call { callee := .builtin .append, args := #[s, x], argTypes := #[t, tn] }) (ht : P.underlying t = some (.slice e)) (htn : P.underlying tn = some (.int kn))
    (hinfo : (P.info? e).map (fun i => (i.zero, i.size, i.bytes)) = some (some (.int k 0), 1, bytes)) (hb0 : 0 < bytes) (m : Nat)
    (hs : a.eval s = v) (hx : a.eval x = .int kq (m : Int)) (hl : (xs.length + m) * bytes ≤ 140737488355328)
    (h : ∀ v1 w1, SB w0 w1 (Row (Kd.int k) e v1 (xs ++ List.replicate m 0) :: L) → Kc (a.put o.dst v1) w1) :
    if Region.wanted o (yielded ops a.tmps) = true then Oper.wp P o a W Kc Q else Kc (a.put o.dst undef) W := by
  rw [if_pos hw]
  obtain ⟨v1, w1, hr, h1⟩ := row_zeros (P := P) HS t tn o.type bytes kq kn ht htn hinfo hb0 m hl
  exact Lib.wp_append_run W s x t tn ho v _ hs hx v1 w1 hr (h v1 w1 h1)
end
section
variable {P : Program} {ops : Array Oper} {o : Oper} {a : Act} {Q : Exit → Act → World → Prop} {Kc : Act → World → Prop} {α : Type} {d : Kd α}
/-- append(v, ys...) in a region that draws, v the head's row. -/
theorem SB.appRowsStep {w0 W : World} {L : List As} {e : Nat} {v : Value} {xs ys : List α} {A : Option Addr} {m c : Nat} (HS : SB w0 W (Row d e v xs :: L)) (hw : Region.wanted o (yielded ops a.tmps) = true) (s x : Operand) (t : TypeId) (z : Value) (bytes : Nat)
    (ho : o.op = .call { callee := .builtin .append, args := #[s, x], argTypes := #[t, t] })
    (ht : P.underlying t = some (.slice e)) (hinfo : (P.info? e).map (fun i => (i.zero, i.size, i.bytes)) = some (some z, d.sz, bytes)) (hz : z.cells.size = d.sz) (hs0 : 0 < d.sz) (hb0 : 0 < bytes)
    (hs : a.eval s = v) (hx : a.eval x = .slice A m c) {Rr : α → List Value → Prop} (hKM : ∀ x cs, Rr x cs → d.M W 0 (fun _ => False) x cs)
    (HR : ReadsRow Rr d.sz W A m ys) (hl : (xs.length + m) * bytes ≤ 140737488355328)
    (h : ∀ v1 w1, SB w0 w1 (Row d e v1 (xs ++ ys) :: L) → Kc (a.put o.dst v1) w1) :
    if Region.wanted o (yielded ops a.tmps) = true then Oper.wp P o a W Kc Q else Kc (a.put o.dst undef) W := by
  obtain ⟨F, hF, hge, K⟩ := HS.frame
  refine Kd.R_append_rows_step d (w0 := W) 0 hw s x t e z bytes ho ht hinfo hz hs0 hb0 v xs ys A m c (fun k => F k ∨ W.heap.size ≤ k) (fun _ => False) hs hx (Kd.R_mono hF.1 (fun k hk => .inl hk)) HR hKM (fun _ h => h.elim) (fun _ h => .inr h) (Below.refl 0 W) (Nat.zero_le _) hl ?_
  intro v1 w1 hR _ hg _
  exact h v1 w1 (row_grown hF K hR hg)
end
end Go.Proofs.Ytbjglicdamenhaa.G
