/- Package frames' stacks: Frames. -/
import Derived.Deep.DeepMust
import Derived.Test.YtbbgkelcdooabaaFraH
import Derived.Test.YtbbgkelcdooabaaG0
namespace Go.Proofs.Ytbbgkelcdooabaa.G
open Go.RowKit Go.Proofs.YtbbgkelcdooabaaW.PrintWords Go.Proofs.YtbbgkelcdooabaaW.PrintLast Go.Proofs.YtbbgkelcdooabaaW.PrintMore
set_option linter.unusedVariables false
set_option linter.unusedSimpArgs false
section
variable {P : Program} {ops : Array Oper} {rest : List Oper} {o : Oper} {a : Act} {Q : Exit → Act → World → Prop} {α : Type} {d : Kd α}
/-- append(v, y), v the head's row, where y holds what the second assertion says. -/
theorem SB.app1N {w0 W : World} {L : List As} {B : As} {e : Nat} {v : Value} {xs : List α} {y : α} {cs : List Value} (HS : SB w0 W (Row d e v xs :: B :: L)) (hgd : o.guard = none) (s x : Operand) (t : TypeId) (z : Value) (bytes : Nat)
    (ho : o.op = .call { callee := .builtin .append, args := #[s, x], argTypes := #[t, t] })
    (ht : P.underlying t = some (.slice e)) (hinfo : (P.info? e).map (fun i => (i.zero, i.size, i.bytes)) = some (some z, d.sz, bytes)) (hz : z.cells.size = d.sz) (hs0 : 0 < d.sz) (hb0 : 0 < bytes)
    (hs : a.eval s = v) (hx : a.eval x = .slice (some ⟨W.heap.size, 0, none⟩) 1 1) (hp : ∀ F, B.P W F → d.M W 0 F y cs) (hl : (xs.length + 1) * bytes ≤ 140737488355328)
    (h : ∀ v1 w1, SB w0 w1 (Row d e v1 (xs ++ [y]) :: L) → wpList P ops Q rest (a.put o.dst v1) w1) :
    wpList P ops Q (o :: rest) a (W.alloc (.cells cs.toArray e)) := by
  have HS2 : SB w0 W (Sep [Row d e v xs, B] :: L) := SB.sepN.2 HS
  obtain ⟨F, hF, hge, K⟩ := HS2.frame
  obtain ⟨F1, F2, hA, ⟨F3, F4, hB, h4, hd3, he3⟩, hd, he⟩ := hF
  have h32 : ∀ k, F3 k → F2 k := fun k hk => (he3 k).2 (.inl hk)
  refine Kd.R_append d (w0 := W) 0 hgd s x t e z bytes ho ht hinfo hz hs0 hb0 v xs y cs (fun k => F k ∨ W.heap.size ≤ k) F3 hs hx (hp F3 hB) (fun k hk => ⟨.inl ((he k).2 (.inr (h32 k hk))), fun hc => hd k (hA.1.1 k hc.symm) (h32 k hk)⟩) (fun _ h => .inr h) (Kd.R_mono hA.1 (fun k hk => .inl ((he k).2 (.inl hk)))) (Below.refl 0 W) (Nat.zero_le _) hl ?_
  intro v1 w1 hR _ hg _
  exact h v1 w1 (K w1 (Row d e v1 (xs ++ [y])) (fun k => (F k ∨ W.heap.size ≤ k) ∧ k < w1.heap.size) ⟨Kd.R_mono (Kd.R_bound hR) (fun k hk => ⟨hk.1, hk.2.2.1⟩), fun k hk => hk.2⟩ ((Fr.refl W F).grown hg (fun k hk => .inl ((he k).2 (.inl (hA.1.1 k hk))))) (fun k hk => hk.1))
end
def fmS (x : Fm) : S58 := ⟨x.f, x.pc, x.loc, x.base⟩
theorem fr_cells {w0 w : World} {L : List As} {p : Nat} {s : FS} (hS : SB w0 w (FO p s :: L)) (k : Nat) (hk : k < s.fr.length) :
    k < 64 ∧ ∃ A c, w.cell? ⟨p, 1 + k * 4, none⟩ = some (.int .i64 s.fr[k].f) ∧ w.cell? ⟨p, 1 + k * 4 + 1, none⟩ = some (.int .i64 s.fr[k].pc) ∧
      w.cell? ⟨p, 1 + k * 4 + 2, none⟩ = some (.slice A s.fr[k].loc.length c) ∧ w.cell? ⟨p, 1 + k * 4 + 3, none⟩ = some (.int .i64 s.fr[k].base) ∧ Kd.C (Kd.int .u64) w A s.fr[k].loc.length s.fr[k].loc ∧ s.fr[k].loc.length ≤ c := by
  obtain ⟨v, z, hz, hok, h1⟩ := hS.open_
  have hb := h1.blk
  have hzl : z.length = s.fr.length := by have := congrArg List.length hz; simpa using this
  have h64 : k < 64 := by have := hok.len; have := hok.room; omega
  have hkz : k < z.length := by omega
  have hgz : z[k].1 = s.fr[k] := by simp [← hz]
  refine ⟨h64, ?_⟩
  have h2 := SB.sepN.1 (h1.pick3 [2, 0, 1])
  have e1 : rowsOf z = rowsOf (z.take k) ++ Row (Kd.int .u64) 35 z[k].2 z[k].1.loc :: rowsOf (z.drop (k + 1)) := by
    have e2 : rowsOf z = rowsOf (z.take k ++ z[k] :: z.drop (k + 1)) := by rw [← List.drop_eq_getElem_cons hkz, List.take_append_drop]
    rw [e2]
    show List.map _ _ = List.map _ _ ++ _ :: List.map _ _
    rw [List.map_append, List.map_cons]
  rw [e1, List.append_assoc, List.cons_append] at h2
  obtain ⟨A, c, e, hc, hC⟩ := (h2.perm List.perm_middle).reads
  rw [hgz] at e hc hC
  have hg := fun j hj => (blk_cell hb (1 + k * 4 + j)).trans (fsC_fr v z s.room k j h64 hj hkz)
  have e4 : fm4 z[k] = [.int .i64 s.fr[k].f, .int .i64 s.fr[k].pc, .slice A s.fr[k].loc.length c, .int .i64 s.fr[k].base] := by unfold fm4; rw [hgz, e]
  simp only [e4] at hg
  exact ⟨A, c, hg 0 (by omega), hg 1 (by omega), hg 2 (by omega), hg 3 (by omega), hC, hc⟩
theorem fm_M {w : World} (x : Fm) {v : Value} (F : Nat → Prop) (h : (Row (Kd.int .u64) 35 v x.loc).P w F) : k58.M w 0 F (fmS x) [.int .i64 x.f, .int .i64 x.pc, v, .int .i64 x.base] := k58_mkM w 0 F (fmS x) h.1
theorem frFrames {w0 w : World} {L : List As} {p : Nat} {s : FS} (hS : SB w0 w (FO p s :: L)) (hl : ∀ f ∈ s.fr, f.loc.length ≤ 1000000) :
    Calls Try.prog 21 #[.pointer (some ⟨p, 0, none⟩)] w fun e w' => ∃ v, e = .returned v ∧ SB w0 w' (Row k58 58 v (s.fr.map fmS) :: FO p s :: L) := by
  have HS := Aside0.mk hS
  clear hS
  obtain ⟨n, hn⟩ : ∃ n, s.fr.length = n := ⟨_, rfl⟩
  have hD := Aside0.mk (fraDepth HS.out)
  rw [hn] at hD
  go_enter Try.func21, Try.ntmps21
  go_wp2_with (go_at_call 13; (with_reducible refine (hD.out).mono ?_); rintro e w1 ⟨rfl, hs⟩; have HS1 := Aside0.mk (SB.row (d := k58) (e := 58) (v := .slice none 0 0) (xs := []) (ok := fun _ => True) hs (Below.refl _ _) (Kd.R_nil _ _ _ _ _)); clear hs)
  go_loopw [3, 7] (fun v3 v7 wr => ∃ (k : Nat), v7 = .int .i64 k ∧ k ≤ n ∧ Aside0 (SB w0 wr (Row k58 58 v3 ((s.fr.take k).map fmS) :: FO p s :: L))) (fun _ v7 _ => n - (intOf v7).toNat)
  case atStart => exact ⟨0, rfl, Nat.zero_le _, HS1⟩
  case round =>
    obtain ⟨k, rfl, hk, HR⟩ := hrel
    by_cases hlt : k < n
    · have e1 : decide ((k : Int) < (n : Int)) = true := decide_eq_true (by omega)
      have e2 : decide (k < n) = true := decide_eq_true hlt
      have hkl : k < s.fr.length := by omega
      obtain ⟨h64, A, c, s0, s1, s2, s3, hC, hc⟩ := fr_cells HR.out.swap k hkl
      obtain ⟨x, hx⟩ : ∃ x, s.fr[k] = x := ⟨_, rfl⟩
      have hxl : x.loc.length ≤ 1000000 := hl x (by rw [← hx]; exact List.getElem_mem _)
      have htk : s.fr.take (k + 1) = s.fr.take k ++ [x] := by rw [List.take_succ_eq_append_getElem hkl, hx]
      rw [hx] at s0 s1 s2 s3 hC hc
      have HC := Aside0.mk hC
      have HT := Aside0.mk htk
      have hkn : k < 64 := h64
      clear hC htk hx
      go_wp2_with (first
        | (go_at_call 40; go_must ((with_reducible refine (frOwn HR.out x.f x.pc x.base A c x.loc HC.out hc hxl).mono ?_); rintro e w3 ⟨v4, rfl, hs⟩; have HS3 := Aside0.mk hs; clear hs))
        | (at_builtin; go_must (refine SB.app1N (y := fmS x) (HS3.out.pick2 [1, 0]) rfl (.tmp 10) (.tmp 18) 45 (.agg #[.int .i64 0, .int .i64 0, .slice none 0 0, .int .i64 0]) 48 rfl Try.underlying45 (by rfl) rfl (by decide) (by decide) (by rfl) (by rfl) (fun F hF => fm_M x F hF) (by simp; omega) ?_; intro v5 w5 hs5; have HS5 := Aside0.mk hs5; clear hs5)))
      refine ⟨⟨k + 1, by simp, by omega, ⟨?_⟩⟩, by simp [intOf]; omega⟩
      rw [HT.out, List.map_append]
      exact HS5.out
    · have e1 : decide ((k : Int) < (n : Int)) = false := decide_eq_false (by omega)
      have e2 : decide (k < n) = false := decide_eq_false hlt
      obtain rfl : k = n := by omega
      have HR2 := HR.out
      rw [List.take_of_length_le (by omega)] at HR2
      have HR := Aside0.mk HR2
      clear HR2
      go_wp2
      go_ret
      exact ⟨_, rfl, HR.out⟩
end Go.Proofs.Ytbbgkelcdooabaa.G
