/- copy(v[t:], ys): numbers into a row of one's own. -/
import Derived.Test.YtbjglicdamenhaaHold
import Derived.Test.YtbjglicdamenhaaMemP
namespace Go.Proofs.Ytbjglicdamenhaa.G
open Go.RowKit Go.Proofs.YtbjglicdamenhaaW.PrintWords Go.Proofs.YtbjglicdamenhaaW.PrintLast Go.Proofs.YtbjglicdamenhaaW.PrintMore
set_option linter.unusedVariables false
theorem copy_run {P : Program} {k : IntKind} {e : Nat} {W : World} (ty ty' tr : TypeId) (ht : P.underlying ty = some (.slice e)) (hinfo : (P.info? e).map (·.size) = some 1)
    (g c t m cc ns cs : Nat) (b zs : List Int) (A : Option Addr) (ok : Nat → Prop) (hns : zs.length = ns)
    (HO : (Kd.int k).R e W 0 ok (.slice (some ⟨g, 0, none⟩) b.length c) b) (HC : (Kd.int k).C W A ns zs) (hfit : t + Nat.min ns m ≤ b.length) :
    ∃ w1, (Builtin.copy_ #[ty, ty'] tr #[.slice (some ⟨g, t, none⟩) m cc, .slice A ns cs]).run P W = .ok (goInt ((Nat.min ns m : Nat) : Int)) w1 ∧ (Kd.int k).R e w1 0 ok (.slice (some ⟨g, 0, none⟩) b.length c) (splice b t (zs.take m)) ∧ Fr W w1 (fun k => k = g) := by
  have hR := Kd.reads_of_C (enc := Value.int k) (d := 0) (h1 := fun _ => rfl) HC
  have hown := Kd.own_of_R HO
  have hlen : (zs.take m).length = Nat.min ns m := by rw [List.length_take, hns]; exact Nat.min_comm _ _
  rcases Nat.eq_zero_or_pos (Nat.min ns m) with h0 | hp
  · have hys : zs.take m = [] := List.length_eq_zero_iff.1 (by rw [hlen, h0])
    rw [hys, splice_nil, h0]
    refine ⟨W, ?_, HO, Fr.refl _ _⟩
    rw [run_copy_none W ty ty' tr e _ A m cc ns cs ht hinfo h0]
    rfl
  · have hmn : Nat.min ns m ≤ ns := Nat.min_le_left _ _
    obtain ⟨ad, hA, hc⟩ := hR.2.2 (by omega)
    subst hA
    rcases hown.2 with ⟨hbad, _⟩ | ⟨g', cap, cur, hv, hb, hh, hnc, hcm, hcs, htake⟩
    · cases hbad
    injection hv with hv1 _ hv3
    injection hv1 with hv1
    injection hv1 with hv1
    subst hv1
    subst hv3
    have hkl : (encs (Value.int k) (zs.take m)).length = Nat.min ns m := by rw [encs_length, hlen]
    have hcs1 : cur.size = c := by omega
    have hsrc : ∀ j u, (encs (Value.int k) (zs.take m))[j]? = some u → W.cell? (ad.add j) = some u := by
      intro j u hu
      have hj : j < Nat.min ns m := by
        rcases Nat.lt_or_ge j (Nat.min ns m) with h | h
        · exact h
        · rw [List.getElem?_eq_none (by rw [hkl]; exact h)] at hu
          cases hu
      rw [encs_get (d := (0 : Int)) _ j (by rw [hlen]; exact hj)] at hu
      rw [hc j (by omega), ← hu]
      have : (zs.take m).getD j 0 = zs.getD j 0 := by
        have hm : j < m := Nat.lt_of_lt_of_le hj (Nat.min_le_right _ _)
        rw [List.getD_eq_getElem?_getD, List.getD_eq_getElem?_getD, List.getElem?_take_of_lt hm]
      rw [this]
    have hr := run_copy_cells (P := P) W ty ty' tr e g t m cc ad ns cs (encs (Value.int k) (zs.take m)) ht hinfo (by rw [hkl]) hsrc
      (fun j hj => by rw [cell_of_row W g _ cur e (0, 0) hh]; simp; omega) (fun j _ => blk_frozen hh _) (by intro u hu; simp only [encs, List.mem_map] at hu; obtain ⟨q, _, rfl⟩ := hu; rfl)
    obtain ⟨cur', h3, h4, h5⟩ := setCells_row (encs (Value.int k) (zs.take m)) t W cur hh (by rw [hkl]; omega)
    obtain ⟨s1, s2, s3, s4⟩ := setCells_same g (encs (Value.int k) (zs.take m)) t W
    have hfit2 : t + (zs.take m).length ≤ b.length := by rw [hlen]; exact hfit
    refine ⟨_, by rw [hr, hkl], Kd.R_of_own ?_ HO.1, ⟨s1, s2, s3, by rw [s4]; exact Nat.le_refl _, fun k _ hk => setCells_far _ _ k (fun he => hk he)⟩⟩
    rw [splice_length hfit2]
    refine ⟨by rw [encs_length, splice_length hfit2, Nat.mul_one], .inr ⟨g, c, cur', rfl, hb, h3, hnc, hcm, by rw [h4, hcs], ?_⟩⟩
    have htk : cur.toList.take b.length = encs (Value.int k) b := by rw [← htake, Nat.mul_one]
    rw [h5, hkl, Nat.mul_one]
    unfold splice
    rw [encs_append, encs_append, hlen]
    have e1 : encs (Value.int k) (b.take t) = (encs (Value.int k) b).take t := by simp [encs, List.map_take]
    have e2 : encs (Value.int k) (b.drop (t + Nat.min ns m)) = (encs (Value.int k) b).drop (t + Nat.min ns m) := by simp [encs, List.map_drop]
    rw [e1, e2, ← htk, List.take_take, Nat.min_eq_left (by omega), List.drop_take]
    have l1 : (cur.toList.take t).length = t := by rw [List.length_take, Array.length_toList]; omega
    rw [List.take_append, List.take_of_length_le (by rw [List.length_append, l1, hkl]; omega), List.length_append, l1, hkl]
section
variable {P : Program} {ops : Array Oper} {rest : List Oper} {o : Oper} {a : Act} {Q : Exit → Act → World → Prop} {W : World} {k : IntKind}
/-- copy in a plain region. -/
theorem copy_into (hgd : o.guard = none) (s x : Operand) (ty ty' e : TypeId) (ho : o.op = .call { callee := .builtin .copy, args := #[s, x], argTypes := #[ty, ty'] }) (ht : P.underlying ty = some (.slice e)) (hinfo : (P.info? e).map (·.size) = some 1)
    (g c t m cc ns cs : Nat) (b zs : List Int) (A : Option Addr) (ok : Nat → Prop) (hs : a.eval s = .slice (some ⟨g, t, none⟩) m cc) (hx : a.eval x = .slice A ns cs) (hns : zs.length = ns)
    (HO : (Kd.int k).R e W 0 ok (.slice (some ⟨g, 0, none⟩) b.length c) b) (HC : (Kd.int k).C W A ns zs) (hfit : t + Nat.min ns m ≤ b.length)
    (h : ∀ w1, (Kd.int k).R e w1 0 ok (.slice (some ⟨g, 0, none⟩) b.length c) (splice b t (zs.take m)) → Fr W w1 (fun k => k = g) → wpList P ops Q rest (a.put o.dst (.int .i64 ((Nat.min ns m : Nat) : Int))) w1) :
    wpList P ops Q (o :: rest) a W := by
  obtain ⟨w1, hr, hrow, hg⟩ := copy_run (k := k) ty ty' o.type ht hinfo g c t m cc ns cs b zs A ok hns HO HC hfit
  refine wpList_plain hgd fun K hK => ?_
  unfold Oper.wp execOp
  simp only [ho, resolve, invoke, builtin, Sem.run_bind, Sem.run_pure, Result.andThen_ok, List.map_toArray, List.map_cons, List.map_nil, hs, hx, hr]
  exact hK _ _ (h w1 hrow hg)
/-- copy in a region that draws. -/
theorem copy_step {K : Act → World → Prop} (hw : Region.wanted o (yielded ops a.tmps) = true) {N : Option Tmp} (hN : o.dst = N) (s x : Operand) (ty ty' e : TypeId) (ho : o.op = .call { callee := .builtin .copy, args := #[s, x], argTypes := #[ty, ty'] }) (ht : P.underlying ty = some (.slice e)) (hinfo : (P.info? e).map (·.size) = some 1)
    (g c t m cc ns cs : Nat) (b zs : List Int) (A : Option Addr) (ok : Nat → Prop) (hs : a.eval s = .slice (some ⟨g, t, none⟩) m cc) (hx : a.eval x = .slice A ns cs) (hns : zs.length = ns)
    (HO : (Kd.int k).R e W 0 ok (.slice (some ⟨g, 0, none⟩) b.length c) b) (HC : (Kd.int k).C W A ns zs) (hfit : t + Nat.min ns m ≤ b.length)
    (h : ∀ w1, (Kd.int k).R e w1 0 ok (.slice (some ⟨g, 0, none⟩) b.length c) (splice b t (zs.take m)) → Fr W w1 (fun k => k = g) → K (a.put N (.int .i64 ((Nat.min ns m : Nat) : Int))) w1) :
    if Region.wanted o (yielded ops a.tmps) = true then Oper.wp P o a W K Q else K (a.put N undef) W := by
  obtain ⟨w1, hr, hrow, hg⟩ := copy_run (k := k) ty ty' o.type ht hinfo g c t m cc ns cs b zs A ok hns HO HC hfit
  rw [if_pos hw]
  subst hN
  unfold Oper.wp execOp
  simp only [ho, resolve, invoke, builtin, Sem.run_bind, Sem.run_pure, Result.andThen_ok, List.map_toArray, List.map_cons, List.map_nil, hs, hx, hr]
  exact h w1 hrow hg
end
/-- The head's row is turned in place. -/
theorem row_turned {w0 W w1 : World} {L : List As} {α : Type} {d : Kd α} {e g n c : Nat} {xs ys : List α} (HS : SB w0 W (Row d e (.slice (some ⟨g, 0, none⟩) n c) xs :: L)) (hR : ∀ ok, d.R e W 0 ok (.slice (some ⟨g, 0, none⟩) n c) xs → d.R e w1 0 ok (.slice (some ⟨g, 0, none⟩) n c) ys) (hf : Fr W w1 (fun k => k = g)) :
    SB w0 w1 (Row d e (.slice (some ⟨g, 0, none⟩) n c) ys :: L) := by
  refine HS.upd (fun F hF hge => ⟨F, ⟨hR F hF.1, fun k hk => Nat.lt_of_lt_of_le (hF.2 k hk) hf.size⟩, hf.mono (fun k hk => by rw [hk]; exact hF.1.1 g (by simp [Value.ownBlock])), fun k hk => .inl hk⟩)
/-- An object's row is turned in place. -/
theorem obj_turned {w0 W w1 : World} {L : List As} {α : Type} {d : Kd α} {e t p g n c : Nat} {xs ys : List α} {rs : List Value} (HS : SB w0 W (ObR d e t p xs rs :: L)) (hv : W.cell? ⟨p, 0, none⟩ = some (.slice (some ⟨g, 0, none⟩) n c))
    (hR : ∀ ok, d.R e W 0 ok (.slice (some ⟨g, 0, none⟩) n c) xs → d.R e w1 0 ok (.slice (some ⟨g, 0, none⟩) n c) ys) (hf : Fr W w1 (fun k => k = g)) : SB w0 w1 (ObR d e t p ys rs :: L) := by
  refine HS.upd (fun F hF hge => ?_)
  obtain ⟨v', hb, hR0, hp, hl⟩ := hF
  obtain rfl : v' = .slice (some ⟨g, 0, none⟩) n c := by
    have h1 : W.cell? ⟨p, 0, none⟩ = some v' := (blk_cell hb 0).trans rfl
    rw [h1] at hv
    exact Option.some.inj hv
  have hgp := hR0.1 g (by simp [Value.ownBlock])
  exact ⟨F, ⟨_, (hf.block p (blk_lt hb) (fun h => hgp.2 h.symm)).trans hb, hR _ hR0, hp, fun k hk => Nat.lt_of_lt_of_le (hl k hk) hf.size⟩, hf.mono (fun k hk => by rw [hk]; exact hgp.1), fun k hk => .inl hk⟩
end Go.Proofs.Ytbjglicdamenhaa.G
