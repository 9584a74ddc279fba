/- Package host: the document's example. -/
import Derived.Deep.DeepMust
import Derived.Test.YtbjglicdamenhaaHstL
namespace Go.Proofs.Ytbjglicdamenhaa.G
open Go.RowKit Go.Proofs.YtbjglicdamenhaaW.PrintWords Go.Proofs.YtbjglicdamenhaaW.PrintLast Go.Proofs.YtbjglicdamenhaaW.PrintMore
set_option linter.unusedVariables false
set_option linter.unusedSimpArgs false
def aw1 : S86 := ⟨4294967301, false, 0, [], -1, 0⟩
def aw2 : S86 := ⟨0, true, 0, [], 0, 0⟩
def awC : Array Value := #[.int .u64 4294967301, .bool false, .int .i64 0, .slice none 0 0, .int .i64 (-1), .int .u64 0, .int .u64 0, .bool true, .int .i64 0, .slice none 0 0, .int .i64 0, .int .u64 0]
theorem awRead {w : World} {b : Nat} (hb : w.heap[b]? = some (.cells awC 86 (0, 0))) : Kd.C k86 w (some ⟨b, 0, none⟩) [aw1, aw2].length [aw1, aw2] := by
  have hc := fun k => blk_cell hb k
  refine of_raw (d := k86) (z := [[.int .u64 4294967301, .bool false, .int .i64 0, .slice none 0 0, .int .i64 (-1), .int .u64 0], [.int .u64 0, .bool true, .int .i64 0, .slice none 0 0, .int .i64 0, .int .u64 0]]) ⟨rfl, by decide, fun _ => ⟨_, rfl, fun j p hj => ?_⟩⟩ rfl (fun j x c hx hc => ?_)
  · have hj2 : j < 2 := (List.getElem?_eq_some_iff.1 hj).1
    refine ⟨p, ?_, ?_, fun i u hi => ?_⟩
    · rcases j with _ | _ | j
      · injection hj with hj; subst hj; rfl
      · injection hj with hj; subst hj; rfl
      · omega
    · rcases j with _ | _ | j
      · injection hj with hj; subst hj; exact ⟨rfl, rfl, by decide⟩
      · injection hj with hj; subst hj; exact ⟨rfl, rfl, by decide⟩
      · omega
    · rw [addr0, hc]
      rcases j with _ | _ | j
      · injection hj with hj; subst hj
        have hi2 : i < 6 := (List.getElem?_eq_some_iff.1 hi).1
        rcases i with _ | _ | _ | _ | _ | _ | i
        all_goals first | exact hi | omega
      · injection hj with hj; subst hj
        have hi2 : i < 6 := (List.getElem?_eq_some_iff.1 hi).1
        rcases i with _ | _ | _ | _ | _ | _ | i
        all_goals first | exact hi | omega
      · omega
  · rcases j with _ | _ | j
    · injection hx with hx; injection hc with hc; subst hx hc; exact k86_mk w aw1 (c3 := 0) (Nat.le_refl _) C_nil
    · injection hx with hx; injection hc with hc; subst hx hc; exact k86_mk w aw2 (c3 := 0) (Nat.le_refl _) C_nil
    · cases hx
theorem awOk : ∀ r ∈ [aw1, aw2], okR r := by
  intro r hr
  rcases List.mem_cons.1 hr with rfl | hr
  · exact ⟨⟨by decide, by decide⟩, ⟨by decide, by decide⟩, by decide, ⟨by decide, by decide⟩, ⟨by decide, by decide⟩⟩
  · rw [List.mem_singleton.1 hr]
    exact ⟨⟨by decide, by decide⟩, ⟨by decide, by decide⟩, by decide, ⟨by decide, by decide⟩, ⟨by decide, by decide⟩⟩
theorem SB.argOwn {w0 w : World} {L : List As} {b : Nat} {ts : List Int} (h : SB w0 w (Row (Kd.int .u8) 5 (.slice (some ⟨b, 0, none⟩) ts.length ts.length) ts :: L)) : SB w0 w (ArgR w0 none [] (some ⟨b, 0, none⟩) ts none [] :: L) :=
  h.weak (B := ArgR w0 none [] (some ⟨b, 0, none⟩) ts none []) (fun F hF => ⟨fun W hW _ => by
    have h1 := (Row (Kd.int .u8) 5 (.slice (some ⟨b, 0, none⟩) ts.length ts.length) ts).mv hF hW
    obtain ⟨A, c, e, _, hC⟩ := Kd.R_reads h1.1
    injection e with e1 e2 e3
    subst e1
    exact ⟨C_nil, hC, C_nil⟩, hF.2⟩)
theorem awDo {w0 w : World} {L : List As} {p b : Nat} {rs : List S86} {lg : List S80} (hS : SB w0 w (HO p rs lg :: ArgR w0 none [] (some ⟨b, 0, none⟩) [127] none [] :: L)) (hlg : lg.length ≤ 1000000) (hok : ∀ r ∈ rs, okR r) {v t : Int} (h : fAns [] [127] [] (fNext rs).1 = (v, t)) {rs' : List S86} {lg' : List S80} (hrs : fRs [] [] rs = rs') (hlg' : fLg 3 [] [] 14695981039346656037 [] lg = lg') :
    Calls Try.prog 12 #[.pointer (some ⟨p, 0, none⟩), .int .i64 3, .agg #[.slice none 0 0, .slice (some ⟨b, 0, none⟩) 1 1], .slice none 0 0, .pointer none, .pointer none] w fun e w' =>
      e = .returned (.tuple #[.int .u64 v, .int .i64 t]) ∧ SB w0 w' (HO p rs' lg' :: ArgR w0 none [] (some ⟨b, 0, none⟩) [127] none [] :: L) :=
  hstDoA (cp := 0) (cr := 1) (ca := 0) 3 hS (by decide) (by decide) (by decide) (by decide) hlg hok h hrs hlg'
def awL : S80 := ⟨3, [], 14695981039346656037, []⟩
theorem awLog {w0 w : World} {L : List As} {p : Nat} (hS : SB w0 w (HO p [] [awL, awL, awL] :: L)) : Calls Try.prog 15 #[.pointer (some ⟨p, 0, none⟩)] w fun e w' => ∃ A c, e = .returned (.slice A 3 c) ∧ SB w0 w' (HO p [] [awL, awL, awL] :: L) :=
  (hstLog hS (by decide) (by decide)).mono fun e w' ⟨A, c, he, _, hs⟩ => ⟨A, c, he, hs.drop⟩
theorem awBox {w w2 : World} {p b : Nat} {rs : List S86} {lg : List S80} (hb : w2.heap.size = b) (hs : SB w w2 [HO p rs lg]) :
    SB w ((w2.alloc (.cells #[.int .u8 127] 5)).alloc (.cells #[.slice none 0 0, .slice (some ⟨b, 0, none⟩) 1 1] 37)) [HO p rs lg, ArgR w none [] (some ⟨b, 0, none⟩) [127] none [], Box (b + 1) #[.slice none 0 0, .slice (some ⟨b, 0, none⟩) 1 1] 37] := by
  have h3 := hs.lit (e := 5) (k := .u8) [127] (by decide)
  have h4 := SB.argOwn (b := w2.heap.size) (ts := [127]) h3
  rw [hb] at h4
  have h6 := h4.box #[.slice none 0 0, .slice (some ⟨b, 0, none⟩) 1 1] 37
  rw [World.size_alloc, hb] at h6
  exact h6.pick3 [2, 1, 0]
set_option maxHeartbeats 4000000 in
set_option maxRecDepth 100000 in
theorem awake (w : World) : Calls Try.prog 7 #[] w fun e w' => e = .returned (.bool true) ∧ Below w.heap.size w w' := by
  have h0 := (SB.start w).box awC 86
  have HNW := Aside0.mk (show Calls Try.prog 10 #[.slice (some ⟨w.heap.size, 0, none⟩) 2 2] (w.alloc (.cells #[.int .u64 4294967301, .bool false, .int .i64 0, .slice none 0 0, .int .i64 (-1), .int .u64 0, .int .u64 0, .bool true, .int .i64 0, .slice none 0 0, .int .i64 0, .int .u64 0] 86)) (fun e w' => ∃ p, e = .returned (.pointer (some ⟨p, 0, none⟩)) ∧ SB w w' (HO p [aw1, aw2] [] :: [Box w.heap.size awC 86])) from hstNew h0 (some ⟨w.heap.size, 0, none⟩) 2 [aw1, aw2] (awRead h0.blk) (by decide) (by decide) (by decide))
  clear h0
  go_enter Try.func7, Try.ntmps7
  go_wp2_with (first
    | (go_at_call 10; go_must ((with_reducible refine (HNW.out).mono ?_); rintro e w2 ⟨p, rfl, hs⟩; obtain ⟨b, hb⟩ : ∃ b, w2.heap.size = b := ⟨_, rfl⟩; have hb' : w2.heap.size = b := hb; have h5 := awBox hb (hs.pick2 [0]); have hb2 := (h5.pick3 [2]).blk; have t0 := blk_cell hb2 0; have t1 := blk_cell hb2 1; have HS2 := Aside0.mk h5; clear hs h5 hb hb2))
    | (go_at_call 12; (with_reducible refine (awDo HS4.out (by decide) (by simp) (show fAns [] [127] [] (fNext []).1 = (0, 0) from rfl) (show fRs [] [] [] = [] from rfl) (show fLg 3 [] [] 14695981039346656037 [] [awL, awL] = [awL, awL, awL] from rfl)).mono ?_); rintro e hs5w ⟨rfl, hs⟩; have hb2 := (hs.pick3 [2]).blk; have t0 := blk_cell hb2 0; have t1 := blk_cell hb2 1; have HS5 := Aside0.mk hs; clear hs hb2)
    | (go_at_call 12; (with_reducible refine (awDo HS3.out (by decide) (fun r hr => awOk r (by simp at hr; simp [hr])) (show fAns [] [127] [] (fNext [aw2]).1 = (0, 10) from rfl) (show fRs [] [] [aw2] = [] from rfl) (show fLg 3 [] [] 14695981039346656037 [] [awL] = [awL, awL] from rfl)).mono ?_); rintro e hs4w ⟨rfl, hs⟩; have hb2 := (hs.pick3 [2]).blk; have t0 := blk_cell hb2 0; have t1 := blk_cell hb2 1; have HS4 := Aside0.mk hs; clear hs hb2)
    | (go_at_call 12; (with_reducible refine (awDo HS2.out (by decide) awOk (show fAns [] [127] [] (fNext [aw1, aw2]).1 = (5, 0) from rfl) (show fRs [] [] [aw1, aw2] = [aw2] from rfl) (show fLg 3 [] [] 14695981039346656037 [] [] = [awL] from rfl)).mono ?_); rintro e hs3w ⟨rfl, hs⟩; have hb2 := (hs.pick3 [2]).blk; have t0 := blk_cell hb2 0; have t1 := blk_cell hb2 1; have HS3 := Aside0.mk hs; clear hs hb2)
    | (go_at_call 15; go_must ((with_reducible refine (awLog HS5.out).mono ?_); rintro e w6 ⟨A, c, rfl, hs⟩; have HS6 := Aside0.mk hs; clear hs))
    | (go_at_call 16; go_must ((with_reducible refine (hstLeft (n := 0) rfl HS6.out).mono ?_); rintro e w7 ⟨rfl, hs⟩; have HS7 := Aside0.mk hs; clear hs)))
  go_ret
  exact ⟨rfl, HS7.out.bel⟩
end Go.Proofs.Ytbjglicdamenhaa.G
