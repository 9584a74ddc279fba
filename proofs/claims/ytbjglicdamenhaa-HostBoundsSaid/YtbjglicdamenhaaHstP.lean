/- Package host: with a memory and globals. -/
import Derived.Test.YtbjglicdamenhaaHstO
namespace Go.Proofs.Ytbjglicdamenhaa.G
open Go.RowKit Go.Proofs.YtbjglicdamenhaaW.PrintWords Go.Proofs.YtbjglicdamenhaaW.PrintLast Go.Proofs.YtbjglicdamenhaaW.PrintMore
set_option linter.unusedVariables false
set_option linter.unusedSimpArgs false
def EnvMG (pm : Nat) (m : Mem) (pg : Nat) (gl : List S109) : As := Sep [MO pm m, GO pg gl]
section
variable {w0 w : World} {L : List As} {pm pg : Nat} {m : Mem} {gl : List S109}
theorem SB.mg : SB w0 w (EnvMG pm m pg gl :: L) ↔ SB w0 w (MO pm m :: GO pg gl :: L) := SB.sepN
theorem SB.gm (h : SB w0 w (GO pg gl :: MO pm m :: L)) : SB w0 w (EnvMG pm m pg gl :: L) := SB.mg.2 h.swap
end
def eFit (m : Mem) (x : S86) : Bool := mFits m.b.length (max x.f2 0) 0 x.f3.length
/-- What a reply makes of a memory, and of globals. -/
def eLay (m : Mem) (x : S86) : Mem := if eFit m x then { m with b := (mLay m.b x.f2 x.f3).getD m.b } else m
def eSet (gl : List S109) (x : S86) : List S109 := if (gType gl x.f4).2.2 && (gType gl x.f4).2.1 then (gSet gl x.f4 x.f5).2 else gl
theorem envA (w0 : World) (pm pg : Nat) (m : Mem) (gl : List S109) (hm : Good m) (hl : gl.length ≤ 1000000) : EnvA w0 (some ⟨pm, 0, none⟩) (some ⟨pg, 0, none⟩) (EnvMG pm m pg gl) (mSum m.b) (gl.map S109.f2) where
  sum := fun {w L} h => (memSum (SB.mg.1 h) hm).mono fun e w' hh => ⟨hh.1, h.below (drawn_below hh.2)⟩
  all := fun {w L} h => (globAll (SB.mg.1 h).swap hl).mono fun e w' ⟨v, he, hs⟩ => ⟨v, he, by
    have h1 : SB w0 w' (GO pg gl :: MO pm m :: Row (Kd.int .u64) 31 v (gl.map S109.f2) :: L) := hs.pick3 [1, 2, 0]
    exact (SB.gm h1).swap⟩
theorem envL (w0 : World) (pm pg : Nat) (m : Mem) (gl : List S109) (x : S86) (hm : Good m) (hx : okR x) : EnvL w0 (some ⟨pm, 0, none⟩) (EnvMG pm m pg gl) (EnvMG pm (eLay m x) pg gl) x (eFit m x) where
  fits := fun {w L} h => by
    have h2 := hx.at_
    unfold okI at h2
    have h3 := hx.len
    exact (memFitsS (SB.mg.1 h) hm (max x.f2 0) 0 x.f3.length (by omega) (by decide) (by omega)).mono fun e w' hh => ⟨hh.1, h.below (drawn_below hh.2)⟩
  lay := fun hr {w L A c} h hC hc => (memLay (SB.mg.1 h) hm x.f2 x.f3 A c hx.at_ hC (by have := hx.len; omega)).mono fun e w' hh => ⟨⟨_, hh.1⟩, by
    unfold eLay
    rw [if_pos hr]
    exact SB.mg.2 hh.2⟩
  same := fun hr => by
    unfold eLay
    rw [if_neg (by rw [hr]; decide)]
theorem envS (w0 : World) (pm pg : Nat) (m : Mem) (gl : List S109) (x : S86) (hl : gl.length ≤ 1000000) (hx : okR x) : EnvS w0 (some ⟨pg, 0, none⟩) (EnvMG pm m pg gl) (EnvMG pm m pg (eSet gl x)) x (gType gl x.f4).1 (gType gl x.f4).2.1 (gType gl x.f4).2.2 where
  type := fun {w L} h => (globType (SB.mg.1 h).swap hl x.f4 hx.set).mono fun e w' hh => ⟨hh.1, SB.gm hh.2⟩
  set := fun h1 h2 {w L} h => (globSet (SB.mg.1 h).swap hl x.f4 x.f5 hx.set hx.to_).mono fun e w' hh => ⟨⟨_, hh.1⟩, by
    unfold eSet
    rw [if_pos (by rw [h1, h2]; rfl)]
    exact SB.gm hh.2⟩
  same := fun h => by
    unfold eSet
    rw [if_neg (by rw [h]; decide)]
theorem Good.lay {m : Mem} (hm : Good m) {at_ : Int} {l : List Int} (hl : Oct l) : Good { m with b := (mLay m.b at_ l).getD m.b } := by
  unfold mLay
  split
  · rename_i h
    refine ⟨splice_oct hm.1 hl, ?_⟩
    show (splice m.b at_.toNat l).length ≤ _
    rw [splice_length (by omega)]
    exact hm.2
  · exact hm
theorem Good.eLay {m : Mem} (hm : Good m) {x : S86} (hl : Oct x.f3) : Good (eLay m x) := by
  unfold G.eLay
  split
  · exact hm.lay hl
  · exact hm
theorem eSet_len (gl : List S109) (x : S86) : (eSet gl x).length = gl.length := by
  unfold eSet gSet
  repeat' split
  all_goals first | rfl | simp
def fM (ps ws : List Int) (x : S86) (m : Mem) : Mem := if fitsB ps ws then (if x.f1 then m else eLay m x) else m
def fG (ps ws : List Int) (x : S86) (gl : List S109) : List S109 := if fitsB ps ws then (if x.f1 then gl else eSet gl x) else gl
/-- Do with both. -/
theorem hstDoM {w0 w : World} {L : List As} {p pm pg : Nat} {rs : List S86} {lg : List S80} {m m' : Mem} {gl gl' : List S109} {Ap Ar Aa : Option Addr} {ps ts ws : List Int} {cp cr ca : Nat} (f : Int) (hS : SB w0 w (HO p rs lg :: MO pm m :: GO pg gl :: L)) (hm : Good m) (hgl : gl.length ≤ 1000000)
    (hp : Kd.C (Kd.int .u8) w0 Ap ps.length ps) (ht : Kd.C (Kd.int .u8) w0 Ar ts.length ts) (ha : Kd.C (Kd.int .u64) w0 Aa ws.length ws) (hca : ws.length ≤ ca)
    (hl : ps.length ≤ 1000000) (hl2 : ws.length ≤ 1000000) (hl3 : ts.length ≤ 1000000) (hlg : lg.length ≤ 1000000) (hok : ∀ r ∈ rs, okR r) {x : S86} {rs1 : List S86} (hn : fNext rs = (x, rs1)) {v t : Int} (h : fAns ps ts ws x = (v, t)) {rs' : List S86} {lg' : List S80} (hrs : fRs ps ws rs = rs')
    (hlg' : fLg f ps ws (mSum m.b) (gl.map S109.f2) lg = lg') (hm' : fM ps ws x m = m') (hg' : fG ps ws x gl = gl') :
    Calls Try.prog 12 #[.pointer (some ⟨p, 0, none⟩), .int .i64 f, .agg #[.slice Ap ps.length cp, .slice Ar ts.length cr], .slice Aa ws.length ca, .pointer (some ⟨pm, 0, none⟩), .pointer (some ⟨pg, 0, none⟩)] w fun e w' =>
      e = .returned (.tuple #[.int .u64 v, .int .i64 t]) ∧ SB w0 w' (HO p rs' lg' :: MO pm m' :: GO pg gl' :: L) := by
  have h1 : SB w0 w (EnvMG pm m pg gl :: HO p rs lg :: L) := SB.mg.2 (hS.pick3 [1, 2, 0])
  have h2 : SB w0 w (HO p rs lg :: EnvMG pm m pg gl :: ArgR w0 Ap ps Ar ts Aa ws :: L) := (SB.argR h1 hp ht ha).pick3 [2, 1, 0]
  have fin : ∀ {W : World} {rs2 : List S86} {lg2 : List S80} {m2 : Mem} {g2 : List S109}, SB w0 W (HO p rs2 lg2 :: EnvMG pm m2 pg g2 :: ArgR w0 Ap ps Ar ts Aa ws :: L) → SB w0 W (HO p rs2 lg2 :: MO pm m2 :: GO pg g2 :: L) := fun {W rs2 lg2 m2 g2} hs => by
    have h3 : SB w0 W (EnvMG pm m2 pg g2 :: HO p rs2 lg2 :: L) := hs.pick3 [1, 0]
    exact (SB.mg.1 h3).pick3 [2, 0, 1]
  subst hrs hlg' hm' hg'
  unfold fAns at h
  unfold fRs fLg fM fG
  cases hf : fitsB ps ws with
  | false =>
    rw [hf] at h
    obtain ⟨rfl, rfl⟩ := Prod.mk.inj h
    refine (hstDoNo (cp := cp) (cr := cr) (ca := ca) (am := some ⟨pm, 0, none⟩) (ag := some ⟨pg, 0, none⟩) f h2 hl hl2 hf).mono ?_
    rintro e w' ⟨rfl, hs⟩
    exact ⟨rfl, fin hs⟩
  | true =>
    rw [hf] at h
    obtain ⟨hx, _, _⟩ := okR_next hok hn
    rw [hn]
    refine (hstDoYes (cp := cp) (cr := cr) f h2 hl hl2 hl3 hca hlg hf hn (envA w0 pm pg m gl hm hgl) (envL w0 pm pg m gl x hm hx) (envS w0 pm pg (eLay m x) gl x hgl hx) hx.v hx.at_).mono ?_
    rintro e w' ⟨rfl, hs⟩
    have h3 : (if x.f1 = true then ((0 : Int), (10 : Int)) else (valB ts x.f0, 0)) = (v, t) := h
    by_cases hb : x.f1 = true
    · rw [if_pos hb] at h3
      obtain ⟨rfl, rfl⟩ := Prod.mk.inj h3
      rw [if_pos hb] at hs
      simp only [if_pos hb]
      exact ⟨trivial, fin hs⟩
    · rw [if_neg hb] at h3
      obtain ⟨rfl, rfl⟩ := Prod.mk.inj h3
      rw [if_neg hb] at hs
      simp only [if_neg hb]
      exact ⟨trivial, fin hs⟩
end Go.Proofs.Ytbjglicdamenhaa.G
