/- Package host: Do with no memory and no globals; the document's example. -/
import Derived.Deep.DeepMust
import Derived.Test.YtbjglicdamenhaaHstK
namespace Go.Proofs.Ytbjglicdamenhaa.G
open Go.RowKit Go.Proofs.YtbjglicdamenhaaW.PrintWords Go.Proofs.YtbjglicdamenhaaW.PrintLast Go.Proofs.YtbjglicdamenhaaW.PrintMore
set_option linter.unusedVariables false
set_option linter.unusedSimpArgs false
def okI (x : Int) : Prop := -9223372036854775808 ≤ x ∧ x < 9223372036854775808
def okU (x : Int) : Prop := 0 ≤ x ∧ x < 18446744073709551616
/-- A reply whose numbers are numbers. -/
structure okR (x : S86) : Prop where
  v : okU x.f0
  at_ : okI x.f2
  len : x.f3.length ≤ 300
  set : okI x.f4
  to_ : okU x.f5
theorem okR_next {rs rs' : List S86} {x : S86} (h : ∀ r ∈ rs, okR r) (hn : fNext rs = (x, rs')) : okR x ∧ (∀ r ∈ rs', okR r) ∧ rs'.length = rs.length - 1 := by
  cases rs with
  | nil =>
    obtain ⟨rfl, rfl⟩ := Prod.mk.inj hn
    exact ⟨⟨⟨by decide, by decide⟩, ⟨by decide, by decide⟩, by decide, ⟨by decide, by decide⟩, ⟨by decide, by decide⟩⟩, h, rfl⟩
  | cons y rs =>
    obtain ⟨rfl, rfl⟩ := Prod.mk.inj hn
    exact ⟨h _ (List.mem_cons_self ..), fun r hr => h r (List.mem_cons_of_mem _ hr), by simp⟩
/-- A call's answer. -/
def fAns (ps ts ws : List Int) (x : S86) : Int × Int := if fitsB ps ws then (if x.f1 then (0, 10) else (valB ts x.f0, 0)) else (0, 11)
def fRs (ps ws : List Int) (rs : List S86) : List S86 := if fitsB ps ws then (fNext rs).2 else rs
def fLg (f : Int) (ps ws : List Int) (s : Int) (gs : List Int) (lg : List S80) : List S80 := if fitsB ps ws then lg ++ [⟨f, ws, s, gs⟩] else lg
theorem SB.argR {w0 w : World} {L : List As} (h : SB w0 w L) {Ap Ar Aa : Option Addr} {ps ts ws : List Int} (hp : Kd.C (Kd.int .u8) w0 Ap ps.length ps) (ht : Kd.C (Kd.int .u8) w0 Ar ts.length ts) (ha : Kd.C (Kd.int .u64) w0 Aa ws.length ws) : SB w0 w (ArgR w0 Ap ps Ar ts Aa ws :: L) :=
  h.new (Below.refl _ _) (A := ArgR w0 Ap ps Ar ts Aa ws) (F' := fun _ => False) ⟨fun W _ h2 => ⟨(Kd.heap_int _).C h2 hp, (Kd.heap_int _).C h2 ht, (Kd.heap_int _).C h2 ha⟩, fun k hk => hk.elim⟩ (fun k hk => hk.elim)
/-- Do with neither. -/
theorem hstDoA {w0 w : World} {L : List As} {p : Nat} {rs : List S86} {lg : List S80} {Ap Ar Aa : Option Addr} {ps ts ws : List Int} {cp cr ca : Nat} (f : Int) (hS : SB w0 w (HO p rs lg :: ArgR w0 Ap ps Ar ts Aa ws :: L)) (hca : ws.length ≤ ca)
    (hl : ps.length ≤ 1000000) (hl2 : ws.length ≤ 1000000) (hl3 : ts.length ≤ 1000000) (hlg : lg.length ≤ 1000000) (hok : ∀ r ∈ rs, okR r) {v t : Int} (h : fAns ps ts ws (fNext rs).1 = (v, t)) {rs' : List S86} {lg' : List S80} (hrs : fRs ps ws rs = rs') (hlg' : fLg f ps ws 14695981039346656037 [] lg = lg') :
    Calls Try.prog 12 #[.pointer (some ⟨p, 0, none⟩), .int .i64 f, .agg #[.slice Ap ps.length cp, .slice Ar ts.length cr], .slice Aa ws.length ca, .pointer none, .pointer none] w fun e w' =>
      e = .returned (.tuple #[.int .u64 v, .int .i64 t]) ∧ SB w0 w' (HO p rs' lg' :: ArgR w0 Ap ps Ar ts Aa ws :: L) := by
  have h2 : SB w0 w (HO p rs lg :: Emp :: ArgR w0 Ap ps Ar ts Aa ws :: L) := (SB.emp.2 hS).swap
  subst hrs hlg'
  unfold fAns at h
  unfold fRs fLg
  cases hf : fitsB ps ws with
  | false =>
    rw [hf] at h
    obtain ⟨rfl, rfl⟩ := Prod.mk.inj h
    refine (hstDoNo (cp := cp) (cr := cr) (ca := ca) (am := none) (ag := none) f h2 hl hl2 hf).mono ?_
    rintro e w' ⟨rfl, hs⟩
    exact ⟨rfl, SB.emp.1 hs.swap⟩
  | true =>
    rw [hf] at h
    obtain ⟨x, rs1, hn⟩ : ∃ x rs1, fNext rs = (x, rs1) := ⟨_, _, rfl⟩
    obtain ⟨hx, _, _⟩ := okR_next hok hn
    rw [hn] at h ⊢
    refine (hstDoYes (cp := cp) (cr := cr) (am := none) (ag := none) f h2 hl hl2 hl3 hca hlg hf hn (envNilA w0) (envNilL w0 x (by have := hx.len; omega) hx.at_) (envNilS w0 x) hx.v hx.at_).mono ?_
    rintro e w' ⟨rfl, hs⟩
    have he : (if x.f1 = true then Emp else Emp) = Emp := by split <;> rfl
    rw [he] at hs
    refine ⟨?_, SB.emp.1 hs.swap⟩
    have h3 : (if x.f1 = true then ((0 : Int), (10 : Int)) else (valB ts x.f0, 0)) = (v, t) := h
    split at h3
    · rename_i h1
      obtain ⟨rfl, rfl⟩ := Prod.mk.inj h3
      rw [if_pos h1, if_pos h1]
    · rename_i h1
      obtain ⟨rfl, rfl⟩ := Prod.mk.inj h3
      rw [if_neg h1, if_neg h1]
theorem hstDoN {w0 w : World} {L : List As} {p : Nat} {rs : List S86} {lg : List S80} {Ap Ar Aa : Option Addr} {ps ts ws : List Int} {cp cr ca : Nat} (f : Int) (hS : SB w0 w (HO p rs lg :: L)) (hp : Kd.C (Kd.int .u8) w0 Ap ps.length ps) (ht : Kd.C (Kd.int .u8) w0 Ar ts.length ts) (ha : Kd.C (Kd.int .u64) w0 Aa ws.length ws) (hca : ws.length ≤ ca)
    (hl : ps.length ≤ 1000000) (hl2 : ws.length ≤ 1000000) (hl3 : ts.length ≤ 1000000) (hlg : lg.length ≤ 1000000) (hok : ∀ r ∈ rs, okR r) {v t : Int} (h : fAns ps ts ws (fNext rs).1 = (v, t)) {rs' : List S86} {lg' : List S80} (hrs : fRs ps ws rs = rs') (hlg' : fLg f ps ws 14695981039346656037 [] lg = lg') :
    Calls Try.prog 12 #[.pointer (some ⟨p, 0, none⟩), .int .i64 f, .agg #[.slice Ap ps.length cp, .slice Ar ts.length cr], .slice Aa ws.length ca, .pointer none, .pointer none] w fun e w' =>
      e = .returned (.tuple #[.int .u64 v, .int .i64 t]) ∧ SB w0 w' (HO p rs' lg' :: L) :=
  (hstDoA (cp := cp) (cr := cr) (ca := ca) f (SB.argR hS hp ht ha).swap hca hl hl2 hl3 hlg hok h hrs hlg').mono fun e w' hh => ⟨hh.1, hh.2.swap.drop⟩
end Go.Proofs.Ytbjglicdamenhaa.G
