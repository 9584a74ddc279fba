/- HostBounds: what the reply does, in plain words. -/
import Derived.Test.YtbjglicdamenhaaHstP
import Derived.Test.YtbjglicdamenhaaHstM
namespace Go.Proofs.Ytbjglicdamenhaa.G
open Go.RowKit Go.Proofs.YtbjglicdamenhaaW.PrintWords Go.Proofs.YtbjglicdamenhaaW.PrintLast Go.Proofs.YtbjglicdamenhaaW.PrintMore
set_option linter.unusedVariables false
set_option linter.unusedSimpArgs false
def m0 : Mem := ⟨b0, 1, 0, false⟩
def gl3 : List S109 := [⟨126, true, 1⟩, ⟨127, true, 2⟩, ⟨126, false, 3⟩]
def wantL (f1 : Bool) (f4 f5 : Int) : List Int := if f1 = true then [1, 2, 3] else if f4 = 0 then [f5, 2, 3] else if f4 = 1 ∧ f5 < 4294967296 then [1, f5, 3] else [1, 2, 3]
theorem fits00 : fitsB [] [] = true := rfl
theorem bnd_want (x : S86) : (fG [] [] x gl3).map S109.f2 = wantL x.f1 x.f4 x.f5 := by
  unfold fG wantL
  rw [if_pos fits00]
  by_cases h1 : x.f1 = true
  · rw [if_pos h1, if_pos h1]; rfl
  rw [if_neg h1, if_neg h1]
  unfold eSet
  by_cases h0 : x.f4 = 0
  · rw [if_pos h0, h0]; rfl
  rw [if_neg h0]
  by_cases h2 : x.f4 = 1
  · rw [h2]
    have e1 : (gType gl3 1).2.2 = true := rfl
    have e2 : (gType gl3 1).2.1 = true := rfl
    rw [e1, e2, if_pos (show (true && true) = true from rfl)]
    unfold gSet
    rw [if_pos ⟨by decide, by decide⟩]
    have e3 : rd_T109 gl3 1 = ⟨127, true, 2⟩ := rfl
    rw [e3]
    by_cases h3 : x.f5 < 4294967296
    · have e4 : fit 127 x.f5 = true := by unfold fit; rw [decide_eq_true h3]; rfl
      rw [if_pos ⟨rfl, e4⟩, if_pos ⟨rfl, h3⟩]; rfl
    · have e4 : ¬ (fit 127 x.f5 = true) := by unfold fit; rw [decide_eq_false h3]; decide
      rw [if_neg (fun h => e4 h.2), if_neg (fun h => h3 h.2)]; rfl
  · rw [if_neg (c := x.f4 = 1 ∧ x.f5 < 4294967296) (fun h => h2 h.1)]
    by_cases h3 : 0 ≤ x.f4 ∧ x.f4 < gl3.length
    · have hl : (gl3.length : Int) = 3 := rfl
      have h4 : x.f4 = 2 := by omega
      rw [h4]; rfl
    · have e1 : (gType gl3 x.f4).2.2 = false := by unfold gType; rw [if_neg h3]
      rw [e1, Bool.false_and, if_neg (by decide)]; rfl
theorem bnd_fail {x : S86} (h : x.f1 = true) : fM [] [] x m0 = m0 := by
  unfold fM
  rw [if_pos fits00, if_pos h]
theorem bnd_no {x : S86} (h1 : x.f1 = false) (h : ¬ (0 ≤ x.f2 ∧ x.f2 + x.f3.length ≤ 65536) ∨ x.f3 = []) : fM [] [] x m0 = m0 := by
  unfold fM
  rw [if_pos fits00, if_neg (by rw [h1]; decide)]
  unfold eLay
  split
  · have hn : (mLay m0.b x.f2 x.f3).getD m0.b = m0.b := by
      unfold mLay
      split
      · rename_i h2
        have hb : (m0.b.length : Int) = 65536 := by show (b0.length : Int) = _; rw [b0_len]; rfl
        rcases h with h | h
        · exact absurd ⟨h2.1, by omega⟩ h
        · rw [h]; exact splice_nil _ _
      · rfl
    rw [hn]
  · rfl
theorem bnd_yes {x : S86} (h1 : x.f1 = false) (h2 : 0 ≤ x.f2) (h3 : x.f2 + x.f3.length ≤ 65536) : fM [] [] x m0 = ⟨splice b0 x.f2.toNat x.f3, 1, 0, false⟩ := by
  unfold fM
  rw [if_pos fits00, if_neg (by rw [h1]; decide)]
  unfold eLay eFit
  have hb : m0.b.length = 65536 := b0_len
  rw [if_pos (mFits_iff.2 ⟨by omega, by decide, by omega, by rw [hb]; omega⟩)]
  unfold mLay
  rw [if_pos ⟨h2, by rw [hb]; omega, by rw [hb]; omega⟩]
  rfl
theorem splice_b0 {a : Nat} {l : List Int} (h : a + l.length ≤ 65536) : splice (splice b0 a l) a (List.replicate l.length 0) = b0 := by
  have hb := b0_len
  unfold splice
  rw [List.length_replicate]
  have e1 : (b0.take a ++ l ++ b0.drop (a + l.length)).take a = b0.take a := by
    rw [List.append_assoc, List.take_append_of_le_length (by rw [List.length_take]; omega), List.take_of_length_le (by rw [List.length_take]; omega)]
  have e2 : (b0.take a ++ l ++ b0.drop (a + l.length)).drop (a + l.length) = b0.drop (a + l.length) := by
    rw [List.drop_append_of_le_length (by rw [List.length_append, List.length_take]; omega), List.drop_of_length_le (by rw [List.length_append, List.length_take]; omega), List.nil_append]
  rw [e1, e2]
  unfold b0
  rw [List.take_replicate, List.drop_replicate, List.replicate_append_replicate, List.replicate_append_replicate]
  congr 1
  omega
theorem bnd_bytes {a : Nat} {l : List Int} (h : a + l.length ≤ 65536) : mBytes (splice b0 a l) (a : Int) (l.length : Int) = l := by
  have hb := b0_len
  have hl : (splice b0 a l).length = 65536 := by rw [splice_length (by omega), hb]
  unfold mBytes
  rw [if_pos ⟨by omega, by omega, by rw [hl]; omega, by rw [hl]; omega⟩, Int.toNat_natCast, Int.toNat_natCast]
  exact seg_splice (by omega)
theorem bnd_back {a : Nat} {l : List Int} (h : a + l.length ≤ 65536) : (mLay (splice b0 a l) (a : Int) (List.replicate l.length 0)).getD (splice b0 a l) = b0 := by
  have hb := b0_len
  have hl : (splice b0 a l).length = 65536 := by rw [splice_length (by omega), hb]
  unfold mLay
  rw [if_pos ⟨by omega, by rw [hl]; omega, by rw [hl, List.length_replicate]; omega⟩, Int.toNat_natCast]
  exact splice_b0 h
theorem good_b0 : Good m0 := ⟨b0_oct, by show b0.length ≤ _; rw [b0_len]; decide⟩
theorem good_spl {a : Nat} {l : List Int} (h : a + l.length ≤ 65536) (hl : Oct l) : Good ⟨splice b0 a l, 1, 0, false⟩ := ⟨splice_oct b0_oct hl, by
  show (splice b0 a l).length ≤ _
  rw [splice_length (by rw [b0_len]; exact h), b0_len]; decide⟩
/-- Bytes, with the answer told. -/
theorem memBytesK {w0 w : World} {L : List As} {p : Nat} {m : Mem} (hS : SB w0 w (MO p m :: L)) (hm : Good m) {at_ n : Int} (ha : okI at_) (hn : okI n) {l : List Int} (h : mBytes m.b at_ n = l) :
    Calls Try.prog 28 #[.pointer (some ⟨p, 0, none⟩), .int .i64 at_, .int .i64 n] w fun e w' => ∃ v, e = .returned v ∧ SB w0 w' (Row (Kd.int .u8) 5 v l :: MO p m :: L) := by
  subst h
  exact memBytes hS hm at_ n ha hn
theorem memLayK {w0 w : World} {L : List As} {p : Nat} {m : Mem} (hS : SB w0 w (MO p m :: L)) (hm : Good m) {at_ : Int} {l : List Int} {A : Option Addr} {c : Nat} (ha : okI at_) (hC : Kd.C (Kd.int .u8) w A l.length l) (hl : l.length ≤ 1000000) {b' : List Int} (hb : (mLay m.b at_ l).getD m.b = b') :
    Calls Try.prog 29 #[.pointer (some ⟨p, 0, none⟩), .int .i64 at_, .slice A l.length c] w fun e w' => (∃ r, e = .returned (.bool r)) ∧ SB w0 w' (MO p { m with b := b' } :: L) := by
  subst hb
  exact (memLay hS hm at_ l A c ha hC (by omega)).mono fun e w' hh => ⟨⟨_, hh.1⟩, hh.2⟩
end Go.Proofs.Ytbjglicdamenhaa.G
