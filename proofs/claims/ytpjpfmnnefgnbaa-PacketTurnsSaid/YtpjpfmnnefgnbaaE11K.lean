/- Frames changed in one place, in plain Lean; answers that layer 11 fixes. -/
import Derived.Test.YtpjpfmnnefgnbaaE11
namespace Go.Proofs.Ytpjpfmnnefgnbaa
set_option linter.unusedVariables false
set_option linter.unusedSimpArgs false
open Go

/-! ## A header's checksum, mended -/
/-! ## Frames of IPv4 without tags -/
section
variable {T : TupL} {f : Int} {load : List UInt8}
end
/-! ## What awake asks -/
def adrB : Adr := ⟨false, [5, 6, 7, 8, 0, 0, 0, 0, 0, 0, 0, 0, 0, 0, 0, 0]⟩
def some11 : TupL := ⟨adrA, adrB, 6, 1000, 80⟩
theorem some11_ok : TupOk some11 := ⟨rfl, rfl⟩
def hi11 : List UInt8 := [104, 105]
def mk11 : List UInt8 := makeL link0 some11 2 hi11
theorem some11_why : whyL link0 some11 2 hi11.length = 0 := by decide +kernel
theorem tup0_why : whyL link0 tup0 0 ([] : List UInt8).length = 1 := by decide +kernel
theorem mk11_len : mk11.length = 56 := makeL_len link0_ok some11_ok some11_why
theorem mk11_read : pktRead mk11 = ⟨0, some11, 2, 14, 34, 56⟩ := by
  have := (make_all (L := link0) (f := 2) (load := hi11) link0_ok some11_ok some11_why []).2.2.2.2
  rw [List.append_nil] at this
  exact this
theorem z13_read : pktRead (List.replicate 13 0) = give 1 := by unfold pktRead; rw [if_pos (by decide +kernel)]
theorem z14_read : pktRead (List.replicate 14 0) = give 2 := by unfold pktRead; rw [if_neg (by decide +kernel), if_pos (by decide +kernel)]
theorem turn_why (T : TupL) (n : Nat) : whyL link0 (turnT T) 0 n = whyL link0 T 0 n := why_turn _ _ _ _ (by decide) (by decide)
section
variable {T : TupL} {load : List UInt8}
theorem turn_make (hT : TupOk T) : (makeR link0 (turnT T) 0 load).2 = (makeR link0 T 0 load).2 ∧ (makeR link0 (turnT T) 0 load).1.length = (makeR link0 T 0 load).1.length := by
  have hw := turn_why T load.length
  by_cases h : whyL link0 T 0 load.length = 0
  · rw [makeR_0 h, makeR_0 (hw.trans h)]
    refine ⟨rfl, ?_⟩
    show (makeL _ _ _ _).length = (makeL _ _ _ _).length
    rw [makeL_len link0_ok hT h, makeL_len link0_ok (turnT_ok hT) (hw.trans h)]
    have := (why_seg h).2.fam
    show 14 + 4 * _ + (if T.dst.six then 40 else 20) + headL T + _ = _
    rw [this]
  · rw [makeR_no rfl h, makeR_no hw h]
    exact ⟨rfl, rfl⟩
theorem turn_tup (hT : TupOk T) (h : (!((makeR link0 T 0 load).2 != 0)) = true) : (pktRead (makeR link0 (turnT T) 0 load).1).tup = turnT T := by
  have h0 : (makeR link0 T 0 load).2 = 0 := by simpa using h
  have hw := (turn_why T load.length).trans (makeR_good h0)
  rw [makeR_0 hw]
  have := (make_all (L := link0) (f := 0) (load := load) link0_ok (turnT_ok hT) hw []).2.2.2.2
  rw [List.append_nil] at this
  show (pktRead (makeL _ _ _ _)).tup = _
  rw [this]
  rfl
end
end Go.Proofs.Ytpjpfmnnefgnbaa
