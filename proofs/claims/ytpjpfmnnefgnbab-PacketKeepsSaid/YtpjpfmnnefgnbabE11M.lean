/- What PacketKinds needs, in plain Lean. -/
import Derived.Test.YtpjpfmnnefgnbabE11K
import Derived.Test.YtpjpfmnnefgnbabM06
namespace Go.Proofs.Ytpjpfmnnefgnbab
set_option linter.unusedVariables false
set_option linter.unusedSimpArgs false
open Go
section
variable {T : TupL} {f : Int} {load : List UInt8}
end
section
variable {L : List UInt8} {t : UInt8}
end
section
variable {L : LinkL} {T : TupL} {f : Int} {load : List UInt8}
theorem keeps_g (h : (!((makeR L T f load).2 != 0)) = true) : linkRight (typedL L T.src.six) = true ∧ mayL T f = true ∧ (load.length : Int) + (headL T : Int) + (if T.src.six then 0 else 20) ≤ 65535 := by
  have hw := makeR_good (L := L) (T := T) (f := f) (load := load) (by simpa using h)
  obtain ⟨h1, h2, _⟩ := why_ok hw
  exact ⟨h1, h2, (why_seg hw).1⟩
theorem keeps_end : (((makeR L T f load).2 != 0) || ((makeR L T f load).1 == makeL L T f load)) = true := by
  by_cases h : (makeR L T f load).2 = 0
  · rw [makeR_0 (makeR_good h)]; simp
  · simp [h]
end
end Go.Proofs.Ytpjpfmnnefgnbab
