/- What NatMade and NatBack need: in plain Lean. -/
import Derived.Test.YtlmdboaghojgiaaE12K
namespace Go.Proofs.Ytlmdboaghojgiaa
set_option linter.unusedVariables false
set_option linter.unusedSimpArgs false
open Go
section
variable {L : LinkL} {T : TupL} {f n p : Int} {load l : List UInt8} {A B : Adr}
theorem Qf1 {r1 r2 r3 r4 : Bool} (h : (!((((((((Q0d l).kind != 0) || !ofB (Q0d l).tup.src.six A) || !ofB (Q0d l).tup.src.six B) || r1) || r2) || r3) || r4)) = true) : FineP l := Qs8 (by simpa using h)
theorem Qq5 (h : FineP l) : (Q0g (Q0d l).tup.proto (subl l (Q21 l) (endP l))).2 = 0 := by
  rw [(Q6b h).2.2.2.2]; exact h.po
theorem Qsf {r : Bool} (h : ((((((((((Q0d l).kind != 0) || !ofB (Q0d l).tup.src.six A) || !ofB (Q0d l).tup.src.six B) || decide (n < 0)) || decide (n > 65535)) || decide (p < 0)) || decide (p > 65535))) || r) = false) : NatP l A n ∧ NatP l B p := by
  rw [Bool.or_eq_false_iff] at h
  exact Qs9 h.1
end
end Go.Proofs.Ytlmdboaghojgiaa
