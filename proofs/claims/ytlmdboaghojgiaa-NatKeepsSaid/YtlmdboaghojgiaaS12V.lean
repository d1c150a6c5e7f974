/- Rewriting, as the document goes about it, in plain Lean. -/
import Derived.Test.YtlmdboaghojgiaaS12W
namespace Go.Proofs.Ytlmdboaghojgiaa
set_option linter.unusedVariables false
set_option linter.unusedSimpArgs false
open Go
section
variable {l : List UInt8}
theorem at_t (l : List UInt8) : (pkA l : Int) + (if Q1v l then 8 else 12) + (sz12 (Q1v l) : Int) = (at12 l true : Int) := by
  unfold at12; simp only [if_true]; split <;> omega
theorem at_f (l : List UInt8) : (pkA l : Int) + (if Q1v l then 8 else 12) = (at12 l false : Int) := by
  unfold at12; simp only [Bool.false_eq_true, if_false]; split <;> omega
theorem pl_t (l : List UInt8) : (Q32 l : Int) + 2 = (pl12 l true : Int) := by unfold pl12; simp only [if_true]; omega
theorem pl_f (l : List UInt8) : (Q32 l : Int) = (pl12 l false : Int) := by unfold pl12; simp only [Bool.false_eq_true, if_false]; omega
theorem Qps {L b : List UInt8} {k i : Nat} (hi : i < b.length) (h : k + i < L.length) : (Q3n L k (b.take i)).set (k + i) b[i] = Q3n L k (b.take (i + 1)) := by
  have e := Q84 (l := L) (a := b.take i) (k := k) (c := b[i]) (by rw [List.length_take]; omega)
  rw [List.length_take, Nat.min_eq_left (by omega)] at e
  rw [e, List.take_succ_eq_append_getElem hi]
theorem Qeh {L b : List UInt8} {k i : Nat} (hi : i ≤ b.length) (h : k + i ≤ L.length) : (Q3n L k (b.take i)).length = L.length := Q3o (by rw [List.length_take]; omega)
theorem Qei {L : List UInt8} {k : Nat} {n : Int} (hn : 0 ≤ n ∧ n ≤ 65535) (h : k + 2 ≤ L.length) : (L.set k (b8 (IntKind.i64.wrap (n.tdiv 256)))).set (k + 1) (b8 (n.tmod 256)) = Q3n L k (put2 n) := by
  rw [Qic h, Q4b hn, Q4c hn.1]; rfl
theorem Qjm {n : Int} (hn : 0 ≤ n ∧ n ≤ 65535) : [b8 (IntKind.i64.wrap (n.tdiv 256)), b8 (n.tmod 256)] = put2 n := by rw [Q4b hn, Q4c hn.1]; rfl
end
end Go.Proofs.Ytlmdboaghojgiaa
