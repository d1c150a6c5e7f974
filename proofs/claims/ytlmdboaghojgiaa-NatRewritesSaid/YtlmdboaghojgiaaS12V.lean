/- Rewriting, as the document goes about it, in plain Lean. -/
import Derived.Test.YtlmdboaghojgiaaS12W
namespace Go.Proofs.Ytlmdboaghojgiaa
set_option linter.unusedVariables false
set_option linter.unusedSimpArgs false
open Go
section
variable {l : List UInt8}
theorem at_t (l : List UInt8) : (pkA l : Int) + (if six12 l then 8 else 12) + (sz12 (six12 l) : Int) = (at12 l true : Int) := by
  unfold at12; simp only [if_true]; split <;> omega
theorem at_f (l : List UInt8) : (pkA l : Int) + (if six12 l then 8 else 12) = (at12 l false : Int) := by
  unfold at12; simp only [Bool.false_eq_true, if_false]; split <;> omega
theorem pl_t (l : List UInt8) : (seg12 l : Int) + 2 = (pl12 l true : Int) := by unfold pl12; simp only [if_true]; omega
theorem pl_f (l : List UInt8) : (seg12 l : Int) = (pl12 l false : Int) := by unfold pl12; simp only [Bool.false_eq_true, if_false]; omega
theorem put_i {L b : List UInt8} {k i : Nat} (hi : i < b.length) (h : k + i < L.length) : (putAt L k (b.take i)).set (k + i) b[i] = putAt L k (b.take (i + 1)) := by
  have e := putAt_step (l := L) (a := b.take i) (k := k) (c := b[i]) (by rw [List.length_take]; omega)
  rw [List.length_take, Nat.min_eq_left (by omega)] at e
  rw [e, List.take_succ_eq_append_getElem hi]
theorem putAt_len_i {L b : List UInt8} {k i : Nat} (hi : i ≤ b.length) (h : k + i ≤ L.length) : (putAt L k (b.take i)).length = L.length := putAt_len (by rw [List.length_take]; omega)
theorem two_put {L : List UInt8} {k : Nat} {n : Int} (hn : 0 ≤ n ∧ n ≤ 65535) (h : k + 2 ≤ L.length) : (L.set k (b8 (IntKind.i64.wrap (n.tdiv 256)))).set (k + 1) (b8 (n.tmod 256)) = putAt L k (put2 n) := by
  rw [putAt_two h, b8_quo hn, b8_rem hn.1]; rfl
theorem two_bytes {n : Int} (hn : 0 ≤ n ∧ n ≤ 65535) : [b8 (IntKind.i64.wrap (n.tdiv 256)), b8 (n.tmod 256)] = put2 n := by rw [b8_quo hn, b8_rem hn.1]; rfl
end
end Go.Proofs.Ytlmdboaghojgiaa
