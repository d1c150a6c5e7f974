/- Rewriting, as the program goes about it, in plain Lean. -/
import Derived.Test.YtlmdboaghojgiaaS12
namespace Go.Proofs.Ytlmdboaghojgiaa
set_option linter.unusedVariables false
set_option linter.unusedSimpArgs false
open Go

structure PlcL where
  addr : Int
  size : Int
  port : Int
def plcS (x : PlcL) : List (List Value) := [[.int .i64 x.addr], [.int .i64 x.size], [.int .i64 x.port]]
def PlcV (x : PlcL) : Value := .agg (plcS x).flatten.toArray
def plc0 : PlcL := ⟨0, 0, 0⟩
theorem Qax {x : PlcL} : ∀ u ∈ (plcS x).flatten, u.oneCell' = true := by
  intro u hu
  simp [plcS] at hu
  rcases hu with h | h | h <;> subst h <;> rfl
def plcA (p : PktL) : PlcL := ⟨p.net + (if p.tup.src.six then 8 else 12), if p.tup.src.six then 16 else 4, p.seg⟩
def Qaw (p : PktL) (dst : Bool) : PlcL := if dst then ⟨(plcA p).addr + (plcA p).size, (plcA p).size, (plcA p).port + 2⟩ else plcA p
def pktF (p : PktL) : List (List Value) := [[.int .i64 p.kind], [.bool p.tup.src.six], p.tup.src.b.map Q0z, [.bool p.tup.dst.six], p.tup.dst.b.map Q0z, [.int .i64 p.tup.proto], [.int .i64 p.tup.sport], [.int .i64 p.tup.dport], [.int .i64 p.flags], [.int .i64 p.net], [.int .i64 p.seg], [.int .i64 p.end']]
theorem Qck (p : PktL) : (pktF p).flatten = (pktS p).flatten := by simp [pktF, pktS, tupS]
theorem Q92 {p : PktL} (h : Qdf p) : (pktF p).map List.length = [1, 1, 16, 1, 16, 1, 1, 1, 1, 1, 1, 1] := by
  obtain ⟨h1, h2⟩ := h
  simp [pktF, h1, h2]
theorem Qf5 {p : PktL} : ∀ u ∈ (pktF p).flatten, u.oneCell' = true := by rw [Qck]; exact Q4r
theorem Qf4 (p : PktL) : Value.agg (pktF p).flatten.toArray = PktV p := by rw [Qck]; rfl
def natK (l : List UInt8) : PktL := ⟨0, Qor l, (Q0m (pkN l).1.proto (pkP l)).1.flags, (pkA l : Int), (Q32 l : Int), (endP l : Int)⟩
theorem Ql9 {l : List UInt8} (h : FineP l) : Qgc l = natK l := by
  obtain ⟨b1, b2, b3, b4, b5⟩ := Qib h
  unfold Qgc natK Q32 endP
  rw [b1]
  congr 1 <;> omega
theorem Qm1 (l : List UInt8) : Qdf (natK l) := Q69 _ _
theorem Qk9 (l : List UInt8) : (natK l).tup.src.six = Q1v l := rfl
theorem Qpg (l : List UInt8) (dst : Bool) : Qaw (natK l) dst = ⟨(at12 l dst : Int), (sz12 (Q1v l) : Int), (pl12 l dst : Int)⟩ := by
  unfold Qaw plcA at12 pl12 sz12
  rw [Qk9]
  show (if dst = true then (⟨(pkA l : Int) + _ + _, _, (Q32 l : Int) + 2⟩ : PlcL) else ⟨(pkA l : Int) + _, _, (Q32 l : Int)⟩) = _
  cases Q1v l <;> cases dst <;> simp <;> omega
section
variable {l : List UInt8} {A : Adr} {n : Int} {dst : Bool}
theorem Qos : (((((Q0y l).kind != 0) || !ofB (Q0y l).tup.src.six A) || decide (n < 0)) || decide (n > 65535)) = !Q9x l A n := by
  unfold Q9x inW
  generalize ofB (Q0y l).tup.src.six A = b
  rw [Bool.eq_iff_iff]
  cases b <;> simp <;> omega
theorem Ql5 (h : (((((Q0y l).kind != 0) || !ofB (Q0y l).tup.src.six A) || decide (n < 0)) || decide (n > 65535)) = true) : Q9x l A n = false := by
  rw [Qos] at h; simpa using h
theorem Ql6 (h : (((((Q0y l).kind != 0) || !ofB (Q0y l).tup.src.six A) || decide (n < 0)) || decide (n > 65535)) = false) : Q9x l A n = true := by
  rw [Qos] at h; simpa using h
theorem Qhi (h : Q9x l A n = false) : natR l A n dst = ([], 1) ∧ Qcl l A n dst = ([], false) := by
  unfold natR Qcl; rw [if_neg (by rw [h]; decide), if_neg (by rw [h]; decide)]; exact ⟨rfl, rfl⟩
theorem Qf6 (h : Q9x l A n = true) : natR l A n dst = (natX l A n dst, 0) ∧ Qcl l A n dst = (natX l A n dst, true) := by
  unfold natR Qcl; rw [if_pos h, if_pos h]; exact ⟨rfl, rfl⟩
theorem Qc9 (h : Q1v l = false) : Q3n (natA l A n dst) (ip12 l) (put2 (Qg5 l A dst)) = natB l A n dst := by unfold natB; rw [if_neg (by rw [h]; decide)]
theorem Q8t (h : Q1v l = true) : natA l A n dst = natB l A n dst := by unfold natB; rw [if_pos h]
theorem Qf8 (h : udp0 l) : natB l A n dst = natX l A n dst := by unfold natX; rw [if_pos h]
theorem Qhm (h : ¬ udp0 l) : Q3n (natB l A n dst) (ck12 l) (put2 (pFix (pkN l).1.proto (Qc7 l A n dst))) = natX l A n dst := by unfold natX; rw [if_neg h]
theorem Qlf (h : (((pkN l).1.proto == 17) && (Q0a l (ck12 l) == 0)) = true) : udp0 l := by
  unfold udp0; simpa using h
theorem Qlg (h : (((pkN l).1.proto == 17) && (Q0a l (ck12 l) == 0)) = false) : ¬ udp0 l := by
  rintro ⟨h1, h2⟩
  rw [h1, h2] at h
  simp at h
theorem Qf9 {q s : Int} (h : ((q == 17) && (s == 0)) = true) : pFix q s = 65535 := by
  unfold pFix; simp at h; rw [if_pos ⟨h.2, h.1⟩]
theorem Qfa {q s : Int} (h : ((q == 17) && (s == 0)) = false) : pFix q s = s := by
  unfold pFix
  rw [if_neg]
  rintro ⟨h1, h2⟩
  rw [h1, h2] at h
  simp at h
theorem Qhl (b : NatB l) (hA : A.b.length = 16) : subl (natB l A n dst) (pl12 l dst) (pl12 l dst + 2) = put2 n := by
  have hp := Q3g (dst := dst) b
  apply List.ext_getElem?
  intro i
  by_cases hi : i < 2
  · have h1 : (subl (natB l A n dst) (pl12 l dst) (pl12 l dst + 2))[i]? = (natB l A n dst)[pl12 l dst + i]? := by
      unfold subl
      rw [List.getElem?_drop, List.getElem?_take_of_lt (by omega)]
    rw [h1, Qfh b hA, if_neg (by omega), Qb3 b hA, if_pos (by omega)]
    congr 1; omega
  · rw [List.getElem?_eq_none (by unfold subl; simp; omega), List.getElem?_eq_none (by rw [Q13]; omega)]
theorem Qka {k : Nat} (h : k + 2 ≤ l.length) : [l[k]'(by omega), l[k + 1]'(by omega)] = subl l k (k + 2) := by
  apply List.ext_getElem
  · simp [subl]; omega
  · intro j h1 h2
    match j, h1 with
    | 0, _ => simp [subl]
    | 1, _ => simp [subl]
    | j + 2, h => exact absurd h (by simp)
theorem Qad {k : Nat} {x y : UInt8} (h : k + 2 ≤ l.length) (hx : x = l[k]'(by omega)) (hy : y = l[k + 1]'(by omega)) : 256 * (x.toNat : Int) + (y.toNat : Int) = Q0a l k := by
  subst hx; subst hy
  unfold Q0a
  rw [Q0o (by omega), Q0o (by omega)]
theorem Qcb {i : Nat} (h : i + 2 ≤ l.length) : be ((subl l i (i + 2)).take 8) = Q0a l i := by
  rw [List.take_of_length_le (by unfold subl; simp; omega)]
  exact Qcc h
end
end Go.Proofs.Ytlmdboaghojgiaa
