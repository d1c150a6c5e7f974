/- Rewriting, as the program goes about it, in plain Lean. -/
import Derived.Test.YtlmdboaghojgiaaS12
namespace Go.Proofs.Ytlmdboaghojgiaa
set_option linter.unusedVariables false
set_option linter.unusedSimpArgs false
open Go

structure PlcL where
  addr : Int
  size : Int
  port : Int
def plcS (x : PlcL) : List (List Value) := [[.int .i64 x.addr], [.int .i64 x.size], [.int .i64 x.port]]
def PlcV (x : PlcL) : Value := .agg (plcS x).flatten.toArray
def plc0 : PlcL := ⟨0, 0, 0⟩
theorem Qbx {x : PlcL} : ∀ u ∈ (plcS x).flatten, u.oneCell' = true := by
  intro u hu
  simp [plcS] at hu
  rcases hu with h | h | h <;> subst h <;> rfl
def plcA (p : PktL) : PlcL := ⟨p.net + (if p.tup.src.six then 8 else 12), if p.tup.src.six then 16 else 4, p.seg⟩
def Qby (p : PktL) (dst : Bool) : PlcL := if dst then ⟨(plcA p).addr + (plcA p).size, (plcA p).size, (plcA p).port + 2⟩ else plcA p
def pktF (p : PktL) : List (List Value) := [[.int .i64 p.kind], [.bool p.tup.src.six], p.tup.src.b.map Q0t, [.bool p.tup.dst.six], p.tup.dst.b.map Q0t, [.int .i64 p.tup.proto], [.int .i64 p.tup.sport], [.int .i64 p.tup.dport], [.int .i64 p.flags], [.int .i64 p.net], [.int .i64 p.seg], [.int .i64 p.end']]
theorem Qde (p : PktL) : (pktF p).flatten = (pktS p).flatten := by simp [pktF, pktS, tupS]
theorem Qdf {p : PktL} (h : Qek p) : (pktF p).map List.length = [1, 1, 16, 1, 16, 1, 1, 1, 1, 1, 1, 1] := by
  obtain ⟨h1, h2⟩ := h
  simp [pktF, h1, h2]
theorem Ql6 {p : PktL} : ∀ u ∈ (pktF p).flatten, u.oneCell' = true := by rw [Qde]; exact Qel
theorem Qit (p : PktL) : Value.agg (pktF p).flatten.toArray = PktV p := by rw [Qde]; rfl
def natK (l : List UInt8) : PktL := ⟨0, Qnr l, (Q0i (pkN l).1.proto (pkP l)).1.flags, (pkA l : Int), (Q1u l : Int), (endP l : Int)⟩
theorem Qql {l : List UInt8} (h : FineP l) : Qax l = natK l := by
  obtain ⟨b1, b2, b3, b4, b5⟩ := Qiu h
  unfold Qax natK Q1u endP
  rw [b1]
  congr 1 <;> omega
theorem Qns (l : List UInt8) : Qek (natK l) := Q74 _ _
theorem Ql7 (l : List UInt8) : (natK l).tup.src.six = Q1k l := rfl
theorem Qrx (l : List UInt8) (dst : Bool) : Qby (natK l) dst = ⟨(at12 l dst : Int), (sz12 (Q1k l) : Int), (pl12 l dst : Int)⟩ := by
  unfold Qby plcA at12 pl12 sz12
  rw [Ql7]
  show (if dst = true then (⟨(pkA l : Int) + _ + _, _, (Q1u l : Int) + 2⟩ : PlcL) else ⟨(pkA l : Int) + _, _, (Q1u l : Int)⟩) = _
  cases Q1k l <;> cases dst <;> simp <;> omega
section
variable {l : List UInt8} {A : Adr} {n : Int} {dst : Bool}
theorem Qqm : (((((Q16 l).kind != 0) || !ofB (Q16 l).tup.src.six A) || decide (n < 0)) || decide (n > 65535)) = !Q75 l A n := by
  unfold Q75 inW
  generalize ofB (Q16 l).tup.src.six A = b
  rw [Bool.eq_iff_iff]
  cases b <;> simp <;> omega
theorem Qqn (h : (((((Q16 l).kind != 0) || !ofB (Q16 l).tup.src.six A) || decide (n < 0)) || decide (n > 65535)) = true) : Q75 l A n = false := by
  rw [Qqm] at h; simpa using h
theorem Qqo (h : (((((Q16 l).kind != 0) || !ofB (Q16 l).tup.src.six A) || decide (n < 0)) || decide (n > 65535)) = false) : Q75 l A n = true := by
  rw [Qqm] at h; simpa using h
theorem Qem (h : Q75 l A n = false) : natR l A n dst = ([], 1) ∧ Ql8 l A n dst = ([], false) := by
  unfold natR Ql8; rw [if_neg (by rw [h]; decide), if_neg (by rw [h]; decide)]; exact ⟨rfl, rfl⟩
theorem Qbz (h : Q75 l A n = true) : natR l A n dst = (natX l A n dst, 0) ∧ Ql8 l A n dst = (natX l A n dst, true) := by
  unfold natR Ql8; rw [if_pos h, if_pos h]; exact ⟨rfl, rfl⟩
theorem Qiv (h : Q1k l = false) : Q27 (natA l A n dst) (ip12 l) (put2 (Q7q l A dst)) = natB l A n dst := by unfold natB; rw [if_neg (by rw [h]; decide)]
theorem Qg4 (h : Q1k l = true) : natA l A n dst = natB l A n dst := by unfold natB; rw [if_pos h]
theorem Ql9 (h : udp0 l) : natB l A n dst = natX l A n dst := by unfold natX; rw [if_pos h]
theorem Qnt (h : ¬ udp0 l) : Q27 (natB l A n dst) (ck12 l) (put2 (pFix (pkN l).1.proto (Q64 l A n dst))) = natX l A n dst := by unfold natX; rw [if_neg h]
theorem Qqp (h : (((pkN l).1.proto == 17) && (Q07 l (ck12 l) == 0)) = true) : udp0 l := by
  unfold udp0; simpa using h
theorem Qqq (h : (((pkN l).1.proto == 17) && (Q07 l (ck12 l) == 0)) = false) : ¬ udp0 l := by
  rintro ⟨h1, h2⟩
  rw [h1, h2] at h
  simp at h
theorem Qmz {q s : Int} (h : ((q == 17) && (s == 0)) = true) : pFix q s = 65535 := by
  unfold pFix; simp at h; rw [if_pos ⟨h.2, h.1⟩]
theorem Qn0 {q s : Int} (h : ((q == 17) && (s == 0)) = false) : pFix q s = s := by
  unfold pFix
  rw [if_neg]
  rintro ⟨h1, h2⟩
  rw [h1, h2] at h
  simp at h
theorem Qiw (b : NatB l) (hA : A.b.length = 16) : subl (natB l A n dst) (pl12 l dst) (pl12 l dst + 2) = put2 n := by
  have hp := Q1c (dst := dst) b
  apply List.ext_getElem?
  intro i
  by_cases hi : i < 2
  · have h1 : (subl (natB l A n dst) (pl12 l dst) (pl12 l dst + 2))[i]? = (natB l A n dst)[pl12 l dst + i]? := by
      unfold subl
      rw [List.getElem?_drop, List.getElem?_take_of_lt (by omega)]
    rw [h1, Q7r b hA, if_neg (by omega), Q9a b hA, if_pos (by omega)]
    congr 1; omega
  · rw [List.getElem?_eq_none (by unfold subl; simp; omega), List.getElem?_eq_none (by rw [Q0d]; omega)]
theorem Qdg {i : Nat} (h : i + 2 ≤ l.length) : be ((subl l i (i + 2)).take 8) = Q07 l i := by
  rw [List.take_of_length_le (by unfold subl; simp; omega)]
  exact Qdh h
end
end Go.Proofs.Ytlmdboaghojgiaa
