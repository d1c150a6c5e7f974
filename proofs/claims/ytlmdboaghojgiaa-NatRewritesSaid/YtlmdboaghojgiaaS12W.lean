/- Rewriting, as the program goes about it, in plain Lean. -/
import Derived.Test.YtlmdboaghojgiaaS12
namespace Go.Proofs.Ytlmdboaghojgiaa
set_option linter.unusedVariables false
set_option linter.unusedSimpArgs false
open Go

structure PlcL where
  addr : Int
  size : Int
  port : Int
def plcS (x : PlcL) : List (List Value) := [[.int .i64 x.addr], [.int .i64 x.size], [.int .i64 x.port]]
def PlcV (x : PlcL) : Value := .agg (plcS x).flatten.toArray
def plc0 : PlcL := ⟨0, 0, 0⟩
theorem plc_one {x : PlcL} : ∀ u ∈ (plcS x).flatten, u.oneCell' = true := by
  intro u hu
  simp [plcS] at hu
  rcases hu with h | h | h <;> subst h <;> rfl
def plcA (p : PktL) : PlcL := ⟨p.net + (if p.tup.src.six then 8 else 12), if p.tup.src.six then 16 else 4, p.seg⟩
def plcOf (p : PktL) (dst : Bool) : PlcL := if dst then ⟨(plcA p).addr + (plcA p).size, (plcA p).size, (plcA p).port + 2⟩ else plcA p
def pktF (p : PktL) : List (List Value) := [[.int .i64 p.kind], [.bool p.tup.src.six], p.tup.src.b.map byteV, [.bool p.tup.dst.six], p.tup.dst.b.map byteV, [.int .i64 p.tup.proto], [.int .i64 p.tup.sport], [.int .i64 p.tup.dport], [.int .i64 p.flags], [.int .i64 p.net], [.int .i64 p.seg], [.int .i64 p.end']]
theorem pktF_flat (p : PktL) : (pktF p).flatten = (pktS p).flatten := by simp [pktF, pktS, tupS]
theorem pktF_lens {p : PktL} (h : PktOk p) : (pktF p).map List.length = [1, 1, 16, 1, 16, 1, 1, 1, 1, 1, 1, 1] := by
  obtain ⟨h1, h2⟩ := h
  simp [pktF, h1, h2]
theorem pktF_one {p : PktL} : ∀ u ∈ (pktF p).flatten, u.oneCell' = true := by rw [pktF_flat]; exact pkt_one
theorem pktF_V (p : PktL) : Value.agg (pktF p).flatten.toArray = PktV p := by rw [pktF_flat]; rfl
def natK (l : List UInt8) : PktL := ⟨0, fineT l, (portRead (pkN l).1.proto (pkP l)).1.flags, (pkA l : Int), (seg12 l : Int), (endP l : Int)⟩
theorem fine_K {l : List UInt8} (h : FineP l) : fineR l = natK l := by
  obtain ⟨b1, b2, b3, b4, b5⟩ := fine_bd h
  unfold fineR natK seg12 endP
  rw [b1]
  congr 1 <;> omega
theorem natK_ok (l : List UInt8) : PktOk (natK l) := netT_ok _ _
theorem natK_six (l : List UInt8) : (natK l).tup.src.six = six12 l := rfl
theorem plc_K (l : List UInt8) (dst : Bool) : plcOf (natK l) dst = ⟨(at12 l dst : Int), (sz12 (six12 l) : Int), (pl12 l dst : Int)⟩ := by
  unfold plcOf plcA at12 pl12 sz12
  rw [natK_six]
  show (if dst = true then (⟨(pkA l : Int) + _ + _, _, (seg12 l : Int) + 2⟩ : PlcL) else ⟨(pkA l : Int) + _, _, (seg12 l : Int)⟩) = _
  cases six12 l <;> cases dst <;> simp <;> omega
section
variable {l : List UInt8} {A : Adr} {n : Int} {dst : Bool}
theorem nat_c : (((((pktRead l).kind != 0) || !ofB (pktRead l).tup.src.six A) || decide (n < 0)) || decide (n > 65535)) = !natOk l A n := by
  unfold natOk inW
  generalize ofB (pktRead l).tup.src.six A = b
  rw [Bool.eq_iff_iff]
  cases b <;> simp <;> omega
theorem nat_c1 (h : (((((pktRead l).kind != 0) || !ofB (pktRead l).tup.src.six A) || decide (n < 0)) || decide (n > 65535)) = true) : natOk l A n = false := by
  rw [nat_c] at h; simpa using h
theorem nat_c2 (h : (((((pktRead l).kind != 0) || !ofB (pktRead l).tup.src.six A) || decide (n < 0)) || decide (n > 65535)) = false) : natOk l A n = true := by
  rw [nat_c] at h; simpa using h
theorem natR_no (h : natOk l A n = false) : natR l A n dst = ([], 1) ∧ natR2 l A n dst = ([], false) := by
  unfold natR natR2; rw [if_neg (by rw [h]; decide), if_neg (by rw [h]; decide)]; exact ⟨rfl, rfl⟩
theorem natR_yes (h : natOk l A n = true) : natR l A n dst = (natX l A n dst, 0) ∧ natR2 l A n dst = (natX l A n dst, true) := by
  unfold natR natR2; rw [if_pos h, if_pos h]; exact ⟨rfl, rfl⟩
theorem natB_four (h : six12 l = false) : putAt (natA l A n dst) (ip12 l) (put2 (wip12 l A dst)) = natB l A n dst := by unfold natB; rw [if_neg (by rw [h]; decide)]
theorem natB_six (h : six12 l = true) : natA l A n dst = natB l A n dst := by unfold natB; rw [if_pos h]
theorem natX_udp (h : udp0 l) : natB l A n dst = natX l A n dst := by unfold natX; rw [if_pos h]
theorem natX_ck (h : ¬ udp0 l) : putAt (natB l A n dst) (ck12 l) (put2 (pFix (pkN l).1.proto (wck12 l A n dst))) = natX l A n dst := by unfold natX; rw [if_neg h]
theorem udp0_t (h : (((pkN l).1.proto == 17) && (wordAt l (ck12 l) == 0)) = true) : udp0 l := by
  unfold udp0; simpa using h
theorem udp0_f (h : (((pkN l).1.proto == 17) && (wordAt l (ck12 l) == 0)) = false) : ¬ udp0 l := by
  rintro ⟨h1, h2⟩
  rw [h1, h2] at h
  simp at h
theorem pfix_t {q s : Int} (h : ((q == 17) && (s == 0)) = true) : pFix q s = 65535 := by
  unfold pFix; simp at h; rw [if_pos ⟨h.2, h.1⟩]
theorem pfix_f {q s : Int} (h : ((q == 17) && (s == 0)) = false) : pFix q s = s := by
  unfold pFix
  rw [if_neg]
  rintro ⟨h1, h2⟩
  rw [h1, h2] at h
  simp at h
theorem natB_port (b : NatB l) (hA : A.b.length = 16) : subl (natB l A n dst) (pl12 l dst) (pl12 l dst + 2) = put2 n := by
  have hp := nat_places (dst := dst) b
  apply List.ext_getElem?
  intro i
  by_cases hi : i < 2
  · have h1 : (subl (natB l A n dst) (pl12 l dst) (pl12 l dst + 2))[i]? = (natB l A n dst)[pl12 l dst + i]? := by
      unfold subl
      rw [List.getElem?_drop, List.getElem?_take_of_lt (by omega)]
    rw [h1, natB_get b hA, if_neg (by omega), natA_get b hA, if_pos (by omega)]
    congr 1; omega
  · rw [List.getElem?_eq_none (by unfold subl; simp; omega), List.getElem?_eq_none (by rw [put2_len]; omega)]
theorem subl_two {k : Nat} (h : k + 2 ≤ l.length) : [l[k]'(by omega), l[k + 1]'(by omega)] = subl l k (k + 2) := by
  apply List.ext_getElem
  · simp [subl]; omega
  · intro j h1 h2
    match j, h1 with
    | 0, _ => simp [subl]
    | 1, _ => simp [subl]
    | j + 2, h => exact absurd h (by simp)
theorem wordAt_two {k : Nat} {x y : UInt8} (h : k + 2 ≤ l.length) (hx : x = l[k]'(by omega)) (hy : y = l[k + 1]'(by omega)) : 256 * (x.toNat : Int) + (y.toNat : Int) = wordAt l k := by
  subst hx; subst hy
  unfold wordAt
  rw [byteAt_get (by omega), byteAt_get (by omega)]
theorem take8_two {i : Nat} (h : i + 2 ≤ l.length) : be ((subl l i (i + 2)).take 8) = wordAt l i := by
  rw [List.take_of_length_le (by unfold subl; simp; omega)]
  exact be_two h
end
end Go.Proofs.Ytlmdboaghojgiaa
