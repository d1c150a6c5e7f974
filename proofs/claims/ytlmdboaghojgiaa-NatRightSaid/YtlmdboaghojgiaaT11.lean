/- Frames that are read, in plain Lean. -/
import Derived.Test.YtlmdboaghojgiaaS13
namespace Go.Proofs.Ytlmdboaghojgiaa
set_option linter.unusedVariables false
set_option linter.unusedSimpArgs false
open Go

structure PktL where
  kind : Int
  tup : TupL
  flags : Int
  net : Int
  seg : Int
  end' : Int
def pktS (p : PktL) : List (List Value) := [[.int .i64 p.kind], (tupS p.tup).flatten, [.int .i64 p.flags], [.int .i64 p.net], [.int .i64 p.seg], [.int .i64 p.end']]
def PktV (p : PktL) : Value := .agg (pktS p).flatten.toArray
def Qbn (p : PktL) : Prop := Q7u p.tup
def give (k : Int) : PktL := ⟨k, tup0, 0, 0, 0, 0⟩
theorem Q6p (k : Int) : Qbn (give k) := Qkq
theorem Qkr {p : PktL} (h : Qbn p) : (pktS p).map List.length = [1, 37, 1, 1, 1, 1] := by
  simp only [pktS, List.map_cons, List.map_nil, List.length_cons, List.length_nil, Qks h]
theorem Q4i {p : PktL} : ∀ u ∈ (pktS p).flatten, u.oneCell' = true := by
  intro u hu
  simp only [pktS, List.flatten_cons, List.flatten_nil, List.mem_append, List.mem_cons, List.not_mem_nil, or_false] at hu
  rcases hu with h | h | h | h | h | h
  · subst h; rfl
  · exact Q6l u (by simpa [List.mem_flatten] using h)
  all_goals subst h; rfl
theorem Q53 {p : PktL} (h : Qbn p) : (pktS p).flatten.length = 42 := by
  have := Qks h
  simp only [pktS, List.flatten_cons, List.flatten_nil, List.length_append, List.length_cons, List.length_nil, this]
structure NetT where
  head : Int
  total : Int
  proto : Int
  frag : Bool
  src : Adr
  dst : Adr
def netT (kind : Int) (l : List UInt8) : NetT × Int :=
  if kind = 2048 then (⟨(Q0n l).1.head, (Q0n l).1.total, (Q0n l).1.proto, (Q0n l).1.frag, (Q0n l).1.src, (Q0n l).1.dst⟩, (Q0n l).2)
  else (⟨(Q0m l).1.head, (Q0m l).1.total, (Q0m l).1.proto, (Q0m l).1.frag, (Q0m l).1.src, (Q0m l).1.dst⟩, (Q0m l).2)
def Q6x (n : NetT) : List (List Value) := [[.int .i64 n.head], [.int .i64 n.total], [.int .i64 n.proto], [.bool n.frag], [.bool n.src.six], n.src.b.map Q12, [.bool n.dst.six], n.dst.b.map Q12]
def Qfm (n : NetT) : Value := .agg (Q6x n).flatten.toArray
def Qpb : NetT := ⟨0, 0, 0, false, adr0, adr0⟩
def Qeh (n : NetT) : Prop := n.src.b.length = 16 ∧ n.dst.b.length = 16
theorem Q62 (kind : Int) (l : List UInt8) : Qeh (netT kind l).1 := by
  unfold netT
  split
  · exact Q3w l
  · exact Q4k l
theorem Qc9 {n : NetT} (h : Qeh n) : (Q6x n).map List.length = [1, 1, 1, 1, 1, 16, 1, 16] := by
  obtain ⟨h1, h2⟩ := h
  simp [Q6x, h1, h2]
theorem Qaf {n : NetT} : ∀ u ∈ (Q6x n).flatten, u.oneCell' = true := by
  intro u hu
  simp only [Q6x, List.flatten_cons, List.flatten_nil, List.mem_append, List.mem_cons, List.mem_map, List.not_mem_nil, or_false] at hu
  rcases hu with h | h | h | h | h | ⟨c, _, h⟩ | h | ⟨c, _, h⟩ <;> subst h <;> rfl
theorem Qhb {n : NetT} (h : Qeh n) : (Q6x n).flatten.length = 38 := by
  obtain ⟨h1, h2⟩ := h
  simp [Q6x, h1, h2]
theorem Qfl {kind : Int} {l : List UInt8} (h : (netT kind l).2 = 0) : 20 ≤ (netT kind l).1.head ∧ (netT kind l).1.head ≤ (netT kind l).1.total ∧ (netT kind l).1.total ≤ (l.length : Int) := by
  by_cases hk : kind = 2048
  · have e : netT kind l = _ := if_pos hk
    rw [e] at h ⊢
    have h9 : (Q63 2048 l).ok = true := by unfold Q63; rw [if_pos rfl]; simpa using h
    rcases Qrp 2048 l with h1 | h1
    · rw [h1] at h9; cases h9
    · unfold Q63 at h1; rw [if_pos rfl] at h1; exact ⟨h1.1, h1.2.1, h1.2.2.1⟩
  · have e : netT kind l = _ := if_neg hk
    rw [e] at h ⊢
    rcases Qkj l with h1 | h1
    · exact absurd h h1.2
    · exact ⟨by show 20 ≤ (Q0m l).1.head; omega, h1.2.1, h1.2.2.1⟩
theorem Qp9 {l : List UInt8} (h : (Q0b l).2 = 0) : (Q0b l).1.at' = (((Q0b l).1.at'.toNat : Nat) : Int) ∧ 14 ≤ (Q0b l).1.at'.toNat ∧ (Q0b l).1.at'.toNat ≤ l.length := by
  have hb := Q84 h
  omega
def Q4t (p : Int) : Bool := p == 6 || p == 17
def pkA (l : List UInt8) : Nat := (Q0b l).1.at'.toNat
def pkN (l : List UInt8) : NetT × Int := netT (Q0b l).1.type (l.drop (pkA l))
def pkP (l : List UInt8) : List UInt8 := subl l (pkA l + (pkN l).1.head.toNat) (pkA l + (pkN l).1.total.toNat)
def Q0d (l : List UInt8) : PktL :=
  if (Q0b l).2 ≠ 0 then give 1
  else if ¬ ((Q0b l).1.type = 2048 ∨ (Q0b l).1.type = 34525) then give 2
  else if (pkN l).2 ≠ 0 then give 3
  else if (pkN l).1.frag = true then give 4
  else if Q4t (pkN l).1.proto = false then give 5
  else if (Q0g (pkN l).1.proto (pkP l)).2 ≠ 0 then give 6
  else ⟨0, ⟨(pkN l).1.src, (pkN l).1.dst, (pkN l).1.proto, (Q0g (pkN l).1.proto (pkP l)).1.sport, (Q0g (pkN l).1.proto (pkP l)).1.dport⟩, (Q0g (pkN l).1.proto (pkP l)).1.flags, (Q0b l).1.at', (Q0b l).1.at' + (pkN l).1.head, (Q0b l).1.at' + (pkN l).1.total⟩
end Go.Proofs.Ytlmdboaghojgiaa
