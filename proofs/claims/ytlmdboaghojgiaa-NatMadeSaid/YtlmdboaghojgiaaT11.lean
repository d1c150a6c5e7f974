/- Frames that are read, in plain Lean. -/
import Derived.Test.YtlmdboaghojgiaaS13
namespace Go.Proofs.Ytlmdboaghojgiaa
set_option linter.unusedVariables false
set_option linter.unusedSimpArgs false
open Go

structure PktL where
  kind : Int
  tup : TupL
  flags : Int
  net : Int
  seg : Int
  end' : Int
def pktS (p : PktL) : List (List Value) := [[.int .i64 p.kind], (tupS p.tup).flatten, [.int .i64 p.flags], [.int .i64 p.net], [.int .i64 p.seg], [.int .i64 p.end']]
def PktV (p : PktL) : Value := .agg (pktS p).flatten.toArray
def Qek (p : PktL) : Prop := Q3f p.tup
def give (k : Int) : PktL := ⟨k, tup0, 0, 0, 0, 0⟩
theorem Qj2 (k : Int) : Qek (give k) := Qnv
theorem Qel {p : PktL} : ∀ u ∈ (pktS p).flatten, u.oneCell' = true := by
  intro u hu
  simp only [pktS, List.flatten_cons, List.flatten_nil, List.mem_append, List.mem_cons, List.not_mem_nil, or_false] at hu
  rcases hu with h | h | h | h | h | h
  · subst h; rfl
  · exact Q8h u (by simpa [List.mem_flatten] using h)
  all_goals subst h; rfl
theorem Qj7 {p : PktL} (h : Qek p) : (pktS p).flatten.length = 42 := by
  have := Qnw h
  simp only [pktS, List.flatten_cons, List.flatten_nil, List.length_append, List.length_cons, List.length_nil, this]
structure NetT where
  head : Int
  total : Int
  proto : Int
  frag : Bool
  src : Adr
  dst : Adr
def netT (kind : Int) (l : List UInt8) : NetT × Int :=
  if kind = 2048 then (⟨(Q0q l).1.head, (Q0q l).1.total, (Q0q l).1.proto, (Q0q l).1.frag, (Q0q l).1.src, (Q0q l).1.dst⟩, (Q0q l).2)
  else (⟨(Q0j l).1.head, (Q0j l).1.total, (Q0j l).1.proto, (Q0j l).1.frag, (Q0j l).1.src, (Q0j l).1.dst⟩, (Q0j l).2)
def Q66 (n : NetT) : List (List Value) := [[.int .i64 n.head], [.int .i64 n.total], [.int .i64 n.proto], [.bool n.frag], [.bool n.src.six], n.src.b.map Q0t, [.bool n.dst.six], n.dst.b.map Q0t]
def Qeo (n : NetT) : Value := .agg (Q66 n).flatten.toArray
def Qnx : NetT := ⟨0, 0, 0, false, adr0, adr0⟩
def Qg6 (n : NetT) : Prop := n.src.b.length = 16 ∧ n.dst.b.length = 16
theorem Q74 (kind : Int) (l : List UInt8) : Qg6 (netT kind l).1 := by
  unfold netT
  split
  · exact Q5r l
  · exact Q6s l
theorem Qbb {n : NetT} (h : Qg6 n) : (Q66 n).map List.length = [1, 1, 1, 1, 1, 16, 1, 16] := by
  obtain ⟨h1, h2⟩ := h
  simp [Q66, h1, h2]
theorem Q9b {n : NetT} : ∀ u ∈ (Q66 n).flatten, u.oneCell' = true := by
  intro u hu
  simp only [Q66, List.flatten_cons, List.flatten_nil, List.mem_append, List.mem_cons, List.mem_map, List.not_mem_nil, or_false] at hu
  rcases hu with h | h | h | h | h | ⟨c, _, h⟩ | h | ⟨c, _, h⟩ <;> subst h <;> rfl
theorem Qg7 {n : NetT} (h : Qg6 n) : (Q66 n).flatten.length = 38 := by
  obtain ⟨h1, h2⟩ := h
  simp [Q66, h1, h2]
theorem Qj3 {kind : Int} {l : List UInt8} (h : (netT kind l).2 = 0) : 20 ≤ (netT kind l).1.head ∧ (netT kind l).1.head ≤ (netT kind l).1.total ∧ (netT kind l).1.total ≤ (l.length : Int) := by
  by_cases hk : kind = 2048
  · have e : netT kind l = _ := if_pos hk
    rw [e] at h ⊢
    have h9 : (Q56 2048 l).ok = true := by unfold Q56; rw [if_pos rfl]; simpa using h
    rcases Qqy 2048 l with h1 | h1
    · rw [h1] at h9; cases h9
    · unfold Q56 at h1; rw [if_pos rfl] at h1; exact ⟨h1.1, h1.2.1, h1.2.2.1⟩
  · have e : netT kind l = _ := if_neg hk
    rw [e] at h ⊢
    rcases Qj0 l with h1 | h1
    · exact absurd h h1.2
    · exact ⟨by show 20 ≤ (Q0j l).1.head; omega, h1.2.1, h1.2.2.1⟩
theorem Qqs {l : List UInt8} (h : (Q0c l).2 = 0) : (Q0c l).1.at' = (((Q0c l).1.at'.toNat : Nat) : Int) ∧ 14 ≤ (Q0c l).1.at'.toNat ∧ (Q0c l).1.at'.toNat ≤ l.length := by
  have hb := Q76 h
  omega
def Q5p (p : Int) : Bool := p == 6 || p == 17
def pkA (l : List UInt8) : Nat := (Q0c l).1.at'.toNat
def pkN (l : List UInt8) : NetT × Int := netT (Q0c l).1.type (l.drop (pkA l))
def pkP (l : List UInt8) : List UInt8 := subl l (pkA l + (pkN l).1.head.toNat) (pkA l + (pkN l).1.total.toNat)
def Q16 (l : List UInt8) : PktL :=
  if (Q0c l).2 ≠ 0 then give 1
  else if ¬ ((Q0c l).1.type = 2048 ∨ (Q0c l).1.type = 34525) then give 2
  else if (pkN l).2 ≠ 0 then give 3
  else if (pkN l).1.frag = true then give 4
  else if Q5p (pkN l).1.proto = false then give 5
  else if (Q0i (pkN l).1.proto (pkP l)).2 ≠ 0 then give 6
  else ⟨0, ⟨(pkN l).1.src, (pkN l).1.dst, (pkN l).1.proto, (Q0i (pkN l).1.proto (pkP l)).1.sport, (Q0i (pkN l).1.proto (pkP l)).1.dport⟩, (Q0i (pkN l).1.proto (pkP l)).1.flags, (Q0c l).1.at', (Q0c l).1.at' + (pkN l).1.head, (Q0c l).1.at' + (pkN l).1.total⟩
end Go.Proofs.Ytlmdboaghojgiaa
