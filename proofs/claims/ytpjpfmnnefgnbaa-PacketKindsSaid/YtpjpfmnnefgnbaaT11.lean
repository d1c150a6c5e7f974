/- Frames that are read, in plain Lean. -/
import Derived.Test.YtpjpfmnnefgnbaaS13
namespace Go.Proofs.Ytpjpfmnnefgnbaa
set_option linter.unusedVariables false
set_option linter.unusedSimpArgs false
open Go

structure PktL where
  kind : Int
  tup : TupL
  flags : Int
  net : Int
  seg : Int
  end' : Int
def pktS (p : PktL) : List (List Value) := [[.int .i64 p.kind], (tupS p.tup).flatten, [.int .i64 p.flags], [.int .i64 p.net], [.int .i64 p.seg], [.int .i64 p.end']]
def PktV (p : PktL) : Value := .agg (pktS p).flatten.toArray
def PktOk (p : PktL) : Prop := TupOk p.tup
def give (k : Int) : PktL := ⟨k, tup0, 0, 0, 0, 0⟩
theorem give_ok (k : Int) : PktOk (give k) := tup0_ok
theorem pktS_lens {p : PktL} (h : PktOk p) : (pktS p).map List.length = [1, 37, 1, 1, 1, 1] := by
  simp only [pktS, List.map_cons, List.map_nil, List.length_cons, List.length_nil, tup_len h]
theorem pkt_one {p : PktL} : ∀ u ∈ (pktS p).flatten, u.oneCell' = true := by
  intro u hu
  simp only [pktS, List.flatten_cons, List.flatten_nil, List.mem_append, List.mem_cons, List.not_mem_nil, or_false] at hu
  rcases hu with h | h | h | h | h | h
  · subst h; rfl
  · exact tup_one u (by simpa [List.mem_flatten] using h)
  all_goals subst h; rfl
theorem pkt_len {p : PktL} (h : PktOk p) : (pktS p).flatten.length = 42 := by
  have := tup_len h
  simp only [pktS, List.flatten_cons, List.flatten_nil, List.length_append, List.length_cons, List.length_nil, this]
structure NetT where
  head : Int
  total : Int
  proto : Int
  frag : Bool
  src : Adr
  dst : Adr
def netT (kind : Int) (l : List UInt8) : NetT × Int :=
  if kind = 2048 then (⟨(fourRead l).1.head, (fourRead l).1.total, (fourRead l).1.proto, (fourRead l).1.frag, (fourRead l).1.src, (fourRead l).1.dst⟩, (fourRead l).2)
  else (⟨(sixRead l).1.head, (sixRead l).1.total, (sixRead l).1.proto, (sixRead l).1.frag, (sixRead l).1.src, (sixRead l).1.dst⟩, (sixRead l).2)
def netTS (n : NetT) : List (List Value) := [[.int .i64 n.head], [.int .i64 n.total], [.int .i64 n.proto], [.bool n.frag], [.bool n.src.six], n.src.b.map byteV, [.bool n.dst.six], n.dst.b.map byteV]
def NetTV (n : NetT) : Value := .agg (netTS n).flatten.toArray
def netT0 : NetT := ⟨0, 0, 0, false, adr0, adr0⟩
def NetTOk (n : NetT) : Prop := n.src.b.length = 16 ∧ n.dst.b.length = 16
theorem netT_ok (kind : Int) (l : List UInt8) : NetTOk (netT kind l).1 := by
  unfold netT
  split
  · exact fourRead_ok l
  · exact sixRead_ok l
theorem netTS_lens {n : NetT} (h : NetTOk n) : (netTS n).map List.length = [1, 1, 1, 1, 1, 16, 1, 16] := by
  obtain ⟨h1, h2⟩ := h
  simp [netTS, h1, h2]
theorem netT_one {n : NetT} : ∀ u ∈ (netTS n).flatten, u.oneCell' = true := by
  intro u hu
  simp only [netTS, List.flatten_cons, List.flatten_nil, List.mem_append, List.mem_cons, List.mem_map, List.not_mem_nil, or_false] at hu
  rcases hu with h | h | h | h | h | ⟨c, _, h⟩ | h | ⟨c, _, h⟩ <;> subst h <;> rfl
theorem netT_len {n : NetT} (h : NetTOk n) : (netTS n).flatten.length = 38 := by
  obtain ⟨h1, h2⟩ := h
  simp [netTS, h1, h2]
theorem netT_bd {kind : Int} {l : List UInt8} (h : (netT kind l).2 = 0) : 20 ≤ (netT kind l).1.head ∧ (netT kind l).1.head ≤ (netT kind l).1.total ∧ (netT kind l).1.total ≤ (l.length : Int) := by
  by_cases hk : kind = 2048
  · have e : netT kind l = _ := if_pos hk
    rw [e] at h ⊢
    have h9 : (netRead 2048 l).ok = true := by unfold netRead; rw [if_pos rfl]; simpa using h
    rcases net_bd 2048 l with h1 | h1
    · rw [h1] at h9; cases h9
    · unfold netRead at h1; rw [if_pos rfl] at h1; exact ⟨h1.1, h1.2.1, h1.2.2.1⟩
  · have e : netT kind l = _ := if_neg hk
    rw [e] at h ⊢
    rcases six_bd l with h1 | h1
    · exact absurd h h1.2
    · exact ⟨by show 20 ≤ (sixRead l).1.head; omega, h1.2.1, h1.2.2.1⟩
theorem pk_bd {l : List UInt8} (h : (linkRead l).2 = 0) : (linkRead l).1.at' = (((linkRead l).1.at'.toNat : Nat) : Int) ∧ 14 ≤ (linkRead l).1.at'.toNat ∧ (linkRead l).1.at'.toNat ≤ l.length := by
  have hb := linkRead_bd h
  omega
def carriedB (p : Int) : Bool := p == 6 || p == 17
def pkA (l : List UInt8) : Nat := (linkRead l).1.at'.toNat
def pkN (l : List UInt8) : NetT × Int := netT (linkRead l).1.type (l.drop (pkA l))
def pkP (l : List UInt8) : List UInt8 := subl l (pkA l + (pkN l).1.head.toNat) (pkA l + (pkN l).1.total.toNat)
def pktRead (l : List UInt8) : PktL :=
  if (linkRead l).2 ≠ 0 then give 1
  else if ¬ ((linkRead l).1.type = 2048 ∨ (linkRead l).1.type = 34525) then give 2
  else if (pkN l).2 ≠ 0 then give 3
  else if (pkN l).1.frag = true then give 4
  else if carriedB (pkN l).1.proto = false then give 5
  else if (portRead (pkN l).1.proto (pkP l)).2 ≠ 0 then give 6
  else ⟨0, ⟨(pkN l).1.src, (pkN l).1.dst, (pkN l).1.proto, (portRead (pkN l).1.proto (pkP l)).1.sport, (portRead (pkN l).1.proto (pkP l)).1.dport⟩, (portRead (pkN l).1.proto (pkP l)).1.flags, (linkRead l).1.at', (linkRead l).1.at' + (pkN l).1.head, (linkRead l).1.at' + (pkN l).1.total⟩
def turnT (T : TupL) : TupL := ⟨T.dst, T.src, T.proto, T.dport, T.sport⟩
theorem turnT_ok {T : TupL} (h : TupOk T) : TupOk (turnT T) := ⟨h.2, h.1⟩
end Go.Proofs.Ytpjpfmnnefgnbaa
