/- Tuples; frames that are made, in plain Lean. -/
import Derived.Test.YtlmdboaghojgiaaJ
import Derived.Test.YtlmdboaghojgiaaS07
import Derived.Test.YtlmdboaghojgiaaS09
import Derived.Test.YtlmdboaghojgiaaS10
namespace Go.Proofs.Ytlmdboaghojgiaa
set_option linter.unusedVariables false
set_option linter.unusedSimpArgs false
open Go

structure TupL where
  src : Adr
  dst : Adr
  proto : Int
  sport : Int
  dport : Int
def tupS (T : TupL) : List (List Value) := [[.bool T.src.six], T.src.b.map Q0t, [.bool T.dst.six], T.dst.b.map Q0t, [.int .i64 T.proto], [.int .i64 T.sport], [.int .i64 T.dport]]
def TupV (T : TupL) : Value := .agg (tupS T).flatten.toArray
def Q3f (T : TupL) : Prop := T.src.b.length = 16 ∧ T.dst.b.length = 16
def tup0 : TupL := ⟨adr0, adr0, 0, 0, 0⟩
theorem Qnv : Q3f tup0 := ⟨rfl, rfl⟩
theorem Q39 {T : TupL} (h : Q3f T) : (tupS T).map List.length = [1, 16, 1, 16, 1, 1, 1] := by
  obtain ⟨h1, h2⟩ := h
  simp [tupS, h1, h2]
theorem Q8h {T : TupL} : ∀ u ∈ (tupS T).flatten, u.oneCell' = true := by
  intro u hu
  simp only [tupS, List.flatten_cons, List.flatten_nil, List.mem_append, List.mem_cons, List.mem_map, List.not_mem_nil, or_false] at hu
  rcases hu with h | ⟨c, _, h⟩ | h | ⟨c, _, h⟩ | h | h | h <;> subst h <;> rfl
theorem Qnw {T : TupL} (h : Q3f T) : (tupS T).flatten.length = 37 := by
  obtain ⟨h1, h2⟩ := h
  simp [tupS, h1, h2]

/-! ## Families; headers with a type -/
def famB (A D : Adr) : Bool := if (A.six != D.six) = true then false else A.six || (Q2j A && Q2j D)
theorem Qld {A D : Adr} (h : famB A D = true) : A.six = D.six ∧ (A.six = false → Q2j A = true ∧ Q2j D = true) := by
  unfold famB at h
  split at h
  · cases h
  · rename_i hn
    refine ⟨by simpa using hn, fun h0 => ?_⟩
    rw [h0] at h
    simpa using h
def Q1v (L : LinkL) (six : Bool) : LinkL := { L with type := if six then 34525 else 2048 }
theorem Q3v {L : LinkL} {six : Bool} (h : Q2i L) : Q2i (Q1v L six) := h
/-! ## Frames that are made -/
def segL (T : TupL) (f : Int) (load : List UInt8) : List UInt8 :=
  put2 T.sport ++ put2 T.dport ++ (if T.proto = 17 then put2 (8 + (load.length : Int)) ++ [0, 0] else [0, 0, 0, 0, 0, 0, 0, 0, 80, b8 f, 0, 0, 0, 0, 0, 0]) ++ load
def Q2w (T : TupL) : Nat := if T.proto = 17 then 8 else 20
theorem Q6r (T : TupL) (f : Int) (load : List UInt8) : (segL T f load).length = Q2w T + load.length := by
  unfold segL Q2w
  split <;> simp [Q0d] <;> omega
def Q77 (T : TupL) (n : Int) : SixL := ⟨40, 40 + n, 64, false, 0, T.proto, T.src, T.dst⟩
def Q28 (T : TupL) (n : Int) : FourL := ⟨20, 20 + n, 0, 0, false, true, 64, T.proto, T.src, T.dst⟩
def ipL (T : TupL) (n : Int) : List UInt8 := if T.src.six then Q4z (Q77 T n) else Q4k (Q28 T n)
def Q1h (L : LinkL) (T : TupL) (f : Int) (load : List UInt8) : List UInt8 :=
  Q23 (Q1v L T.src.six) ++ ipL T ((segL T f load).length : Int) ++ Q6x T.src T.dst T.proto (segL T f load)
def mayL (T : TupL) (f : Int) : Bool := famB T.src T.dst && (T.proto == 6 || T.proto == 17) && inW T.sport && inW T.dport && inB f 63 && (T.proto == 6 || f == 0)
def whyL (L : LinkL) (T : TupL) (f : Int) (n : Nat) : Int :=
  if Q17 (Q1v L T.src.six) = false ∨ mayL T f = false then 1
  else if (n : Int) + (Q2w T : Int) + (if T.src.six then 40 else 20) > 65535 then 4 else 0
structure MayOk (T : TupL) (f : Int) : Prop where
  fam : T.src.six = T.dst.six
  short : T.src.six = false → Q2j T.src = true ∧ Q2j T.dst = true
  proto : T.proto = 6 ∨ T.proto = 17
  sport : 0 ≤ T.sport ∧ T.sport ≤ 65535
  dport : 0 ≤ T.dport ∧ T.dport ≤ 65535
  flags : 0 ≤ f ∧ f ≤ 63
  udp : T.proto = 17 → f = 0
theorem Qc1 {T : TupL} {f : Int} (h : mayL T f = true) : MayOk T f := by
  unfold mayL at h
  simp only [Bool.and_eq_true, Bool.or_eq_true, beq_iff_eq] at h
  obtain ⟨⟨⟨⟨⟨h1, h2⟩, h3⟩, h4⟩, h5⟩, h6⟩ := h
  obtain ⟨k1, k2⟩ := Qld h1
  unfold inB at h5
  simp at h5
  exact ⟨k1, k2, h2, Q9u h3, Q9u h4, h5, fun h => by omega⟩
theorem Qa0 {L : LinkL} {T : TupL} {f : Int} {n : Nat} (h : whyL L T f n = 0) : Q17 (Q1v L T.src.six) = true ∧ mayL T f = true ∧ (n : Int) + (Q2w T : Int) + (if T.src.six then 40 else 20) ≤ 65535 := by
  unfold whyL at h
  by_cases h1 : Q17 (Q1v L T.src.six) = false ∨ mayL T f = false
  · rw [if_pos h1] at h; exact absurd h (by decide)
  · rw [if_neg h1] at h
    by_cases h2 : (n : Int) + (Q2w T : Int) + (if T.src.six then 40 else 20) > 65535
    · rw [if_pos h2] at h; exact absurd h (by decide)
    · refine ⟨?_, ?_, by omega⟩
      · cases hl : Q17 (Q1v L T.src.six) with
        | true => rfl
        | false => exact absurd (.inl hl) h1
      · cases hl : mayL T f with
        | true => rfl
        | false => exact absurd (.inr hl) h1
theorem Qc4 (T : TupL) : Q2w T = 8 ∨ Q2w T = 20 := by unfold Q2w; split <;> simp
section
variable {T : TupL} {f n : Int} {load : List UInt8}
theorem Q9y (hm : MayOk T f) (h6 : T.src.six = true) (hn : 0 ≤ n ∧ n ≤ 65535) : Q9d (Q77 T n) = true := by
  have h7 := hm.fam
  rw [h6] at h7
  unfold Q9d Q77 inB
  simp only [Bool.and_eq_true, beq_iff_eq, decide_eq_true_eq, Bool.not_eq_true']
  rcases hm.proto with hp | hp <;> rw [hp] <;> exact ⟨⟨⟨⟨⟨⟨⟨⟨⟨by decide, by omega⟩, by omega⟩, by decide⟩, by decide⟩, by decide⟩, by decide⟩, by decide⟩, h6⟩, h7.symm⟩
theorem Q8u (hm : MayOk T f) (h6 : T.src.six = false) (hn : 0 ≤ n ∧ 20 + n ≤ 65535) : Q46 (Q28 T n) = true := by
  obtain ⟨k1, k2⟩ := hm.short h6
  rcases hm.proto with hp | hp <;> simp [Q46, Q28, inB, k1, k2, hp] <;> omega
theorem Qc5 {p q : List UInt8} {i : Nat} {n : Int} (hi : p.length = i) (hn : 0 ≤ n ∧ n ≤ 65535) : Q07 (p ++ (put2 n ++ q)) i = n := by
  have h := Q3i (l := p ++ (put2 n ++ q)) (i := i) (j := 0)
  rw [List.drop_append_of_le_length (by omega), List.drop_of_length_le (by omega), List.nil_append, Qa2 hn, Nat.add_zero] at h
  exact h.symm
theorem Qc2 (hm : MayOk T f) (hn : (load.length : Int) + (Q2w T : Int) ≤ 65535) : Q0i T.proto (segL T f load) = (⟨T.sport, T.dport, f, (Q2w T : Int), ((segL T f load).length : Int)⟩, 0) := by
  have hl := Q6r T f load
  have e0 : segL T f load = [] ++ (put2 T.sport ++ (put2 T.dport ++ ((if T.proto = 17 then put2 (8 + (load.length : Int)) ++ [0, 0] else [0, 0, 0, 0, 0, 0, 0, 0, 80, b8 f, 0, 0, 0, 0, 0, 0]) ++ load))) := by simp [segL]
  have e2 : segL T f load = put2 T.sport ++ (put2 T.dport ++ ((if T.proto = 17 then put2 (8 + (load.length : Int)) ++ [0, 0] else [0, 0, 0, 0, 0, 0, 0, 0, 80, b8 f, 0, 0, 0, 0, 0, 0]) ++ load)) := by simp [segL]
  have w0 : Q07 (segL T f load) 0 = T.sport := by rw [e0]; exact Qc5 rfl hm.sport
  have w2 : Q07 (segL T f load) 2 = T.dport := by rw [e2]; exact Qc5 (Q0d _) hm.dport
  rcases hm.proto with hp | hp
  · have hh : Q2w T = 20 := by unfold Q2w; rw [if_neg (by omega)]
    have e4 : segL T f load = put2 T.sport ++ put2 T.dport ++ [0, 0, 0, 0, 0, 0, 0, 0, 80, b8 f, 0, 0, 0, 0, 0, 0] ++ load := by unfold segL; rw [if_neg (by omega)]
    have b12 : Q09 (segL T f load) 12 = 80 := by rw [e4]; rfl
    have b13 : Q09 (segL T f load) 13 = f := by
      rw [e4]
      show ((b8 f).toNat : Int) = f
      have := Q1n f
      have := hm.flags
      omega
    rw [hp, Q8v]
    unfold Q24
    rw [if_neg (by omega), if_neg (by rw [b12]; decide), if_neg (by rw [b12, hl, hh]; omega), w0, w2, b12, b13, hh]
    have := hm.flags
    rw [show f % 64 = f from by omega]
    rfl
  · have hf := hm.udp hp
    subst hf
    have hh : Q2w T = 8 := by unfold Q2w; rw [if_pos hp]
    have e4 : segL T 0 load = (put2 T.sport ++ put2 T.dport) ++ (put2 (8 + (load.length : Int)) ++ ([0, 0] ++ load)) := by unfold segL; rw [if_pos hp]; simp
    have w4 : Q07 (segL T 0 load) 4 = 8 + (load.length : Int) := by rw [e4]; exact Qc5 rfl (by omega)
    rw [hp, Q8w]
    unfold Q25
    rw [if_neg (by omega), if_neg (by rw [w4]; omega), if_neg (by rw [w4, hl, hh]; omega), w0, w2, w4, hl, hh]
    simp
theorem Qa1 (hm : MayOk T f) (hn : (load.length : Int) + (Q2w T : Int) ≤ 65535) : (Q0i T.proto (segL T f load)).2 = 0 := by rw [Qc2 hm hn]
theorem Q5q (hT : Q3f T) : (ipL T n).length = if T.src.six then 40 else 20 := by
  unfold ipL
  split
  · exact Qbc hT
  · exact Qa3 hT
end
theorem Q7x {L : LinkL} {T : TupL} {f : Int} {load : List UInt8} (hL : Q2i L) (hT : Q3f T) (h : whyL L T f load.length = 0) :
    (Q1h L T f load).length = 14 + 4 * L.tags.length + (if T.src.six then 40 else 20) + Q2w T + load.length := by
  obtain ⟨h1, h2, h3⟩ := Qa0 h
  have hm := Qc1 h2
  unfold Q1h
  rw [List.length_append, List.length_append, Q4j (Q3v hL), Q5q hT, Q4y (Qa1 hm (by split at h3 <;> omega)), Q6r]
  show 14 + 4 * L.tags.length + _ + _ = _
  omega
end Go.Proofs.Ytlmdboaghojgiaa
