/- What layer 12's laws need: in plain Lean. -/
import Derived.Test.YtlmdboaghojgiaaE12
import Derived.Test.YtlmdboaghojgiaaE11K
import Derived.Test.YtlmdboaghojgiaaS12V
namespace Go.Proofs.Ytlmdboaghojgiaa
set_option linter.unusedVariables false
set_option linter.unusedSimpArgs false
open Go

def adrN : Adr := ⟨false, [10, 0, 0, 9, 0, 0, 0, 0, 0, 0, 0, 0, 0, 0, 0, 0]⟩
def someN : TupL := ⟨adrA, adrN, 6, 1000, 8080⟩
theorem Qmb : Q7u someN := ⟨rfl, rfl⟩
def mkN : List UInt8 := Q9n Q4w someN 2 hi11
theorem aw_r : Q2l (Q3p Q4w some11.src.six) = true := by decide +kernel
theorem aw_m : mayL some11 2 = true := by decide +kernel
theorem aw_n : (hi11.length : Int) + (Q5n some11 : Int) + (if some11.src.six then 0 else 20) ≤ 65535 := by decide +kernel
theorem Qsh : Q2l (Q3p Q4w someN.src.six) = true := by decide +kernel
theorem Qsi : mayL someN 2 = true := by decide +kernel
theorem Qsj : (hi11.length : Int) + (Q5n someN : Int) + (if someN.src.six then 0 else 20) ≤ 65535 := by decide +kernel
theorem Qi3 : natR ([] ++ mk11 ++ [1, 2]) adrN 8080 true = (mkN, 0) := by decide +kernel
theorem Qjf : natR mk11 adrA 1000 false = (mk11, 0) := by decide +kernel
theorem Qsk : natR mk11 adrN 65536 true = ([], 1) := by decide +kernel
theorem Qcp {A : Adr} : ∀ u ∈ ([[Value.bool A.six], A.b.map Q12] : List (List Value)).flatten, u.oneCell' = true := by
  intro u hu
  simp only [List.flatten_cons, List.flatten_nil, List.mem_append, List.mem_cons, List.mem_map, List.not_mem_nil, or_false] at hu
  rcases hu with h | ⟨c, _, h⟩ <;> subst h <;> rfl
theorem Qhk {A : Adr} (hA : A.b.length = 16) : ([[Value.bool A.six], A.b.map Q12] : List (List Value)).flatten.length = 17 := by simp [hA]
section
variable {l m : List UInt8} {A B : Adr} {n p : Int} {dst : Bool}
theorem Qhl (h : FineP l) : Q0d (l ++ m) = Q0d l := by
  have := Qkp h (l.drop (endP l) ++ m)
  rw [← List.append_assoc, List.take_append_drop] at this
  exact this
theorem Qni (h : Q6n l A n = true) : Q6n (l ++ m) A n = true := by
  have P := Qaj h
  unfold Q6n at h ⊢
  rw [Qhl P.fine]
  exact h
theorem Q6b (h : FineP l) : (Q0d l).kind = 0 ∧ (Q0d l).net = (pkA l : Int) ∧ (Q0d l).seg = (Q21 l : Int) ∧ (Q0d l).end' = (endP l : Int) ∧ (Q0d l).tup = Q2p l := by
  rw [Qau h, Qgt h]
  exact ⟨rfl, rfl, rfl, rfl, rfl⟩
theorem Qm7 (h : (natR l A n dst).2 ≠ 0) : (natR l A n dst).1 = [] := by
  unfold natR at h ⊢
  split
  · rename_i h1; rw [if_pos h1] at h; exact absurd rfl h
  · rfl
theorem Qjb (h : (natR l A n dst).2 = 0) : Q6n l A n = true := by
  unfold natR at h
  split at h
  · assumption
  · exact absurd h (by decide)
theorem Qdb (hA : A.b.length = 16) : Qbn { Q0d l with tup := natT (Q0d l).tup A n dst } := Qjd (Q32 l) hA
theorem Qdc (P : NatP l A n) : Q6n l A n = true := by
  refine Qki P.fine ?_ P.port
  unfold ofB
  rw [P.six]
  cases h : Q1k l with
  | true => rfl
  | false => simp [P.short h]
theorem Qis (h : FineP l) (h6 : Q1k l = false) : Q2y (pkN l).1.src = true ∧ Q2y (pkN l).1.dst = true := by
  have hs := Q9m (k := (Q0b l).1.type) (l := l.drop (pkA l)) h.nt
  have h4 : (Q0b l).1.type = 2048 := by
    have h7 : (netT (Q0b l).1.type (l.drop (pkA l))).1.src.six = false := h6
    rw [hs.1] at h7
    simpa using h7
  have hN : pkN l = netT 2048 (l.drop (pkA l)) := by unfold pkN; rw [h4]
  have hq : (Q0n (l.drop (pkA l))).2 = 0 := by have := h.nt; rw [hN] at this; exact this
  obtain ⟨c1, c2, c3, c4, c5, c6⟩ := Q33 hq
  have e := Q1w c1 c2 c3 c4 c5 c6
  have e1 : (pkN l).1.src = adr4 (l.drop (pkA l)) 12 := by rw [hN]; unfold netT; rw [if_pos rfl, e]; rfl
  have e2 : (pkN l).1.dst = adr4 (l.drop (pkA l)) 16 := by rw [hN]; unfold netT; rw [if_pos rfl, e]; rfl
  have key : ∀ j, j + 4 ≤ (l.drop (pkA l)).length → Q2y (adr4 (l.drop (pkA l)) j) = true := fun j hj => by
    unfold Q2y adr4
    have hl : (((l.drop (pkA l)).drop j).take 4).length = 4 := by rw [List.length_take, List.length_drop]; omega
    simp only []
    rw [List.drop_left' hl]
    decide
  rw [e1, e2]
  exact ⟨key 12 (by omega), key 16 (by omega)⟩
theorem Qlx (h : FineP l) : NatP l (Q2p l).dst (Q2p l).dport := by
  have hs := Q9m (k := (Q0b l).1.type) (l := l.drop (pkA l)) h.nt
  have hp := Q65 h.po
  refine ⟨h, Qau h, ?_, fun h6 => (Qis h h6).2, ?_⟩
  · show (netT (Q0b l).1.type (l.drop (pkA l))).1.dst.six = (netT (Q0b l).1.type (l.drop (pkA l))).1.src.six
    rw [hs.1, hs.2.1]
  · show 0 ≤ (Q0g (pkN l).1.proto (pkP l)).1.dport ∧ (Q0g (pkN l).1.proto (pkP l)).1.dport ≤ 65535
    rw [hp.2]; exact Q0z _ _
theorem Qnj (P : NatP l A n) (Q : NatP l B p) (hA : A.b.length = 16) (hB : B.b.length = 16) (c : Cks l) :
    Q6n (natX l A n true) B p = true ∧ natX (natX l A n true) B p true = natX l B p true ∧ Q6n (natX l B p true) (Q2p l).dst (Q2p l).dport = true ∧ natX (natX l B p true) (Q2p l).dst (Q2p l).dport true = l.take (endP l) := by
  have b := Q7q P.fine
  have D := Qlx P.fine
  have hN := Q62 (Q0b l).1.type (l.drop (pkA l))
  have hd16 : (Q2p l).dst.b.length = 16 := hN.2
  refine ⟨Qdc (Qhm P Q b hA), Qey P Q b hA hB c, Qdc (Qhm Q D b hB), ?_⟩
  rw [Qey Q D b hB hd16 c]
  refine Qnk D b hd16 rfl ?_ c
  have := Qly (dst := true) b
  rw [← this]
  exact (Q65 P.fine.po).2
theorem Qs8 {r1 r2 r3 r4 : Bool} (h : ((((((((Q0d l).kind != 0) || !ofB (Q0d l).tup.src.six A) || !ofB (Q0d l).tup.src.six B) || r1) || r2) || r3) || r4) = false) : FineP l := by
  simp only [Bool.or_eq_false_iff] at h
  exact (Qfk (by simpa using h.1.1.1.1.1.1)).1
theorem Qs9 (h : (((((((((Q0d l).kind != 0) || !ofB (Q0d l).tup.src.six A) || !ofB (Q0d l).tup.src.six B) || decide (n < 0)) || decide (n > 65535)) || decide (p < 0)) || decide (p > 65535))) = false) : NatP l A n ∧ NatP l B p := by
  simp only [Bool.or_eq_false_iff, bne_eq_false_iff_eq, Bool.not_eq_false', decide_eq_false_iff_not] at h
  obtain ⟨⟨⟨⟨⟨⟨h1, h2⟩, h3⟩, h4⟩, h5⟩, h6⟩, h7⟩ := h
  have hf := Qfk h1
  have hs : (Q0d l).tup.src.six = Q1k l := by rw [hf.2]; rfl
  rw [hs] at h2 h3
  exact ⟨Qaj (Qki hf.1 h2 (by omega)), Qaj (Qki hf.1 h3 (by omega))⟩
theorem Qnl {x y u v : UInt8} {s6 : Bool} (h : FineP l) (b : NatB l) (hs : s6 = Q1k l) (hx : ∀ hh, x = l[ck12 l]'hh) (hy : ∀ hh, y = l[ck12 l + 1]'hh) (hu : ∀ hh, u = l[ip12 l]'hh) (hv : ∀ hh, v = l[ip12 l + 1]'hh)
    (hc : (((((pkN l).1.proto == 6) && ((x.toNat : Int) == 255)) && ((y.toNat : Int) == 255)) || ((!s6 && ((u.toNat : Int) == 255)) && ((v.toNat : Int) == 255))) = false) : Cks l := by
  have hp := Q1b (dst := true) b
  have hlen := b.len
  have e1 := Qc6 (l := l) (k := ck12 l) (by omega) (hx (by omega)) (hy (by omega))
  have e2 := Qc6 (l := l) (k := ip12 l) (by omega) (hu (by omega)) (hv (by omega))
  have bx := x.toNat_lt; have by' := y.toNat_lt; have bu := u.toNat_lt; have bv := v.toNat_lt
  simp only [Bool.or_eq_false_iff, Bool.and_eq_false_iff, beq_eq_false_iff_ne, ne_eq, Bool.not_eq_false'] at hc
  refine ⟨fun h6 => ?_, fun h6 => ?_⟩
  · rw [← e2]
    rcases hc.2 with (h1 | h1) | h1
    · rw [hs, h6] at h1; cases h1
    · omega
    · omega
  · rw [← e1]
    rcases hc.1 with (h1 | h1) | h1
    · exact absurd h6 h1
    · omega
    · omega
end
end Go.Proofs.Ytlmdboaghojgiaa
