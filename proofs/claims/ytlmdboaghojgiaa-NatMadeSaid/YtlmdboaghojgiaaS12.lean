/- Frames, rewritten, in plain Lean. -/
import Derived.Test.YtlmdboaghojgiaaE11
namespace Go.Proofs.Ytlmdboaghojgiaa
set_option linter.unusedVariables false
set_option linter.unusedSimpArgs false
open Go

/-! ## Bytes put in their place -/
def Q27 (l : List UInt8) (k : Nat) (a : List UInt8) : List UInt8 := l.take k ++ a ++ l.drop (k + a.length)
section
variable {l a : List UInt8} {k : Nat}
theorem Q20 (h : k + a.length ≤ l.length) : (Q27 l k a).length = l.length := by
  unfold Q27; simp; omega
theorem Q1m (h : k + a.length ≤ l.length) (i : Nat) : (Q27 l k a)[i]? = if k ≤ i ∧ i < k + a.length then a[i - k]? else l[i]? := by
  unfold Q27
  have hk : (l.take k).length = k := by simp; omega
  by_cases h1 : i < k
  · rw [if_neg (by omega), List.append_assoc, List.getElem?_append_left (by omega), List.getElem?_take_of_lt h1]
  · by_cases h2 : i < k + a.length
    · rw [if_pos (by omega), List.getElem?_append_left (by rw [List.length_append]; omega), List.getElem?_append_right (by omega), hk]
    · rw [if_neg (by omega), List.getElem?_append_right (by rw [List.length_append]; omega), List.getElem?_drop, List.length_append, hk]
      congr 1; omega
theorem Q2c (l : List UInt8) (i : Nat) : Q09 l i = ((l[i]?.getD 0).toNat : Int) := by unfold Q09; rw [List.getD_eq_getElem?_getD]
theorem Qdi (h : k + a.length ≤ l.length) {i : Nat} (hi : i < k ∨ k + a.length ≤ i) : Q09 (Q27 l k a) i = Q09 l i := by
  rw [Q2c, Q2c, Q1m h, if_neg (by omega)]
theorem Q9s (h : k + a.length ≤ l.length) : cpy l k (l.length - k) a = Q27 l k a := by
  unfold cpy Q27
  rw [List.take_of_length_le (l := a) (by omega), show min (l.length - k) a.length = a.length from by omega]
end
/-! ## Rewriting -/
def ofB (six : Bool) (A : Adr) : Bool := A.six == six && (six || Q2j A)
theorem Q9t {six : Bool} {A : Adr} (h : ofB six A = true) : A.six = six ∧ (six = false → Q2j A = true) := by
  unfold ofB at h
  simp only [Bool.and_eq_true, beq_iff_eq, Bool.or_eq_true] at h
  refine ⟨h.1, fun h0 => ?_⟩
  rcases h.2 with h1 | h1
  · rw [h0] at h1; cases h1
  · exact h1
theorem Qix {six : Bool} {A : Adr} : (A.six == six && (six || !(A.b.drop 4).any fun c => c != 0)) = ofB six A := by
  unfold ofB Q2j
  cases A.six <;> cases six <;> simp
def Q1k (l : List UInt8) : Bool := (pkN l).1.src.six
def sz12 (s : Bool) : Nat := if s then 16 else 4
def at12 (l : List UInt8) (dst : Bool) : Nat := pkA l + (if Q1k l then 8 else 12) + (if dst then sz12 (Q1k l) else 0)
def Q1u (l : List UInt8) : Nat := pkA l + (pkN l).1.head.toNat
def pl12 (l : List UInt8) (dst : Bool) : Nat := Q1u l + (if dst then 2 else 0)
def ip12 (l : List UInt8) : Nat := pkA l + 10
def ck12 (l : List UInt8) : Nat := Q1u l + atN (pkN l).1.proto
def Q54 (l : List UInt8) (dst : Bool) : List UInt8 := subl l (at12 l dst) (at12 l dst + sz12 (Q1k l))
def Q1f (l : List UInt8) (A : Adr) : List UInt8 := A.b.take (sz12 (Q1k l))
def Q7q (l : List UInt8) (A : Adr) (dst : Bool) : Int := Q3g (Q07 l (ip12 l)) (Q54 l dst) (Q1f l A)
def Q64 (l : List UInt8) (A : Adr) (n : Int) (dst : Bool) : Int := Q3g (Q3g (Q07 l (ck12 l)) (Q54 l dst) (Q1f l A)) (subl l (pl12 l dst) (pl12 l dst + 2)) (put2 n)
def natA (l : List UInt8) (A : Adr) (n : Int) (dst : Bool) : List UInt8 := Q27 (Q27 (l.take (endP l)) (at12 l dst) (Q1f l A)) (pl12 l dst) (put2 n)
def natB (l : List UInt8) (A : Adr) (n : Int) (dst : Bool) : List UInt8 := if Q1k l then natA l A n dst else Q27 (natA l A n dst) (ip12 l) (put2 (Q7q l A dst))
def udp0 (l : List UInt8) : Prop := (pkN l).1.proto = 17 ∧ Q07 l (ck12 l) = 0
instance (l : List UInt8) : Decidable (udp0 l) := by unfold udp0; infer_instance
def natX (l : List UInt8) (A : Adr) (n : Int) (dst : Bool) : List UInt8 := if udp0 l then natB l A n dst else Q27 (natB l A n dst) (ck12 l) (put2 (pFix (pkN l).1.proto (Q64 l A n dst)))
def Q75 (l : List UInt8) (A : Adr) (n : Int) : Bool := (Q16 l).kind == 0 && ofB (Q16 l).tup.src.six A && inW n
def natR (l : List UInt8) (A : Adr) (n : Int) (dst : Bool) : List UInt8 × Int := if Q75 l A n then (natX l A n dst, 0) else ([], 1)
def Ql8 (l : List UInt8) (A : Adr) (n : Int) (dst : Bool) : List UInt8 × Bool := if Q75 l A n then (natX l A n dst, true) else ([], false)
structure NatP (l : List UInt8) (A : Adr) (n : Int) : Prop where
  fine : FineP l
  eq : Q16 l = Qax l
  six : A.six = Q1k l
  short : Q1k l = false → Q2j A = true
  port : 0 ≤ n ∧ n ≤ 65535
theorem Qn1 {l : List UInt8} {A : Adr} {n : Int} (h : Q75 l A n = true) : NatP l A n := by
  unfold Q75 at h
  simp only [Bool.and_eq_true, beq_iff_eq] at h
  obtain ⟨⟨h1, h2⟩, h3⟩ := h
  obtain ⟨h4, h5⟩ := Qiy h1
  rw [h5] at h2
  obtain ⟨k1, k2⟩ := Q9t h2
  exact ⟨h4, h5, k1, k2, Q9u h3⟩
theorem Qqr {l : List UInt8} {A : Adr} {n : Int} (h : FineP l) (h2 : ofB (Q1k l) A = true) (h3 : 0 ≤ n ∧ n ≤ 65535) : Q75 l A n = true := by
  unfold Q75
  have : (Qax l).tup.src.six = Q1k l := rfl
  rw [Qiz h, this, h2]
  unfold inW
  simp [Qax]; omega
theorem Qc0 {k : Int} {l : List UInt8} (h : (netT k l).2 = 0) : (netT k l).1.src.six = decide (k ≠ 2048) ∧ (netT k l).1.dst.six = decide (k ≠ 2048) ∧ (k ≠ 2048 → 40 ≤ (netT k l).1.head) := by
  by_cases hk : k = 2048
  · have e : netT k l = _ := if_pos hk
    rw [e] at h ⊢
    obtain ⟨h1, h2, h3, h4, h5, h6⟩ := Q55 h
    have e2 := Q30 h1 h2 h3 h4 h5 h6
    refine ⟨?_, ?_, fun hn => absurd hk hn⟩
    · show (Q0q l).1.src.six = _; rw [e2]; simp [Q9v, adr4, hk]
    · show (Q0q l).1.dst.six = _; rw [e2]; simp [Q9v, adr4, hk]
  · have e : netT k l = _ := if_neg hk
    rw [e] at h ⊢
    have hs : ∀ (j : Nat) (R : List UInt8) (h9 : Int) (f : Bool) (p : Int), (Q32 (Q2l l) j R h9 f p).2 = 0 → (Q32 (Q2l l) j R h9 f p).1.src.six = true ∧ (Q32 (Q2l l) j R h9 f p).1.dst.six = true := by
      intro j
      induction j with
      | zero =>
        intro R h9 f p
        by_cases c : (f || !extB p) = true
        · rw [Q22 c]; intro _; exact ⟨rfl, rfl⟩
        · rw [Q4b (by simpa using c)]; intro h0; exact absurd h0 (by decide)
      | succ j ih =>
        intro R h9 f p
        by_cases c : (f || !extB p) = true
        · rw [Q22 c]; intro _; exact ⟨rfl, rfl⟩
        · have c' : (f || !extB p) = false := by simpa using c
          by_cases e : (R.length : Int) < 8 ∨ (R.length : Int) < Q38 p (Q09 R 1)
          · rw [Q5c c' e]; intro h0; exact absurd h0 (by decide)
          · rw [Q3y c' e]; exact ih _ _ _ _
    have h' : (Q0j l).2 = 0 := h
    obtain ⟨h1, h2, h3⟩ := Q9w h'
    have e3 : Q0j l = Q32 (Q2l l) 8 ((l.take (40 + Q07 l 4).toNat).drop 40) 40 false (Q09 l 6) := by unfold Q0j; rw [if_neg h1, if_neg h2, if_neg h3]
    have hb : 40 ≤ (Q0j l).1.head := by
      rcases Qj0 l with k9 | k9
      · exact absurd h' k9.2
      · exact k9.1
    rw [e3] at h'
    have := hs _ _ _ _ _ h'
    refine ⟨?_, ?_, fun _ => hb⟩
    · show (Q0j l).1.src.six = _; rw [e3, this.1]; simp [hk]
    · show (Q0j l).1.dst.six = _; rw [e3, this.2]; simp [hk]
structure NatB (l : List UInt8) : Prop where
  a14 : 14 ≤ pkA l
  h20 : pkA l + (if Q1k l then 40 else 20) ≤ Q1u l
  seg : Q1u l + (pkP l).length = endP l
  pl : atN (pkN l).1.proto + 2 ≤ (pkP l).length
  at6 : 6 ≤ atN (pkN l).1.proto
  len : endP l ≤ l.length
  ports : 8 ≤ (pkP l).length
theorem Qba {l : List UInt8} (h : FineP l) : NatB l := by
  obtain ⟨b1, b2, b3, b4, b5⟩ := Qiu h
  have hp := Q4i h.po
  have ha := (Q6d h.po).1
  have h6 := Qc0 (k := (Q0c l).1.type) (l := l.drop (pkA l)) h.nt
  have hl : (pkP l).length = (pkN l).1.total.toNat - (pkN l).1.head.toNat := by
    unfold pkP subl
    rw [List.length_drop, List.length_take]
    omega
  refine ⟨b2, ?_, ?_, ha, by unfold atN; split <;> omega, by unfold endP; omega, hp.2.2.1⟩
  · unfold Q1u
    by_cases hs : Q1k l = true
    · rw [if_pos hs]
      have h7 : (netT (Q0c l).1.type (l.drop (pkA l))).1.src.six = true := hs
      rw [h6.1] at h7
      have := h6.2.2 (by simpa using h7)
      have : 40 ≤ (pkN l).1.head := this
      omega
    · rw [if_neg hs]; omega
  · unfold Q1u endP; omega
theorem Q3h {l : List UInt8} {A : Adr} (hA : A.b.length = 16) : (Q1f l A).length = sz12 (Q1k l) := by
  unfold Q1f sz12; rw [List.length_take, hA]; split <;> rfl
theorem Qnu (s : Bool) : sz12 s = 4 ∨ sz12 s = 16 := by unfold sz12; split <;> simp
section
variable {l : List UInt8} {A : Adr} {n : Int} {dst : Bool}
theorem Q1c (b : NatB l) : at12 l dst + sz12 (Q1k l) ≤ Q1u l ∧ ip12 l + 2 ≤ Q1u l ∧ (Q1k l = false → ip12 l + 2 ≤ at12 l dst) ∧ Q1u l ≤ pl12 l dst ∧ pl12 l dst + 2 ≤ Q1u l + 4 ∧ Q1u l + 6 ≤ ck12 l ∧ ck12 l + 2 ≤ endP l ∧ Q1u l + 8 ≤ endP l ∧ pkA l + 8 ≤ at12 l dst ∧ (Q1k l = false → pkA l + 12 ≤ at12 l dst) := by
  obtain ⟨h1, h2, h3, h4, h5, h6, h7⟩ := b
  unfold at12 ip12 pl12 ck12 sz12
  revert h2
  generalize Q1k l = s
  intro h2
  cases s <;> cases dst <;> simp only [if_true, if_false, Bool.false_eq_true, forall_const, reduceCtorEq, false_implies, true_and, and_true, Nat.add_zero, Bool.true_eq_false, imp_false, not_false_eq_true, not_true_eq_false] at h2 ⊢ <;> omega
theorem Q7s (b : NatB l) (hA : A.b.length = 16) : (natA l A n dst).length = endP l := by
  have hp := Q1c (dst := dst) b
  have hf := Q3h (l := l) hA
  have hl := b.len
  unfold natA
  rw [Q20 (by rw [Q20 (by simp; omega)]; simp [Q0d]; omega), Q20 (by simp; omega)]
  simp; omega
theorem Q7t (b : NatB l) (hA : A.b.length = 16) : (natB l A n dst).length = endP l := by
  have hp := Q1c (dst := dst) b
  unfold natB
  split
  · exact Q7s b hA
  · rw [Q20 (by rw [Q7s b hA, Q0d]; omega), Q7s b hA]
theorem Q7u (b : NatB l) (hA : A.b.length = 16) : (natX l A n dst).length = endP l := by
  have hp := Q1c (dst := dst) b
  unfold natX
  split
  · exact Q7t b hA
  · rw [Q20 (by rw [Q7t b hA, Q0d]; omega), Q7t b hA]
theorem Q9a (b : NatB l) (hA : A.b.length = 16) (i : Nat) : (natA l A n dst)[i]? = if pl12 l dst ≤ i ∧ i < pl12 l dst + 2 then (put2 n)[i - pl12 l dst]? else if at12 l dst ≤ i ∧ i < at12 l dst + sz12 (Q1k l) then (Q1f l A)[i - at12 l dst]? else (l.take (endP l))[i]? := by
  have hp := Q1c (dst := dst) b
  have hf := Q3h (l := l) hA
  have hl := b.len
  unfold natA
  rw [Q1m (by rw [Q20 (by simp; omega)]; simp [Q0d]; omega), Q1m (by simp; omega), Q0d, hf]
theorem Q7r (b : NatB l) (hA : A.b.length = 16) (i : Nat) : (natB l A n dst)[i]? = if Q1k l = false ∧ ip12 l ≤ i ∧ i < ip12 l + 2 then (put2 (Q7q l A dst))[i - ip12 l]? else (natA l A n dst)[i]? := by
  have hp := Q1c (dst := dst) b
  unfold natB
  cases h6 : Q1k l with
  | true => simp
  | false =>
    simp only [Bool.false_eq_true, if_false, true_and]
    rw [Q1m (by rw [Q7s b hA, Q0d]; omega), Q0d]
theorem Q7v (b : NatB l) (hA : A.b.length = 16) (i : Nat) : (natX l A n dst)[i]? = if ¬ udp0 l ∧ ck12 l ≤ i ∧ i < ck12 l + 2 then (put2 (pFix (pkN l).1.proto (Q64 l A n dst)))[i - ck12 l]? else (natB l A n dst)[i]? := by
  have hp := Q1c (dst := dst) b
  unfold natX
  by_cases h : udp0 l
  · rw [if_pos h, if_neg (fun h9 => h9.1 h)]
  · rw [if_neg h, Q1m (by rw [Q7t b hA, Q0d]; omega), Q0d]
    simp only [h, not_false_eq_true, true_and]
end
end Go.Proofs.Ytlmdboaghojgiaa
