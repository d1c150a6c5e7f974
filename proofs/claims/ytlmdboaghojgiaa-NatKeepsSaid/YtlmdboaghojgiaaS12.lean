/- Frames, rewritten, in plain Lean. -/
import Derived.Test.YtlmdboaghojgiaaE11
namespace Go.Proofs.Ytlmdboaghojgiaa
set_option linter.unusedVariables false
set_option linter.unusedSimpArgs false
open Go

/-! ## Bytes put in their place -/
def Q3n (l : List UInt8) (k : Nat) (a : List UInt8) : List UInt8 := l.take k ++ a ++ l.drop (k + a.length)
section
variable {l a : List UInt8} {k : Nat}
theorem Q3o (h : k + a.length ≤ l.length) : (Q3n l k a).length = l.length := by
  unfold Q3n; simp; omega
theorem Q6a (h : k + a.length ≤ l.length) (i : Nat) : (Q3n l k a)[i]? = if k ≤ i ∧ i < k + a.length then a[i - k]? else l[i]? := by
  unfold Q3n
  have hk : (l.take k).length = k := by simp; omega
  by_cases h1 : i < k
  · rw [if_neg (by omega), List.append_assoc, List.getElem?_append_left (by omega), List.getElem?_take_of_lt h1]
  · by_cases h2 : i < k + a.length
    · rw [if_pos (by omega), List.getElem?_append_left (by rw [List.length_append]; omega), List.getElem?_append_right (by omega), hk]
    · rw [if_neg (by omega), List.getElem?_append_right (by rw [List.length_append]; omega), List.getElem?_drop, List.length_append, hk]
      congr 1; omega
theorem Q6m (l : List UInt8) (i : Nat) : Q08 l i = ((l[i]?.getD 0).toNat : Int) := by unfold Q08; rw [List.getD_eq_getElem?_getD]
theorem Q94 (h : k + a.length ≤ l.length) : cpy l k (l.length - k) a = Q3n l k a := by
  unfold cpy Q3n
  rw [List.take_of_length_le (l := a) (by omega), show min (l.length - k) a.length = a.length from by omega]
theorem Q84 {c : UInt8} (h : k + a.length < l.length) : (Q3n l k a).set (k + a.length) c = Q3n l k (a ++ [c]) := by
  apply List.ext_getElem?
  intro i
  rw [List.getElem?_set, Q6a (by omega), Q6a (by simp; omega), Q3o (by omega)]
  simp only [List.length_append, List.length_cons, List.length_nil]
  by_cases h1 : k + a.length = i
  · rw [if_pos h1, if_pos (by omega), if_pos (by omega), List.getElem?_append_right (by omega), show i - k - a.length = 0 from by omega]; rfl
  · rw [if_neg h1]
    by_cases h2 : k ≤ i ∧ i < k + a.length
    · rw [if_pos h2, if_pos (by omega), List.getElem?_append_left (by omega)]
    · rw [if_neg h2, if_neg (by omega)]
theorem Qcm (l : List UInt8) (k : Nat) : Q3n l k [] = l := by unfold Q3n; simp
theorem Qic {c d : UInt8} (h : k + 2 ≤ l.length) : (l.set k c).set (k + 1) d = Q3n l k [c, d] := by
  have h1 := Q84 (l := l) (k := k) (a := []) (c := c) (by simp; omega)
  have h2 := Q84 (l := l) (k := k) (a := [c]) (c := d) (by simp; omega)
  rw [Qcm] at h1
  have h1' : l.set k c = Q3n l k [c] := h1
  rw [h1']
  exact h2
end
/-! ## Rewriting -/
def ofB (six : Bool) (A : Adr) : Bool := A.six == six && (six || Q3p A)
theorem Qmd {six : Bool} {A : Adr} (h : ofB six A = true) : A.six = six ∧ (six = false → Q3p A = true) := by
  unfold ofB at h
  simp only [Bool.and_eq_true, beq_iff_eq, Bool.or_eq_true] at h
  refine ⟨h.1, fun h0 => ?_⟩
  rcases h.2 with h1 | h1
  · rw [h0] at h1; cases h1
  · exact h1
theorem Qho {six : Bool} {A : Adr} : (A.six == six && (six || !(A.b.drop 4).any fun c => c != 0)) = ofB six A := by
  unfold ofB Q3p
  cases A.six <;> cases six <;> simp
def Q1v (l : List UInt8) : Bool := (pkN l).1.src.six
def sz12 (s : Bool) : Nat := if s then 16 else 4
def at12 (l : List UInt8) (dst : Bool) : Nat := pkA l + (if Q1v l then 8 else 12) + (if dst then sz12 (Q1v l) else 0)
def Q32 (l : List UInt8) : Nat := pkA l + (pkN l).1.head.toNat
def pl12 (l : List UInt8) (dst : Bool) : Nat := Q32 l + (if dst then 2 else 0)
def ip12 (l : List UInt8) : Nat := pkA l + 10
def ck12 (l : List UInt8) : Nat := Q32 l + atN (pkN l).1.proto
def Q7z (l : List UInt8) (dst : Bool) : List UInt8 := subl l (at12 l dst) (at12 l dst + sz12 (Q1v l))
def Q2n (l : List UInt8) (A : Adr) : List UInt8 := A.b.take (sz12 (Q1v l))
def Qg5 (l : List UInt8) (A : Adr) (dst : Bool) : Int := Q3t (Q0a l (ip12 l)) (Q7z l dst) (Q2n l A)
def Qc7 (l : List UInt8) (A : Adr) (n : Int) (dst : Bool) : Int := Q3t (Q3t (Q0a l (ck12 l)) (Q7z l dst) (Q2n l A)) (subl l (pl12 l dst) (pl12 l dst + 2)) (put2 n)
def natA (l : List UInt8) (A : Adr) (n : Int) (dst : Bool) : List UInt8 := Q3n (Q3n (l.take (endP l)) (at12 l dst) (Q2n l A)) (pl12 l dst) (put2 n)
def natB (l : List UInt8) (A : Adr) (n : Int) (dst : Bool) : List UInt8 := if Q1v l then natA l A n dst else Q3n (natA l A n dst) (ip12 l) (put2 (Qg5 l A dst))
def udp0 (l : List UInt8) : Prop := (pkN l).1.proto = 17 ∧ Q0a l (ck12 l) = 0
instance (l : List UInt8) : Decidable (udp0 l) := by unfold udp0; infer_instance
def natX (l : List UInt8) (A : Adr) (n : Int) (dst : Bool) : List UInt8 := if udp0 l then natB l A n dst else Q3n (natB l A n dst) (ck12 l) (put2 (pFix (pkN l).1.proto (Qc7 l A n dst)))
def Q9x (l : List UInt8) (A : Adr) (n : Int) : Bool := (Q0y l).kind == 0 && ofB (Q0y l).tup.src.six A && inW n
def natR (l : List UInt8) (A : Adr) (n : Int) (dst : Bool) : List UInt8 × Int := if Q9x l A n then (natX l A n dst, 0) else ([], 1)
def Qcl (l : List UInt8) (A : Adr) (n : Int) (dst : Bool) : List UInt8 × Bool := if Q9x l A n then (natX l A n dst, true) else ([], false)
structure NatP (l : List UInt8) (A : Adr) (n : Int) : Prop where
  fine : FineP l
  eq : Q0y l = Qgc l
  six : A.six = Q1v l
  short : Q1v l = false → Q3p A = true
  port : 0 ≤ n ∧ n ≤ 65535
theorem Ql7 {l : List UInt8} {A : Adr} {n : Int} (h : Q9x l A n = true) : NatP l A n := by
  unfold Q9x at h
  simp only [Bool.and_eq_true, beq_iff_eq] at h
  obtain ⟨⟨h1, h2⟩, h3⟩ := h
  obtain ⟨h4, h5⟩ := Qme h1
  rw [h5] at h2
  obtain ⟨k1, k2⟩ := Qmd h2
  exact ⟨h4, h5, k1, k2, Qcn h3⟩
theorem Qmf {k : Int} {l : List UInt8} (h : (netT k l).2 = 0) : (netT k l).1.src.six = decide (k ≠ 2048) ∧ (netT k l).1.dst.six = decide (k ≠ 2048) ∧ (k ≠ 2048 → 40 ≤ (netT k l).1.head) := by
  by_cases hk : k = 2048
  · have e : netT k l = _ := if_pos hk
    rw [e] at h ⊢
    obtain ⟨h1, h2, h3, h4, h5, h6⟩ := Q9y h
    have e2 := Q5n h1 h2 h3 h4 h5 h6
    refine ⟨?_, ?_, fun hn => absurd hk hn⟩
    · show (Q0n l).1.src.six = _; rw [e2]; simp [Qid, adr4, hk]
    · show (Q0n l).1.dst.six = _; rw [e2]; simp [Qid, adr4, hk]
  · have e : netT k l = _ := if_neg hk
    rw [e] at h ⊢
    have hs : ∀ (j : Nat) (R : List UInt8) (h9 : Int) (f : Bool) (p : Int), (Q47 (Q5o l) j R h9 f p).2 = 0 → (Q47 (Q5o l) j R h9 f p).1.src.six = true ∧ (Q47 (Q5o l) j R h9 f p).1.dst.six = true := by
      intro j
      induction j with
      | zero =>
        intro R h9 f p
        by_cases c : (f || !extB p) = true
        · rw [Q3j c]; intro _; exact ⟨rfl, rfl⟩
        · rw [Q5c (by simpa using c)]; intro h0; exact absurd h0 (by decide)
      | succ j ih =>
        intro R h9 f p
        by_cases c : (f || !extB p) = true
        · rw [Q3j c]; intro _; exact ⟨rfl, rfl⟩
        · have c' : (f || !extB p) = false := by simpa using c
          by_cases e : (R.length : Int) < 8 ∨ (R.length : Int) < Q2c p (Q08 R 1)
          · rw [Q5d c' e]; intro h0; exact absurd h0 (by decide)
          · rw [Q5e c' e]; exact ih _ _ _ _
    have h' : (Q12 l).2 = 0 := h
    obtain ⟨h1, h2, h3⟩ := Qie h'
    have e3 : Q12 l = Q47 (Q5o l) 8 ((l.take (40 + Q0a l 4).toNat).drop 40) 40 false (Q08 l 6) := by unfold Q12; rw [if_neg h1, if_neg h2, if_neg h3]
    have hb : 40 ≤ (Q12 l).1.head := by
      rcases Qif l with k9 | k9
      · exact absurd h' k9.2
      · exact k9.1
    rw [e3] at h'
    have := hs _ _ _ _ _ h'
    refine ⟨?_, ?_, fun _ => hb⟩
    · show (Q12 l).1.src.six = _; rw [e3, this.1]; simp [hk]
    · show (Q12 l).1.dst.six = _; rw [e3, this.2]; simp [hk]
structure NatB (l : List UInt8) : Prop where
  a14 : 14 ≤ pkA l
  h20 : pkA l + (if Q1v l then 40 else 20) ≤ Q32 l
  seg : Q32 l + (pkP l).length = endP l
  pl : atN (pkN l).1.proto + 2 ≤ (pkP l).length
  at6 : 6 ≤ atN (pkN l).1.proto
  len : endP l ≤ l.length
  ports : 8 ≤ (pkP l).length
theorem Ql8 {l : List UInt8} (h : FineP l) : NatB l := by
  obtain ⟨b1, b2, b3, b4, b5⟩ := Qib h
  have hp := Q4s h.po
  have ha := (Q93 h.po).1
  have h6 := Qmf (k := (Q0f l).1.type) (l := l.drop (pkA l)) h.nt
  have hl : (pkP l).length = (pkN l).1.total.toNat - (pkN l).1.head.toNat := by
    unfold pkP subl
    rw [List.length_drop, List.length_take]
    omega
  refine ⟨b2, ?_, ?_, ha, by unfold atN; split <;> omega, by unfold endP; omega, hp.2.2.1⟩
  · unfold Q32
    by_cases hs : Q1v l = true
    · rw [if_pos hs]
      have h7 : (netT (Q0f l).1.type (l.drop (pkA l))).1.src.six = true := hs
      rw [h6.1] at h7
      have := h6.2.2 (by simpa using h7)
      have : 40 ≤ (pkN l).1.head := this
      omega
    · rw [if_neg hs]; omega
  · unfold Q32 endP; omega
theorem Q5m {l : List UInt8} {A : Adr} (hA : A.b.length = 16) : (Q2n l A).length = sz12 (Q1v l) := by
  unfold Q2n sz12; rw [List.length_take, hA]; split <;> rfl
theorem Qhj (s : Bool) : sz12 s = 4 ∨ sz12 s = 16 := by unfold sz12; split <;> simp
section
variable {l : List UInt8} {A : Adr} {n : Int} {dst : Bool}
theorem Q3g (b : NatB l) : at12 l dst + sz12 (Q1v l) ≤ Q32 l ∧ ip12 l + 2 ≤ Q32 l ∧ (Q1v l = false → ip12 l + 2 ≤ at12 l dst) ∧ Q32 l ≤ pl12 l dst ∧ pl12 l dst + 2 ≤ Q32 l + 4 ∧ Q32 l + 6 ≤ ck12 l ∧ ck12 l + 2 ≤ endP l ∧ Q32 l + 8 ≤ endP l ∧ pkA l + 8 ≤ at12 l dst ∧ (Q1v l = false → pkA l + 12 ≤ at12 l dst) := by
  obtain ⟨h1, h2, h3, h4, h5, h6, h7⟩ := b
  unfold at12 ip12 pl12 ck12 sz12
  revert h2
  generalize Q1v l = s
  intro h2
  cases s <;> cases dst <;> simp only [if_true, if_false, Bool.false_eq_true, forall_const, reduceCtorEq, false_implies, true_and, and_true, Nat.add_zero, Bool.true_eq_false, imp_false, not_false_eq_true, not_true_eq_false] at h2 ⊢ <;> omega
theorem Q6l (b : NatB l) (hA : A.b.length = 16) : (natA l A n dst).length = endP l := by
  have hp := Q3g (dst := dst) b
  have hf := Q5m (l := l) hA
  have hl := b.len
  unfold natA
  rw [Q3o (by rw [Q3o (by simp; omega)]; simp [Q13]; omega), Q3o (by simp; omega)]
  simp; omega
theorem Qf7 (b : NatB l) (hA : A.b.length = 16) : (natB l A n dst).length = endP l := by
  have hp := Q3g (dst := dst) b
  unfold natB
  split
  · exact Q6l b hA
  · rw [Q3o (by rw [Q6l b hA, Q13]; omega), Q6l b hA]
theorem Qb3 (b : NatB l) (hA : A.b.length = 16) (i : Nat) : (natA l A n dst)[i]? = if pl12 l dst ≤ i ∧ i < pl12 l dst + 2 then (put2 n)[i - pl12 l dst]? else if at12 l dst ≤ i ∧ i < at12 l dst + sz12 (Q1v l) then (Q2n l A)[i - at12 l dst]? else (l.take (endP l))[i]? := by
  have hp := Q3g (dst := dst) b
  have hf := Q5m (l := l) hA
  have hl := b.len
  unfold natA
  rw [Q6a (by rw [Q3o (by simp; omega)]; simp [Q13]; omega), Q6a (by simp; omega), Q13, hf]
theorem Qfh (b : NatB l) (hA : A.b.length = 16) (i : Nat) : (natB l A n dst)[i]? = if Q1v l = false ∧ ip12 l ≤ i ∧ i < ip12 l + 2 then (put2 (Qg5 l A dst))[i - ip12 l]? else (natA l A n dst)[i]? := by
  have hp := Q3g (dst := dst) b
  unfold natB
  cases h6 : Q1v l with
  | true => simp
  | false =>
    simp only [Bool.false_eq_true, if_false, true_and]
    rw [Q6a (by rw [Q6l b hA, Q13]; omega), Q13]
theorem Qig (b : NatB l) (hA : A.b.length = 16) {k : Nat} (hk : k + 2 ≤ endP l) (h1 : k + 2 ≤ pl12 l dst ∨ pl12 l dst + 2 ≤ k) (h2 : k + 2 ≤ at12 l dst ∨ at12 l dst + sz12 (Q1v l) ≤ k) : Q0a (natA l A n dst) k = Q0a l k := by
  have hg : ∀ i, k ≤ i → i < k + 2 → Q08 (natA l A n dst) i = Q08 l i := fun i hi1 hi2 => by
    rw [Q6m, Q6m, Qb3 b hA, if_neg (by omega), if_neg (by omega), List.getElem?_take_of_lt (by omega)]
  unfold Q0a
  rw [hg k (by omega) (by omega), hg (k + 1) (by omega) (by omega)]
theorem Qih (b : NatB l) (hA : A.b.length = 16) : Q0a (natB l A n dst) (ck12 l) = Q0a l (ck12 l) := by
  have hp := Q3g (dst := dst) b
  have hg : ∀ i, ck12 l ≤ i → i < ck12 l + 2 → Q08 (natB l A n dst) i = Q08 l i := fun i hi1 hi2 => by
    rw [Q6m, Q6m, Qfh b hA, if_neg (by omega), Qb3 b hA, if_neg (by omega), if_neg (by omega), List.getElem?_take_of_lt (by omega)]
  unfold Q0a
  rw [hg _ (by omega) (by omega), hg _ (by omega) (by omega)]
end
end Go.Proofs.Ytlmdboaghojgiaa
