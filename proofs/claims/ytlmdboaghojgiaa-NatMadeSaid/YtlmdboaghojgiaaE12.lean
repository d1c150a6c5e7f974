import Derived.Test.YtlmdboaghojgiaaS12
/- What is rewritten, read: in plain Lean. -/
namespace Go.Proofs.Ytlmdboaghojgiaa
set_option linter.unusedVariables false
set_option linter.unusedSimpArgs false
open Go

/-! ## Checksums, as they change -/
theorem Qos (c m n : Int) : (chg c m n - (c + m - n)) % 65535 = 0 := by unfold chg ring; omega
theorem Qrk {c m n : Int} (hc : 0 ≤ c ∧ c ≤ 65534) (hm : 0 ≤ m ∧ m ≤ 65535) (hn : 0 ≤ n ∧ n ≤ 65535) : chg c m n ≤ 65534 := by unfold chg ring; omega
theorem Qgk {c : Int} {f t : List UInt8} : ∀ k, (chgd c f t k - (c + Q5e f k - Q5e t k)) % 65535 = 0
  | 0 => by simp [chgd, Q5e]
  | k + 1 => by
    have h1 := Qgk (c := c) (f := f) (t := t) k
    have h2 := Qos (chgd c f t k) (Q07 f (2 * k)) (Q07 t (2 * k))
    show (chg (chgd c f t k) (Q07 f (2 * k)) (Q07 t (2 * k)) - (c + (Q5e f k + Q07 f (2 * k)) - (Q5e t k + Q07 t (2 * k)))) % 65535 = 0
    omega
theorem Qkk {c : Int} (hc : 0 ≤ c ∧ c ≤ 65534) (f t : List UInt8) : ∀ k, chgd c f t k ≤ 65534
  | 0 => hc.2
  | k + 1 => Qrk ⟨(Q6i (by omega) f t k).1, Qkk hc f t k⟩ (Q0w _ _) (Q0w _ _)
theorem Q5w {f t : List UInt8} (c : Int) (h : t.length = f.length) : (Q3g c f t - (c + wsum f - wsum t)) % 65535 = 0 := by
  have := Qgk (c := c) (f := f) (t := t) ((max f.length t.length + 1) / 2)
  rw [show (max f.length t.length + 1) / 2 = (f.length + 1) / 2 from by omega] at this
  have h2 := Q7y t
  rw [h] at h2
  rw [Q7y f, h2] at this
  unfold Q3g
  rw [show (max f.length t.length + 1) / 2 = (f.length + 1) / 2 from by omega]
  exact this
theorem Q6w {c : Int} (hc : 0 ≤ c ∧ c ≤ 65535) (f t : List UInt8) : 0 ≤ Q3g c f t ∧ Q3g c f t ≤ 65535 := Q6i hc f t _
theorem Q8o {c : Int} (hc : 0 ≤ c ∧ c ≤ 65534) (f t : List UInt8) : Q3g c f t ≤ 65534 := Qkk hc f t _
theorem Qot {l : List UInt8} : ck l = 0 ↔ 0 < wsum l ∧ wsum l % 65535 = 0 := by
  have := Q2h l
  unfold ck norm
  split <;> constructor <;> intro h <;> omega
theorem Qap {n : Int} (h : 0 ≤ n ∧ n ≤ 65535) : wsum (put2 n) = n := by
  show 256 * ((b8 (n / 256)).toNat : Int) + ((b8 n).toNat : Int) + 0 = n
  rw [Q1n, Q1n]; omega
theorem Q5g {l a : List UInt8} {k : Nat} (h : k + a.length ≤ l.length) (hk : k % 2 = 0) (ha : a.length % 2 = 0) : wsum (Q27 l k a) = wsum l - wsum (subl l k (k + a.length)) + wsum a := by
  have e1 : l = l.take k ++ (subl l k (k + a.length) ++ l.drop (k + a.length)) := by
    unfold subl
    rw [← List.append_assoc]
    have : l.take k = (l.take (k + a.length)).take k := by rw [List.take_take]; congr 1; omega
    rw [this, List.take_append_drop, List.take_append_drop]
  have hs : (subl l k (k + a.length)).length = a.length := by unfold subl; simp; omega
  have ht : (l.take k).length = k := by simp; omega
  have w1 : wsum l = wsum (l.take k) + (wsum (subl l k (k + a.length)) + wsum (l.drop (k + a.length))) := by
    conv => lhs; rw [e1]
    rw [Q2m _ (by omega), Q2m _ (by omega)]
  have w2 : wsum (Q27 l k a) = wsum (l.take k) + (wsum a + wsum (l.drop (k + a.length))) := by
    unfold Q27
    rw [List.append_assoc, Q2m _ (by omega), Q2m _ ha]
  omega
theorem Qbh {l : List UInt8} (h : 0 < Q09 l 0) : 0 < wsum l := by
  refine Qcb ?_
  cases l with
  | nil => exact absurd h (by decide)
  | cons x r =>
    have : (0 : Int) < (x.toNat : Int) := h
    simp only [List.any_cons, Bool.or_eq_true, bne_iff_ne, ne_eq]
    left
    intro h0
    rw [h0] at this
    exact absurd this (by decide)
theorem Q8p {l : List UInt8} {k : Nat} (h : k + 2 ≤ l.length) : wsum (subl l k (k + 2)) = Q07 l k := by
  have e : subl l k (k + 2) = [l[k]'(by omega), l[k + 1]'(by omega)] := by
    apply List.ext_getElem
    · simp [subl]; omega
    · intro j h1 h2
      simp [subl] at h1
      match j, h1 with
      | 0, _ => simp [subl]
      | 1, _ => simp [subl]
      | j + 2, h => exact absurd h (by omega)
  rw [e]
  unfold Q07
  rw [Q10 (by omega), Q10 (by omega)]
  simp [wsum]
theorem Q8q {x y : List UInt8} {i j n : Nat} (h : ∀ q, q < n → x[i + q]? = y[j + q]?) : (x.drop i).take n = (y.drop j).take n := by
  apply List.ext_getElem?
  intro q
  by_cases hq : q < n
  · rw [List.getElem?_take_of_lt hq, List.getElem?_take_of_lt hq, List.getElem?_drop, List.getElem?_drop]; exact h q hq
  · rw [List.getElem?_eq_none (by simp; omega), List.getElem?_eq_none (by simp; omega)]
theorem Qcm {l : List UInt8} {i j q : Nat} (h : i + q < j) : (subl l i j)[q]? = l[i + q]? := by
  unfold subl
  rw [List.getElem?_drop, List.getElem?_take_of_lt h]
theorem Qou {x y : List UInt8} {i j i2 j2 : Nat} (hn : j - i = j2 - i2) (h : ∀ q, q < j - i → x[i + q]? = y[i2 + q]?) : subl x i j = subl y i2 j2 := by
  unfold subl
  rw [List.drop_take, List.drop_take, ← hn]
  exact Q8q h

section
variable {l : List UInt8} {A : Adr} {n : Int} {dst : Bool}
theorem Qbi (b : NatB l) (hA : A.b.length = 16) {i : Nat} (hi : i < endP l) (h1 : i < at12 l dst ∨ at12 l dst + sz12 (Q1k l) ≤ i) (h2 : i < pl12 l dst ∨ pl12 l dst + 2 ≤ i) (h3 : Q1k l = true ∨ i < ip12 l ∨ ip12 l + 2 ≤ i) (h4 : udp0 l ∨ i < ck12 l ∨ ck12 l + 2 ≤ i) : (natX l A n dst)[i]? = l[i]? := by
  have n4 : ¬ (¬ udp0 l ∧ ck12 l ≤ i ∧ i < ck12 l + 2) := by
    rintro ⟨k1, k2, k3⟩
    rcases h4 with h | h
    · exact k1 h
    · omega
  have n3 : ¬ (Q1k l = false ∧ ip12 l ≤ i ∧ i < ip12 l + 2) := by
    rintro ⟨k1, k2, k3⟩
    rcases h3 with h | h
    · rw [k1] at h; cases h
    · omega
  rw [Q7v b hA, if_neg n4, Q7r b hA, if_neg n3, Q9a b hA, if_neg (by omega), if_neg (by omega), List.getElem?_take_of_lt hi]
theorem Qe3 (b : NatB l) (hA : A.b.length = 16) {q : Nat} (hq : q < sz12 (Q1k l)) : (natX l A n dst)[at12 l dst + q]? = A.b[q]? := by
  have hp := Q1c (dst := dst) b
  rw [Q7v b hA, if_neg (by omega), Q7r b hA, if_neg (by rintro ⟨k1, k2, k3⟩; have := hp.2.2.1 k1; omega), Q9a b hA, if_neg (by omega), if_pos (by omega)]
  unfold Q1f
  rw [List.getElem?_take_of_lt (by omega)]
  congr 1; omega
theorem Qrl (b : NatB l) (hA : A.b.length = 16) {q : Nat} (hq : q < 2) : (natX l A n dst)[pl12 l dst + q]? = (put2 n)[q]? := by
  have hp := Q1c (dst := dst) b
  rw [Q7v b hA, if_neg (by omega), Q7r b hA, if_neg (by omega), Q9a b hA, if_pos (by omega)]
  congr 1; omega
theorem X_ip (b : NatB l) (hA : A.b.length = 16) (h6 : Q1k l = false) {q : Nat} (hq : q < 2) : (natX l A n dst)[ip12 l + q]? = (put2 (Q7q l A dst))[q]? := by
  have hp := Q1c (dst := dst) b
  rw [Q7v b hA, if_neg (by omega), Q7r b hA, if_pos ⟨h6, by omega, by omega⟩]
  congr 1; omega
theorem X_ck (b : NatB l) (hA : A.b.length = 16) (hu : ¬ udp0 l) {q : Nat} (hq : q < 2) : (natX l A n dst)[ck12 l + q]? = (put2 (pFix (pkN l).1.proto (Q64 l A n dst)))[q]? := by
  rw [Q7v b hA, if_pos ⟨hu, by omega, by omega⟩]
  congr 1; omega
theorem Q40 (x : List UInt8) (k i : Nat) : Q09 (x.drop k) i = Q09 x (k + i) := by rw [Q2c, Q2c, List.getElem?_drop]
/-! ## The link's header -/
theorem Qgl (b : NatB l) (hA : A.b.length = 16) : natX l A n dst = l.take (pkA l) ++ (natX l A n dst).drop (pkA l) := by
  have hp := Q1c (dst := dst) b
  have e : (natX l A n dst).take (pkA l) = l.take (pkA l) := by
    have := Q8q (x := natX l A n dst) (y := l) (i := 0) (j := 0) (n := pkA l) fun q hq => by
      rw [Nat.zero_add]
      have h2 := b.h20
      exact Qbi b hA (by unfold Q1u at hp; omega) (by omega) (by omega) (by unfold ip12; omega) (by omega)
    simpa using this
  conv => lhs; rw [← List.take_append_drop (pkA l) (natX l A n dst)]
  rw [e]
theorem Qgm (b : NatB l) (h : FineP l) (hA : A.b.length = 16) : Q0c (natX l A n dst) = Q0c l ∧ pkA (natX l A n dst) = pkA l := by
  have e : Q0c (natX l A n dst) = Q0c l := by
    conv => lhs; rw [Qgl b hA]
    exact Qla h.lk (Nat.le_refl _)
  exact ⟨e, by unfold pkA; rw [e]⟩
/-! ## The IP header -/
theorem Qgn (h6 : Q1k l = true) : ∃ o, at12 l dst = pkA l + o ∧ sz12 (Q1k l) = 16 ∧ (o = 8 ∧ dst = false ∨ o = 24 ∧ dst = true) := by
  unfold at12 sz12
  cases dst <;> simp [h6] <;> omega
theorem Qe4 (h6 : Q1k l = false) : ∃ o, at12 l dst = pkA l + o ∧ sz12 (Q1k l) = 4 ∧ (o = 12 ∧ dst = false ∨ o = 16 ∧ dst = true) := by
  unfold at12 sz12
  cases dst <;> simp [h6] <;> omega
def Qkl (N : NetT) (A : Adr) (dst : Bool) : NetT := { N with src := if dst then N.src else A, dst := if dst then A else N.dst }
theorem Qna (l : List UInt8) (A : Adr) (dst : Bool) : 0 ≤ Q7q l A dst ∧ Q7q l A dst ≤ 65535 := Q6w (Q0w _ _) _ _
theorem Qm7 (b : NatB l) (h : FineP l) (hA : A.b.length = 16) (h6 : Q1k l = false) (hsh : Q2j A = true) : netT (Q0c l).1.type ((natX l A n dst).drop (pkA l)) = (Qkl (pkN l).1 A dst, 0) := by
  have hp := Q1c (dst := dst) b
  have hs := Qc0 (k := (Q0c l).1.type) (l := l.drop (pkA l)) h.nt
  have h4 : (Q0c l).1.type = 2048 := by
    have h7 : (netT (Q0c l).1.type (l.drop (pkA l))).1.src.six = false := h6
    rw [hs.1] at h7
    simpa using h7
  have hN : pkN l = netT 2048 (l.drop (pkA l)) := by unfold pkN; rw [h4]
  have hq : (Q0q (l.drop (pkA l))).2 = 0 := by have := h.nt; rw [hN] at this; exact this
  obtain ⟨c1, c2, c3, c4, c5, c6⟩ := Q55 hq
  have e := Q30 c1 c2 c3 c4 c5 c6
  have eN : (pkN l).1 = ⟨Q09 (l.drop (pkA l)) 0 % 16 * 4, Q07 (l.drop (pkA l)) 2, Q09 (l.drop (pkA l)) 9, decide (Q07 (l.drop (pkA l)) 6 % 16384 ≠ 0), adr4 (l.drop (pkA l)) 12, adr4 (l.drop (pkA l)) 16⟩ := by
    rw [hN]; unfold netT; rw [if_pos rfl, e]; rfl
  have hsg : Q1u l = pkA l + (Q09 (l.drop (pkA l)) 0 % 16 * 4).toNat := by unfold Q1u; rw [eN]
  have hen : endP l = pkA l + (Q07 (l.drop (pkA l)) 2).toNat := by unfold endP; rw [eN]
  obtain ⟨o, ho, hz, hd⟩ := Qe4 (dst := dst) h6
  have hw := Q0w (l.drop (pkA l)) 2
  have hb0 := Q1q (l.drop (pkA l)) 0
  have hXl := Q7u (n := n) (dst := dst) b hA
  have hlen9 := b.len
  have hyl : ((natX l A n dst).drop (pkA l)).length = (Q07 (l.drop (pkA l)) 2).toNat := by rw [List.length_drop]; omega
  have g : ∀ i, pkA l + i < Q1u l → (i < 10 ∨ 12 ≤ i) → (i < o ∨ o + 4 ≤ i) → ((natX l A n dst).drop (pkA l))[i]? = (l.drop (pkA l))[i]? := fun i h1 h2 h3 => by
    rw [List.getElem?_drop, List.getElem?_drop]
    exact Qbi b hA (by omega) (by omega) (by omega) (by unfold ip12; omega) (by omega)
  have gb : ∀ i, pkA l + i < Q1u l → (i < 10 ∨ 12 ≤ i) → (i < o ∨ o + 4 ≤ i) → Q09 ((natX l A n dst).drop (pkA l)) i = Q09 (l.drop (pkA l)) i := fun i h1 h2 h3 => by
    rw [Q2c, Q2c, g i h1 h2 h3]
  have gw : ∀ i, i + 1 < 10 → Q07 ((natX l A n dst).drop (pkA l)) i = Q07 (l.drop (pkA l)) i := fun i h1 => by
    unfold Q07; rw [gb i (by omega) (by omega) (by omega), gb (i + 1) (by omega) (by omega) (by omega)]
  have hf := Q3h (l := l) hA
  have hHl : ((l.drop (pkA l)).take (Q09 (l.drop (pkA l)) 0 % 16 * 4).toNat).length = (Q09 (l.drop (pkA l)) 0 % 16 * 4).toNat := by rw [List.length_take]; omega
  have hyz : ((natX l A n dst).drop (pkA l)).take (Q09 (l.drop (pkA l)) 0 % 16 * 4).toNat = Q27 (Q27 ((l.drop (pkA l)).take (Q09 (l.drop (pkA l)) 0 % 16 * 4).toNat) o (Q1f l A)) 10 (put2 (Q7q l A dst)) := by
    have l1 : o + (Q1f l A).length ≤ ((l.drop (pkA l)).take (Q09 (l.drop (pkA l)) 0 % 16 * 4).toNat).length := by omega
    apply List.ext_getElem?
    intro i
    rw [Q1m (by rw [Q20 l1, Q0d]; omega), Q1m l1, Q0d, hf, hz]
    by_cases hi : i < (Q09 (l.drop (pkA l)) 0 % 16 * 4).toNat
    · rw [List.getElem?_take_of_lt hi]
      by_cases i1 : 10 ≤ i ∧ i < 10 + 2
      · rw [if_pos i1, List.getElem?_drop]
        have := X_ip (n := n) (dst := dst) b hA h6 (q := i - 10) (by omega)
        unfold ip12 at this
        rw [← this]
        congr 1; omega
      · rw [if_neg i1]
        by_cases i2 : o ≤ i ∧ i < o + 4
        · rw [if_pos i2, List.getElem?_drop]
          have := Qe3 (n := n) (dst := dst) b hA (q := i - o) (by omega)
          unfold Q1f
          rw [List.getElem?_take_of_lt (by omega), ← this]
          congr 1; omega
        · rw [if_neg i2, List.getElem?_take_of_lt hi]
          exact g i (by omega) (by omega) (by omega)
    · rw [if_neg (by omega), if_neg (by omega), List.getElem?_eq_none (by simp; omega), List.getElem?_eq_none (by simp; omega)]
  have hck : ck (((natX l A n dst).drop (pkA l)).take (Q09 (l.drop (pkA l)) 0 % 16 * 4).toNat) = 0 := by
    have l1 : o + (Q1f l A).length ≤ ((l.drop (pkA l)).take (Q09 (l.drop (pkA l)) 0 % 16 * 4).toNat).length := by omega
    have k6 : ck ((l.drop (pkA l)).take (Q09 (l.drop (pkA l)) 0 % 16 * 4).toNat) = 0 := Decidable.not_not.1 c6
    rw [Qot] at k6 ⊢
    refine ⟨?_, ?_⟩
    · refine Qbh ?_
      rw [Q4o (by omega), gb 0 (by omega) (by omega) (by omega)]
      omega
    · rw [hyz, Q5g (by rw [Q20 l1, Q0d]; omega) (by decide) (by rw [Q0d]), Q5g l1 (by omega) (by omega), Qap (Qna _ _ _), Q0d, Q8p (by rw [Q20 l1]; omega)]
      have s1 : subl ((l.drop (pkA l)).take (Q09 (l.drop (pkA l)) 0 % 16 * 4).toNat) o (o + (Q1f l A).length) = Q54 l dst := by
        unfold Q54
        refine Qou (by omega) fun q hq => ?_
        rw [List.getElem?_take_of_lt (by omega), List.getElem?_drop]
        congr 1; omega
      have s2 : Q07 (Q27 ((l.drop (pkA l)).take (Q09 (l.drop (pkA l)) 0 % 16 * 4).toNat) o (Q1f l A)) 10 = Q07 l (ip12 l) := by
        unfold Q07 ip12
        rw [Qdi l1 (by omega), Qdi l1 (by omega), Q4o (by omega), Q4o (by omega), Q40, Q40]
      rw [s1, s2]
      have hm := Q5w (f := Q54 l dst) (t := Q1f l A) (Q07 l (ip12 l)) (by rw [hf]; unfold Q54 subl; simp; omega)
      have k7 := k6.2
      unfold Q7q
      omega
  have e2 : Q0q ((natX l A n dst).drop (pkA l)) = (Q9v ((natX l A n dst).drop (pkA l)), 0) := by
    refine Q30 (by omega) ?_ ?_ ?_ ?_ ?_
    · rw [gb 0 (by omega) (by omega) (by omega)]; exact c2
    · rw [gb 0 (by omega) (by omega) (by omega)]; omega
    · rw [gb 0 (by omega) (by omega) (by omega), gw 2 (by omega)]; exact c4
    · rw [gw 2 (by omega)]; omega
    · rw [gb 0 (by omega) (by omega) (by omega)]; exact not_not_intro hck
  rw [h4]
  unfold netT
  rw [if_pos rfl, e2, eN]
  unfold Qkl Q9v
  rw [gb 0 (by omega) (by omega) (by omega), gw 2 (by omega), gw 6 (by omega), gb 9 (by omega) (by omega) (by omega)]
  have hAs := Q8j hA hsh
  have a1 : ∀ j, (j = 12 ∨ j = 16) → j ≠ o → adr4 ((natX l A n dst).drop (pkA l)) j = adr4 (l.drop (pkA l)) j := fun j hj hjo => by
    unfold adr4
    rw [Q8q (y := l.drop (pkA l)) (j := j) fun q hq => g (j + q) (by omega) (by omega) (by omega)]
  have a2 : adr4 ((natX l A n dst).drop (pkA l)) o = A := by
    conv => rhs; rw [hAs]
    unfold adr4
    congr 2
    have := Q8q (x := (natX l A n dst).drop (pkA l)) (y := A.b) (i := o) (j := 0) (n := 4) fun q hq => by
      rw [List.getElem?_drop, Nat.zero_add, ← Qe3 (n := n) (dst := dst) b hA (q := q) (by omega)]
      congr 1; omega
    simpa using this
  rcases hd with ⟨rfl, rfl⟩ | ⟨rfl, rfl⟩
  · rw [a2, a1 16 (.inr rfl) (by decide)]; rfl
  · rw [a2, a1 12 (.inl rfl) (by decide)]; rfl
theorem Qs7 {H : SixL} : ∀ (k : Nat) (R : List UInt8) (h : Int) (f : Bool) (p : Int), (Q32 H k R h f p).2 = 0 → h ≤ (Q32 H k R h f p).1.head := by
  intro k
  induction k with
  | zero =>
    intro R h f p
    by_cases c : (f || !extB p) = true
    · rw [Q22 c]; intro _; exact Int.le_refl _
    · rw [Q4b (by simpa using c)]; intro h0; exact absurd h0 (by decide)
  | succ k ih =>
    intro R h f p
    by_cases c : (f || !extB p) = true
    · rw [Q22 c]; intro _; exact Int.le_refl _
    · have c' : (f || !extB p) = false := by simpa using c
      by_cases e : (R.length : Int) < 8 ∨ (R.length : Int) < Q38 p (Q09 R 1)
      · rw [Q5c c' e]; intro h0; exact absurd h0 (by decide)
      · rw [Q3y c' e]
        intro h0
        have := ih _ _ _ _ h0
        have hge := Q9c (Qc3 c') (Q1q R 1).1
        omega
theorem Qkm {H : SixL} {A D : Adr} : ∀ (k : Nat) (R R' : List UInt8) (h : Int) (f : Bool) (p : Int), R'.length = R.length → (Q32 H k R h f p).2 = 0 → (∀ i : Nat, h + (i : Int) < (Q32 H k R h f p).1.head → Q09 R' i = Q09 R i) →
    Q32 { H with src := A, dst := D } k R' h f p = ({ (Q32 H k R h f p).1 with src := A, dst := D }, 0) := by
  intro k
  induction k with
  | zero =>
    intro R R' h f p hl h0 hb
    by_cases c : (f || !extB p) = true
    · rw [Q22 c, Q22 c]
    · rw [Q4b (by simpa using c)] at h0; exact absurd h0 (by decide)
  | succ k ih =>
    intro R R' h f p hl h0 hb
    by_cases c : (f || !extB p) = true
    · rw [Q22 c, Q22 c]
    · have c' : (f || !extB p) = false := by simpa using c
      by_cases e : (R.length : Int) < 8 ∨ (R.length : Int) < Q38 p (Q09 R 1)
      · rw [Q5c c' e] at h0; exact absurd h0 (by decide)
      · rw [Q3y c' e] at h0 hb ⊢
        have hge := Q9c (Qc3 c') (Q1q R 1).1
        have hh := Qs7 _ _ _ _ _ h0
        have b0 := hb 0 (by omega)
        have b1 := hb 1 (by omega)
        have b2 := hb 2 (by omega)
        have b3 := hb 3 (by omega)
        have hpb : Qb0 R' = Qb0 R := by unfold Qb0 Q07; rw [b2, show (2 : Nat) + 1 = 3 from rfl, b3]
        rw [Q3y c' (by rw [hl, b1]; exact e), b0, b1, hpb]
        exact ih _ _ _ _ _ (by rw [List.length_drop, List.length_drop, hl]) h0 fun i hi => by
          rw [Q40, Q40]
          exact hb _ (by omega)
theorem Qov (b : NatB l) (h : FineP l) (hA : A.b.length = 16) (h6 : Q1k l = true) (ha6 : A.six = true) : netT (Q0c l).1.type ((natX l A n dst).drop (pkA l)) = (Qkl (pkN l).1 A dst, 0) := by
  have hp := Q1c (dst := dst) b
  have hs := Qc0 (k := (Q0c l).1.type) (l := l.drop (pkA l)) h.nt
  have h4 : (Q0c l).1.type ≠ 2048 := by
    have h7 : (netT (Q0c l).1.type (l.drop (pkA l))).1.src.six = true := h6
    rw [hs.1] at h7
    simpa using h7
  have hN : pkN l = (⟨(Q0j (l.drop (pkA l))).1.head, (Q0j (l.drop (pkA l))).1.total, (Q0j (l.drop (pkA l))).1.proto, (Q0j (l.drop (pkA l))).1.frag, (Q0j (l.drop (pkA l))).1.src, (Q0j (l.drop (pkA l))).1.dst⟩, (Q0j (l.drop (pkA l))).2) := by unfold pkN netT; rw [if_neg h4]
  have hq : (Q0j (l.drop (pkA l))).2 = 0 := by have := h.nt; rw [hN] at this; exact this
  obtain ⟨c1, c2, c3⟩ := Q9w hq
  have e : Q0j (l.drop (pkA l)) = Q32 (Q2l (l.drop (pkA l))) 8 (((l.drop (pkA l)).take (40 + Q07 (l.drop (pkA l)) 4).toNat).drop 40) 40 false (Q09 (l.drop (pkA l)) 6) := by unfold Q0j; rw [if_neg c1, if_neg c2, if_neg c3]
  have hw := Q0w (l.drop (pkA l)) 4
  have hbd := Qqz (H := Q2l (l.drop (pkA l))) 8 (((l.drop (pkA l)).take (40 + Q07 (l.drop (pkA l)) 4).toNat).drop 40) 40 false (Q09 (l.drop (pkA l)) 6) (by omega) (by show (40 : Int) + _ = 40 + Q07 (l.drop (pkA l)) 4; rw [List.length_drop, List.length_take]; omega) (Q1q _ 6)
  rw [e] at hq
  rcases hbd with hbd | ⟨g1, g2, g3, g4⟩
  · exact absurd hq hbd.2
  rw [← e] at g1 g2 g3 g4
  have g3' : (Q0j (l.drop (pkA l))).1.total = 40 + Q07 (l.drop (pkA l)) 4 := g3
  have hsg : Q1u l = pkA l + (Q0j (l.drop (pkA l))).1.head.toNat := by unfold Q1u; rw [hN]
  have hen : endP l = pkA l + (40 + Q07 (l.drop (pkA l)) 4).toNat := by unfold endP; rw [hN]; show _ + (Q0j _).1.total.toNat = _; rw [g3']
  obtain ⟨o, ho, hz, hd⟩ := Qgn (dst := dst) h6
  have hXl := Q7u (n := n) (dst := dst) b hA
  have hlen9 := b.len
  have hyl : ((natX l A n dst).drop (pkA l)).length = (40 + Q07 (l.drop (pkA l)) 4).toNat := by rw [List.length_drop]; omega
  have g : ∀ i, pkA l + i < Q1u l → (i < o ∨ o + 16 ≤ i) → ((natX l A n dst).drop (pkA l))[i]? = (l.drop (pkA l))[i]? := fun i h1 h3 => by
    rw [List.getElem?_drop, List.getElem?_drop]
    exact Qbi b hA (by omega) (by omega) (by omega) (.inl h6) (by omega)
  have gb : ∀ i, pkA l + i < Q1u l → (i < o ∨ o + 16 ≤ i) → Q09 ((natX l A n dst).drop (pkA l)) i = Q09 (l.drop (pkA l)) i := fun i h1 h3 => by
    rw [Q2c, Q2c, g i h1 h3]
  have w4 : Q07 ((natX l A n dst).drop (pkA l)) 4 = Q07 (l.drop (pkA l)) 4 := by
    unfold Q07; rw [gb 4 (by omega) (by omega), gb (4 + 1) (by omega) (by omega)]
  have a1 : ∀ j, (j = 8 ∨ j = 24) → j ≠ o → adr6 ((natX l A n dst).drop (pkA l)) j = adr6 (l.drop (pkA l)) j := fun j hj hjo => by
    unfold adr6
    rw [Q8q (y := l.drop (pkA l)) (j := j) fun q hq => g (j + q) (by omega) (by omega)]
  have a2 : adr6 ((natX l A n dst).drop (pkA l)) o = A := by
    unfold adr6
    have := Q8q (x := (natX l A n dst).drop (pkA l)) (y := A.b) (i := o) (j := 0) (n := 16) fun q hq => by
      rw [List.getElem?_drop, Nat.zero_add, ← Qe3 (n := n) (dst := dst) b hA (q := q) (by omega)]
      congr 1; omega
    rw [this]
    obtain ⟨s6, bb⟩ := A
    simp only at ha6 hA
    subst ha6
    simp [List.take_of_length_le (Nat.le_of_eq hA)]
  have hgo := Qkm (H := Q2l (l.drop (pkA l))) (A := if dst then adr6 (l.drop (pkA l)) 8 else A) (D := if dst then A else adr6 (l.drop (pkA l)) 24) 8 (((l.drop (pkA l)).take (40 + Q07 (l.drop (pkA l)) 4).toNat).drop 40)
    ((((natX l A n dst).drop (pkA l)).take (40 + Q07 (l.drop (pkA l)) 4).toNat).drop 40) 40 false (Q09 (l.drop (pkA l)) 6) (by rw [List.length_drop, List.length_drop, List.length_take, List.length_take]; omega) hq (fun i hi => by
      rw [← e] at hi
      rw [Q40, Q40, Q4o (by omega), Q4o (by omega)]
      exact gb _ (by omega) (by omega))
  have e2 : Q0j ((natX l A n dst).drop (pkA l)) = ({ (Q0j (l.drop (pkA l))).1 with src := if dst then adr6 (l.drop (pkA l)) 8 else A, dst := if dst then A else adr6 (l.drop (pkA l)) 24 }, 0) := by
    conv => rhs; rw [e]
    rw [← hgo]
    unfold Q0j
    rw [if_neg (by omega), if_neg (by rw [gb 0 (by omega) (by omega)]; exact c2), if_neg (by rw [w4]; omega), w4, gb 6 (by omega) (by omega)]
    congr 1
    unfold Q2l
    rw [w4, gb 6 (by omega) (by omega), gb 7 (by omega) (by omega)]
    rcases hd with ⟨rfl, rfl⟩ | ⟨rfl, rfl⟩
    · rw [a2, a1 24 (.inr rfl) (by decide)]; rfl
    · rw [a2, a1 8 (.inl rfl) (by decide)]; rfl
  have hsd : (Q0j (l.drop (pkA l))).1.src = adr6 (l.drop (pkA l)) 8 ∧ (Q0j (l.drop (pkA l))).1.dst = adr6 (l.drop (pkA l)) 24 := by
    have := Qkm (H := Q2l (l.drop (pkA l))) (A := adr6 (l.drop (pkA l)) 8) (D := adr6 (l.drop (pkA l)) 24) 8 _ _ 40 false (Q09 (l.drop (pkA l)) 6) rfl hq (fun _ _ => rfl)
    rw [e]
    have t : ({ Q2l (l.drop (pkA l)) with src := adr6 (l.drop (pkA l)) 8, dst := adr6 (l.drop (pkA l)) 24 } : SixL) = Q2l (l.drop (pkA l)) := rfl
    rw [t] at this
    rw [this]
    exact ⟨rfl, rfl⟩
  unfold netT
  rw [if_neg h4, e2]
  unfold Qkl
  rw [hN]
  simp only [hsd]
theorem Qow (P : NatP l A n) (b : NatB l) (hA : A.b.length = 16) : pkN (natX l A n dst) = (Qkl (pkN l).1 A dst, 0) := by
  obtain ⟨k1, k2⟩ := Qgm (n := n) (dst := dst) b P.fine hA
  unfold pkN
  rw [k1, k2]
  cases h6 : Q1k l with
  | true => exact Qov b P.fine hA h6 (by rw [P.six, h6])
  | false => exact Qm7 b P.fine hA h6 (P.short h6)
end
end Go.Proofs.Ytlmdboaghojgiaa

/- What is rewritten, read (the segment); its checksum: in plain Lean. -/
namespace Go.Proofs.Ytlmdboaghojgiaa
set_option linter.unusedVariables false
set_option linter.unusedSimpArgs false
open Go

/-! ## The segment's header -/
theorem Qaq {l : List UInt8} {i j k : Nat} (h : i + k < j) : Q09 (subl l i j) k = Q09 l (i + k) := by rw [Q2c, Q2c, Qcm h]
theorem Qar {l : List UInt8} {i j k : Nat} (h : i + k + 1 < j) : Q07 (subl l i j) k = Q07 l (i + k) := by
  unfold Q07; rw [Qaq (by omega), Qaq (by omega)]; rfl
theorem Qkn {l : List UInt8} {k : Nat} {n : Int} (hn : 0 ≤ n ∧ n ≤ 65535) (h : ∀ q, q < 2 → l[k + q]? = (put2 n)[q]?) : Q07 l k = n := by
  unfold Q07
  rw [Q2c, Q2c, h 1 (by omega)]
  have h0 := h 0 (by omega)
  rw [Nat.add_zero] at h0
  rw [h0]
  show 256 * ((b8 (n / 256)).toNat : Int) + ((b8 n).toNat : Int) = n
  rw [Q1n, Q1n]; omega
def natT (T : TupL) (A : Adr) (n : Int) (dst : Bool) : TupL := if dst then { T with dst := A, dport := n } else { T with src := A, sport := n }
section
variable {l : List UInt8} {A : Adr} {n : Int} {dst : Bool}
theorem Qrm (l : List UInt8) (A : Adr) (n : Int) (dst : Bool) : 0 ≤ Q64 l A n dst ∧ Q64 l A n dst ≤ 65535 := Q6w (Q6w (Q0w _ _) _ _) _ _
theorem Qfd (P : NatP l A n) (b : NatB l) (hA : A.b.length = 16) : pkP (natX l A n dst) = subl (natX l A n dst) (Q1u l) (endP l) := by
  unfold pkP
  rw [(Qgm b P.fine hA).2, Qow P b hA]; rfl
theorem Qas (P : NatP l A n) (b : NatB l) (hA : A.b.length = 16) : (pkP (natX l A n dst)).length = (pkP l).length := by
  rw [Qfd P b hA]
  have h1 := b.seg
  have h2 := Q7u (n := n) (dst := dst) b hA
  unfold subl
  rw [List.length_drop, List.length_take]; omega
theorem Qrn (b : NatB l) {k : Nat} (h : k < (pkP l).length) : (pkP l)[k]? = l[Q1u l + k]? := by
  have h1 := b.seg
  show (subl l (Q1u l) (endP l))[k]? = _
  exact Qcm (by omega)
theorem Qfe (P : NatP l A n) (b : NatB l) (hA : A.b.length = 16) {k : Nat} (h : k < (pkP l).length) : (pkP (natX l A n dst))[k]? = (natX l A n dst)[Q1u l + k]? := by
  have h1 := b.seg
  rw [Qfd P b hA]
  exact Qcm (by omega)
theorem Qko (P : NatP l A n) (b : NatB l) (hA : A.b.length = 16) {k : Nat} (h : k < (pkP l).length) (h1 : Q1u l + k < pl12 l dst ∨ pl12 l dst + 2 ≤ Q1u l + k) (h2 : udp0 l ∨ k < atN (pkN l).1.proto ∨ atN (pkN l).1.proto + 2 ≤ k) : (pkP (natX l A n dst))[k]? = (pkP l)[k]? := by
  have hp := Q1c (dst := dst) b
  have hs := b.seg
  rw [Qfe P b hA h, Qrn b h]
  refine Qbi b hA (by omega) (by omega) h1 (by omega) ?_
  unfold ck12
  rcases h2 with h2 | h2
  · exact .inl h2
  · right; omega
/-! ## The segment's checksum -/
def tl12 (six : Bool) (q t : Int) : List UInt8 := if six then [0, 0, b8 (t / 2 ^ 8), b8 t, 0, 0, 0, b8 q] else [0, b8 q, b8 (t / 2 ^ 8), b8 t]
theorem Q5x {Sa Da : Adr} {q t : Int} (hS : Sa.b.length = 16) (hD : Da.b.length = 16) : wsum (Q2n Sa Da q t) = wsum (Sa.b.take (sz12 Sa.six)) + wsum (Da.b.take (sz12 Sa.six)) + wsum (tl12 Sa.six q t) := by
  unfold Q2n Qbd tl12 sz12
  cases Sa.six with
  | true =>
    simp only [if_true]
    rw [List.append_assoc, Q2m _ (by omega), Q2m _ (by omega), List.take_of_length_le (by omega), List.take_of_length_le (by omega)]
    omega
  | false =>
    simp only [Bool.false_eq_true, if_false]
    rw [List.append_assoc, Q2m _ (by simp; omega), Q2m _ (by simp; omega)]
    omega
theorem Qm8 {six : Bool} {q t : Int} (h : q = 6 ∨ q = 17) : 0 < wsum (tl12 six q t) := by
  refine Qcb (List.any_eq_true.2 ⟨b8 q, ?_, ?_⟩)
  · unfold tl12; cases six <;> simp
  · rcases h with rfl | rfl <;> decide
theorem Qm9 (b : NatB l) (h : FineP l) : Q54 l dst = (if dst then (pkN l).1.dst else (pkN l).1.src).b.take (sz12 (Q1k l)) := by
  have hp := Q1c (dst := dst) b
  have hs := Qc0 (k := (Q0c l).1.type) (l := l.drop (pkA l)) h.nt
  cases h6 : Q1k l with
  | false =>
    have h4 : (Q0c l).1.type = 2048 := by
      have h7 : (netT (Q0c l).1.type (l.drop (pkA l))).1.src.six = false := h6
      rw [hs.1] at h7
      simpa using h7
    have hN : pkN l = netT 2048 (l.drop (pkA l)) := by unfold pkN; rw [h4]
    have hq : (Q0q (l.drop (pkA l))).2 = 0 := by have := h.nt; rw [hN] at this; exact this
    obtain ⟨c1, c2, c3, c4, c5, c6⟩ := Q55 hq
    have e := Q30 c1 c2 c3 c4 c5 c6
    have e1 : (pkN l).1.src = adr4 (l.drop (pkA l)) 12 := by rw [hN]; unfold netT; rw [if_pos rfl, e]; rfl
    have e2 : (pkN l).1.dst = adr4 (l.drop (pkA l)) 16 := by rw [hN]; unfold netT; rw [if_pos rfl, e]; rfl
    obtain ⟨o, ho, hz, hd⟩ := Qe4 (dst := dst) h6
    have hlen : (l.drop (pkA l)).length = l.length - pkA l := List.length_drop
    have key : ∀ j, (j = 12 ∨ j = 16) → (adr4 (l.drop (pkA l)) j).b.take 4 = ((l.drop (pkA l)).drop j).take 4 := fun j hj => by
      unfold adr4
      rw [List.take_append_of_le_length (by rw [List.length_take, List.length_drop]; omega), List.take_take, Nat.min_self]
    unfold Q54 sz12
    rw [h6, ho]
    simp only [Bool.false_eq_true, if_false]
    unfold subl
    rw [List.drop_take, show pkA l + o + 4 - (pkA l + o) = 4 from by omega, ← List.drop_drop]
    rcases hd with ⟨rfl, rfl⟩ | ⟨rfl, rfl⟩
    · simp only [Bool.false_eq_true, if_false]; rw [e1, key 12 (.inl rfl)]
    · simp only [if_true]; rw [e2, key 16 (.inr rfl)]
  | true =>
    have h4 : (Q0c l).1.type ≠ 2048 := by
      have h7 : (netT (Q0c l).1.type (l.drop (pkA l))).1.src.six = true := h6
      rw [hs.1] at h7
      simpa using h7
    have hN : pkN l = (⟨(Q0j (l.drop (pkA l))).1.head, (Q0j (l.drop (pkA l))).1.total, (Q0j (l.drop (pkA l))).1.proto, (Q0j (l.drop (pkA l))).1.frag, (Q0j (l.drop (pkA l))).1.src, (Q0j (l.drop (pkA l))).1.dst⟩, (Q0j (l.drop (pkA l))).2) := by unfold pkN netT; rw [if_neg h4]
    have hq : (Q0j (l.drop (pkA l))).2 = 0 := by have := h.nt; rw [hN] at this; exact this
    obtain ⟨c1, c2, c3⟩ := Q9w hq
    have e : Q0j (l.drop (pkA l)) = Q32 (Q2l (l.drop (pkA l))) 8 (((l.drop (pkA l)).take (40 + Q07 (l.drop (pkA l)) 4).toNat).drop 40) 40 false (Q09 (l.drop (pkA l)) 6) := by unfold Q0j; rw [if_neg c1, if_neg c2, if_neg c3]
    rw [e] at hq
    have hgo := Qkm (H := Q2l (l.drop (pkA l))) (A := adr6 (l.drop (pkA l)) 8) (D := adr6 (l.drop (pkA l)) 24) 8 _ _ 40 false (Q09 (l.drop (pkA l)) 6) rfl hq (fun _ _ => rfl)
    have t : ({ Q2l (l.drop (pkA l)) with src := adr6 (l.drop (pkA l)) 8, dst := adr6 (l.drop (pkA l)) 24 } : SixL) = Q2l (l.drop (pkA l)) := rfl
    rw [t, ← e] at hgo
    have e1 : (pkN l).1.src = adr6 (l.drop (pkA l)) 8 := by rw [hN]; show (Q0j _).1.src = _; rw [hgo]
    have e2 : (pkN l).1.dst = adr6 (l.drop (pkA l)) 24 := by rw [hN]; show (Q0j _).1.dst = _; rw [hgo]
    obtain ⟨o, ho, hz, hd⟩ := Qgn (dst := dst) h6
    have key : ∀ j, (adr6 (l.drop (pkA l)) j).b.take 16 = ((l.drop (pkA l)).drop j).take 16 := fun j => by
      unfold adr6
      rw [List.take_take, Nat.min_self]
    unfold Q54 sz12
    rw [h6, ho]
    simp only [if_true]
    unfold subl
    rw [List.drop_take, show pkA l + o + 16 - (pkA l + o) = 16 from by omega, ← List.drop_drop]
    rcases hd with ⟨rfl, rfl⟩ | ⟨rfl, rfl⟩
    · simp only [Bool.false_eq_true, if_false]; rw [e1, key 8]
    · simp only [if_true]; rw [e2, key 24]
theorem Qkp (b : NatB l) : (Q54 l dst).length = sz12 (Q1k l) := by
  have hp := Q1c (dst := dst) b
  have h1 := b.len
  unfold Q54 subl
  rw [List.length_drop, List.length_take]; omega
theorem Qcn (q s : Int) : (pFix q s - s) % 65535 = 0 := by unfold pFix; split <;> omega
theorem Qox (b : NatB l) (hA : A.b.length = 16) (hn : 0 ≤ n ∧ n ≤ 65535) : (pFix (pkN l).1.proto (Q64 l A n dst) - (Q07 l (ck12 l) + wsum (Q54 l dst) - wsum (Q1f l A) + Q07 l (pl12 l dst) - n)) % 65535 = 0 := by
  have hp := Q1c (dst := dst) b
  have hlen := b.len
  have h1 := Q5w (f := Q54 l dst) (t := Q1f l A) (Q07 l (ck12 l)) (by rw [Q3h hA, Qkp b])
  have h2 := Q5w (f := subl l (pl12 l dst) (pl12 l dst + 2)) (t := put2 n) (Q3g (Q07 l (ck12 l)) (Q54 l dst) (Q1f l A)) (by unfold subl; rw [Q0d, List.length_drop, List.length_take]; omega)
  have h3 := Qcn (pkN l).1.proto (Q64 l A n dst)
  rw [Q8p (by omega), Qap hn] at h2
  unfold Q64 at h3 ⊢
  omega
end
end Go.Proofs.Ytlmdboaghojgiaa

/- What is rewritten: its checksum, again and back: in plain Lean. -/
namespace Go.Proofs.Ytlmdboaghojgiaa
set_option linter.unusedVariables false
set_option linter.unusedSimpArgs false
open Go

section
variable {l : List UInt8} {A : Adr} {n : Int} {dst : Bool}
/-! ## The places of what is rewritten -/
structure SameP (x l : List UInt8) : Prop where
  a : pkA x = pkA l
  six : Q1k x = Q1k l
  seg : Q1u x = Q1u l
  end' : endP x = endP l
  proto : (pkN x).1.proto = (pkN l).1.proto
theorem SameP.at {x l : List UInt8} (s : SameP x l) (d : Bool) : at12 x d = at12 l d := by unfold at12; rw [s.a, s.six]
theorem SameP.pl {x l : List UInt8} (s : SameP x l) (d : Bool) : pl12 x d = pl12 l d := by unfold pl12; rw [s.seg]
theorem SameP.ip {x l : List UInt8} (s : SameP x l) : ip12 x = ip12 l := by unfold ip12; rw [s.a]
theorem SameP.ck {x l : List UInt8} (s : SameP x l) : ck12 x = ck12 l := by unfold ck12; rw [s.seg, s.proto]
theorem Qoy (b : NatB l) (h : FineP l) : Q07 (pkP l) (atN (pkN l).1.proto) = Q07 l (ck12 l) := by
  have h1 := b.seg
  have h2 := b.pl
  show Q07 (subl l (Q1u l) (endP l)) _ = _
  rw [Qar (by omega)]; rfl
theorem Qoz (b : NatB l) : Q07 (pkP l) (if dst then 2 else 0) = Q07 l (pl12 l dst) := by
  have h1 := b.seg
  have h2 := b.ports
  show Q07 (subl l (Q1u l) (endP l)) _ = _
  rw [Qar (by split <;> omega)]; rfl
/-! ## Is the segment's checksum right? -/
theorem Qp0 (P : NatP l A n) (b : NatB l) (hA : A.b.length = 16) (hu : ¬ udp0 l) {t : Nat} (ht : atN (pkN l).1.proto + 2 ≤ t) (ht8 : 8 ≤ t) (htl : t ≤ (pkP l).length) :
    (pkP (natX l A n dst)).take t = Q27 (Q27 ((pkP l).take t) (if dst then 2 else 0) (put2 n)) (atN (pkN l).1.proto) (put2 (pFix (pkN l).1.proto (Q64 l A n dst))) := by
  have hp := Q1c (dst := dst) b
  have hs := b.seg
  have h6 := b.at6
  have hpl : pl12 l dst = Q1u l + (if dst then 2 else 0) := rfl
  have hd : (if dst then 2 else 0) + 2 ≤ 4 := by split <;> omega
  have hl := Qas (n := n) (dst := dst) P b hA
  have l1 : ((pkP l).take t).length = t := by rw [List.length_take]; omega
  have l2 : (if dst then 2 else 0) + (put2 n).length ≤ ((pkP l).take t).length := by rw [Q0d]; omega
  apply List.ext_getElem?
  intro i
  rw [Q1m (by rw [Q20 l2, Q0d]; omega), Q1m l2, Q0d, Q0d]
  by_cases hi : i < t
  · rw [List.getElem?_take_of_lt hi]
    by_cases i1 : atN (pkN l).1.proto ≤ i ∧ i < atN (pkN l).1.proto + 2
    · rw [if_pos i1, Qfe P b hA (by omega)]
      have := X_ck (n := n) (dst := dst) b hA hu (q := i - atN (pkN l).1.proto) (by omega)
      unfold ck12 at this
      rw [← this]
      congr 1; omega
    · rw [if_neg i1]
      by_cases i2 : (if dst then 2 else 0) ≤ i ∧ i < (if dst then 2 else 0) + 2
      · rw [if_pos i2, Qfe P b hA (by omega)]
        have := Qrl (n := n) (dst := dst) b hA (q := i - (if dst then 2 else 0)) (by omega)
        rw [← this]
        congr 1; omega
      · rw [if_neg i2, List.getElem?_take_of_lt hi]
        exact Qko P b hA (by omega) (by omega) (.inr (by omega))
  · rw [if_neg (by omega), if_neg (by omega), List.getElem?_eq_none (by simp; omega), List.getElem?_eq_none (by simp; omega)]
end
end Go.Proofs.Ytlmdboaghojgiaa

/- What is rewritten again, and back; what is made and rewritten: in plain Lean. -/
namespace Go.Proofs.Ytlmdboaghojgiaa
set_option linter.unusedVariables false
set_option linter.unusedSimpArgs false
open Go

theorem Qp1 {q x y : Int} (hx : 0 ≤ x ∧ x ≤ 65535) (hy : 0 ≤ y ∧ y ≤ 65535) (hm : (pFix q x - pFix q y) % 65535 = 0) (hq : q = 17 ∨ q = 6 ∧ x ≤ 65534 ∧ y ≤ 65534) : pFix q x = pFix q y := by
  unfold pFix at hm ⊢
  rcases hq with rfl | ⟨rfl, h1, h2⟩
  · split at hm <;> split at hm <;> simp_all <;> omega
  · rw [if_neg (by simp), if_neg (by simp)] at hm ⊢
    omega
section
variable {l : List UInt8} {A B : Adr} {m n : Int} {dst : Bool}
structure Cks (l : List UInt8) : Prop where
  ip : Q1k l = false → Q07 l (ip12 l) ≤ 65534
  ck : (pkN l).1.proto = 6 → Q07 l (ck12 l) ≤ 65534
theorem Qro (c : Cks l) (h6 : Q1k l = false) (A : Adr) (dst : Bool) : Q7q l A dst ≤ 65534 := Q8o ⟨(Q0w _ _).1, c.ip h6⟩ _ _
theorem Qrp (c : Cks l) (h6 : (pkN l).1.proto = 6) (A : Adr) (n : Int) (dst : Bool) : Q64 l A n dst ≤ 65534 :=
  Q8o ⟨(Q6w (Q0w _ _) _ _).1, Q8o ⟨(Q0w _ _).1, c.ck h6⟩ _ _⟩ _ _
theorem Qp2 (b : NatB l) (hA : A.b.length = 16) : (Q7q l A dst - (Q07 l (ip12 l) + wsum (Q54 l dst) - wsum (Q1f l A))) % 65535 = 0 :=
  Q5w (f := Q54 l dst) (t := Q1f l A) (Q07 l (ip12 l)) (by rw [Q3h hA, Qkp b])
end
end Go.Proofs.Ytlmdboaghojgiaa

/- What is made and rewritten is what is made for the other tuple: in plain Lean. -/
namespace Go.Proofs.Ytlmdboaghojgiaa
set_option linter.unusedVariables false
set_option linter.unusedSimpArgs false
open Go

theorem Qp3 {l : List UInt8} (h : 0 < wsum l) : ck l ≤ 65534 := by have := Qli (s := wsum l) (by omega); unfold ck; omega
theorem Qkq (l : List UInt8) : (ck l + wsum l) % 65535 = 0 := by
  have := Q2h l
  unfold ck norm
  split <;> omega
theorem Q4p {p s r a : List UInt8} {k : Nat} (hk : k = p.length) (h : a.length = s.length) : Q27 (p ++ (s ++ r)) k a = p ++ (a ++ r) := by
  subst hk
  unfold Q27
  rw [List.take_left, List.append_assoc, ← List.drop_drop, List.drop_left, h, List.drop_left]
theorem Qat (l : List UInt8) (k : Nat) (n : Int) : Q2g l k (put2 n) = Q27 l k (put2 n) := rfl
theorem Qhn {l a b : List UInt8} {k : Nat} (h : k + a.length ≤ l.length) (hb : b.length = a.length) : Q27 (Q27 l k a) k b = Q27 l k b := by
  apply List.ext_getElem?
  intro i
  rw [Q1m (by rw [Q20 h]; omega), Q1m h, Q1m (by omega), hb]
  split <;> rfl
theorem Qbj {l a b : List UInt8} {j k : Nat} (h1 : j + a.length ≤ k) (h2 : k + b.length ≤ l.length) : Q27 (Q27 l j a) k b = Q27 (Q27 l k b) j a := by
  apply List.ext_getElem?
  intro i
  rw [Q1m (by rw [Q20 (by omega)]; exact h2), Q1m (by omega), Q1m (by rw [Q20 h2]; omega), Q1m h2]
  by_cases c1 : k ≤ i ∧ i < k + b.length
  · rw [if_pos c1, if_neg (by omega)]
    rw [if_pos c1]
  · rw [if_neg c1, if_neg c1]
section
variable {l : List UInt8} {A : Adr} {n : Int} {dst : Bool}
theorem Qma (b : NatB l) (hA : A.b.length = 16) : ((natX l A n dst).drop (pkA l)).take (Q1u l - pkA l) =
    if Q1k l then Q27 ((l.drop (pkA l)).take (Q1u l - pkA l)) (at12 l dst - pkA l) (Q1f l A) else Q27 (Q27 ((l.drop (pkA l)).take (Q1u l - pkA l)) (at12 l dst - pkA l) (Q1f l A)) 10 (put2 (Q7q l A dst)) := by
  have hp := Q1c (dst := dst) b
  have hlen := b.len
  have hf := Q3h (l := l) hA
  have hZ : ((l.drop (pkA l)).take (Q1u l - pkA l)).length = Q1u l - pkA l := by rw [List.length_take, List.length_drop]; omega
  have l1 : at12 l dst - pkA l + (Q1f l A).length ≤ ((l.drop (pkA l)).take (Q1u l - pkA l)).length := by omega
  have h20 := b.h20
  have hX := Q7u (n := n) (dst := dst) b hA
  cases h6 : Q1k l with
  | true =>
    simp only [if_true]
    rw [h6] at h20
    simp only [if_true] at h20
    apply List.ext_getElem?
    intro i
    rw [Q1m l1, hf]
    by_cases hi : i < Q1u l - pkA l
    · rw [List.getElem?_take_of_lt hi, List.getElem?_drop]
      by_cases i2 : at12 l dst - pkA l ≤ i ∧ i < at12 l dst - pkA l + sz12 (Q1k l)
      · rw [if_pos i2]
        have := Qe3 (n := n) (dst := dst) b hA (q := i - (at12 l dst - pkA l)) (by omega)
        unfold Q1f
        rw [List.getElem?_take_of_lt (by omega), ← this]
        congr 1; omega
      · rw [if_neg i2, List.getElem?_take_of_lt hi, List.getElem?_drop]
        exact Qbi b hA (by omega) (by omega) (by omega) (.inl h6) (by omega)
    · rw [if_neg (by omega), List.getElem?_eq_none (by simp; omega), List.getElem?_eq_none (by simp; omega)]
  | false =>
    simp only [Bool.false_eq_true, if_false]
    rw [h6] at h20
    simp only [Bool.false_eq_true, if_false] at h20
    have h12 := hp.2.2.2.2.2.2.2.2.2 h6
    apply List.ext_getElem?
    intro i
    rw [Q1m (by rw [Q20 l1, Q0d]; omega), Q1m l1, Q0d, hf]
    by_cases hi : i < Q1u l - pkA l
    · rw [List.getElem?_take_of_lt hi, List.getElem?_drop]
      by_cases i1 : 10 ≤ i ∧ i < 10 + 2
      · rw [if_pos i1]
        have := X_ip (n := n) (dst := dst) b hA h6 (q := i - 10) (by omega)
        unfold ip12 at this
        rw [← this]
        congr 1; omega
      · rw [if_neg i1]
        by_cases i2 : at12 l dst - pkA l ≤ i ∧ i < at12 l dst - pkA l + sz12 (Q1k l)
        · rw [if_pos i2]
          have := Qe3 (n := n) (dst := dst) b hA (q := i - (at12 l dst - pkA l)) (by omega)
          unfold Q1f
          rw [List.getElem?_take_of_lt (by omega), ← this]
          congr 1; omega
        · rw [if_neg i2, List.getElem?_take_of_lt hi, List.getElem?_drop]
          exact Qbi b hA (by omega) (by omega) (by omega) (by unfold ip12; omega) (by omega)
    · rw [if_neg (by omega), if_neg (by omega), List.getElem?_eq_none (by simp; omega), List.getElem?_eq_none (by simp; omega)]
theorem Qmb (P : NatP l A n) (b : NatB l) (hA : A.b.length = 16) (hu : ¬ udp0 l) :
    pkP (natX l A n dst) = Q27 (Q27 (pkP l) (if dst then 2 else 0) (put2 n)) (atN (pkN l).1.proto) (put2 (pFix (pkN l).1.proto (Q64 l A n dst))) := by
  have h := Qp0 (dst := dst) P b hA hu (t := (pkP l).length) b.pl b.ports (Nat.le_refl _)
  rw [List.take_of_length_le (Nat.le_of_eq (Qas P b hA)), List.take_length] at h
  exact h
theorem Qkr (P : NatP l A n) (b : NatB l) (hA : A.b.length = 16) : natX l A n dst = l.take (pkA l) ++ (((natX l A n dst).drop (pkA l)).take (Q1u l - pkA l) ++ pkP (natX l A n dst)) := by
  have hX := Q7u (n := n) (dst := dst) b hA
  have h20 := b.h20
  have e : pkP (natX l A n dst) = ((natX l A n dst).drop (pkA l)).drop (Q1u l - pkA l) := by
    rw [Qfd P b hA, List.drop_drop]
    unfold subl
    rw [List.take_of_length_le (by omega)]
    congr 1
    split at h20 <;> omega
  rw [e, List.take_append_drop, ← Qgl b hA]
end
/-! ## What is made -/
section
variable {L : LinkL} {T : TupL} {f : Int} {load : List UInt8} {A : Adr} {n : Int} {dst : Bool}
theorem Q80 (hL : Q2i L) (hT : Q3f T) (hw : whyL L T f load.length = 0) (hof : ofB T.src.six A = true) (hn : 0 ≤ n ∧ n ≤ 65535) : NatP (Q1h L T f load) A n := by
  have h := Qg5 (f := f) (load := load) hL hT hw []
  rw [List.append_nil] at h
  obtain ⟨e1, e2, e3, e4, e5⟩ := h
  obtain ⟨h1, h2⟩ := Qiy (l := Q1h L T f load) (by rw [e5]; rfl)
  obtain ⟨k1, k2⟩ := Q9t hof
  have hs : Q1k (Q1h L T f load) = T.src.six := by unfold Q1k; rw [e3]
  exact ⟨h1, h2, by rw [hs]; exact k1, by rw [hs]; exact k2, hn⟩
theorem Qbk (hs : 0 ≤ n ∧ n ≤ 65535) : segL (natT T A n dst) f load = Q27 (segL T f load) (if dst then 2 else 0) (put2 n) := by
  unfold segL natT
  cases dst
  · simp only [Bool.false_eq_true, if_false]
    rw [List.append_assoc, List.append_assoc, List.append_assoc, List.append_assoc]
    have := Q4p (p := []) (s := put2 T.sport) (r := put2 T.dport ++ ((if T.proto = 17 then put2 (8 + (load.length : Int)) ++ [0, 0] else [0, 0, 0, 0, 0, 0, 0, 0, 80, b8 f, 0, 0, 0, 0, 0, 0]) ++ load)) (a := put2 n) (k := 0) rfl rfl
    rw [List.nil_append, List.nil_append] at this
    rw [this]
  · simp only [if_true]
    rw [List.append_assoc, List.append_assoc, List.append_assoc, List.append_assoc]
    have := Q4p (p := put2 T.sport) (s := put2 T.dport) (r := (if T.proto = 17 then put2 (8 + (load.length : Int)) ++ [0, 0] else [0, 0, 0, 0, 0, 0, 0, 0, 80, b8 f, 0, 0, 0, 0, 0, 0]) ++ load) (a := put2 n) (k := 2) rfl rfl
    rw [this]
theorem Qmc (hm : mayL T f = true) (hof : ofB T.src.six A = true) (hn : 0 ≤ n ∧ n ≤ 65535) : mayL (natT T A n dst) f = true := by
  have hk := Qc1 hm
  obtain ⟨k1, k2⟩ := Q9t hof
  have hf : famB (natT T A n dst).src (natT T A n dst).dst = true := by
    unfold natT famB
    cases dst
    · show (if (A.six != T.dst.six) = true then false else A.six || (Q2j A && Q2j T.dst)) = true
      rw [k1, ← hk.fam]
      cases h6 : T.src.six with
      | true => simp
      | false => simp [k2 h6, (hk.short h6).2]
    · show (if (T.src.six != A.six) = true then false else T.src.six || (Q2j T.src && Q2j A)) = true
      rw [k1]
      cases h6 : T.src.six with
      | true => simp
      | false => simp [k2 h6, (hk.short h6).1]
  unfold mayL at hm ⊢
  simp only [Bool.and_eq_true] at hm ⊢
  obtain ⟨⟨⟨⟨⟨h1, h2⟩, h3⟩, h4⟩, h5⟩, h6⟩ := hm
  have hin : inW n = true := by unfold inW; simp; omega
  unfold natT
  cases dst
  · exact ⟨⟨⟨⟨⟨hf, h2⟩, hin⟩, h4⟩, h5⟩, h6⟩
  · exact ⟨⟨⟨⟨⟨hf, h2⟩, h3⟩, hin⟩, h5⟩, h6⟩
theorem Qco (hof : ofB T.src.six A = true) : (natT T A n dst).src.six = T.src.six := by
  unfold natT
  cases dst
  · exact (Q9t hof).1
  · rfl
theorem Qcg (hw : whyL L T f load.length = 0) (hof : ofB T.src.six A = true) (hn : 0 ≤ n ∧ n ≤ 65535) : whyL L (natT T A n dst) f load.length = 0 := by
  obtain ⟨h1, h2, h3⟩ := Qa0 hw
  have e := Qco (n := n) (dst := dst) hof
  refine Qn3 (by rw [e]; exact h1) (Qmc h2 hof hn) ?_
  rw [e]
  have : Q2w (natT T A n dst) = Q2w T := by unfold natT Q2w; cases dst <;> rfl
  rw [this]
  omega
theorem Qcf (hT : Q3f T) (hA : A.b.length = 16) : Q3f (natT T A n dst) := by
  unfold natT
  cases dst
  · exact ⟨hA, hT.2⟩
  · exact ⟨hT.1, hA⟩
theorem Qho : (natT T A n dst).proto = T.proto := by unfold natT; cases dst <;> rfl
theorem Qhp {t : Int} (hT : Q3f T) (hA : A.b.length = 16) (h6 : A.six = T.src.six) : wsum (Q2n (natT T A n dst).src (natT T A n dst).dst T.proto t) = wsum (Q2n T.src T.dst T.proto t) - wsum ((if dst then T.dst else T.src).b.take (sz12 T.src.six)) + wsum (A.b.take (sz12 T.src.six)) := by
  rw [Q5x hT.1 hT.2]
  unfold natT
  cases dst
  · simp only [Bool.false_eq_true, if_false]
    rw [Q5x hA hT.2, h6]
    omega
  · simp only [if_true]
    rw [Q5x hT.1 hA]
    omega
theorem Qhq {Sa Da : Adr} {q t : Int} (h1 : Sa.b.length = 16) (h2 : Da.b.length = 16) (hq : q = 6 ∨ q = 17) : 0 < wsum (Q2n Sa Da q t) := by
  rw [Q5x h1 h2]
  have e1 := Q2h (Sa.b.take (sz12 Sa.six))
  have e2 := Q2h (Da.b.take (sz12 Sa.six))
  have e3 := Qm8 (six := Sa.six) (t := t) hq
  omega
end
end Go.Proofs.Ytlmdboaghojgiaa

/- What is made and rewritten is what is made for the other tuple (2): in plain Lean. -/
namespace Go.Proofs.Ytlmdboaghojgiaa
set_option linter.unusedVariables false
set_option linter.unusedSimpArgs false
open Go

theorem Qgo {p s r : List UInt8} {i j : Nat} (hi : i = p.length) (hj : j = p.length + s.length) : subl (p ++ (s ++ r)) i j = s := by
  subst hi; subst hj
  unfold subl
  rw [← List.append_assoc, List.take_left' (by simp), List.drop_left]
def p12 (H : FourL) (f g x y : UInt8) : List UInt8 := [69, b8 H.tos, b8 (H.total / 256), b8 H.total, b8 (H.id / 256), b8 H.id, f, g, b8 H.ttl, b8 H.proto, x, y]
theorem Qks (H : FourL) (f g x y : UInt8) : hdr H f g x y = p12 H f g x y ++ (H.src.b.take 4 ++ H.dst.b.take 4) := rfl
theorem Qff {H : FourL} {f g x y : UInt8} {A : Adr} (hH : Q3b H) (hA : A.b.length = 16) : Q27 (hdr H f g x y) 12 (A.b.take 4) = hdr { H with src := A } f g x y ∧ subl (hdr H f g x y) 12 16 = H.src.b.take 4 := by
  obtain ⟨h1, h2⟩ := hH
  rw [Qks]
  exact ⟨Q4p rfl (by simp [h1, hA]), Qgo rfl (by simp [h1]; rfl)⟩
theorem Qfg {H : FourL} {f g x y : UInt8} {A : Adr} (hH : Q3b H) (hA : A.b.length = 16) : Q27 (hdr H f g x y) 16 (A.b.take 4) = hdr { H with dst := A } f g x y ∧ subl (hdr H f g x y) 16 20 = H.dst.b.take 4 := by
  obtain ⟨h1, h2⟩ := hH
  have e : hdr H f g x y = (p12 H f g x y ++ H.src.b.take 4) ++ (H.dst.b.take 4 ++ []) := by rw [Qks, List.append_nil, List.append_assoc]
  have el : (p12 H f g x y ++ H.src.b.take 4).length = 16 := by simp [h1]; rfl
  rw [e]
  refine ⟨?_, Qgo el.symm (by rw [el]; simp [h2])⟩
  rw [Q4p el.symm (by simp [h2, hA]), List.append_nil, List.append_assoc]
  rfl
theorem Qfh {H : FourL} {f g x y : UInt8} (c : Int) : Q27 (hdr H f g x y) 10 (put2 c) = hdr H f g (b8 (c / 256)) (b8 c) :=
  Q4p (p := [69, b8 H.tos, b8 (H.total / 256), b8 H.total, b8 (H.id / 256), b8 H.id, f, g, b8 H.ttl, b8 H.proto]) (s := [x, y]) (r := H.src.b.take 4 ++ H.dst.b.take 4) rfl rfl
theorem Qkt (H : FourL) (f g x y : UInt8) : 0 < wsum (hdr H f g x y) := Qbh (by show (0 : Int) < ((69 : UInt8).toNat : Int); decide)
def p8 (H : SixL) : List UInt8 := [96, 0, 0, 0] ++ put2 (H.total - 40) ++ [b8 H.proto, b8 H.hop]
theorem Q88 (H : SixL) : Q4z H = p8 H ++ (H.src.b ++ H.dst.b) := by unfold Q4z p8; simp only [List.append_assoc]
theorem Qfi {H : SixL} {A : Adr} (hH : Q7w H) (hA : A.b.length = 16) : Q27 (Q4z H) 8 (A.b.take 16) = Q4z { H with src := A } := by
  rw [Q88, Q88, List.take_of_length_le (by omega)]
  exact Q4p rfl (by rw [hA, hH.1])
theorem Qfj {H : SixL} {A : Adr} (hH : Q7w H) (hA : A.b.length = 16) : Q27 (Q4z H) 24 (A.b.take 16) = Q4z { H with dst := A } := by
  rw [Q88, Q88, List.take_of_length_le (by omega)]
  have el : (p8 H ++ H.src.b).length = 24 := by rw [List.length_append, hH.1]; rfl
  have e : p8 H ++ (H.src.b ++ H.dst.b) = (p8 H ++ H.src.b) ++ (H.dst.b ++ []) := by rw [List.append_nil, List.append_assoc]
  rw [e, Q4p el.symm (by rw [hA, hH.2]), List.append_nil, List.append_assoc]
  rfl
section
variable {L : LinkL} {T : TupL} {f : Int} {load : List UInt8} {A : Adr} {n : Int} {dst : Bool}
structure Made (L : LinkL) (T : TupL) (f : Int) (load : List UInt8) : Prop where
  pa : pkA (Q1h L T f load) = 14 + 4 * L.tags.length
  n : pkN (Q1h L T f load) = (⟨(Q65 T : Int), (Q65 T : Int) + segN T load, T.proto, false, T.src, T.dst⟩, 0)
  p : pkP (Q1h L T f load) = Q6x T.src T.dst T.proto (segL T f load)
  six : Q1k (Q1h L T f load) = T.src.six
  seg : Q1u (Q1h L T f load) = 14 + 4 * L.tags.length + Q65 T
  drop : (Q1h L T f load).drop (14 + 4 * L.tags.length) = ipL T (segN T load) ++ Q6x T.src T.dst T.proto (segL T f load)
  take : (Q1h L T f load).take (14 + 4 * L.tags.length) = Q23 (Q1v L T.src.six)
theorem Q7a (hL : Q2i L) (hT : Q3f T) (hw : whyL L T f load.length = 0) : Made L T f load := by
  have h := Qg5 (f := f) (load := load) hL hT hw []
  rw [List.append_nil] at h
  obtain ⟨e1, e2, e3, e4, e5⟩ := h
  have hlp : (Q23 (Q1v L T.src.six)).length = 14 + 4 * L.tags.length := Q4j (Q3v hL)
  have hN : ((segL T f load).length : Int) = segN T load := by unfold segN; rw [Q6r]
  have e : Q1h L T f load = Q23 (Q1v L T.src.six) ++ (ipL T (segN T load) ++ Q6x T.src T.dst T.proto (segL T f load)) := by unfold Q1h; rw [hN, List.append_assoc]
  refine ⟨e2, e3, e4, by unfold Q1k; rw [e3], ?_, ?_, ?_⟩
  · unfold Q1u; rw [e2, e3]; show 14 + 4 * L.tags.length + ((Q65 T : Nat) : Int).toNat = _; rw [Int.toNat_natCast]
  · rw [e, ← hlp, List.drop_left]
  · rw [e, ← hlp, List.take_left]
def sumK (T : TupL) (f : Int) (load : List UInt8) : Int := ck (Q2n T.src T.dst T.proto ((segL T f load).length : Int) ++ Q2g (segL T f load) (atN T.proto) [0, 0])
theorem Qgp (hw : whyL L T f load.length = 0) : MayOk T f ∧ (load.length : Int) + (Q2w T : Int) ≤ 65535 := by
  obtain ⟨hs, hm⟩ := Q9z hw
  exact ⟨hm, by split at hs <;> omega⟩
theorem Qau (hw : whyL L T f load.length = 0) : Q6x T.src T.dst T.proto (segL T f load) = Q2g (segL T f load) (atN T.proto) (put2 (pFix T.proto (sumK T f load))) := by
  obtain ⟨hm, hn⟩ := Qgp hw
  have hsk := Qa1 (load := load) hm hn
  have hrd := Qc2 (load := load) hm hn
  have hat := Q6d hsk
  unfold Q6x pSum sumK
  rw [Qad hsk rfl, hrd]
  show Q2g _ _ (put2 (pFix _ (ck (Q2n T.src T.dst T.proto ((segL T f load).length : Int) ++ (Q2g (segL T f load) (atN T.proto) [0, 0]).take ((segL T f load).length : Int).toNat)))) = _
  rw [Int.toNat_natCast, List.take_of_length_le (by rw [Q5f hat.1 rfl]; exact Nat.le_refl _)]
theorem Qnb (hT : Q3f T) : (sumK T f load + (wsum (Q2n T.src T.dst T.proto ((segL T f load).length : Int)) + wsum (Q2g (segL T f load) (atN T.proto) [0, 0]))) % 65535 = 0 := by
  have := Qkq (Q2n T.src T.dst T.proto ((segL T f load).length : Int) ++ Q2g (segL T f load) (atN T.proto) [0, 0])
  rw [Q2m _ (Q90 _ _ _ _ hT.1 hT.2)] at this
  exact this
theorem Qku (hT : Q3f T) (hq : T.proto = 6 ∨ T.proto = 17) : sumK T f load ≤ 65534 := by
  refine Qp3 ?_
  rw [Q2m _ (Q90 _ _ _ _ hT.1 hT.2)]
  have h1 := Qhq (t := ((segL T f load).length : Int)) hT.1 hT.2 hq
  have h2 := Q2h (Q2g (segL T f load) (atN T.proto) [0, 0])
  omega
theorem Qgq (hL : Q2i L) (hT : Q3f T) (hw : whyL L T f load.length = 0) (P : FineP (Q1h L T f load)) : Q07 (Q1h L T f load) (ck12 (Q1h L T f load)) = pFix T.proto (sumK T f load) := by
  have M := Q7a (f := f) (load := load) hL hT hw
  obtain ⟨hm, hn⟩ := Qgp hw
  have hsk := Qa1 (load := load) hm hn
  have hat := Q6d hsk
  have e := Qoy (Qba P) P
  rw [M.n, M.p] at e
  rw [← e, Qau hw]
  refine Qkn (Qeu (Qdq _)) fun q hq => ?_
  rw [Qat, Q1m (by rw [Q0d]; exact hat.1), if_pos ⟨Nat.le_add_right _ _, Nat.add_lt_add_left hq _⟩]
  congr 1
  show atN T.proto + q - atN T.proto = q
  omega
theorem Qgr (hH : Q3b (Q28 T n)) (r : List UInt8) : Q07 (Q4k (Q28 T n) ++ r) 10 = ck (hdr (Q28 T n) 64 0 0 0) := by
  rw [Q4n hH]
  have := Qdq (hdr (Q28 T n) 64 0 0 0)
  show 256 * ((b8 (ck (hdr (Q28 T n) 64 0 0 0) / 256)).toNat : Int) + ((b8 (ck (hdr (Q28 T n) 64 0 0 0))).toNat : Int) = _
  rw [Q1n, Q1n]; omega
theorem Qgs (hL : Q2i L) (hT : Q3f T) (hw : whyL L T f load.length = 0) (P : FineP (Q1h L T f load)) : Cks (Q1h L T f load) := by
  have M := Q7a (f := f) (load := load) hL hT hw
  refine ⟨fun h6 => ?_, fun h6 => ?_⟩
  · rw [M.six] at h6
    unfold ip12
    rw [M.pa, ← Q3i, M.drop]
    unfold ipL
    rw [if_neg (by rw [h6]; decide), Qgr (show Q3b (Q28 T _) from hT)]
    exact Qp3 (Qkt _ _ _ _ _)
  · rw [M.n] at h6
    have h6' : T.proto = 6 := h6
    rw [Qgq hL hT hw P, h6']
    unfold pFix
    rw [if_neg (by simp)]
    exact Qku hT (.inl h6')
theorem Qgt (hL : Q2i L) (hT : Q3f T) (hw : whyL L T f load.length = 0) (P : FineP (Q1h L T f load)) : Q54 (Q1h L T f load) dst = (if dst then T.dst else T.src).b.take (sz12 T.src.six) := by
  have M := Q7a (f := f) (load := load) hL hT hw
  rw [Qm9 (Qba P) P, M.n, M.six]
theorem Qmd (hL : Q2i L) (hT : Q3f T) (hA : A.b.length = 16) (hw : whyL L T f load.length = 0) (hof : ofB T.src.six A = true) (hn : 0 ≤ n ∧ n ≤ 65535) :
    pkP (natX (Q1h L T f load) A n dst) = Q6x (natT T A n dst).src (natT T A n dst).dst (natT T A n dst).proto (segL (natT T A n dst) f load) := by
  have P := Q80 (n := n) hL hT hw hof hn
  have b := Qba P.fine
  have M := Q7a (f := f) (load := load) hL hT hw
  have c := Qgs hL hT hw P.fine
  obtain ⟨hm, hn9⟩ := Qgp hw
  have hsk := Qa1 (load := load) hm hn9
  have hat := (Q6d hsk).1
  have hw' := Qcg (dst := dst) hw hof hn
  have hT' := Qcf (n := n) (dst := dst) hT hA
  have hpr : (natT T A n dst).proto = T.proto := Qho
  have hsp := Qbk (T := T) (A := A) (f := f) (load := load) (dst := dst) hn
  have hd4 : (if dst then 2 else 0) + 2 ≤ 4 := by split <;> omega
  have hde : (if dst then 2 else 0) % 2 = 0 := by split <;> rfl
  have hae := Qls T.proto
  have h6 : 6 ≤ atN T.proto := by unfold atN; split <;> omega
  have hckw := Qgq hL hT hw P.fine
  have hu : ¬ udp0 (Q1h L T f load) := by
    rintro ⟨k1, k2⟩
    rw [M.n] at k1
    have k1' : T.proto = 17 := k1
    rw [hckw, k1'] at k2
    have := Qlt (Qdq (Q2n T.src T.dst T.proto ((segL T f load).length : Int) ++ Q2g (segL T f load) (atN T.proto) [0, 0])).1
    unfold sumK at k2
    omega
  have hplw : Q07 (Q1h L T f load) (pl12 (Q1h L T f load) dst) = Q07 (segL T f load) (if dst then 2 else 0) := by
    rw [← Qoz b, M.p]
    unfold Q07
    rw [Qdw hsk (by omega) (by omega), Qdw hsk (by omega) (by omega)]
  have hmod := Qox (dst := dst) b hA hn
  rw [Qgt hL hT hw P.fine, hckw, hplw] at hmod
  have hfr : Q1f (Q1h L T f load) A = A.b.take (sz12 T.src.six) := by unfold Q1f; rw [M.six]
  rw [hfr, M.n] at hmod
  have hmod2 : (pFix T.proto (Q64 (Q1h L T f load) A n dst) - (pFix T.proto (sumK T f load) + wsum ((if dst then T.dst else T.src).b.take (sz12 T.src.six)) - wsum (A.b.take (sz12 T.src.six)) + Q07 (segL T f load) (if dst then 2 else 0) - n)) % 65535 = 0 := hmod
  -- the sums
  have s1 := Qnb (f := f) (load := load) hT
  have s2 := Qnb (f := f) (load := load) hT'
  have hl2 : (segL (natT T A n dst) f load).length = (segL T f load).length := by rw [hsp, Q20 (by rw [Q0d]; omega)]
  have hz : Q2g (segL (natT T A n dst) f load) (atN T.proto) [0, 0] = Q27 (Q2g (segL T f load) (atN T.proto) [0, 0]) (if dst then 2 else 0) (put2 n) := by
    rw [hsp]
    exact Qbj (a := put2 n) (b := [0, 0]) (by rw [Q0d]; omega) (by show atN T.proto + 2 ≤ _; exact hat)
  have hzl : (Q2g (segL T f load) (atN T.proto) [0, 0]).length = (segL T f load).length := Q5f hat rfl
  have hzw : Q07 (Q2g (segL T f load) (atN T.proto) [0, 0]) (if dst then 2 else 0) = Q07 (segL T f load) (if dst then 2 else 0) := by
    unfold Q07
    rw [Q5v hat rfl (by omega) (by omega), Q5v hat rfl (by omega) (by omega)]
  rw [hpr, hl2, hz, Q5g (by rw [Q0d]; omega) hde (by rw [Q0d]), Q0d, Q8p (by omega), hzw, Qap hn, Qhp hT hA (Q9t hof).1] at s2
  have s3 := Qcn T.proto (sumK T f load)
  have s4 := Qcn T.proto (sumK (natT T A n dst) f load)
  have hq : T.proto = 6 ∨ T.proto = 17 := hm.proto
  have key : pFix T.proto (Q64 (Q1h L T f load) A n dst) = pFix T.proto (sumK (natT T A n dst) f load) := by
    refine Qp1 (Qrm _ _ _ _) (Qdq _) (by omega) ?_
    rcases hq with h | h
    · exact .inr ⟨h, Qrp c (by rw [M.n]; exact h) _ _ _, Qku hT' (by rw [hpr]; exact hm.proto)⟩
    · exact .inl h
  rw [Qmb P b hA hu, M.n, M.p, Qau hw, Qau hw', hpr]
  show Q27 (Q27 (Q2g _ (atN T.proto) _) _ _) (atN T.proto) (put2 (pFix T.proto _)) = _
  rw [key, Qat, Qat, ← Qbj (a := put2 n) (b := put2 (pFix T.proto (sumK T f load))) (by rw [Q0d]; omega) (by rw [Q0d]; exact hat), ← hsp]
  exact Qhn (by rw [Q0d, hl2]; exact hat) rfl
end
end Go.Proofs.Ytlmdboaghojgiaa

/- What is made and rewritten is what is made for the other tuple (3): in plain Lean. -/
namespace Go.Proofs.Ytlmdboaghojgiaa
set_option linter.unusedVariables false
set_option linter.unusedSimpArgs false
open Go

section
variable {L : LinkL} {T : TupL} {f : Int} {load : List UInt8} {A : Adr} {n : Int} {dst : Bool}
theorem Qrq {H : FourL} (hH : Q3b H) (hA : A.b.length = 16) (x y : UInt8) (dst : Bool) :
    Q27 (hdr H 64 0 x y) (if dst then 16 else 12) (A.b.take 4) = hdr (if dst then { H with dst := A } else { H with src := A }) 64 0 x y ∧
    wsum (hdr (if dst then { H with dst := A } else { H with src := A }) 64 0 x y) = wsum (hdr H 64 0 x y) - wsum ((if dst then H.dst else H.src).b.take 4) + wsum (A.b.take 4) := by
  have hl := Qer hH 64 0 x y
  have ha : (A.b.take 4).length = 4 := by simp [hA]
  cases dst
  · simp only [Bool.false_eq_true, if_false]
    obtain ⟨e1, e2⟩ := Qff (f := 64) (g := 0) (x := x) (y := y) hH hA
    refine ⟨e1, ?_⟩
    rw [← e1, Q5g (by omega) (by decide) (by omega), ha, e2]
  · simp only [if_true]
    obtain ⟨e1, e2⟩ := Qfg (f := 64) (g := 0) (x := x) (y := y) hH hA
    refine ⟨e1, ?_⟩
    rw [← e1, Q5g (by omega) (by decide) (by omega), ha, e2]
theorem Qkv (hL : Q2i L) (hT : Q3f T) (hA : A.b.length = 16) (hw : whyL L T f load.length = 0) (hof : ofB T.src.six A = true) (hn : 0 ≤ n ∧ n ≤ 65535) :
    ((natX (Q1h L T f load) A n dst).drop (pkA (Q1h L T f load))).take (Q1u (Q1h L T f load) - pkA (Q1h L T f load)) = ipL (natT T A n dst) (segN T load) := by
  have P := Q80 (n := n) hL hT hw hof hn
  have b := Qba P.fine
  have M := Q7a (f := f) (load := load) hL hT hw
  have c := Qgs hL hT hw P.fine
  have hT6 := Qco (n := n) (dst := dst) hof
  have hZ : ((Q1h L T f load).drop (pkA (Q1h L T f load))).take (Q1u (Q1h L T f load) - pkA (Q1h L T f load)) = ipL T (segN T load) := by
    rw [M.pa, M.seg, M.drop]
    exact List.take_left' (by rw [Q5q hT]; show Q65 T = _; omega)
  have hat : at12 (Q1h L T f load) dst - pkA (Q1h L T f load) = (if T.src.six then 8 else 12) + (if dst then sz12 T.src.six else 0) := by unfold at12; rw [M.six]; omega
  have hfr : Q1f (Q1h L T f load) A = A.b.take (sz12 T.src.six) := by unfold Q1f; rw [M.six]
  rw [Qma b hA, hZ, hat, hfr, M.six]
  cases h6 : T.src.six with
  | true =>
    simp only [if_true]
    have i1 : ipL T (segN T load) = Q4z (Q77 T (segN T load)) := by unfold ipL; rw [if_pos h6]
    have i2 : ipL (natT T A n dst) (segN T load) = Q4z (Q77 (natT T A n dst) (segN T load)) := by unfold ipL; rw [if_pos (by rw [hT6]; exact h6)]
    rw [i1, i2]
    cases dst
    · exact Qfi (H := Q77 T (segN T load)) hT hA
    · exact Qfj (H := Q77 T (segN T load)) hT hA
  | false =>
    simp only [Bool.false_eq_true, if_false]
    have i1 : ipL T (segN T load) = Q4k (Q28 T (segN T load)) := by unfold ipL; rw [if_neg (by rw [h6]; decide)]
    have i2 : ipL (natT T A n dst) (segN T load) = Q4k (Q28 (natT T A n dst) (segN T load)) := by unfold ipL; rw [if_neg (by rw [hT6, h6]; decide)]
    rw [i1, i2]
    have hH : Q3b (Q28 T (segN T load)) := hT
    have hH' : Q3b (Q28 (natT T A n dst) (segN T load)) := Qcf hT hA
    have hk : Qdr (Q28 T (segN T load)) = 64 := rfl
    have hk' : Qdr (Q28 (natT T A n dst) (segN T load)) = 64 := rfl
    have e4 : (if dst then { Q28 T (segN T load) with dst := A } else { Q28 T (segN T load) with src := A } : FourL) = Q28 (natT T A n dst) (segN T load) := by cases dst <;> rfl
    have eo : 12 + (if dst then sz12 false else 0) = if dst then 16 else 12 := by cases dst <;> rfl
    have es : sz12 false = 4 := rfl
    have h6x : Q1k (Q1h L T f load) = false := by rw [M.six, h6]
    rw [Q4n hH, Q4n hH', hk, hk', eo, es]
    unfold sumd
    rw [(Qrq hH hA _ _ dst).1, e4, Qfh]
    -- the header's checksum
    have w1 := (Qrq hH hA 0 0 dst).2
    rw [e4] at w1
    have m1 := Qkq (hdr (Q28 T (segN T load)) 64 0 0 0)
    have m2 := Qkq (hdr (Q28 (natT T A n dst) (segN T load)) 64 0 0 0)
    have m3 := Qp2 (dst := dst) b hA
    have hipw : Q07 (Q1h L T f load) (ip12 (Q1h L T f load)) = ck (hdr (Q28 T (segN T load)) 64 0 0 0) := by
      unfold ip12
      rw [M.pa, ← Q3i, M.drop]
      unfold ipL
      rw [if_neg (by rw [h6]; decide), Qgr hH]
    rw [Qgt hL hT hw P.fine, hfr, hipw, h6, es] at m3
    have k1 := Qro c h6x A dst
    have k2 := Qna (Q1h L T f load) A dst
    have k3 := Qp3 (Qkt (Q28 (natT T A n dst) (segN T load)) 64 0 0 0)
    have k4 := Qdq (hdr (Q28 (natT T A n dst) (segN T load)) 64 0 0 0)
    have key : Q7q (Q1h L T f load) A dst = ck (hdr (Q28 (natT T A n dst) (segN T load)) 64 0 0 0) := by
      have w1' : wsum (hdr (Q28 (natT T A n dst) (segN T load)) 64 0 0 0) = wsum (hdr (Q28 T (segN T load)) 64 0 0 0) - wsum ((if dst then T.dst else T.src).b.take 4) + wsum (A.b.take 4) := w1
      omega
    rw [key]
theorem Qgh (hL : Q2i L) (hT : Q3f T) (hA : A.b.length = 16) (hw : whyL L T f load.length = 0) (hof : ofB T.src.six A = true) (hn : 0 ≤ n ∧ n ≤ 65535) :
    natX (Q1h L T f load) A n dst = Q1h L (natT T A n dst) f load := by
  have P := Q80 (n := n) hL hT hw hof hn
  have b := Qba P.fine
  have M := Q7a (f := f) (load := load) hL hT hw
  have hT6 := Qco (n := n) (dst := dst) hof
  have hsp := Qbk (T := T) (A := A) (f := f) (load := load) (dst := dst) hn
  obtain ⟨hm, hn9⟩ := Qgp hw
  have hsk := Qa1 (load := load) hm hn9
  have hat := (Q6d hsk).1
  have h6 : 6 ≤ atN T.proto := by unfold atN; split <;> omega
  have hl2 : (segL (natT T A n dst) f load).length = (segL T f load).length := by rw [hsp, Q20 (by rw [Q0d]; split <;> omega)]
  have hN : ((segL T f load).length : Int) = segN T load := by unfold segN; rw [Q6r]
  rw [Qkr P b hA, Qkv hL hT hA hw hof hn, Qmd hL hT hA hw hof hn, M.pa, M.take]
  conv => rhs; unfold Q1h
  rw [hl2, hN, hT6, List.append_assoc]
end
end Go.Proofs.Ytlmdboaghojgiaa
