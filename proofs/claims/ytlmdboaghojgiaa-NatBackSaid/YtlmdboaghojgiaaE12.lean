import Derived.Test.YtlmdboaghojgiaaS12
/- What is rewritten, read: in plain Lean. -/
namespace Go.Proofs.Ytlmdboaghojgiaa
set_option linter.unusedVariables false
set_option linter.unusedSimpArgs false
open Go

/-! ## Checksums, as they change -/
theorem Qpz (c m n : Int) : (chg c m n - (c + m - n)) % 65535 = 0 := by unfold chg ring; omega
theorem Qsa {c m n : Int} (hc : 0 ≤ c ∧ c ≤ 65534) (hm : 0 ≤ m ∧ m ≤ 65535) (hn : 0 ≤ n ∧ n ≤ 65535) : chg c m n ≤ 65534 := by unfold chg ring; omega
theorem Qhn {c : Int} {f t : List UInt8} : ∀ k, (chgd c f t k - (c + Q6d f k - Q6d t k)) % 65535 = 0
  | 0 => by simp [chgd, Q6d]
  | k + 1 => by
    have h1 := Qhn (c := c) (f := f) (t := t) k
    have h2 := Qpz (chgd c f t k) (Q06 f (2 * k)) (Q06 t (2 * k))
    show (chg (chgd c f t k) (Q06 f (2 * k)) (Q06 t (2 * k)) - (c + (Q6d f k + Q06 f (2 * k)) - (Q6d t k + Q06 t (2 * k)))) % 65535 = 0
    omega
theorem Qlz {c : Int} (hc : 0 ≤ c ∧ c ≤ 65534) (f t : List UInt8) : ∀ k, chgd c f t k ≤ 65534
  | 0 => hc.2
  | k + 1 => Qsa ⟨(Q73 (by omega) f t k).1, Qlz hc f t k⟩ (Q0z _ _) (Q0z _ _)
theorem Q6t {f t : List UInt8} (c : Int) (h : t.length = f.length) : (Q3u c f t - (c + wsum f - wsum t)) % 65535 = 0 := by
  have := Qhn (c := c) (f := f) (t := t) ((max f.length t.length + 1) / 2)
  rw [show (max f.length t.length + 1) / 2 = (f.length + 1) / 2 from by omega] at this
  have h2 := Q8z t
  rw [h] at h2
  rw [Q8z f, h2] at this
  unfold Q3u
  rw [show (max f.length t.length + 1) / 2 = (f.length + 1) / 2 from by omega]
  exact this
theorem Q7j {c : Int} (hc : 0 ≤ c ∧ c ≤ 65535) (f t : List UInt8) : 0 ≤ Q3u c f t ∧ Q3u c f t ≤ 65535 := Q73 hc f t _
theorem Q9r {c : Int} (hc : 0 ≤ c ∧ c ≤ 65534) (f t : List UInt8) : Q3u c f t ≤ 65534 := Qlz hc f t _
theorem Qge {l : List UInt8} : ck l = 0 ↔ 0 < wsum l ∧ wsum l % 65535 = 0 := by
  have := Q3d l
  unfold ck norm
  split <;> constructor <;> intro h <;> omega
theorem Q98 {n : Int} (h : 0 ≤ n ∧ n ≤ 65535) : wsum (put2 n) = n := by
  show 256 * ((b8 (n / 256)).toNat : Int) + ((b8 n).toNat : Int) + 0 = n
  rw [Q4r, Q4r]; omega
theorem Q7k {l a : List UInt8} {k : Nat} (h : k + a.length ≤ l.length) (hk : k % 2 = 0) (ha : a.length % 2 = 0) : wsum (Q51 l k a) = wsum l - wsum (subl l k (k + a.length)) + wsum a := by
  have e1 : l = l.take k ++ (subl l k (k + a.length) ++ l.drop (k + a.length)) := by
    unfold subl
    rw [← List.append_assoc]
    have : l.take k = (l.take (k + a.length)).take k := by rw [List.take_take]; congr 1; omega
    rw [this, List.take_append_drop, List.take_append_drop]
  have hs : (subl l k (k + a.length)).length = a.length := by unfold subl; simp; omega
  have ht : (l.take k).length = k := by simp; omega
  have w1 : wsum l = wsum (l.take k) + (wsum (subl l k (k + a.length)) + wsum (l.drop (k + a.length))) := by
    conv => lhs; rw [e1]
    rw [Q3e _ (by omega), Q3e _ (by omega)]
  have w2 : wsum (Q51 l k a) = wsum (l.take k) + (wsum a + wsum (l.drop (k + a.length))) := by
    unfold Q51
    rw [List.append_assoc, Q3e _ (by omega), Q3e _ ha]
  omega
theorem Qit {l : List UInt8} (h : 0 < Q08 l 0) : 0 < wsum l := by
  refine Qd2 ?_
  cases l with
  | nil => exact absurd h (by decide)
  | cons x r =>
    have : (0 : Int) < (x.toNat : Int) := h
    simp only [List.any_cons, Bool.or_eq_true, bne_iff_ne, ne_eq]
    left
    intro h0
    rw [h0] at this
    exact absurd this (by decide)
theorem Q7l {l : List UInt8} {k : Nat} (h : k + 2 ≤ l.length) : wsum (subl l k (k + 2)) = Q06 l k := by
  have e : subl l k (k + 2) = [l[k]'(by omega), l[k + 1]'(by omega)] := by
    apply List.ext_getElem
    · simp [subl]; omega
    · intro j h1 h2
      simp [subl] at h1
      match j, h1 with
      | 0, _ => simp [subl]
      | 1, _ => simp [subl]
      | j + 2, h => exact absurd h (by omega)
  rw [e]
  unfold Q06
  rw [Q0q (by omega), Q0q (by omega)]
  simp [wsum]
theorem Q9s {x y : List UInt8} {i j n : Nat} (h : ∀ q, q < n → x[i + q]? = y[j + q]?) : (x.drop i).take n = (y.drop j).take n := by
  apply List.ext_getElem?
  intro q
  by_cases hq : q < n
  · rw [List.getElem?_take_of_lt hq, List.getElem?_take_of_lt hq, List.getElem?_drop, List.getElem?_drop]; exact h q hq
  · rw [List.getElem?_eq_none (by simp; omega), List.getElem?_eq_none (by simp; omega)]
theorem Q99 {l : List UInt8} {i j q : Nat} (h : i + q < j) : (subl l i j)[q]? = l[i + q]? := by
  unfold subl
  rw [List.getElem?_drop, List.getElem?_take_of_lt h]
theorem Qq0 {x y : List UInt8} {i j i2 j2 : Nat} (hn : j - i = j2 - i2) (h : ∀ q, q < j - i → x[i + q]? = y[i2 + q]?) : subl x i j = subl y i2 j2 := by
  unfold subl
  rw [List.drop_take, List.drop_take, ← hn]
  exact Q9s h

section
variable {l : List UInt8} {A : Adr} {n : Int} {dst : Bool}
theorem Qcg (b : NatB l) (hA : A.b.length = 16) {i : Nat} (hi : i < endP l) (h1 : i < at12 l dst ∨ at12 l dst + sz12 (Q1k l) ≤ i) (h2 : i < pl12 l dst ∨ pl12 l dst + 2 ≤ i) (h3 : Q1k l = true ∨ i < ip12 l ∨ ip12 l + 2 ≤ i) (h4 : udp0 l ∨ i < ck12 l ∨ ck12 l + 2 ≤ i) : (natX l A n dst)[i]? = l[i]? := by
  have n4 : ¬ (¬ udp0 l ∧ ck12 l ≤ i ∧ i < ck12 l + 2) := by
    rintro ⟨k1, k2, k3⟩
    rcases h4 with h | h
    · exact k1 h
    · omega
  have n3 : ¬ (Q1k l = false ∧ ip12 l ≤ i ∧ i < ip12 l + 2) := by
    rintro ⟨k1, k2, k3⟩
    rcases h3 with h | h
    · rw [k1] at h; cases h
    · omega
  rw [Q5x b hA, if_neg n4, Q5w b hA, if_neg n3, Q6o b hA, if_neg (by omega), if_neg (by omega), List.getElem?_take_of_lt hi]
theorem Qho (b : NatB l) (hA : A.b.length = 16) {q : Nat} (hq : q < sz12 (Q1k l)) : (natX l A n dst)[at12 l dst + q]? = A.b[q]? := by
  have hp := Q1b (dst := dst) b
  rw [Q5x b hA, if_neg (by omega), Q5w b hA, if_neg (by rintro ⟨k1, k2, k3⟩; have := hp.2.2.1 k1; omega), Q6o b hA, if_neg (by omega), if_pos (by omega)]
  unfold Q1p
  rw [List.getElem?_take_of_lt (by omega)]
  congr 1; omega
theorem Qm0 (b : NatB l) (hA : A.b.length = 16) {q : Nat} (hq : q < 2) : (natX l A n dst)[pl12 l dst + q]? = (put2 n)[q]? := by
  have hp := Q1b (dst := dst) b
  rw [Q5x b hA, if_neg (by omega), Q5w b hA, if_neg (by omega), Q6o b hA, if_pos (by omega)]
  congr 1; omega
theorem X_ip (b : NatB l) (hA : A.b.length = 16) (h6 : Q1k l = false) {q : Nat} (hq : q < 2) : (natX l A n dst)[ip12 l + q]? = (put2 (Q7n l A dst))[q]? := by
  have hp := Q1b (dst := dst) b
  rw [Q5x b hA, if_neg (by omega), Q5w b hA, if_pos ⟨h6, by omega, by omega⟩]
  congr 1; omega
theorem X_ck (b : NatB l) (hA : A.b.length = 16) (hu : ¬ udp0 l) {q : Nat} (hq : q < 2) : (natX l A n dst)[ck12 l + q]? = (put2 (pFix (pkN l).1.proto (Q5m l A n dst)))[q]? := by
  rw [Q5x b hA, if_pos ⟨hu, by omega, by omega⟩]
  congr 1; omega
theorem Qsb (b : NatB l) (hA : A.b.length = 16) {i : Nat} (hi : i < endP l) (h1 : i < at12 l dst ∨ at12 l dst + sz12 (Q1k l) ≤ i) (h2 : i < pl12 l dst ∨ pl12 l dst + 2 ≤ i) (h3 : Q1k l = true ∨ i < ip12 l ∨ ip12 l + 2 ≤ i) (h4 : udp0 l ∨ i < ck12 l ∨ ck12 l + 2 ≤ i) : Q08 (natX l A n dst) i = Q08 l i := by
  rw [Q1t, Q1t, Qcg b hA hi h1 h2 h3 h4]
theorem Q4o (x : List UInt8) (k i : Nat) : Q08 (x.drop k) i = Q08 x (k + i) := by rw [Q1t, Q1t, List.getElem?_drop]
/-! ## The link's header -/
theorem Qnm (b : NatB l) (hA : A.b.length = 16) : natX l A n dst = l.take (pkA l) ++ (natX l A n dst).drop (pkA l) := by
  have hp := Q1b (dst := dst) b
  have e : (natX l A n dst).take (pkA l) = l.take (pkA l) := by
    have := Q9s (x := natX l A n dst) (y := l) (i := 0) (j := 0) (n := pkA l) fun q hq => by
      rw [Nat.zero_add]
      have h2 := b.h20
      exact Qcg b hA (by unfold Q21 at hp; omega) (by omega) (by omega) (by unfold ip12; omega) (by omega)
    simpa using this
  conv => lhs; rw [← List.take_append_drop (pkA l) (natX l A n dst)]
  rw [e]
theorem Q9a (b : NatB l) (h : FineP l) (hA : A.b.length = 16) : Q0b (natX l A n dst) = Q0b l ∧ pkA (natX l A n dst) = pkA l := by
  have e : Q0b (natX l A n dst) = Q0b l := by
    conv => lhs; rw [Qnm b hA]
    exact Qha h.lk (Nat.le_refl _)
  exact ⟨e, by unfold pkA; rw [e]⟩
/-! ## The IP header -/
theorem Qhp (h6 : Q1k l = true) : ∃ o, at12 l dst = pkA l + o ∧ sz12 (Q1k l) = 16 ∧ (o = 8 ∧ dst = false ∨ o = 24 ∧ dst = true) := by
  unfold at12 sz12
  cases dst <;> simp [h6] <;> omega
theorem Qez (h6 : Q1k l = false) : ∃ o, at12 l dst = pkA l + o ∧ sz12 (Q1k l) = 4 ∧ (o = 12 ∧ dst = false ∨ o = 16 ∧ dst = true) := by
  unfold at12 sz12
  cases dst <;> simp [h6] <;> omega
def Qiu (N : NetT) (A : Adr) (dst : Bool) : NetT := { N with src := if dst then N.src else A, dst := if dst then A else N.dst }
theorem Qf0 (l : List UInt8) (A : Adr) (dst : Bool) : 0 ≤ Q7n l A dst ∧ Q7n l A dst ≤ 65535 := Q7j (Q0z _ _) _ _
theorem Qnn (b : NatB l) (h : FineP l) (hA : A.b.length = 16) (h6 : Q1k l = false) (hsh : Q2y A = true) : netT (Q0b l).1.type ((natX l A n dst).drop (pkA l)) = (Qiu (pkN l).1 A dst, 0) := by
  have hp := Q1b (dst := dst) b
  have hs := Q9m (k := (Q0b l).1.type) (l := l.drop (pkA l)) h.nt
  have h4 : (Q0b l).1.type = 2048 := by
    have h7 : (netT (Q0b l).1.type (l.drop (pkA l))).1.src.six = false := h6
    rw [hs.1] at h7
    simpa using h7
  have hN : pkN l = netT 2048 (l.drop (pkA l)) := by unfold pkN; rw [h4]
  have hq : (Q0n (l.drop (pkA l))).2 = 0 := by have := h.nt; rw [hN] at this; exact this
  obtain ⟨c1, c2, c3, c4, c5, c6⟩ := Q33 hq
  have e := Q1w c1 c2 c3 c4 c5 c6
  have eN : (pkN l).1 = ⟨Q08 (l.drop (pkA l)) 0 % 16 * 4, Q06 (l.drop (pkA l)) 2, Q08 (l.drop (pkA l)) 9, decide (Q06 (l.drop (pkA l)) 6 % 16384 ≠ 0), adr4 (l.drop (pkA l)) 12, adr4 (l.drop (pkA l)) 16⟩ := by
    rw [hN]; unfold netT; rw [if_pos rfl, e]; rfl
  have hsg : Q21 l = pkA l + (Q08 (l.drop (pkA l)) 0 % 16 * 4).toNat := by unfold Q21; rw [eN]
  have hen : endP l = pkA l + (Q06 (l.drop (pkA l)) 2).toNat := by unfold endP; rw [eN]
  obtain ⟨o, ho, hz, hd⟩ := Qez (dst := dst) h6
  have hw := Q0z (l.drop (pkA l)) 2
  have hb0 := Q17 (l.drop (pkA l)) 0
  have hXl := Q57 (n := n) (dst := dst) b hA
  have hlen9 := b.len
  have hyl : ((natX l A n dst).drop (pkA l)).length = (Q06 (l.drop (pkA l)) 2).toNat := by rw [List.length_drop]; omega
  have g : ∀ i, pkA l + i < Q21 l → (i < 10 ∨ 12 ≤ i) → (i < o ∨ o + 4 ≤ i) → ((natX l A n dst).drop (pkA l))[i]? = (l.drop (pkA l))[i]? := fun i h1 h2 h3 => by
    rw [List.getElem?_drop, List.getElem?_drop]
    exact Qcg b hA (by omega) (by omega) (by omega) (by unfold ip12; omega) (by omega)
  have gb : ∀ i, pkA l + i < Q21 l → (i < 10 ∨ 12 ≤ i) → (i < o ∨ o + 4 ≤ i) → Q08 ((natX l A n dst).drop (pkA l)) i = Q08 (l.drop (pkA l)) i := fun i h1 h2 h3 => by
    rw [Q1t, Q1t, g i h1 h2 h3]
  have gw : ∀ i, i + 1 < 10 → Q06 ((natX l A n dst).drop (pkA l)) i = Q06 (l.drop (pkA l)) i := fun i h1 => by
    unfold Q06; rw [gb i (by omega) (by omega) (by omega), gb (i + 1) (by omega) (by omega) (by omega)]
  have hf := Q4h (l := l) hA
  have hHl : ((l.drop (pkA l)).take (Q08 (l.drop (pkA l)) 0 % 16 * 4).toNat).length = (Q08 (l.drop (pkA l)) 0 % 16 * 4).toNat := by rw [List.length_take]; omega
  have hyz : ((natX l A n dst).drop (pkA l)).take (Q08 (l.drop (pkA l)) 0 % 16 * 4).toNat = Q51 (Q51 ((l.drop (pkA l)).take (Q08 (l.drop (pkA l)) 0 % 16 * 4).toNat) o (Q1p l A)) 10 (put2 (Q7n l A dst)) := by
    have l1 : o + (Q1p l A).length ≤ ((l.drop (pkA l)).take (Q08 (l.drop (pkA l)) 0 % 16 * 4).toNat).length := by omega
    apply List.ext_getElem?
    intro i
    rw [Q4a (by rw [Q2w l1, Q0r]; omega), Q4a l1, Q0r, hf, hz]
    by_cases hi : i < (Q08 (l.drop (pkA l)) 0 % 16 * 4).toNat
    · rw [List.getElem?_take_of_lt hi]
      by_cases i1 : 10 ≤ i ∧ i < 10 + 2
      · rw [if_pos i1, List.getElem?_drop]
        have := X_ip (n := n) (dst := dst) b hA h6 (q := i - 10) (by omega)
        unfold ip12 at this
        rw [← this]
        congr 1; omega
      · rw [if_neg i1]
        by_cases i2 : o ≤ i ∧ i < o + 4
        · rw [if_pos i2, List.getElem?_drop]
          have := Qho (n := n) (dst := dst) b hA (q := i - o) (by omega)
          unfold Q1p
          rw [List.getElem?_take_of_lt (by omega), ← this]
          congr 1; omega
        · rw [if_neg i2, List.getElem?_take_of_lt hi]
          exact g i (by omega) (by omega) (by omega)
    · rw [if_neg (by omega), if_neg (by omega), List.getElem?_eq_none (by simp; omega), List.getElem?_eq_none (by simp; omega)]
  have hck : ck (((natX l A n dst).drop (pkA l)).take (Q08 (l.drop (pkA l)) 0 % 16 * 4).toNat) = 0 := by
    have l1 : o + (Q1p l A).length ≤ ((l.drop (pkA l)).take (Q08 (l.drop (pkA l)) 0 % 16 * 4).toNat).length := by omega
    have k6 : ck ((l.drop (pkA l)).take (Q08 (l.drop (pkA l)) 0 % 16 * 4).toNat) = 0 := Decidable.not_not.1 c6
    rw [Qge] at k6 ⊢
    refine ⟨?_, ?_⟩
    · refine Qit ?_
      rw [Q25 (by omega), gb 0 (by omega) (by omega) (by omega)]
      omega
    · rw [hyz, Q7k (by rw [Q2w l1, Q0r]; omega) (by decide) (by rw [Q0r]), Q7k l1 (by omega) (by omega), Q98 (Qf0 _ _ _), Q0r, Q7l (by rw [Q2w l1]; omega)]
      have s1 : subl ((l.drop (pkA l)).take (Q08 (l.drop (pkA l)) 0 % 16 * 4).toNat) o (o + (Q1p l A).length) = Q50 l dst := by
        unfold Q50
        refine Qq0 (by omega) fun q hq => ?_
        rw [List.getElem?_take_of_lt (by omega), List.getElem?_drop]
        congr 1; omega
      have s2 : Q06 (Q51 ((l.drop (pkA l)).take (Q08 (l.drop (pkA l)) 0 % 16 * 4).toNat) o (Q1p l A)) 10 = Q06 l (ip12 l) := by
        unfold Q06 ip12
        rw [Q8t l1 (by omega), Q8t l1 (by omega), Q25 (by omega), Q25 (by omega), Q4o, Q4o]
      rw [s1, s2]
      have hm := Q6t (f := Q50 l dst) (t := Q1p l A) (Q06 l (ip12 l)) (by rw [hf]; unfold Q50 subl; simp; omega)
      have k7 := k6.2
      unfold Q7n
      omega
  have e2 : Q0n ((natX l A n dst).drop (pkA l)) = (Q8u ((natX l A n dst).drop (pkA l)), 0) := by
    refine Q1w (by omega) ?_ ?_ ?_ ?_ ?_
    · rw [gb 0 (by omega) (by omega) (by omega)]; exact c2
    · rw [gb 0 (by omega) (by omega) (by omega)]; omega
    · rw [gb 0 (by omega) (by omega) (by omega), gw 2 (by omega)]; exact c4
    · rw [gw 2 (by omega)]; omega
    · rw [gb 0 (by omega) (by omega) (by omega)]; exact not_not_intro hck
  rw [h4]
  unfold netT
  rw [if_pos rfl, e2, eN]
  unfold Qiu Q8u
  rw [gb 0 (by omega) (by omega) (by omega), gw 2 (by omega), gw 6 (by omega), gb 9 (by omega) (by omega) (by omega)]
  have hAs := Qii hA hsh
  have a1 : ∀ j, (j = 12 ∨ j = 16) → j ≠ o → adr4 ((natX l A n dst).drop (pkA l)) j = adr4 (l.drop (pkA l)) j := fun j hj hjo => by
    unfold adr4
    rw [Q9s (y := l.drop (pkA l)) (j := j) fun q hq => g (j + q) (by omega) (by omega) (by omega)]
  have a2 : adr4 ((natX l A n dst).drop (pkA l)) o = A := by
    conv => rhs; rw [hAs]
    unfold adr4
    congr 2
    have := Q9s (x := (natX l A n dst).drop (pkA l)) (y := A.b) (i := o) (j := 0) (n := 4) fun q hq => by
      rw [List.getElem?_drop, Nat.zero_add, ← Qho (n := n) (dst := dst) b hA (q := q) (by omega)]
      congr 1; omega
    simpa using this
  rcases hd with ⟨rfl, rfl⟩ | ⟨rfl, rfl⟩
  · rw [a2, a1 16 (.inr rfl) (by decide)]; rfl
  · rw [a2, a1 12 (.inl rfl) (by decide)]; rfl
theorem Qsw {H : SixL} : ∀ (k : Nat) (R : List UInt8) (h : Int) (f : Bool) (p : Int), (Q3j H k R h f p).2 = 0 → h ≤ (Q3j H k R h f p).1.head := by
  intro k
  induction k with
  | zero =>
    intro R h f p
    by_cases c : (f || !extB p) = true
    · rw [Q2a c]; intro _; exact Int.le_refl _
    · rw [Q4j (by simpa using c)]; intro h0; exact absurd h0 (by decide)
  | succ k ih =>
    intro R h f p
    by_cases c : (f || !extB p) = true
    · rw [Q2a c]; intro _; exact Int.le_refl _
    · have c' : (f || !extB p) = false := by simpa using c
      by_cases e : (R.length : Int) < 8 ∨ (R.length : Int) < Q2k p (Q08 R 1)
      · rw [Q4y c' e]; intro h0; exact absurd h0 (by decide)
      · rw [Q42 c' e]
        intro h0
        have := ih _ _ _ _ h0
        have hge := Q8w (Qav c') (Q17 R 1).1
        omega
theorem Qm1 {H : SixL} {A D : Adr} : ∀ (k : Nat) (R R' : List UInt8) (h : Int) (f : Bool) (p : Int), R'.length = R.length → (Q3j H k R h f p).2 = 0 → (∀ i : Nat, h + (i : Int) < (Q3j H k R h f p).1.head → Q08 R' i = Q08 R i) →
    Q3j { H with src := A, dst := D } k R' h f p = ({ (Q3j H k R h f p).1 with src := A, dst := D }, 0) := by
  intro k
  induction k with
  | zero =>
    intro R R' h f p hl h0 hb
    by_cases c : (f || !extB p) = true
    · rw [Q2a c, Q2a c]
    · rw [Q4j (by simpa using c)] at h0; exact absurd h0 (by decide)
  | succ k ih =>
    intro R R' h f p hl h0 hb
    by_cases c : (f || !extB p) = true
    · rw [Q2a c, Q2a c]
    · have c' : (f || !extB p) = false := by simpa using c
      by_cases e : (R.length : Int) < 8 ∨ (R.length : Int) < Q2k p (Q08 R 1)
      · rw [Q4y c' e] at h0; exact absurd h0 (by decide)
      · rw [Q42 c' e] at h0 hb ⊢
        have hge := Q8w (Qav c') (Q17 R 1).1
        have hh := Qsw _ _ _ _ _ h0
        have b0 := hb 0 (by omega)
        have b1 := hb 1 (by omega)
        have b2 := hb 2 (by omega)
        have b3 := hb 3 (by omega)
        have hpb : Q7b R' = Q7b R := by unfold Q7b Q06; rw [b2, show (2 : Nat) + 1 = 3 from rfl, b3]
        rw [Q42 c' (by rw [hl, b1]; exact e), b0, b1, hpb]
        exact ih _ _ _ _ _ (by rw [List.length_drop, List.length_drop, hl]) h0 fun i hi => by
          rw [Q4o, Q4o]
          exact hb _ (by omega)
theorem Qq1 (b : NatB l) (h : FineP l) (hA : A.b.length = 16) (h6 : Q1k l = true) (ha6 : A.six = true) : netT (Q0b l).1.type ((natX l A n dst).drop (pkA l)) = (Qiu (pkN l).1 A dst, 0) := by
  have hp := Q1b (dst := dst) b
  have hs := Q9m (k := (Q0b l).1.type) (l := l.drop (pkA l)) h.nt
  have h4 : (Q0b l).1.type ≠ 2048 := by
    have h7 : (netT (Q0b l).1.type (l.drop (pkA l))).1.src.six = true := h6
    rw [hs.1] at h7
    simpa using h7
  have hN : pkN l = (⟨(Q0m (l.drop (pkA l))).1.head, (Q0m (l.drop (pkA l))).1.total, (Q0m (l.drop (pkA l))).1.proto, (Q0m (l.drop (pkA l))).1.frag, (Q0m (l.drop (pkA l))).1.src, (Q0m (l.drop (pkA l))).1.dst⟩, (Q0m (l.drop (pkA l))).2) := by unfold pkN netT; rw [if_neg h4]
  have hq : (Q0m (l.drop (pkA l))).2 = 0 := by have := h.nt; rw [hN] at this; exact this
  obtain ⟨c1, c2, c3⟩ := Q8v hq
  have e : Q0m (l.drop (pkA l)) = Q3j (Q2d (l.drop (pkA l))) 8 (((l.drop (pkA l)).take (40 + Q06 (l.drop (pkA l)) 4).toNat).drop 40) 40 false (Q08 (l.drop (pkA l)) 6) := by unfold Q0m; rw [if_neg c1, if_neg c2, if_neg c3]
  have hw := Q0z (l.drop (pkA l)) 4
  have hbd := Qpd (H := Q2d (l.drop (pkA l))) 8 (((l.drop (pkA l)).take (40 + Q06 (l.drop (pkA l)) 4).toNat).drop 40) 40 false (Q08 (l.drop (pkA l)) 6) (by omega) (by show (40 : Int) + _ = 40 + Q06 (l.drop (pkA l)) 4; rw [List.length_drop, List.length_take]; omega) (Q17 _ 6)
  rw [e] at hq
  rcases hbd with hbd | ⟨g1, g2, g3, g4⟩
  · exact absurd hq hbd.2
  rw [← e] at g1 g2 g3 g4
  have g3' : (Q0m (l.drop (pkA l))).1.total = 40 + Q06 (l.drop (pkA l)) 4 := g3
  have hsg : Q21 l = pkA l + (Q0m (l.drop (pkA l))).1.head.toNat := by unfold Q21; rw [hN]
  have hen : endP l = pkA l + (40 + Q06 (l.drop (pkA l)) 4).toNat := by unfold endP; rw [hN]; show _ + (Q0m _).1.total.toNat = _; rw [g3']
  obtain ⟨o, ho, hz, hd⟩ := Qhp (dst := dst) h6
  have hXl := Q57 (n := n) (dst := dst) b hA
  have hlen9 := b.len
  have hyl : ((natX l A n dst).drop (pkA l)).length = (40 + Q06 (l.drop (pkA l)) 4).toNat := by rw [List.length_drop]; omega
  have g : ∀ i, pkA l + i < Q21 l → (i < o ∨ o + 16 ≤ i) → ((natX l A n dst).drop (pkA l))[i]? = (l.drop (pkA l))[i]? := fun i h1 h3 => by
    rw [List.getElem?_drop, List.getElem?_drop]
    exact Qcg b hA (by omega) (by omega) (by omega) (.inl h6) (by omega)
  have gb : ∀ i, pkA l + i < Q21 l → (i < o ∨ o + 16 ≤ i) → Q08 ((natX l A n dst).drop (pkA l)) i = Q08 (l.drop (pkA l)) i := fun i h1 h3 => by
    rw [Q1t, Q1t, g i h1 h3]
  have w4 : Q06 ((natX l A n dst).drop (pkA l)) 4 = Q06 (l.drop (pkA l)) 4 := by
    unfold Q06; rw [gb 4 (by omega) (by omega), gb (4 + 1) (by omega) (by omega)]
  have a1 : ∀ j, (j = 8 ∨ j = 24) → j ≠ o → adr6 ((natX l A n dst).drop (pkA l)) j = adr6 (l.drop (pkA l)) j := fun j hj hjo => by
    unfold adr6
    rw [Q9s (y := l.drop (pkA l)) (j := j) fun q hq => g (j + q) (by omega) (by omega)]
  have a2 : adr6 ((natX l A n dst).drop (pkA l)) o = A := by
    unfold adr6
    have := Q9s (x := (natX l A n dst).drop (pkA l)) (y := A.b) (i := o) (j := 0) (n := 16) fun q hq => by
      rw [List.getElem?_drop, Nat.zero_add, ← Qho (n := n) (dst := dst) b hA (q := q) (by omega)]
      congr 1; omega
    rw [this]
    obtain ⟨s6, bb⟩ := A
    simp only at ha6 hA
    subst ha6
    simp [List.take_of_length_le (Nat.le_of_eq hA)]
  have hgo := Qm1 (H := Q2d (l.drop (pkA l))) (A := if dst then adr6 (l.drop (pkA l)) 8 else A) (D := if dst then A else adr6 (l.drop (pkA l)) 24) 8 (((l.drop (pkA l)).take (40 + Q06 (l.drop (pkA l)) 4).toNat).drop 40)
    ((((natX l A n dst).drop (pkA l)).take (40 + Q06 (l.drop (pkA l)) 4).toNat).drop 40) 40 false (Q08 (l.drop (pkA l)) 6) (by rw [List.length_drop, List.length_drop, List.length_take, List.length_take]; omega) hq (fun i hi => by
      rw [← e] at hi
      rw [Q4o, Q4o, Q25 (by omega), Q25 (by omega)]
      exact gb _ (by omega) (by omega))
  have e2 : Q0m ((natX l A n dst).drop (pkA l)) = ({ (Q0m (l.drop (pkA l))).1 with src := if dst then adr6 (l.drop (pkA l)) 8 else A, dst := if dst then A else adr6 (l.drop (pkA l)) 24 }, 0) := by
    conv => rhs; rw [e]
    rw [← hgo]
    unfold Q0m
    rw [if_neg (by omega), if_neg (by rw [gb 0 (by omega) (by omega)]; exact c2), if_neg (by rw [w4]; omega), w4, gb 6 (by omega) (by omega)]
    congr 1
    unfold Q2d
    rw [w4, gb 6 (by omega) (by omega), gb 7 (by omega) (by omega)]
    rcases hd with ⟨rfl, rfl⟩ | ⟨rfl, rfl⟩
    · rw [a2, a1 24 (.inr rfl) (by decide)]; rfl
    · rw [a2, a1 8 (.inl rfl) (by decide)]; rfl
  have hsd : (Q0m (l.drop (pkA l))).1.src = adr6 (l.drop (pkA l)) 8 ∧ (Q0m (l.drop (pkA l))).1.dst = adr6 (l.drop (pkA l)) 24 := by
    have := Qm1 (H := Q2d (l.drop (pkA l))) (A := adr6 (l.drop (pkA l)) 8) (D := adr6 (l.drop (pkA l)) 24) 8 _ _ 40 false (Q08 (l.drop (pkA l)) 6) rfl hq (fun _ _ => rfl)
    rw [e]
    have t : ({ Q2d (l.drop (pkA l)) with src := adr6 (l.drop (pkA l)) 8, dst := adr6 (l.drop (pkA l)) 24 } : SixL) = Q2d (l.drop (pkA l)) := rfl
    rw [t] at this
    rw [this]
    exact ⟨rfl, rfl⟩
  unfold netT
  rw [if_neg h4, e2]
  unfold Qiu
  rw [hN]
  simp only [hsd]
theorem Qdd (P : NatP l A n) (b : NatB l) (hA : A.b.length = 16) : pkN (natX l A n dst) = (Qiu (pkN l).1 A dst, 0) := by
  obtain ⟨k1, k2⟩ := Q9a (n := n) (dst := dst) b P.fine hA
  unfold pkN
  rw [k1, k2]
  cases h6 : Q1k l with
  | true => exact Qq1 b P.fine hA h6 (by rw [P.six, h6])
  | false => exact Qnn b P.fine hA h6 (P.short h6)
end
end Go.Proofs.Ytlmdboaghojgiaa

/- What is rewritten, read (the segment); its checksum: in plain Lean. -/
namespace Go.Proofs.Ytlmdboaghojgiaa
set_option linter.unusedVariables false
set_option linter.unusedSimpArgs false
open Go

/-! ## The segment's header -/
theorem Q65 {q : Int} {s : List UInt8} (h : (Q0g q s).2 = 0) : (Q0g q s).1.sport = Q06 s 0 ∧ (Q0g q s).1.dport = Q06 s 2 := by
  unfold Q0g at h ⊢
  by_cases h6 : q = 6
  · rw [if_pos h6] at h ⊢
    unfold Q23 at h ⊢
    split at h; · simp at h
    split at h; · simp at h
    split at h; · simp at h
    rename_i h1 h2 h3
    rw [if_neg h1, if_neg h2, if_neg h3]
    exact ⟨rfl, rfl⟩
  · rw [if_neg h6] at h ⊢
    by_cases h17 : q = 17
    · rw [if_pos h17] at h ⊢
      unfold Q24 at h ⊢
      split at h; · simp at h
      split at h; · simp at h
      split at h; · simp at h
      rename_i h1 h2 h3
      rw [if_neg h1, if_neg h2, if_neg h3]
      exact ⟨rfl, rfl⟩
    · rw [if_neg h17] at h; simp at h
theorem Qbu {q : Int} {s m : List UInt8} (hl : m.length = s.length) (hb : ∀ i, 4 ≤ i → i ≠ atN q → i ≠ atN q + 1 → Q08 m i = Q08 s i) (h : (Q0g q s).2 = 0) :
    Q0g q m = ({ (Q0g q s).1 with sport := Q06 m 0, dport := Q06 m 2 }, 0) := by
  unfold Q0g at h ⊢
  by_cases h6 : q = 6
  · have ha : atN q = 16 := by unfold atN; rw [if_pos h6]
    rw [if_pos h6] at h ⊢
    rw [if_pos h6]
    unfold Q23 at h ⊢
    have b12 := hb 12 (by omega) (by omega) (by omega)
    have b13 := hb 13 (by omega) (by omega) (by omega)
    split at h; · simp at h
    split at h; · simp at h
    split at h; · simp at h
    rename_i h1 h2 h3
    rw [b12, b13, hl, if_neg h1, if_neg h2, if_neg h3, if_neg h1, if_neg h2, if_neg h3]
  · rw [if_neg h6] at h ⊢
    rw [if_neg h6]
    by_cases h17 : q = 17
    · have ha : atN q = 6 := by unfold atN; rw [if_neg h6]
      rw [if_pos h17] at h ⊢
      rw [if_pos h17]
      unfold Q24 at h ⊢
      have w4 : Q06 m 4 = Q06 s 4 := by unfold Q06; rw [hb 4 (by omega) (by omega) (by omega), hb (4 + 1) (by omega) (by omega) (by omega)]
      split at h; · simp at h
      split at h; · simp at h
      split at h; · simp at h
      rename_i h1 h2 h3
      rw [w4, hl, if_neg h1, if_neg h2, if_neg h3, if_neg h1, if_neg h2, if_neg h3]
    · rw [if_neg h17] at h; simp at h
theorem Qbe {l : List UInt8} {i j k : Nat} (h : i + k < j) : Q08 (subl l i j) k = Q08 l (i + k) := by rw [Q1t, Q1t, Q99 h]
theorem Qbf {l : List UInt8} {i j k : Nat} (h : i + k + 1 < j) : Q06 (subl l i j) k = Q06 l (i + k) := by
  unfold Q06; rw [Qbe (by omega), Qbe (by omega)]; rfl
theorem Q9b {l : List UInt8} {k : Nat} {n : Int} (hn : 0 ≤ n ∧ n ≤ 65535) (h : ∀ q, q < 2 → l[k + q]? = (put2 n)[q]?) : Q06 l k = n := by
  unfold Q06
  rw [Q1t, Q1t, h 1 (by omega)]
  have h0 := h 0 (by omega)
  rw [Nat.add_zero] at h0
  rw [h0]
  show 256 * ((b8 (n / 256)).toNat : Int) + ((b8 n).toNat : Int) = n
  rw [Q4r, Q4r]; omega
def natT (T : TupL) (A : Adr) (n : Int) (dst : Bool) : TupL := if dst then { T with dst := A, dport := n } else { T with src := A, sport := n }
section
variable {l : List UInt8} {A : Adr} {n : Int} {dst : Bool}
theorem Qbg (l : List UInt8) (A : Adr) (n : Int) (dst : Bool) : 0 ≤ Q5m l A n dst ∧ Q5m l A n dst ≤ 65535 := Q7j (Q7j (Q0z _ _) _ _) _ _
theorem Qf8 (P : NatP l A n) (b : NatB l) (hA : A.b.length = 16) : pkP (natX l A n dst) = subl (natX l A n dst) (Q21 l) (endP l) := by
  unfold pkP
  rw [(Q9a b P.fine hA).2, Qdd P b hA]; rfl
theorem Q6k (P : NatP l A n) (b : NatB l) (hA : A.b.length = 16) : (pkP (natX l A n dst)).length = (pkP l).length := by
  rw [Qf8 P b hA]
  have h1 := b.seg
  have h2 := Q57 (n := n) (dst := dst) b hA
  unfold subl
  rw [List.length_drop, List.length_take]; omega
theorem Qsc (b : NatB l) {k : Nat} (h : k < (pkP l).length) : (pkP l)[k]? = l[Q21 l + k]? := by
  have h1 := b.seg
  show (subl l (Q21 l) (endP l))[k]? = _
  exact Q99 (by omega)
theorem Qde (P : NatP l A n) (b : NatB l) (hA : A.b.length = 16) {k : Nat} (h : k < (pkP l).length) : (pkP (natX l A n dst))[k]? = (natX l A n dst)[Q21 l + k]? := by
  have h1 := b.seg
  rw [Qf8 P b hA]
  exact Q99 (by omega)
theorem Qbh (P : NatP l A n) (b : NatB l) (hA : A.b.length = 16) {k : Nat} (h : k < (pkP l).length) (h1 : Q21 l + k < pl12 l dst ∨ pl12 l dst + 2 ≤ Q21 l + k) (h2 : udp0 l ∨ k < atN (pkN l).1.proto ∨ atN (pkN l).1.proto + 2 ≤ k) : (pkP (natX l A n dst))[k]? = (pkP l)[k]? := by
  have hp := Q1b (dst := dst) b
  have hs := b.seg
  rw [Qde P b hA h, Qsc b h]
  refine Qcg b hA (by omega) (by omega) h1 (by omega) ?_
  unfold ck12
  rcases h2 with h2 | h2
  · exact .inl h2
  · right; omega
theorem Qm2 (P : NatP l A n) (b : NatB l) (hA : A.b.length = 16) : Q06 (pkP (natX l A n dst)) 0 = (if dst then Q06 (pkP l) 0 else n) ∧ Q06 (pkP (natX l A n dst)) 2 = (if dst then n else Q06 (pkP l) 2) := by
  have hp := Q1b (dst := dst) b
  have h8 := b.ports
  have h6 := b.at6
  have hpl : pl12 l dst = Q21 l + (if dst then 2 else 0) := rfl
  have e1 : Q06 (pkP (natX l A n dst)) (if dst then 2 else 0) = n := by
    refine Q9b P.port fun q hq => ?_
    rw [Qde P b hA (by split <;> omega), ← Nat.add_assoc, ← hpl]
    exact Qm0 b hA hq
  have e2 : ∀ k, k + 2 ≤ 4 → (k = 0 ∧ dst = true ∨ k = 2 ∧ dst = false) → Q06 (pkP (natX l A n dst)) k = Q06 (pkP l) k := fun k hk hd => by
    have : ∀ i, k ≤ i → i < k + 2 → Q08 (pkP (natX l A n dst)) i = Q08 (pkP l) i := fun i h1 h2 => by
      rw [Q1t, Q1t, Qbh P b hA (by omega) (by rcases hd with ⟨rfl, rfl⟩ | ⟨rfl, rfl⟩ <;> simp at hpl <;> omega) (.inr (by omega))]
    unfold Q06
    rw [this k (by omega) (by omega), this (k + 1) (by omega) (by omega)]
  cases dst with
  | true => exact ⟨e2 0 (by omega) (.inl ⟨rfl, rfl⟩), e1⟩
  | false => exact ⟨e1, e2 2 (by omega) (.inr ⟨rfl, rfl⟩)⟩
theorem Qac (P : NatP l A n) (b : NatB l) (hA : A.b.length = 16) : Q0g (pkN l).1.proto (pkP (natX l A n dst)) =
    ({ (Q0g (pkN l).1.proto (pkP l)).1 with sport := if dst then (Q0g (pkN l).1.proto (pkP l)).1.sport else n, dport := if dst then n else (Q0g (pkN l).1.proto (pkP l)).1.dport }, 0) := by
  have hp := Q1b (dst := dst) b
  have hpl : pl12 l dst = Q21 l + (if dst then 2 else 0) := rfl
  have hpl2 : pl12 l dst + 2 ≤ Q21 l + 4 := hp.2.2.2.2.1
  obtain ⟨w0, w2⟩ := Qm2 (n := n) (dst := dst) P b hA
  obtain ⟨p0, p2⟩ := Q65 P.fine.po
  rw [Qbu (Q6k P b hA) (fun i h1 h2 h3 => ?_) P.fine.po, w0, w2, p0, p2]
  by_cases hi : i < (pkP l).length
  · rw [Q1t, Q1t, Qbh P b hA hi (.inr (by omega)) (.inr (by omega))]
  · have e9 := Q6k (n := n) (dst := dst) P b hA
    rw [Q5a (by omega), Q5a (by omega)]
theorem Q9c (P : NatP l A n) (b : NatB l) (hA : A.b.length = 16) : FineP (natX l A n dst) := by
  have e1 := (Q9a (n := n) (dst := dst) b P.fine hA).1
  have e2 := Qdd (dst := dst) P b hA
  refine ⟨by rw [e1]; exact P.fine.lk, by rw [e1]; exact P.fine.ty, by rw [e2], by rw [e2]; exact P.fine.fr, by rw [e2]; exact P.fine.ca, ?_⟩
  rw [e2]
  show (Q0g (pkN l).1.proto _).2 = 0
  rw [Qac P b hA]
theorem Qco (P : NatP l A n) (b : NatB l) (hA : A.b.length = 16) : Q0d (natX l A n dst) = { Q0d l with tup := natT (Q0d l).tup A n dst } := by
  rw [Qau (Q9c P b hA), P.eq]
  unfold Qbr Q2p
  rw [(Q9a (n := n) (dst := dst) b P.fine hA).1, Qdd (dst := dst) P b hA]
  have e : Q0g (Qiu (pkN l).1 A dst).proto (pkP (natX l A n dst)) = _ := Qac (dst := dst) P b hA
  simp only [e]
  unfold natT
  cases dst <;> rfl
/-! ## The segment's checksum -/
def tl12 (six : Bool) (q t : Int) : List UInt8 := if six then [0, 0, b8 (t / 2 ^ 8), b8 t, 0, 0, 0, b8 q] else [0, b8 q, b8 (t / 2 ^ 8), b8 t]
theorem Q6u {Sa Da : Adr} {q t : Int} (hS : Sa.b.length = 16) (hD : Da.b.length = 16) : wsum (Q34 Sa Da q t) = wsum (Sa.b.take (sz12 Sa.six)) + wsum (Da.b.take (sz12 Sa.six)) + wsum (tl12 Sa.six q t) := by
  unfold Q34 Qce tl12 sz12
  cases Sa.six with
  | true =>
    simp only [if_true]
    rw [List.append_assoc, Q3e _ (by omega), Q3e _ (by omega), List.take_of_length_le (by omega), List.take_of_length_le (by omega)]
    omega
  | false =>
    simp only [Bool.false_eq_true, if_false]
    rw [List.append_assoc, Q3e _ (by simp; omega), Q3e _ (by simp; omega)]
    omega
theorem Qno {six : Bool} {q t : Int} (h : q = 6 ∨ q = 17) : 0 < wsum (tl12 six q t) := by
  refine Qd2 (List.any_eq_true.2 ⟨b8 q, ?_, ?_⟩)
  · unfold tl12; cases six <;> simp
  · rcases h with rfl | rfl <;> decide
theorem Qhq (b : NatB l) (h : FineP l) : Q50 l dst = (if dst then (pkN l).1.dst else (pkN l).1.src).b.take (sz12 (Q1k l)) := by
  have hp := Q1b (dst := dst) b
  have hs := Q9m (k := (Q0b l).1.type) (l := l.drop (pkA l)) h.nt
  cases h6 : Q1k l with
  | false =>
    have h4 : (Q0b l).1.type = 2048 := by
      have h7 : (netT (Q0b l).1.type (l.drop (pkA l))).1.src.six = false := h6
      rw [hs.1] at h7
      simpa using h7
    have hN : pkN l = netT 2048 (l.drop (pkA l)) := by unfold pkN; rw [h4]
    have hq : (Q0n (l.drop (pkA l))).2 = 0 := by have := h.nt; rw [hN] at this; exact this
    obtain ⟨c1, c2, c3, c4, c5, c6⟩ := Q33 hq
    have e := Q1w c1 c2 c3 c4 c5 c6
    have e1 : (pkN l).1.src = adr4 (l.drop (pkA l)) 12 := by rw [hN]; unfold netT; rw [if_pos rfl, e]; rfl
    have e2 : (pkN l).1.dst = adr4 (l.drop (pkA l)) 16 := by rw [hN]; unfold netT; rw [if_pos rfl, e]; rfl
    obtain ⟨o, ho, hz, hd⟩ := Qez (dst := dst) h6
    have hlen : (l.drop (pkA l)).length = l.length - pkA l := List.length_drop
    have key : ∀ j, (j = 12 ∨ j = 16) → (adr4 (l.drop (pkA l)) j).b.take 4 = ((l.drop (pkA l)).drop j).take 4 := fun j hj => by
      unfold adr4
      rw [List.take_append_of_le_length (by rw [List.length_take, List.length_drop]; omega), List.take_take, Nat.min_self]
    unfold Q50 sz12
    rw [h6, ho]
    simp only [Bool.false_eq_true, if_false]
    unfold subl
    rw [List.drop_take, show pkA l + o + 4 - (pkA l + o) = 4 from by omega, ← List.drop_drop]
    rcases hd with ⟨rfl, rfl⟩ | ⟨rfl, rfl⟩
    · simp only [Bool.false_eq_true, if_false]; rw [e1, key 12 (.inl rfl)]
    · simp only [if_true]; rw [e2, key 16 (.inr rfl)]
  | true =>
    have h4 : (Q0b l).1.type ≠ 2048 := by
      have h7 : (netT (Q0b l).1.type (l.drop (pkA l))).1.src.six = true := h6
      rw [hs.1] at h7
      simpa using h7
    have hN : pkN l = (⟨(Q0m (l.drop (pkA l))).1.head, (Q0m (l.drop (pkA l))).1.total, (Q0m (l.drop (pkA l))).1.proto, (Q0m (l.drop (pkA l))).1.frag, (Q0m (l.drop (pkA l))).1.src, (Q0m (l.drop (pkA l))).1.dst⟩, (Q0m (l.drop (pkA l))).2) := by unfold pkN netT; rw [if_neg h4]
    have hq : (Q0m (l.drop (pkA l))).2 = 0 := by have := h.nt; rw [hN] at this; exact this
    obtain ⟨c1, c2, c3⟩ := Q8v hq
    have e : Q0m (l.drop (pkA l)) = Q3j (Q2d (l.drop (pkA l))) 8 (((l.drop (pkA l)).take (40 + Q06 (l.drop (pkA l)) 4).toNat).drop 40) 40 false (Q08 (l.drop (pkA l)) 6) := by unfold Q0m; rw [if_neg c1, if_neg c2, if_neg c3]
    rw [e] at hq
    have hgo := Qm1 (H := Q2d (l.drop (pkA l))) (A := adr6 (l.drop (pkA l)) 8) (D := adr6 (l.drop (pkA l)) 24) 8 _ _ 40 false (Q08 (l.drop (pkA l)) 6) rfl hq (fun _ _ => rfl)
    have t : ({ Q2d (l.drop (pkA l)) with src := adr6 (l.drop (pkA l)) 8, dst := adr6 (l.drop (pkA l)) 24 } : SixL) = Q2d (l.drop (pkA l)) := rfl
    rw [t, ← e] at hgo
    have e1 : (pkN l).1.src = adr6 (l.drop (pkA l)) 8 := by rw [hN]; show (Q0m _).1.src = _; rw [hgo]
    have e2 : (pkN l).1.dst = adr6 (l.drop (pkA l)) 24 := by rw [hN]; show (Q0m _).1.dst = _; rw [hgo]
    obtain ⟨o, ho, hz, hd⟩ := Qhp (dst := dst) h6
    have key : ∀ j, (adr6 (l.drop (pkA l)) j).b.take 16 = ((l.drop (pkA l)).drop j).take 16 := fun j => by
      unfold adr6
      rw [List.take_take, Nat.min_self]
    unfold Q50 sz12
    rw [h6, ho]
    simp only [if_true]
    unfold subl
    rw [List.drop_take, show pkA l + o + 16 - (pkA l + o) = 16 from by omega, ← List.drop_drop]
    rcases hd with ⟨rfl, rfl⟩ | ⟨rfl, rfl⟩
    · simp only [Bool.false_eq_true, if_false]; rw [e1, key 8]
    · simp only [if_true]; rw [e2, key 24]
theorem Qm3 (b : NatB l) : (Q50 l dst).length = sz12 (Q1k l) := by
  have hp := Q1b (dst := dst) b
  have h1 := b.len
  unfold Q50 subl
  rw [List.length_drop, List.length_take]; omega
theorem Qnp (q s : Int) : (pFix q s - s) % 65535 = 0 := by unfold pFix; split <;> omega
theorem Qbi (b : NatB l) (hA : A.b.length = 16) (hn : 0 ≤ n ∧ n ≤ 65535) : (pFix (pkN l).1.proto (Q5m l A n dst) - (Q06 l (ck12 l) + wsum (Q50 l dst) - wsum (Q1p l A) + Q06 l (pl12 l dst) - n)) % 65535 = 0 := by
  have hp := Q1b (dst := dst) b
  have hlen := b.len
  have h1 := Q6t (f := Q50 l dst) (t := Q1p l A) (Q06 l (ck12 l)) (by rw [Q4h hA, Qm3 b])
  have h2 := Q6t (f := subl l (pl12 l dst) (pl12 l dst + 2)) (t := put2 n) (Q3u (Q06 l (ck12 l)) (Q50 l dst) (Q1p l A)) (by unfold subl; rw [Q0r, List.length_drop, List.length_take]; omega)
  have h3 := Qnp (pkN l).1.proto (Q5m l A n dst)
  rw [Q7l (by omega), Q98 hn] at h2
  unfold Q5m at h3 ⊢
  omega
end
end Go.Proofs.Ytlmdboaghojgiaa

/- What is rewritten: its checksum, again and back: in plain Lean. -/
namespace Go.Proofs.Ytlmdboaghojgiaa
set_option linter.unusedVariables false
set_option linter.unusedSimpArgs false
open Go

section
variable {l : List UInt8} {A : Adr} {n : Int} {dst : Bool}
/-! ## The places of what is rewritten -/
structure SameP (x l : List UInt8) : Prop where
  a : pkA x = pkA l
  six : Q1k x = Q1k l
  seg : Q21 x = Q21 l
  end' : endP x = endP l
  proto : (pkN x).1.proto = (pkN l).1.proto
theorem Q7m (P : NatP l A n) (b : NatB l) (hA : A.b.length = 16) : SameP (natX l A n dst) l := by
  have e1 := (Q9a (n := n) (dst := dst) b P.fine hA).2
  have e2 := Qdd (dst := dst) P b hA
  refine ⟨e1, ?_, ?_, ?_, ?_⟩
  · unfold Q1k; rw [e2]
    show (if dst = true then (pkN l).1.src else A).six = _
    have := P.six
    cases dst
    · exact this
    · rfl
  · unfold Q21; rw [e1, e2]; rfl
  · unfold endP; rw [e1, e2]; rfl
  · rw [e2]; rfl
theorem SameP.at {x l : List UInt8} (s : SameP x l) (d : Bool) : at12 x d = at12 l d := by unfold at12; rw [s.a, s.six]
theorem SameP.pl {x l : List UInt8} (s : SameP x l) (d : Bool) : pl12 x d = pl12 l d := by unfold pl12; rw [s.seg]
theorem SameP.ip {x l : List UInt8} (s : SameP x l) : ip12 x = ip12 l := by unfold ip12; rw [s.a]
theorem SameP.ck {x l : List UInt8} (s : SameP x l) : ck12 x = ck12 l := by unfold ck12; rw [s.seg, s.proto]
theorem Qgf (b : NatB l) (h : FineP l) : Q06 (pkP l) (atN (pkN l).1.proto) = Q06 l (ck12 l) := by
  have h1 := b.seg
  have h2 := b.pl
  show Q06 (subl l (Q21 l) (endP l)) _ = _
  rw [Qbf (by omega)]; rfl
theorem Qly (b : NatB l) : Q06 (pkP l) (if dst then 2 else 0) = Q06 l (pl12 l dst) := by
  have h1 := b.seg
  have h2 := b.ports
  show Q06 (subl l (Q21 l) (endP l)) _ = _
  rw [Qbf (by split <;> omega)]; rfl
theorem Qnq (P : NatP l A n) (b : NatB l) (hA : A.b.length = 16) (hu : ¬ udp0 l) : Q06 (natX l A n dst) (ck12 l) = pFix (pkN l).1.proto (Q5m l A n dst) := Q9b (Qar (Qbg _ _ _ _)) fun q hq => X_ck b hA hu hq
theorem Qq2 (P : NatP l A n) (b : NatB l) (hA : A.b.length = 16) (hu : udp0 l) : Q06 (natX l A n dst) (ck12 l) = Q06 l (ck12 l) := by
  have hp := Q1b (dst := dst) b
  have : ∀ i, ck12 l ≤ i → i < ck12 l + 2 → Q08 (natX l A n dst) i = Q08 l i := fun i h1 h2 => Qsb b hA (by omega) (by omega) (by omega) (by omega) (.inl hu)
  unfold Q06
  rw [this _ (by omega) (by omega), this _ (by omega) (by omega)]
theorem Qsd (b : NatB l) (hA : A.b.length = 16) (h6 : Q1k l = false) : Q06 (natX l A n dst) (ip12 l) = Q7n l A dst := Q9b (Qf0 _ _ _) fun q hq => X_ip b hA h6 hq
theorem Q89 (h : FineP l) : (pkN l).1.proto = 6 ∨ (pkN l).1.proto = 17 := by
  have := h.ca
  unfold Q4t at this
  simpa using this
/-! ## Is the segment's checksum right? -/
theorem Qq3 (P : NatP l A n) (b : NatB l) (hA : A.b.length = 16) (hu : ¬ udp0 l) {t : Nat} (ht : atN (pkN l).1.proto + 2 ≤ t) (ht8 : 8 ≤ t) (htl : t ≤ (pkP l).length) :
    (pkP (natX l A n dst)).take t = Q51 (Q51 ((pkP l).take t) (if dst then 2 else 0) (put2 n)) (atN (pkN l).1.proto) (put2 (pFix (pkN l).1.proto (Q5m l A n dst))) := by
  have hp := Q1b (dst := dst) b
  have hs := b.seg
  have h6 := b.at6
  have hpl : pl12 l dst = Q21 l + (if dst then 2 else 0) := rfl
  have hd : (if dst then 2 else 0) + 2 ≤ 4 := by split <;> omega
  have hl := Q6k (n := n) (dst := dst) P b hA
  have l1 : ((pkP l).take t).length = t := by rw [List.length_take]; omega
  have l2 : (if dst then 2 else 0) + (put2 n).length ≤ ((pkP l).take t).length := by rw [Q0r]; omega
  apply List.ext_getElem?
  intro i
  rw [Q4a (by rw [Q2w l2, Q0r]; omega), Q4a l2, Q0r, Q0r]
  by_cases hi : i < t
  · rw [List.getElem?_take_of_lt hi]
    by_cases i1 : atN (pkN l).1.proto ≤ i ∧ i < atN (pkN l).1.proto + 2
    · rw [if_pos i1, Qde P b hA (by omega)]
      have := X_ck (n := n) (dst := dst) b hA hu (q := i - atN (pkN l).1.proto) (by omega)
      unfold ck12 at this
      rw [← this]
      congr 1; omega
    · rw [if_neg i1]
      by_cases i2 : (if dst then 2 else 0) ≤ i ∧ i < (if dst then 2 else 0) + 2
      · rw [if_pos i2, Qde P b hA (by omega)]
        have := Qm0 (n := n) (dst := dst) b hA (q := i - (if dst then 2 else 0)) (by omega)
        rw [← this]
        congr 1; omega
      · rw [if_neg i2, List.getElem?_take_of_lt hi]
        exact Qbh P b hA (by omega) (by omega) (.inr (by omega))
  · rw [if_neg (by omega), if_neg (by omega), List.getElem?_eq_none (by simp; omega), List.getElem?_eq_none (by simp; omega)]
theorem Qnr (P : NatP l A n) (b : NatB l) (hA : A.b.length = 16) (hu : ¬ udp0 l) :
    (pSum (natT (Q2p l) A n dst).src (natT (Q2p l) A n dst).dst (pkN l).1.proto (pkP (natX l A n dst)) = 0) ↔ (pSum (Q2p l).src (Q2p l).dst (pkN l).1.proto (pkP l) = 0) := by
  have hp := Q1b (dst := dst) b
  have hpo := Q3v P.fine.po
  have hat := Q8s P.fine.po
  have hN := Q62 (Q0b l).1.type (l.drop (pkA l))
  have hs16 : (pkN l).1.src.b.length = 16 := hN.1
  have hd16 : (pkN l).1.dst.b.length = 16 := hN.2
  have h6 := b.at6
  have hrd := Qac (dst := dst) P b hA
  have ht : (Q0g (pkN l).1.proto (pkP (natX l A n dst))).1.total = (Q0g (pkN l).1.proto (pkP l)).1.total := by rw [hrd]
  have hsg := Qq3 (dst := dst) P b hA hu (t := (Q0g (pkN l).1.proto (pkP l)).1.total.toNat) (by omega) (by omega) (by omega)
  have hd4 : (if dst then 2 else 0) + 2 ≤ 4 := by split <;> omega
  have hde : (if dst then 2 else 0) % 2 = 0 := by split <;> rfl
  have hae := Qn9 (pkN l).1.proto
  have hlen9 := b.len
  have l1 : ((pkP l).take (Q0g (pkN l).1.proto (pkP l)).1.total.toNat).length = (Q0g (pkN l).1.proto (pkP l)).1.total.toNat := by rw [List.length_take]; omega
  have l2 : (if dst then 2 else 0) + (put2 n).length ≤ ((pkP l).take (Q0g (pkN l).1.proto (pkP l)).1.total.toNat).length := by rw [Q0r]; omega
  have w1 : wsum ((pkP (natX l A n dst)).take (Q0g (pkN l).1.proto (pkP l)).1.total.toNat) = wsum ((pkP l).take (Q0g (pkN l).1.proto (pkP l)).1.total.toNat) - Q06 l (pl12 l dst) + n - Q06 l (ck12 l) + pFix (pkN l).1.proto (Q5m l A n dst) := by
    rw [hsg, Q7k (by rw [Q2w l2, Q0r]; omega) hae (by rw [Q0r]), Q7k l2 hde (by rw [Q0r]), Q98 P.port, Q98 (Qar (Qbg _ _ _ _)), Q0r, Q0r, Q7l (by omega), Q7l (by rw [Q2w l2]; omega)]
    have e1 : Q06 ((pkP l).take (Q0g (pkN l).1.proto (pkP l)).1.total.toNat) (if dst then 2 else 0) = Q06 l (pl12 l dst) := by
      rw [← Qly b]; unfold Q06; rw [Q25 (by omega), Q25 (by omega)]
    have e2 : Q06 (Q51 ((pkP l).take (Q0g (pkN l).1.proto (pkP l)).1.total.toNat) (if dst then 2 else 0) (put2 n)) (atN (pkN l).1.proto) = Q06 l (ck12 l) := by
      rw [← Qgf b P.fine]; unfold Q06
      rw [Q8t l2 (by rw [Q0r]; omega), Q8t l2 (by rw [Q0r]; omega), Q25 (by omega), Q25 (by omega)]
    rw [e1, e2]
  have hsix : (pkN l).1.src.six = Q1k l := rfl
  have hold := Qhq (dst := dst) b P.fine
  have hT : ∀ q9 t9, wsum (Q34 (natT (Q2p l) A n dst).src (natT (Q2p l) A n dst).dst q9 t9) = wsum (Q34 (Q2p l).src (Q2p l).dst q9 t9) - wsum (Q50 l dst) + wsum (Q1p l A) := fun q9 t9 => by
    rw [show wsum (Q34 (Q2p l).src (Q2p l).dst q9 t9) = _ from Q6u hs16 hd16, hold]
    unfold Q1p
    cases dst with
    | true =>
      show wsum (Q34 (pkN l).1.src A q9 t9) = _
      rw [Q6u hs16 hA, hsix]
      simp only [if_true]
      show _ + wsum _ + _ = wsum ((pkN l).1.src.b.take (sz12 (Q1k l))) + wsum ((pkN l).1.dst.b.take (sz12 (Q1k l))) + wsum (tl12 (Q1k l) q9 t9) - _ + _
      omega
    | false =>
      show wsum (Q34 A (pkN l).1.dst q9 t9) = _
      rw [Q6u hA hd16, P.six]
      simp only [Bool.false_eq_true, if_false]
      show _ + wsum _ + _ = wsum ((pkN l).1.src.b.take (sz12 (Q1k l))) + wsum ((pkN l).1.dst.b.take (sz12 (Q1k l))) + wsum (tl12 (Q1k l) q9 t9) - _ + _
      omega
  have hTl : (natT (Q2p l) A n dst).src.b.length = 16 ∧ (natT (Q2p l) A n dst).dst.b.length = 16 := by
    unfold natT Q2p
    cases dst
    · exact ⟨hA, hd16⟩
    · exact ⟨hs16, hA⟩
  have hm := Qbi (dst := dst) b hA P.port
  have hpos : ∀ {Sa Da : Adr} {t9 : Int}, Sa.b.length = 16 → Da.b.length = 16 → 0 < wsum (Q34 Sa Da (pkN l).1.proto t9) := fun h1 h2 => by
    rw [Q6u h1 h2]
    rename_i Sa Da t9
    have e1 := Q3d (Sa.b.take (sz12 Sa.six))
    have e2 := Q3d (Da.b.take (sz12 Sa.six))
    have e3 := Qno (six := Sa.six) (t := t9) (Q89 P.fine)
    omega
  unfold pSum
  rw [ht, Qge, Qge, Q3e _ (Qa3 _ _ _ _ hTl.1 hTl.2), Q3e _ (Qa3 _ _ _ _ (show (Q2p l).src.b.length = 16 from hs16) (show (Q2p l).dst.b.length = 16 from hd16)), w1]
  have g1 := hpos (t9 := (Q0g (pkN l).1.proto (pkP l)).1.total) hTl.1 hTl.2
  have g2 := hpos (t9 := (Q0g (pkN l).1.proto (pkP l)).1.total) (show (Q2p l).src.b.length = 16 from hs16) (show (Q2p l).dst.b.length = 16 from hd16)
  have g3 := hT (pkN l).1.proto (Q0g (pkN l).1.proto (pkP l)).1.total
  have g4 := Q3d ((pkP l).take (Q0g (pkN l).1.proto (pkP l)).1.total.toNat)
  have g5 := Q3d ((pkP (natX l A n dst)).take (Q0g (pkN l).1.proto (pkP l)).1.total.toNat)
  rw [w1] at g5
  constructor <;> rintro ⟨_, k⟩ <;> refine ⟨by omega, by omega⟩
theorem Qjc (P : NatP l A n) (b : NatB l) (hA : A.b.length = 16) :
    Qa2 (natT (Q2p l) A n dst).src (natT (Q2p l) A n dst).dst (pkN l).1.proto (pkP (natX l A n dst)) = Qa2 (Q2p l).src (Q2p l).dst (pkN l).1.proto (pkP l) := by
  have hp := Q1b (dst := dst) b
  have sp := Q7m (dst := dst) P b hA
  have hbX := Q7q (Q9c (dst := dst) P b hA)
  have e1 := Qgf b P.fine
  have e2 := Qgf hbX (Q9c (dst := dst) P b hA)
  rw [sp.proto, sp.ck] at e2
  have hsx : (natT (Q2p l) A n dst).src.six = (Q2p l).src.six := by
    unfold natT
    cases dst
    · exact P.six
    · rfl
  unfold Qa2
  by_cases hu : udp0 l
  · have h17 := hu.1
    have ha : atN (pkN l).1.proto = 6 := by unfold atN; rw [if_neg (by omega)]
    rw [ha] at e1 e2
    rw [Qq2 P b hA hu, hu.2] at e2
    rw [hu.2] at e1
    rw [if_pos ⟨h17, e2⟩, if_pos ⟨h17, e1⟩, hsx]
  · have n1 : ¬ ((pkN l).1.proto = 17 ∧ Q06 (pkP l) 6 = 0) := by
      rintro ⟨k1, k2⟩
      have ha : atN (pkN l).1.proto = 6 := by unfold atN; rw [if_neg (by omega)]
      rw [ha] at e1
      exact hu ⟨k1, by rw [← e1]; exact k2⟩
    have n2 : ¬ ((pkN l).1.proto = 17 ∧ Q06 (pkP (natX l A n dst)) 6 = 0) := by
      rintro ⟨k1, k2⟩
      have ha : atN (pkN l).1.proto = 6 := by unfold atN; rw [if_neg (by omega)]
      rw [ha] at e2
      rw [e2, Qnq P b hA hu, k1] at k2
      have := Qd6 (Qbg l A n dst).1
      omega
    rw [if_neg n1, if_neg n2]
    have := Qnr (dst := dst) P b hA hu
    rw [Bool.eq_iff_iff]
    simpa using this
end
end Go.Proofs.Ytlmdboaghojgiaa

/- What is rewritten again, and back; what is made and rewritten: in plain Lean. -/
namespace Go.Proofs.Ytlmdboaghojgiaa
set_option linter.unusedVariables false
set_option linter.unusedSimpArgs false
open Go

theorem Qq4 {q x y : Int} (hx : 0 ≤ x ∧ x ≤ 65535) (hy : 0 ≤ y ∧ y ≤ 65535) (hm : (pFix q x - pFix q y) % 65535 = 0) (hq : q = 17 ∨ q = 6 ∧ x ≤ 65534 ∧ y ≤ 65534) : pFix q x = pFix q y := by
  unfold pFix at hm ⊢
  rcases hq with rfl | ⟨rfl, h1, h2⟩
  · split at hm <;> split at hm <;> simp_all <;> omega
  · rw [if_neg (by simp), if_neg (by simp)] at hm ⊢
    omega
theorem Q9t {l : List UInt8} {k q : Nat} (h : k + 2 ≤ l.length) (hq : q < 2) : (put2 (Q06 l k))[q]? = l[k + q]? := by
  rw [Q8y h, List.getElem?_take_of_lt hq, List.getElem?_drop]
section
variable {l : List UInt8} {A B : Adr} {m n : Int} {dst : Bool}
theorem Qsx (b : NatB l) (hA : A.b.length = 16) (P : NatP l A m) : Q50 (natX l A m dst) dst = Q1p l A := by
  have sp := Q7m (dst := dst) P b hA
  unfold Q50 Q1p
  rw [sp.at, sp.six]
  apply List.ext_getElem?
  intro i
  by_cases hi : i < sz12 (Q1k l)
  · rw [Q99 (by omega), List.getElem?_take_of_lt hi]
    exact Qho b hA hi
  · have hp := Q1b (dst := dst) b
    rw [List.getElem?_eq_none (by unfold subl; simp; omega), List.getElem?_eq_none (by simp; omega)]
theorem Qsy (b : NatB l) (hA : A.b.length = 16) (hm : 0 ≤ m ∧ m ≤ 65535) : Q06 (natX l A m dst) (pl12 l dst) = m := Q9b hm fun q hq => Qm0 b hA hq
structure Cks (l : List UInt8) : Prop where
  ip : Q1k l = false → Q06 l (ip12 l) ≤ 65534
  ck : (pkN l).1.proto = 6 → Q06 l (ck12 l) ≤ 65534
theorem Qhr (c : Cks l) (h6 : Q1k l = false) (A : Adr) (dst : Bool) : Q7n l A dst ≤ 65534 := Q9r ⟨(Q0z _ _).1, c.ip h6⟩ _ _
theorem Qhs (c : Cks l) (h6 : (pkN l).1.proto = 6) (A : Adr) (n : Int) (dst : Bool) : Q5m l A n dst ≤ 65534 :=
  Q9r ⟨(Q7j (Q0z _ _) _ _).1, Q9r ⟨(Q0z _ _).1, c.ck h6⟩ _ _⟩ _ _
theorem Qdf (b : NatB l) (hA : A.b.length = 16) : (Q7n l A dst - (Q06 l (ip12 l) + wsum (Q50 l dst) - wsum (Q1p l A))) % 65535 = 0 :=
  Q6t (f := Q50 l dst) (t := Q1p l A) (Q06 l (ip12 l)) (by rw [Q4h hA, Qm3 b])
theorem Qsz (P : NatP l A m) (b : NatB l) (hA : A.b.length = 16) (c : Cks l) : Cks (natX l A m dst) := by
  have sp := Q7m (dst := dst) P b hA
  refine ⟨fun h6 => ?_, fun h6 => ?_⟩
  · rw [sp.six] at h6
    rw [sp.ip, Qsd b hA h6]
    exact Qhr c h6 _ _
  · rw [sp.proto] at h6
    rw [sp.ck]
    by_cases hu : udp0 l
    · rw [Qq2 P b hA hu]; exact c.ck h6
    · rw [Qnq P b hA hu, h6]
      unfold pFix
      rw [if_neg (by simp)]
      exact Qhs c h6 _ _ _
theorem Qse (P : NatP l A m) (b : NatB l) (hA : A.b.length = 16) : udp0 (natX l A m dst) ↔ udp0 l := by
  have sp := Q7m (dst := dst) P b hA
  unfold udp0
  rw [sp.proto, sp.ck]
  by_cases hu : udp0 l
  · rw [Qq2 P b hA hu]
  · constructor
    · rintro ⟨k1, k2⟩
      rw [Qnq P b hA hu, k1] at k2
      have := Qd6 (Qbg l A m dst).1
      omega
    · intro h; exact absurd h hu
theorem Qhm (P : NatP l A m) (Q : NatP l B n) (b : NatB l) (hA : A.b.length = 16) : NatP (natX l A m dst) B n := by
  have sp := Q7m (dst := dst) P b hA
  have hf := Q9c (dst := dst) P b hA
  exact ⟨hf, Qau hf, by rw [sp.six]; exact Q.six, by rw [sp.six]; exact Q.short, Q.port⟩
theorem Qey (P : NatP l A m) (Q : NatP l B n) (b : NatB l) (hA : A.b.length = 16) (hB : B.b.length = 16) (c : Cks l) : natX (natX l A m dst) B n dst = natX l B n dst := by
  have sp := Q7m (dst := dst) P b hA
  have hfX := Q9c (dst := dst) P b hA
  have bX := Q7q hfX
  have cX := Qsz (dst := dst) P b hA c
  have hp := Q1b (dst := dst) b
  have hu9 := Qse (dst := dst) P b hA
  have hox := Qsx (dst := dst) b hA P
  have hfr : Q1p (natX l A m dst) B = Q1p l B := by unfold Q1p; rw [sp.six]
  have hlX := Q57 (n := m) (dst := dst) b hA
  have hip : Q1k l = false → Q7n (natX l A m dst) B dst = Q7n l B dst := fun h6 => by
    have e1 := Qdf (dst := dst) bX hB
    have e2 := Qdf (dst := dst) b hB
    have e3 := Qdf (dst := dst) b hA
    have b1 := Qf0 (natX l A m dst) B dst
    have b2 := Qf0 l B dst
    have k1 := Qhr cX (by rw [sp.six]; exact h6) B dst
    have k2 := Qhr c h6 B dst
    rw [hox, hfr, sp.ip, Qsd b hA h6] at e1
    omega
  have hck : ¬ udp0 l → pFix (pkN l).1.proto (Q5m (natX l A m dst) B n dst) = pFix (pkN l).1.proto (Q5m l B n dst) := fun hu => by
    have e1 := Qbi (dst := dst) bX hB Q.port
    have e2 := Qbi (dst := dst) b hB Q.port
    have e3 := Qbi (dst := dst) b hA P.port
    rw [sp.proto, hox, hfr, sp.ck, Qnq P b hA hu, sp.pl, Qsy b hA P.port] at e1
    refine Qq4 (Qbg _ _ _ _) (Qbg _ _ _ _) (by omega) ?_
    rcases Q89 P.fine with h6 | h17
    · exact .inr ⟨h6, Qhs cX (by rw [sp.proto]; exact h6) _ _ _, Qhs c h6 _ _ _⟩
    · exact .inl h17
  apply List.ext_getElem?
  intro i
  rw [Q5x bX hB, Q5x b hB, Q5w bX hB, Q5w b hB, Q6o bX hB, Q6o b hB, sp.ck, sp.ip, sp.pl, sp.at, sp.six, sp.end', sp.proto, hfr]
  by_cases i1 : ¬ udp0 l ∧ ck12 l ≤ i ∧ i < ck12 l + 2
  · rw [if_pos ⟨fun h => i1.1 (hu9.1 h), i1.2⟩, if_pos i1, hck i1.1]
  · rw [if_neg (fun h => i1 ⟨fun h9 => h.1 (hu9.2 h9), h.2⟩), if_neg i1]
    by_cases i2 : Q1k l = false ∧ ip12 l ≤ i ∧ i < ip12 l + 2
    · rw [if_pos i2, if_pos i2, hip i2.1]
    · rw [if_neg i2, if_neg i2]
      by_cases i3 : pl12 l dst ≤ i ∧ i < pl12 l dst + 2
      · rw [if_pos i3, if_pos i3]
      · rw [if_neg i3, if_neg i3]
        by_cases i4 : at12 l dst ≤ i ∧ i < at12 l dst + sz12 (Q1k l)
        · rw [if_pos i4, if_pos i4]
        · rw [if_neg i4, if_neg i4]
          by_cases hi : i < endP l
          · rw [List.getElem?_take_of_lt hi, List.getElem?_take_of_lt hi]
            refine Qcg b hA hi (by omega) (by omega) ?_ ?_
            · by_cases h6 : Q1k l = true
              · exact .inl h6
              · have h6' : Q1k l = false := by simpa using h6
                right
                have : ¬ (ip12 l ≤ i ∧ i < ip12 l + 2) := fun h => i2 ⟨h6', h⟩
                omega
            · by_cases hu : udp0 l
              · exact .inl hu
              · right
                have : ¬ (ck12 l ≤ i ∧ i < ck12 l + 2) := fun h => i1 ⟨hu, h⟩
                omega
          · rw [List.getElem?_eq_none (by rw [List.length_take]; omega), List.getElem?_eq_none (by rw [List.length_take]; omega)]
theorem Qnk (P : NatP l A n) (b : NatB l) (hA : A.b.length = 16) (hAd : A = (if dst then (pkN l).1.dst else (pkN l).1.src)) (hn : n = Q06 l (pl12 l dst)) (c : Cks l) : natX l A n dst = l.take (endP l) := by
  have hp := Q1b (dst := dst) b
  have hlen := b.len
  have hfo : Q1p l A = Q50 l dst := by rw [Qhq b P.fine, ← hAd]; rfl
  have hip : Q1k l = false → Q7n l A dst = Q06 l (ip12 l) := fun h6 => by
    have e1 := Qdf (dst := dst) b hA
    have b1 := Qf0 l A dst
    have k1 := Qhr c h6 A dst
    have b2 := Q0z l (ip12 l)
    have k2 := c.ip h6
    rw [hfo] at e1
    omega
  have hck : ¬ udp0 l → pFix (pkN l).1.proto (Q5m l A n dst) = Q06 l (ck12 l) := fun hu => by
    have e1 := Qbi (dst := dst) b hA P.port
    have b2 := Q0z l (ck12 l)
    have b3 := Qbg l A n dst
    rw [hfo, ← hn] at e1
    rcases Q89 P.fine with h6 | h17
    · have k1 := Qhs c h6 A n dst
      have k2 := c.ck h6
      rw [h6] at e1 ⊢
      have e6 : pFix 6 (Q5m l A n dst) = Q5m l A n dst := by unfold pFix; rw [if_neg (by simp)]
      omega
    · have k2 : Q06 l (ck12 l) ≠ 0 := fun h0 => hu ⟨h17, h0⟩
      rw [h17] at e1 ⊢
      have := Qd6 b3.1
      have := Qar (q := 17) b3
      omega
  apply List.ext_getElem?
  intro i
  rw [Q5x b hA, Q5w b hA, Q6o b hA]
  by_cases i1 : ¬ udp0 l ∧ ck12 l ≤ i ∧ i < ck12 l + 2
  · rw [if_pos i1, hck i1.1, Q9t (by omega) (by omega), List.getElem?_take_of_lt (by omega)]
    congr 1; omega
  · rw [if_neg i1]
    by_cases i2 : Q1k l = false ∧ ip12 l ≤ i ∧ i < ip12 l + 2
    · rw [if_pos i2, hip i2.1, Q9t (by omega) (by omega), List.getElem?_take_of_lt (by omega)]
      congr 1; omega
    · rw [if_neg i2]
      by_cases i3 : pl12 l dst ≤ i ∧ i < pl12 l dst + 2
      · rw [if_pos i3, hn, Q9t (by omega) (by omega), List.getElem?_take_of_lt (by omega)]
        congr 1; omega
      · rw [if_neg i3]
        by_cases i4 : at12 l dst ≤ i ∧ i < at12 l dst + sz12 (Q1k l)
        · rw [if_pos i4, hfo]
          unfold Q50
          rw [Q99 (by omega), List.getElem?_take_of_lt (by omega)]
          congr 1; omega
        · rw [if_neg i4]
end
end Go.Proofs.Ytlmdboaghojgiaa

/- What is made and rewritten is what is made for the other tuple: in plain Lean. -/
namespace Go.Proofs.Ytlmdboaghojgiaa
set_option linter.unusedVariables false
set_option linter.unusedSimpArgs false
open Go

section
variable {l : List UInt8} {A : Adr} {n : Int} {dst : Bool}
end
/-! ## What is made -/
section
variable {L : LinkL} {T : TupL} {f : Int} {load : List UInt8} {A : Adr} {n : Int} {dst : Bool}
theorem Qjd (hT : Q7u T) (hA : A.b.length = 16) : Q7u (natT T A n dst) := by
  unfold natT
  cases dst
  · exact ⟨hA, hT.2⟩
  · exact ⟨hT.1, hA⟩
theorem Qi1 : (natT T A n dst).proto = T.proto := by unfold natT; cases dst <;> rfl
end
end Go.Proofs.Ytlmdboaghojgiaa

/- What is made and rewritten is what is made for the other tuple (2): in plain Lean. -/
namespace Go.Proofs.Ytlmdboaghojgiaa
set_option linter.unusedVariables false
set_option linter.unusedSimpArgs false
open Go

def p8 (H : SixL) : List UInt8 := [96, 0, 0, 0] ++ put2 (H.total - 40) ++ [b8 H.proto, b8 H.hop]
section
variable {L : LinkL} {T : TupL} {f : Int} {load : List UInt8} {A : Adr} {n : Int} {dst : Bool}
structure Made (L : LinkL) (T : TupL) (f : Int) (load : List UInt8) : Prop where
  pa : pkA (Q9n L T f load) = 14 + 4 * L.tags.length
  n : pkN (Q9n L T f load) = (⟨(Qpa T : Int), (Qpa T : Int) + segN T load, T.proto, false, T.src, T.dst⟩, 0)
  p : pkP (Q9n L T f load) = Qkt T.src T.dst T.proto (segL T f load)
  six : Q1k (Q9n L T f load) = T.src.six
  seg : Q21 (Q9n L T f load) = 14 + 4 * L.tags.length + Qpa T
  drop : (Q9n L T f load).drop (14 + 4 * L.tags.length) = ipL T (segN T load) ++ Qkt T.src T.dst T.proto (segL T f load)
  take : (Q9n L T f load).take (14 + 4 * L.tags.length) = Q2x (Q3p L T.src.six)
end
end Go.Proofs.Ytlmdboaghojgiaa

/- What is made and rewritten is what is made for the other tuple (3): in plain Lean. -/
namespace Go.Proofs.Ytlmdboaghojgiaa
set_option linter.unusedVariables false
set_option linter.unusedSimpArgs false
open Go

section
variable {L : LinkL} {T : TupL} {f : Int} {load : List UInt8} {A : Adr} {n : Int} {dst : Bool}
end
end Go.Proofs.Ytlmdboaghojgiaa
