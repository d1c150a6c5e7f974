/- Frames, rewritten, in plain Lean. -/
import Derived.Test.YtlmdboaghojgiaaE11
namespace Go.Proofs.Ytlmdboaghojgiaa
set_option linter.unusedVariables false
set_option linter.unusedSimpArgs false
open Go

/-! ## Bytes put in their place -/
def putAt (l : List UInt8) (k : Nat) (a : List UInt8) : List UInt8 := l.take k ++ a ++ l.drop (k + a.length)
section
variable {l a : List UInt8} {k : Nat}
theorem putAt_len (h : k + a.length ≤ l.length) : (putAt l k a).length = l.length := by
  unfold putAt; simp; omega
theorem putAt_get (h : k + a.length ≤ l.length) (i : Nat) : (putAt l k a)[i]? = if k ≤ i ∧ i < k + a.length then a[i - k]? else l[i]? := by
  unfold putAt
  have hk : (l.take k).length = k := by simp; omega
  by_cases h1 : i < k
  · rw [if_neg (by omega), List.append_assoc, List.getElem?_append_left (by omega), List.getElem?_take_of_lt h1]
  · by_cases h2 : i < k + a.length
    · rw [if_pos (by omega), List.getElem?_append_left (by rw [List.length_append]; omega), List.getElem?_append_right (by omega), hk]
    · rw [if_neg (by omega), List.getElem?_append_right (by rw [List.length_append]; omega), List.getElem?_drop, List.length_append, hk]
      congr 1; omega
theorem byteAt_opt (l : List UInt8) (i : Nat) : byteAt l i = ((l[i]?.getD 0).toNat : Int) := by unfold byteAt; rw [List.getD_eq_getElem?_getD]
theorem cpy_putAt (h : k + a.length ≤ l.length) : cpy l k (l.length - k) a = putAt l k a := by
  unfold cpy putAt
  rw [List.take_of_length_le (l := a) (by omega), show min (l.length - k) a.length = a.length from by omega]
theorem putAt_step {c : UInt8} (h : k + a.length < l.length) : (putAt l k a).set (k + a.length) c = putAt l k (a ++ [c]) := by
  apply List.ext_getElem?
  intro i
  rw [List.getElem?_set, putAt_get (by omega), putAt_get (by simp; omega), putAt_len (by omega)]
  simp only [List.length_append, List.length_cons, List.length_nil]
  by_cases h1 : k + a.length = i
  · rw [if_pos h1, if_pos (by omega), if_pos (by omega), List.getElem?_append_right (by omega), show i - k - a.length = 0 from by omega]; rfl
  · rw [if_neg h1]
    by_cases h2 : k ≤ i ∧ i < k + a.length
    · rw [if_pos h2, if_pos (by omega), List.getElem?_append_left (by omega)]
    · rw [if_neg h2, if_neg (by omega)]
theorem putAt_nil (l : List UInt8) (k : Nat) : putAt l k [] = l := by unfold putAt; simp
theorem putAt_two {c d : UInt8} (h : k + 2 ≤ l.length) : (l.set k c).set (k + 1) d = putAt l k [c, d] := by
  have h1 := putAt_step (l := l) (k := k) (a := []) (c := c) (by simp; omega)
  have h2 := putAt_step (l := l) (k := k) (a := [c]) (c := d) (by simp; omega)
  rw [putAt_nil] at h1
  have h1' : l.set k c = putAt l k [c] := h1
  rw [h1']
  exact h2
end
/-! ## Rewriting -/
def ofB (six : Bool) (A : Adr) : Bool := A.six == six && (six || shortA A)
theorem ofB_yes {six : Bool} {A : Adr} (h : ofB six A = true) : A.six = six ∧ (six = false → shortA A = true) := by
  unfold ofB at h
  simp only [Bool.and_eq_true, beq_iff_eq, Bool.or_eq_true] at h
  refine ⟨h.1, fun h0 => ?_⟩
  rcases h.2 with h1 | h1
  · rw [h0] at h1; cases h1
  · exact h1
theorem ofB_plain {six : Bool} {A : Adr} : (A.six == six && (six || !(A.b.drop 4).any fun c => c != 0)) = ofB six A := by
  unfold ofB shortA
  cases A.six <;> cases six <;> simp
def six12 (l : List UInt8) : Bool := (pkN l).1.src.six
def sz12 (s : Bool) : Nat := if s then 16 else 4
def at12 (l : List UInt8) (dst : Bool) : Nat := pkA l + (if six12 l then 8 else 12) + (if dst then sz12 (six12 l) else 0)
def seg12 (l : List UInt8) : Nat := pkA l + (pkN l).1.head.toNat
def pl12 (l : List UInt8) (dst : Bool) : Nat := seg12 l + (if dst then 2 else 0)
def ip12 (l : List UInt8) : Nat := pkA l + 10
def ck12 (l : List UInt8) : Nat := seg12 l + atN (pkN l).1.proto
def old12 (l : List UInt8) (dst : Bool) : List UInt8 := subl l (at12 l dst) (at12 l dst + sz12 (six12 l))
def fresh12 (l : List UInt8) (A : Adr) : List UInt8 := A.b.take (sz12 (six12 l))
def wip12 (l : List UInt8) (A : Adr) (dst : Bool) : Int := changed (wordAt l (ip12 l)) (old12 l dst) (fresh12 l A)
def wck12 (l : List UInt8) (A : Adr) (n : Int) (dst : Bool) : Int := changed (changed (wordAt l (ck12 l)) (old12 l dst) (fresh12 l A)) (subl l (pl12 l dst) (pl12 l dst + 2)) (put2 n)
def natA (l : List UInt8) (A : Adr) (n : Int) (dst : Bool) : List UInt8 := putAt (putAt (l.take (endP l)) (at12 l dst) (fresh12 l A)) (pl12 l dst) (put2 n)
def natB (l : List UInt8) (A : Adr) (n : Int) (dst : Bool) : List UInt8 := if six12 l then natA l A n dst else putAt (natA l A n dst) (ip12 l) (put2 (wip12 l A dst))
def udp0 (l : List UInt8) : Prop := (pkN l).1.proto = 17 ∧ wordAt l (ck12 l) = 0
instance (l : List UInt8) : Decidable (udp0 l) := by unfold udp0; infer_instance
def natX (l : List UInt8) (A : Adr) (n : Int) (dst : Bool) : List UInt8 := if udp0 l then natB l A n dst else putAt (natB l A n dst) (ck12 l) (put2 (pFix (pkN l).1.proto (wck12 l A n dst)))
def natOk (l : List UInt8) (A : Adr) (n : Int) : Bool := (pktRead l).kind == 0 && ofB (pktRead l).tup.src.six A && inW n
def natR (l : List UInt8) (A : Adr) (n : Int) (dst : Bool) : List UInt8 × Int := if natOk l A n then (natX l A n dst, 0) else ([], 1)
def natR2 (l : List UInt8) (A : Adr) (n : Int) (dst : Bool) : List UInt8 × Bool := if natOk l A n then (natX l A n dst, true) else ([], false)
structure NatP (l : List UInt8) (A : Adr) (n : Int) : Prop where
  fine : FineP l
  eq : pktRead l = fineR l
  six : A.six = six12 l
  short : six12 l = false → shortA A = true
  port : 0 ≤ n ∧ n ≤ 65535
theorem nat_ok {l : List UInt8} {A : Adr} {n : Int} (h : natOk l A n = true) : NatP l A n := by
  unfold natOk at h
  simp only [Bool.and_eq_true, beq_iff_eq] at h
  obtain ⟨⟨h1, h2⟩, h3⟩ := h
  obtain ⟨h4, h5⟩ := fine_of h1
  rw [h5] at h2
  obtain ⟨k1, k2⟩ := ofB_yes h2
  exact ⟨h4, h5, k1, k2, inW_bd h3⟩
theorem net_six {k : Int} {l : List UInt8} (h : (netT k l).2 = 0) : (netT k l).1.src.six = decide (k ≠ 2048) ∧ (netT k l).1.dst.six = decide (k ≠ 2048) ∧ (k ≠ 2048 → 40 ≤ (netT k l).1.head) := by
  by_cases hk : k = 2048
  · have e : netT k l = _ := if_pos hk
    rw [e] at h ⊢
    obtain ⟨h1, h2, h3, h4, h5, h6⟩ := fourRead_conds h
    have e2 := fourRead_last h1 h2 h3 h4 h5 h6
    refine ⟨?_, ?_, fun hn => absurd hk hn⟩
    · show (fourRead l).1.src.six = _; rw [e2]; simp [fourIs, adr4, hk]
    · show (fourRead l).1.dst.six = _; rw [e2]; simp [fourIs, adr4, hk]
  · have e : netT k l = _ := if_neg hk
    rw [e] at h ⊢
    have hs : ∀ (j : Nat) (R : List UInt8) (h9 : Int) (f : Bool) (p : Int), (sixGo (sixHead l) j R h9 f p).2 = 0 → (sixGo (sixHead l) j R h9 f p).1.src.six = true ∧ (sixGo (sixHead l) j R h9 f p).1.dst.six = true := by
      intro j
      induction j with
      | zero =>
        intro R h9 f p
        by_cases c : (f || !extB p) = true
        · rw [sixGo_done c]; intro _; exact ⟨rfl, rfl⟩
        · rw [sixGo_long (by simpa using c)]; intro h0; exact absurd h0 (by decide)
      | succ j ih =>
        intro R h9 f p
        by_cases c : (f || !extB p) = true
        · rw [sixGo_done c]; intro _; exact ⟨rfl, rfl⟩
        · have c' : (f || !extB p) = false := by simpa using c
          by_cases e : (R.length : Int) < 8 ∨ (R.length : Int) < sizeE p (byteAt R 1)
          · rw [sixGo_end c' e]; intro h0; exact absurd h0 (by decide)
          · rw [sixGo_step c' e]; exact ih _ _ _ _
    have h' : (sixRead l).2 = 0 := h
    obtain ⟨h1, h2, h3⟩ := six_conds h'
    have e3 : sixRead l = sixGo (sixHead l) 8 ((l.take (40 + wordAt l 4).toNat).drop 40) 40 false (byteAt l 6) := by unfold sixRead; rw [if_neg h1, if_neg h2, if_neg h3]
    have hb : 40 ≤ (sixRead l).1.head := by
      rcases six_bd l with k9 | k9
      · exact absurd h' k9.2
      · exact k9.1
    rw [e3] at h'
    have := hs _ _ _ _ _ h'
    refine ⟨?_, ?_, fun _ => hb⟩
    · show (sixRead l).1.src.six = _; rw [e3, this.1]; simp [hk]
    · show (sixRead l).1.dst.six = _; rw [e3, this.2]; simp [hk]
structure NatB (l : List UInt8) : Prop where
  a14 : 14 ≤ pkA l
  h20 : pkA l + (if six12 l then 40 else 20) ≤ seg12 l
  seg : seg12 l + (pkP l).length = endP l
  pl : atN (pkN l).1.proto + 2 ≤ (pkP l).length
  at6 : 6 ≤ atN (pkN l).1.proto
  len : endP l ≤ l.length
  ports : 8 ≤ (pkP l).length
theorem nat_bd {l : List UInt8} (h : FineP l) : NatB l := by
  obtain ⟨b1, b2, b3, b4, b5⟩ := fine_bd h
  have hp := portRead_ok h.po
  have ha := (atN_le h.po).1
  have h6 := net_six (k := (linkRead l).1.type) (l := l.drop (pkA l)) h.nt
  have hl : (pkP l).length = (pkN l).1.total.toNat - (pkN l).1.head.toNat := by
    unfold pkP subl
    rw [List.length_drop, List.length_take]
    omega
  refine ⟨b2, ?_, ?_, ha, by unfold atN; split <;> omega, by unfold endP; omega, hp.2.2.1⟩
  · unfold seg12
    by_cases hs : six12 l = true
    · rw [if_pos hs]
      have h7 : (netT (linkRead l).1.type (l.drop (pkA l))).1.src.six = true := hs
      rw [h6.1] at h7
      have := h6.2.2 (by simpa using h7)
      have : 40 ≤ (pkN l).1.head := this
      omega
    · rw [if_neg hs]; omega
  · unfold seg12 endP; omega
theorem fresh12_len {l : List UInt8} {A : Adr} (hA : A.b.length = 16) : (fresh12 l A).length = sz12 (six12 l) := by
  unfold fresh12 sz12; rw [List.length_take, hA]; split <;> rfl
theorem sz12_bd (s : Bool) : sz12 s = 4 ∨ sz12 s = 16 := by unfold sz12; split <;> simp
section
variable {l : List UInt8} {A : Adr} {n : Int} {dst : Bool}
theorem nat_places (b : NatB l) : at12 l dst + sz12 (six12 l) ≤ seg12 l ∧ ip12 l + 2 ≤ seg12 l ∧ (six12 l = false → ip12 l + 2 ≤ at12 l dst) ∧ seg12 l ≤ pl12 l dst ∧ pl12 l dst + 2 ≤ seg12 l + 4 ∧ seg12 l + 6 ≤ ck12 l ∧ ck12 l + 2 ≤ endP l ∧ seg12 l + 8 ≤ endP l ∧ pkA l + 8 ≤ at12 l dst ∧ (six12 l = false → pkA l + 12 ≤ at12 l dst) := by
  obtain ⟨h1, h2, h3, h4, h5, h6, h7⟩ := b
  unfold at12 ip12 pl12 ck12 sz12
  revert h2
  generalize six12 l = s
  intro h2
  cases s <;> cases dst <;> simp only [if_true, if_false, Bool.false_eq_true, forall_const, reduceCtorEq, false_implies, true_and, and_true, Nat.add_zero, Bool.true_eq_false, imp_false, not_false_eq_true, not_true_eq_false] at h2 ⊢ <;> omega
theorem natA_len (b : NatB l) (hA : A.b.length = 16) : (natA l A n dst).length = endP l := by
  have hp := nat_places (dst := dst) b
  have hf := fresh12_len (l := l) hA
  have hl := b.len
  unfold natA
  rw [putAt_len (by rw [putAt_len (by simp; omega)]; simp [put2_len]; omega), putAt_len (by simp; omega)]
  simp; omega
theorem natB_len (b : NatB l) (hA : A.b.length = 16) : (natB l A n dst).length = endP l := by
  have hp := nat_places (dst := dst) b
  unfold natB
  split
  · exact natA_len b hA
  · rw [putAt_len (by rw [natA_len b hA, put2_len]; omega), natA_len b hA]
theorem natA_get (b : NatB l) (hA : A.b.length = 16) (i : Nat) : (natA l A n dst)[i]? = if pl12 l dst ≤ i ∧ i < pl12 l dst + 2 then (put2 n)[i - pl12 l dst]? else if at12 l dst ≤ i ∧ i < at12 l dst + sz12 (six12 l) then (fresh12 l A)[i - at12 l dst]? else (l.take (endP l))[i]? := by
  have hp := nat_places (dst := dst) b
  have hf := fresh12_len (l := l) hA
  have hl := b.len
  unfold natA
  rw [putAt_get (by rw [putAt_len (by simp; omega)]; simp [put2_len]; omega), putAt_get (by simp; omega), put2_len, hf]
theorem natB_get (b : NatB l) (hA : A.b.length = 16) (i : Nat) : (natB l A n dst)[i]? = if six12 l = false ∧ ip12 l ≤ i ∧ i < ip12 l + 2 then (put2 (wip12 l A dst))[i - ip12 l]? else (natA l A n dst)[i]? := by
  have hp := nat_places (dst := dst) b
  unfold natB
  cases h6 : six12 l with
  | true => simp
  | false =>
    simp only [Bool.false_eq_true, if_false, true_and]
    rw [putAt_get (by rw [natA_len b hA, put2_len]; omega), put2_len]
theorem natA_word (b : NatB l) (hA : A.b.length = 16) {k : Nat} (hk : k + 2 ≤ endP l) (h1 : k + 2 ≤ pl12 l dst ∨ pl12 l dst + 2 ≤ k) (h2 : k + 2 ≤ at12 l dst ∨ at12 l dst + sz12 (six12 l) ≤ k) : wordAt (natA l A n dst) k = wordAt l k := by
  have hg : ∀ i, k ≤ i → i < k + 2 → byteAt (natA l A n dst) i = byteAt l i := fun i hi1 hi2 => by
    rw [byteAt_opt, byteAt_opt, natA_get b hA, if_neg (by omega), if_neg (by omega), List.getElem?_take_of_lt (by omega)]
  unfold wordAt
  rw [hg k (by omega) (by omega), hg (k + 1) (by omega) (by omega)]
theorem natB_word (b : NatB l) (hA : A.b.length = 16) : wordAt (natB l A n dst) (ck12 l) = wordAt l (ck12 l) := by
  have hp := nat_places (dst := dst) b
  have hg : ∀ i, ck12 l ≤ i → i < ck12 l + 2 → byteAt (natB l A n dst) i = byteAt l i := fun i hi1 hi2 => by
    rw [byteAt_opt, byteAt_opt, natB_get b hA, if_neg (by omega), natA_get b hA, if_neg (by omega), if_neg (by omega), List.getElem?_take_of_lt (by omega)]
  unfold wordAt
  rw [hg _ (by omega) (by omega), hg _ (by omega) (by omega)]
end
end Go.Proofs.Ytlmdboaghojgiaa
