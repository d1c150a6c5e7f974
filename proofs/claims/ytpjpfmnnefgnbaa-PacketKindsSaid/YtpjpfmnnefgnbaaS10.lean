import Derived.Test.YtpjpfmnnefgnbaaS08
import Derived.Test.YtpjpfmnnefgnbaaM06
/- Headers of TCP and UDP, in plain Lean. -/
namespace Go.Proofs.Ytpjpfmnnefgnbaa
set_option linter.unusedVariables false
set_option linter.unusedSimpArgs false

structure PortL where
  sport : Int
  dport : Int
  flags : Int
  head : Int
  total : Int
def portS (X : PortL) : List (List Value) := [[.int .i64 X.sport], [.int .i64 X.dport], [.int .i64 X.flags], [.int .i64 X.head], [.int .i64 X.total]]
def PortV (X : PortL) : Value := .agg (portS X).flatten.toArray
def port0 : PortL := ⟨0, 0, 0, 0, 0⟩
theorem port_one {X : PortL} : ∀ u ∈ (portS X).flatten, u.oneCell' = true := by
  intro u hu
  simp only [portS, List.flatten_cons, List.flatten_nil, List.mem_append, List.mem_cons, List.not_mem_nil, or_false] at hu
  rcases hu with h | h | h | h | h <;> subst h <;> rfl
theorem port_len (X : PortL) : (portS X).flatten.length = 5 := rfl
def tcpRead (l : List UInt8) : PortL × Int :=
  if l.length < 20 then (port0, 2)
  else if byteAt l 12 / 16 * 4 < 20 then (port0, 3)
  else if byteAt l 12 / 16 * 4 > (l.length : Int) then (port0, 2)
  else (⟨wordAt l 0, wordAt l 2, byteAt l 13 % 64, byteAt l 12 / 16 * 4, (l.length : Int)⟩, 0)
def udpRead (l : List UInt8) : PortL × Int :=
  if l.length < 8 then (port0, 2)
  else if wordAt l 4 < 8 then (port0, 3)
  else if wordAt l 4 > (l.length : Int) then (port0, 2)
  else (⟨wordAt l 0, wordAt l 2, 0, 8, wordAt l 4⟩, 0)
def portRead (p : Int) (l : List UInt8) : PortL × Int := if p = 6 then tcpRead l else if p = 17 then udpRead l else (port0, 5)
theorem portRead_tcp (l : List UInt8) : portRead 6 l = tcpRead l := rfl
theorem portRead_udp (l : List UInt8) : portRead 17 l = udpRead l := rfl
theorem portRead_none {p : Int} {l : List UInt8} (h1 : p ≠ 6) (h2 : p ≠ 17) : portRead p l = (port0, 5) := by unfold portRead; rw [if_neg h1, if_neg h2]
def portPlace (p : Int) : Int := if p = 6 then 16 else if p = 17 then 6 else 0
theorem maxl_gt {m : Int} {n : Nat} (h : decide ((if (n : Int) > m then (n : Int) else m) > (n : Int)) = true) : m > (n : Int) := by
  have h := of_decide_eq_true h
  split at h <;> omega
theorem maxl_le {m : Int} {n : Nat} (h : decide ((if (n : Int) > m then (n : Int) else m) > (n : Int)) = false) : ¬ m > (n : Int) := by
  have h := of_decide_eq_false h
  split at h <;> omega
theorem maxr_gt {m : Int} {n : Nat} (h8 : 8 ≤ n) (h : decide ((if m > 8 then m else 8) > (n : Int)) = true) : m > (n : Int) := by
  have h := of_decide_eq_true h
  split at h <;> omega
theorem maxr_le {m : Int} {n : Nat} (h : decide ((if m > 8 then m else 8) > (n : Int)) = false) : ¬ m > (n : Int) := by
  have h := of_decide_eq_false h
  split at h <;> omega

/-! ## Checksums -/
theorem portRead_ok {q : Int} {l : List UInt8} (h : (portRead q l).2 = 0) : 8 ≤ (portRead q l).1.total ∧ (portRead q l).1.total ≤ (l.length : Int) ∧ 8 ≤ l.length ∧ (q = 6 ∧ 20 ≤ l.length ∧ (portRead q l).1.total = (l.length : Int) ∨ q = 17 ∧ (portRead q l).1.total = wordAt l 4) := by
  unfold portRead at h ⊢
  by_cases h6 : q = 6
  · rw [if_pos h6] at h ⊢
    unfold tcpRead at h ⊢
    split at h; · simp at h
    split at h; · simp at h
    split at h; · simp at h
    rename_i h1 h2 h3
    rw [if_neg h1, if_neg h2, if_neg h3]
    exact ⟨by show (8 : Int) ≤ (l.length : Int); omega, Int.le_refl _, by omega, .inl ⟨h6, by omega, rfl⟩⟩
  · rw [if_neg h6] at h ⊢
    by_cases h17 : q = 17
    · rw [if_pos h17] at h ⊢
      unfold udpRead at h ⊢
      split at h; · simp at h
      split at h; · simp at h
      split at h; · simp at h
      rename_i h1 h2 h3
      rw [if_neg h1, if_neg h2, if_neg h3]
      exact ⟨by show (8 : Int) ≤ wordAt l 4; omega, by show wordAt l 4 ≤ (l.length : Int); omega, by omega, .inr ⟨h17, rfl⟩⟩
    · rw [if_neg h17] at h; simp at h
def atN (q : Int) : Nat := if q = 6 then 16 else 6
theorem atN_le {q : Int} {l : List UInt8} (h : (portRead q l).2 = 0) : atN q + 2 ≤ l.length ∧ portPlace q = (atN q : Int) ∧ ((atN q + 2 : Nat) : Int) ≤ (portRead q l).1.total := by
  obtain ⟨h1, h2, h3, h4⟩ := portRead_ok h
  unfold atN portPlace
  rcases h4 with ⟨rfl, h5, h6⟩ | ⟨rfl, h6⟩
  · simp; omega
  · simp; omega
theorem portRead_congr {q : Int} {l m : List UInt8} (hl : m.length = l.length) (hb : ∀ i, i ≠ atN q → i ≠ atN q + 1 → byteAt m i = byteAt l i) : portRead q m = portRead q l := by
  unfold portRead
  by_cases h6 : q = 6
  · subst h6
    have e : ∀ i, i < 16 → byteAt m i = byteAt l i := fun i hi => hb i (by show i ≠ 16; omega) (by show i ≠ 17; omega)
    show tcpRead m = tcpRead l
    unfold tcpRead wordAt
    rw [hl, e 0 (by decide), e 1 (by decide), e 2 (by decide), e 3 (by decide), e 12 (by decide), e 13 (by decide)]
  · by_cases h17 : q = 17
    · subst h17
      have e : ∀ i, i < 6 → byteAt m i = byteAt l i := fun i hi => hb i (by show i ≠ 6; omega) (by show i ≠ 7; omega)
      show udpRead m = udpRead l
      unfold udpRead wordAt
      rw [hl, e 0 (by decide), e 1 (by decide), e 2 (by decide), e 3 (by decide), e 4 (by decide), e 5 (by decide)]
    · rw [if_neg h6, if_neg h17, if_neg h6, if_neg h17]
def put2At (l : List UInt8) (k : Nat) (a : List UInt8) : List UInt8 := l.take k ++ a ++ l.drop (k + 2)
theorem put2At_cpy {l a : List UInt8} {k : Nat} (h : k + 2 ≤ l.length) (ha : a.length = 2) : cpy l k (l.length - k) a = put2At l k a := by
  unfold cpy put2At
  rw [List.take_of_length_le (l := a) (by omega), ha, show min (l.length - k) 2 = 2 from by omega]
theorem put2At_len {l a : List UInt8} {k : Nat} (h : k + 2 ≤ l.length) (ha : a.length = 2) : (put2At l k a).length = l.length := by
  unfold put2At; simp [ha]; omega
theorem put2At_byte {l a : List UInt8} {k i : Nat} (h : k + 2 ≤ l.length) (ha : a.length = 2) (h1 : i ≠ k) (h2 : i ≠ k + 1) : byteAt (put2At l k a) i = byteAt l i := by
  unfold byteAt put2At
  congr 2
  simp only [List.getD_eq_getElem?_getD]
  congr 1
  have hk : (l.take k).length = k := by simp; omega
  by_cases hi : i < k
  · rw [List.append_assoc, List.getElem?_append_left (by omega), List.getElem?_take_of_lt hi]
  · rw [List.getElem?_append_right (by simp [ha]; omega), List.getElem?_drop]
    congr 1
    simp [ha]; omega
theorem put2At_put {l a b : List UInt8} {k : Nat} (h : k + 2 ≤ l.length) (ha : a.length = 2) (_hb : b.length = 2) : put2At (put2At l k a) k b = put2At l k b := by
  unfold put2At
  have hk : (l.take k).length = k := by simp; omega
  have e1 : (l.take k ++ a ++ l.drop (k + 2)).take k = l.take k := by rw [List.append_assoc, List.take_append_of_le_length (by omega), List.take_of_length_le (by omega)]
  have e2 : (l.take k ++ a ++ l.drop (k + 2)).drop (k + 2) = l.drop (k + 2) := by
    rw [List.drop_append_of_le_length (by simp [ha]; omega), List.drop_of_length_le (by simp [ha]; omega), List.nil_append]
  rw [e1, e2]
theorem read_put2 {q : Int} {l a : List UInt8} (h : (portRead q l).2 = 0) (ha : a.length = 2) : portRead q (put2At l (atN q) a) = portRead q l := by
  have h1 := atN_le h
  exact portRead_congr (put2At_len h1.1 ha) fun i h2 h3 => put2At_byte h1.1 ha h2 h3
def pSum (Sa Da : Adr) (q : Int) (l : List UInt8) : Int := ck (pseudoL Sa Da q (portRead q l).1.total ++ l.take (portRead q l).1.total.toNat)
def pFix (q s : Int) : Int := if s = 0 ∧ q = 17 then 65535 else s
def pFill (Sa Da : Adr) (q : Int) (l : List UInt8) : List UInt8 := put2At l (atN q) (put2 (pFix q (pSum Sa Da q (put2At l (atN q) [0, 0]))))
theorem pSum_bd (Sa Da : Adr) (q : Int) (l : List UInt8) : 0 ≤ pSum Sa Da q l ∧ pSum Sa Da q l ≤ 65535 := ck_bd _
theorem pFix_bd {q s : Int} (h : 0 ≤ s ∧ s ≤ 65535) : 0 ≤ pFix q s ∧ pFix q s ≤ 65535 := by unfold pFix; split <;> omega
theorem fix_t {q s : Int} (h : ((s == 0) && (q == 17)) = true) : pFix q s = 65535 := by unfold pFix; rw [if_pos (by simpa using h)]
theorem fix_f {q s : Int} (h : ((s == 0) && (q == 17)) = false) : pFix q s = s := by unfold pFix; rw [if_neg (by simpa using h)]
end Go.Proofs.Ytpjpfmnnefgnbaa

/- TCP and UDP: what the statements of layer 10 say, in plain Lean. -/
namespace Go.Proofs.Ytpjpfmnnefgnbaa
set_option linter.unusedVariables false
set_option linter.unusedSimpArgs false

theorem fill_len {Sa Da : Adr} {q : Int} {l : List UInt8} (h : (portRead q l).2 = 0) : (pFill Sa Da q l).length = l.length := put2At_len (atN_le h).1 rfl
theorem fill_read {Sa Da : Adr} {q : Int} {l : List UInt8} (h : (portRead q l).2 = 0) : portRead q (pFill Sa Da q l) = portRead q l := read_put2 h rfl
/-! ## The laws' ends -/
end Go.Proofs.Ytpjpfmnnefgnbaa

/- The ends of PortSpoilt and PortFlags. -/
namespace Go.Proofs.Ytpjpfmnnefgnbaa
set_option linter.unusedVariables false
set_option linter.unusedSimpArgs false
theorem byteAt_set_ne {l : List UInt8} {i k : Nat} {c : UInt8} (h : k ≠ i) : byteAt (l.set k c) i = byteAt l i := by
  unfold byteAt
  simp [List.getD_eq_getElem?_getD, List.getElem?_set, h]
theorem byteAt_set_self {l : List UInt8} {k : Nat} {c : UInt8} (h : k < l.length) : byteAt (l.set k c) k = (c.toNat : Int) := by
  rw [byteAt_get (by simpa using h)]; simp
/-! ## PortFlags -/
end Go.Proofs.Ytpjpfmnnefgnbaa
