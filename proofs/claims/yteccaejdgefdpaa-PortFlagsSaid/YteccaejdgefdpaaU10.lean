/- The ends of PortSpoilt and PortFlags. -/
import Derived.Test.YteccaejdgefdpaaT10
namespace Go.Proofs.Yteccaejdgefdpaa
theorem spo10_guard {Sa Da : Adr} {u : Bool} {l : List UInt8} {c : UInt8} (h : ((!true || !fitB Sa Da u l) || ((c.toNat : Int) == 0)) = false) : (Sa.six = Da.six ∧ (portRead (protoI u) l).2 = 0 ∧ l.length ≤ 1000) ∧ c ≠ 0 := by
  rw [Bool.or_eq_false_iff] at h
  refine ⟨fit_yes h.1, ?_⟩
  rintro rfl
  simp at h
theorem spo10_dead {t : Int} {i j : Nat} (h1 : 8 ≤ t) (h2 : t ≤ (j : Int)) (h3 : i = j) {G : Prop} (h : ((decide (t < 8) || decide (t > (i : Int))) || ((i : Int) != (j : Int))) = true) : G := by
  exfalso; subst h3; simp at h; omega
theorem byteAt_set_ne {l : List UInt8} {i k : Nat} {c : UInt8} (h : k ≠ i) : byteAt (l.set k c) i = byteAt l i := by
  unfold byteAt
  simp [List.getD_eq_getElem?_getD, List.getElem?_set, h]
theorem byteAt_set_self {l : List UInt8} {k : Nat} {c : UInt8} (h : k < l.length) : byteAt (l.set k c) k = (c.toNat : Int) := by
  rw [byteAt_get (by simpa using h)]; simp
theorem spoilt10 {Sa Da : Adr} {u : Bool} {l L : List UInt8} {c : UInt8} {K : Nat} (hA : Sa.b.length = 16) (hD : Da.b.length = 16) (hok : (portRead (protoI u) l).2 = 0) (hc : c ≠ 0) (hK : (K : Int) < (portRead (protoI u) l).1.total) (hil : K < (pFill Sa Da (protoI u) l).length)
    (hk : ((u && (((K : Int) == 4) || ((K : Int) == 5))) || (!u && ((K : Int) == 12))) = false) (hL : L = (pFill Sa Da (protoI u) l).set K ((pFill Sa Da (protoI u) l)[K] ^^^ c)) :
    (portRead (protoI u) L).2 = 0 ∧ L.length = l.length ∧ pSum Sa Da (protoI u) L ≠ 0 := by
  have hfl := fill_len (Sa := Sa) (Da := Da) hok
  have hfr := fill_read (Sa := Sa) (Da := Da) hok
  have hll : L.length = l.length := by rw [hL, List.length_set, hfl]
  have h4 : protoI u = 17 → byteAt L 4 = byteAt (pFill Sa Da (protoI u) l) 4 ∧ byteAt L 5 = byteAt (pFill Sa Da (protoI u) l) 5 := by
    intro hq
    cases u with
    | false => simp [protoI] at hq
    | true =>
      simp at hk
      rw [hL]
      exact ⟨byteAt_set_ne (by omega), byteAt_set_ne (by omega)⟩
  have h12 : protoI u = 6 → byteAt L 12 = byteAt (pFill Sa Da (protoI u) l) 12 := by
    intro hq
    cases u with
    | true => simp [protoI] at hq
    | false =>
      simp at hk
      rw [hL]
      exact byteAt_set_ne (by omega)
  obtain ⟨z1, z2⟩ := read_lens (m := L) (l := pFill Sa Da (protoI u) l) (by rw [hll, hfl]) h4 h12 (by rw [hfr]; exact hok)
  rw [hfr] at z2
  refine ⟨z1, hll, ?_⟩
  rw [hL] at z2 ⊢
  exact spoilt_sum hA hD hok hK hil z2 (xor_ne hc)
theorem spo10_zero {Sa Da : Adr} {u : Bool} {L : List UInt8} (h6 : 6 < L.length) (h7 : 7 < L.length) (h : ((u && (((L[6]'h6).toNat : Int) == 0)) && (((L[7]'h7).toNat : Int) == 0)) = true) : (pRight Sa Da (protoI u) L == !Sa.six) = true := by
  cases u with
  | false => simp at h
  | true =>
    have hw : wordAt L 6 = 0 := by
      unfold wordAt
      rw [byteAt_get h6, byteAt_get h7]
      simp only [Bool.true_and, Bool.and_eq_true, beq_iff_eq] at h
      omega
    unfold pRight
    rw [if_pos ⟨rfl, hw⟩]
    simp
theorem spo10_end {Sa Da : Adr} {u : Bool} {L : List UInt8} (h6 : 6 < L.length) (h7 : 7 < L.length) (h : ((u && (((L[6]'h6).toNat : Int) == 0)) && (((L[7]'h7).toNat : Int) == 0)) = false) (hs : pSum Sa Da (protoI u) L ≠ 0) : (!pRight Sa Da (protoI u) L) = true := by
  unfold pRight
  rw [if_neg]
  · simpa using hs
  · rintro ⟨h1, h2⟩
    cases u with
    | false => simp [protoI] at h1
    | true =>
      unfold wordAt at h2
      rw [byteAt_get h6, byteAt_get h7] at h2
      have y0 := byte_bd (L[6]'h6)
      have y1 := byte_bd (L[7]'h7)
      simp only [Bool.true_and, Bool.and_eq_false_iff, beq_eq_false_iff_ne, ne_eq] at h
      omega

/-! ## PortFlags -/
theorem or16 {e : Int} {c : UInt8} (h : 0 ≤ e ∧ e ≤ 15) : bitOr .u8 ((b8 (16 * e)).toNat : Int) ((c.toNat : Int) % ((2 ^ 4 : Nat) : Int)) = 16 * e + (c.toNat : Int) % 16 := by
  have y := byte_bd c
  have e4 : ((2 ^ 4 : Nat) : Int) = 16 := rfl
  have eb : ((b8 (16 * e)).toNat : Int) = e * ((2 ^ 4 : Nat) : Int) := by rw [b8_toNat, e4]; omega
  rw [bitOr_add 4 e eb h.1 (by rw [e4]; omega) (mask_u8 _) (by rw [e4]; simp [IntKind.max, IntKind.signed, IntKind.bits]; omega), b8_toNat, e4]
  omega
theorem or16_bd {e : Int} {c : UInt8} (h : 0 ≤ e ∧ e ≤ 15) : 0 ≤ bitOr .u8 ((b8 (16 * e)).toNat : Int) ((c.toNat : Int) % ((2 ^ 4 : Nat) : Int)) ∧ bitOr .u8 ((b8 (16 * e)).toNat : Int) ((c.toNat : Int) % ((2 ^ 4 : Nat) : Int)) < 256 := by
  have y := byte_bd c
  rw [or16 h]; omega
/-- A TCP header with its length's and its flags' bytes put in. -/
def flagd (l : List UInt8) (v x : UInt8) : List UInt8 := (l.set 12 v).set 13 x
theorem flag10 {l : List UInt8} {e : Int} {x : UInt8} (h20 : 20 ≤ l.length) (h : 0 ≤ e ∧ e ≤ 15) :
    portRead 6 (flagd l (b8 (bitOr .u8 ((b8 (16 * e)).toNat : Int) (((l[12]'(by omega)).toNat : Int) % ((2 ^ 4 : Nat) : Int)))) x) =
      if e < 5 then (port0, 3) else if 4 * e > (l.length : Int) then (port0, 2) else (⟨wordAt l 0, wordAt l 2, (x.toNat : Int) % 64, 4 * e, (l.length : Int)⟩, 0) := by
  have y := byte_bd (l[12]'(by omega))
  have el : (flagd l (b8 (bitOr .u8 ((b8 (16 * e)).toNat : Int) (((l[12]'(by omega)).toNat : Int) % ((2 ^ 4 : Nat) : Int)))) x).length = l.length := by simp [flagd]
  have e12 : byteAt (flagd l (b8 (bitOr .u8 ((b8 (16 * e)).toNat : Int) (((l[12]'(by omega)).toNat : Int) % ((2 ^ 4 : Nat) : Int)))) x) 12 = 16 * e + ((l[12]'(by omega)).toNat : Int) % 16 := by
    unfold flagd
    rw [byteAt_set_ne (by decide), byteAt_set_self (by omega), b8_toNat, or16 h]; omega
  have e13 : byteAt (flagd l (b8 (bitOr .u8 ((b8 (16 * e)).toNat : Int) (((l[12]'(by omega)).toNat : Int) % ((2 ^ 4 : Nat) : Int)))) x) 13 = (x.toNat : Int) := by
    unfold flagd
    rw [byteAt_set_self (by simp; omega)]
  have ew : ∀ i, i + 1 < 12 → wordAt (flagd l (b8 (bitOr .u8 ((b8 (16 * e)).toNat : Int) (((l[12]'(by omega)).toNat : Int) % ((2 ^ 4 : Nat) : Int)))) x) i = wordAt l i := by
    intro i hi
    unfold wordAt flagd
    rw [byteAt_set_ne (by omega), byteAt_set_ne (by omega), byteAt_set_ne (by omega), byteAt_set_ne (by omega)]
  rw [portRead_tcp]
  unfold tcpRead
  rw [el, e12, e13, ew 0 (by decide), ew 2 (by decide), if_neg (by omega)]
  have ex : (16 * e + ((l[12]'(by omega)).toNat : Int) % 16) / 16 * 4 = 4 * e := by omega
  rw [ex]
  by_cases h5 : e < 5
  · rw [if_pos (by omega), if_pos h5]
  · rw [if_neg (by omega), if_neg h5]
end Go.Proofs.Yteccaejdgefdpaa
