/- TCP and UDP: what the statements of layer 10 say, in plain Lean. -/
import Derived.Test.YteccaejdgefdpaaS10
import Derived.Test.YteccaejdgefdpaaM06
namespace Go.Proofs.Yteccaejdgefdpaa

theorem pseudoL_even (A D : Adr) (p n : Int) (hA : A.b.length = 16) (hD : D.b.length = 16) : (pseudoL A D p n).length % 2 = 0 := by
  unfold pseudoL pseudo
  split <;> simp [hA, hD]
theorem atN_even (q : Int) : atN q % 2 = 0 := by unfold atN; split <;> decide
/-- A segment's sum, with zeros in its checksum's place. -/
theorem sum_parts {Sa Da : Adr} {q : Int} {l : List UInt8} (hA : Sa.b.length = 16) (hD : Da.b.length = 16) (h : (portRead q l).2 = 0) (x y : UInt8) :
    wsum (pseudoL Sa Da q (portRead q l).1.total ++ (put2At l (atN q) [x, y]).take (portRead q l).1.total.toNat) =
      wsum (pseudoL Sa Da q (portRead q l).1.total ++ (put2At l (atN q) [0, 0]).take (portRead q l).1.total.toNat) + (256 * (x.toNat : Int) + (y.toNat : Int)) := by
  obtain ⟨v1, v2, v3⟩ := atN_le h
  obtain ⟨y1, y2, y3, y4⟩ := portRead_ok h
  have he := pseudoL_even Sa Da q (portRead q l).1.total hA hD
  rw [wsum_even _ he, wsum_even _ he, put2At_take (by omega) (by omega) rfl, put2At_take (by omega) (by omega) rfl]
  unfold put2At
  have hk : ((l.take (portRead q l).1.total.toNat).take (atN q)).length % 2 = 0 := by
    have := atN_even q
    simp; omega
  rw [List.append_assoc, List.append_assoc, wsum_even _ hk, wsum_even _ hk]
  simp only [List.cons_append, List.nil_append, wsum]
  have : ((0 : UInt8).toNat : Int) = 0 := rfl
  omega
theorem fill_sum {Sa Da : Adr} {q : Int} {l : List UInt8} (hA : Sa.b.length = 16) (hD : Da.b.length = 16) (h : (portRead q l).2 = 0) : pSum Sa Da q (pFill Sa Da q l) = 0 := by
  have hz := read_put2 (a := [0, 0]) h rfl
  have hf : portRead q (pFill Sa Da q l) = portRead q l := read_put2 h rfl
  have hsb := pSum_bd Sa Da q (put2At l (atN q) [0, 0])
  have hfb := pFix_bd (q := q) hsb
  unfold pSum at hsb hfb ⊢
  rw [hf]
  unfold pFill
  rw [show put2 (pFix q (pSum Sa Da q (put2At l (atN q) [0, 0]))) = [b8 (pFix q (pSum Sa Da q (put2At l (atN q) [0, 0])) / 256), b8 (pFix q (pSum Sa Da q (put2At l (atN q) [0, 0])))] from rfl]
  have e := sum_parts hA hD h (b8 (pFix q (pSum Sa Da q (put2At l (atN q) [0, 0])) / 256)) (b8 (pFix q (pSum Sa Da q (put2At l (atN q) [0, 0]))))
  rw [b8_toNat, b8_toNat] at e
  unfold ck
  rw [e]
  unfold pSum at *
  rw [hz] at *
  have hn := wsum_nonneg (pseudoL Sa Da q (portRead q l).1.total ++ (put2At l (atN q) [0, 0]).take (portRead q l).1.total.toNat)
  unfold ck pFix at *
  unfold norm at *
  generalize wsum (pseudoL Sa Da q (portRead q l).1.total ++ (put2At l (atN q) [0, 0]).take (portRead q l).1.total.toNat) = s at *
  split at hfb <;> split at hsb <;> split <;> split <;> omega
theorem fill_two {Sa Da : Adr} {q : Int} {l : List UInt8} (h : (portRead q l).2 = 0) : byteAt (pFill Sa Da q l) (atN q) = pFix q (pSum Sa Da q (put2At l (atN q) [0, 0])) / 256 ∧ byteAt (pFill Sa Da q l) (atN q + 1) = pFix q (pSum Sa Da q (put2At l (atN q) [0, 0])) % 256 := by
  obtain ⟨v1, v2, v3⟩ := atN_le h
  have hsb := pFix_bd (q := q) (pSum_bd Sa Da q (put2At l (atN q) [0, 0]))
  have hk : (l.take (atN q)).length = atN q := by simp; omega
  have key : ∀ m, 0 ≤ m ∧ m ≤ 65535 → byteAt (put2At l (atN q) (put2 m)) (atN q) = m / 256 ∧ byteAt (put2At l (atN q) (put2 m)) (atN q + 1) = m % 256 := by
    intro m hm
    unfold byteAt put2At put2
    constructor
    · have : (l.take (atN q) ++ [b8 (m / 256), b8 m] ++ l.drop (atN q + 2))[atN q]? = some (b8 (m / 256)) := by
        rw [List.append_assoc, List.getElem?_append_right (by omega), hk, Nat.sub_self]; rfl
      rw [List.getD_eq_getElem?_getD, this, Option.getD_some, b8_toNat]; omega
    · have : (l.take (atN q) ++ [b8 (m / 256), b8 m] ++ l.drop (atN q + 2))[atN q + 1]? = some (b8 m) := by
        rw [List.append_assoc, List.getElem?_append_right (by omega), hk, Nat.add_sub_cancel_left]; rfl
      rw [List.getD_eq_getElem?_getD, this, Option.getD_some, b8_toNat]
  exact key _ hsb
theorem fill_len {Sa Da : Adr} {q : Int} {l : List UInt8} (h : (portRead q l).2 = 0) : (pFill Sa Da q l).length = l.length := put2At_len (atN_le h).1 rfl
theorem fill_read {Sa Da : Adr} {q : Int} {l : List UInt8} (h : (portRead q l).2 = 0) : portRead q (pFill Sa Da q l) = portRead q l := read_put2 h rfl
theorem fill_byte {Sa Da : Adr} {q : Int} {l : List UInt8} {i : Nat} (h : (portRead q l).2 = 0) (h1 : i ≠ atN q) (h2 : i ≠ atN q + 1) : byteAt (pFill Sa Da q l) i = byteAt l i := put2At_byte (atN_le h).1 rfl h1 h2
theorem pFix_pos {s : Int} (h : 0 ≤ s) : 0 < pFix 17 s := by unfold pFix; split <;> omega
theorem udp_word {Sa Da : Adr} {l : List UInt8} (h : (portRead 17 l).2 = 0) : 0 < wordAt (pFill Sa Da 17 l) 6 := by
  have := fill_two (Sa := Sa) (Da := Da) h
  have e : atN 17 = 6 := rfl
  rw [e] at this
  have hp := pFix_pos (pSum_bd Sa Da 17 (put2At l 6 [0, 0])).1
  unfold wordAt
  omega
theorem fill_right {Sa Da : Adr} {q : Int} {l : List UInt8} (hA : Sa.b.length = 16) (hD : Da.b.length = 16) (h : (portRead q l).2 = 0) : pRight Sa Da q (pFill Sa Da q l) = true := by
  unfold pRight
  rw [if_neg, fill_sum hA hD h]
  · rfl
  · rintro ⟨rfl, h2⟩
    have := udp_word (Sa := Sa) (Da := Da) h
    omega
theorem fill_again {Sa Da : Adr} {q : Int} {l : List UInt8} (h : (portRead q l).2 = 0) : pFill Sa Da q (pFill Sa Da q l) = pFill Sa Da q l := by
  obtain ⟨v1, _⟩ := atN_le h
  have e1 : put2At (pFill Sa Da q l) (atN q) [0, 0] = put2At l (atN q) [0, 0] := put2At_put v1 rfl rfl
  have e2 : pFill Sa Da q (pFill Sa Da q l) = put2At (pFill Sa Da q l) (atN q) (put2 (pFix q (pSum Sa Da q (put2At (pFill Sa Da q l) (atN q) [0, 0])))) := rfl
  rw [e2, e1]
  exact put2At_put v1 rfl rfl
/-- What tells of lengths alone. -/
theorem read_lens {q : Int} {l m : List UInt8} (hl : m.length = l.length) (h4 : q = 17 → byteAt m 4 = byteAt l 4 ∧ byteAt m 5 = byteAt l 5) (h12 : q = 6 → byteAt m 12 = byteAt l 12) (h : (portRead q l).2 = 0) : (portRead q m).2 = 0 ∧ (portRead q m).1.total = (portRead q l).1.total := by
  unfold portRead at h ⊢
  by_cases h6 : q = 6
  · subst h6
    have e := h12 rfl
    rw [if_pos rfl] at h ⊢
    rw [if_pos rfl]
    unfold tcpRead at h ⊢
    rw [hl, e]
    split at h; · simp at h
    split at h; · simp at h
    split at h; · simp at h
    rename_i h1 h2 h3
    rw [if_neg h1, if_neg h2, if_neg h3, if_neg h1, if_neg h2, if_neg h3]
    exact ⟨rfl, rfl⟩
  · by_cases h17 : q = 17
    · subst h17
      obtain ⟨e1, e2⟩ := h4 rfl
      rw [if_neg h6, if_pos rfl] at h ⊢
      rw [if_neg h6, if_pos rfl]
      unfold udpRead wordAt at h ⊢
      rw [hl, e1, e2]
      split at h; · simp at h
      split at h; · simp at h
      split at h; · simp at h
      rename_i h1 h2 h3
      rw [if_neg h1, if_neg h2, if_neg h3, if_neg h1, if_neg h2, if_neg h3]
      exact ⟨rfl, rfl⟩
    · rw [if_neg h6, if_neg h17] at h; simp at h
/-- One byte of a filled segment changed, and its sum isn't 0. -/
theorem spoilt_sum {Sa Da : Adr} {q : Int} {l : List UInt8} {i : Nat} {c : UInt8} (hA : Sa.b.length = 16) (hD : Da.b.length = 16) (h : (portRead q l).2 = 0) (hi : (i : Int) < (portRead q l).1.total) (hil : i < (pFill Sa Da q l).length)
    (hm : (portRead q ((pFill Sa Da q l).set i c)).1.total = (portRead q l).1.total) (hc : c ≠ (pFill Sa Da q l)[i]) : pSum Sa Da q ((pFill Sa Da q l).set i c) ≠ 0 := by
  have h0 := fill_sum hA hD h
  unfold pSum at h0 ⊢
  rw [fill_read h] at h0
  rw [hm]
  have hit : i < ((pFill Sa Da q l).take (portRead q l).1.total.toNat).length := by simp; omega
  have e : pseudoL Sa Da q (portRead q l).1.total ++ ((pFill Sa Da q l).set i c).take (portRead q l).1.total.toNat =
      (pseudoL Sa Da q (portRead q l).1.total ++ (pFill Sa Da q l).take (portRead q l).1.total.toNat).set ((pseudoL Sa Da q (portRead q l).1.total).length + i) c := by
    rw [List.set_append_right _ _ (by omega), Nat.add_sub_cancel_left, List.take_set]
  rw [e]
  refine ck_set (by rw [List.length_append]; omega) h0 ?_
  rw [List.getElem_append_right (by omega)]
  simp only [Nat.add_sub_cancel_left, List.getElem_take]
  exact hc

/-! ## The laws' ends -/
def protoI (u : Bool) : Int := if u then 17 else 6
def fitB (Sa Da : Adr) (u : Bool) (l : List UInt8) : Bool := Sa.six == Da.six && (portRead (protoI u) l).2 == 0 && decide (l.length ≤ 1000)
theorem fit_end {Sa Da : Adr} {u : Bool} {l : List UInt8} : ((Sa.six == Da.six) && ((portRead (protoI u) l).2 == 0) && decide ((l.length : Int) ≤ 1000)) = fitB Sa Da u l := by
  unfold fitB
  congr 1
  rw [Bool.eq_iff_iff]; simp; omega
theorem fit_yes {Sa Da : Adr} {u : Bool} {l : List UInt8} (h : (!true || !fitB Sa Da u l) = false) : Sa.six = Da.six ∧ (portRead (protoI u) l).2 = 0 ∧ l.length ≤ 1000 := by
  unfold fitB at h
  simp only [Bool.not_true, Bool.false_or, Bool.not_eq_false', Bool.and_eq_true, beq_iff_eq, decide_eq_true_eq] at h
  exact ⟨h.1.1, h.1.2, h.2⟩
def adr1 : Adr := ⟨false, [1, 2, 3, 4, 0, 0, 0, 0, 0, 0, 0, 0, 0, 0, 0, 0]⟩
theorem byte_ne {l m : List UInt8} {i : Nat} (hl : i < l.length) (hm : i < m.length) (h : byteAt l i = byteAt m i) : ((l[i].toNat : Int) != (m[i].toNat : Int)) = false := by
  rw [byteAt_get hl, byteAt_get hm] at h
  simpa using h
theorem fill_same {Sa Da : Adr} {q : Int} {l : List UInt8} {i : Nat} (hok : (portRead q l).2 = 0) (h1 : i < l.length) (h2 : i < (pFill Sa Da q l).length) (v2 : portPlace q = (atN q : Int)) {G : Prop}
    (h : (((((pFill Sa Da q l)[i].toNat : Int) != (l[i].toNat : Int)) && ((i : Int) != portPlace q)) && ((i : Int) != portPlace q + 1)) = true) : G := by
  exfalso
  simp only [Bool.and_eq_true, bne_iff_ne, ne_eq] at h
  obtain ⟨⟨a, b⟩, c⟩ := h
  have := fill_byte (Sa := Sa) (Da := Da) (i := i) hok (by omega) (by omega)
  rw [byteAt_get h2, byteAt_get h1] at this
  exact a this
theorem fill_end {Sa Da : Adr} {u : Bool} {l : List UInt8} (hok : (portRead (protoI u) l).2 = 0) (h1 : atN (protoI u) < (pFill Sa Da (protoI u) l).length) (h2 : atN (protoI u) + 1 < (pFill Sa Da (protoI u) l).length) :
    ((!u || (((pFill Sa Da (protoI u) l)[atN (protoI u)].toNat : Int) != 0)) || (((pFill Sa Da (protoI u) l)[atN (protoI u) + 1].toNat : Int) != 0)) = true := by
  cases u with
  | false => rfl
  | true =>
    have := udp_word (Sa := Sa) (Da := Da) (l := l) hok
    unfold wordAt at this
    have h1' : 6 < (pFill Sa Da 17 l).length := h1
    have h2' : 6 + 1 < (pFill Sa Da 17 l).length := h2
    rw [byteAt_get h1', byteAt_get h2'] at this
    simp only [Bool.not_true, Bool.false_or, Bool.or_eq_true, bne_iff_ne, ne_eq]
    have e1 : ((pFill Sa Da (protoI true) l)[atN (protoI true)]'h1).toNat = ((pFill Sa Da 17 l)[6]'h1').toNat := rfl
    have e2 : ((pFill Sa Da (protoI true) l)[atN (protoI true) + 1]'h2).toNat = ((pFill Sa Da 17 l)[6 + 1]'h2').toNat := rfl
    rw [e1, e2]
    omega
theorem awake10_end {f : List UInt8} (hr : pRight adr1 adr1 17 f = true) (hl : f.length = [(0 : UInt8), 1, 0, 2, 0, 8, 0, 0].length) (hw : 0 < wordAt f 6) (h6 : 6 < f.length) (h7 : 7 < f.length) :
    ((portRead 17 [0, 1, 0, 2, 0, 8, 0, 0]).2 == 0 && true && (portRead 6 [0, 1, 0, 2, 0, 8, 0, 0]).2 == 2 && (portRead 1 [0, 1, 0, 2, 0, 8, 0, 0]).2 == 5 && pRight adr1 adr1 17 [0, 1, 0, 2, 0, 8, 0, 0] && (f.length : Int) == 8 && pRight adr1 adr1 17 f &&
      (((f[6]'h6).toNat : Int) != 0 || ((f[7]'h7).toNat : Int) != 0) && portPlace 6 == 16) = true := by
  have e1 : (portRead 17 [0, 1, 0, 2, 0, 8, 0, 0]).2 = 0 := by rfl
  have e2 : (portRead 6 [0, 1, 0, 2, 0, 8, 0, 0]).2 = 2 := by rfl
  have e3 : (portRead 1 [0, 1, 0, 2, 0, 8, 0, 0]).2 = 5 := by rfl
  have e4 : pRight adr1 adr1 17 [0, 1, 0, 2, 0, 8, 0, 0] = true := by
    unfold pRight
    rw [if_pos ⟨rfl, by rfl⟩]; rfl
  have e5 : portPlace 6 = 16 := rfl
  have e6 : (f.length : Int) = 8 := by rw [hl]; rfl
  have e7 : ((((f[6]'h6).toNat : Int) != 0) || (((f[7]'h7).toNat : Int) != 0)) = true := by
    unfold wordAt at hw
    rw [byteAt_get h6, byteAt_get h7] at hw
    simp only [Bool.or_eq_true, bne_iff_ne, ne_eq]
    omega
  rw [e1, e2, e3, e4, e5, e6, e7, hr]; rfl
end Go.Proofs.Yteccaejdgefdpaa
