/- TCP and UDP: what the statements of layer 10 say, in plain Lean. -/
import Derived.Test.YtpjpfmnnefgnbaaS10
import Derived.Test.YtpjpfmnnefgnbaaM06
namespace Go.Proofs.Ytpjpfmnnefgnbaa
set_option linter.unusedVariables false
set_option linter.unusedSimpArgs false

theorem pseudoL_even (A D : Adr) (p n : Int) (hA : A.b.length = 16) (hD : D.b.length = 16) : (pseudoL A D p n).length % 2 = 0 := by
  unfold pseudoL pseudo
  split <;> simp [hA, hD]
theorem atN_even (q : Int) : atN q % 2 = 0 := by unfold atN; split <;> decide
/-- A segment's sum, with zeros in its checksum's place. -/
theorem sum_parts {Sa Da : Adr} {q : Int} {l : List UInt8} (hA : Sa.b.length = 16) (hD : Da.b.length = 16) (h : (portRead q l).2 = 0) (x y : UInt8) :
    wsum (pseudoL Sa Da q (portRead q l).1.total ++ (put2At l (atN q) [x, y]).take (portRead q l).1.total.toNat) =
      wsum (pseudoL Sa Da q (portRead q l).1.total ++ (put2At l (atN q) [0, 0]).take (portRead q l).1.total.toNat) + (256 * (x.toNat : Int) + (y.toNat : Int)) := by
  obtain ⟨v1, v2, v3⟩ := atN_le h
  obtain ⟨y1, y2, y3, y4⟩ := portRead_ok h
  have he := pseudoL_even Sa Da q (portRead q l).1.total hA hD
  rw [wsum_even _ he, wsum_even _ he, put2At_take (by omega) (by omega) rfl, put2At_take (by omega) (by omega) rfl]
  unfold put2At
  have hk : ((l.take (portRead q l).1.total.toNat).take (atN q)).length % 2 = 0 := by
    have := atN_even q
    simp; omega
  rw [List.append_assoc, List.append_assoc, wsum_even _ hk, wsum_even _ hk]
  simp only [List.cons_append, List.nil_append, wsum]
  have : ((0 : UInt8).toNat : Int) = 0 := rfl
  omega
theorem fill_sum {Sa Da : Adr} {q : Int} {l : List UInt8} (hA : Sa.b.length = 16) (hD : Da.b.length = 16) (h : (portRead q l).2 = 0) : pSum Sa Da q (pFill Sa Da q l) = 0 := by
  have hz := read_put2 (a := [0, 0]) h rfl
  have hf : portRead q (pFill Sa Da q l) = portRead q l := read_put2 h rfl
  have hsb := pSum_bd Sa Da q (put2At l (atN q) [0, 0])
  have hfb := pFix_bd (q := q) hsb
  unfold pSum at hsb hfb ⊢
  rw [hf]
  unfold pFill
  rw [show put2 (pFix q (pSum Sa Da q (put2At l (atN q) [0, 0]))) = [b8 (pFix q (pSum Sa Da q (put2At l (atN q) [0, 0])) / 256), b8 (pFix q (pSum Sa Da q (put2At l (atN q) [0, 0])))] from rfl]
  have e := sum_parts hA hD h (b8 (pFix q (pSum Sa Da q (put2At l (atN q) [0, 0])) / 256)) (b8 (pFix q (pSum Sa Da q (put2At l (atN q) [0, 0]))))
  rw [b8_toNat, b8_toNat] at e
  unfold ck
  rw [e]
  unfold pSum at *
  rw [hz] at *
  have hn := wsum_nonneg (pseudoL Sa Da q (portRead q l).1.total ++ (put2At l (atN q) [0, 0]).take (portRead q l).1.total.toNat)
  unfold ck pFix at *
  unfold norm at *
  generalize wsum (pseudoL Sa Da q (portRead q l).1.total ++ (put2At l (atN q) [0, 0]).take (portRead q l).1.total.toNat) = s at *
  split at hfb <;> split at hsb <;> split <;> split <;> omega
theorem fill_two {Sa Da : Adr} {q : Int} {l : List UInt8} (h : (portRead q l).2 = 0) : byteAt (pFill Sa Da q l) (atN q) = pFix q (pSum Sa Da q (put2At l (atN q) [0, 0])) / 256 ∧ byteAt (pFill Sa Da q l) (atN q + 1) = pFix q (pSum Sa Da q (put2At l (atN q) [0, 0])) % 256 := by
  obtain ⟨v1, v2, v3⟩ := atN_le h
  have hsb := pFix_bd (q := q) (pSum_bd Sa Da q (put2At l (atN q) [0, 0]))
  have hk : (l.take (atN q)).length = atN q := by simp; omega
  have key : ∀ m, 0 ≤ m ∧ m ≤ 65535 → byteAt (put2At l (atN q) (put2 m)) (atN q) = m / 256 ∧ byteAt (put2At l (atN q) (put2 m)) (atN q + 1) = m % 256 := by
    intro m hm
    unfold byteAt put2At put2
    constructor
    · have : (l.take (atN q) ++ [b8 (m / 256), b8 m] ++ l.drop (atN q + 2))[atN q]? = some (b8 (m / 256)) := by
        rw [List.append_assoc, List.getElem?_append_right (by omega), hk, Nat.sub_self]; rfl
      rw [List.getD_eq_getElem?_getD, this, Option.getD_some, b8_toNat]; omega
    · have : (l.take (atN q) ++ [b8 (m / 256), b8 m] ++ l.drop (atN q + 2))[atN q + 1]? = some (b8 m) := by
        rw [List.append_assoc, List.getElem?_append_right (by omega), hk, Nat.add_sub_cancel_left]; rfl
      rw [List.getD_eq_getElem?_getD, this, Option.getD_some, b8_toNat]
  exact key _ hsb
theorem fill_len {Sa Da : Adr} {q : Int} {l : List UInt8} (h : (portRead q l).2 = 0) : (pFill Sa Da q l).length = l.length := put2At_len (atN_le h).1 rfl
theorem fill_read {Sa Da : Adr} {q : Int} {l : List UInt8} (h : (portRead q l).2 = 0) : portRead q (pFill Sa Da q l) = portRead q l := read_put2 h rfl
theorem pFix_pos {s : Int} (h : 0 ≤ s) : 0 < pFix 17 s := by unfold pFix; split <;> omega
theorem udp_word {Sa Da : Adr} {l : List UInt8} (h : (portRead 17 l).2 = 0) : 0 < wordAt (pFill Sa Da 17 l) 6 := by
  have := fill_two (Sa := Sa) (Da := Da) h
  have e : atN 17 = 6 := rfl
  rw [e] at this
  have hp := pFix_pos (pSum_bd Sa Da 17 (put2At l 6 [0, 0])).1
  unfold wordAt
  omega
theorem fill_right {Sa Da : Adr} {q : Int} {l : List UInt8} (hA : Sa.b.length = 16) (hD : Da.b.length = 16) (h : (portRead q l).2 = 0) : pRight Sa Da q (pFill Sa Da q l) = true := by
  unfold pRight
  rw [if_neg, fill_sum hA hD h]
  · rfl
  · rintro ⟨rfl, h2⟩
    have := udp_word (Sa := Sa) (Da := Da) h
    omega
/-! ## The laws' ends -/
end Go.Proofs.Ytpjpfmnnefgnbaa
