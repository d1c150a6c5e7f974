/- Plain laws of layer 6: InetChange, InetOrder. -/
import Derived.Test.YteccaejdgefdpaaL06
namespace Go.Proofs.Yteccaejdgefdpaa

theorem any_step0 {l : List UInt8} {i : Nat} (h : i < l.length) : (((l.take i).any (fun c => c != 0)) || !((l[i].toNat : Int) == 0)) = ((l.take (i + 1)).any (fun c => c != 0)) := by
  have := any_step (j := 0) (Nat.zero_le i) h
  simpa using this

theorem sumTo_le (l : List UInt8) : ∀ k, sumTo l k ≤ 65535 * (k : Int)
  | 0 => by simp [sumTo]
  | k + 1 => by have h1 := sumTo_le l k; have h2 := wordAt_bd l (2 * k); unfold sumTo; omega
theorem chgd_norm {S : Int} {f t : List UInt8} : ∀ k, sumTo f k ≤ S → chgd (65535 - norm S) f t k = 65535 - norm (S + 65535 * (k : Int) - sumTo f k + sumTo t k)
  | 0, _ => by simp [chgd, sumTo]
  | k + 1, h => by
    have h1 := wordAt_bd f (2 * k)
    have h2 := wordAt_bd t (2 * k)
    have h3 := sumTo_nonneg t k
    have h4 := sumTo_nonneg f k
    simp only [sumTo] at h
    have h5 := sumTo_le f k
    rw [chgd, chgd_norm k (by omega), chg_norm (by omega) h1 h2]
    congr 2
    simp only [sumTo]
    omega
theorem norm_shifts {s : Int} (h : 0 < s) : ∀ k : Nat, norm (s + 65535 * (k : Int)) = norm s
  | 0 => by simp
  | k + 1 => by
    rw [show s + 65535 * ((k + 1 : Nat) : Int) = (s + 65535 * (k : Int)) + 65535 from by omega, norm_shift (by omega), norm_shifts h k]

theorem change_end {A F T B : List UInt8} (hT : T.length = F.length) (hA : A.length % 2 = 0) (hF : F.length % 2 = 0) :
    ((!(A ++ T ++ B).any (fun c => c != 0)) || (changed (ck [[] ++ A ++ F ++ B].flatten) F T == ck [A ++ T ++ B].flatten)) = true := by
  cases hs : (A ++ T ++ B).any (fun c => c != 0) with
  | false => rfl
  | true =>
    have hp := wsum_pos hs
    simp only [Bool.not_true, Bool.false_or, List.nil_append, List.flatten_cons, List.flatten_nil, List.append_nil, beq_iff_eq]
    have e1 : wsum (A ++ F ++ B) = wsum A + wsum F + wsum B := by rw [List.append_assoc, wsum_even A hA, wsum_even F hF]; omega
    have e2 : wsum (A ++ T ++ B) = wsum A + wsum T + wsum B := by rw [List.append_assoc, wsum_even A hA, wsum_even T (by omega)]; omega
    have a0 := wsum_nonneg A
    have b0 := wsum_nonneg B
    have f1 := sumTo_all F
    have t1 := sumTo_all T
    have em : (max F.length T.length + 1) / 2 = (F.length + 1) / 2 := by rw [hT]; simp
    unfold changed
    rw [em]
    unfold ck
    rw [e1, chgd_norm _ (by rw [f1]; omega), f1]
    rw [hT] at t1
    rw [t1, e2]
    rw [show wsum A + wsum F + wsum B + 65535 * (((F.length + 1) / 2 : Nat) : Int) - wsum F + wsum T = (wsum A + wsum T + wsum B) + 65535 * (((F.length + 1) / 2 : Nat) : Int) from by omega, norm_shifts (by omega)]

theorem change_guard {a f t b : Nat} (h : (decide ((a : Int) > 200) || decide ((f : Int) > 200) || !((t : Int) == (f : Int)) || decide ((b : Int) > 200) || ((a : Int).tmod 2 == 1) || ((f : Int).tmod 2 == 1)) = false) :
    (a ≤ 200 ∧ f ≤ 200 ∧ t = f ∧ b ≤ 200) ∧ a % 2 = 0 ∧ f % 2 = 0 := by
  rw [Int.tmod_eq_emod_of_nonneg (by omega), Int.tmod_eq_emod_of_nonneg (by omega)] at h
  simp only [Bool.or_eq_false_iff, decide_eq_false_iff_not, Bool.not_eq_false', beq_iff_eq, beq_eq_false_iff_ne] at h
  omega

/-- The bytes of words, one behind another. -/
def enc : List Int → List UInt8
  | [] => []
  | x :: r => b8 (x / 2 ^ 8) :: b8 x :: enc r
theorem enc_append : ∀ p q, enc (p ++ q) = enc p ++ enc q
  | [], q => rfl
  | x :: r, q => by simp [enc, enc_append r q]
theorem enc_len : ∀ l, (enc l).length = 2 * l.length
  | [] => rfl
  | x :: r => by simp only [enc, List.length_cons, enc_len r]; omega
theorem enc_step {l : List Int} {i : Nat} (h : i < l.length) : enc (l.take i) ++ [b8 (l[i] / 2 ^ 8), b8 l[i]] = enc (l.take (i + 1)) := by
  rw [List.take_succ_eq_append_getElem h, enc_append]; rfl
/-- The same the other way round, two more bytes of 0 at a place. -/
def encB (l : List Int) (K : Nat) : Nat → List UInt8
  | 0 => []
  | i + 1 => (encB l K i ++ if i = K then [0, 0] else []) ++ [b8 (l.getD (l.length - 1 - i) 0 / 2 ^ 8), b8 (l.getD (l.length - 1 - i) 0)]
theorem encB_step {l : List Int} {K i : Nat} (h : i < l.length) (h2 : l.length - 1 - i < l.length := by omega) :
    (encB l K i ++ if i = K then [0, 0] else []) ++ [b8 (l[l.length - 1 - i] / 2 ^ 8), b8 l[l.length - 1 - i]] = encB l K (i + 1) := by
  simp only [encB]
  rw [List.getD_eq_getElem?_getD, List.getElem?_eq_getElem h2]; rfl
theorem encB_even (l : List Int) (K : Nat) : ∀ i, (encB l K i).length % 2 = 0
  | 0 => rfl
  | i + 1 => by
    have := encB_even l K i
    simp only [encB, List.length_append, List.length_cons, List.length_nil]
    split <;> simp <;> omega
theorem encB_len (l : List Int) (K : Nat) : ∀ i, (encB l K i).length ≤ 4 * i
  | 0 => by simp [encB]
  | i + 1 => by
    have := encB_len l K i
    simp only [encB, List.length_append, List.length_cons, List.length_nil]
    split <;> simp <;> omega
def tot : List Int → Int
  | [] => 0
  | x :: r => x + tot r
theorem tot_append : ∀ p q, tot (p ++ q) = tot p + tot q
  | [], q => by simp [tot]
  | x :: r, q => by simp only [List.cons_append, tot, tot_append r q]; omega
theorem b8_word {x : Int} (h : 0 ≤ x ∧ x ≤ 65535) : 256 * ((b8 (x / 2 ^ 8)).toNat : Int) + ((b8 x).toNat : Int) = x := by
  rw [b8_toNat, b8_toNat, show ((2 : Int) ^ 8) = 256 from rfl]; omega
theorem wsum_enc : ∀ {l : List Int}, (∀ n ∈ l, 0 ≤ n ∧ n ≤ 65535) → wsum (enc l) = tot l
  | [], _ => rfl
  | x :: r, h => by
    have h1 := b8_word (h x (by simp))
    have h2 := wsum_enc (l := r) (fun n hn => h n (by simp [hn]))
    simp only [enc, wsum, tot, h2]; omega
theorem wsum_encB {l : List Int} (h : ∀ n ∈ l, 0 ≤ n ∧ n ≤ 65535) (K : Nat) : ∀ i, i ≤ l.length → wsum (encB l K i) = tot (l.drop (l.length - i))
  | 0, _ => by simp [encB, wsum, tot]
  | i + 1, hi => by
    have hlt : l.length - 1 - i < l.length := by omega
    have e : l.getD (l.length - 1 - i) 0 = l[l.length - 1 - i] := by rw [List.getD_eq_getElem?_getD, List.getElem?_eq_getElem hlt]; rfl
    have hb := b8_word (h l[l.length - 1 - i] (List.getElem_mem _))
    have hev := encB_even l K i
    have ih := wsum_encB h K i (by omega)
    have hd : l.drop (l.length - (i + 1)) = l[l.length - 1 - i] :: l.drop (l.length - i) := by
      rw [show l.length - (i + 1) = l.length - 1 - i from by omega, List.drop_eq_getElem_cons hlt]
      congr 2; omega
    rw [hd]
    simp only [encB, tot, e]
    have hm : wsum (encB l K i ++ if i = K then [0, 0] else []) = wsum (encB l K i) := by
      split
      · rw [wsum_even _ hev]; simp [wsum]
      · simp
    rw [wsum_even _ (by simp only [List.length_append]; split <;> simp <;> omega), hm, ih]
    simp only [wsum]
    omega
theorem order_end {l : List Int} {K : Nat} (h : ∀ n ∈ l, 0 ≤ n ∧ n ≤ 65535) : (ck [enc (l.take l.length)].flatten == ck [encB l K l.length].flatten) = true := by
  have e1 := wsum_enc h
  have e2 := wsum_encB h K l.length (Nat.le_refl _)
  simp only [List.take_length, List.flatten_cons, List.flatten_nil, List.append_nil, beq_iff_eq]
  unfold ck
  rw [e1, e2]; simp
theorem pseudoL_len (A D : Adr) (p n : Int) (hA : A.b.length = 16) (hD : D.b.length = 16) : (pseudoL A D p n).length ≤ 40 := by
  unfold pseudoL pseudo
  split <;> simp [hA, hD]
end Go.Proofs.Yteccaejdgefdpaa
