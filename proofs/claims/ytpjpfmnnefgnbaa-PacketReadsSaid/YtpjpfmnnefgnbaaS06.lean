/- The checksum in plain Lean: sums in a ring of 65535. -/
namespace Go.Proofs.Ytpjpfmnnefgnbaa
set_option linter.unusedVariables false
set_option linter.unusedSimpArgs false

/-- A number of 16 bits that stands for a sum: 0 for 0 alone. -/
def norm (s : Int) : Int := if s = 0 then 0 else (s - 1) % 65535 + 1
def ring (a b : Int) : Int := (a + b) % 65536 + (a + b) / 65536
def ringR (a b : Int) : Int := if a + b > 65535 then a + b - 65535 else a + b

theorem norm_bd (s : Int) : 0 ≤ norm s ∧ norm s ≤ 65535 := by unfold norm; split <;> omega
theorem ring_norm {s x : Int} (hs : 0 ≤ s) (h0 : 0 ≤ x) (h1 : x ≤ 65535) : ring (norm s) x = norm (s + x) := by
  unfold ring norm; split <;> split <;> omega
theorem ringR_norm {s x : Int} (hs : 0 ≤ s) (h0 : 0 ≤ x) (h1 : x ≤ 65535) : ringR (norm s) x = norm (s + x) := by
  unfold ringR norm; split <;> split <;> split <;> omega
/-- The sum of the words of bytes. -/
def wsum : List UInt8 → Int
  | [] => 0
  | [x] => 256 * (x.toNat : Int)
  | x :: y :: r => 256 * (x.toNat : Int) + (y.toNat : Int) + wsum r
theorem wsum_nonneg : ∀ l, 0 ≤ wsum l
  | [] => by simp [wsum]
  | [x] => by simp only [wsum]; omega
  | x :: y :: r => by have := wsum_nonneg r; simp only [wsum]; omega
theorem wsum_even (p : List UInt8) (h : p.length % 2 = 0) (q : List UInt8) : wsum (p ++ q) = wsum p + wsum q := by
  match p with
  | [] => simp [wsum]
  | [x] => simp at h
  | x :: y :: r =>
    have := wsum_even r (by simp at h; omega) q
    simp only [List.cons_append, wsum, this]; omega
theorem wsum_snoc : ∀ (p : List UInt8) (c : UInt8), wsum (p ++ [c]) = wsum p + (if p.length % 2 = 1 then (c.toNat : Int) else 256 * (c.toNat : Int))
  | [], c => by simp [wsum]
  | [x], c => by simp [wsum]
  | x :: y :: r, c => by
    have := wsum_snoc r c
    simp only [List.cons_append, wsum, this, List.length_cons]
    by_cases h : r.length % 2 = 1
    · rw [if_pos h, if_pos (by omega)]; omega
    · rw [if_neg h, if_neg (by omega)]; omega

/-- The checksum of bytes. -/
def ck (l : List UInt8) : Int := 65535 - norm (wsum l)
theorem ck_bd (l : List UInt8) : 0 ≤ ck l ∧ ck l ≤ 65535 := by have := norm_bd (wsum l); unfold ck; omega

/-- A byte, or 0; the word that begins at a place. -/
def byteAt (l : List UInt8) (i : Nat) : Int := ((l.getD i 0).toNat : Int)
theorem byteAt_bd (l : List UInt8) (i : Nat) : 0 ≤ byteAt l i ∧ byteAt l i ≤ 255 := by
  unfold byteAt; have := (l.getD i 0).toNat_lt; omega
theorem byteAt_get {l : List UInt8} {i : Nat} (h : i < l.length) : byteAt l i = (l[i].toNat : Int) := by unfold byteAt; simp [h]
theorem byteAt_out {l : List UInt8} {i : Nat} (h : l.length ≤ i) : byteAt l i = 0 := by unfold byteAt; simp [List.getD_eq_getElem?_getD, List.getElem?_eq_none h]
def wordAt (l : List UInt8) (i : Nat) : Int := 256 * byteAt l i + byteAt l (i + 1)
theorem wordAt_bd (l : List UInt8) (i : Nat) : 0 ≤ wordAt l i ∧ wordAt l i ≤ 65535 := by
  have h1 := byteAt_bd l i; have h2 := byteAt_bd l (i + 1); unfold wordAt; omega

/-- The words of bytes. -/
def words (l : List UInt8) : List Int := (List.range ((l.length + 1) / 2)).map fun k => wordAt l (2 * k)
theorem words_len (l : List UInt8) : (words l).length = (l.length + 1) / 2 := by simp [words]
theorem words_get (l : List UInt8) (k : Nat) (h : k < (words l).length) : (words l)[k] = wordAt l (2 * k) := by simp [words]

def sumTo (l : List UInt8) : Nat → Int
  | 0 => 0
  | k + 1 => sumTo l k + wordAt l (2 * k)
theorem sumTo_nonneg (l : List UInt8) : ∀ k, 0 ≤ sumTo l k
  | 0 => by simp [sumTo]
  | k + 1 => by have h1 := sumTo_nonneg l k; have h2 := wordAt_bd l (2 * k); unfold sumTo; omega
theorem byteAt_cons2 (x y : UInt8) (r : List UInt8) (i : Nat) : byteAt (x :: y :: r) (i + 2) = byteAt r i := by simp [byteAt]
theorem sumTo_cons2 (x y : UInt8) (r : List UInt8) : ∀ k, sumTo (x :: y :: r) (k + 1) = 256 * (x.toNat : Int) + (y.toNat : Int) + sumTo r k
  | 0 => by simp [sumTo, wordAt, byteAt]
  | k + 1 => by
    rw [sumTo, sumTo_cons2 x y r k, sumTo]
    have e : wordAt (x :: y :: r) (2 * (k + 1)) = wordAt r (2 * k) := by
      unfold wordAt
      rw [show 2 * (k + 1) = 2 * k + 2 from by omega, byteAt_cons2, show 2 * k + 2 + 1 = (2 * k + 1) + 2 from by omega, byteAt_cons2]
    omega
theorem sumTo_all : ∀ l : List UInt8, sumTo l ((l.length + 1) / 2) = wsum l
  | [] => by simp [sumTo, wsum]
  | [x] => by simp [sumTo, wsum, wordAt, byteAt]
  | x :: y :: r => by
    have := sumTo_all r
    have e : ((x :: y :: r).length + 1) / 2 = (r.length + 1) / 2 + 1 := by simp only [List.length_cons]; omega
    rw [e, sumTo_cons2, this]; simp only [wsum]

theorem words_take (l : List UInt8) (k : Nat) (h : 2 * k < l.length) : (words l).take (k + 1) = (words l).take k ++ [wordAt l (2 * k)] := by
  have hk : k < (words l).length := by rw [words_len]; omega
  rw [List.take_succ_eq_append_getElem hk, words_get]
theorem words_all (l : List UInt8) (k : Nat) (h : l.length ≤ 2 * k) : (words l).take k = words l := List.take_of_length_le (by rw [words_len]; omega)
theorem ck_sumTo (l : List UInt8) : 65535 - norm (sumTo l (words l).length) = ck l := by rw [words_len, sumTo_all]; rfl
/-- The byte that an int becomes. -/
def pseudo (six : Bool) (s d : List UInt8) (tail4 tail6 : List UInt8) : List UInt8 := if six then s ++ d ++ tail6 else s.take 4 ++ d.take 4 ++ tail4

end Go.Proofs.Ytpjpfmnnefgnbaa
