/- The checksum in plain Lean: sums in a ring of 65535. -/
namespace Go.Proofs.Ytdbjpfjnambenaa

/-- A number of 16 bits that stands for a sum: 0 for 0 alone. -/
def norm (s : Int) : Int := if s = 0 then 0 else (s - 1) % 65535 + 1
def ring (a b : Int) : Int := (a + b) % 65536 + (a + b) / 65536
def ringR (a b : Int) : Int := if a + b > 65535 then a + b - 65535 else a + b

theorem norm_bd (s : Int) : 0 ≤ norm s ∧ norm s ≤ 65535 := by unfold norm; split <;> omega
theorem norm_pos {s : Int} (h : s ≠ 0) : 1 ≤ norm s := by unfold norm; rw [if_neg h]; omega
theorem norm_small {s : Int} (h0 : 0 ≤ s) (h1 : s ≤ 65535) : norm s = s := by unfold norm; split <;> omega
theorem ring_norm {s x : Int} (hs : 0 ≤ s) (h0 : 0 ≤ x) (h1 : x ≤ 65535) : ring (norm s) x = norm (s + x) := by
  unfold ring norm; split <;> split <;> omega
theorem ringR_norm {s x : Int} (hs : 0 ≤ s) (h0 : 0 ≤ x) (h1 : x ≤ 65535) : ringR (norm s) x = norm (s + x) := by
  unfold ringR norm; split <;> split <;> split <;> omega
theorem ring_bd {a b : Int} (ha : 0 ≤ a ∧ a ≤ 65535) (hb : 0 ≤ b ∧ b ≤ 65535) : 0 ≤ ring a b ∧ ring a b ≤ 65535 := by unfold ring; omega
theorem ring_eq {a b : Int} (ha : 0 ≤ a ∧ a ≤ 65535) (hb : 0 ≤ b ∧ b ≤ 65535) : ring a b = ringR a b := by unfold ring ringR; split <;> omega
theorem norm_add {s t : Int} (hs : 0 ≤ s) (ht : 0 ≤ t) : norm (norm s + norm t) = norm (s + t) := by
  unfold norm; split <;> split <;> split <;> omega

/-- The sum of the words of bytes. -/
def wsum : List UInt8 → Int
  | [] => 0
  | [x] => 256 * (x.toNat : Int)
  | x :: y :: r => 256 * (x.toNat : Int) + (y.toNat : Int) + wsum r
theorem wsum_nonneg : ∀ l, 0 ≤ wsum l
  | [] => by simp [wsum]
  | [x] => by simp only [wsum]; omega
  | x :: y :: r => by have := wsum_nonneg r; simp only [wsum]; omega
theorem wsum_even (p : List UInt8) (h : p.length % 2 = 0) (q : List UInt8) : wsum (p ++ q) = wsum p + wsum q := by
  match p with
  | [] => simp [wsum]
  | [x] => simp at h
  | x :: y :: r =>
    have := wsum_even r (by simp at h; omega) q
    simp only [List.cons_append, wsum, this]; omega
theorem wsum_snoc : ∀ (p : List UInt8) (c : UInt8), wsum (p ++ [c]) = wsum p + (if p.length % 2 = 1 then (c.toNat : Int) else 256 * (c.toNat : Int))
  | [], c => by simp [wsum]
  | [x], c => by simp [wsum]
  | x :: y :: r, c => by
    have := wsum_snoc r c
    simp only [List.cons_append, wsum, this, List.length_cons]
    by_cases h : r.length % 2 = 1
    · rw [if_pos h, if_pos (by omega)]; omega
    · rw [if_neg h, if_neg (by omega)]; omega

/-- The checksum of bytes. -/
def ck (l : List UInt8) : Int := 65535 - norm (wsum l)
theorem ck_bd (l : List UInt8) : 0 ≤ ck l ∧ ck l ≤ 65535 := by have := norm_bd (wsum l); unfold ck; omega

/-- A checksum, changed from a word to another. -/
def chg (c m n : Int) : Int := 65535 - ring (ring (65535 - c) (65535 - m)) n
theorem chg_bd {c m n : Int} (hc : 0 ≤ c ∧ c ≤ 65535) (hm : 0 ≤ m ∧ m ≤ 65535) (hn : 0 ≤ n ∧ n ≤ 65535) : 0 ≤ chg c m n ∧ chg c m n ≤ 65535 := by
  have h1 := ring_bd (a := 65535 - c) (b := 65535 - m) (by omega) (by omega)
  have h2 := ring_bd h1 hn
  unfold chg; omega
theorem chg_ref {c m n : Int} (hc : 0 ≤ c ∧ c ≤ 65535) (hm : 0 ≤ m ∧ m ≤ 65535) (hn : 0 ≤ n ∧ n ≤ 65535) : 65535 - ringR (ringR (65535 - c) (65535 - m)) n = chg c m n := by
  have h1 := ring_bd (a := 65535 - c) (b := 65535 - m) (by omega) (by omega)
  unfold chg
  rw [← ring_eq (a := 65535 - c) (b := 65535 - m) (by omega) (by omega), ← ring_eq h1 hn]

/-- A byte, or 0; the word that begins at a place. -/
def byteAt (l : List UInt8) (i : Nat) : Int := ((l.getD i 0).toNat : Int)
theorem byteAt_bd (l : List UInt8) (i : Nat) : 0 ≤ byteAt l i ∧ byteAt l i ≤ 255 := by
  unfold byteAt; have := (l.getD i 0).toNat_lt; omega
theorem byteAt_get {l : List UInt8} {i : Nat} (h : i < l.length) : byteAt l i = (l[i].toNat : Int) := by unfold byteAt; simp [h]
theorem byteAt_out {l : List UInt8} {i : Nat} (h : l.length ≤ i) : byteAt l i = 0 := by unfold byteAt; simp [List.getD_eq_getElem?_getD, List.getElem?_eq_none h]
def wordAt (l : List UInt8) (i : Nat) : Int := 256 * byteAt l i + byteAt l (i + 1)
theorem wordAt_bd (l : List UInt8) (i : Nat) : 0 ≤ wordAt l i ∧ wordAt l i ≤ 65535 := by
  have h1 := byteAt_bd l i; have h2 := byteAt_bd l (i + 1); unfold wordAt; omega

def chgd (c : Int) (f t : List UInt8) : Nat → Int
  | 0 => c
  | k + 1 => chg (chgd c f t k) (wordAt f (2 * k)) (wordAt t (2 * k))
theorem chgd_bd {c : Int} (hc : 0 ≤ c ∧ c ≤ 65535) (f t : List UInt8) : ∀ k, 0 ≤ chgd c f t k ∧ chgd c f t k ≤ 65535
  | 0 => hc
  | k + 1 => chg_bd (chgd_bd hc f t k) (wordAt_bd _ _) (wordAt_bd _ _)
/-- A checksum, changed along with bytes. -/
def changed (c : Int) (f t : List UInt8) : Int := chgd c f t ((max f.length t.length + 1) / 2)

/-- The words of bytes. -/
def words (l : List UInt8) : List Int := (List.range ((l.length + 1) / 2)).map fun k => wordAt l (2 * k)
theorem words_len (l : List UInt8) : (words l).length = (l.length + 1) / 2 := by simp [words]
theorem words_get (l : List UInt8) (k : Nat) (h : k < (words l).length) : (words l)[k] = wordAt l (2 * k) := by simp [words]

def sumTo (l : List UInt8) : Nat → Int
  | 0 => 0
  | k + 1 => sumTo l k + wordAt l (2 * k)
theorem sumTo_nonneg (l : List UInt8) : ∀ k, 0 ≤ sumTo l k
  | 0 => by simp [sumTo]
  | k + 1 => by have h1 := sumTo_nonneg l k; have h2 := wordAt_bd l (2 * k); unfold sumTo; omega
theorem byteAt_cons2 (x y : UInt8) (r : List UInt8) (i : Nat) : byteAt (x :: y :: r) (i + 2) = byteAt r i := by simp [byteAt]
theorem sumTo_cons2 (x y : UInt8) (r : List UInt8) : ∀ k, sumTo (x :: y :: r) (k + 1) = 256 * (x.toNat : Int) + (y.toNat : Int) + sumTo r k
  | 0 => by simp [sumTo, wordAt, byteAt]
  | k + 1 => by
    rw [sumTo, sumTo_cons2 x y r k, sumTo]
    have e : wordAt (x :: y :: r) (2 * (k + 1)) = wordAt r (2 * k) := by
      unfold wordAt
      rw [show 2 * (k + 1) = 2 * k + 2 from by omega, byteAt_cons2, show 2 * k + 2 + 1 = (2 * k + 1) + 2 from by omega, byteAt_cons2]
    omega
theorem sumTo_all : ∀ l : List UInt8, sumTo l ((l.length + 1) / 2) = wsum l
  | [] => by simp [sumTo, wsum]
  | [x] => by simp [sumTo, wsum, wordAt, byteAt]
  | x :: y :: r => by
    have := sumTo_all r
    have e : ((x :: y :: r).length + 1) / 2 = (r.length + 1) / 2 + 1 := by simp only [List.length_cons]; omega
    rw [e, sumTo_cons2, this]; simp only [wsum]

theorem words_take (l : List UInt8) (k : Nat) (h : 2 * k < l.length) : (words l).take (k + 1) = (words l).take k ++ [wordAt l (2 * k)] := by
  have hk : k < (words l).length := by rw [words_len]; omega
  rw [List.take_succ_eq_append_getElem hk, words_get]
theorem words_all (l : List UInt8) (k : Nat) (h : l.length ≤ 2 * k) : (words l).take k = words l := List.take_of_length_le (by rw [words_len]; omega)
theorem ck_sumTo (l : List UInt8) : 65535 - norm (sumTo l (words l).length) = ck l := by rw [words_len, sumTo_all]; rfl
theorem changed_end {c : Int} {f t : List UInt8} {k : Nat} (h1 : 2 * k ≤ max f.length t.length + 1) (h2 : max f.length t.length ≤ 2 * k) : chgd c f t k = changed c f t := by
  unfold changed; congr 1; omega

/-- The byte that an int becomes. -/
def pseudo (six : Bool) (s d : List UInt8) (tail4 tail6 : List UInt8) : List UInt8 := if six then s ++ d ++ tail6 else s.take 4 ++ d.take 4 ++ tail4

theorem ck_behind {l : List UInt8} (h : l.length % 2 = 0) (x y : UInt8) (hx : 256 * (x.toNat : Int) + (y.toNat : Int) = ck l) : ck (l ++ [x, y]) = 0 := by
  have hw := wsum_nonneg l
  have e : wsum (l ++ [x, y]) = wsum l + ck l := by rw [wsum_even l h, ← hx]; simp only [wsum]; omega
  unfold ck at e ⊢
  rw [e]
  unfold norm; split <;> split <;> omega
theorem norm_shift {s : Int} (h : 0 < s) : norm (s + 65535) = norm s := by unfold norm; split <;> split <;> omega
theorem wsum_pos : ∀ {l : List UInt8}, l.any (fun c => c != 0) = true → 0 < wsum l
  | [], h => by simp at h
  | [x], h => by
    have : x.toNat ≠ 0 := by
      intro e
      have : x = 0 := UInt8.toNat_inj.mp e
      simp [this] at h
    simp only [wsum]; omega
  | x :: y :: r, h => by
    have hr := wsum_nonneg r
    simp only [wsum]
    by_cases hx : x.toNat = 0
    · by_cases hy : y.toNat = 0
      · have e1 : x = 0 := UInt8.toNat_inj.mp hx
        have e2 : y = 0 := UInt8.toNat_inj.mp hy
        have : r.any (fun c => c != 0) = true := by simpa [e1, e2] using h
        have := wsum_pos this
        omega
      · omega
    · omega
theorem chg_norm {s m n : Int} (hs : 0 ≤ s) (hm : 0 ≤ m ∧ m ≤ 65535) (hn : 0 ≤ n ∧ n ≤ 65535) : chg (65535 - norm s) m n = 65535 - norm (s + 65535 - m + n) := by
  unfold chg
  rw [show (65535 : Int) - (65535 - norm s) = norm s from by omega, ring_norm hs (by omega) (by omega), ring_norm (by omega) hn.1 hn.2]
  congr 2; omega
theorem wsum_two {l : List UInt8} (h : 2 ≤ l.length) : wsum l = wordAt l 0 + wsum (l.drop 2) := by
  match l, h with
  | x :: y :: r, _ => simp [wsum, wordAt, byteAt]
theorem back_one {l : List UInt8} (h : 2 ≤ l.length) (hs : (l.drop 2).any (fun c => c != 0) = true) {n : Int} (hn : 0 ≤ n ∧ n ≤ 65535) :
    chg (chg (ck l) (wordAt l 0) n) n (wordAt l 0) = ck l ∧ chg (ck l) (wordAt l 0) (wordAt l 0) = ck l := by
  have hp := wsum_pos hs
  have hm := wordAt_bd l 0
  have e := wsum_two h
  unfold ck
  rw [e, chg_norm (by omega) hm hn, chg_norm (by omega) hm hm, chg_norm (by omega) hn hm]
  constructor
  · rw [show wordAt l 0 + wsum (l.drop 2) + 65535 - wordAt l 0 + n + 65535 - n + wordAt l 0 = (wordAt l 0 + wsum (l.drop 2) + 65535) + 65535 from by omega, norm_shift (by omega), norm_shift (by omega)]
  · rw [show wordAt l 0 + wsum (l.drop 2) + 65535 - wordAt l 0 + wordAt l 0 = (wordAt l 0 + wsum (l.drop 2)) + 65535 from by omega, norm_shift (by omega)]
theorem back_end {l : List UInt8} (h : 2 ≤ l.length) {n : Int} (hn : 0 ≤ n ∧ n ≤ 65535) :
    ((!(l.drop 2).any (fun c => c != 0)) || ((chg (chg (ck l) (wordAt l 0) n) n (wordAt l 0) == ck l) && (chg (ck l) (wordAt l 0) (wordAt l 0) == ck l))) = true := by
  cases hs : (l.drop 2).any (fun c => c != 0) with
  | false => rfl
  | true =>
    obtain ⟨e1, e2⟩ := back_one h hs hn
    rw [e1, e2]; simp
theorem byteAt_pad (l : List UInt8) (n i : Nat) : byteAt (l ++ List.replicate n 0) i = byteAt l i := by
  unfold byteAt
  congr 2
  simp only [List.getD_eq_getElem?_getD]
  rw [List.getElem?_append]
  split
  · rfl
  · next h =>
    rw [List.getElem?_eq_none (by omega : l.length ≤ i), List.getElem?_replicate]
    split <;> rfl
theorem wordAt_pad (l : List UInt8) (n i : Nat) : wordAt (l ++ List.replicate n 0) i = wordAt l i := by unfold wordAt; rw [byteAt_pad, byteAt_pad]
end Go.Proofs.Ytdbjpfjnambenaa
