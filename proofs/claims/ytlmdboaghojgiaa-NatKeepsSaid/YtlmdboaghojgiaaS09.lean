import Derived.Test.YtlmdboaghojgiaaS08
/- IPv6 headers, in plain Lean. -/
namespace Go.Proofs.Ytlmdboaghojgiaa
set_option linter.unusedVariables false
set_option linter.unusedSimpArgs false

structure SixL where
  head : Int
  total : Int
  hop : Int
  frag : Bool
  exts : Int
  proto : Int
  src : Adr
  dst : Adr
def sixS (H : SixL) : List (List Value) := [[.int .i64 H.head], [.int .i64 H.total], [.int .i64 H.hop], [.bool H.frag], [.int .i64 H.exts], [.int .i64 H.proto], Q0l H.src, Q0l H.dst]
def SixV (H : SixL) : Value := .agg (sixS H).flatten.toArray
def six0 : SixL := ⟨0, 0, 0, false, 0, 0, adr0, adr0⟩
def Qb9 (H : SixL) : Prop := H.src.b.length = 16 ∧ H.dst.b.length = 16
theorem Q33 : Qb9 six0 := ⟨rfl, rfl⟩
def Q1h (H : SixL) : List (List Value) := [[.int .i64 H.head], [.int .i64 H.total], [.int .i64 H.hop], [.bool H.frag], [.int .i64 H.exts], [.int .i64 H.proto], [.bool H.src.six], H.src.b.map Q0z, [.bool H.dst.six], H.dst.b.map Q0z]
theorem Q5g {H : SixL} (h : Qb9 H) : (Q1h H).map List.length = [1, 1, 1, 1, 1, 1, 1, 16, 1, 16] := by
  obtain ⟨h1, h2⟩ := h
  simp [Q1h, h1, h2]
theorem Q5v (H : SixL) : (Q1h H).flatten = (sixS H).flatten := by simp [sixS, Q1h, Q0l]
theorem Q2x {H : SixL} : ∀ u ∈ (sixS H).flatten, u.oneCell' = true := by
  intro u hu
  simp only [sixS, List.flatten_cons, List.flatten_nil, List.mem_append, List.mem_cons, List.not_mem_nil, or_false, Q0l, List.mem_map] at hu
  rcases hu with h | h | h | h | h | h | (h | ⟨c, _, h⟩) | (h | ⟨c, _, h⟩) <;> subst h <;> rfl
theorem Q3x {H : SixL} (h : Qb9 H) : (sixS H).flatten.length = 40 := by
  obtain ⟨h1, h2⟩ := h
  simp [sixS, Q0l, h1, h2]
def extB (p : Int) : Bool := (((p == 0 || p == 43) || p == 60) || p == 51) || p == 44
def Q2c (p x : Int) : Int := if p = 0 ∨ p = 43 ∨ p = 60 then 8 + 8 * x else if p = 51 then 8 + 4 * x else if p = 44 then 8 else 0
theorem Qiz (p : Int) : decide (Q2c p 0 > 0) = extB p := by
  unfold Q2c extB
  by_cases h1 : p = 0 <;> by_cases h2 : p = 43 <;> by_cases h3 : p = 60 <;> by_cases h4 : p = 51 <;> by_cases h5 : p = 44 <;> simp [h1, h2, h3, h4, h5]
theorem Qb4 {p x : Int} (h : extB p = true) (hx : 0 ≤ x) : 8 ≤ Q2c p x := by
  unfold extB at h
  unfold Q2c
  simp only [Bool.or_eq_true, beq_iff_eq] at h
  split
  · omega
  · split
    · omega
    · split <;> omega
theorem Qfp {p x : Int} (hx : 0 ≤ x ∧ x ≤ 255) : 0 ≤ Q2c p x ∧ Q2c p x ≤ 2048 := by
  unfold Q2c
  split
  · omega
  · split
    · omega
    · split <;> omega
def Q7o (R : List UInt8) : Bool := decide (Q0a R 2 / 8 ≠ 0) || decide (Q0a R 2 % 2 = 1)
def adr6 (l : List UInt8) (i : Nat) : Adr := ⟨true, (l.drop i).take 16⟩
theorem Q40 {l : List UInt8} {i : Nat} (h : i + 16 ≤ l.length) : (adr6 l i).b.length = 16 := by simp [adr6]; omega
def Q47 (H : SixL) : Nat → List UInt8 → Int → Bool → Int → SixL × Int
  | k, R, h, f, p =>
    if (f || !extB p) = true then (⟨h, H.total, H.hop, f, 8 - (k : Int), p, H.src, H.dst⟩, 0)
    else match k with
      | 0 => (six0, 4)
      | k + 1 =>
        if (R.length : Int) < 8 ∨ (R.length : Int) < Q2c p (Q08 R 1) then (six0, 2)
        else Q47 H k (R.drop (Q2c p (Q08 R 1)).toNat) (h + Q2c p (Q08 R 1)) (p == 44 && Q7o R) (Q08 R 0)
def Q5o (l : List UInt8) : SixL := ⟨40, 40 + Q0a l 4, Q08 l 7, false, 0, Q08 l 6, adr6 l 8, adr6 l 24⟩
def Q12 (l : List UInt8) : SixL × Int :=
  if l.length < 40 then (six0, 2)
  else if Q08 l 0 / 16 ≠ 6 then (six0, 3)
  else if 40 + Q0a l 4 > (l.length : Int) then (six0, 2)
  else Q47 (Q5o l) 8 ((l.take (40 + Q0a l 4).toNat).drop 40) 40 false (Q08 l 6)
section
variable {H : SixL} {k : Nat} {R : List UInt8} {h p : Int} {f : Bool}
theorem Q3j (c : (f || !extB p) = true) : Q47 H k R h f p = (⟨h, H.total, H.hop, f, 8 - (k : Int), p, H.src, H.dst⟩, 0) := by
  unfold Q47; rw [if_pos c]
theorem Q5c (c : (f || !extB p) = false) : Q47 H 0 R h f p = (six0, 4) := by
  unfold Q47; rw [if_neg (by rw [c]; decide)]
theorem Q5d (c : (f || !extB p) = false) (e : (R.length : Int) < 8 ∨ (R.length : Int) < Q2c p (Q08 R 1)) : Q47 H (k + 1) R h f p = (six0, 2) := by
  unfold Q47; rw [if_neg (by rw [c]; decide)]; simp only []; rw [if_pos e]
theorem Q5e (c : (f || !extB p) = false) (e : ¬ ((R.length : Int) < 8 ∨ (R.length : Int) < Q2c p (Q08 R 1))) :
    Q47 H (k + 1) R h f p = Q47 H k (R.drop (Q2c p (Q08 R 1)).toNat) (h + Q2c p (Q08 R 1)) (p == 44 && Q7o R) (Q08 R 0) := by
  conv => lhs; unfold Q47
  rw [if_neg (by rw [c]; decide)]; simp only []; rw [if_neg e]
end
theorem Qko {H : SixL} (hH : Qb9 H) : ∀ (k : Nat) (R : List UInt8) (h : Int) (f : Bool) (p : Int), Qb9 (Q47 H k R h f p).1 := by
  intro k
  induction k with
  | zero =>
    intro R h f p
    by_cases c : (f || !extB p) = true
    · rw [Q3j c]; exact hH
    · rw [Q5c (by simpa using c)]; exact Q33
  | succ k ih =>
    intro R h f p
    by_cases c : (f || !extB p) = true
    · rw [Q3j c]; exact hH
    · by_cases e : (R.length : Int) < 8 ∨ (R.length : Int) < Q2c p (Q08 R 1)
      · rw [Q5d (by simpa using c) e]; exact Q33
      · rw [Q5e (by simpa using c) e]; exact ih _ _ _ _
theorem Qgi {l : List UInt8} (h : 40 ≤ l.length) : Qb9 (Q5o l) := ⟨Q40 (by omega), Q40 (by omega)⟩
theorem Q3u (l : List UInt8) : Qb9 (Q12 l).1 := by
  unfold Q12
  split; · exact Q33
  split; · exact Q33
  split; · exact Q33
  rename_i h1 _ _
  exact Qko (Qgi (by omega)) _ _ _ _ _
theorem Qj0 {R : List UInt8} : (Q7d .i64 (Q0a R 2) 65529 != 0) = Q7o R := by
  have hw := Q1a R 2
  unfold Q7o
  rw [Q9f (by simp [IntKind.max, IntKind.signed, IntKind.bits]; omega) (by simp [IntKind.max, IntKind.signed, IntKind.bits])]
  obtain ⟨x, hx⟩ : ∃ x : Nat, Q0a R 2 = (x : Int) := ⟨(Q0a R 2).toNat, by omega⟩
  rw [hx] at hw ⊢
  simp only [Int.toNat_natCast]
  have e : (65529 : Int).toNat = 65529 := rfl
  rw [e]
  have h1 : (x &&& 65529) / 2 ^ 3 = x / 2 ^ 3 := by
    rw [Nat.and_div_two_pow]
    have : 65529 / 2 ^ 3 = 2 ^ 13 - 1 := rfl
    rw [this, Nat.and_two_pow_sub_one_eq_mod]
    exact Nat.mod_eq_of_lt (by omega)
  have h2 : (x &&& 65529) % 2 ^ 3 = x % 2 := by
    rw [Nat.and_mod_two_pow]
    have : 65529 % 2 ^ 3 = 2 ^ 1 - 1 := rfl
    rw [this, Nat.and_two_pow_sub_one_eq_mod]
    omega
  generalize (x &&& 65529) = y at h1 h2
  rw [Bool.eq_iff_iff]
  simp only [bne_iff_ne, ne_eq, Bool.or_eq_true, decide_eq_true_eq]
  omega

/-! ## Laying -/
def Qfj (H : SixL) : Bool :=
  H.head == 40 && decide (40 ≤ H.total) && decide (H.total ≤ 65575) && inB H.hop 255 && inB H.proto 255 && !extB H.proto && !H.frag && H.exts == 0 && H.src.six && H.dst.six
def Qcq (H : SixL) : List UInt8 := [96, 0, 0, 0] ++ put2 (H.total - 40) ++ [b8 H.proto, b8 H.hop] ++ H.src.b ++ H.dst.b
theorem Qag {H : SixL} (h : Qb9 H) : (Qcq H).length = 40 := by
  obtain ⟨h1, h2⟩ := h
  simp [Qcq, Q13, h1, h2]
/-! ## For the walks -/
theorem Qj1 {p : Int} (h : p = 0) : (p == 0) = decide (p = 0 ∨ p = 43 ∨ p = 60) := by rw [Bool.eq_iff_iff]; simp; omega
theorem Qj2 {p : Int} (h : p ≠ 0) (h2 : p = 43) : (p == 43) = decide (p = 0 ∨ p = 43 ∨ p = 60) := by rw [Bool.eq_iff_iff]; simp; omega
theorem Qj3 {p : Int} (h : p ≠ 0) (h2 : p ≠ 43) : (p == 60) = decide (p = 0 ∨ p = 43 ∨ p = 60) := by rw [Bool.eq_iff_iff]; simp; omega
theorem Qj4 {X : SixL} : Value.agg (((Q1h X).drop 0).take (10 - 0)).flatten.toArray = SixV X := by
  show Value.agg (Q1h X).flatten.toArray = _
  rw [Q5v]; rfl
theorem Qp0 {f e : Bool} (h : (!f && e) = true) : (f || !e) = false := by cases f <;> cases e <;> simp_all
theorem Qkp {f e : Bool} (h : (!f && e) = false) : (f || !e) = true := by cases f <;> cases e <;> simp_all
theorem Qmq {f e : Bool} (h : (e && !f) = true) : (f || !e) = false := by cases f <;> cases e <;> simp_all
theorem Qj5 {f e : Bool} (h : (e && !f) = false) : (f || !e) = true := by cases f <;> cases e <;> simp_all
theorem Qdr {f e : Bool} (h : (f || !e) = false) : e = true := by cases f <;> cases e <;> simp_all
theorem Qp1 {m : List UInt8} (h : 16 ≤ m.length) : cpy (List.replicate 16 0) 0 16 m = m.take 16 := by
  unfold cpy
  simp only [List.take_zero, List.nil_append, Nat.zero_add, Nat.min_eq_left h]
  rw [List.drop_of_length_le (by simp), List.append_nil]
def Qe0 (l : List UInt8) (q i : Nat) : List UInt8 := (l.drop q).take i ++ List.replicate (16 - i) 0
theorem Qgj {l : List UInt8} {q i : Nat} (h : i < 16) (hq : q + 16 ≤ l.length) : (Qe0 l q i).set i (l[q + i]'(by omega)) = Qe0 l q (i + 1) := by
  unfold Qe0
  have e1 : ((l.drop q).take i).length = i := by simp; omega
  rw [List.set_append_right _ _ (by omega), e1, Nat.sub_self]
  have e2 : List.replicate (16 - i) (0 : UInt8) = 0 :: List.replicate (16 - (i + 1)) 0 := by
    rw [show 16 - i = (16 - (i + 1)) + 1 from by omega, List.replicate_succ]
  rw [e2, List.set_cons_zero, List.take_succ_eq_append_getElem (by simp; omega), List.append_assoc]
  simp
theorem Qj6 (l : List UInt8) (q : Nat) : Qe0 l q 16 = (adr6 l q).b := by simp [Qe0, adr6]
theorem Qe1 {l : List UInt8} {t z j : Nat} (h : z + j < t) : Q08 ((l.take t).drop z) j = Q08 l (z + j) := by
  unfold Q08
  simp [List.getD_eq_getElem?_getD, List.getElem?_drop, List.getElem?_take, h]
theorem Qp2 {R : List UInt8} {x2 x3 : UInt8} (h2 : (x2.toNat : Int) = Q08 R 2) (h3 : (x3.toNat : Int) = Q08 R 3) :
    ((((x2.toNat : Int) != 0) || (IntKind.u8.wrap ((x3.toNat : Int).tdiv 8) != 0)) || ((x3.toNat : Int).tmod 2 == 1)) = Q7o R := by
  have y2 := Q17 R 2
  have y3 := Q17 R 3
  have e8 := Q5u (x := x3.toNat) (k := 8) (by omega)
  have e8' : IntKind.u8.wrap ((x3.toNat : Int).tdiv 8) = (x3.toNat : Int) / 8 := e8
  rw [e8', Int.tmod_eq_emod_of_nonneg (by omega), h2, h3]
  have hw : Q0a R 2 = 256 * Q08 R 2 + Q08 R 3 := rfl
  unfold Q7o
  rw [hw, Bool.eq_iff_iff]
  simp only [bne_iff_ne, ne_eq, Bool.or_eq_true, decide_eq_true_eq, beq_iff_eq]
  omega
theorem Qe2 {p x : Int} (h : p = 44) : Q2c p x = 8 := by unfold Q2c; rw [if_neg (by omega), if_neg (by omega), if_pos h]
theorem Qe3 {p x : Int} (h : p = 51) : Q2c p x = 8 + 4 * x := by unfold Q2c; rw [if_neg (by omega), if_pos h]
theorem Qj7 {p x : Int} (he : extB p = true) (h51 : p ≠ 51) (h44 : p ≠ 44) : Q2c p x = 8 + 8 * x := by
  unfold extB at he
  simp only [Bool.or_eq_true, beq_iff_eq] at he
  unfold Q2c; rw [if_pos (by omega)]
theorem Qkq {f e : Bool} (h : (f || !e) = false) : f = false := by cases f <;> simp_all
theorem Qp3 {l : List UInt8} {c : UInt8} (e : (c.toNat : Int) = Q08 l 0) (h : (IntKind.u8.wrap ((c.toNat : Int).tdiv 16) != 6) = true) : Q08 l 0 / 16 ≠ 6 := by
  have y := Q17 l 0
  have e8 : IntKind.u8.wrap ((c.toNat : Int).tdiv 16) = (c.toNat : Int) / 16 := Q5u (x := c.toNat) (k := 16) (by omega)
  rw [e8, e] at h
  simpa using h
theorem Qmr {l : List UInt8} {c : UInt8} (e : (c.toNat : Int) = Q08 l 0) (h : (IntKind.u8.wrap ((c.toNat : Int).tdiv 16) != 6) = false) : ¬ Q08 l 0 / 16 ≠ 6 := by
  have y := Q17 l 0
  have e8 : IntKind.u8.wrap ((c.toNat : Int).tdiv 16) = (c.toNat : Int) / 16 := Q5u (x := c.toNat) (k := 16) (by omega)
  rw [e8, e] at h
  simpa using h
theorem rtot {l : List UInt8} {x4 x5 : Nat} (e4 : (x4 : Int) = Q08 l 4) (e5 : (x5 : Int) = Q08 l 5) : (40 : Int) + 256 * (x4 : Int) + (x5 : Int) = 40 + Q0a l 4 := by
  have hw : Q0a l 4 = 256 * Q08 l 4 + Q08 l 5 := rfl
  omega
end Go.Proofs.Ytlmdboaghojgiaa

/- Extensions of IPv6, in plain Lean: laid in a row, they are gone through. -/
namespace Go.Proofs.Ytlmdboaghojgiaa
set_option linter.unusedVariables false
set_option linter.unusedSimpArgs false

structure ExtL where
  kind : UInt8
  long : UInt8
  part : Int
section
variable {H : SixL} {f p h : Int} {k : Nat}
end

section
variable {H : SixL} {n f : Int} {r : List UInt8}
end
section
variable {H : SixL} {l : List ExtL} {load more : List UInt8}
end

/-! ## The awake's answers -/
def x9 : SixL := ⟨48, 48, 64, false, 1, 17, ⟨true, [1, 2, 0, 0, 0, 0, 0, 0, 0, 0, 0, 0, 0, 0, 0, 0]⟩, ⟨true, [3, 0, 0, 0, 0, 0, 0, 0, 0, 0, 0, 0, 0, 0, 0, 0]⟩⟩
end Go.Proofs.Ytlmdboaghojgiaa
