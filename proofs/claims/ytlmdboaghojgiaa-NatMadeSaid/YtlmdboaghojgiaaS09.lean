import Derived.Test.YtlmdboaghojgiaaS08
/- IPv6 headers, in plain Lean. -/
namespace Go.Proofs.Ytlmdboaghojgiaa
set_option linter.unusedVariables false
set_option linter.unusedSimpArgs false

structure SixL where
  head : Int
  total : Int
  hop : Int
  frag : Bool
  exts : Int
  proto : Int
  src : Adr
  dst : Adr
def sixS (H : SixL) : List (List Value) := [[.int .i64 H.head], [.int .i64 H.total], [.int .i64 H.hop], [.bool H.frag], [.int .i64 H.exts], [.int .i64 H.proto], Q0l H.src, Q0l H.dst]
def SixV (H : SixL) : Value := .agg (sixS H).flatten.toArray
def six0 : SixL := ⟨0, 0, 0, false, 0, 0, adr0, adr0⟩
def Q7w (H : SixL) : Prop := H.src.b.length = 16 ∧ H.dst.b.length = 16
theorem Q58 : Q7w six0 := ⟨rfl, rfl⟩
def Q2r (H : SixL) : List (List Value) := [[.int .i64 H.head], [.int .i64 H.total], [.int .i64 H.hop], [.bool H.frag], [.int .i64 H.exts], [.int .i64 H.proto], [.bool H.src.six], H.src.b.map Q0t, [.bool H.dst.six], H.dst.b.map Q0t]
theorem Q8l {H : SixL} (h : Q7w H) : (Q2r H).map List.length = [1, 1, 1, 1, 1, 1, 1, 16, 1, 16] := by
  obtain ⟨h1, h2⟩ := h
  simp [Q2r, h1, h2]
theorem Qac (H : SixL) : (Q2r H).flatten = (sixS H).flatten := by simp [sixS, Q2r, Q0l]
theorem Q6k {H : SixL} : ∀ u ∈ (sixS H).flatten, u.oneCell' = true := by
  intro u hu
  simp only [sixS, List.flatten_cons, List.flatten_nil, List.mem_append, List.mem_cons, List.not_mem_nil, or_false, Q0l, List.mem_map] at hu
  rcases hu with h | h | h | h | h | h | (h | ⟨c, _, h⟩) | (h | ⟨c, _, h⟩) <;> subst h <;> rfl
theorem Q8m {H : SixL} (h : Q7w H) : (sixS H).flatten.length = 40 := by
  obtain ⟨h1, h2⟩ := h
  simp [sixS, Q0l, h1, h2]
def extB (p : Int) : Bool := (((p == 0 || p == 43) || p == 60) || p == 51) || p == 44
def Q38 (p x : Int) : Int := if p = 0 ∨ p = 43 ∨ p = 60 then 8 + 8 * x else if p = 51 then 8 + 4 * x else if p = 44 then 8 else 0
theorem Qju (p : Int) : decide (Q38 p 0 > 0) = extB p := by
  unfold Q38 extB
  by_cases h1 : p = 0 <;> by_cases h2 : p = 43 <;> by_cases h3 : p = 60 <;> by_cases h4 : p = 51 <;> by_cases h5 : p = 44 <;> simp [h1, h2, h3, h4, h5]
theorem Q9c {p x : Int} (h : extB p = true) (hx : 0 ≤ x) : 8 ≤ Q38 p x := by
  unfold extB at h
  unfold Q38
  simp only [Bool.or_eq_true, beq_iff_eq] at h
  split
  · omega
  · split
    · omega
    · split <;> omega
theorem Qlo {p x : Int} (hx : 0 ≤ x ∧ x ≤ 255) : 0 ≤ Q38 p x ∧ Q38 p x ≤ 2048 := by
  unfold Q38
  split
  · omega
  · split
    · omega
    · split <;> omega
def Qb0 (R : List UInt8) : Bool := decide (Q07 R 2 / 8 ≠ 0) || decide (Q07 R 2 % 2 = 1)
def adr6 (l : List UInt8) (i : Nat) : Adr := ⟨true, (l.drop i).take 16⟩
theorem Q9e {l : List UInt8} {i : Nat} (h : i + 16 ≤ l.length) : (adr6 l i).b.length = 16 := by simp [adr6]; omega
def Q32 (H : SixL) : Nat → List UInt8 → Int → Bool → Int → SixL × Int
  | k, R, h, f, p =>
    if (f || !extB p) = true then (⟨h, H.total, H.hop, f, 8 - (k : Int), p, H.src, H.dst⟩, 0)
    else match k with
      | 0 => (six0, 4)
      | k + 1 =>
        if (R.length : Int) < 8 ∨ (R.length : Int) < Q38 p (Q09 R 1) then (six0, 2)
        else Q32 H k (R.drop (Q38 p (Q09 R 1)).toNat) (h + Q38 p (Q09 R 1)) (p == 44 && Qb0 R) (Q09 R 0)
def Q2l (l : List UInt8) : SixL := ⟨40, 40 + Q07 l 4, Q09 l 7, false, 0, Q09 l 6, adr6 l 8, adr6 l 24⟩
def Q0j (l : List UInt8) : SixL × Int :=
  if l.length < 40 then (six0, 2)
  else if Q09 l 0 / 16 ≠ 6 then (six0, 3)
  else if 40 + Q07 l 4 > (l.length : Int) then (six0, 2)
  else Q32 (Q2l l) 8 ((l.take (40 + Q07 l 4).toNat).drop 40) 40 false (Q09 l 6)
section
variable {H : SixL} {k : Nat} {R : List UInt8} {h p : Int} {f : Bool}
theorem Q22 (c : (f || !extB p) = true) : Q32 H k R h f p = (⟨h, H.total, H.hop, f, 8 - (k : Int), p, H.src, H.dst⟩, 0) := by
  unfold Q32; rw [if_pos c]
theorem Q4b (c : (f || !extB p) = false) : Q32 H 0 R h f p = (six0, 4) := by
  unfold Q32; rw [if_neg (by rw [c]; decide)]
theorem Q5c (c : (f || !extB p) = false) (e : (R.length : Int) < 8 ∨ (R.length : Int) < Q38 p (Q09 R 1)) : Q32 H (k + 1) R h f p = (six0, 2) := by
  unfold Q32; rw [if_neg (by rw [c]; decide)]; simp only []; rw [if_pos e]
theorem Q3y (c : (f || !extB p) = false) (e : ¬ ((R.length : Int) < 8 ∨ (R.length : Int) < Q38 p (Q09 R 1))) :
    Q32 H (k + 1) R h f p = Q32 H k (R.drop (Q38 p (Q09 R 1)).toNat) (h + Q38 p (Q09 R 1)) (p == 44 && Qb0 R) (Q09 R 0) := by
  conv => lhs; unfold Q32
  rw [if_neg (by rw [c]; decide)]; simp only []; rw [if_neg e]
end
theorem Qlp {H : SixL} (hH : Q7w H) : ∀ (k : Nat) (R : List UInt8) (h : Int) (f : Bool) (p : Int), Q7w (Q32 H k R h f p).1 := by
  intro k
  induction k with
  | zero =>
    intro R h f p
    by_cases c : (f || !extB p) = true
    · rw [Q22 c]; exact hH
    · rw [Q4b (by simpa using c)]; exact Q58
  | succ k ih =>
    intro R h f p
    by_cases c : (f || !extB p) = true
    · rw [Q22 c]; exact hH
    · by_cases e : (R.length : Int) < 8 ∨ (R.length : Int) < Q38 p (Q09 R 1)
      · rw [Q5c (by simpa using c) e]; exact Q58
      · rw [Q3y (by simpa using c) e]; exact ih _ _ _ _
theorem Qhf {l : List UInt8} (h : 40 ≤ l.length) : Q7w (Q2l l) := ⟨Q9e (by omega), Q9e (by omega)⟩
theorem Q6s (l : List UInt8) : Q7w (Q0j l).1 := by
  unfold Q0j
  split; · exact Q58
  split; · exact Q58
  split; · exact Q58
  rename_i h1 _ _
  exact Qlp (Qhf (by omega)) _ _ _ _ _
theorem Qjv {R : List UInt8} : (Q7i .i64 (Q07 R 2) 65529 != 0) = Qb0 R := by
  have hw := Q0w R 2
  unfold Qb0
  rw [Qa8 (by simp [IntKind.max, IntKind.signed, IntKind.bits]; omega) (by simp [IntKind.max, IntKind.signed, IntKind.bits])]
  obtain ⟨x, hx⟩ : ∃ x : Nat, Q07 R 2 = (x : Int) := ⟨(Q07 R 2).toNat, by omega⟩
  rw [hx] at hw ⊢
  simp only [Int.toNat_natCast]
  have e : (65529 : Int).toNat = 65529 := rfl
  rw [e]
  have h1 : (x &&& 65529) / 2 ^ 3 = x / 2 ^ 3 := by
    rw [Nat.and_div_two_pow]
    have : 65529 / 2 ^ 3 = 2 ^ 13 - 1 := rfl
    rw [this, Nat.and_two_pow_sub_one_eq_mod]
    exact Nat.mod_eq_of_lt (by omega)
  have h2 : (x &&& 65529) % 2 ^ 3 = x % 2 := by
    rw [Nat.and_mod_two_pow]
    have : 65529 % 2 ^ 3 = 2 ^ 1 - 1 := rfl
    rw [this, Nat.and_two_pow_sub_one_eq_mod]
    omega
  generalize (x &&& 65529) = y at h1 h2
  rw [Bool.eq_iff_iff]
  simp only [bne_iff_ne, ne_eq, Bool.or_eq_true, decide_eq_true_eq]
  omega

/-! ## Laying -/
def Q9d (H : SixL) : Bool :=
  H.head == 40 && decide (40 ≤ H.total) && decide (H.total ≤ 65575) && inB H.hop 255 && inB H.proto 255 && !extB H.proto && !H.frag && H.exts == 0 && H.src.six && H.dst.six
def Q4z (H : SixL) : List UInt8 := [96, 0, 0, 0] ++ put2 (H.total - 40) ++ [b8 H.proto, b8 H.hop] ++ H.src.b ++ H.dst.b
theorem Qbc {H : SixL} (h : Q7w H) : (Q4z H).length = 40 := by
  obtain ⟨h1, h2⟩ := h
  simp [Q4z, Q0d, h1, h2]
theorem Qen {H : SixL} (h : Q9d H = true) : H.head = 40 ∧ (40 ≤ H.total ∧ H.total ≤ 65575) ∧ (0 ≤ H.hop ∧ H.hop ≤ 255) ∧ (0 ≤ H.proto ∧ H.proto ≤ 255) ∧ extB H.proto = false ∧ H.frag = false ∧ H.exts = 0 ∧ H.src.six = true ∧ H.dst.six = true := by
  unfold Q9d inB at h
  simp only [Bool.and_eq_true, beq_iff_eq, decide_eq_true_eq, Bool.not_eq_true'] at h
  obtain ⟨⟨⟨⟨⟨⟨⟨⟨⟨h1, h2⟩, h3⟩, h4⟩, h5⟩, h6⟩, h7⟩, h8⟩, h9⟩, h10⟩ := h
  exact ⟨h1, ⟨h2, h3⟩, h4, h5, h6, h7, h8, h9, h10⟩
/-! ## For the walks -/
theorem Qjw {p : Int} (h : p = 0) : (p == 0) = decide (p = 0 ∨ p = 43 ∨ p = 60) := by rw [Bool.eq_iff_iff]; simp; omega
theorem Qjx {p : Int} (h : p ≠ 0) (h2 : p = 43) : (p == 43) = decide (p = 0 ∨ p = 43 ∨ p = 60) := by rw [Bool.eq_iff_iff]; simp; omega
theorem Qjy {p : Int} (h : p ≠ 0) (h2 : p ≠ 43) : (p == 60) = decide (p = 0 ∨ p = 43 ∨ p = 60) := by rw [Bool.eq_iff_iff]; simp; omega
theorem Qo6 {X : SixL} : Value.agg (((Q2r X).drop 0).take (10 - 0)).flatten.toArray = SixV X := by
  show Value.agg (Q2r X).flatten.toArray = _
  rw [Qac]; rfl
theorem Qr8 {f e : Bool} (h : (!f && e) = true) : (f || !e) = false := by cases f <;> cases e <;> simp_all
theorem Qlq {f e : Bool} (h : (!f && e) = false) : (f || !e) = true := by cases f <;> cases e <;> simp_all
theorem Qc3 {f e : Bool} (h : (f || !e) = false) : e = true := by cases f <;> cases e <;> simp_all
theorem Qr9 {m : List UInt8} (h : 16 ≤ m.length) : cpy (List.replicate 16 0) 0 16 m = m.take 16 := by
  unfold cpy
  simp only [List.take_zero, List.nil_append, Nat.zero_add, Nat.min_eq_left h]
  rw [List.drop_of_length_le (by simp), List.append_nil]
end Go.Proofs.Ytlmdboaghojgiaa

/- Extensions of IPv6, in plain Lean: laid in a row, they are gone through. -/
namespace Go.Proofs.Ytlmdboaghojgiaa
set_option linter.unusedVariables false
set_option linter.unusedSimpArgs false

structure ExtL where
  kind : UInt8
  long : UInt8
  part : Int
section
variable {H : SixL} {f p h : Int} {k : Nat}
end

def hdr6 (H : SixL) (n : Int) (first : Int) : List UInt8 := [96, 0, 0, 0] ++ put2 n ++ [b8 first, b8 H.hop] ++ H.src.b ++ H.dst.b
theorem Qlr {H : SixL} (hH : Q7w H) (n f : Int) : (hdr6 H n f).length = 40 := by
  obtain ⟨h1, h2⟩ := hH
  simp [hdr6, Q0d, h1, h2]
theorem Qh9 (H : SixL) : Q4z H = hdr6 H (H.total - 40) H.proto := rfl
section
variable {H : SixL} {n f : Int} {r : List UInt8}
theorem Qj4 (hH : Q7w H) (hn : 0 ≤ n ∧ n ≤ 65535) (hf : 0 ≤ f ∧ f ≤ 255) (hh : 0 ≤ H.hop ∧ H.hop ≤ 255) (hs : H.src.six = true) (hd : H.dst.six = true) (hr : n ≤ (r.length : Int)) :
    Q0j (hdr6 H n f ++ r) = Q32 ⟨40, 40 + n, H.hop, false, 0, f, H.src, H.dst⟩ 8 (r.take n.toNat) 40 false f := by
  have hl := Qlr hH n f
  have hlen : (hdr6 H n f ++ r).length = 40 + r.length := by rw [List.length_append, hl]
  have b0 : Q09 (hdr6 H n f ++ r) 0 = 96 := rfl
  have t1 := Q1n n
  have t2 := Q1n (n / 256)
  have t3 := Q1n f
  have t4 := Q1n H.hop
  have b4 : Q09 (hdr6 H n f ++ r) 4 = n / 256 := by show ((b8 (n / 256)).toNat : Int) = _; omega
  have b5 : Q09 (hdr6 H n f ++ r) 5 = n % 256 := by show ((b8 n).toNat : Int) = _; omega
  have b6 : Q09 (hdr6 H n f ++ r) 6 = f := by show ((b8 f).toNat : Int) = _; omega
  have b7 : Q09 (hdr6 H n f ++ r) 7 = H.hop := by show ((b8 H.hop).toNat : Int) = _; omega
  have w4 : Q07 (hdr6 H n f ++ r) 4 = n := by unfold Q07; rw [b4, b5]; omega
  obtain ⟨h1, h2⟩ := hH
  have a8 : adr6 (hdr6 H n f ++ r) 8 = H.src := by
    unfold adr6
    have e : (hdr6 H n f ++ r).drop 8 = H.src.b ++ (H.dst.b ++ r) := by
      unfold hdr6
      rw [List.append_assoc, List.append_assoc, List.append_assoc]
      rfl
    rw [e, List.take_append_of_le_length (by omega), List.take_of_length_le (by omega)]
    cases hA : H.src with | mk s b => rw [hA] at hs; simp at hs; rw [hs]
  have a24 : adr6 (hdr6 H n f ++ r) 24 = H.dst := by
    unfold adr6
    have e : (hdr6 H n f ++ r).drop 24 = H.dst.b ++ r := by
      have e8 : (hdr6 H n f ++ r).drop 8 = H.src.b ++ (H.dst.b ++ r) := by
        unfold hdr6
        rw [List.append_assoc, List.append_assoc, List.append_assoc]
        rfl
      rw [show (24 : Nat) = 8 + 16 from rfl, ← List.drop_drop, e8, List.drop_append_of_le_length (by omega), List.drop_of_length_le (by omega), List.nil_append]
    rw [e, List.take_append_of_le_length (by omega), List.take_of_length_le (by omega)]
    cases hA : H.dst with | mk s b => rw [hA] at hd; simp at hd; rw [hd]
  unfold Q0j
  rw [if_neg (by omega), if_neg (by rw [b0]; decide), if_neg (by rw [w4, hlen]; omega)]
  unfold Q2l
  rw [w4, b6, b7, a8, a24]
  congr 1
  rw [show (40 + n).toNat = 40 + n.toNat from by omega, List.take_append, hl, List.take_of_length_le (by omega), List.drop_append_of_le_length (by omega), List.drop_of_length_le (by omega), List.nil_append]
  congr 1
  omega
end
section
variable {H : SixL} {l : List ExtL} {load more : List UInt8}
end

/-! ## The awake's answers -/
def x9 : SixL := ⟨48, 48, 64, false, 1, 17, ⟨true, [1, 2, 0, 0, 0, 0, 0, 0, 0, 0, 0, 0, 0, 0, 0, 0]⟩, ⟨true, [3, 0, 0, 0, 0, 0, 0, 0, 0, 0, 0, 0, 0, 0, 0, 0]⟩⟩
end Go.Proofs.Ytlmdboaghojgiaa
