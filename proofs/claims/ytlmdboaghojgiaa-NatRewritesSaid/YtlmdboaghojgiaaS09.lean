import Derived.Test.YtlmdboaghojgiaaS08
/- IPv6 headers, in plain Lean. -/
namespace Go.Proofs.Ytlmdboaghojgiaa
set_option linter.unusedVariables false
set_option linter.unusedSimpArgs false

structure SixL where
  head : Int
  total : Int
  hop : Int
  frag : Bool
  exts : Int
  proto : Int
  src : Adr
  dst : Adr
def sixS (H : SixL) : List (List Value) := [[.int .i64 H.head], [.int .i64 H.total], [.int .i64 H.hop], [.bool H.frag], [.int .i64 H.exts], [.int .i64 H.proto], adrCells H.src, adrCells H.dst]
def SixV (H : SixL) : Value := .agg (sixS H).flatten.toArray
def six0 : SixL := ⟨0, 0, 0, false, 0, 0, adr0, adr0⟩
def SixOk (H : SixL) : Prop := H.src.b.length = 16 ∧ H.dst.b.length = 16
theorem six0_ok : SixOk six0 := ⟨rfl, rfl⟩
def sixS2 (H : SixL) : List (List Value) := [[.int .i64 H.head], [.int .i64 H.total], [.int .i64 H.hop], [.bool H.frag], [.int .i64 H.exts], [.int .i64 H.proto], [.bool H.src.six], H.src.b.map byteV, [.bool H.dst.six], H.dst.b.map byteV]
theorem sixS2_lens {H : SixL} (h : SixOk H) : (sixS2 H).map List.length = [1, 1, 1, 1, 1, 1, 1, 16, 1, 16] := by
  obtain ⟨h1, h2⟩ := h
  simp [sixS2, h1, h2]
theorem six_seg (H : SixL) : (sixS2 H).flatten = (sixS H).flatten := by simp [sixS, sixS2, adrCells]
theorem six_one {H : SixL} : ∀ u ∈ (sixS H).flatten, u.oneCell' = true := by
  intro u hu
  simp only [sixS, List.flatten_cons, List.flatten_nil, List.mem_append, List.mem_cons, List.not_mem_nil, or_false, adrCells, List.mem_map] at hu
  rcases hu with h | h | h | h | h | h | (h | ⟨c, _, h⟩) | (h | ⟨c, _, h⟩) <;> subst h <;> rfl
theorem six_len {H : SixL} (h : SixOk H) : (sixS H).flatten.length = 40 := by
  obtain ⟨h1, h2⟩ := h
  simp [sixS, adrCells, h1, h2]
def extB (p : Int) : Bool := (((p == 0 || p == 43) || p == 60) || p == 51) || p == 44
def sizeE (p x : Int) : Int := if p = 0 ∨ p = 43 ∨ p = 60 then 8 + 8 * x else if p = 51 then 8 + 4 * x else if p = 44 then 8 else 0
theorem sizeE_ext (p : Int) : decide (sizeE p 0 > 0) = extB p := by
  unfold sizeE extB
  by_cases h1 : p = 0 <;> by_cases h2 : p = 43 <;> by_cases h3 : p = 60 <;> by_cases h4 : p = 51 <;> by_cases h5 : p = 44 <;> simp [h1, h2, h3, h4, h5]
theorem sizeE_ge {p x : Int} (h : extB p = true) (hx : 0 ≤ x) : 8 ≤ sizeE p x := by
  unfold extB at h
  unfold sizeE
  simp only [Bool.or_eq_true, beq_iff_eq] at h
  split
  · omega
  · split
    · omega
    · split <;> omega
theorem sizeE_le {p x : Int} (hx : 0 ≤ x ∧ x ≤ 255) : 0 ≤ sizeE p x ∧ sizeE p x ≤ 2048 := by
  unfold sizeE
  split
  · omega
  · split
    · omega
    · split <;> omega
def partB (R : List UInt8) : Bool := decide (wordAt R 2 / 8 ≠ 0) || decide (wordAt R 2 % 2 = 1)
def adr6 (l : List UInt8) (i : Nat) : Adr := ⟨true, (l.drop i).take 16⟩
theorem adr6_len {l : List UInt8} {i : Nat} (h : i + 16 ≤ l.length) : (adr6 l i).b.length = 16 := by simp [adr6]; omega
def sixGo (H : SixL) : Nat → List UInt8 → Int → Bool → Int → SixL × Int
  | k, R, h, f, p =>
    if (f || !extB p) = true then (⟨h, H.total, H.hop, f, 8 - (k : Int), p, H.src, H.dst⟩, 0)
    else match k with
      | 0 => (six0, 4)
      | k + 1 =>
        if (R.length : Int) < 8 ∨ (R.length : Int) < sizeE p (byteAt R 1) then (six0, 2)
        else sixGo H k (R.drop (sizeE p (byteAt R 1)).toNat) (h + sizeE p (byteAt R 1)) (p == 44 && partB R) (byteAt R 0)
def sixHead (l : List UInt8) : SixL := ⟨40, 40 + wordAt l 4, byteAt l 7, false, 0, byteAt l 6, adr6 l 8, adr6 l 24⟩
def sixRead (l : List UInt8) : SixL × Int :=
  if l.length < 40 then (six0, 2)
  else if byteAt l 0 / 16 ≠ 6 then (six0, 3)
  else if 40 + wordAt l 4 > (l.length : Int) then (six0, 2)
  else sixGo (sixHead l) 8 ((l.take (40 + wordAt l 4).toNat).drop 40) 40 false (byteAt l 6)
section
variable {H : SixL} {k : Nat} {R : List UInt8} {h p : Int} {f : Bool}
theorem sixGo_done (c : (f || !extB p) = true) : sixGo H k R h f p = (⟨h, H.total, H.hop, f, 8 - (k : Int), p, H.src, H.dst⟩, 0) := by
  unfold sixGo; rw [if_pos c]
theorem sixGo_long (c : (f || !extB p) = false) : sixGo H 0 R h f p = (six0, 4) := by
  unfold sixGo; rw [if_neg (by rw [c]; decide)]
theorem sixGo_end (c : (f || !extB p) = false) (e : (R.length : Int) < 8 ∨ (R.length : Int) < sizeE p (byteAt R 1)) : sixGo H (k + 1) R h f p = (six0, 2) := by
  unfold sixGo; rw [if_neg (by rw [c]; decide)]; simp only []; rw [if_pos e]
theorem sixGo_step (c : (f || !extB p) = false) (e : ¬ ((R.length : Int) < 8 ∨ (R.length : Int) < sizeE p (byteAt R 1))) :
    sixGo H (k + 1) R h f p = sixGo H k (R.drop (sizeE p (byteAt R 1)).toNat) (h + sizeE p (byteAt R 1)) (p == 44 && partB R) (byteAt R 0) := by
  conv => lhs; unfold sixGo
  rw [if_neg (by rw [c]; decide)]; simp only []; rw [if_neg e]
end
theorem sixGo_ok {H : SixL} (hH : SixOk H) : ∀ (k : Nat) (R : List UInt8) (h : Int) (f : Bool) (p : Int), SixOk (sixGo H k R h f p).1 := by
  intro k
  induction k with
  | zero =>
    intro R h f p
    by_cases c : (f || !extB p) = true
    · rw [sixGo_done c]; exact hH
    · rw [sixGo_long (by simpa using c)]; exact six0_ok
  | succ k ih =>
    intro R h f p
    by_cases c : (f || !extB p) = true
    · rw [sixGo_done c]; exact hH
    · by_cases e : (R.length : Int) < 8 ∨ (R.length : Int) < sizeE p (byteAt R 1)
      · rw [sixGo_end (by simpa using c) e]; exact six0_ok
      · rw [sixGo_step (by simpa using c) e]; exact ih _ _ _ _
theorem sixHead_ok {l : List UInt8} (h : 40 ≤ l.length) : SixOk (sixHead l) := ⟨adr6_len (by omega), adr6_len (by omega)⟩
theorem sixRead_ok (l : List UInt8) : SixOk (sixRead l).1 := by
  unfold sixRead
  split; · exact six0_ok
  split; · exact six0_ok
  split; · exact six0_ok
  rename_i h1 _ _
  exact sixGo_ok (sixHead_ok (by omega)) _ _ _ _ _
theorem mask_part {R : List UInt8} : (bitAnd .i64 (wordAt R 2) 65529 != 0) = partB R := by
  have hw := wordAt_bd R 2
  unfold partB
  rw [bitAnd_eq (by simp [IntKind.max, IntKind.signed, IntKind.bits]; omega) (by simp [IntKind.max, IntKind.signed, IntKind.bits])]
  obtain ⟨x, hx⟩ : ∃ x : Nat, wordAt R 2 = (x : Int) := ⟨(wordAt R 2).toNat, by omega⟩
  rw [hx] at hw ⊢
  simp only [Int.toNat_natCast]
  have e : (65529 : Int).toNat = 65529 := rfl
  rw [e]
  have h1 : (x &&& 65529) / 2 ^ 3 = x / 2 ^ 3 := by
    rw [Nat.and_div_two_pow]
    have : 65529 / 2 ^ 3 = 2 ^ 13 - 1 := rfl
    rw [this, Nat.and_two_pow_sub_one_eq_mod]
    exact Nat.mod_eq_of_lt (by omega)
  have h2 : (x &&& 65529) % 2 ^ 3 = x % 2 := by
    rw [Nat.and_mod_two_pow]
    have : 65529 % 2 ^ 3 = 2 ^ 1 - 1 := rfl
    rw [this, Nat.and_two_pow_sub_one_eq_mod]
    omega
  generalize (x &&& 65529) = y at h1 h2
  rw [Bool.eq_iff_iff]
  simp only [bne_iff_ne, ne_eq, Bool.or_eq_true, decide_eq_true_eq]
  omega

/-! ## Laying -/
def sixRight (H : SixL) : Bool :=
  H.head == 40 && decide (40 ≤ H.total) && decide (H.total ≤ 65575) && inB H.hop 255 && inB H.proto 255 && !extB H.proto && !H.frag && H.exts == 0 && H.src.six && H.dst.six
def sixPut (H : SixL) : List UInt8 := [96, 0, 0, 0] ++ put2 (H.total - 40) ++ [b8 H.proto, b8 H.hop] ++ H.src.b ++ H.dst.b
theorem sixPut_len {H : SixL} (h : SixOk H) : (sixPut H).length = 40 := by
  obtain ⟨h1, h2⟩ := h
  simp [sixPut, put2_len, h1, h2]
/-! ## For the walks -/
theorem kind_a {p : Int} (h : p = 0) : (p == 0) = decide (p = 0 ∨ p = 43 ∨ p = 60) := by rw [Bool.eq_iff_iff]; simp; omega
theorem kind_b {p : Int} (h : p ≠ 0) (h2 : p = 43) : (p == 43) = decide (p = 0 ∨ p = 43 ∨ p = 60) := by rw [Bool.eq_iff_iff]; simp; omega
theorem kind_c {p : Int} (h : p ≠ 0) (h2 : p ≠ 43) : (p == 60) = decide (p = 0 ∨ p = 43 ∨ p = 60) := by rw [Bool.eq_iff_iff]; simp; omega
theorem six_all {X : SixL} : Value.agg (((sixS2 X).drop 0).take (10 - 0)).flatten.toArray = SixV X := by
  show Value.agg (sixS2 X).flatten.toArray = _
  rw [six_seg]; rfl
theorem six_go {f e : Bool} (h : (!f && e) = true) : (f || !e) = false := by cases f <;> cases e <;> simp_all
theorem six_stop {f e : Bool} (h : (!f && e) = false) : (f || !e) = true := by cases f <;> cases e <;> simp_all
theorem six_go' {f e : Bool} (h : (e && !f) = true) : (f || !e) = false := by cases f <;> cases e <;> simp_all
theorem six_stop' {f e : Bool} (h : (e && !f) = false) : (f || !e) = true := by cases f <;> cases e <;> simp_all
theorem six_ext {f e : Bool} (h : (f || !e) = false) : e = true := by cases f <;> cases e <;> simp_all
theorem cpy16 {m : List UInt8} (h : 16 ≤ m.length) : cpy (List.replicate 16 0) 0 16 m = m.take 16 := by
  unfold cpy
  simp only [List.take_zero, List.nil_append, Nat.zero_add, Nat.min_eq_left h]
  rw [List.drop_of_length_le (by simp), List.append_nil]
def adr6p (l : List UInt8) (q i : Nat) : List UInt8 := (l.drop q).take i ++ List.replicate (16 - i) 0
theorem adr6p_step {l : List UInt8} {q i : Nat} (h : i < 16) (hq : q + 16 ≤ l.length) : (adr6p l q i).set i (l[q + i]'(by omega)) = adr6p l q (i + 1) := by
  unfold adr6p
  have e1 : ((l.drop q).take i).length = i := by simp; omega
  rw [List.set_append_right _ _ (by omega), e1, Nat.sub_self]
  have e2 : List.replicate (16 - i) (0 : UInt8) = 0 :: List.replicate (16 - (i + 1)) 0 := by
    rw [show 16 - i = (16 - (i + 1)) + 1 from by omega, List.replicate_succ]
  rw [e2, List.set_cons_zero, List.take_succ_eq_append_getElem (by simp; omega), List.append_assoc]
  simp
theorem adr6p_end (l : List UInt8) (q : Nat) : adr6p l q 16 = (adr6 l q).b := by simp [adr6p, adr6]
theorem byteAt_part {l : List UInt8} {t z j : Nat} (h : z + j < t) : byteAt ((l.take t).drop z) j = byteAt l (z + j) := by
  unfold byteAt
  simp [List.getD_eq_getElem?_getD, List.getElem?_drop, List.getElem?_take, h]
theorem rpart {R : List UInt8} {x2 x3 : UInt8} (h2 : (x2.toNat : Int) = byteAt R 2) (h3 : (x3.toNat : Int) = byteAt R 3) :
    ((((x2.toNat : Int) != 0) || (IntKind.u8.wrap ((x3.toNat : Int).tdiv 8) != 0)) || ((x3.toNat : Int).tmod 2 == 1)) = partB R := by
  have y2 := byteAt_bd R 2
  have y3 := byteAt_bd R 3
  have e8 := quo_byte (x := x3.toNat) (k := 8) (by omega)
  have e8' : IntKind.u8.wrap ((x3.toNat : Int).tdiv 8) = (x3.toNat : Int) / 8 := e8
  rw [e8', Int.tmod_eq_emod_of_nonneg (by omega), h2, h3]
  have hw : wordAt R 2 = 256 * byteAt R 2 + byteAt R 3 := rfl
  unfold partB
  rw [hw, Bool.eq_iff_iff]
  simp only [bne_iff_ne, ne_eq, Bool.or_eq_true, decide_eq_true_eq, beq_iff_eq]
  omega
theorem size_44 {p x : Int} (h : p = 44) : sizeE p x = 8 := by unfold sizeE; rw [if_neg (by omega), if_neg (by omega), if_pos h]
theorem size_51 {p x : Int} (h : p = 51) : sizeE p x = 8 + 4 * x := by unfold sizeE; rw [if_neg (by omega), if_pos h]
theorem size_8 {p x : Int} (he : extB p = true) (h51 : p ≠ 51) (h44 : p ≠ 44) : sizeE p x = 8 + 8 * x := by
  unfold extB at he
  simp only [Bool.or_eq_true, beq_iff_eq] at he
  unfold sizeE; rw [if_pos (by omega)]
theorem six_frag {f e : Bool} (h : (f || !e) = false) : f = false := by cases f <;> simp_all
theorem rsix_v {l : List UInt8} {c : UInt8} (e : (c.toNat : Int) = byteAt l 0) (h : (IntKind.u8.wrap ((c.toNat : Int).tdiv 16) != 6) = true) : byteAt l 0 / 16 ≠ 6 := by
  have y := byteAt_bd l 0
  have e8 : IntKind.u8.wrap ((c.toNat : Int).tdiv 16) = (c.toNat : Int) / 16 := quo_byte (x := c.toNat) (k := 16) (by omega)
  rw [e8, e] at h
  simpa using h
theorem rsix_v2 {l : List UInt8} {c : UInt8} (e : (c.toNat : Int) = byteAt l 0) (h : (IntKind.u8.wrap ((c.toNat : Int).tdiv 16) != 6) = false) : ¬ byteAt l 0 / 16 ≠ 6 := by
  have y := byteAt_bd l 0
  have e8 : IntKind.u8.wrap ((c.toNat : Int).tdiv 16) = (c.toNat : Int) / 16 := quo_byte (x := c.toNat) (k := 16) (by omega)
  rw [e8, e] at h
  simpa using h
theorem rtot {l : List UInt8} {x4 x5 : Nat} (e4 : (x4 : Int) = byteAt l 4) (e5 : (x5 : Int) = byteAt l 5) : (40 : Int) + 256 * (x4 : Int) + (x5 : Int) = 40 + wordAt l 4 := by
  have hw : wordAt l 4 = 256 * byteAt l 4 + byteAt l 5 := rfl
  omega
end Go.Proofs.Ytlmdboaghojgiaa

/- Extensions of IPv6, in plain Lean: laid in a row, they are gone through. -/
namespace Go.Proofs.Ytlmdboaghojgiaa
set_option linter.unusedVariables false
set_option linter.unusedSimpArgs false

structure ExtL where
  kind : UInt8
  long : UInt8
  part : Int
section
variable {H : SixL} {f p h : Int} {k : Nat}
end

section
variable {H : SixL} {n f : Int} {r : List UInt8}
end
section
variable {H : SixL} {l : List ExtL} {load more : List UInt8}
end

/-! ## The awake's answers -/
def x9 : SixL := ⟨48, 48, 64, false, 1, 17, ⟨true, [1, 2, 0, 0, 0, 0, 0, 0, 0, 0, 0, 0, 0, 0, 0, 0]⟩, ⟨true, [3, 0, 0, 0, 0, 0, 0, 0, 0, 0, 0, 0, 0, 0, 0, 0]⟩⟩
end Go.Proofs.Ytlmdboaghojgiaa
