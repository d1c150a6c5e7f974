import Derived.Test.YtpjpfmnnefgnbaaS08
/- IPv6 headers, in plain Lean. -/
namespace Go.Proofs.Ytpjpfmnnefgnbaa
set_option linter.unusedVariables false
set_option linter.unusedSimpArgs false

structure SixL where
  head : Int
  total : Int
  hop : Int
  frag : Bool
  exts : Int
  proto : Int
  src : Adr
  dst : Adr
def sixS (H : SixL) : List (List Value) := [[.int .i64 H.head], [.int .i64 H.total], [.int .i64 H.hop], [.bool H.frag], [.int .i64 H.exts], [.int .i64 H.proto], adrCells H.src, adrCells H.dst]
def SixV (H : SixL) : Value := .agg (sixS H).flatten.toArray
def six0 : SixL := ⟨0, 0, 0, false, 0, 0, adr0, adr0⟩
def SixOk (H : SixL) : Prop := H.src.b.length = 16 ∧ H.dst.b.length = 16
theorem six0_ok : SixOk six0 := ⟨rfl, rfl⟩
def sixS2 (H : SixL) : List (List Value) := [[.int .i64 H.head], [.int .i64 H.total], [.int .i64 H.hop], [.bool H.frag], [.int .i64 H.exts], [.int .i64 H.proto], [.bool H.src.six], H.src.b.map byteV, [.bool H.dst.six], H.dst.b.map byteV]
theorem sixS2_lens {H : SixL} (h : SixOk H) : (sixS2 H).map List.length = [1, 1, 1, 1, 1, 1, 1, 16, 1, 16] := by
  obtain ⟨h1, h2⟩ := h
  simp [sixS2, h1, h2]
theorem six_seg (H : SixL) : (sixS2 H).flatten = (sixS H).flatten := by simp [sixS, sixS2, adrCells]
theorem six_one {H : SixL} : ∀ u ∈ (sixS H).flatten, u.oneCell' = true := by
  intro u hu
  simp only [sixS, List.flatten_cons, List.flatten_nil, List.mem_append, List.mem_cons, List.not_mem_nil, or_false, adrCells, List.mem_map] at hu
  rcases hu with h | h | h | h | h | h | (h | ⟨c, _, h⟩) | (h | ⟨c, _, h⟩) <;> subst h <;> rfl
theorem six_len {H : SixL} (h : SixOk H) : (sixS H).flatten.length = 40 := by
  obtain ⟨h1, h2⟩ := h
  simp [sixS, adrCells, h1, h2]
def extB (p : Int) : Bool := (((p == 0 || p == 43) || p == 60) || p == 51) || p == 44
def sizeE (p x : Int) : Int := if p = 0 ∨ p = 43 ∨ p = 60 then 8 + 8 * x else if p = 51 then 8 + 4 * x else if p = 44 then 8 else 0
theorem sizeE_ext (p : Int) : decide (sizeE p 0 > 0) = extB p := by
  unfold sizeE extB
  by_cases h1 : p = 0 <;> by_cases h2 : p = 43 <;> by_cases h3 : p = 60 <;> by_cases h4 : p = 51 <;> by_cases h5 : p = 44 <;> simp [h1, h2, h3, h4, h5]
theorem sizeE_ge {p x : Int} (h : extB p = true) (hx : 0 ≤ x) : 8 ≤ sizeE p x := by
  unfold extB at h
  unfold sizeE
  simp only [Bool.or_eq_true, beq_iff_eq] at h
  split
  · omega
  · split
    · omega
    · split <;> omega
theorem sizeE_le {p x : Int} (hx : 0 ≤ x ∧ x ≤ 255) : 0 ≤ sizeE p x ∧ sizeE p x ≤ 2048 := by
  unfold sizeE
  split
  · omega
  · split
    · omega
    · split <;> omega
def partB (R : List UInt8) : Bool := decide (wordAt R 2 / 8 ≠ 0) || decide (wordAt R 2 % 2 = 1)
def adr6 (l : List UInt8) (i : Nat) : Adr := ⟨true, (l.drop i).take 16⟩
theorem adr6_len {l : List UInt8} {i : Nat} (h : i + 16 ≤ l.length) : (adr6 l i).b.length = 16 := by simp [adr6]; omega
def sixGo (H : SixL) : Nat → List UInt8 → Int → Bool → Int → SixL × Int
  | k, R, h, f, p =>
    if (f || !extB p) = true then (⟨h, H.total, H.hop, f, 8 - (k : Int), p, H.src, H.dst⟩, 0)
    else match k with
      | 0 => (six0, 4)
      | k + 1 =>
        if (R.length : Int) < 8 ∨ (R.length : Int) < sizeE p (byteAt R 1) then (six0, 2)
        else sixGo H k (R.drop (sizeE p (byteAt R 1)).toNat) (h + sizeE p (byteAt R 1)) (p == 44 && partB R) (byteAt R 0)
def sixHead (l : List UInt8) : SixL := ⟨40, 40 + wordAt l 4, byteAt l 7, false, 0, byteAt l 6, adr6 l 8, adr6 l 24⟩
def sixRead (l : List UInt8) : SixL × Int :=
  if l.length < 40 then (six0, 2)
  else if byteAt l 0 / 16 ≠ 6 then (six0, 3)
  else if 40 + wordAt l 4 > (l.length : Int) then (six0, 2)
  else sixGo (sixHead l) 8 ((l.take (40 + wordAt l 4).toNat).drop 40) 40 false (byteAt l 6)
section
variable {H : SixL} {k : Nat} {R : List UInt8} {h p : Int} {f : Bool}
theorem sixGo_done (c : (f || !extB p) = true) : sixGo H k R h f p = (⟨h, H.total, H.hop, f, 8 - (k : Int), p, H.src, H.dst⟩, 0) := by
  unfold sixGo; rw [if_pos c]
theorem sixGo_long (c : (f || !extB p) = false) : sixGo H 0 R h f p = (six0, 4) := by
  unfold sixGo; rw [if_neg (by rw [c]; decide)]
theorem sixGo_end (c : (f || !extB p) = false) (e : (R.length : Int) < 8 ∨ (R.length : Int) < sizeE p (byteAt R 1)) : sixGo H (k + 1) R h f p = (six0, 2) := by
  unfold sixGo; rw [if_neg (by rw [c]; decide)]; simp only []; rw [if_pos e]
theorem sixGo_step (c : (f || !extB p) = false) (e : ¬ ((R.length : Int) < 8 ∨ (R.length : Int) < sizeE p (byteAt R 1))) :
    sixGo H (k + 1) R h f p = sixGo H k (R.drop (sizeE p (byteAt R 1)).toNat) (h + sizeE p (byteAt R 1)) (p == 44 && partB R) (byteAt R 0) := by
  conv => lhs; unfold sixGo
  rw [if_neg (by rw [c]; decide)]; simp only []; rw [if_neg e]
end
theorem sixGo_ok {H : SixL} (hH : SixOk H) : ∀ (k : Nat) (R : List UInt8) (h : Int) (f : Bool) (p : Int), SixOk (sixGo H k R h f p).1 := by
  intro k
  induction k with
  | zero =>
    intro R h f p
    by_cases c : (f || !extB p) = true
    · rw [sixGo_done c]; exact hH
    · rw [sixGo_long (by simpa using c)]; exact six0_ok
  | succ k ih =>
    intro R h f p
    by_cases c : (f || !extB p) = true
    · rw [sixGo_done c]; exact hH
    · by_cases e : (R.length : Int) < 8 ∨ (R.length : Int) < sizeE p (byteAt R 1)
      · rw [sixGo_end (by simpa using c) e]; exact six0_ok
      · rw [sixGo_step (by simpa using c) e]; exact ih _ _ _ _
theorem sixHead_ok {l : List UInt8} (h : 40 ≤ l.length) : SixOk (sixHead l) := ⟨adr6_len (by omega), adr6_len (by omega)⟩
theorem sixRead_ok (l : List UInt8) : SixOk (sixRead l).1 := by
  unfold sixRead
  split; · exact six0_ok
  split; · exact six0_ok
  split; · exact six0_ok
  rename_i h1 _ _
  exact sixGo_ok (sixHead_ok (by omega)) _ _ _ _ _
theorem mask_part {R : List UInt8} : (bitAnd .i64 (wordAt R 2) 65529 != 0) = partB R := by
  have hw := wordAt_bd R 2
  unfold partB
  rw [bitAnd_eq (by simp [IntKind.max, IntKind.signed, IntKind.bits]; omega) (by simp [IntKind.max, IntKind.signed, IntKind.bits])]
  obtain ⟨x, hx⟩ : ∃ x : Nat, wordAt R 2 = (x : Int) := ⟨(wordAt R 2).toNat, by omega⟩
  rw [hx] at hw ⊢
  simp only [Int.toNat_natCast]
  have e : (65529 : Int).toNat = 65529 := rfl
  rw [e]
  have h1 : (x &&& 65529) / 2 ^ 3 = x / 2 ^ 3 := by
    rw [Nat.and_div_two_pow]
    have : 65529 / 2 ^ 3 = 2 ^ 13 - 1 := rfl
    rw [this, Nat.and_two_pow_sub_one_eq_mod]
    exact Nat.mod_eq_of_lt (by omega)
  have h2 : (x &&& 65529) % 2 ^ 3 = x % 2 := by
    rw [Nat.and_mod_two_pow]
    have : 65529 % 2 ^ 3 = 2 ^ 1 - 1 := rfl
    rw [this, Nat.and_two_pow_sub_one_eq_mod]
    omega
  generalize (x &&& 65529) = y at h1 h2
  rw [Bool.eq_iff_iff]
  simp only [bne_iff_ne, ne_eq, Bool.or_eq_true, decide_eq_true_eq]
  omega

/-! ## Laying -/
def sixRight (H : SixL) : Bool :=
  H.head == 40 && decide (40 ≤ H.total) && decide (H.total ≤ 65575) && inB H.hop 255 && inB H.proto 255 && !extB H.proto && !H.frag && H.exts == 0 && H.src.six && H.dst.six
def sixPut (H : SixL) : List UInt8 := [96, 0, 0, 0] ++ put2 (H.total - 40) ++ [b8 H.proto, b8 H.hop] ++ H.src.b ++ H.dst.b
def sixPutR (H : SixL) : List UInt8 × Int := if sixRight H then (sixPut H, 0) else ([], 1)
theorem sixPut_len {H : SixL} (h : SixOk H) : (sixPut H).length = 40 := by
  obtain ⟨h1, h2⟩ := h
  simp [sixPut, put2_len, h1, h2]
theorem sixRight_bd {H : SixL} (h : sixRight H = true) : H.head = 40 ∧ (40 ≤ H.total ∧ H.total ≤ 65575) ∧ (0 ≤ H.hop ∧ H.hop ≤ 255) ∧ (0 ≤ H.proto ∧ H.proto ≤ 255) ∧ extB H.proto = false ∧ H.frag = false ∧ H.exts = 0 ∧ H.src.six = true ∧ H.dst.six = true := by
  unfold sixRight inB at h
  simp only [Bool.and_eq_true, beq_iff_eq, decide_eq_true_eq, Bool.not_eq_true'] at h
  obtain ⟨⟨⟨⟨⟨⟨⟨⟨⟨h1, h2⟩, h3⟩, h4⟩, h5⟩, h6⟩, h7⟩, h8⟩, h9⟩, h10⟩ := h
  exact ⟨h1, ⟨h2, h3⟩, h4, h5, h6, h7, h8, h9, h10⟩
theorem six_right (H : SixL) : (((((((((H.head != 40) || decide (H.total < 40)) || decide (H.total > 65575)) || !inB H.hop 255) || !inB H.proto 255) || H.frag) || (H.exts != 0)) || extB H.proto) || !H.src.six || !H.dst.six) = !sixRight H := by
  unfold sixRight
  have e1 : decide (H.total < 40) = !decide (40 ≤ H.total) := by rw [Bool.eq_iff_iff]; simp
  have e2 : decide (H.total > 65575) = !decide (H.total ≤ 65575) := by rw [Bool.eq_iff_iff]; simp
  rw [e1, e2]
  generalize decide (40 ≤ H.total) = a1
  generalize decide (H.total ≤ 65575) = a2
  generalize inB H.hop 255 = a3
  generalize inB H.proto 255 = a4
  generalize extB H.proto = a5
  generalize H.frag = a6
  generalize H.src.six = a7
  generalize H.dst.six = a8
  show (((((((((!(H.head == 40)) || !a1) || !a2) || !a3) || !a4) || a6) || (!(H.exts == 0))) || a5) || !a7 || !a8) = _
  generalize (H.head == 40) = a9
  generalize (H.exts == 0) = a10
  cases a1 <;> cases a2 <;> cases a3 <;> cases a4 <;> cases a5 <;> cases a6 <;> cases a7 <;> cases a8 <;> cases a9 <;> cases a10 <;> rfl
/-! ## For the walks -/
theorem kind_a {p : Int} (h : p = 0) : (p == 0) = decide (p = 0 ∨ p = 43 ∨ p = 60) := by rw [Bool.eq_iff_iff]; simp; omega
theorem kind_b {p : Int} (h : p ≠ 0) (h2 : p = 43) : (p == 43) = decide (p = 0 ∨ p = 43 ∨ p = 60) := by rw [Bool.eq_iff_iff]; simp; omega
theorem kind_c {p : Int} (h : p ≠ 0) (h2 : p ≠ 43) : (p == 60) = decide (p = 0 ∨ p = 43 ∨ p = 60) := by rw [Bool.eq_iff_iff]; simp; omega
theorem six_all {X : SixL} : Value.agg (((sixS2 X).drop 0).take (10 - 0)).flatten.toArray = SixV X := by
  show Value.agg (sixS2 X).flatten.toArray = _
  rw [six_seg]; rfl
theorem six_go {f e : Bool} (h : (!f && e) = true) : (f || !e) = false := by cases f <;> cases e <;> simp_all
theorem six_stop {f e : Bool} (h : (!f && e) = false) : (f || !e) = true := by cases f <;> cases e <;> simp_all
theorem six_ext {f e : Bool} (h : (f || !e) = false) : e = true := by cases f <;> cases e <;> simp_all
theorem cpy16 {m : List UInt8} (h : 16 ≤ m.length) : cpy (List.replicate 16 0) 0 16 m = m.take 16 := by
  unfold cpy
  simp only [List.take_zero, List.nil_append, Nat.zero_add, Nat.min_eq_left h]
  rw [List.drop_of_length_le (by simp), List.append_nil]
end Go.Proofs.Ytpjpfmnnefgnbaa

/- Extensions of IPv6, in plain Lean: laid in a row, they are gone through. -/
namespace Go.Proofs.Ytpjpfmnnefgnbaa
set_option linter.unusedVariables false
set_option linter.unusedSimpArgs false

structure ExtL where
  kind : UInt8
  long : UInt8
  part : Int
section
variable {H : SixL} {f p h : Int} {k : Nat}
end

def hdr6 (H : SixL) (n : Int) (first : Int) : List UInt8 := [96, 0, 0, 0] ++ put2 n ++ [b8 first, b8 H.hop] ++ H.src.b ++ H.dst.b
theorem hdr6_len {H : SixL} (hH : SixOk H) (n f : Int) : (hdr6 H n f).length = 40 := by
  obtain ⟨h1, h2⟩ := hH
  simp [hdr6, put2_len, h1, h2]
theorem sixPut_hdr (H : SixL) : sixPut H = hdr6 H (H.total - 40) H.proto := rfl
section
variable {H : SixL} {n f : Int} {r : List UInt8}
theorem hdr6_read (hH : SixOk H) (hn : 0 ≤ n ∧ n ≤ 65535) (hf : 0 ≤ f ∧ f ≤ 255) (hh : 0 ≤ H.hop ∧ H.hop ≤ 255) (hs : H.src.six = true) (hd : H.dst.six = true) (hr : n ≤ (r.length : Int)) :
    sixRead (hdr6 H n f ++ r) = sixGo ⟨40, 40 + n, H.hop, false, 0, f, H.src, H.dst⟩ 8 (r.take n.toNat) 40 false f := by
  have hl := hdr6_len hH n f
  have hlen : (hdr6 H n f ++ r).length = 40 + r.length := by rw [List.length_append, hl]
  have b0 : byteAt (hdr6 H n f ++ r) 0 = 96 := rfl
  have t1 := b8_toNat n
  have t2 := b8_toNat (n / 256)
  have t3 := b8_toNat f
  have t4 := b8_toNat H.hop
  have b4 : byteAt (hdr6 H n f ++ r) 4 = n / 256 := by show ((b8 (n / 256)).toNat : Int) = _; omega
  have b5 : byteAt (hdr6 H n f ++ r) 5 = n % 256 := by show ((b8 n).toNat : Int) = _; omega
  have b6 : byteAt (hdr6 H n f ++ r) 6 = f := by show ((b8 f).toNat : Int) = _; omega
  have b7 : byteAt (hdr6 H n f ++ r) 7 = H.hop := by show ((b8 H.hop).toNat : Int) = _; omega
  have w4 : wordAt (hdr6 H n f ++ r) 4 = n := by unfold wordAt; rw [b4, b5]; omega
  obtain ⟨h1, h2⟩ := hH
  have a8 : adr6 (hdr6 H n f ++ r) 8 = H.src := by
    unfold adr6
    have e : (hdr6 H n f ++ r).drop 8 = H.src.b ++ (H.dst.b ++ r) := by
      unfold hdr6
      rw [List.append_assoc, List.append_assoc, List.append_assoc]
      rfl
    rw [e, List.take_append_of_le_length (by omega), List.take_of_length_le (by omega)]
    cases hA : H.src with | mk s b => rw [hA] at hs; simp at hs; rw [hs]
  have a24 : adr6 (hdr6 H n f ++ r) 24 = H.dst := by
    unfold adr6
    have e : (hdr6 H n f ++ r).drop 24 = H.dst.b ++ r := by
      have e8 : (hdr6 H n f ++ r).drop 8 = H.src.b ++ (H.dst.b ++ r) := by
        unfold hdr6
        rw [List.append_assoc, List.append_assoc, List.append_assoc]
        rfl
      rw [show (24 : Nat) = 8 + 16 from rfl, ← List.drop_drop, e8, List.drop_append_of_le_length (by omega), List.drop_of_length_le (by omega), List.nil_append]
    rw [e, List.take_append_of_le_length (by omega), List.take_of_length_le (by omega)]
    cases hA : H.dst with | mk s b => rw [hA] at hd; simp at hd; rw [hd]
  unfold sixRead
  rw [if_neg (by omega), if_neg (by rw [b0]; decide), if_neg (by rw [w4, hlen]; omega)]
  unfold sixHead
  rw [w4, b6, b7, a8, a24]
  congr 1
  rw [show (40 + n).toNat = 40 + n.toNat from by omega, List.take_append, hl, List.take_of_length_le (by omega), List.drop_append_of_le_length (by omega), List.drop_of_length_le (by omega), List.nil_append]
  congr 1
  omega
end
section
variable {H : SixL} {l : List ExtL} {load more : List UInt8}
end

/-! ## The awake's answers -/
def x9 : SixL := ⟨48, 48, 64, false, 1, 17, ⟨true, [1, 2, 0, 0, 0, 0, 0, 0, 0, 0, 0, 0, 0, 0, 0, 0]⟩, ⟨true, [3, 0, 0, 0, 0, 0, 0, 0, 0, 0, 0, 0, 0, 0, 0, 0]⟩⟩
end Go.Proofs.Ytpjpfmnnefgnbaa
