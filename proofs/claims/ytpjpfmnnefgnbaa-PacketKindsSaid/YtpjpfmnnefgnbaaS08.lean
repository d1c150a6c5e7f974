import Derived.Test.YtpjpfmnnefgnbaaS06
/- Numbers of two bytes; IPv4 headers, in plain Lean. -/
namespace Go.Proofs.Ytpjpfmnnefgnbaa
set_option linter.unusedVariables false
set_option linter.unusedSimpArgs false

def be (l : List UInt8) : Int := l.foldl (fun n c => n * 256 + (c.toNat : Int)) 0
theorem be_nonneg (l : List UInt8) : 0 ≤ be l := by
  unfold be
  have : ∀ (l : List UInt8) (n : Int), 0 ≤ n → 0 ≤ l.foldl (fun n c => n * 256 + (c.toNat : Int)) n := by
    intro l
    induction l with
    | nil => intro n h; exact h
    | cons c l ih => intro n h; exact ih _ (by show 0 ≤ n * 256 + (c.toNat : Int); omega)
  exact this l 0 (by omega)
theorem be_snoc (l : List UInt8) (c : UInt8) : be (l ++ [c]) = be l * 256 + (c.toNat : Int) := by simp [be]
theorem be_lt : ∀ (l : List UInt8), be l < ((256 ^ l.length : Nat) : Int) := by
  have : ∀ (l : List UInt8) (n : Int) (k : Nat), 0 ≤ n → n < ((256 ^ k : Nat) : Int) → l.foldl (fun n c => n * 256 + (c.toNat : Int)) n < ((256 ^ (k + l.length) : Nat) : Int) := by
    intro l
    induction l with
    | nil => intro n k h0 h; simpa using h
    | cons c l ih =>
      intro n k h0 h
      have hc := c.toNat_lt
      have e : ((256 ^ (k + 1) : Nat) : Int) = 256 * ((256 ^ k : Nat) : Int) := by rw [Nat.pow_succ]; omega
      have := ih (n * 256 + (c.toNat : Int)) (k + 1) (by omega) (by omega)
      rw [List.length_cons, show k + (l.length + 1) = k + 1 + l.length from by omega]
      exact this
  intro l
  have := this l 0 0 (by omega) (by simp)
  simpa [be] using this
theorem be_lt8 {l : List UInt8} (h : l.length < 8) : be l < 72057594037927936 := by
  have h1 := be_lt l
  have h2 : 256 ^ l.length ≤ 256 ^ 7 := Nat.pow_le_pow_right (by decide) (by omega)
  have h3 : (256 ^ 7 : Nat) = 72057594037927936 := by decide
  omega
theorem be_step {l : List UInt8} {j : Nat} (hj : j < l.length) (h8 : l.length ≤ 8) :
    bitOr .u64 (IntKind.u64.wrap (be (l.take j) * 2 ^ 8)) (l[j].toNat : Int) = be (l.take (j + 1)) := by
  have hc := l[j].toNat_lt
  have h0 := be_nonneg (l.take j)
  have h1 := be_lt8 (l := l.take j) (by simp; omega)
  rw [List.take_succ_eq_append_getElem hj, be_snoc]
  have e1 : IntKind.u64.wrap (be (l.take j) * 2 ^ 8) = be (l.take j) * 256 := by
    rw [show ((2 : Int) ^ 8) = 256 from rfl]; exact IntWalk.u64_in _ (by omega)
  rw [e1, bitOr_add 8 (be (l.take j)) (by rfl) h0 (by show _ < (256 : Int); omega) ⟨by omega, by simp [IntKind.max, IntKind.signed, IntKind.bits]; omega⟩ ⟨by omega, by simp [IntKind.max, IntKind.signed, IntKind.bits]; omega⟩]
theorem be_two {l : List UInt8} {i : Nat} (h : i + 2 ≤ l.length) : be (subl l i (i + 2)) = wordAt l i := by
  have e : subl l i (i + 2) = [l[i]'(by omega), l[i + 1]'(by omega)] := by
    apply List.ext_getElem
    · simp [subl]; omega
    · intro j h1 h2
      simp [subl] at h1
      match j, h1 with
      | 0, _ => simp [subl]
      | 1, _ => simp [subl]
      | j + 2, h => exact absurd h (by omega)
  rw [e]
  unfold wordAt
  rw [byteAt_get (by omega), byteAt_get (by omega)]
  simp [be]; omega
def put2 (n : Int) : List UInt8 := [b8 (n / 256), b8 n]
theorem put2_len (n : Int) : (put2 n).length = 2 := rfl
def fill2 (n : Int) : Nat → List UInt8
  | 0 => [0, 0]
  | 1 => [b8 n, 0]
  | _ => [b8 n, b8 (n / 256)]
theorem fill2_len (n : Int) (i : Nat) : (fill2 n i).length = 2 := by unfold fill2; split <;> rfl
theorem fill2_set {n : Int} {i : Nat} (h : i < 2) : (fill2 n i).set i (b8 (n / 2 ^ (8 * i))) = fill2 n (i + 1) := by
  match i, h with
  | 0, _ => simp [fill2]
  | 1, _ => simp [fill2]
/-! ## IPv4 -/
structure FourL where
  head : Int
  total : Int
  tos : Int
  id : Int
  frag : Bool
  keep : Bool
  ttl : Int
  proto : Int
  src : Adr
  dst : Adr
def fourS (H : FourL) : List (List Value) := [[.int .i64 H.head], [.int .i64 H.total], [.int .i64 H.tos], [.int .i64 H.id], [.bool H.frag], [.bool H.keep], [.int .i64 H.ttl], [.int .i64 H.proto], adrCells H.src, adrCells H.dst]
def FourV (H : FourL) : Value := .agg (fourS H).flatten.toArray
def four0 : FourL := ⟨0, 0, 0, 0, false, false, 0, 0, adr0, adr0⟩
def FourOk (H : FourL) : Prop := H.src.b.length = 16 ∧ H.dst.b.length = 16
theorem four0_ok : FourOk four0 := ⟨rfl, rfl⟩
def adr4 (l : List UInt8) (i : Nat) : Adr := ⟨false, (l.drop i).take 4 ++ List.replicate 12 0⟩
theorem adr4_len {l : List UInt8} {i : Nat} (h : i + 4 ≤ l.length) : (adr4 l i).b.length = 16 := by simp [adr4]; omega
theorem adrCells_len {A : Adr} (h : A.b.length = 16) : (adrCells A).length = 17 := by simp [adrCells, h]
def fourRead (l : List UInt8) : FourL × Int :=
  if l.length < 20 then (four0, 2)
  else if byteAt l 0 / 16 ≠ 4 ∨ byteAt l 0 % 16 * 4 < 20 then (four0, 3)
  else if byteAt l 0 % 16 * 4 > (l.length : Int) then (four0, 2)
  else if wordAt l 2 < byteAt l 0 % 16 * 4 then (four0, 3)
  else if wordAt l 2 > (l.length : Int) then (four0, 2)
  else if ck (l.take (byteAt l 0 % 16 * 4).toNat) ≠ 0 then (four0, 8)
  else (⟨byteAt l 0 % 16 * 4, wordAt l 2, byteAt l 1, wordAt l 4, decide (wordAt l 6 % 16384 ≠ 0), decide (wordAt l 6 / 16384 % 2 = 1), byteAt l 8, byteAt l 9, adr4 l 12, adr4 l 16⟩, 0)
theorem fourRead_ok (l : List UInt8) : FourOk (fourRead l).1 := by
  unfold fourRead
  split; exact four0_ok
  split; exact four0_ok
  split; exact four0_ok
  split; exact four0_ok
  split; exact four0_ok
  split; exact four0_ok
  exact ⟨adr4_len (by omega), adr4_len (by omega)⟩
def fourS2 (H : FourL) : List (List Value) := [[.int .i64 H.head], [.int .i64 H.total], [.int .i64 H.tos], [.int .i64 H.id], [.bool H.frag], [.bool H.keep], [.int .i64 H.ttl], [.int .i64 H.proto], [.bool H.src.six], H.src.b.map byteV, [.bool H.dst.six], H.dst.b.map byteV]
theorem fourS2_lens {H : FourL} (h : FourOk H) : (fourS2 H).map List.length = [1, 1, 1, 1, 1, 1, 1, 1, 1, 16, 1, 16] := by
  obtain ⟨h1, h2⟩ := h
  simp [fourS2, h1, h2]
theorem adr_seg (A : Adr) : Value.agg ([[Value.bool A.six], A.b.map byteV].flatten).toArray = AdrV A := by simp [AdrV, adrCells]
theorem four_one {H : FourL} : ∀ u ∈ (fourS H).flatten, u.oneCell' = true := by
  intro u hu
  simp only [fourS, adrCells, List.flatten_cons, List.flatten_nil, List.mem_append, List.mem_cons, List.mem_map, List.not_mem_nil, or_false] at hu
  rcases hu with h | h | h | h | h | h | h | h | (h | ⟨c, _, h⟩) | (h | ⟨c, _, h⟩) <;> subst h <;> rfl
theorem four_len {H : FourL} (h : FourOk H) : (fourS H).flatten.length = 42 := by
  obtain ⟨h1, h2⟩ := h
  simp [fourS, adrCells, h1, h2]
theorem nz_int (c : UInt8) : ((c.toNat : Int) != 0) = (c != 0) := by
  rw [Bool.eq_iff_iff]; simp [← UInt8.toNat_inj]
def ixf (pr : UInt8 → Bool) (l : List UInt8) : Int := match l.findIdx? pr with
  | some i => (i : Int)
  | none => -1
theorem ixf_some {pr : UInt8 → Bool} {l : List UInt8} {i : Nat} (hi : i < l.length) (h1 : (l.take i).any pr = false) (h2 : pr l[i] = true) : ixf pr l = (i : Int) := by
  unfold ixf
  have : l.findIdx? pr = some i := by
    rw [List.findIdx?_eq_some_iff_getElem]
    refine ⟨hi, h2, fun j hj => ?_⟩
    rw [List.any_eq_false] at h1
    have := h1 l[j] (by rw [List.mem_take_iff_getElem]; exact ⟨j, by omega, rfl⟩)
    simpa using this
  rw [this]
theorem ixf_none {pr : UInt8 → Bool} {l : List UInt8} (h : l.any pr = false) : ixf pr l = -1 := by
  unfold ixf
  have : l.findIdx? pr = none := by
    rw [List.findIdx?_eq_none_iff]
    rw [List.any_eq_false] at h
    intro x hx; simpa using h x hx
  rw [this]
theorem ixf_ge (pr : UInt8 → Bool) (l : List UInt8) : decide (ixf pr l ≥ 0) = l.any pr := by
  cases h : l.any pr with
  | false => rw [ixf_none h]; rfl
  | true =>
    unfold ixf
    cases hf : l.findIdx? pr with
    | none =>
      rw [List.findIdx?_eq_none_iff] at hf
      rw [List.any_eq_true] at h
      obtain ⟨x, hx, hp⟩ := h
      rw [hf x hx] at hp; cases hp
    | some i => simp
theorem any_take {pr : UInt8 → Bool} {l : List UInt8} {i : Nat} (hi : i < l.length) (h1 : (l.take i).any pr = false) (h2 : pr l[i] = false) : (l.take (i + 1)).any pr = false := by
  rw [List.take_succ_eq_append_getElem hi, List.any_append, h1]; simp [h2]
def shortA (A : Adr) : Bool := !A.six && !(A.b.drop 4).any fun c => c != 0
def inB (n m : Int) : Bool := decide (0 ≤ n) && decide (n ≤ m)
def fourRight (H : FourL) : Bool :=
  decide (H.head = 20) && decide (20 ≤ H.total) && decide (H.total ≤ 65535) && inB H.tos 255 && inB H.ttl 255 && inB H.proto 255 && inB H.id 65535 && !H.frag && shortA H.src && shortA H.dst
def fourB (H : FourL) : List UInt8 :=
  [69, b8 H.tos] ++ put2 H.total ++ put2 H.id ++ [if H.keep then 64 else 0, 0] ++ [b8 H.ttl, b8 H.proto] ++ [0, 0] ++ H.src.b.take 4 ++ H.dst.b.take 4
def fourPut (H : FourL) : List UInt8 := cpy (fourB H) 10 10 (put2 (ck (fourB H)))

theorem read_c1 {l : List UInt8} {x : Nat} (e : (x : Int) = byteAt l 0) (h : ((x : Int) / 2 ^ 4 != 4) = true) : ((x : Int) / 2 ^ 4 != 4) = decide (byteAt l 0 / 16 ≠ 4 ∨ byteAt l 0 % 16 * 4 < 20) := by
  have h' : (x : Int) / 2 ^ 4 ≠ 4 := by simpa using h
  rw [h]
  symm
  rw [decide_eq_true_eq]
  exact .inl (by rw [← e]; exact h')
theorem read_c2 {l : List UInt8} {x : Nat} (e : (x : Int) = byteAt l 0) (h : ((x : Int) / 2 ^ 4 != 4) = false) : decide (byteAt l 0 % 16 * 4 < 20) = decide (byteAt l 0 / 16 ≠ 4 ∨ byteAt l 0 % 16 * 4 < 20) := by
  have h' : (x : Int) / 2 ^ 4 = 4 := by simpa using h
  have h2 : byteAt l 0 / 16 = 4 := by rw [← e]; exact h'
  simp [h2]
def fourIs (l : List UInt8) : FourL := ⟨byteAt l 0 % 16 * 4, wordAt l 2, byteAt l 1, wordAt l 4, decide (wordAt l 6 % 16384 ≠ 0), decide (wordAt l 6 / 16384 % 2 = 1), byteAt l 8, byteAt l 9, adr4 l 12, adr4 l 16⟩
theorem fourRead_last {l : List UInt8} (hl : ¬ l.length < 20) (hv : ¬ (byteAt l 0 / 16 ≠ 4 ∨ byteAt l 0 % 16 * 4 < 20)) (hh : ¬ byteAt l 0 % 16 * 4 > (l.length : Int)) (ht : ¬ wordAt l 2 < byteAt l 0 % 16 * 4) (hu : ¬ wordAt l 2 > (l.length : Int)) (hs : ¬ ck (l.take (byteAt l 0 % 16 * 4).toNat) ≠ 0) :
    fourRead l = (fourIs l, 0) := by
  unfold fourRead
  rw [if_neg hl, if_neg hv, if_neg hh, if_neg ht, if_neg hu, if_neg hs]; rfl
theorem bit14 {n : Int} (h : 0 ≤ n ∧ n ≤ 65535) : (bitAnd .i64 n 16384 != 0) = decide (n / 16384 % 2 = 1) := by
  rw [bitAnd_eq ⟨h.1, by simp [IntKind.max, IntKind.signed, IntKind.bits]; omega⟩ ⟨by decide, by decide⟩]
  obtain ⟨m, rfl⟩ := Int.eq_ofNat_of_zero_le h.1
  have e : ((m : Int).toNat &&& (16384 : Int).toNat) = m / 16384 % 2 * 16384 := by
    rw [Int.toNat_natCast]
    show m &&& 16384 = _
    apply Nat.eq_of_testBit_eq
    intro i
    rw [show (16384 : Nat) = 2 ^ 14 from rfl, Nat.testBit_and, Nat.testBit_two_pow]
    by_cases hi : 14 = i
    · subst hi
      rw [Nat.testBit_eq_decide_div_mod_eq]
      rcases Nat.mod_two_eq_zero_or_one (m / 2 ^ 14) with h | h <;> rw [h] <;> decide
    · rcases Nat.mod_two_eq_zero_or_one (m / 2 ^ 14) with h | h <;> rw [h]
      · simp [hi]
      · rw [Nat.one_mul, Nat.testBit_two_pow]; simp [hi]
  rw [e, Bool.eq_iff_iff]
  simp
  omega
theorem four_built {l : List UInt8} {x1 x8 x9 : Nat} {a d : Adr} (e1 : (x1 : Int) = byteAt l 1) (e8 : (x8 : Int) = byteAt l 8) (e9 : (x9 : Int) = byteAt l 9) (w6 : 0 ≤ wordAt l 6 ∧ wordAt l 6 ≤ 65535) :
    Value.agg ([[Value.int .i64 (byteAt l 0 % 16 * 4)], [.int .i64 (wordAt l 2)], [.int .i64 (x1 : Int)], [.int .i64 (wordAt l 4)], [.bool (wordAt l 6 % 16384 != 0)], [.bool (bitAnd .i64 (wordAt l 6) 16384 != 0)], [.int .i64 (x8 : Int)], [.int .i64 (x9 : Int)], adrCells a, adrCells d].flatten).toArray =
      FourV ⟨byteAt l 0 % 16 * 4, wordAt l 2, byteAt l 1, wordAt l 4, decide (wordAt l 6 % 16384 ≠ 0), decide (wordAt l 6 / 16384 % 2 = 1), byteAt l 8, byteAt l 9, a, d⟩ := by
  rw [e1, e8, e9, bit14 w6]
  have : (wordAt l 6 % 16384 != 0) = decide (wordAt l 6 % 16384 ≠ 0) := by rw [Bool.eq_iff_iff]; simp
  rw [this]; rfl

/-! ### laid -/
def fourPutR (H : FourL) : List UInt8 × Int := if fourRight H then (fourPut H, 0) else ([], 1)
theorem fourRight_bd {H : FourL} (h : fourRight H = true) : H.head = 20 ∧ (20 ≤ H.total ∧ H.total ≤ 65535) ∧ (0 ≤ H.tos ∧ H.tos ≤ 255) ∧ (0 ≤ H.ttl ∧ H.ttl ≤ 255) ∧ (0 ≤ H.proto ∧ H.proto ≤ 255) ∧ (0 ≤ H.id ∧ H.id ≤ 65535) ∧ H.frag = false ∧ shortA H.src = true ∧ shortA H.dst = true := by
  unfold fourRight inB at h
  simp only [Bool.and_eq_true, decide_eq_true_eq, Bool.not_eq_true'] at h
  obtain ⟨⟨⟨⟨⟨⟨⟨⟨⟨h1, h2⟩, h3⟩, h4⟩, h5⟩, h6⟩, h7⟩, h8⟩, h9⟩, h10⟩ := h
  exact ⟨h1, ⟨h2, h3⟩, h4, h5, h6, h7, h8, h9, h10⟩
theorem four_right (H : FourL) : (((((((((((H.head != 20) || decide (H.total < 20)) || !inB H.total 65535) || !inB H.tos 255) || !inB H.ttl 255) || !inB H.proto 255) || !inB H.id 65535) || H.frag) || !shortA H.src) || !shortA H.dst)) = !fourRight H := by
  unfold fourRight inB
  rw [Bool.eq_iff_iff]
  generalize shortA H.src = s1
  generalize shortA H.dst = s2
  generalize H.frag = f
  cases s1 <;> cases s2 <;> cases f <;> simp <;> omega
def L5 (H : FourL) : List Int := [H.total, H.id, if H.keep then 16384 else 0, H.ttl * 256 + H.proto, 0]
def bL5 (H : FourL) (i : Nat) : List UInt8 := [69, b8 H.tos] ++ ((L5 H).take i).flatMap put2
theorem flat2_len (l : List Int) : (l.flatMap put2).length = 2 * l.length := by
  induction l with
  | nil => rfl
  | cons a l ih => rw [List.flatMap_cons, List.length_append, ih, put2_len, List.length_cons]; omega
theorem bL5_len {H : FourL} {i : Nat} (h : i ≤ 5) : (bL5 H i).length = 2 + 2 * i := by
  unfold bL5
  rw [List.length_append, flat2_len, List.length_take]
  simp [L5]; omega
theorem bL5_step {H : FourL} {i : Nat} (h : i < (L5 H).length) : bL5 H i ++ put2 (L5 H)[i] = bL5 H (i + 1) := by
  unfold bL5
  rw [List.take_succ_eq_append_getElem h, List.flatMap_append, List.append_assoc]; simp
theorem L5_bd {H : FourL} (h : fourRight H = true) {i : Nat} (hi : i < (L5 H).length) : 0 ≤ (L5 H)[i] ∧ (L5 H)[i] ≤ 65535 := by
  obtain ⟨_, h2, _, h4, h5, h6, _⟩ := fourRight_bd h
  match i, hi with
  | 0, _ => simp [L5]; omega
  | 1, _ => simp [L5]; omega
  | 2, _ => simp [L5]; split <;> omega
  | 3, _ => simp [L5]; omega
  | 4, _ => simp [L5]
  | i + 5, hi => exact absurd hi (by show ¬ i + 5 < 5; omega)
theorem or8 {m n : Int} (hm : 0 ≤ m ∧ m ≤ 255) (hn : 0 ≤ n ∧ n ≤ 255) : bitOr .i64 (IntKind.i64.wrap (m * 2 ^ 8)) n = m * 256 + n := by
  rw [show ((2 : Int) ^ 8) = 256 from rfl, IntWalk.i64_in _ (by omega)]
  exact bitOr_add 8 m (by rfl) hm.1 (by show _ < (256 : Int); omega) ⟨by omega, by simp [IntKind.max, IntKind.signed, IntKind.bits]; omega⟩ ⟨by omega, by simp [IntKind.max, IntKind.signed, IntKind.bits]; omega⟩
theorem b8_small {n : Int} {c : UInt8} (h : n = (c.toNat : Int)) : b8 n = c := by
  unfold b8
  subst h
  have := c.toNat_lt
  apply UInt8.toNat_inj.mp
  simp
  omega
theorem fourB_eq {H : FourL} (h : fourRight H = true) : bL5 H 5 ++ H.src.b.take 4 ++ H.dst.b.take 4 = fourB H := by
  obtain ⟨_, h2, _, h4, h5, h6, _⟩ := fourRight_bd h
  have e3 : put2 (if H.keep then 16384 else 0) = [if H.keep then 64 else 0, 0] := by cases H.keep <;> decide
  have e4 : put2 (H.ttl * 256 + H.proto) = [b8 H.ttl, b8 H.proto] := by
    unfold put2
    rw [show (H.ttl * 256 + H.proto) / 256 = H.ttl from by omega, b8_mod (n := H.ttl * 256 + H.proto) (m := H.proto) (by omega)]
  have e5 : put2 0 = [0, 0] := by decide
  unfold bL5 fourB L5
  simp only [List.take_succ_cons, List.take_zero, List.flatMap_cons, List.flatMap_nil, List.append_nil, e3, e4, e5, List.append_assoc]
theorem fourB_len {H : FourL} (hH : FourOk H) : (fourB H).length = 20 := by
  obtain ⟨h1, h2⟩ := hH
  simp [fourB, put2, h1, h2]

/-! ### the reference -/
end Go.Proofs.Ytpjpfmnnefgnbaa

/- IPv4 headers: what the statements of layer 8 say of them, in plain Lean. -/
namespace Go.Proofs.Ytpjpfmnnefgnbaa
set_option linter.unusedVariables false
set_option linter.unusedSimpArgs false

theorem wsum_set : ∀ (l : List UInt8) (k : Nat) (c : UInt8) (h : k < l.length), wsum (l.set k c) = wsum l + ((c.toNat : Int) - ((l[k]'h).toNat : Int)) * (if k % 2 = 0 then 256 else 1)
  | [], k, c, h => by simp at h
  | [x], 0, c, h => by simp [wsum]; omega
  | [x], k + 1, c, h => by simp at h
  | x :: y :: r, 0, c, h => by simp [wsum]; omega
  | x :: y :: r, 1, c, h => by simp [wsum]; omega
  | x :: y :: r, k + 2, c, h => by
    have h' : k < r.length := by simpa using h
    have := wsum_set r k c h'
    simp only [List.set_cons_succ, wsum, this, List.getElem_cons_succ, Nat.add_mod_right]
    omega
theorem ck_set {l : List UInt8} {k : Nat} {c : UInt8} (h : k < l.length) (h0 : ck l = 0) (hc : c ≠ l[k]) : ck (l.set k c) ≠ 0 := by
  have e := wsum_set l k c h
  have hne : (c.toNat : Int) ≠ (l[k].toNat : Int) := fun e => hc (UInt8.toNat_inj.mp (by exact_mod_cast e))
  have b1 := byte_bd c
  have b2 := byte_bd l[k]
  have hs := wsum_nonneg l
  have hs2 := wsum_nonneg (l.set k c)
  unfold ck at *
  unfold norm at *
  split at e <;> split at h0 <;> split <;> omega
theorem ck_fill {p q : List UInt8} (hp : p.length % 2 = 0) : ck (p ++ put2 (ck (p ++ [0, 0] ++ q)) ++ q) = 0 := by
  have hb := ck_bd (p ++ [0, 0] ++ q)
  have e0 : wsum (p ++ [0, 0] ++ q) = wsum p + wsum q := by rw [List.append_assoc, wsum_even p hp]; simp [wsum]
  have n1 := wsum_nonneg p
  have n2 := wsum_nonneg q
  have e1 : wsum (p ++ put2 (ck (p ++ [0, 0] ++ q)) ++ q) = wsum p + wsum q + ck (p ++ [0, 0] ++ q) := by
    rw [List.append_assoc, wsum_even p hp]
    simp only [put2, List.cons_append, List.nil_append, wsum, b8_toNat]
    omega
  unfold ck at e1 hb ⊢
  rw [e1, e0]
  unfold norm
  split <;> split <;> omega

def hdr (H : FourL) (f g x y : UInt8) : List UInt8 :=
  69 :: b8 H.tos :: b8 (H.total / 256) :: b8 H.total :: b8 (H.id / 256) :: b8 H.id :: f :: g :: b8 H.ttl :: b8 H.proto :: x :: y :: (H.src.b.take 4 ++ H.dst.b.take 4)
theorem hdr_len {H : FourL} (hH : FourOk H) (f g x y : UInt8) : (hdr H f g x y).length = 20 := by
  obtain ⟨h1, h2⟩ := hH
  simp [hdr, h1, h2]
def keepB (H : FourL) : UInt8 := if H.keep then 64 else 0
theorem fourB_hdr (H : FourL) : fourB H = hdr H (keepB H) 0 0 0 := by
  unfold fourB hdr put2 keepB
  simp only [List.cons_append, List.nil_append, List.append_assoc]
def sumd (H : FourL) (f g : UInt8) : List UInt8 := hdr H f g (b8 (ck (hdr H f g 0 0) / 256)) (b8 (ck (hdr H f g 0 0)))
theorem fourPut_hdr {H : FourL} (hH : FourOk H) : fourPut H = sumd H (keepB H) 0 := by
  unfold fourPut sumd
  rw [fourB_hdr]
  unfold cpy
  have h1 := hdr_len hH (keepB H) 0 0 0
  simp [put2, hdr]
theorem ck_sumd {H : FourL} (f g : UInt8) : ck (sumd H f g) = 0 := by
  have := ck_fill (p := [69, b8 H.tos, b8 (H.total / 256), b8 H.total, b8 (H.id / 256), b8 H.id, f, g, b8 H.ttl, b8 H.proto]) (q := H.src.b.take 4 ++ H.dst.b.take 4) (by simp)
  exact this
theorem sumd_len {H : FourL} (hH : FourOk H) (f g : UInt8) : (sumd H f g).length = 20 := hdr_len hH _ _ _ _

theorem fourRead_good {l : List UInt8} {T : Int} (hl : 20 ≤ l.length) (h0 : byteAt l 0 = 69) (hT : wordAt l 2 = T) (h1 : 20 ≤ T) (h2 : T ≤ (l.length : Int)) (hck : ck (l.take 20) = 0) : fourRead l = (fourIs l, 0) := by
  refine fourRead_last (by omega) (by omega) (by omega) (by omega) (by omega) ?_
  rw [h0]
  simpa using hck
theorem short_take {A : Adr} (hA : A.b.length = 16) (h : shortA A = true) : A = ⟨false, A.b.take 4 ++ List.replicate 12 0⟩ := by
  obtain ⟨six, b⟩ := A
  unfold shortA at h
  simp only [Bool.and_eq_true, Bool.not_eq_true'] at h
  obtain ⟨h1, h2⟩ := h
  simp only at h1 hA
  subst h1
  congr 1
  have e : b.drop 4 = List.replicate 12 0 := by
    apply List.ext_getElem
    · simp [hA]
    · intro i h3 h4
      rw [List.any_eq_false] at h2
      have := h2 _ (List.getElem_mem h3)
      rw [List.getElem_replicate]
      simpa using this
  rw [← e, List.take_append_drop]
theorem hdr_src {H : FourL} (hH : FourOk H) {f g x y : UInt8} {r : List UInt8} (hs : shortA H.src = true) : adr4 (hdr H f g x y ++ r) 12 = H.src := by
  rw [short_take hH.1 hs]
  unfold adr4
  have h1 : (H.src.b.take 4).length = 4 := by simp [hH.1]
  have : ((hdr H f g x y ++ r).drop 12).take 4 = H.src.b.take 4 := by
    show ((H.src.b.take 4 ++ H.dst.b.take 4 ++ r)).take 4 = _
    rw [List.append_assoc, List.take_append_of_le_length (by omega), List.take_of_length_le (by omega)]
  rw [this]
theorem hdr_dst {H : FourL} (hH : FourOk H) {f g x y : UInt8} {r : List UInt8} (hs : shortA H.dst = true) : adr4 (hdr H f g x y ++ r) 16 = H.dst := by
  rw [short_take hH.2 hs]
  unfold adr4
  have h1 : (H.src.b.take 4).length = 4 := by simp [hH.1]
  have h2 : (H.dst.b.take 4).length = 4 := by simp [hH.2]
  have : ((hdr H f g x y ++ r).drop 16).take 4 = H.dst.b.take 4 := by
    show ((H.src.b.take 4 ++ H.dst.b.take 4 ++ r).drop 4).take 4 = _
    have e : (H.src.b.take 4 ++ H.dst.b.take 4 ++ r).drop 4 = H.dst.b.take 4 ++ r := by
      rw [List.append_assoc, List.drop_append_of_le_length (by omega), List.drop_of_length_le (by omega), List.nil_append]
    rw [e, List.take_append_of_le_length (by omega), List.take_of_length_le (by omega)]
  rw [this]
def flagged (H : FourL) (f g : UInt8) : FourL := { H with head := 20, frag := decide ((256 * (f.toNat : Int) + (g.toNat : Int)) % 16384 ≠ 0), keep := decide ((256 * (f.toNat : Int) + (g.toNat : Int)) / 16384 % 2 = 1) }
theorem read_sumd {H : FourL} (hH : FourOk H) (hr : fourRight H = true) {f g : UInt8} {r : List UInt8} (hl : H.total ≤ 20 + (r.length : Int)) : fourRead (sumd H f g ++ r) = (flagged H f g, 0) := by
  obtain ⟨k1, k2, k3, k4, k5, k6, _, k8, k9⟩ := fourRight_bd hr
  have hlen := sumd_len hH f g
  have hck := ck_sumd (H := H) f g
  have e2 : wordAt (sumd H f g ++ r) 2 = H.total := by
    show 256 * ((b8 (H.total / 256)).toNat : Int) + ((b8 H.total).toNat : Int) = _
    rw [b8_toNat, b8_toNat]; omega
  rw [fourRead_good (T := H.total) (by simp; omega) rfl e2 k2.1 (by simp only [List.length_append, hlen]; omega) (by rw [List.take_append_of_le_length (by omega), List.take_of_length_le (by omega)]; exact hck)]
  have e1 : byteAt (sumd H f g ++ r) 1 = H.tos := by show ((b8 H.tos).toNat : Int) = _; rw [b8_toNat]; omega
  have e4 : wordAt (sumd H f g ++ r) 4 = H.id := by
    show 256 * ((b8 (H.id / 256)).toNat : Int) + ((b8 H.id).toNat : Int) = _
    rw [b8_toNat, b8_toNat]; omega
  have e6 : wordAt (sumd H f g ++ r) 6 = 256 * (f.toNat : Int) + (g.toNat : Int) := rfl
  have e8 : byteAt (sumd H f g ++ r) 8 = H.ttl := by show ((b8 H.ttl).toNat : Int) = _; rw [b8_toNat]; omega
  have e9 : byteAt (sumd H f g ++ r) 9 = H.proto := by show ((b8 H.proto).toNat : Int) = _; rw [b8_toNat]; omega
  have e0 : byteAt (sumd H f g ++ r) 0 = 69 := rfl
  unfold fourIs flagged
  rw [e0, e1, e2, e4, e6, e8, e9]
  unfold sumd
  rw [hdr_src hH k8, hdr_dst hH k9]
  rfl
theorem flagged_keep {H : FourL} (hr : fourRight H = true) : flagged H (keepB H) 0 = H := by
  obtain ⟨k1, _, _, _, _, _, k7, _⟩ := fourRight_bd hr
  obtain ⟨head, total, tos, id, frag, keep, ttl, proto, src, dst⟩ := H
  simp only at k1 k7
  subst k1
  subst k7
  unfold flagged keepB
  cases keep <;> simp
theorem four_back {H : FourL} (hH : FourOk H) (hr : fourRight H = true) {r : List UInt8} (hl : H.total ≤ 20 + (r.length : Int)) : fourRead (fourPut H ++ r) = (H, 0) := by
  rw [fourPut_hdr hH, read_sumd hH hr hl, flagged_keep hr]
theorem fourPut_len {H : FourL} (hH : FourOk H) : (fourPut H).length = 20 := by rw [fourPut_hdr hH]; exact sumd_len hH _ _
theorem byteAt_take {l : List UInt8} {i k : Nat} (h : i < k) : byteAt (l.take k) i = byteAt l i := by
  unfold byteAt
  simp only [List.getD_eq_getElem?_getD, List.getElem?_take, if_pos h]
theorem read_ck {l : List UInt8} (h : (fourRead l).2 = 0) : ck (l.take (byteAt l 0 % 16 * 4).toNat) = 0 ∧ byteAt l 0 / 16 = 4 ∧ 20 ≤ byteAt l 0 % 16 * 4 := by
  unfold fourRead at h
  split at h; · simp at h
  split at h; · simp at h
  split at h; · simp at h
  split at h; · simp at h
  split at h; · simp at h
  split at h; · simp at h
  rename_i h1 h2 h3 h4 h5 h6
  refine ⟨by simpa using h6, by omega, by omega⟩
theorem xor_ne {x t : UInt8} (h : t ≠ 0) : x ^^^ t ≠ x := by
  intro e
  apply h
  have : x ^^^ (x ^^^ t) = x ^^^ x := by rw [e]
  simpa [← UInt8.xor_assoc] using this
theorem four_spoilt {H : FourL} (hH : FourOk H) {r : List UInt8} {k : Nat} {c : UInt8} (hk : k < 20) (hc : c ≠ (fourPut H ++ r)[k]'(by have := fourPut_len hH; simp; omega)) :
    (fourRead ((fourPut H ++ r).set k c)).2 ≠ 0 ∨ (k = 0 ∧ byteAt ((fourPut H ++ r).set k c) 0 / 16 = 4 ∧ 5 < byteAt ((fourPut H ++ r).set k c) 0 % 16 ∧ ck (((fourPut H ++ r).set k c).take (byteAt ((fourPut H ++ r).set k c) 0 % 16 * 4).toNat) = 0) := by
  have hlen := fourPut_len hH
  by_cases h : (fourRead ((fourPut H ++ r).set k c)).2 = 0
  · right
    obtain ⟨h1, h2, h3⟩ := read_ck h
    have hck : ck (fourPut H) = 0 := by rw [fourPut_hdr hH]; exact ck_sumd _ _
    have hset : (fourPut H ++ r).set k c = (fourPut H).set k c ++ r := List.set_append_left _ _ (by omega)
    have hgk : (fourPut H ++ r)[k]'(by simp; omega) = (fourPut H)[k]'(by omega) := List.getElem_append_left _
    have hne := ck_set (l := fourPut H) (k := k) (c := c) (by omega) hck (by rw [← hgk]; exact hc)
    by_cases hk0 : k = 0
    · subst hk0
      refine ⟨rfl, h2, ?_, h1⟩
      have e5 : (fourPut H ++ r)[0]'(by simp; omega) = 69 := by
        have : fourPut H ++ r = sumd H (keepB H) 0 ++ r := by rw [fourPut_hdr hH]
        simp only [this]; rfl
      have hb : byteAt ((fourPut H ++ r).set 0 c) 0 = (c.toNat : Int) := by
        rw [byteAt_get (by simp; omega)]; simp
      rw [hb] at h2 h3 ⊢
      rw [e5] at hc
      have : c.toNat ≠ 69 := fun e => hc (UInt8.toNat_inj.mp e)
      omega
    · exfalso
      have hb : byteAt ((fourPut H ++ r).set k c) 0 = 69 := by
        have : byteAt ((fourPut H ++ r).set k c) 0 = byteAt (fourPut H ++ r) 0 := by
          unfold byteAt
          simp [List.getD_eq_getElem?_getD, List.getElem?_set, hk0]
        rw [this, fourPut_hdr hH]; rfl
      rw [hb, hset] at h1
      rw [show ((69 : Int) % 16 * 4).toNat = 20 from rfl, List.take_append_of_le_length (by simp; omega), List.take_of_length_le (by simp; omega)] at h1
      exact hne h1
  · exact .inl h
/-! ## Bytes with others turned in; the ends of the laws -/
theorem b8_xor (x y : UInt8) : b8 (bitXor .u8 (x.toNat : Int) (y.toNat : Int)) = x ^^^ y := by
  have h1 := mask_u8 x
  have h2 := mask_u8 y
  rw [bitXor_eq h1 h2]
  apply b8_small
  simp
theorem xor_bd (x y : UInt8) : 0 ≤ bitXor .u8 (x.toNat : Int) (y.toNat : Int) ∧ bitXor .u8 (x.toNat : Int) (y.toNat : Int) < 256 := by
  rw [bitXor_eq (mask_u8 x) (mask_u8 y)]
  have := (x ^^^ y).toNat_lt
  simp only [UInt8.toNat_xor] at this
  simp only [Int.toNat_natCast]
  omega
end Go.Proofs.Ytpjpfmnnefgnbaa
