/- Extensions' rows (the laws of layer 9). -/
import Derived.Test.YtdohlcakoamdhaaJ
import Derived.Test.YtdohlcakoamdhaaP09
namespace Go.Proofs.Ytdohlcakoamdhaa
open Go

def extC (x : ExtL) : List Value := [byteV x.kind, byteV x.long, .int .u16 x.part]
def extR : RT ExtL := ⟨extC, 3, fun _ => rfl, by decide, fun x u hu => by simp [extC] at hu; rcases hu with rfl | rfl | rfl <;> rfl⟩
def ExtOk (x : ExtL) : Prop := 0 ≤ x.part ∧ x.part ≤ 65535
/-- What the laws make of an extension: its lowest bits alone. -/
def own6 (x : ExtL) : ExtL := { x with part := bitAnd .u16 x.part 6 }
def own0 (x : ExtL) : ExtL := { x with part := 0 }
theorem lenE_part {x : ExtL} {p : Int} : lenE { x with part := p } = lenE x := rfl
theorem and6 {n : Int} (h : 0 ≤ n ∧ n ≤ 65535) : 0 ≤ bitAnd .u16 n 6 ∧ bitAnd .u16 n 6 ≤ 65535 ∧ bitAnd .u16 n 6 / 8 = 0 ∧ bitAnd .u16 n 6 % 2 = 0 := by
  rw [bitAnd_eq (by simp [IntKind.max, IntKind.signed, IntKind.bits]; omega) (by simp [IntKind.max, IntKind.signed, IntKind.bits])]
  obtain ⟨x, rfl⟩ : ∃ x : Nat, n = (x : Int) := ⟨n.toNat, by omega⟩
  simp only [Int.toNat_natCast]
  have e : (6 : Int).toNat = 6 := rfl
  rw [e]
  have h1 : x &&& 6 ≤ 6 := Nat.and_le_right
  have h2 : (x &&& 6) % 2 ^ 1 = 0 := by
    rw [Nat.and_mod_two_pow]
    have : 6 % 2 ^ 1 = 0 := rfl
    rw [this, Nat.and_zero]
  omega
theorem lensE_map {f : ExtL → ExtL} (h : ∀ x, lenE (f x) = lenE x) (l : List ExtL) : lensE (l.map f) = lensE l := by
  unfold lensE
  rw [List.map_map]
  congr 1
  apply List.map_congr_left
  intro x _
  exact h x
/-- The first so many of them are made own. -/
def ownTo (f : ExtL → ExtL) (l : List ExtL) (i : Nat) : List ExtL := (l.take i).map f ++ l.drop i
theorem ownTo_len (f : ExtL → ExtL) (l : List ExtL) (i : Nat) : (ownTo f l i).length = l.length := by simp [ownTo]; omega
theorem ownTo_0 (f : ExtL → ExtL) (l : List ExtL) : ownTo f l 0 = l := by simp [ownTo]
theorem ownTo_all (f : ExtL → ExtL) (l : List ExtL) : ownTo f l l.length = l.map f := by simp [ownTo]
theorem ownTo_at {f : ExtL → ExtL} {l : List ExtL} {i : Nat} (h : i < l.length) : (ownTo f l i)[i]'(by rw [ownTo_len]; exact h) = l[i] := by
  unfold ownTo
  rw [List.getElem_append_right (by simp; omega)]
  simp; congr 1; omega
theorem ownTo_step {f : ExtL → ExtL} {l : List ExtL} {i : Nat} (h : i < l.length) : (ownTo f l i).set i (f l[i]) = ownTo f l (i + 1) := by
  unfold ownTo
  have e1 : ((l.take i).map f).length = i := by simp; omega
  rw [List.set_append_right _ _ (by omega), e1, Nat.sub_self, List.drop_eq_getElem_cons h, List.set_cons_zero]
  rw [List.take_succ_eq_append_getElem h, List.map_append, List.append_assoc]
  simp
/-- How many bytes the first so many have. -/
theorem lensE_step {l : List ExtL} {i : Nat} (h : i < l.length) : lensE (l.take (i + 1)) = lensE (l.take i) + lenE l[i] := by
  rw [List.take_succ_eq_append_getElem h]
  simp only [lensE, List.map_append, List.map_cons, List.map_nil, List.sum_append, List.sum_cons, List.sum_nil, Nat.add_zero]
theorem lensE_le (l : List ExtL) (i : Nat) (h : l.length ≤ 100) : lensE (l.take i) ≤ 2400 := by
  have := lensE_bd (l.take i)
  have : (l.take i).length ≤ 100 := by simp; omega
  omega
/-- Laid from the end on. -/
theorem laidE_drop {l : List ExtL} {i : Nat} {p : Int} (h : i < l.length) : laidE (l.drop i) p = (kindE l[i], bytesE (laidE (l.drop (i + 1)) p).1 l[i] ++ (laidE (l.drop (i + 1)) p).2) := by
  rw [List.drop_eq_getElem_cons h]; rfl
/-- A kind, out of the row of kinds. -/
theorem kind_mod (x : ExtL) : ((x.kind.toNat : Int)).tmod 5 = (ixE x : Int) := by
  rw [Int.tmod_eq_emod_of_nonneg (by omega)]; unfold ixE; omega
theorem ixE_lt (x : ExtL) : ixE x < 5 := Nat.mod_lt _ (by decide)
theorem kindE_get (x : ExtL) : kindsL[ixE x]'(by have := ixE_lt x; simpa [kindsL] using this) = kindE x := by
  unfold kindE; rw [List.getD_eq_getElem?_getD, List.getElem?_eq_getElem (by have := ixE_lt x; simpa [kindsL] using this)]; rfl
theorem unit_mod (x : ExtL) : ((x.long.toNat : Int)).tmod 3 = (unitE x : Int) := by
  rw [Int.tmod_eq_emod_of_nonneg (by omega)]; unfold unitE; omega
theorem unitE_lt (x : ExtL) : unitE x < 3 := Nat.mod_lt _ (by decide)
/-- An extension's bytes, filled in. -/
theorem bytes_44 {f : Int} {x : ExtL} (h : kindE x = 44) : ((((List.replicate (lenE x) (0 : UInt8)).set 0 (b8 f)).set 2 (b8 (x.part / 2 ^ 8))).set 3 (b8 x.part)) = bytesE f x := by
  have hl : lenE x = 8 := by unfold lenE; rw [if_neg (by omega), if_pos h]
  unfold bytesE
  rw [if_pos h, hl]; rfl
theorem bytes_n44 {f : Int} {x : ExtL} (h : kindE x ≠ 44) : ((List.replicate (lenE x) (0 : UInt8)).set 0 (b8 f)).set 1 (b8 (unitE x : Int)) = bytesE f x := by
  have hb := lenE_bd x
  unfold bytesE
  rw [if_neg h]
  obtain ⟨n, hn⟩ : ∃ n, lenE x = n + 2 := ⟨lenE x - 2, by omega⟩
  rw [hn]
  have : b8 (unitE x : Int) = UInt8.ofNat (unitE x) := by
    apply UInt8.toNat_inj.1
    have := b8_toNat (unitE x : Int)
    have h3 := unitE_lt x
    simp
    omega
  rw [this]; rfl
theorem len_51 {x : ExtL} (h : kindE x = 51) : (8 : Int) + 4 * (unitE x : Int) = (lenE x : Int) := by unfold lenE; rw [if_pos h]; omega
theorem len_8 {x : ExtL} (h : kindE x ≠ 51) (h2 : kindE x ≠ 44) : (8 : Int) + 8 * (unitE x : Int) = (lenE x : Int) := by unfold lenE; rw [if_neg h, if_neg h2]; omega
theorem len_44 {x : ExtL} (h : kindE x ≠ 51) (h2 : ¬ kindE x ≠ 44) : (8 : Int) = (lenE x : Int) := by unfold lenE; rw [if_neg h, if_pos (by omega)]; rfl
theorem noFrag6 {l : List ExtL} (h : ∀ x ∈ l, ExtOk x) : noFrag (l.map own6) := by
  intro y hy
  obtain ⟨x, hx, rfl⟩ := List.mem_map.1 hy
  exact and6 (h x hx)
theorem noFrag0 (l : List ExtL) : noFrag (l.map own0) := by
  intro y hy
  obtain ⟨x, hx, rfl⟩ := List.mem_map.1 hy
  show (0 : Int) ≤ 0 ∧ (0 : Int) ≤ 65535 ∧ (0 : Int) / 8 = 0 ∧ (0 : Int) % 2 = 0
  decide
/-! ## The laws -/
theorem b8_byte (g : UInt8) : b8 (g.toNat : Int) = g := by
  apply UInt8.toNat_inj.1
  have := b8_toNat (g.toNat : Int)
  have := g.toNat_lt
  omega
theorem back_guard {r : Bool} {n a b : Nat} (h : ((((!true || !r) || decide ((n : Int) > 8)) || decide ((a : Int) > 300)) || decide ((b : Int) > 300)) = false) : r = true ∧ n ≤ 8 ∧ a ≤ 300 ∧ b ≤ 300 := by
  simp at h
  exact ⟨h.1.1.1, by omega, by omega, by omega⟩
theorem frag_guard {r : Bool} {n a : Nat} {q : Int} (h : ((((!true || !r) || decide ((n : Int) > 7)) || decide ((a : Int) > 300)) || (bitAnd .u16 q 65529 == 0)) = false) : r = true ∧ n ≤ 7 ∧ a ≤ 300 ∧ bitAnd .u16 q 65529 ≠ 0 := by
  simp at h
  exact ⟨h.1.1.1, by omega, by omega, h.2⟩
theorem part_bits {q : Int} (hq : 0 ≤ q ∧ q ≤ 65535) (h : bitAnd .u16 q 65529 ≠ 0) : q / 8 ≠ 0 ∨ q % 2 = 1 := by
  have hm : (bitAnd .i64 q 65529 != 0) = true := by
    rw [bitAnd_eq (by simp [IntKind.max, IntKind.signed, IntKind.bits]; omega) (by simp [IntKind.max, IntKind.signed, IntKind.bits])] at h ⊢
    simpa using h
  have key : ∀ x : Nat, x < 65536 → x &&& 65529 ≠ 0 → x / 8 ≠ 0 ∨ x % 2 = 1 := by
    intro x hx h
    have h1 : (x &&& 65529) / 2 ^ 3 = x / 2 ^ 3 := by
      rw [Nat.and_div_two_pow]
      have : 65529 / 2 ^ 3 = 2 ^ 13 - 1 := rfl
      rw [this, Nat.and_two_pow_sub_one_eq_mod]
      exact Nat.mod_eq_of_lt (by omega)
    have h2 : (x &&& 65529) % 2 ^ 3 = x % 2 := by
      rw [Nat.and_mod_two_pow]
      have : 65529 % 2 ^ 3 = 2 ^ 1 - 1 := rfl
      rw [this, Nat.and_two_pow_sub_one_eq_mod]
      omega
    generalize (x &&& 65529) = y at h h1 h2
    omega
  obtain ⟨x, rfl⟩ : ∃ x : Nat, q = (x : Int) := ⟨q.toNat, by omega⟩
  rw [bitAnd_eq (by simp [IntKind.max, IntKind.signed, IntKind.bits]; omega) (by simp [IntKind.max, IntKind.signed, IntKind.bits])] at h
  simp only [Int.toNat_natCast] at h
  have e : (65529 : Int).toNat = 65529 := rfl
  rw [e] at h
  have := key x (by omega) (by omega)
  omega
theorem ext6_ok {l : List ExtL} (h : ∀ x ∈ l, ExtOk x) : ∀ x ∈ l.map own6, ExtOk x := by
  intro y hy
  obtain ⟨x, hx, rfl⟩ := List.mem_map.1 hy
  have := and6 (h x hx)
  exact ⟨this.1, this.2.1⟩
theorem ext0_ok {l : List ExtL} : ∀ x ∈ l.map own0, ExtOk x := by
  intro y hy
  obtain ⟨x, hx, rfl⟩ := List.mem_map.1 hy
  exact ⟨by show (0 : Int) ≤ 0; omega, by show (0 : Int) ≤ 65535; omega⟩
def frag4 (q : Int) : ExtL := ⟨4, 0, q⟩
theorem frag4_ok {l : List ExtL} {q : Int} (hq : 0 ≤ q ∧ q ≤ 65535) : ∀ x ∈ l.map own0 ++ [frag4 q], ExtOk x := by
  intro x hx
  simp only [List.mem_append, List.mem_cons, List.not_mem_nil, or_false] at hx
  rcases hx with hx | rfl
  · exact ext0_ok x hx
  · exact hq
theorem frag4_len (l : List ExtL) (q : Int) : lensE (l.map own0 ++ [frag4 q]) = lensE l + 8 := by
  have := lensE_map (f := own0) (fun x => rfl) l
  simp only [lensE, List.map_append, List.sum_append] at this ⊢
  rw [this]; rfl
theorem right59 {H : SixL} (h : sixRight H = true) : sixRight { H with proto := 59 } = true := by
  unfold sixRight at h ⊢
  simp only [Bool.and_eq_true] at h ⊢
  obtain ⟨⟨⟨⟨⟨⟨⟨⟨⟨h1, h2⟩, h3⟩, h4⟩, h5⟩, h6⟩, h7⟩, h8⟩, h9⟩, h10⟩ := h
  exact ⟨⟨⟨⟨⟨⟨⟨⟨⟨h1, h2⟩, h3⟩, h4⟩, by decide⟩, by decide⟩, h7⟩, h8⟩, h9⟩, h10⟩
/-! ## The ninth -/
def x8 (l : List ExtL) (i : Nat) : ExtL := if h : i < l.length then l[i] else ⟨b8 (i : Int), b8 0, 0⟩
def many8 (l : List ExtL) (n : Nat) : List ExtL := (List.range n).map fun i => own0 (x8 l i)
theorem many8_len (l : List ExtL) (n : Nat) : (many8 l n).length = n := by simp [many8]
theorem many8_step (l : List ExtL) (n : Nat) : many8 l (n + 1) = many8 l n ++ [own0 (x8 l n)] := by simp [many8, List.range_succ]
theorem x8_yes {l : List ExtL} {i : Nat} (h : i < l.length) : x8 l i = l[i] := by unfold x8; rw [dif_pos h]
theorem x8_no {l : List ExtL} {i : Nat} (h : ¬ i < l.length) : x8 l i = ⟨b8 (i : Int), b8 0, 0⟩ := by unfold x8; rw [dif_neg h]
theorem many8_frag (l : List ExtL) (n : Nat) : noFrag (many8 l n) := by
  intro y hy
  obtain ⟨i, _, rfl⟩ := List.mem_map.1 hy
  show (0 : Int) ≤ 0 ∧ (0 : Int) ≤ 65535 ∧ (0 : Int) / 8 = 0 ∧ (0 : Int) % 2 = 0
  decide
theorem many8_ok (l : List ExtL) (n : Nat) : ∀ x ∈ many8 l n, ExtOk x := fun x hx => ⟨(many8_frag l n x hx).1, (many8_frag l n x hx).2.1⟩
def ninth (k : UInt8) : ExtL := ⟨k, b8 0, 0⟩
theorem many9_ok (l : List ExtL) (k : UInt8) : ∀ x ∈ many8 l 8 ++ [ninth k], ExtOk x := by
  intro x hx
  simp only [List.mem_append, List.mem_cons, List.not_mem_nil, or_false] at hx
  rcases hx with hx | rfl
  · exact many8_ok l 8 x hx
  · exact ⟨by show (0 : Int) ≤ 0; omega, by show (0 : Int) ≤ 65535; omega⟩
theorem many_guard {r : Bool} {n : Nat} (h : ((!true || !r) || decide ((n : Int) > 8)) = false) : r = true ∧ n ≤ 8 := by
  simp at h
  exact ⟨h.1, by omega⟩
theorem whole_set {H : SixL} (hH : SixOk H) {E : List ExtL} {n : Int} : ((wholeE H E []).set 4 (b8 (n / 2 ^ 8))).set 5 (b8 n) = hdr6 H n (laidE E H.proto).1 ++ (laidE E H.proto).2 := by
  unfold wholeE
  rw [List.append_nil]
  have hl := hdr6_len hH ((lensE E + ([] : List UInt8).length : Nat) : Int) (laidE E H.proto).1
  rw [List.set_append_left _ _ (by omega), List.set_append_left _ _ (by rw [List.length_set]; omega)]
  rfl
end Go.Proofs.Ytdohlcakoamdhaa
