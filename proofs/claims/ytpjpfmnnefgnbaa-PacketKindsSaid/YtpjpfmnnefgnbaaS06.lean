import Derived.Test.YtpjpfmnnefgnbaaZ
/- The checksum in plain Lean: sums in a ring of 65535. -/
namespace Go.Proofs.Ytpjpfmnnefgnbaa
set_option linter.unusedVariables false
set_option linter.unusedSimpArgs false

def norm (s : Int) : Int := if s = 0 then 0 else (s - 1) % 65535 + 1
def ring (a b : Int) : Int := (a + b) % 65536 + (a + b) / 65536
theorem norm_bd (s : Int) : 0 ≤ norm s ∧ norm s ≤ 65535 := by unfold norm; split <;> omega
theorem norm_small {s : Int} (h0 : 0 ≤ s) (h1 : s ≤ 65535) : norm s = s := by unfold norm; split <;> omega
theorem ring_norm {s x : Int} (hs : 0 ≤ s) (h0 : 0 ≤ x) (h1 : x ≤ 65535) : ring (norm s) x = norm (s + x) := by
  unfold ring norm; split <;> split <;> omega
def wsum : List UInt8 → Int
  | [] => 0
  | [x] => 256 * (x.toNat : Int)
  | x :: y :: r => 256 * (x.toNat : Int) + (y.toNat : Int) + wsum r
theorem wsum_nonneg : ∀ l, 0 ≤ wsum l
  | [] => by simp [wsum]
  | [x] => by simp only [wsum]; omega
  | x :: y :: r => by have := wsum_nonneg r; simp only [wsum]; omega
theorem wsum_even (p : List UInt8) (h : p.length % 2 = 0) (q : List UInt8) : wsum (p ++ q) = wsum p + wsum q := by
  match p with
  | [] => simp [wsum]
  | [x] => simp at h
  | x :: y :: r =>
    have := wsum_even r (by simp at h; omega) q
    simp only [List.cons_append, wsum, this]; omega
theorem wsum_snoc : ∀ (p : List UInt8) (c : UInt8), wsum (p ++ [c]) = wsum p + (if p.length % 2 = 1 then (c.toNat : Int) else 256 * (c.toNat : Int))
  | [], c => by simp [wsum]
  | [x], c => by simp [wsum]
  | x :: y :: r, c => by
    have := wsum_snoc r c
    simp only [List.cons_append, wsum, this, List.length_cons]
    by_cases h : r.length % 2 = 1
    · rw [if_pos h, if_pos (by omega)]; omega
    · rw [if_neg h, if_neg (by omega)]; omega

def ck (l : List UInt8) : Int := 65535 - norm (wsum l)
theorem ck_bd (l : List UInt8) : 0 ≤ ck l ∧ ck l ≤ 65535 := by have := norm_bd (wsum l); unfold ck; omega

def byteAt (l : List UInt8) (i : Nat) : Int := ((l.getD i 0).toNat : Int)
theorem byteAt_bd (l : List UInt8) (i : Nat) : 0 ≤ byteAt l i ∧ byteAt l i ≤ 255 := by
  unfold byteAt; have := (l.getD i 0).toNat_lt; omega
theorem byteAt_get {l : List UInt8} {i : Nat} (h : i < l.length) : byteAt l i = (l[i].toNat : Int) := by unfold byteAt; simp [h]
def wordAt (l : List UInt8) (i : Nat) : Int := 256 * byteAt l i + byteAt l (i + 1)
theorem wordAt_bd (l : List UInt8) (i : Nat) : 0 ≤ wordAt l i ∧ wordAt l i ≤ 65535 := by
  have h1 := byteAt_bd l i; have h2 := byteAt_bd l (i + 1); unfold wordAt; omega

def sumTo (l : List UInt8) : Nat → Int
  | 0 => 0
  | k + 1 => sumTo l k + wordAt l (2 * k)
theorem sumTo_nonneg (l : List UInt8) : ∀ k, 0 ≤ sumTo l k
  | 0 => by simp [sumTo]
  | k + 1 => by have h1 := sumTo_nonneg l k; have h2 := wordAt_bd l (2 * k); unfold sumTo; omega
theorem byteAt_cons2 (x y : UInt8) (r : List UInt8) (i : Nat) : byteAt (x :: y :: r) (i + 2) = byteAt r i := by simp [byteAt]
theorem sumTo_cons2 (x y : UInt8) (r : List UInt8) : ∀ k, sumTo (x :: y :: r) (k + 1) = 256 * (x.toNat : Int) + (y.toNat : Int) + sumTo r k
  | 0 => by simp [sumTo, wordAt, byteAt]
  | k + 1 => by
    rw [sumTo, sumTo_cons2 x y r k, sumTo]
    have e : wordAt (x :: y :: r) (2 * (k + 1)) = wordAt r (2 * k) := by
      unfold wordAt
      rw [show 2 * (k + 1) = 2 * k + 2 from by omega, byteAt_cons2, show 2 * k + 2 + 1 = (2 * k + 1) + 2 from by omega, byteAt_cons2]
    omega
theorem sumTo_all : ∀ l : List UInt8, sumTo l ((l.length + 1) / 2) = wsum l
  | [] => by simp [sumTo, wsum]
  | [x] => by simp [sumTo, wsum, wordAt, byteAt]
  | x :: y :: r => by
    have := sumTo_all r
    have e : ((x :: y :: r).length + 1) / 2 = (r.length + 1) / 2 + 1 := by simp only [List.length_cons]; omega
    rw [e, sumTo_cons2, this]; simp only [wsum]

def pseudo (six : Bool) (s d : List UInt8) (tail4 tail6 : List UInt8) : List UInt8 := if six then s ++ d ++ tail6 else s.take 4 ++ d.take 4 ++ tail4

theorem norm_shift {s : Int} (h : 0 < s) : norm (s + 65535) = norm s := by unfold norm; split <;> split <;> omega
end Go.Proofs.Ytpjpfmnnefgnbaa

/- Small lemmas for the walks: lengths, bits. -/
namespace Go.Proofs.Ytpjpfmnnefgnbaa
set_option linter.unusedVariables false
set_option linter.unusedSimpArgs false

theorem Sl.len_le {Rs : List VP} {v : Value} {w : World} (h : Sl Rs v w) : Rs.length ≤ 9223372036854775807 := by
  rcases h with ⟨_, rfl⟩ | ⟨p, cap, _, h2, h3, _⟩
  · simp
  · unfold maxLen at h3; simp at h3; omega
theorem Bs.len_le {l : List UInt8} {v : Value} {w : World} (h : Bs l v w) : l.length ≤ 9223372036854775807 := by simpa using Sl.len_le h
theorem Bss.len_le {l : List (List UInt8)} {v : Value} {w : World} (h : Bss l v w) : l.length ≤ 9223372036854775807 := by simpa using Sl.len_le h
theorem Ns.len_le {k : IntKind} {l : List Int} {v : Value} {w : World} (h : Ns k l v w) : l.length ≤ 9223372036854775807 := by simpa using Sl.len_le h

def IntKind.ebits (k : IntKind) : Nat := if k.signed then k.bits - 1 else k.bits
theorem max_eq (k : IntKind) : k.max = ((2 ^ IntKind.ebits k : Nat) : Int) - 1 := by cases k <;> rfl
theorem ebits_le (k : IntKind) : 2 ^ IntKind.ebits k ≤ 2 ^ k.bits := by cases k <;> decide

theorem bv_toNat {k : IntKind} {m : Int} (h : 0 ≤ m ∧ m ≤ k.max) : (BitVec.ofInt k.bits m).toNat = m.toNat ∧ m.toNat < 2 ^ IntKind.ebits k := by
  obtain ⟨a, rfl⟩ := Int.eq_ofNat_of_zero_le h.1
  have h1 : a < 2 ^ IntKind.ebits k := by
    have := h.2; rw [max_eq] at this; omega
  have h2 : a < 2 ^ k.bits := Nat.lt_of_lt_of_le h1 (ebits_le k)
  refine ⟨?_, by simpa using h1⟩
  simp [Nat.mod_eq_of_lt h2]

theorem back {k : IntKind} {r : Nat} (h : r < 2 ^ IntKind.ebits k) : k.wrap (r : Int) = (r : Int) := wrap_id (by omega) (by rw [max_eq]; omega)
theorem bitAnd_eq {k : IntKind} {m n : Int} (hm : 0 ≤ m ∧ m ≤ k.max) (hn : 0 ≤ n ∧ n ≤ k.max) : bitAnd k m n = ((m.toNat &&& n.toNat : Nat) : Int) := by
  unfold bitAnd
  rw [BitVec.toNat_and, (bv_toNat hm).1, (bv_toNat hn).1]
  exact back (Nat.and_lt_two_pow _ (bv_toNat hn).2)
theorem bitOr_eq {k : IntKind} {m n : Int} (hm : 0 ≤ m ∧ m ≤ k.max) (hn : 0 ≤ n ∧ n ≤ k.max) : bitOr k m n = ((m.toNat ||| n.toNat : Nat) : Int) := by
  unfold bitOr
  rw [BitVec.toNat_or, (bv_toNat hm).1, (bv_toNat hn).1]
  exact back (Nat.or_lt_two_pow (bv_toNat hm).2 (bv_toNat hn).2)
theorem bitXor_eq {k : IntKind} {m n : Int} (hm : 0 ≤ m ∧ m ≤ k.max) (hn : 0 ≤ n ∧ n ≤ k.max) : bitXor k m n = ((m.toNat ^^^ n.toNat : Nat) : Int) := by
  unfold bitXor
  rw [BitVec.toNat_xor, (bv_toNat hm).1, (bv_toNat hn).1]
  exact back (Nat.xor_lt_two_pow (bv_toNat hm).2 (bv_toNat hn).2)
theorem bitAnd_mask {k : IntKind} {m n : Int} (j : Nat) (hn : n = ((2 ^ j : Nat) : Int) - 1) (hj : j ≤ IntKind.ebits k) (hm : 0 ≤ m ∧ m ≤ k.max) : bitAnd k m n = m % ((2 ^ j : Nat) : Int) := by
  have hp : 0 < 2 ^ j := Nat.pos_of_ne_zero (by simp)
  have hle : 2 ^ j ≤ 2 ^ IntKind.ebits k := Nat.pow_le_pow_right (by decide) hj
  rw [bitAnd_eq hm (by rw [max_eq]; omega), hn]
  have h1 : (((2 ^ j : Nat) : Int) - 1).toNat = 2 ^ j - 1 := by omega
  rw [h1, Nat.and_two_pow_sub_one_eq_mod]
  obtain ⟨a, rfl⟩ := Int.eq_ofNat_of_zero_le hm.1
  simp
theorem bitOr_add {k : IntKind} {m n : Int} (j : Nat) (a : Int) (hm' : m = a * ((2 ^ j : Nat) : Int)) (ha : 0 ≤ a) (hn' : n < ((2 ^ j : Nat) : Int)) (hm : 0 ≤ m ∧ m ≤ k.max) (hn : 0 ≤ n ∧ n ≤ k.max) : bitOr k m n = m + n := by
  rw [bitOr_eq hm hn]
  obtain ⟨x, rfl⟩ := Int.eq_ofNat_of_zero_le ha
  obtain ⟨y, rfl⟩ := Int.eq_ofNat_of_zero_le hn.1
  have e : m.toNat = 2 ^ j * x := by rw [hm']; rw [← Int.natCast_mul, Int.toNat_natCast, Nat.mul_comm]
  have hy : y < 2 ^ j := by exact_mod_cast hn'
  rw [e, Int.toNat_natCast, ← Nat.two_pow_add_eq_or_of_lt hy]
  rw [hm']
  simp [Int.mul_comm]

section
variable {P : Program} {d : Option Tmp} {ty : TypeId} {pos : String} {af : Array Edge} {gd : Option (Nat × Bool)} {a : Act} {w : World}
theorem ok_andm {t t' : TypeId} {x y : Operand} {k : IntKind} {m c : Int} (j : Nat) (hj : decide (j ≤ IntKind.ebits k) = true) (hx : a.eval x = .int k m) (hy : a.eval y = .int k c) (hc : c = ((2 ^ j : Nat) : Int) - 1) (hm : 0 ≤ m ∧ m ≤ k.max) :
    OpOk P ⟨d, .binOp .and t x y t', ty, pos, af, gd⟩ a w (Is (.int k (m % ((2 ^ j : Nat) : Int)))) := by
  have := ok_andb (P := P) (d := d) (ty := ty) (pos := pos) (af := af) (gd := gd) (w := w) (t := t) (t' := t') hx hy
  rwa [bitAnd_mask j hc (of_decide_eq_true hj) hm] at this
theorem mask_u8 (c : UInt8) : 0 ≤ (c.toNat : Int) ∧ (c.toNat : Int) ≤ IntKind.u8.max := by
  have := c.toNat_lt
  simp [IntKind.max, IntKind.signed, IntKind.bits]; omega
end
theorem ring_expr {a b : Int} (h : (0 ≤ a ∧ a ≤ 65535) ∧ 0 ≤ b ∧ b ≤ 65535) :
    IntKind.u32.wrap (bitAnd .u32 (IntKind.u32.wrap (a + b)) 65535 + IntKind.u32.wrap (a + b) / 2 ^ 16) = ring a b := by
  rw [IntWalk.u32_in (a + b) (by omega), bitAnd_mask (m := a + b) (n := 65535) 16 rfl (by decide) (by simp [IntKind.max, IntKind.signed, IntKind.bits]; omega)]
  have e : ((2 ^ 16 : Nat) : Int) = 65536 := rfl
  have e' : ((2 : Int) ^ 16) = 65536 := rfl
  rw [e, e', IntWalk.u32_in _ (by omega)]; rfl

theorem byte_bd (c : UInt8) : 0 ≤ (c.toNat : Int) ∧ (c.toNat : Int) ≤ 255 := by have := c.toNat_lt; omega
theorem take_snoc' {α : Type} (l : List α) (j : Nat) (h : j < l.length) : l.take (j + 1) = l.take j ++ [l[j]] := List.take_succ_eq_append_getElem h
theorem tot_next {ls : List (List UInt8)} {i : Nat} (h : i < ls.length) : (ls.take (i + 1)).flatten = (ls.take i).flatten ++ ls[i] := by
  rw [take_snoc' ls i h, List.flatten_append]; simp
theorem tot_step {p : List UInt8} {l : List UInt8} {j : Nat} (h : j < l.length) (o : Int) (ho : o = if (p ++ l.take j).length % 2 = 1 then (l[j].toNat : Int) else 256 * (l[j].toNat : Int)) :
    ring (norm (wsum (p ++ l.take j))) o = norm (wsum (p ++ l.take (j + 1))) := by
  have hc := byte_bd l[j]
  have hw := wsum_nonneg (p ++ l.take j)
  rw [take_snoc' l j h, ← List.append_assoc, wsum_snoc, ring_norm hw, ← ho]
  · rw [ho]; split <;> omega
  · rw [ho]; split <;> omega
theorem odd_step {p : List UInt8} {l : List UInt8} {j : Nat} (h : j < l.length) : (!decide ((p ++ l.take j).length % 2 = 1)) = decide ((p ++ l.take (j + 1)).length % 2 = 1) := by
  have e : (p ++ l.take (j + 1)).length = (p ++ l.take j).length + 1 := by rw [take_snoc' l j h, ← List.append_assoc]; simp; omega
  rw [e]
  by_cases hh : (p ++ l.take j).length % 2 = 1
  · rw [decide_eq_true hh, decide_eq_false (by omega)]; rfl
  · rw [decide_eq_false hh, decide_eq_true (by omega)]; rfl

theorem flat_len {ls : List (List UInt8)} {i : Nat} (h : i < ls.length) : ((ls.take i).flatten.length : Int) + (ls[i].length : Int) = ((ls.take (i + 1)).flatten.length : Int) := by
  rw [tot_next h, List.length_append]; omega
theorem flat_take_le (ls : List (List UInt8)) (i : Nat) : (ls.take i).flatten.length ≤ ls.flatten.length := by
  have : ls.flatten = (ls.take i).flatten ++ (ls.drop i).flatten := by rw [← List.flatten_append, List.take_append_drop]
  rw [this, List.length_append]; omega

theorem compl16 {n : Int} (h : 0 ≤ n ∧ n ≤ 65535) : bitNot .u16 n = 65535 - n := by
  have e : bitNot .u16 n = bitXor .u16 65535 n := rfl
  rw [e, bitXor_eq (by decide) (by simpa [IntKind.max, IntKind.signed, IntKind.bits] using h)]
  obtain ⟨a, rfl⟩ := Int.eq_ofNat_of_zero_le h.1
  have ha : a < 2 ^ 16 := by omega
  have : (65535 : Int).toNat ^^^ (a : Int).toNat = 65535 - a := by
    rw [Int.toNat_natCast]
    have h1 := BitVec.toNat_not (x := BitVec.ofNat 16 a)
    rw [BitVec.not_def, BitVec.toNat_xor, BitVec.toNat_ofNat, Nat.mod_eq_of_lt ha] at h1
    exact h1
  rw [this]; omega
theorem Bs.cast {l m : List UInt8} {v : Value} {w : World} (h : Bs l v w) (e : l = m) : Bs m v w := e ▸ h
theorem b8_mod {n m : Int} (h : n % 256 = m % 256) : b8 n = b8 m := by unfold b8; rw [h]
theorem b8_quo {n : Int} (h : 0 ≤ n ∧ n ≤ 65535) : b8 (IntKind.i64.wrap (n.tdiv 256)) = b8 (n / 2 ^ 8) := by
  rw [Int.tdiv_eq_ediv_of_nonneg h.1, IntWalk.i64_in _ (by omega)]; rfl
theorem b8_rem {n : Int} (h : 0 ≤ n) : b8 (n.tmod 256) = b8 n := b8_mod (by rw [Int.tmod_eq_emod_of_nonneg h]; omega)
def pseudoL (A D : Adr) (proto length : Int) : List UInt8 :=
  pseudo A.six A.b D.b [0, b8 proto, b8 (length / 2 ^ 8), b8 length] [0, 0, b8 (length / 2 ^ 8), b8 length, 0, 0, 0, b8 proto]
end Go.Proofs.Ytpjpfmnnefgnbaa
