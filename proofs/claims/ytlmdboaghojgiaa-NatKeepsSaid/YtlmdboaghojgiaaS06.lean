import Derived.Test.YtlmdboaghojgiaaZ
/- The checksum in plain Lean: sums in a ring of 65535. -/
namespace Go.Proofs.Ytlmdboaghojgiaa
set_option linter.unusedVariables false
set_option linter.unusedSimpArgs false

def norm (s : Int) : Int := if s = 0 then 0 else (s - 1) % 65535 + 1
def ring (a b : Int) : Int := (a + b) % 65536 + (a + b) / 65536
def Q8o (a b : Int) : Int := if a + b > 65535 then a + b - 65535 else a + b

theorem Q74 (s : Int) : 0 ≤ norm s ∧ norm s ≤ 65535 := by unfold norm; split <;> omega
theorem Qiv {s x : Int} (hs : 0 ≤ s) (h0 : 0 ≤ x) (h1 : x ≤ 65535) : ring (norm s) x = norm (s + x) := by
  unfold ring norm; split <;> split <;> omega
theorem Qgg {s x : Int} (hs : 0 ≤ s) (h0 : 0 ≤ x) (h1 : x ≤ 65535) : Q8o (norm s) x = norm (s + x) := by
  unfold Q8o norm; split <;> split <;> split <;> omega
theorem Q75 {a b : Int} (ha : 0 ≤ a ∧ a ≤ 65535) (hb : 0 ≤ b ∧ b ≤ 65535) : 0 ≤ ring a b ∧ ring a b ≤ 65535 := by unfold ring; omega
theorem Qb7 {a b : Int} (ha : 0 ≤ a ∧ a ≤ 65535) (hb : 0 ≤ b ∧ b ≤ 65535) : ring a b = Q8o a b := by unfold ring Q8o; split <;> omega
def wsum : List UInt8 → Int
  | [] => 0
  | [x] => 256 * (x.toNat : Int)
  | x :: y :: r => 256 * (x.toNat : Int) + (y.toNat : Int) + wsum r
theorem Q9h : ∀ l, 0 ≤ wsum l
  | [] => by simp [wsum]
  | [x] => by simp only [wsum]; omega
  | x :: y :: r => by have := Q9h r; simp only [wsum]; omega
theorem Qcv : ∀ (p : List UInt8) (c : UInt8), wsum (p ++ [c]) = wsum p + (if p.length % 2 = 1 then (c.toNat : Int) else 256 * (c.toNat : Int))
  | [], c => by simp [wsum]
  | [x], c => by simp [wsum]
  | x :: y :: r, c => by
    have := Qcv r c
    simp only [List.cons_append, wsum, this, List.length_cons]
    by_cases h : r.length % 2 = 1
    · rw [if_pos h, if_pos (by omega)]; omega
    · rw [if_neg h, if_neg (by omega)]; omega

def ck (l : List UInt8) : Int := 65535 - norm (wsum l)
theorem Qnx (l : List UInt8) : 0 ≤ ck l ∧ ck l ≤ 65535 := by have := Q74 (wsum l); unfold ck; omega

def chg (c m n : Int) : Int := 65535 - ring (ring (65535 - c) (65535 - m)) n
theorem Qow {c m n : Int} (hc : 0 ≤ c ∧ c ≤ 65535) (hm : 0 ≤ m ∧ m ≤ 65535) (hn : 0 ≤ n ∧ n ≤ 65535) : 0 ≤ chg c m n ∧ chg c m n ≤ 65535 := by
  have h1 := Q75 (a := 65535 - c) (b := 65535 - m) (by omega) (by omega)
  have h2 := Q75 h1 hn
  unfold chg; omega
theorem Qmp {c m n : Int} (hc : 0 ≤ c ∧ c ≤ 65535) (hm : 0 ≤ m ∧ m ≤ 65535) (hn : 0 ≤ n ∧ n ≤ 65535) : 65535 - Q8o (Q8o (65535 - c) (65535 - m)) n = chg c m n := by
  have h1 := Q75 (a := 65535 - c) (b := 65535 - m) (by omega) (by omega)
  unfold chg
  rw [← Qb7 (a := 65535 - c) (b := 65535 - m) (by omega) (by omega), ← Qb7 h1 hn]

def Q08 (l : List UInt8) (i : Nat) : Int := ((l.getD i 0).toNat : Int)
theorem Q17 (l : List UInt8) (i : Nat) : 0 ≤ Q08 l i ∧ Q08 l i ≤ 255 := by
  unfold Q08; have := (l.getD i 0).toNat_lt; omega
theorem Q0o {l : List UInt8} {i : Nat} (h : i < l.length) : Q08 l i = (l[i].toNat : Int) := by unfold Q08; simp [h]
theorem Q6o {l : List UInt8} {i : Nat} (h : l.length ≤ i) : Q08 l i = 0 := by unfold Q08; simp [List.getD_eq_getElem?_getD, List.getElem?_eq_none h]
def Q0a (l : List UInt8) (i : Nat) : Int := 256 * Q08 l i + Q08 l (i + 1)
theorem Q1a (l : List UInt8) (i : Nat) : 0 ≤ Q0a l i ∧ Q0a l i ≤ 65535 := by
  have h1 := Q17 l i; have h2 := Q17 l (i + 1); unfold Q0a; omega

def chgd (c : Int) (f t : List UInt8) : Nat → Int
  | 0 => c
  | k + 1 => chg (chgd c f t k) (Q0a f (2 * k)) (Q0a t (2 * k))
theorem Q66 {c : Int} (hc : 0 ≤ c ∧ c ≤ 65535) (f t : List UInt8) : ∀ k, 0 ≤ chgd c f t k ∧ chgd c f t k ≤ 65535
  | 0 => hc
  | k + 1 => Qow (Q66 hc f t k) (Q1a _ _) (Q1a _ _)
def Q3t (c : Int) (f t : List UInt8) : Int := chgd c f t ((max f.length t.length + 1) / 2)

def Q41 (l : List UInt8) : List Int := (List.range ((l.length + 1) / 2)).map fun k => Q0a l (2 * k)
theorem Q4t (l : List UInt8) : (Q41 l).length = (l.length + 1) / 2 := by simp [Q41]
theorem Q4u (l : List UInt8) (k : Nat) (h : k < (Q41 l).length) : (Q41 l)[k] = Q0a l (2 * k) := by simp [Q41]

def Q76 (l : List UInt8) : Nat → Int
  | 0 => 0
  | k + 1 => Q76 l k + Q0a l (2 * k)
theorem Q8g (l : List UInt8) : ∀ k, 0 ≤ Q76 l k
  | 0 => by simp [Q76]
  | k + 1 => by have h1 := Q8g l k; have h2 := Q1a l (2 * k); unfold Q76; omega
theorem Q8h (x y : UInt8) (r : List UInt8) (i : Nat) : Q08 (x :: y :: r) (i + 2) = Q08 r i := by simp [Q08]
theorem Q9i (x y : UInt8) (r : List UInt8) : ∀ k, Q76 (x :: y :: r) (k + 1) = 256 * (x.toNat : Int) + (y.toNat : Int) + Q76 r k
  | 0 => by simp [Q76, Q0a, Q08]
  | k + 1 => by
    rw [Q76, Q9i x y r k, Q76]
    have e : Q0a (x :: y :: r) (2 * (k + 1)) = Q0a r (2 * k) := by
      unfold Q0a
      rw [show 2 * (k + 1) = 2 * k + 2 from by omega, Q8h, show 2 * k + 2 + 1 = (2 * k + 1) + 2 from by omega, Q8h]
    omega
theorem Qcw : ∀ l : List UInt8, Q76 l ((l.length + 1) / 2) = wsum l
  | [] => by simp [Q76, wsum]
  | [x] => by simp [Q76, wsum, Q0a, Q08]
  | x :: y :: r => by
    have := Qcw r
    have e : ((x :: y :: r).length + 1) / 2 = (r.length + 1) / 2 + 1 := by simp only [List.length_cons]; omega
    rw [e, Q9i, this]; simp only [wsum]

theorem Qgh (l : List UInt8) (k : Nat) (h : 2 * k < l.length) : (Q41 l).take (k + 1) = (Q41 l).take k ++ [Q0a l (2 * k)] := by
  have hk : k < (Q41 l).length := by rw [Q4t]; omega
  rw [List.take_succ_eq_append_getElem hk, Q4u]
theorem Qiw (l : List UInt8) (k : Nat) (h : l.length ≤ 2 * k) : (Q41 l).take k = Q41 l := List.take_of_length_le (by rw [Q4t]; omega)
theorem Qkj (l : List UInt8) : 65535 - norm (Q76 l (Q41 l).length) = ck l := by rw [Q4t, Qcw]; rfl
theorem Qdz {c : Int} {f t : List UInt8} {k : Nat} (h1 : 2 * k ≤ max f.length t.length + 1) (h2 : max f.length t.length ≤ 2 * k) : chgd c f t k = Q3t c f t := by
  unfold Q3t; congr 1; omega

def Qfl (six : Bool) (s d : List UInt8) (tail4 tail6 : List UInt8) : List UInt8 := if six then s ++ d ++ tail6 else s.take 4 ++ d.take 4 ++ tail4

theorem Qaj (l : List UInt8) (n i : Nat) : Q08 (l ++ List.replicate n 0) i = Q08 l i := by
  unfold Q08
  congr 2
  simp only [List.getD_eq_getElem?_getD]
  rw [List.getElem?_append]
  split
  · rfl
  · next h =>
    rw [List.getElem?_eq_none (by omega : l.length ≤ i), List.getElem?_replicate]
    split <;> rfl
theorem Qak (l : List UInt8) (n i : Nat) : Q0a (l ++ List.replicate n 0) i = Q0a l i := by unfold Q0a; rw [Qaj, Qaj]
end Go.Proofs.Ytlmdboaghojgiaa

/- Small lemmas for the walks: lengths, bits. -/
namespace Go.Proofs.Ytlmdboaghojgiaa
set_option linter.unusedVariables false
set_option linter.unusedSimpArgs false

theorem Sl.len_le {Rs : List VP} {v : Value} {w : World} (h : Sl Rs v w) : Rs.length ≤ 9223372036854775807 := by
  rcases h with ⟨_, rfl⟩ | ⟨p, cap, _, h2, h3, _⟩
  · simp
  · unfold maxLen at h3; simp at h3; omega
theorem Bs.len_le {l : List UInt8} {v : Value} {w : World} (h : Bs l v w) : l.length ≤ 9223372036854775807 := by simpa using Sl.len_le h
theorem Bss.len_le {l : List (List UInt8)} {v : Value} {w : World} (h : Bss l v w) : l.length ≤ 9223372036854775807 := by simpa using Sl.len_le h
theorem Ns.len_le {k : IntKind} {l : List Int} {v : Value} {w : World} (h : Ns k l v w) : l.length ≤ 9223372036854775807 := by simpa using Sl.len_le h

def IntKind.ebits (k : IntKind) : Nat := if k.signed then k.bits - 1 else k.bits
theorem Qix (k : IntKind) : k.max = ((2 ^ IntKind.ebits k : Nat) : Int) - 1 := by cases k <;> rfl
theorem Qkk (k : IntKind) : 2 ^ IntKind.ebits k ≤ 2 ^ k.bits := by cases k <;> decide

theorem Q3s {k : IntKind} {m : Int} (h : 0 ≤ m ∧ m ≤ k.max) : (BitVec.ofInt k.bits m).toNat = m.toNat ∧ m.toNat < 2 ^ IntKind.ebits k := by
  obtain ⟨a, rfl⟩ := Int.eq_ofNat_of_zero_le h.1
  have h1 : a < 2 ^ IntKind.ebits k := by
    have := h.2; rw [Qix] at this; omega
  have h2 : a < 2 ^ k.bits := Nat.lt_of_lt_of_le h1 (Qkk k)
  refine ⟨?_, by simpa using h1⟩
  simp [Nat.mod_eq_of_lt h2]

theorem back {k : IntKind} {r : Nat} (h : r < 2 ^ IntKind.ebits k) : k.wrap (r : Int) = (r : Int) := Qgq (by omega) (by rw [Qix]; omega)
theorem Q9f {k : IntKind} {m n : Int} (hm : 0 ≤ m ∧ m ≤ k.max) (hn : 0 ≤ n ∧ n ≤ k.max) : Q7d k m n = ((m.toNat &&& n.toNat : Nat) : Int) := by
  unfold Q7d
  rw [BitVec.toNat_and, (Q3s hm).1, (Q3s hn).1]
  exact back (Nat.and_lt_two_pow _ (Q3s hn).2)
theorem Qkl {k : IntKind} {m n : Int} (hm : 0 ≤ m ∧ m ≤ k.max) (hn : 0 ≤ n ∧ n ≤ k.max) : Qfu k m n = ((m.toNat ||| n.toNat : Nat) : Int) := by
  unfold Qfu
  rw [BitVec.toNat_or, (Q3s hm).1, (Q3s hn).1]
  exact back (Nat.or_lt_two_pow (Q3s hm).2 (Q3s hn).2)
theorem Q9g {k : IntKind} {m n : Int} (hm : 0 ≤ m ∧ m ≤ k.max) (hn : 0 ≤ n ∧ n ≤ k.max) : Q8x k m n = ((m.toNat ^^^ n.toNat : Nat) : Int) := by
  unfold Q8x
  rw [BitVec.toNat_xor, (Q3s hm).1, (Q3s hn).1]
  exact back (Nat.xor_lt_two_pow (Q3s hm).2 (Q3s hn).2)
theorem Q9j {k : IntKind} {m n : Int} (j : Nat) (hn : n = ((2 ^ j : Nat) : Int) - 1) (hj : j ≤ IntKind.ebits k) (hm : 0 ≤ m ∧ m ≤ k.max) : Q7d k m n = m % ((2 ^ j : Nat) : Int) := by
  have hp : 0 < 2 ^ j := Nat.pos_of_ne_zero (by simp)
  have hle : 2 ^ j ≤ 2 ^ IntKind.ebits k := Nat.pow_le_pow_right (by decide) hj
  rw [Q9f hm (by rw [Qix]; omega), hn]
  have h1 : (((2 ^ j : Nat) : Int) - 1).toNat = 2 ^ j - 1 := by omega
  rw [h1, Nat.and_two_pow_sub_one_eq_mod]
  obtain ⟨a, rfl⟩ := Int.eq_ofNat_of_zero_le hm.1
  simp
theorem Qcu {k : IntKind} {m n : Int} (j : Nat) (a : Int) (hm' : m = a * ((2 ^ j : Nat) : Int)) (ha : 0 ≤ a) (hn' : n < ((2 ^ j : Nat) : Int)) (hm : 0 ≤ m ∧ m ≤ k.max) (hn : 0 ≤ n ∧ n ≤ k.max) : Qfu k m n = m + n := by
  rw [Qkl hm hn]
  obtain ⟨x, rfl⟩ := Int.eq_ofNat_of_zero_le ha
  obtain ⟨y, rfl⟩ := Int.eq_ofNat_of_zero_le hn.1
  have e : m.toNat = 2 ^ j * x := by rw [hm']; rw [← Int.natCast_mul, Int.toNat_natCast, Nat.mul_comm]
  have hy : y < 2 ^ j := by exact_mod_cast hn'
  rw [e, Int.toNat_natCast, ← Nat.two_pow_add_eq_or_of_lt hy]
  rw [hm']
  simp [Int.mul_comm]

section
variable {P : Program} {d : Option Tmp} {ty : TypeId} {pos : String} {af : Array Edge} {gd : Option (Nat × Bool)} {a : Act} {w : World}
theorem Qdj {t t' : TypeId} {x y : Operand} {k : IntKind} {m c : Int} (j : Nat) (hj : decide (j ≤ IntKind.ebits k) = true) (hx : a.eval x = .int k m) (hy : a.eval y = .int k c) (hc : c = ((2 ^ j : Nat) : Int) - 1) (hm : 0 ≤ m ∧ m ≤ k.max) :
    OpOk P ⟨d, .binOp .and t x y t', ty, pos, af, gd⟩ a w (Is (.int k (m % ((2 ^ j : Nat) : Int)))) := by
  have := Qap (P := P) (d := d) (ty := ty) (pos := pos) (af := af) (gd := gd) (w := w) (t := t) (t' := t') hx hy
  rwa [Q9j j hc (of_decide_eq_true hj) hm] at this
theorem Q81 (c : UInt8) : 0 ≤ (c.toNat : Int) ∧ (c.toNat : Int) ≤ IntKind.u8.max := by
  have := c.toNat_lt
  simp [IntKind.max, IntKind.signed, IntKind.bits]; omega
end
theorem Qiy {a b : Int} (h : (0 ≤ a ∧ a ≤ 65535) ∧ 0 ≤ b ∧ b ≤ 65535) :
    IntKind.u32.wrap (Q7d .u32 (IntKind.u32.wrap (a + b)) 65535 + IntKind.u32.wrap (a + b) / 2 ^ 16) = ring a b := by
  rw [IntWalk.u32_in (a + b) (by omega), Q9j (m := a + b) (n := 65535) 16 rfl (by decide) (by simp [IntKind.max, IntKind.signed, IntKind.bits]; omega)]
  have e : ((2 ^ 16 : Nat) : Int) = 65536 := rfl
  have e' : ((2 : Int) ^ 16) = 65536 := rfl
  rw [e, e', IntWalk.u32_in _ (by omega)]; rfl

theorem Q3b (c : UInt8) : 0 ≤ (c.toNat : Int) ∧ (c.toNat : Int) ≤ 255 := by have := c.toNat_lt; omega
theorem Q86 {α : Type} (l : List α) (j : Nat) (h : j < l.length) : l.take (j + 1) = l.take j ++ [l[j]] := List.take_succ_eq_append_getElem h
theorem Qfm {ls : List (List UInt8)} {i : Nat} (h : i < ls.length) : (ls.take (i + 1)).flatten = (ls.take i).flatten ++ ls[i] := by
  rw [Q86 ls i h, List.flatten_append]; simp
theorem Qkm {p : List UInt8} {l : List UInt8} {j : Nat} (h : j < l.length) (o : Int) (ho : o = if (p ++ l.take j).length % 2 = 1 then (l[j].toNat : Int) else 256 * (l[j].toNat : Int)) :
    ring (norm (wsum (p ++ l.take j))) o = norm (wsum (p ++ l.take (j + 1))) := by
  have hc := Q3b l[j]
  have hw := Q9h (p ++ l.take j)
  rw [Q86 l j h, ← List.append_assoc, Qcv, Qiv hw, ← ho]
  · rw [ho]; split <;> omega
  · rw [ho]; split <;> omega
theorem Qkn {p : List UInt8} {l : List UInt8} {j : Nat} (h : j < l.length) : (!decide ((p ++ l.take j).length % 2 = 1)) = decide ((p ++ l.take (j + 1)).length % 2 = 1) := by
  have e : (p ++ l.take (j + 1)).length = (p ++ l.take j).length + 1 := by rw [Q86 l j h, ← List.append_assoc]; simp; omega
  rw [e]
  by_cases hh : (p ++ l.take j).length % 2 = 1
  · rw [decide_eq_true hh, decide_eq_false (by omega)]; rfl
  · rw [decide_eq_false hh, decide_eq_true (by omega)]; rfl

theorem Qb8 {n : Int} (h : 0 ≤ n ∧ n ≤ 65535) : Qbs .u16 n = 65535 - n := by
  have e : Qbs .u16 n = Q8x .u16 65535 n := rfl
  rw [e, Q9g (by decide) (by simpa [IntKind.max, IntKind.signed, IntKind.bits] using h)]
  obtain ⟨a, rfl⟩ := Int.eq_ofNat_of_zero_le h.1
  have ha : a < 2 ^ 16 := by omega
  have : (65535 : Int).toNat ^^^ (a : Int).toNat = 65535 - a := by
    rw [Int.toNat_natCast]
    have h1 := BitVec.toNat_not (x := BitVec.ofNat 16 a)
    rw [BitVec.not_def, BitVec.toNat_xor, BitVec.toNat_ofNat, Nat.mod_eq_of_lt ha] at h1
    exact h1
  rw [this]; omega
theorem Qcx {l : List UInt8} {i : Nat} : Qfu .u16 (IntKind.u16.wrap (Q08 l i * 2 ^ 8)) (Q08 l (i + 1)) = Q0a l i := by
  have h1 := Q17 l i; have h2 := Q17 l (i + 1)
  rw [show ((2 : Int) ^ 8) = 256 from rfl, IntWalk.u16_in _ (by omega),
    Qcu 8 (Q08 l i) (by rfl) h1.1 (by show _ < (256 : Int); omega) (by simp [IntKind.max, IntKind.signed, IntKind.bits]; omega) (by simp [IntKind.max, IntKind.signed, IntKind.bits]; omega)]
  unfold Q0a; omega

theorem Qox {i a b : Nat} (h : decide ((i : Int) < if (b : Int) > (a : Int) then (b : Int) else (a : Int)) = true) : i < max a b := by
  simp at h; split at h <;> omega
theorem Qoy {i a b : Nat} (h : decide ((i : Int) < if (b : Int) > (a : Int) then (b : Int) else (a : Int)) = false) : max a b ≤ i := by
  simp at h; split at h <;> omega

theorem Bs.cast {l m : List UInt8} {v : Value} {w : World} (h : Bs l v w) (e : l = m) : Bs m v w := e ▸ h
theorem Qoz {n m : Int} (h : n % 256 = m % 256) : b8 n = b8 m := by unfold b8; rw [h]
theorem Q4b {n : Int} (h : 0 ≤ n ∧ n ≤ 65535) : b8 (IntKind.i64.wrap (n.tdiv 256)) = b8 (n / 2 ^ 8) := by
  rw [Int.tdiv_eq_ediv_of_nonneg h.1, IntWalk.i64_in _ (by omega)]; rfl
theorem Q4c {n : Int} (h : 0 ≤ n) : b8 (n.tmod 256) = b8 n := Qoz (by rw [Int.tmod_eq_emod_of_nonneg h]; omega)
def Q6f (A D : Adr) (proto length : Int) : List UInt8 :=
  Qfl A.six A.b D.b [0, b8 proto, b8 (length / 2 ^ 8), b8 length] [0, 0, b8 (length / 2 ^ 8), b8 length, 0, 0, 0, b8 proto]
theorem Q3i {l : List UInt8} {i : Nat} (h : i < l.length) : l.take (i + 1) = l.take i ++ [l[i]] := List.take_succ_eq_append_getElem h

theorem Qfn {A D : Adr} {p n : Int} {N : Nat} (h6 : A.six = true) (hN : N = if A.six then 16 else 4) (hA : A.b.length = 16) (hD : D.b.length = 16) (hn : 0 ≤ n ∧ n ≤ 65535) :
    A.b.take N ++ D.b.take N ++ [0, 0, b8 (IntKind.i64.wrap (n.tdiv 256)), b8 (n.tmod 256), 0, 0, 0, b8 p] = Q6f A D p n := by
  rw [if_pos h6] at hN; subst hN
  unfold Q6f Qfl
  rw [if_pos h6, List.take_of_length_le (by omega), List.take_of_length_le (by omega), Q4b hn, Q4c hn.1]
theorem Qfo {A D : Adr} {p n : Int} {N : Nat} (h6 : A.six = false) (hN : N = if A.six then 16 else 4) (hn : 0 ≤ n ∧ n ≤ 65535) :
    A.b.take N ++ D.b.take N ++ [0, b8 p, b8 (IntKind.i64.wrap (n.tdiv 256)), b8 (n.tmod 256)] = Q6f A D p n := by
  have h : ¬ A.six = true := by rw [h6]; decide
  rw [if_neg h] at hN; subst hN
  unfold Q6f Qfl
  rw [if_neg h, Q4b hn, Q4c hn.1]

end Go.Proofs.Ytlmdboaghojgiaa
