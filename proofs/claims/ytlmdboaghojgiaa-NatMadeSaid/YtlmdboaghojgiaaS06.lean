import Derived.Test.YtlmdboaghojgiaaZ
/- The checksum in plain Lean: sums in a ring of 65535. -/
namespace Go.Proofs.Ytlmdboaghojgiaa
set_option linter.unusedVariables false
set_option linter.unusedSimpArgs false

def norm (s : Int) : Int := if s = 0 then 0 else (s - 1) % 65535 + 1
def ring (a b : Int) : Int := (a + b) % 65536 + (a + b) / 65536
def Qdt (a b : Int) : Int := if a + b > 65535 then a + b - 65535 else a + b

theorem Q79 (s : Int) : 0 ≤ norm s ∧ norm s ≤ 65535 := by unfold norm; split <;> omega
theorem Qli {s : Int} (h : s ≠ 0) : 1 ≤ norm s := by unfold norm; rw [if_neg h]; omega
theorem Qjo {s x : Int} (hs : 0 ≤ s) (h0 : 0 ≤ x) (h1 : x ≤ 65535) : ring (norm s) x = norm (s + x) := by
  unfold ring norm; split <;> split <;> omega
theorem Qhd {s x : Int} (hs : 0 ≤ s) (h0 : 0 ≤ x) (h1 : x ≤ 65535) : Qdt (norm s) x = norm (s + x) := by
  unfold Qdt norm; split <;> split <;> split <;> omega
theorem Qca {a b : Int} (ha : 0 ≤ a ∧ a ≤ 65535) (hb : 0 ≤ b ∧ b ≤ 65535) : 0 ≤ ring a b ∧ ring a b ≤ 65535 := by unfold ring; omega
def wsum : List UInt8 → Int
  | [] => 0
  | [x] => 256 * (x.toNat : Int)
  | x :: y :: r => 256 * (x.toNat : Int) + (y.toNat : Int) + wsum r
theorem Q2h : ∀ l, 0 ≤ wsum l
  | [] => by simp [wsum]
  | [x] => by simp only [wsum]; omega
  | x :: y :: r => by have := Q2h r; simp only [wsum]; omega
theorem Q2m (p : List UInt8) (h : p.length % 2 = 0) (q : List UInt8) : wsum (p ++ q) = wsum p + wsum q := by
  match p with
  | [] => simp [wsum]
  | [x] => simp at h
  | x :: y :: r =>
    have := Q2m r (by simp at h; omega) q
    simp only [List.cons_append, wsum, this]; omega
theorem Qdu : ∀ (p : List UInt8) (c : UInt8), wsum (p ++ [c]) = wsum p + (if p.length % 2 = 1 then (c.toNat : Int) else 256 * (c.toNat : Int))
  | [], c => by simp [wsum]
  | [x], c => by simp [wsum]
  | x :: y :: r, c => by
    have := Qdu r c
    simp only [List.cons_append, wsum, this, List.length_cons]
    by_cases h : r.length % 2 = 1
    · rw [if_pos h, if_pos (by omega)]; omega
    · rw [if_neg h, if_neg (by omega)]; omega

def ck (l : List UInt8) : Int := 65535 - norm (wsum l)
theorem Qdq (l : List UInt8) : 0 ≤ ck l ∧ ck l ≤ 65535 := by have := Q79 (wsum l); unfold ck; omega

def chg (c m n : Int) : Int := 65535 - ring (ring (65535 - c) (65535 - m)) n
theorem Qr4 {c m n : Int} (hc : 0 ≤ c ∧ c ≤ 65535) (hm : 0 ≤ m ∧ m ≤ 65535) (hn : 0 ≤ n ∧ n ≤ 65535) : 0 ≤ chg c m n ∧ chg c m n ≤ 65535 := by
  have h1 := Qca (a := 65535 - c) (b := 65535 - m) (by omega) (by omega)
  have h2 := Qca h1 hn
  unfold chg; omega
def Q09 (l : List UInt8) (i : Nat) : Int := ((l.getD i 0).toNat : Int)
theorem Q1q (l : List UInt8) (i : Nat) : 0 ≤ Q09 l i ∧ Q09 l i ≤ 255 := by
  unfold Q09; have := (l.getD i 0).toNat_lt; omega
theorem Q10 {l : List UInt8} {i : Nat} (h : i < l.length) : Q09 l i = (l[i].toNat : Int) := by unfold Q09; simp [h]
theorem Q6v {l : List UInt8} {i : Nat} (h : l.length ≤ i) : Q09 l i = 0 := by unfold Q09; simp [List.getD_eq_getElem?_getD, List.getElem?_eq_none h]
def Q07 (l : List UInt8) (i : Nat) : Int := 256 * Q09 l i + Q09 l (i + 1)
theorem Q0w (l : List UInt8) (i : Nat) : 0 ≤ Q07 l i ∧ Q07 l i ≤ 65535 := by
  have h1 := Q1q l i; have h2 := Q1q l (i + 1); unfold Q07; omega

def chgd (c : Int) (f t : List UInt8) : Nat → Int
  | 0 => c
  | k + 1 => chg (chgd c f t k) (Q07 f (2 * k)) (Q07 t (2 * k))
theorem Q6i {c : Int} (hc : 0 ≤ c ∧ c ≤ 65535) (f t : List UInt8) : ∀ k, 0 ≤ chgd c f t k ∧ chgd c f t k ≤ 65535
  | 0 => hc
  | k + 1 => Qr4 (Q6i hc f t k) (Q0w _ _) (Q0w _ _)
def Q3g (c : Int) (f t : List UInt8) : Int := chgd c f t ((max f.length t.length + 1) / 2)

def Q59 (l : List UInt8) : List Int := (List.range ((l.length + 1) / 2)).map fun k => Q07 l (2 * k)
theorem Q6j (l : List UInt8) : (Q59 l).length = (l.length + 1) / 2 := by simp [Q59]
theorem Qa9 (l : List UInt8) (k : Nat) (h : k < (Q59 l).length) : (Q59 l)[k] = Q07 l (2 * k) := by simp [Q59]

def Q5e (l : List UInt8) : Nat → Int
  | 0 => 0
  | k + 1 => Q5e l k + Q07 l (2 * k)
theorem Q8y (l : List UInt8) : ∀ k, 0 ≤ Q5e l k
  | 0 => by simp [Q5e]
  | k + 1 => by have h1 := Q8y l k; have h2 := Q0w l (2 * k); unfold Q5e; omega
theorem Q8z (x y : UInt8) (r : List UInt8) (i : Nat) : Q09 (x :: y :: r) (i + 2) = Q09 r i := by simp [Q09]
theorem Qaa (x y : UInt8) (r : List UInt8) : ∀ k, Q5e (x :: y :: r) (k + 1) = 256 * (x.toNat : Int) + (y.toNat : Int) + Q5e r k
  | 0 => by simp [Q5e, Q07, Q09]
  | k + 1 => by
    rw [Q5e, Qaa x y r k, Q5e]
    have e : Q07 (x :: y :: r) (2 * (k + 1)) = Q07 r (2 * k) := by
      unfold Q07
      rw [show 2 * (k + 1) = 2 * k + 2 from by omega, Q8z, show 2 * k + 2 + 1 = (2 * k + 1) + 2 from by omega, Q8z]
    omega
theorem Q7y : ∀ l : List UInt8, Q5e l ((l.length + 1) / 2) = wsum l
  | [] => by simp [Q5e, wsum]
  | [x] => by simp [Q5e, wsum, Q07, Q09]
  | x :: y :: r => by
    have := Q7y r
    have e : ((x :: y :: r).length + 1) / 2 = (r.length + 1) / 2 + 1 := by simp only [List.length_cons]; omega
    rw [e, Qaa, this]; simp only [wsum]

theorem Qhe (l : List UInt8) (k : Nat) (h : 2 * k < l.length) : (Q59 l).take (k + 1) = (Q59 l).take k ++ [Q07 l (2 * k)] := by
  have hk : k < (Q59 l).length := by rw [Q6j]; omega
  rw [List.take_succ_eq_append_getElem hk, Qa9]
theorem Qjp (l : List UInt8) (k : Nat) (h : l.length ≤ 2 * k) : (Q59 l).take k = Q59 l := List.take_of_length_le (by rw [Q6j]; omega)
theorem Qlj (l : List UInt8) : 65535 - norm (Q5e l (Q59 l).length) = ck l := by rw [Q6j, Q7y]; rfl
theorem Qes {c : Int} {f t : List UInt8} {k : Nat} (h1 : 2 * k ≤ max f.length t.length + 1) (h2 : max f.length t.length ≤ 2 * k) : chgd c f t k = Q3g c f t := by
  unfold Q3g; congr 1; omega

def Qbd (six : Bool) (s d : List UInt8) (tail4 tail6 : List UInt8) : List UInt8 := if six then s ++ d ++ tail6 else s.take 4 ++ d.take 4 ++ tail4

theorem Qcb : ∀ {l : List UInt8}, l.any (fun c => c != 0) = true → 0 < wsum l
  | [], h => by simp at h
  | [x], h => by
    have : x.toNat ≠ 0 := by
      intro e
      have : x = 0 := UInt8.toNat_inj.mp e
      simp [this] at h
    simp only [wsum]; omega
  | x :: y :: r, h => by
    have hr := Q2h r
    simp only [wsum]
    by_cases hx : x.toNat = 0
    · by_cases hy : y.toNat = 0
      · have e1 : x = 0 := UInt8.toNat_inj.mp hx
        have e2 : y = 0 := UInt8.toNat_inj.mp hy
        have : r.any (fun c => c != 0) = true := by simpa [e1, e2] using h
        have := Qcb this
        omega
      · omega
    · omega
end Go.Proofs.Ytlmdboaghojgiaa

/- Small lemmas for the walks: lengths, bits. -/
namespace Go.Proofs.Ytlmdboaghojgiaa
set_option linter.unusedVariables false
set_option linter.unusedSimpArgs false

theorem Sl.len_le {Rs : List VP} {v : Value} {w : World} (h : Sl Rs v w) : Rs.length ≤ 9223372036854775807 := by
  rcases h with ⟨_, rfl⟩ | ⟨p, cap, _, h2, h3, _⟩
  · simp
  · unfold maxLen at h3; simp at h3; omega
theorem Bs.len_le {l : List UInt8} {v : Value} {w : World} (h : Bs l v w) : l.length ≤ 9223372036854775807 := by simpa using Sl.len_le h
theorem Bss.len_le {l : List (List UInt8)} {v : Value} {w : World} (h : Bss l v w) : l.length ≤ 9223372036854775807 := by simpa using Sl.len_le h
theorem Ns.len_le {k : IntKind} {l : List Int} {v : Value} {w : World} (h : Ns k l v w) : l.length ≤ 9223372036854775807 := by simpa using Sl.len_le h

def IntKind.ebits (k : IntKind) : Nat := if k.signed then k.bits - 1 else k.bits
theorem Qjq (k : IntKind) : k.max = ((2 ^ IntKind.ebits k : Nat) : Int) - 1 := by cases k <;> rfl
theorem Qlk (k : IntKind) : 2 ^ IntKind.ebits k ≤ 2 ^ k.bits := by cases k <;> decide

theorem Q3w {k : IntKind} {m : Int} (h : 0 ≤ m ∧ m ≤ k.max) : (BitVec.ofInt k.bits m).toNat = m.toNat ∧ m.toNat < 2 ^ IntKind.ebits k := by
  obtain ⟨a, rfl⟩ := Int.eq_ofNat_of_zero_le h.1
  have h1 : a < 2 ^ IntKind.ebits k := by
    have := h.2; rw [Qjq] at this; omega
  have h2 : a < 2 ^ k.bits := Nat.lt_of_lt_of_le h1 (Qlk k)
  refine ⟨?_, by simpa using h1⟩
  simp [Nat.mod_eq_of_lt h2]

theorem back {k : IntKind} {r : Nat} (h : r < 2 ^ IntKind.ebits k) : k.wrap (r : Int) = (r : Int) := Qhu (by omega) (by rw [Qjq]; omega)
theorem Qa8 {k : IntKind} {m n : Int} (hm : 0 ≤ m ∧ m ≤ k.max) (hn : 0 ≤ n ∧ n ≤ k.max) : Q7i k m n = ((m.toNat &&& n.toNat : Nat) : Int) := by
  unfold Q7i
  rw [BitVec.toNat_and, (Q3w hm).1, (Q3w hn).1]
  exact back (Nat.and_lt_two_pow _ (Q3w hn).2)
theorem Qll {k : IntKind} {m n : Int} (hm : 0 ≤ m ∧ m ≤ k.max) (hn : 0 ≤ n ∧ n ≤ k.max) : Qgx k m n = ((m.toNat ||| n.toNat : Nat) : Int) := by
  unfold Qgx
  rw [BitVec.toNat_or, (Q3w hm).1, (Q3w hn).1]
  exact back (Nat.or_lt_two_pow (Q3w hm).2 (Q3w hn).2)
theorem Qjr {k : IntKind} {m n : Int} (hm : 0 ≤ m ∧ m ≤ k.max) (hn : 0 ≤ n ∧ n ≤ k.max) : Qhz k m n = ((m.toNat ^^^ n.toNat : Nat) : Int) := by
  unfold Qhz
  rw [BitVec.toNat_xor, (Q3w hm).1, (Q3w hn).1]
  exact back (Nat.xor_lt_two_pow (Q3w hm).2 (Q3w hn).2)
theorem Qab {k : IntKind} {m n : Int} (j : Nat) (hn : n = ((2 ^ j : Nat) : Int) - 1) (hj : j ≤ IntKind.ebits k) (hm : 0 ≤ m ∧ m ≤ k.max) : Q7i k m n = m % ((2 ^ j : Nat) : Int) := by
  have hp : 0 < 2 ^ j := Nat.pos_of_ne_zero (by simp)
  have hle : 2 ^ j ≤ 2 ^ IntKind.ebits k := Nat.pow_le_pow_right (by decide) hj
  rw [Qa8 hm (by rw [Qjq]; omega), hn]
  have h1 : (((2 ^ j : Nat) : Int) - 1).toNat = 2 ^ j - 1 := by omega
  rw [h1, Nat.and_two_pow_sub_one_eq_mod]
  obtain ⟨a, rfl⟩ := Int.eq_ofNat_of_zero_le hm.1
  simp
theorem Qdm {k : IntKind} {m n : Int} (j : Nat) (a : Int) (hm' : m = a * ((2 ^ j : Nat) : Int)) (ha : 0 ≤ a) (hn' : n < ((2 ^ j : Nat) : Int)) (hm : 0 ≤ m ∧ m ≤ k.max) (hn : 0 ≤ n ∧ n ≤ k.max) : Qgx k m n = m + n := by
  rw [Qll hm hn]
  obtain ⟨x, rfl⟩ := Int.eq_ofNat_of_zero_le ha
  obtain ⟨y, rfl⟩ := Int.eq_ofNat_of_zero_le hn.1
  have e : m.toNat = 2 ^ j * x := by rw [hm']; rw [← Int.natCast_mul, Int.toNat_natCast, Nat.mul_comm]
  have hy : y < 2 ^ j := by exact_mod_cast hn'
  rw [e, Int.toNat_natCast, ← Nat.two_pow_add_eq_or_of_lt hy]
  rw [hm']
  simp [Int.mul_comm]

section
variable {P : Program} {d : Option Tmp} {ty : TypeId} {pos : String} {af : Array Edge} {gd : Option (Nat × Bool)} {a : Act} {w : World}
theorem Qet {t t' : TypeId} {x y : Operand} {k : IntKind} {m c : Int} (j : Nat) (hj : decide (j ≤ IntKind.ebits k) = true) (hx : a.eval x = .int k m) (hy : a.eval y = .int k c) (hc : c = ((2 ^ j : Nat) : Int) - 1) (hm : 0 ≤ m ∧ m ≤ k.max) :
    OpOk P ⟨d, .binOp .and t x y t', ty, pos, af, gd⟩ a w (Is (.int k (m % ((2 ^ j : Nat) : Int)))) := by
  have := Qbo (P := P) (d := d) (ty := ty) (pos := pos) (af := af) (gd := gd) (w := w) (t := t) (t' := t') hx hy
  rwa [Qab j hc (of_decide_eq_true hj) hm] at this
theorem Qjs (c : UInt8) : 0 ≤ (c.toNat : Int) ∧ (c.toNat : Int) ≤ IntKind.u8.max := by
  have := c.toNat_lt
  simp [IntKind.max, IntKind.signed, IntKind.bits]; omega
end
theorem Qjt {a b : Int} (h : (0 ≤ a ∧ a ≤ 65535) ∧ 0 ≤ b ∧ b ≤ 65535) :
    IntKind.u32.wrap (Q7i .u32 (IntKind.u32.wrap (a + b)) 65535 + IntKind.u32.wrap (a + b) / 2 ^ 16) = ring a b := by
  rw [IntWalk.u32_in (a + b) (by omega), Qab (m := a + b) (n := 65535) 16 rfl (by decide) (by simp [IntKind.max, IntKind.signed, IntKind.bits]; omega)]
  have e : ((2 ^ 16 : Nat) : Int) = 65536 := rfl
  have e' : ((2 : Int) ^ 16) = 65536 := rfl
  rw [e, e', IntWalk.u32_in _ (by omega)]; rfl

theorem Q5u (c : UInt8) : 0 ≤ (c.toNat : Int) ∧ (c.toNat : Int) ≤ 255 := by have := c.toNat_lt; omega
theorem Q8k {α : Type} (l : List α) (j : Nat) (h : j < l.length) : l.take (j + 1) = l.take j ++ [l[j]] := List.take_succ_eq_append_getElem h
theorem Qgd {ls : List (List UInt8)} {i : Nat} (h : i < ls.length) : (ls.take (i + 1)).flatten = (ls.take i).flatten ++ ls[i] := by
  rw [Q8k ls i h, List.flatten_append]; simp
theorem Qlm {p : List UInt8} {l : List UInt8} {j : Nat} (h : j < l.length) (o : Int) (ho : o = if (p ++ l.take j).length % 2 = 1 then (l[j].toNat : Int) else 256 * (l[j].toNat : Int)) :
    ring (norm (wsum (p ++ l.take j))) o = norm (wsum (p ++ l.take (j + 1))) := by
  have hc := Q5u l[j]
  have hw := Q2h (p ++ l.take j)
  rw [Q8k l j h, ← List.append_assoc, Qdu, Qjo hw, ← ho]
  · rw [ho]; split <;> omega
  · rw [ho]; split <;> omega
theorem Qln {p : List UInt8} {l : List UInt8} {j : Nat} (h : j < l.length) : (!decide ((p ++ l.take j).length % 2 = 1)) = decide ((p ++ l.take (j + 1)).length % 2 = 1) := by
  have e : (p ++ l.take (j + 1)).length = (p ++ l.take j).length + 1 := by rw [Q8k l j h, ← List.append_assoc]; simp; omega
  rw [e]
  by_cases hh : (p ++ l.take j).length % 2 = 1
  · rw [decide_eq_true hh, decide_eq_false (by omega)]; rfl
  · rw [decide_eq_false hh, decide_eq_true (by omega)]; rfl

theorem Qcc {n : Int} (h : 0 ≤ n ∧ n ≤ 65535) : Qd0 .u16 n = 65535 - n := by
  have e : Qd0 .u16 n = Qhz .u16 65535 n := rfl
  rw [e, Qjr (by decide) (by simpa [IntKind.max, IntKind.signed, IntKind.bits] using h)]
  obtain ⟨a, rfl⟩ := Int.eq_ofNat_of_zero_le h.1
  have ha : a < 2 ^ 16 := by omega
  have : (65535 : Int).toNat ^^^ (a : Int).toNat = 65535 - a := by
    rw [Int.toNat_natCast]
    have h1 := BitVec.toNat_not (x := BitVec.ofNat 16 a)
    rw [BitVec.not_def, BitVec.toNat_xor, BitVec.toNat_ofNat, Nat.mod_eq_of_lt ha] at h1
    exact h1
  rw [this]; omega
theorem Qdv {l : List UInt8} {i : Nat} : Qgx .u16 (IntKind.u16.wrap (Q09 l i * 2 ^ 8)) (Q09 l (i + 1)) = Q07 l i := by
  have h1 := Q1q l i; have h2 := Q1q l (i + 1)
  rw [show ((2 : Int) ^ 8) = 256 from rfl, IntWalk.u16_in _ (by omega),
    Qdm 8 (Q09 l i) (by rfl) h1.1 (by show _ < (256 : Int); omega) (by simp [IntKind.max, IntKind.signed, IntKind.bits]; omega) (by simp [IntKind.max, IntKind.signed, IntKind.bits]; omega)]
  unfold Q07; omega

theorem Qr5 {i a b : Nat} (h : decide ((i : Int) < if (b : Int) > (a : Int) then (b : Int) else (a : Int)) = true) : i < max a b := by
  simp at h; split at h <;> omega
theorem Qr6 {i a b : Nat} (h : decide ((i : Int) < if (b : Int) > (a : Int) then (b : Int) else (a : Int)) = false) : max a b ≤ i := by
  simp at h; split at h <;> omega

theorem Bs.cast {l m : List UInt8} {v : Value} {w : World} (h : Bs l v w) (e : l = m) : Bs m v w := e ▸ h
theorem Qr7 {n m : Int} (h : n % 256 = m % 256) : b8 n = b8 m := by unfold b8; rw [h]
theorem Q52 {n : Int} (h : 0 ≤ n ∧ n ≤ 65535) : b8 (IntKind.i64.wrap (n.tdiv 256)) = b8 (n / 2 ^ 8) := by
  rw [Int.tdiv_eq_ediv_of_nonneg h.1, IntWalk.i64_in _ (by omega)]; rfl
theorem Q53 {n : Int} (h : 0 ≤ n) : b8 (n.tmod 256) = b8 n := Qr7 (by rw [Int.tmod_eq_emod_of_nonneg h]; omega)
def Q2n (A D : Adr) (proto length : Int) : List UInt8 :=
  Qbd A.six A.b D.b [0, b8 proto, b8 (length / 2 ^ 8), b8 length] [0, 0, b8 (length / 2 ^ 8), b8 length, 0, 0, 0, b8 proto]
theorem Q3n {l : List UInt8} {i : Nat} (h : i < l.length) : l.take (i + 1) = l.take i ++ [l[i]] := List.take_succ_eq_append_getElem h

theorem Qge {A D : Adr} {p n : Int} {N : Nat} (h6 : A.six = true) (hN : N = if A.six then 16 else 4) (hA : A.b.length = 16) (hD : D.b.length = 16) (hn : 0 ≤ n ∧ n ≤ 65535) :
    A.b.take N ++ D.b.take N ++ [0, 0, b8 (IntKind.i64.wrap (n.tdiv 256)), b8 (n.tmod 256), 0, 0, 0, b8 p] = Q2n A D p n := by
  rw [if_pos h6] at hN; subst hN
  unfold Q2n Qbd
  rw [if_pos h6, List.take_of_length_le (by omega), List.take_of_length_le (by omega), Q52 hn, Q53 hn.1]
theorem Qgf {A D : Adr} {p n : Int} {N : Nat} (h6 : A.six = false) (hN : N = if A.six then 16 else 4) (hn : 0 ≤ n ∧ n ≤ 65535) :
    A.b.take N ++ D.b.take N ++ [0, b8 p, b8 (IntKind.i64.wrap (n.tdiv 256)), b8 (n.tmod 256)] = Q2n A D p n := by
  have h : ¬ A.six = true := by rw [h6]; decide
  rw [if_neg h] at hN; subst hN
  unfold Q2n Qbd
  rw [if_neg h, Q52 hn, Q53 hn.1]

end Go.Proofs.Ytlmdboaghojgiaa
