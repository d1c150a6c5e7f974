import Derived.Test.YtlmdboaghojgiaaS06
/- Numbers of two bytes; IPv4 headers, in plain Lean. -/
namespace Go.Proofs.Ytlmdboaghojgiaa
set_option linter.unusedVariables false
set_option linter.unusedSimpArgs false

def be (l : List UInt8) : Int := l.foldl (fun n c => n * 256 + (c.toNat : Int)) 0
theorem Qis (l : List UInt8) : 0 ≤ be l := by
  unfold be
  have : ∀ (l : List UInt8) (n : Int), 0 ≤ n → 0 ≤ l.foldl (fun n c => n * 256 + (c.toNat : Int)) n := by
    intro l
    induction l with
    | nil => intro n h; exact h
    | cons c l ih => intro n h; exact ih _ (by show 0 ≤ n * 256 + (c.toNat : Int); omega)
  exact this l 0 (by omega)
theorem Qmo (l : List UInt8) (c : UInt8) : be (l ++ [c]) = be l * 256 + (c.toNat : Int) := by simp [be]
theorem Qpp : ∀ (l : List UInt8), be l < ((256 ^ l.length : Nat) : Int) := by
  have : ∀ (l : List UInt8) (n : Int) (k : Nat), 0 ≤ n → n < ((256 ^ k : Nat) : Int) → l.foldl (fun n c => n * 256 + (c.toNat : Int)) n < ((256 ^ (k + l.length) : Nat) : Int) := by
    intro l
    induction l with
    | nil => intro n k h0 h; simpa using h
    | cons c l ih =>
      intro n k h0 h
      have hc := c.toNat_lt
      have e : ((256 ^ (k + 1) : Nat) : Int) = 256 * ((256 ^ k : Nat) : Int) := by rw [Nat.pow_succ]; omega
      have := ih (n * 256 + (c.toNat : Int)) (k + 1) (by omega) (by omega)
      rw [List.length_cons, show k + (l.length + 1) = k + 1 + l.length from by omega]
      exact this
  intro l
  have := this l 0 0 (by omega) (by simp)
  simpa [be] using this
theorem Qov {l : List UInt8} (h : l.length < 8) : be l < 72057594037927936 := by
  have h1 := Qpp l
  have h2 : 256 ^ l.length ≤ 256 ^ 7 := Nat.pow_le_pow_right (by decide) (by omega)
  have h3 : (256 ^ 7 : Nat) = 72057594037927936 := by decide
  omega
theorem Qm9 {l : List UInt8} {j : Nat} (hj : j < l.length) (h8 : l.length ≤ 8) :
    Qfu .u64 (IntKind.u64.wrap (be (l.take j) * 2 ^ 8)) (l[j].toNat : Int) = be (l.take (j + 1)) := by
  have hc := l[j].toNat_lt
  have h0 := Qis (l.take j)
  have h1 := Qov (l := l.take j) (by simp; omega)
  rw [List.take_succ_eq_append_getElem hj, Qmo]
  have e1 : IntKind.u64.wrap (be (l.take j) * 2 ^ 8) = be (l.take j) * 256 := by
    rw [show ((2 : Int) ^ 8) = 256 from rfl]; exact IntWalk.u64_in _ (by omega)
  rw [e1, Qcu 8 (be (l.take j)) (by rfl) h0 (by show _ < (256 : Int); omega) ⟨by omega, by simp [IntKind.max, IntKind.signed, IntKind.bits]; omega⟩ ⟨by omega, by simp [IntKind.max, IntKind.signed, IntKind.bits]; omega⟩]
theorem Qcc {l : List UInt8} {i : Nat} (h : i + 2 ≤ l.length) : be (subl l i (i + 2)) = Q0a l i := by
  have e : subl l i (i + 2) = [l[i]'(by omega), l[i + 1]'(by omega)] := by
    apply List.ext_getElem
    · simp [subl]; omega
    · intro j h1 h2
      simp [subl] at h1
      match j, h1 with
      | 0, _ => simp [subl]
      | 1, _ => simp [subl]
      | j + 2, h => exact absurd h (by omega)
  rw [e]
  unfold Q0a
  rw [Q0o (by omega), Q0o (by omega)]
  simp [be]; omega
def put2 (n : Int) : List UInt8 := [b8 (n / 256), b8 n]
theorem Q13 (n : Int) : (put2 n).length = 2 := rfl
def Qdn (n : Int) : Nat → List UInt8
  | 0 => [0, 0]
  | 1 => [b8 n, 0]
  | _ => [b8 n, b8 (n / 256)]
theorem Qi0 (n : Int) (i : Nat) : (Qdn n i).length = 2 := by unfold Qdn; split <;> rfl
theorem Qi1 {n : Int} {i : Nat} (h : i < 2) : (Qdn n i).set i (b8 (n / 2 ^ (8 * i))) = Qdn n (i + 1) := by
  match i, h with
  | 0, _ => simp [Qdn]
  | 1, _ => simp [Qdn]
/-! ## IPv4 -/
structure FourL where
  head : Int
  total : Int
  tos : Int
  id : Int
  frag : Bool
  keep : Bool
  ttl : Int
  proto : Int
  src : Adr
  dst : Adr
def Q9u (H : FourL) : List (List Value) := [[.int .i64 H.head], [.int .i64 H.total], [.int .i64 H.tos], [.int .i64 H.id], [.bool H.frag], [.bool H.keep], [.int .i64 H.ttl], [.int .i64 H.proto], Q0l H.src, Q0l H.dst]
def Qdi (H : FourL) : Value := .agg (Q9u H).flatten.toArray
def Q44 : FourL := ⟨0, 0, 0, 0, false, false, 0, 0, adr0, adr0⟩
def Q6q (H : FourL) : Prop := H.src.b.length = 16 ∧ H.dst.b.length = 16
theorem Q27 : Q6q Q44 := ⟨rfl, rfl⟩
def adr4 (l : List UInt8) (i : Nat) : Adr := ⟨false, (l.drop i).take 4 ++ List.replicate 12 0⟩
theorem Q3z {l : List UInt8} {i : Nat} (h : i + 4 ≤ l.length) : (adr4 l i).b.length = 16 := by simp [adr4]; omega
theorem Q3h {A : Adr} (h : A.b.length = 16) : (Q0l A).length = 17 := by simp [Q0l, h]
def Q0n (l : List UInt8) : FourL × Int :=
  if l.length < 20 then (Q44, 2)
  else if Q08 l 0 / 16 ≠ 4 ∨ Q08 l 0 % 16 * 4 < 20 then (Q44, 3)
  else if Q08 l 0 % 16 * 4 > (l.length : Int) then (Q44, 2)
  else if Q0a l 2 < Q08 l 0 % 16 * 4 then (Q44, 3)
  else if Q0a l 2 > (l.length : Int) then (Q44, 2)
  else if ck (l.take (Q08 l 0 % 16 * 4).toNat) ≠ 0 then (Q44, 8)
  else (⟨Q08 l 0 % 16 * 4, Q0a l 2, Q08 l 1, Q0a l 4, decide (Q0a l 6 % 16384 ≠ 0), decide (Q0a l 6 / 16384 % 2 = 1), Q08 l 8, Q08 l 9, adr4 l 12, adr4 l 16⟩, 0)
theorem Q3a (l : List UInt8) : Q6q (Q0n l).1 := by
  unfold Q0n
  split; exact Q27
  split; exact Q27
  split; exact Q27
  split; exact Q27
  split; exact Q27
  split; exact Q27
  exact ⟨Q3z (by omega), Q3z (by omega)⟩
def Q1y (H : FourL) : List (List Value) := [[.int .i64 H.head], [.int .i64 H.total], [.int .i64 H.tos], [.int .i64 H.id], [.bool H.frag], [.bool H.keep], [.int .i64 H.ttl], [.int .i64 H.proto], [.bool H.src.six], H.src.b.map Q0z, [.bool H.dst.six], H.dst.b.map Q0z]
theorem Q6z {H : FourL} (h : Q6q H) : (Q1y H).map List.length = [1, 1, 1, 1, 1, 1, 1, 1, 1, 16, 1, 16] := by
  obtain ⟨h1, h2⟩ := h
  simp [Q1y, h1, h2]
theorem Q1x (A : Adr) : Value.agg ([[Value.bool A.six], A.b.map Q0z].flatten).toArray = AdrV A := by simp [AdrV, Q0l]
theorem Q2g {H : FourL} : ∀ u ∈ (Q9u H).flatten, u.oneCell' = true := by
  intro u hu
  simp only [Q9u, Q0l, List.flatten_cons, List.flatten_nil, List.mem_append, List.mem_cons, List.mem_map, List.not_mem_nil, or_false] at hu
  rcases hu with h | h | h | h | h | h | h | h | (h | ⟨c, _, h⟩) | (h | ⟨c, _, h⟩) <;> subst h <;> rfl
theorem Q2t {H : FourL} (h : Q6q H) : (Q9u H).flatten.length = 42 := by
  obtain ⟨h1, h2⟩ := h
  simp [Q9u, Q0l, h1, h2]
theorem Qhn (c : UInt8) : ((c.toNat : Int) != 0) = (c != 0) := by
  rw [Bool.eq_iff_iff]; simp [← UInt8.toNat_inj]
def ixf (pr : UInt8 → Bool) (l : List UInt8) : Int := match l.findIdx? pr with
  | some i => (i : Int)
  | none => -1
theorem Qfb {pr : UInt8 → Bool} {l : List UInt8} {i : Nat} (hi : i < l.length) (h1 : (l.take i).any pr = false) (h2 : pr l[i] = true) : ixf pr l = (i : Int) := by
  unfold ixf
  have : l.findIdx? pr = some i := by
    rw [List.findIdx?_eq_some_iff_getElem]
    refine ⟨hi, h2, fun j hj => ?_⟩
    rw [List.any_eq_false] at h1
    have := h1 l[j] (by rw [List.mem_take_iff_getElem]; exact ⟨j, by omega, rfl⟩)
    simpa using this
  rw [this]
theorem Qay {pr : UInt8 → Bool} {l : List UInt8} (h : l.any pr = false) : ixf pr l = -1 := by
  unfold ixf
  have : l.findIdx? pr = none := by
    rw [List.findIdx?_eq_none_iff]
    rw [List.any_eq_false] at h
    intro x hx; simpa using h x hx
  rw [this]
theorem Qnt (pr : UInt8 → Bool) (l : List UInt8) : decide (ixf pr l ≥ 0) = l.any pr := by
  cases h : l.any pr with
  | false => rw [Qay h]; rfl
  | true =>
    unfold ixf
    cases hf : l.findIdx? pr with
    | none =>
      rw [List.findIdx?_eq_none_iff] at hf
      rw [List.any_eq_true] at h
      obtain ⟨x, hx, hp⟩ := h
      rw [hf x hx] at hp; cases hp
    | some i => simp
theorem Qk3 {pr : UInt8 → Bool} {l : List UInt8} {i : Nat} (hi : i < l.length) (h1 : (l.take i).any pr = false) (h2 : pr l[i] = false) : (l.take (i + 1)).any pr = false := by
  rw [List.take_succ_eq_append_getElem hi, List.any_append, h1]; simp [h2]
def Q3p (A : Adr) : Bool := !A.six && !(A.b.drop 4).any fun c => c != 0
def inB (n m : Int) : Bool := decide (0 ≤ n) && decide (n ≤ m)
def Q68 (H : FourL) : Bool :=
  decide (H.head = 20) && decide (20 ≤ H.total) && decide (H.total ≤ 65535) && inB H.tos 255 && inB H.ttl 255 && inB H.proto 255 && inB H.id 65535 && !H.frag && Q3p H.src && Q3p H.dst
def Q70 (H : FourL) : List UInt8 :=
  [69, b8 H.tos] ++ put2 H.total ++ put2 H.id ++ [if H.keep then 64 else 0, 0] ++ [b8 H.ttl, b8 H.proto] ++ [0, 0] ++ H.src.b.take 4 ++ H.dst.b.take 4
def Q6y (H : FourL) : List UInt8 := cpy (Q70 H) 10 10 (put2 (ck (Q70 H)))

theorem Qhr {l : List UInt8} {x : Nat} (e : (x : Int) = Q08 l 0) (h : ((x : Int) / 2 ^ 4 != 4) = true) : ((x : Int) / 2 ^ 4 != 4) = decide (Q08 l 0 / 16 ≠ 4 ∨ Q08 l 0 % 16 * 4 < 20) := by
  have h' : (x : Int) / 2 ^ 4 ≠ 4 := by simpa using h
  rw [h]
  symm
  rw [decide_eq_true_eq]
  exact .inl (by rw [← e]; exact h')
theorem Qhs {l : List UInt8} {x : Nat} (e : (x : Int) = Q08 l 0) (h : ((x : Int) / 2 ^ 4 != 4) = false) : decide (Q08 l 0 % 16 * 4 < 20) = decide (Q08 l 0 / 16 ≠ 4 ∨ Q08 l 0 % 16 * 4 < 20) := by
  have h' : (x : Int) / 2 ^ 4 = 4 := by simpa using h
  have h2 : Q08 l 0 / 16 = 4 := by rw [← e]; exact h'
  simp [h2]
def Qid (l : List UInt8) : FourL := ⟨Q08 l 0 % 16 * 4, Q0a l 2, Q08 l 1, Q0a l 4, decide (Q0a l 6 % 16384 ≠ 0), decide (Q0a l 6 / 16384 % 2 = 1), Q08 l 8, Q08 l 9, adr4 l 12, adr4 l 16⟩
theorem Q5n {l : List UInt8} (hl : ¬ l.length < 20) (hv : ¬ (Q08 l 0 / 16 ≠ 4 ∨ Q08 l 0 % 16 * 4 < 20)) (hh : ¬ Q08 l 0 % 16 * 4 > (l.length : Int)) (ht : ¬ Q0a l 2 < Q08 l 0 % 16 * 4) (hu : ¬ Q0a l 2 > (l.length : Int)) (hs : ¬ ck (l.take (Q08 l 0 % 16 * 4).toNat) ≠ 0) :
    Q0n l = (Qid l, 0) := by
  unfold Q0n
  rw [if_neg hl, if_neg hv, if_neg hh, if_neg ht, if_neg hu, if_neg hs]; rfl
theorem Qpq {n : Int} (h : 0 ≤ n ∧ n ≤ 65535) : (Q7d .i64 n 16384 != 0) = decide (n / 16384 % 2 = 1) := by
  rw [Q9f ⟨h.1, by simp [IntKind.max, IntKind.signed, IntKind.bits]; omega⟩ ⟨by decide, by decide⟩]
  obtain ⟨m, rfl⟩ := Int.eq_ofNat_of_zero_le h.1
  have e : ((m : Int).toNat &&& (16384 : Int).toNat) = m / 16384 % 2 * 16384 := by
    rw [Int.toNat_natCast]
    show m &&& 16384 = _
    apply Nat.eq_of_testBit_eq
    intro i
    rw [show (16384 : Nat) = 2 ^ 14 from rfl, Nat.testBit_and, Nat.testBit_two_pow]
    by_cases hi : 14 = i
    · subst hi
      rw [Nat.testBit_eq_decide_div_mod_eq]
      rcases Nat.mod_two_eq_zero_or_one (m / 2 ^ 14) with h | h <;> rw [h] <;> decide
    · rcases Nat.mod_two_eq_zero_or_one (m / 2 ^ 14) with h | h <;> rw [h]
      · simp [hi]
      · rw [Nat.one_mul, Nat.testBit_two_pow]; simp [hi]
  rw [e, Bool.eq_iff_iff]
  simp
  omega
theorem Qg6 {l : List UInt8} {x1 x8 x9 : Nat} {a d : Adr} (e1 : (x1 : Int) = Q08 l 1) (e8 : (x8 : Int) = Q08 l 8) (e9 : (x9 : Int) = Q08 l 9) (w6 : 0 ≤ Q0a l 6 ∧ Q0a l 6 ≤ 65535) :
    Value.agg ([[Value.int .i64 (Q08 l 0 % 16 * 4)], [.int .i64 (Q0a l 2)], [.int .i64 (x1 : Int)], [.int .i64 (Q0a l 4)], [.bool (Q0a l 6 % 16384 != 0)], [.bool (Q7d .i64 (Q0a l 6) 16384 != 0)], [.int .i64 (x8 : Int)], [.int .i64 (x9 : Int)], Q0l a, Q0l d].flatten).toArray =
      Qdi ⟨Q08 l 0 % 16 * 4, Q0a l 2, Q08 l 1, Q0a l 4, decide (Q0a l 6 % 16384 ≠ 0), decide (Q0a l 6 / 16384 % 2 = 1), Q08 l 8, Q08 l 9, a, d⟩ := by
  rw [e1, e8, e9, Qpq w6]
  have : (Q0a l 6 % 16384 != 0) = decide (Q0a l 6 % 16384 ≠ 0) := by rw [Bool.eq_iff_iff]; simp
  rw [this]; rfl

/-! ### laid -/
theorem Qcf {H : FourL} (h : Q68 H = true) : H.head = 20 ∧ (20 ≤ H.total ∧ H.total ≤ 65535) ∧ (0 ≤ H.tos ∧ H.tos ≤ 255) ∧ (0 ≤ H.ttl ∧ H.ttl ≤ 255) ∧ (0 ≤ H.proto ∧ H.proto ≤ 255) ∧ (0 ≤ H.id ∧ H.id ≤ 65535) ∧ H.frag = false ∧ Q3p H.src = true ∧ Q3p H.dst = true := by
  unfold Q68 inB at h
  simp only [Bool.and_eq_true, decide_eq_true_eq, Bool.not_eq_true'] at h
  obtain ⟨⟨⟨⟨⟨⟨⟨⟨⟨h1, h2⟩, h3⟩, h4⟩, h5⟩, h6⟩, h7⟩, h8⟩, h9⟩, h10⟩ := h
  exact ⟨h1, ⟨h2, h3⟩, h4, h5, h6, h7, h8, h9, h10⟩
theorem Qkg {n : Int} {c : UInt8} (h : n = (c.toNat : Int)) : b8 n = c := by
  unfold b8
  subst h
  have := c.toNat_lt
  apply UInt8.toNat_inj.mp
  simp
  omega
theorem Qhw {H : FourL} (hH : Q6q H) : (Q70 H).length = 20 := by
  obtain ⟨h1, h2⟩ := hH
  simp [Q70, put2, h1, h2]

/-! ### the reference -/
def Qg7 (l : List UInt8) (q i : Nat) : List UInt8 := (l.drop q).take i ++ List.replicate (16 - i) 0
theorem Qg8 {l : List UInt8} {q i : Nat} (h : i < 4) (hq : q + 4 ≤ l.length) : (Qg7 l q i).set i (l[q + i]'(by omega)) = Qg7 l q (i + 1) := by
  unfold Qg7
  have h1 : ((l.drop q).take i).length = i := by simp; omega
  rw [List.set_append_right _ _ (by omega), h1, Nat.sub_self, List.take_succ_eq_append_getElem (by simp; omega)]
  have : List.replicate (16 - i) (0 : UInt8) = 0 :: List.replicate (16 - (i + 1)) 0 := by rw [← List.replicate_succ]; congr 1; omega
  rw [this]
  simp
theorem Qm6 {n : Int} (h : 0 ≤ n) : -9223372036854775808 ≤ n.tmod 16 ∧ n.tmod 16 ≤ 9223372036854775807 := by
  rw [Int.tmod_eq_emod_of_nonneg h]; omega
theorem Qnw {n : Int} (h : 0 ≤ n) : 0 ≤ n.tmod 16 ∧ n.tmod 16 ≤ 15 := by
  rw [Int.tmod_eq_emod_of_nonneg h]; omega
theorem Q5u {x k : Nat} (hx : x ≤ 255) : IntKind.u8.wrap ((x : Int).tdiv (k : Int)) = (x : Int) / (k : Int) := by
  rw [Int.tdiv_eq_ediv_of_nonneg (by omega)]
  apply IntWalk.u8_in
  constructor
  · exact Int.ediv_nonneg (by omega) (by omega)
  · have : (x : Int) / (k : Int) ≤ x := Int.ediv_le_self _ (by omega)
    omega
theorem Qk5 {l : List UInt8} {c : UInt8} (e : (c.toNat : Int) = Q08 l 0) (h : ((IntKind.u8.wrap ((c.toNat : Int).tdiv 16) != 4) || decide (Q08 l 0 % 16 * 4 < 20)) = true) : Q08 l 0 / 16 ≠ 4 ∨ Q08 l 0 % 16 * 4 < 20 := by
  have hq := Q5u (x := c.toNat) (k := 16) (by have := c.toNat_lt; omega)
  rw [show IntKind.u8.wrap ((c.toNat : Int).tdiv 16) = Q08 l 0 / 16 from by rw [← e]; exact hq] at h
  simpa using h
theorem Qk6 {l : List UInt8} {c : UInt8} (e : (c.toNat : Int) = Q08 l 0) (h : ((IntKind.u8.wrap ((c.toNat : Int).tdiv 16) != 4) || decide (Q08 l 0 % 16 * 4 < 20)) = false) : ¬ (Q08 l 0 / 16 ≠ 4 ∨ Q08 l 0 % 16 * 4 < 20) := by
  have hq := Q5u (x := c.toNat) (k := 16) (by have := c.toNat_lt; omega)
  rw [show IntKind.u8.wrap ((c.toNat : Int).tdiv 16) = Q08 l 0 / 16 from by rw [← e]; exact hq] at h
  simp only [Bool.or_eq_false_iff, bne_eq_false_iff_eq, decide_eq_false_iff_not] at h
  omega
theorem Qdk {l : List UInt8} {x1 x4 x5 x6 x7 x8 x9 : UInt8} {a d : Adr} (e1 : (x1.toNat : Int) = Q08 l 1) (e4 : (x4.toNat : Int) = Q08 l 4) (e5 : (x5.toNat : Int) = Q08 l 5) (e6 : (x6.toNat : Int) = Q08 l 6) (e7 : (x7.toNat : Int) = Q08 l 7) (e8 : (x8.toNat : Int) = Q08 l 8) (e9 : (x9.toNat : Int) = Q08 l 9) (_w6 : 0 ≤ Q0a l 6 ∧ Q0a l 6 ≤ 65535) :
    Value.agg ([[Value.int .i64 (Q08 l 0 % 16 * 4)], [.int .i64 (Q0a l 2)], [.int .i64 (x1.toNat : Int)], [.int .i64 (256 * (x4.toNat : Int) + (x5.toNat : Int))], [.bool (((x6.toNat : Int).tmod 64 != 0) || ((x7.toNat : Int) != 0))], [.bool ((IntKind.u8.wrap ((x6.toNat : Int).tdiv 64)).tmod 2 == 1)], [.int .i64 (x8.toNat : Int)], [.int .i64 (x9.toNat : Int)], Q0l a, Q0l d].flatten).toArray =
      Qdi ⟨Q08 l 0 % 16 * 4, Q0a l 2, Q08 l 1, Q0a l 4, decide (Q0a l 6 % 16384 ≠ 0), decide (Q0a l 6 / 16384 % 2 = 1), Q08 l 8, Q08 l 9, a, d⟩ := by
  have b6 := Q17 l 6
  have b7 := Q17 l 7
  have hq := Q5u (x := x6.toNat) (k := 64) (by have := x6.toNat_lt; omega)
  have e64 : IntKind.u8.wrap ((x6.toNat : Int).tdiv 64) = Q08 l 6 / 64 := by rw [← e6]; exact hq
  rw [e64, Int.tmod_eq_emod_of_nonneg (by omega), Int.tmod_eq_emod_of_nonneg (by omega), e1, e4, e5, e6, e7, e8, e9]
  have f1 : ((Q08 l 6 % 64 != 0) || (Q08 l 7 != 0)) = decide (Q0a l 6 % 16384 ≠ 0) := by
    have hw : Q0a l 6 = 256 * Q08 l 6 + Q08 l 7 := rfl
    rw [Bool.eq_iff_iff, Bool.or_eq_true, bne_iff_ne, bne_iff_ne, decide_eq_true_eq]; omega
  have f2 : (Q08 l 6 / 64 % 2 == 1) = decide (Q0a l 6 / 16384 % 2 = 1) := by
    have hw : Q0a l 6 = 256 * Q08 l 6 + Q08 l 7 := rfl
    rw [Bool.eq_iff_iff, beq_iff_eq, decide_eq_true_eq]; omega
  rw [f1, f2]; rfl
theorem Qg9 {b : List UInt8} {i : Nat} (h4 : 4 ≤ i) (h : i < b.length) (hz : ((b.drop 4).take (i - 4)).any (fun c => c != 0) = false) (hc : (((b[i]'h).toNat : Int) != 0) = false) : ((b.drop 4).take (i + 1 - 4)).any (fun c => c != 0) = false := by
  rw [show i + 1 - 4 = i - 4 + 1 from by omega, List.take_succ_eq_append_getElem (by simp; omega), List.any_append, hz]
  have e : (b.drop 4)[i - 4]'(by simp; omega) = b[i] := by simp; congr 1; omega
  rw [e]
  rw [Qhn] at hc
  simpa using hc
theorem Qfd {A : Adr} {i : Nat} (h4 : 4 ≤ i) (h : i < A.b.length) (hc : (((A.b[i]'h).toNat : Int) != 0) = true) : Q3p A = false := by
  unfold Q3p
  have : (A.b.drop 4).any (fun c => c != 0) = true := by
    rw [List.any_eq_true]
    refine ⟨A.b[i], ?_, by rw [← Qhn]; exact hc⟩
    rw [List.mem_drop_iff_getElem]
    exact ⟨i - 4, by omega, by congr 1; omega⟩
  rw [this]; simp
theorem Qce {A : Adr} (hA : A.b.length = 16) (hz : ((A.b.drop 4).take (16 - 4)).any (fun c => c != 0) = false) : (!A.six) = Q3p A := by
  unfold Q3p
  rw [List.take_of_length_le (by simp [hA])] at hz
  rw [hz]; simp
def rB12 (H : FourL) : List UInt8 := [69, b8 H.tos, b8 (H.total / 2 ^ 8), b8 H.total, b8 (H.id / 2 ^ 8), b8 H.id, 0, 0, b8 H.ttl, b8 H.proto, 0, 0]
def Q9v (H : FourL) : List UInt8 := [69, b8 H.tos, b8 (H.total / 2 ^ 8), b8 H.total, b8 (H.id / 2 ^ 8), b8 H.id, if H.keep then 64 else 0, 0, b8 H.ttl, b8 H.proto, 0, 0]
theorem Qk7 (H : FourL) : (rB12 H).length = 12 := rfl
theorem Qch (H : FourL) : (Q9v H).length = 12 := rfl
theorem Qcg {H : FourL} (h : H.keep = true) : (rB12 H).set 6 64 = Q9v H := by unfold rB12 Q9v; rw [h]; rfl
theorem Qfe {H : FourL} (h : H.keep = false) : rB12 H = Q9v H := by unfold rB12 Q9v; rw [h]; rfl
theorem rB20 (H : FourL) : Q9v H ++ H.src.b.take 4 ++ H.dst.b.take 4 = Q70 H := by
  unfold Q9v Q70 put2
  rw [show ((2 : Int) ^ 8) = 256 from rfl]
  simp only [List.cons_append, List.nil_append, List.append_assoc]
theorem set2 {l : List UInt8} {k : Nat} {a b : UInt8} (h : k + 2 ≤ l.length) : (l.set k a).set (k + 1) b = l.take k ++ [a, b] ++ l.drop (k + 2) := by
  apply List.ext_getElem?
  intro i
  simp only [List.getElem?_set, List.getElem?_append, List.length_append, List.length_take, List.getElem?_take, List.getElem?_drop, List.length_set, List.length_cons, List.length_nil]
  have hm : min k l.length = k := by omega
  rw [hm]
  by_cases h1 : i < k
  · simp [h1, show i < k + 2 from by omega, show ¬ k = i from by omega, show ¬ k + 1 = i from by omega]
  · by_cases h2 : i = k
    · subst h2; simp [show i < l.length from by omega, show ¬ i + 1 = i from by omega]
    · by_cases h3 : i = k + 1
      · subst h3; simp [show k + 1 < l.length from by omega]; omega
      · simp [show ¬ i < k + 2 from by omega, show ¬ k = i from by omega, show ¬ k + 1 = i from by omega, show k + 2 + (i - (k + 2)) = i from by omega]
theorem Qhx {H : FourL} (hl : (Q70 H).length = 20) (hb : 0 ≤ ck (Q70 H) ∧ ck (Q70 H) ≤ 65535) : ((Q70 H).set 10 (b8 (IntKind.i64.wrap ((ck (Q70 H)).tdiv 256)))).set 11 (b8 ((ck (Q70 H)).tmod 256)) = Q6y H := by
  rw [Q4b hb, Q4c hb.1]
  unfold Q6y cpy put2
  rw [show ((2 : Int) ^ 8) = 256 from rfl]
  rw [set2 (k := 10) (by omega)]
  simp
end Go.Proofs.Ytlmdboaghojgiaa

/- IPv4 headers: what the statements of layer 8 say of them, in plain Lean. -/
namespace Go.Proofs.Ytlmdboaghojgiaa
set_option linter.unusedVariables false
set_option linter.unusedSimpArgs false

def hdr (H : FourL) (f g x y : UInt8) : List UInt8 :=
  69 :: b8 H.tos :: b8 (H.total / 256) :: b8 H.total :: b8 (H.id / 256) :: b8 H.id :: f :: g :: b8 H.ttl :: b8 H.proto :: x :: y :: (H.src.b.take 4 ++ H.dst.b.take 4)
theorem Qit {H : FourL} (hH : Q6q H) (f g x y : UInt8) : (hdr H f g x y).length = 20 := by
  obtain ⟨h1, h2⟩ := hH
  simp [hdr, h1, h2]
def Qkh (H : FourL) : UInt8 := if H.keep then 64 else 0
theorem Qiu (H : FourL) : Q70 H = hdr H (Qkh H) 0 0 0 := by
  unfold Q70 hdr put2 Qkh
  simp only [List.cons_append, List.nil_append, List.append_assoc]
def sumd (H : FourL) (f g : UInt8) : List UInt8 := hdr H f g (b8 (ck (hdr H f g 0 0) / 256)) (b8 (ck (hdr H f g 0 0)))
theorem Qdy {H : FourL} (hH : Q6q H) : Q6y H = sumd H (Qkh H) 0 := by
  unfold Q6y sumd
  rw [Qiu]
  unfold cpy
  have h1 := Qit hH (Qkh H) 0 0 0
  simp [put2, hdr]
theorem Qki {H : FourL} (hH : Q6q H) (f g : UInt8) : (sumd H f g).length = 20 := Qit hH _ _ _ _

theorem Q99 {H : FourL} (hH : Q6q H) : (Q6y H).length = 20 := by rw [Qdy hH]; exact Qki hH _ _
/-! ## Bytes with others turned in; the ends of the laws -/
theorem Qne (x y : UInt8) : b8 (Q8x .u8 (x.toNat : Int) (y.toNat : Int)) = x ^^^ y := by
  have h1 := Q81 x
  have h2 := Q81 y
  rw [Q9g h1 h2]
  apply Qkg
  simp
theorem Qnd (x y : UInt8) : 0 ≤ Q8x .u8 (x.toNat : Int) (y.toNat : Int) ∧ Q8x .u8 (x.toNat : Int) (y.toNat : Int) < 256 := by
  rw [Q9g (Q81 x) (Q81 y)]
  have := (x ^^^ y).toNat_lt
  simp only [UInt8.toNat_xor] at this
  simp only [Int.toNat_natCast]
  omega
end Go.Proofs.Ytlmdboaghojgiaa
