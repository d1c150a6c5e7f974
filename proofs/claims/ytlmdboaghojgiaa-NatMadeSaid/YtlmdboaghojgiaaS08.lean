import Derived.Test.YtlmdboaghojgiaaS06
/- Numbers of two bytes; IPv4 headers, in plain Lean. -/
namespace Go.Proofs.Ytlmdboaghojgiaa
set_option linter.unusedVariables false
set_option linter.unusedSimpArgs false

def be (l : List UInt8) : Int := l.foldl (fun n c => n * 256 + (c.toNat : Int)) 0
theorem Qjd (l : List UInt8) : 0 ≤ be l := by
  unfold be
  have : ∀ (l : List UInt8) (n : Int), 0 ≤ n → 0 ≤ l.foldl (fun n c => n * 256 + (c.toNat : Int)) n := by
    intro l
    induction l with
    | nil => intro n h; exact h
    | cons c l ih => intro n h; exact ih _ (by show 0 ≤ n * 256 + (c.toNat : Int); omega)
  exact this l 0 (by omega)
theorem Qo0 (l : List UInt8) (c : UInt8) : be (l ++ [c]) = be l * 256 + (c.toNat : Int) := by simp [be]
theorem Qrz : ∀ (l : List UInt8), be l < ((256 ^ l.length : Nat) : Int) := by
  have : ∀ (l : List UInt8) (n : Int) (k : Nat), 0 ≤ n → n < ((256 ^ k : Nat) : Int) → l.foldl (fun n c => n * 256 + (c.toNat : Int)) n < ((256 ^ (k + l.length) : Nat) : Int) := by
    intro l
    induction l with
    | nil => intro n k h0 h; simpa using h
    | cons c l ih =>
      intro n k h0 h
      have hc := c.toNat_lt
      have e : ((256 ^ (k + 1) : Nat) : Int) = 256 * ((256 ^ k : Nat) : Int) := by rw [Nat.pow_succ]; omega
      have := ih (n * 256 + (c.toNat : Int)) (k + 1) (by omega) (by omega)
      rw [List.length_cons, show k + (l.length + 1) = k + 1 + l.length from by omega]
      exact this
  intro l
  have := this l 0 0 (by omega) (by simp)
  simpa [be] using this
theorem Qr2 {l : List UInt8} (h : l.length < 8) : be l < 72057594037927936 := by
  have h1 := Qrz l
  have h2 : 256 ^ l.length ≤ 256 ^ 7 := Nat.pow_le_pow_right (by decide) (by omega)
  have h3 : (256 ^ 7 : Nat) = 72057594037927936 := by decide
  omega
theorem Qo1 {l : List UInt8} {j : Nat} (hj : j < l.length) (h8 : l.length ≤ 8) :
    Qgx .u64 (IntKind.u64.wrap (be (l.take j) * 2 ^ 8)) (l[j].toNat : Int) = be (l.take (j + 1)) := by
  have hc := l[j].toNat_lt
  have h0 := Qjd (l.take j)
  have h1 := Qr2 (l := l.take j) (by simp; omega)
  rw [List.take_succ_eq_append_getElem hj, Qo0]
  have e1 : IntKind.u64.wrap (be (l.take j) * 2 ^ 8) = be (l.take j) * 256 := by
    rw [show ((2 : Int) ^ 8) = 256 from rfl]; exact IntWalk.u64_in _ (by omega)
  rw [e1, Qdm 8 (be (l.take j)) (by rfl) h0 (by show _ < (256 : Int); omega) ⟨by omega, by simp [IntKind.max, IntKind.signed, IntKind.bits]; omega⟩ ⟨by omega, by simp [IntKind.max, IntKind.signed, IntKind.bits]; omega⟩]
theorem Qdh {l : List UInt8} {i : Nat} (h : i + 2 ≤ l.length) : be (subl l i (i + 2)) = Q07 l i := by
  have e : subl l i (i + 2) = [l[i]'(by omega), l[i + 1]'(by omega)] := by
    apply List.ext_getElem
    · simp [subl]; omega
    · intro j h1 h2
      simp [subl] at h1
      match j, h1 with
      | 0, _ => simp [subl]
      | 1, _ => simp [subl]
      | j + 2, h => exact absurd h (by omega)
  rw [e]
  unfold Q07
  rw [Q10 (by omega), Q10 (by omega)]
  simp [be]; omega
def put2 (n : Int) : List UInt8 := [b8 (n / 256), b8 n]
theorem Q0d (n : Int) : (put2 n).length = 2 := rfl
def Qeq (n : Int) : Nat → List UInt8
  | 0 => [0, 0]
  | 1 => [b8 n, 0]
  | _ => [b8 n, b8 (n / 256)]
theorem Qje (n : Int) (i : Nat) : (Qeq n i).length = 2 := by unfold Qeq; split <;> rfl
theorem Qjf {n : Int} {i : Nat} (h : i < 2) : (Qeq n i).set i (b8 (n / 2 ^ (8 * i))) = Qeq n (i + 1) := by
  match i, h with
  | 0, _ => simp [Qeq]
  | 1, _ => simp [Qeq]
/-! ## IPv4 -/
structure FourL where
  head : Int
  total : Int
  tos : Int
  id : Int
  frag : Bool
  keep : Bool
  ttl : Int
  proto : Int
  src : Adr
  dst : Adr
def Qbu (H : FourL) : List (List Value) := [[.int .i64 H.head], [.int .i64 H.total], [.int .i64 H.tos], [.int .i64 H.id], [.bool H.frag], [.bool H.keep], [.int .i64 H.ttl], [.int .i64 H.proto], Q0l H.src, Q0l H.dst]
def Qjg (H : FourL) : Value := .agg (Qbu H).flatten.toArray
def Q63 : FourL := ⟨0, 0, 0, 0, false, false, 0, 0, adr0, adr0⟩
def Q3b (H : FourL) : Prop := H.src.b.length = 16 ∧ H.dst.b.length = 16
theorem Q3e : Q3b Q63 := ⟨rfl, rfl⟩
def adr4 (l : List UInt8) (i : Nat) : Adr := ⟨false, (l.drop i).take 4 ++ List.replicate 12 0⟩
theorem Q6u {l : List UInt8} {i : Nat} (h : i + 4 ≤ l.length) : (adr4 l i).b.length = 16 := by simp [adr4]; omega
theorem Q8x {A : Adr} (h : A.b.length = 16) : (Q0l A).length = 17 := by simp [Q0l, h]
def Q0q (l : List UInt8) : FourL × Int :=
  if l.length < 20 then (Q63, 2)
  else if Q09 l 0 / 16 ≠ 4 ∨ Q09 l 0 % 16 * 4 < 20 then (Q63, 3)
  else if Q09 l 0 % 16 * 4 > (l.length : Int) then (Q63, 2)
  else if Q07 l 2 < Q09 l 0 % 16 * 4 then (Q63, 3)
  else if Q07 l 2 > (l.length : Int) then (Q63, 2)
  else if ck (l.take (Q09 l 0 % 16 * 4).toNat) ≠ 0 then (Q63, 8)
  else (⟨Q09 l 0 % 16 * 4, Q07 l 2, Q09 l 1, Q07 l 4, decide (Q07 l 6 % 16384 ≠ 0), decide (Q07 l 6 / 16384 % 2 = 1), Q09 l 8, Q09 l 9, adr4 l 12, adr4 l 16⟩, 0)
theorem Q5r (l : List UInt8) : Q3b (Q0q l).1 := by
  unfold Q0q
  split; exact Q3e
  split; exact Q3e
  split; exact Q3e
  split; exact Q3e
  split; exact Q3e
  split; exact Q3e
  exact ⟨Q6u (by omega), Q6u (by omega)⟩
def Q5d (H : FourL) : List (List Value) := [[.int .i64 H.head], [.int .i64 H.total], [.int .i64 H.tos], [.int .i64 H.id], [.bool H.frag], [.bool H.keep], [.int .i64 H.ttl], [.int .i64 H.proto], [.bool H.src.six], H.src.b.map Q0t, [.bool H.dst.six], H.dst.b.map Q0t]
theorem Qa7 {H : FourL} (h : Q3b H) : (Q5d H).map List.length = [1, 1, 1, 1, 1, 1, 1, 1, 1, 16, 1, 16] := by
  obtain ⟨h1, h2⟩ := h
  simp [Q5d, h1, h2]
theorem Q1o (A : Adr) : Value.agg ([[Value.bool A.six], A.b.map Q0t].flatten).toArray = AdrV A := by simp [AdrV, Q0l]
theorem Q51 {H : FourL} : ∀ u ∈ (Qbu H).flatten, u.oneCell' = true := by
  intro u hu
  simp only [Qbu, Q0l, List.flatten_cons, List.flatten_nil, List.mem_append, List.mem_cons, List.mem_map, List.not_mem_nil, or_false] at hu
  rcases hu with h | h | h | h | h | h | h | h | (h | ⟨c, _, h⟩) | (h | ⟨c, _, h⟩) <;> subst h <;> rfl
theorem Q5t {H : FourL} (h : Q3b H) : (Qbu H).flatten.length = 42 := by
  obtain ⟨h1, h2⟩ := h
  simp [Qbu, Q0l, h1, h2]
theorem Qjh (c : UInt8) : ((c.toNat : Int) != 0) = (c != 0) := by
  rw [Bool.eq_iff_iff]; simp [← UInt8.toNat_inj]
def ixf (pr : UInt8 → Bool) (l : List UInt8) : Int := match l.findIdx? pr with
  | some i => (i : Int)
  | none => -1
theorem Qg9 {pr : UInt8 → Bool} {l : List UInt8} {i : Nat} (hi : i < l.length) (h1 : (l.take i).any pr = false) (h2 : pr l[i] = true) : ixf pr l = (i : Int) := by
  unfold ixf
  have : l.findIdx? pr = some i := by
    rw [List.findIdx?_eq_some_iff_getElem]
    refine ⟨hi, h2, fun j hj => ?_⟩
    rw [List.any_eq_false] at h1
    have := h1 l[j] (by rw [List.mem_take_iff_getElem]; exact ⟨j, by omega, rfl⟩)
    simpa using this
  rw [this]
theorem Qc7 {pr : UInt8 → Bool} {l : List UInt8} (h : l.any pr = false) : ixf pr l = -1 := by
  unfold ixf
  have : l.findIdx? pr = none := by
    rw [List.findIdx?_eq_none_iff]
    rw [List.any_eq_false] at h
    intro x hx; simpa using h x hx
  rw [this]
theorem Qr3 (pr : UInt8 → Bool) (l : List UInt8) : decide (ixf pr l ≥ 0) = l.any pr := by
  cases h : l.any pr with
  | false => rw [Qc7 h]; rfl
  | true =>
    unfold ixf
    cases hf : l.findIdx? pr with
    | none =>
      rw [List.findIdx?_eq_none_iff] at hf
      rw [List.any_eq_true] at h
      obtain ⟨x, hx, hp⟩ := h
      rw [hf x hx] at hp; cases hp
    | some i => simp
theorem Qlf {pr : UInt8 → Bool} {l : List UInt8} {i : Nat} (hi : i < l.length) (h1 : (l.take i).any pr = false) (h2 : pr l[i] = false) : (l.take (i + 1)).any pr = false := by
  rw [List.take_succ_eq_append_getElem hi, List.any_append, h1]; simp [h2]
def Q2j (A : Adr) : Bool := !A.six && !(A.b.drop 4).any fun c => c != 0
def inB (n m : Int) : Bool := decide (0 ≤ n) && decide (n ≤ m)
def Q46 (H : FourL) : Bool :=
  decide (H.head = 20) && decide (20 ≤ H.total) && decide (H.total ≤ 65535) && inB H.tos 255 && inB H.ttl 255 && inB H.proto 255 && inB H.id 65535 && !H.frag && Q2j H.src && Q2j H.dst
def Q78 (H : FourL) : List UInt8 :=
  [69, b8 H.tos] ++ put2 H.total ++ put2 H.id ++ [if H.keep then 64 else 0, 0] ++ [b8 H.ttl, b8 H.proto] ++ [0, 0] ++ H.src.b.take 4 ++ H.dst.b.take 4
def Q4k (H : FourL) : List UInt8 := cpy (Q78 H) 10 10 (put2 (ck (Q78 H)))

theorem Qji {l : List UInt8} {x : Nat} (e : (x : Int) = Q09 l 0) (h : ((x : Int) / 2 ^ 4 != 4) = true) : ((x : Int) / 2 ^ 4 != 4) = decide (Q09 l 0 / 16 ≠ 4 ∨ Q09 l 0 % 16 * 4 < 20) := by
  have h' : (x : Int) / 2 ^ 4 ≠ 4 := by simpa using h
  rw [h]
  symm
  rw [decide_eq_true_eq]
  exact .inl (by rw [← e]; exact h')
theorem Qjj {l : List UInt8} {x : Nat} (e : (x : Int) = Q09 l 0) (h : ((x : Int) / 2 ^ 4 != 4) = false) : decide (Q09 l 0 % 16 * 4 < 20) = decide (Q09 l 0 / 16 ≠ 4 ∨ Q09 l 0 % 16 * 4 < 20) := by
  have h' : (x : Int) / 2 ^ 4 = 4 := by simpa using h
  have h2 : Q09 l 0 / 16 = 4 := by rw [← e]; exact h'
  simp [h2]
def Q9v (l : List UInt8) : FourL := ⟨Q09 l 0 % 16 * 4, Q07 l 2, Q09 l 1, Q07 l 4, decide (Q07 l 6 % 16384 ≠ 0), decide (Q07 l 6 / 16384 % 2 = 1), Q09 l 8, Q09 l 9, adr4 l 12, adr4 l 16⟩
theorem Q30 {l : List UInt8} (hl : ¬ l.length < 20) (hv : ¬ (Q09 l 0 / 16 ≠ 4 ∨ Q09 l 0 % 16 * 4 < 20)) (hh : ¬ Q09 l 0 % 16 * 4 > (l.length : Int)) (ht : ¬ Q07 l 2 < Q09 l 0 % 16 * 4) (hu : ¬ Q07 l 2 > (l.length : Int)) (hs : ¬ ck (l.take (Q09 l 0 % 16 * 4).toNat) ≠ 0) :
    Q0q l = (Q9v l, 0) := by
  unfold Q0q
  rw [if_neg hl, if_neg hv, if_neg hh, if_neg ht, if_neg hu, if_neg hs]; rfl
theorem Qs0 {n : Int} (h : 0 ≤ n ∧ n ≤ 65535) : (Q7i .i64 n 16384 != 0) = decide (n / 16384 % 2 = 1) := by
  rw [Qa8 ⟨h.1, by simp [IntKind.max, IntKind.signed, IntKind.bits]; omega⟩ ⟨by decide, by decide⟩]
  obtain ⟨m, rfl⟩ := Int.eq_ofNat_of_zero_le h.1
  have e : ((m : Int).toNat &&& (16384 : Int).toNat) = m / 16384 % 2 * 16384 := by
    rw [Int.toNat_natCast]
    show m &&& 16384 = _
    apply Nat.eq_of_testBit_eq
    intro i
    rw [show (16384 : Nat) = 2 ^ 14 from rfl, Nat.testBit_and, Nat.testBit_two_pow]
    by_cases hi : 14 = i
    · subst hi
      rw [Nat.testBit_eq_decide_div_mod_eq]
      rcases Nat.mod_two_eq_zero_or_one (m / 2 ^ 14) with h | h <;> rw [h] <;> decide
    · rcases Nat.mod_two_eq_zero_or_one (m / 2 ^ 14) with h | h <;> rw [h]
      · simp [hi]
      · rw [Nat.one_mul, Nat.testBit_two_pow]; simp [hi]
  rw [e, Bool.eq_iff_iff]
  simp
  omega
theorem Qhb {l : List UInt8} {x1 x8 x9 : Nat} {a d : Adr} (e1 : (x1 : Int) = Q09 l 1) (e8 : (x8 : Int) = Q09 l 8) (e9 : (x9 : Int) = Q09 l 9) (w6 : 0 ≤ Q07 l 6 ∧ Q07 l 6 ≤ 65535) :
    Value.agg ([[Value.int .i64 (Q09 l 0 % 16 * 4)], [.int .i64 (Q07 l 2)], [.int .i64 (x1 : Int)], [.int .i64 (Q07 l 4)], [.bool (Q07 l 6 % 16384 != 0)], [.bool (Q7i .i64 (Q07 l 6) 16384 != 0)], [.int .i64 (x8 : Int)], [.int .i64 (x9 : Int)], Q0l a, Q0l d].flatten).toArray =
      Qjg ⟨Q09 l 0 % 16 * 4, Q07 l 2, Q09 l 1, Q07 l 4, decide (Q07 l 6 % 16384 ≠ 0), decide (Q07 l 6 / 16384 % 2 = 1), Q09 l 8, Q09 l 9, a, d⟩ := by
  rw [e1, e8, e9, Qs0 w6]
  have : (Q07 l 6 % 16384 != 0) = decide (Q07 l 6 % 16384 ≠ 0) := by rw [Bool.eq_iff_iff]; simp
  rw [this]; rfl

/-! ### laid -/
theorem Q6h {H : FourL} (h : Q46 H = true) : H.head = 20 ∧ (20 ≤ H.total ∧ H.total ≤ 65535) ∧ (0 ≤ H.tos ∧ H.tos ≤ 255) ∧ (0 ≤ H.ttl ∧ H.ttl ≤ 255) ∧ (0 ≤ H.proto ∧ H.proto ≤ 255) ∧ (0 ≤ H.id ∧ H.id ≤ 65535) ∧ H.frag = false ∧ Q2j H.src = true ∧ Q2j H.dst = true := by
  unfold Q46 inB at h
  simp only [Bool.and_eq_true, decide_eq_true_eq, Bool.not_eq_true'] at h
  obtain ⟨⟨⟨⟨⟨⟨⟨⟨⟨h1, h2⟩, h3⟩, h4⟩, h5⟩, h6⟩, h7⟩, h8⟩, h9⟩, h10⟩ := h
  exact ⟨h1, ⟨h2, h3⟩, h4, h5, h6, h7, h8, h9, h10⟩
theorem Qjk {H : FourL} (hH : Q3b H) : (Q78 H).length = 20 := by
  obtain ⟨h1, h2⟩ := hH
  simp [Q78, put2, h1, h2]

/-! ### the reference -/
theorem Qlg {x k : Nat} (hx : x ≤ 255) : IntKind.u8.wrap ((x : Int).tdiv (k : Int)) = (x : Int) / (k : Int) := by
  rw [Int.tdiv_eq_ediv_of_nonneg (by omega)]
  apply IntWalk.u8_in
  constructor
  · exact Int.ediv_nonneg (by omega) (by omega)
  · have : (x : Int) / (k : Int) ≤ x := Int.ediv_le_self _ (by omega)
    omega
theorem Qhc {b : List UInt8} {i : Nat} (h4 : 4 ≤ i) (h : i < b.length) (hz : ((b.drop 4).take (i - 4)).any (fun c => c != 0) = false) (hc : (((b[i]'h).toNat : Int) != 0) = false) : ((b.drop 4).take (i + 1 - 4)).any (fun c => c != 0) = false := by
  rw [show i + 1 - 4 = i - 4 + 1 from by omega, List.take_succ_eq_append_getElem (by simp; omega), List.any_append, hz]
  have e : (b.drop 4)[i - 4]'(by simp; omega) = b[i] := by simp; congr 1; omega
  rw [e]
  rw [Qjh] at hc
  simpa using hc
theorem Qga {A : Adr} {i : Nat} (h4 : 4 ≤ i) (h : i < A.b.length) (hc : (((A.b[i]'h).toNat : Int) != 0) = true) : Q2j A = false := by
  unfold Q2j
  have : (A.b.drop 4).any (fun c => c != 0) = true := by
    rw [List.any_eq_true]
    refine ⟨A.b[i], ?_, by rw [← Qjh]; exact hc⟩
    rw [List.mem_drop_iff_getElem]
    exact ⟨i - 4, by omega, by congr 1; omega⟩
  rw [this]; simp
theorem Qdn {A : Adr} (hA : A.b.length = 16) (hz : ((A.b.drop 4).take (16 - 4)).any (fun c => c != 0) = false) : (!A.six) = Q2j A := by
  unfold Q2j
  rw [List.take_of_length_le (by simp [hA])] at hz
  rw [hz]; simp
def rB12 (H : FourL) : List UInt8 := [69, b8 H.tos, b8 (H.total / 2 ^ 8), b8 H.total, b8 (H.id / 2 ^ 8), b8 H.id, 0, 0, b8 H.ttl, b8 H.proto, 0, 0]
def Qaz (H : FourL) : List UInt8 := [69, b8 H.tos, b8 (H.total / 2 ^ 8), b8 H.total, b8 (H.id / 2 ^ 8), b8 H.id, if H.keep then 64 else 0, 0, b8 H.ttl, b8 H.proto, 0, 0]
theorem Qlh (H : FourL) : (rB12 H).length = 12 := rfl
theorem Qdo (H : FourL) : (Qaz H).length = 12 := rfl
theorem Qdp {H : FourL} (h : H.keep = true) : (rB12 H).set 6 64 = Qaz H := by unfold rB12 Qaz; rw [h]; rfl
theorem Qgb {H : FourL} (h : H.keep = false) : rB12 H = Qaz H := by unfold rB12 Qaz; rw [h]; rfl
theorem rB20 (H : FourL) : Qaz H ++ H.src.b.take 4 ++ H.dst.b.take 4 = Q78 H := by
  unfold Qaz Q78 put2
  rw [show ((2 : Int) ^ 8) = 256 from rfl]
  simp only [List.cons_append, List.nil_append, List.append_assoc]
theorem set2 {l : List UInt8} {k : Nat} {a b : UInt8} (h : k + 2 ≤ l.length) : (l.set k a).set (k + 1) b = l.take k ++ [a, b] ++ l.drop (k + 2) := by
  apply List.ext_getElem?
  intro i
  simp only [List.getElem?_set, List.getElem?_append, List.length_append, List.length_take, List.getElem?_take, List.getElem?_drop, List.length_set, List.length_cons, List.length_nil]
  have hm : min k l.length = k := by omega
  rw [hm]
  by_cases h1 : i < k
  · simp [h1, show i < k + 2 from by omega, show ¬ k = i from by omega, show ¬ k + 1 = i from by omega]
  · by_cases h2 : i = k
    · subst h2; simp [show i < l.length from by omega, show ¬ i + 1 = i from by omega]
    · by_cases h3 : i = k + 1
      · subst h3; simp [show k + 1 < l.length from by omega]; omega
      · simp [show ¬ i < k + 2 from by omega, show ¬ k = i from by omega, show ¬ k + 1 = i from by omega, show k + 2 + (i - (k + 2)) = i from by omega]
theorem Qjl {H : FourL} (hl : (Q78 H).length = 20) (hb : 0 ≤ ck (Q78 H) ∧ ck (Q78 H) ≤ 65535) : ((Q78 H).set 10 (b8 (IntKind.i64.wrap ((ck (Q78 H)).tdiv 256)))).set 11 (b8 ((ck (Q78 H)).tmod 256)) = Q4k H := by
  rw [Q52 hb, Q53 hb.1]
  unfold Q4k cpy put2
  rw [show ((2 : Int) ^ 8) = 256 from rfl]
  rw [set2 (k := 10) (by omega)]
  simp
end Go.Proofs.Ytlmdboaghojgiaa

/- IPv4 headers: what the statements of layer 8 say of them, in plain Lean. -/
namespace Go.Proofs.Ytlmdboaghojgiaa
set_option linter.unusedVariables false
set_option linter.unusedSimpArgs false

theorem Qo2 {p q : List UInt8} (hp : p.length % 2 = 0) : ck (p ++ put2 (ck (p ++ [0, 0] ++ q)) ++ q) = 0 := by
  have hb := Qdq (p ++ [0, 0] ++ q)
  have e0 : wsum (p ++ [0, 0] ++ q) = wsum p + wsum q := by rw [List.append_assoc, Q2m p hp]; simp [wsum]
  have n1 := Q2h p
  have n2 := Q2h q
  have e1 : wsum (p ++ put2 (ck (p ++ [0, 0] ++ q)) ++ q) = wsum p + wsum q + ck (p ++ [0, 0] ++ q) := by
    rw [List.append_assoc, Q2m p hp]
    simp only [put2, List.cons_append, List.nil_append, wsum, Q1n]
    omega
  unfold ck at e1 hb ⊢
  rw [e1, e0]
  unfold norm
  split <;> split <;> omega

def hdr (H : FourL) (f g x y : UInt8) : List UInt8 :=
  69 :: b8 H.tos :: b8 (H.total / 256) :: b8 H.total :: b8 (H.id / 256) :: b8 H.id :: f :: g :: b8 H.ttl :: b8 H.proto :: x :: y :: (H.src.b.take 4 ++ H.dst.b.take 4)
theorem Qer {H : FourL} (hH : Q3b H) (f g x y : UInt8) : (hdr H f g x y).length = 20 := by
  obtain ⟨h1, h2⟩ := hH
  simp [hdr, h1, h2]
def Qdr (H : FourL) : UInt8 := if H.keep then 64 else 0
theorem Qjm (H : FourL) : Q78 H = hdr H (Qdr H) 0 0 0 := by
  unfold Q78 hdr put2 Qdr
  simp only [List.cons_append, List.nil_append, List.append_assoc]
def sumd (H : FourL) (f g : UInt8) : List UInt8 := hdr H f g (b8 (ck (hdr H f g 0 0) / 256)) (b8 (ck (hdr H f g 0 0)))
theorem Q4n {H : FourL} (hH : Q3b H) : Q4k H = sumd H (Qdr H) 0 := by
  unfold Q4k sumd
  rw [Qjm]
  unfold cpy
  have h1 := Qer hH (Qdr H) 0 0 0
  simp [put2, hdr]
theorem Qo3 {H : FourL} (f g : UInt8) : ck (sumd H f g) = 0 := by
  have := Qo2 (p := [69, b8 H.tos, b8 (H.total / 256), b8 H.total, b8 (H.id / 256), b8 H.id, f, g, b8 H.ttl, b8 H.proto]) (q := H.src.b.take 4 ++ H.dst.b.take 4) (by simp)
  exact this
theorem Qgc {H : FourL} (hH : Q3b H) (f g : UInt8) : (sumd H f g).length = 20 := Qer hH _ _ _ _

theorem Qc8 {l : List UInt8} {T : Int} (hl : 20 ≤ l.length) (h0 : Q09 l 0 = 69) (hT : Q07 l 2 = T) (h1 : 20 ≤ T) (h2 : T ≤ (l.length : Int)) (hck : ck (l.take 20) = 0) : Q0q l = (Q9v l, 0) := by
  refine Q30 (by omega) (by omega) (by omega) (by omega) (by omega) ?_
  rw [h0]
  simpa using hck
theorem Q8j {A : Adr} (hA : A.b.length = 16) (h : Q2j A = true) : A = ⟨false, A.b.take 4 ++ List.replicate 12 0⟩ := by
  obtain ⟨six, b⟩ := A
  unfold Q2j at h
  simp only [Bool.and_eq_true, Bool.not_eq_true'] at h
  obtain ⟨h1, h2⟩ := h
  simp only at h1 hA
  subst h1
  congr 1
  have e : b.drop 4 = List.replicate 12 0 := by
    apply List.ext_getElem
    · simp [hA]
    · intro i h3 h4
      rw [List.any_eq_false] at h2
      have := h2 _ (List.getElem_mem h3)
      rw [List.getElem_replicate]
      simpa using this
  rw [← e, List.take_append_drop]
theorem Qo4 {H : FourL} (hH : Q3b H) {f g x y : UInt8} {r : List UInt8} (hs : Q2j H.src = true) : adr4 (hdr H f g x y ++ r) 12 = H.src := by
  rw [Q8j hH.1 hs]
  unfold adr4
  have h1 : (H.src.b.take 4).length = 4 := by simp [hH.1]
  have : ((hdr H f g x y ++ r).drop 12).take 4 = H.src.b.take 4 := by
    show ((H.src.b.take 4 ++ H.dst.b.take 4 ++ r)).take 4 = _
    rw [List.append_assoc, List.take_append_of_le_length (by omega), List.take_of_length_le (by omega)]
  rw [this]
theorem Qo5 {H : FourL} (hH : Q3b H) {f g x y : UInt8} {r : List UInt8} (hs : Q2j H.dst = true) : adr4 (hdr H f g x y ++ r) 16 = H.dst := by
  rw [Q8j hH.2 hs]
  unfold adr4
  have h1 : (H.src.b.take 4).length = 4 := by simp [hH.1]
  have h2 : (H.dst.b.take 4).length = 4 := by simp [hH.2]
  have : ((hdr H f g x y ++ r).drop 16).take 4 = H.dst.b.take 4 := by
    show ((H.src.b.take 4 ++ H.dst.b.take 4 ++ r).drop 4).take 4 = _
    have e : (H.src.b.take 4 ++ H.dst.b.take 4 ++ r).drop 4 = H.dst.b.take 4 ++ r := by
      rw [List.append_assoc, List.drop_append_of_le_length (by omega), List.drop_of_length_le (by omega), List.nil_append]
    rw [e, List.take_append_of_le_length (by omega), List.take_of_length_le (by omega)]
  rw [this]
def Qc9 (H : FourL) (f g : UInt8) : FourL := { H with head := 20, frag := decide ((256 * (f.toNat : Int) + (g.toNat : Int)) % 16384 ≠ 0), keep := decide ((256 * (f.toNat : Int) + (g.toNat : Int)) / 16384 % 2 = 1) }
theorem Qjn {H : FourL} (hH : Q3b H) (hr : Q46 H = true) {f g : UInt8} {r : List UInt8} (hl : H.total ≤ 20 + (r.length : Int)) : Q0q (sumd H f g ++ r) = (Qc9 H f g, 0) := by
  obtain ⟨k1, k2, k3, k4, k5, k6, _, k8, k9⟩ := Q6h hr
  have hlen := Qgc hH f g
  have hck := Qo3 (H := H) f g
  have e2 : Q07 (sumd H f g ++ r) 2 = H.total := by
    show 256 * ((b8 (H.total / 256)).toNat : Int) + ((b8 H.total).toNat : Int) = _
    rw [Q1n, Q1n]; omega
  rw [Qc8 (T := H.total) (by simp; omega) rfl e2 k2.1 (by simp only [List.length_append, hlen]; omega) (by rw [List.take_append_of_le_length (by omega), List.take_of_length_le (by omega)]; exact hck)]
  have e1 : Q09 (sumd H f g ++ r) 1 = H.tos := by show ((b8 H.tos).toNat : Int) = _; rw [Q1n]; omega
  have e4 : Q07 (sumd H f g ++ r) 4 = H.id := by
    show 256 * ((b8 (H.id / 256)).toNat : Int) + ((b8 H.id).toNat : Int) = _
    rw [Q1n, Q1n]; omega
  have e6 : Q07 (sumd H f g ++ r) 6 = 256 * (f.toNat : Int) + (g.toNat : Int) := rfl
  have e8 : Q09 (sumd H f g ++ r) 8 = H.ttl := by show ((b8 H.ttl).toNat : Int) = _; rw [Q1n]; omega
  have e9 : Q09 (sumd H f g ++ r) 9 = H.proto := by show ((b8 H.proto).toNat : Int) = _; rw [Q1n]; omega
  have e0 : Q09 (sumd H f g ++ r) 0 = 69 := rfl
  unfold Q9v Qc9
  rw [e0, e1, e2, e4, e6, e8, e9]
  unfold sumd
  rw [Qo4 hH k8, Qo5 hH k9]
  rfl
theorem Qds {H : FourL} (hr : Q46 H = true) : Qc9 H (Qdr H) 0 = H := by
  obtain ⟨k1, _, _, _, _, _, k7, _⟩ := Q6h hr
  obtain ⟨head, total, tos, id, frag, keep, ttl, proto, src, dst⟩ := H
  simp only at k1 k7
  subst k1
  subst k7
  unfold Qc9 Qdr
  cases keep <;> simp
theorem Qj5 {H : FourL} (hH : Q3b H) (hr : Q46 H = true) {r : List UInt8} (hl : H.total ≤ 20 + (r.length : Int)) : Q0q (Q4k H ++ r) = (H, 0) := by
  rw [Q4n hH, Qjn hH hr hl, Qds hr]
theorem Qa3 {H : FourL} (hH : Q3b H) : (Q4k H).length = 20 := by rw [Q4n hH]; exact Qgc hH _ _
theorem Q4o {l : List UInt8} {i k : Nat} (h : i < k) : Q09 (l.take k) i = Q09 l i := by
  unfold Q09
  simp only [List.getD_eq_getElem?_getD, List.getElem?_take, if_pos h]
/-! ## Bytes with others turned in; the ends of the laws -/
end Go.Proofs.Ytlmdboaghojgiaa
