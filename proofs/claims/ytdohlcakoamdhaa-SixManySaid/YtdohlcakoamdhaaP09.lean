/- Extensions of IPv6, in plain Lean: laid in a row, they are gone through. -/
import Derived.Test.YtdohlcakoamdhaaS09
namespace Go.Proofs.Ytdohlcakoamdhaa

structure ExtL where
  kind : UInt8
  long : UInt8
  part : Int
def kindsL : List Int := [0, 43, 60, 51, 44]
def ixE (x : ExtL) : Nat := x.kind.toNat % 5
def kindE (x : ExtL) : Int := kindsL.getD (ixE x) 0
theorem kindE_cases (x : ExtL) : kindE x = 0 ∨ kindE x = 43 ∨ kindE x = 60 ∨ kindE x = 51 ∨ kindE x = 44 := by
  unfold kindE ixE
  have : x.kind.toNat % 5 < 5 := Nat.mod_lt _ (by decide)
  generalize x.kind.toNat % 5 = i at this
  match i, this with
  | 0, _ => exact .inl rfl
  | 1, _ => exact .inr (.inl rfl)
  | 2, _ => exact .inr (.inr (.inl rfl))
  | 3, _ => exact .inr (.inr (.inr (.inl rfl)))
  | 4, _ => exact .inr (.inr (.inr (.inr rfl)))
theorem kindE_bd (x : ExtL) : 0 ≤ kindE x ∧ kindE x ≤ 255 := by have := kindE_cases x; omega
theorem kindE_ext (x : ExtL) : extB (kindE x) = true := by
  rcases kindE_cases x with h | h | h | h | h <;> rw [h] <;> rfl
def unitE (x : ExtL) : Nat := x.long.toNat % 3
def lenE (x : ExtL) : Nat := if kindE x = 51 then 8 + 4 * unitE x else if kindE x = 44 then 8 else 8 + 8 * unitE x
theorem lenE_bd (x : ExtL) : 8 ≤ lenE x ∧ lenE x ≤ 24 := by
  have : unitE x < 3 := Nat.mod_lt _ (by decide)
  unfold lenE; split
  · omega
  · split <;> omega
/-- One extension's bytes: of what kind the next is, its own length, a fragment's place. -/
def bytesE (first : Int) (x : ExtL) : List UInt8 :=
  if kindE x = 44 then [b8 first, 0, b8 (x.part / 256), b8 x.part] ++ List.replicate (lenE x - 4) 0
  else [b8 first, UInt8.ofNat (unitE x)] ++ List.replicate (lenE x - 2) 0
theorem bytesE_len (first : Int) (x : ExtL) : (bytesE first x).length = lenE x := by
  have := lenE_bd x
  unfold bytesE; split <;> simp <;> omega
def laidE : List ExtL → Int → Int × List UInt8
  | [], p => (p, [])
  | x :: l, p => (kindE x, bytesE (laidE l p).1 x ++ (laidE l p).2)
def lensE (l : List ExtL) : Nat := (l.map lenE).sum
theorem laidE_len (l : List ExtL) (p : Int) : (laidE l p).2.length = lensE l := by
  induction l with
  | nil => rfl
  | cons x l ih => simp only [laidE, List.length_append, bytesE_len, ih, lensE, List.map_cons, List.sum_cons]
theorem lensE_bd (l : List ExtL) : 8 * l.length ≤ lensE l ∧ lensE l ≤ 24 * l.length := by
  induction l with
  | nil => simp [lensE]
  | cons x l ih =>
    have := lenE_bd x
    simp only [lensE, List.map_cons, List.sum_cons, List.length_cons] at ih ⊢
    omega
theorem laidE_fst {l : List ExtL} {p : Int} (hp : 0 ≤ p ∧ p ≤ 255) : 0 ≤ (laidE l p).1 ∧ (laidE l p).1 ≤ 255 := by
  cases l with
  | nil => exact hp
  | cons x l => exact kindE_bd x
theorem laidE_app (l r : List ExtL) (p : Int) : laidE (l ++ r) p = ((laidE l (laidE r p).1).1, (laidE l (laidE r p).1).2 ++ (laidE r p).2) := by
  induction l with
  | nil => rfl
  | cons x l ih => simp [laidE, ih]
/-- What is read at an extension's begin. -/
theorem bytesE_0 {f : Int} (x : ExtL) (r : List UInt8) (hf : 0 ≤ f ∧ f ≤ 255) : byteAt (bytesE f x ++ r) 0 = f := by
  have := b8_toNat f
  unfold byteAt bytesE
  split <;> simp <;> omega
theorem bytesE_1 (f : Int) (x : ExtL) (r : List UInt8) : byteAt (bytesE f x ++ r) 1 = if kindE x = 44 then 0 else (unitE x : Int) := by
  have h3 : unitE x < 3 := Nat.mod_lt _ (by decide)
  unfold byteAt bytesE
  split
  · simp
  · simp; omega
theorem bytesE_2 {f : Int} (x : ExtL) (r : List UInt8) (hp : 0 ≤ x.part ∧ x.part ≤ 65535) (h : kindE x = 44) : wordAt (bytesE f x ++ r) 2 = x.part := by
  have h1 := b8_toNat x.part
  have h2 := b8_toNat (x.part / 256)
  unfold wordAt byteAt bytesE
  rw [if_pos h]
  simp
  omega
theorem sizeE_of (f : Int) (x : ExtL) (r : List UInt8) : sizeE (kindE x) (byteAt (bytesE f x ++ r) 1) = (lenE x : Int) := by
  rw [bytesE_1]
  unfold sizeE lenE
  rcases kindE_cases x with h | h | h | h | h <;> rw [h] <;> simp <;> omega
section
variable {H : SixL} {f p h : Int} {k : Nat}
/-- One step over an extension. -/
theorem go_step {x : ExtL} {r : List UInt8} (hf : 0 ≤ f ∧ f ≤ 255) : sixGo H (k + 1) (bytesE f x ++ r) h false (kindE x) = sixGo H k r (h + (lenE x : Int)) (kindE x == 44 && partB (bytesE f x ++ r)) f := by
  have hl := bytesE_len f x
  have hb := lenE_bd x
  have e1 := sizeE_of f x r
  rw [sixGo_step (by rw [kindE_ext]; rfl) (by rw [e1]; simp; omega), e1, bytesE_0 x r hf]
  congr 1
  rw [Int.toNat_natCast, List.drop_append_of_le_length (by omega), List.drop_of_length_le (by omega), List.nil_append]
def noFrag (l : List ExtL) : Prop := ∀ x ∈ l, 0 ≤ x.part ∧ x.part ≤ 65535 ∧ x.part / 8 = 0 ∧ x.part % 2 = 0
theorem noFrag_part {x : ExtL} {r : List UInt8} (hx : 0 ≤ x.part ∧ x.part ≤ 65535 ∧ x.part / 8 = 0 ∧ x.part % 2 = 0) : (kindE x == 44 && partB (bytesE f x ++ r)) = false := by
  by_cases h : kindE x = 44
  · rw [h]
    unfold partB
    rw [bytesE_2 x r ⟨hx.1, hx.2.1⟩ h]
    simp [hx.2.2.1, hx.2.2.2]
  · simp [h]
theorem go_all : ∀ {l : List ExtL} {k : Nat} {h : Int} {r : List UInt8}, noFrag l → 0 ≤ p ∧ p ≤ 255 →
    sixGo H (k + l.length) ((laidE l p).2 ++ r) h false (laidE l p).1 = sixGo H k r (h + (lensE l : Int)) false p
  | [], k, h, r, _, _ => by simp [laidE, lensE]
  | x :: l, k, h, r, hn, hp => by
    have hx := hn x (by simp)
    show sixGo H (k + l.length + 1) ((bytesE (laidE l p).1 x ++ (laidE l p).2) ++ r) h false (kindE x) = _
    rw [List.append_assoc, go_step (laidE_fst hp), noFrag_part hx, go_all (fun y hy => hn y (by simp [hy])) hp]
    congr 1
    simp only [lensE, List.map_cons, List.sum_cons]
    omega
/-- .. cut off within the last of them. -/
theorem go_cut1 {x : ExtL} {k c : Nat} {h : Int} (h1 : 1 ≤ c) (h8 : c ≤ 8) : sixGo H (k + 1) ((bytesE p x).take (lenE x - c)) h false (kindE x) = (six0, 2) := by
  have hl := bytesE_len p x
  have hb := lenE_bd x
  have hl2 : ((bytesE p x).take (lenE x - c)).length = lenE x - c := by rw [List.length_take]; omega
  refine sixGo_end (by rw [kindE_ext]; rfl) ?_
  rw [hl2]
  by_cases h9 : lenE x - c < 8
  · exact .inl (by omega)
  · refine .inr ?_
    have e1 : byteAt ((bytesE p x).take (lenE x - c)) 1 = byteAt (bytesE p x ++ []) 1 := by
      rw [List.append_nil]; unfold byteAt
      rw [List.getD_eq_getElem?_getD, List.getD_eq_getElem?_getD, List.getElem?_take_of_lt (by omega)]
    rw [e1, sizeE_of]
    omega
theorem laidE_cons (x : ExtL) (l : List ExtL) (p : Int) : laidE (x :: l) p = (kindE x, bytesE (laidE l p).1 x ++ (laidE l p).2) := rfl
theorem lensE_cons (x : ExtL) (l : List ExtL) : lensE (x :: l) = lenE x + lensE l := by simp [lensE]
theorem go_cut {c : Nat} (h1 : 1 ≤ c) (h8 : c ≤ 8) (hp : 0 ≤ p ∧ p ≤ 255) : ∀ (l : List ExtL) (k : Nat) (h : Int), noFrag l → l ≠ [] →
    sixGo H (k + l.length) ((laidE l p).2.take (lensE l - c)) h false (laidE l p).1 = (six0, 2) := by
  intro l
  induction l with
  | nil => intro k h _ h0; exact absurd rfl h0
  | cons x l ih =>
    intro k h hn _
    cases l with
    | nil =>
      have e0 : lensE [x] = lenE x := by simp [lensE]
      have e1 : (laidE [x] p).2 = bytesE p x := by rw [laidE_cons]; exact List.append_nil _
      have e2 : (laidE [x] p).1 = kindE x := rfl
      rw [e0, e1, e2]
      exact go_cut1 h1 h8
    | cons y l =>
      have hl := bytesE_len (laidE (y :: l) p).1 x
      have hy := lensE_bd (y :: l)
      rw [List.length_cons] at hy
      have hx := hn x (by simp)
      have e1 : ((laidE (x :: y :: l) p).2).take (lensE (x :: y :: l) - c) = bytesE (laidE (y :: l) p).1 x ++ (laidE (y :: l) p).2.take (lensE (y :: l) - c) := by
        rw [laidE_cons, lensE_cons]
        rw [List.take_append, List.take_of_length_le (by omega), hl, show lenE x + lensE (y :: l) - c - lenE x = lensE (y :: l) - c from by omega]
      have e2 : (laidE (x :: y :: l) p).1 = kindE x := rfl
      rw [e1, e2, List.length_cons, ← Nat.add_assoc, go_step (laidE_fst hp), noFrag_part hx]
      exact ih k _ (fun z hz => hn z (by simp [hz])) (by simp)
end

/-- A header with extensions behind it, as bytes. -/
def hdr6 (H : SixL) (n : Int) (first : Int) : List UInt8 := [96, 0, 0, 0] ++ put2 n ++ [b8 first, b8 H.hop] ++ H.src.b ++ H.dst.b
def wholeE (H : SixL) (l : List ExtL) (load : List UInt8) : List UInt8 := hdr6 H (lensE l + load.length : Nat) (laidE l H.proto).1 ++ (laidE l H.proto).2 ++ load
theorem hdr6_len {H : SixL} (hH : SixOk H) (n f : Int) : (hdr6 H n f).length = 40 := by
  obtain ⟨h1, h2⟩ := hH
  simp [hdr6, put2_len, h1, h2]
theorem sixPut_hdr (H : SixL) : sixPut H = hdr6 H (H.total - 40) H.proto := rfl
theorem hdr6_set {H : SixL} {n f g : Int} : (hdr6 H n f).set 6 (b8 g) = hdr6 H n g := rfl
theorem wholeE_len {H : SixL} (hH : SixOk H) (l : List ExtL) (load : List UInt8) : (wholeE H l load).length = 40 + lensE l + load.length := by
  unfold wholeE; rw [List.length_append, List.length_append, hdr6_len hH, laidE_len]
section
variable {H : SixL} {n f : Int} {r : List UInt8}
theorem byteAt_app {p q : List UInt8} {i : Nat} (h : i < p.length) : byteAt (p ++ q) i = byteAt p i := by
  unfold byteAt; simp [List.getD_eq_getElem?_getD, List.getElem?_append_left h]
theorem hdr6_read (hH : SixOk H) (hn : 0 ≤ n ∧ n ≤ 65535) (hf : 0 ≤ f ∧ f ≤ 255) (hh : 0 ≤ H.hop ∧ H.hop ≤ 255) (hs : H.src.six = true) (hd : H.dst.six = true) (hr : n ≤ (r.length : Int)) :
    sixRead (hdr6 H n f ++ r) = sixGo ⟨40, 40 + n, H.hop, false, 0, f, H.src, H.dst⟩ 8 (r.take n.toNat) 40 false f := by
  have hl := hdr6_len hH n f
  have hlen : (hdr6 H n f ++ r).length = 40 + r.length := by rw [List.length_append, hl]
  have b0 : byteAt (hdr6 H n f ++ r) 0 = 96 := rfl
  have t1 := b8_toNat n
  have t2 := b8_toNat (n / 256)
  have t3 := b8_toNat f
  have t4 := b8_toNat H.hop
  have b4 : byteAt (hdr6 H n f ++ r) 4 = n / 256 := by show ((b8 (n / 256)).toNat : Int) = _; omega
  have b5 : byteAt (hdr6 H n f ++ r) 5 = n % 256 := by show ((b8 n).toNat : Int) = _; omega
  have b6 : byteAt (hdr6 H n f ++ r) 6 = f := by show ((b8 f).toNat : Int) = _; omega
  have b7 : byteAt (hdr6 H n f ++ r) 7 = H.hop := by show ((b8 H.hop).toNat : Int) = _; omega
  have w4 : wordAt (hdr6 H n f ++ r) 4 = n := by unfold wordAt; rw [b4, b5]; omega
  obtain ⟨h1, h2⟩ := hH
  have a8 : adr6 (hdr6 H n f ++ r) 8 = H.src := by
    unfold adr6
    have e : (hdr6 H n f ++ r).drop 8 = H.src.b ++ (H.dst.b ++ r) := by
      unfold hdr6
      rw [List.append_assoc, List.append_assoc, List.append_assoc]
      rfl
    rw [e, List.take_append_of_le_length (by omega), List.take_of_length_le (by omega)]
    cases hA : H.src with | mk s b => rw [hA] at hs; simp at hs; rw [hs]
  have a24 : adr6 (hdr6 H n f ++ r) 24 = H.dst := by
    unfold adr6
    have e : (hdr6 H n f ++ r).drop 24 = H.dst.b ++ r := by
      have e8 : (hdr6 H n f ++ r).drop 8 = H.src.b ++ (H.dst.b ++ r) := by
        unfold hdr6
        rw [List.append_assoc, List.append_assoc, List.append_assoc]
        rfl
      rw [show (24 : Nat) = 8 + 16 from rfl, ← List.drop_drop, e8, List.drop_append_of_le_length (by omega), List.drop_of_length_le (by omega), List.nil_append]
    rw [e, List.take_append_of_le_length (by omega), List.take_of_length_le (by omega)]
    cases hA : H.dst with | mk s b => rw [hA] at hd; simp at hd; rw [hd]
  unfold sixRead
  rw [if_neg (by omega), if_neg (by rw [b0]; decide), if_neg (by rw [w4, hlen]; omega)]
  unfold sixHead
  rw [w4, b6, b7, a8, a24]
  congr 1
  rw [show (40 + n).toNat = 40 + n.toNat from by omega, List.take_append, hl, List.take_of_length_le (by omega), List.drop_append_of_le_length (by omega), List.drop_of_length_le (by omega), List.nil_append]
  congr 1
  omega
end
section
variable {H : SixL} {l : List ExtL} {load more : List UInt8}
/-- Read, with up to eight extensions. -/
theorem whole_back (hH : SixOk H) (hr : sixRight H = true) (hn : noFrag l) (h8 : l.length ≤ 8) (hl : load.length ≤ 300) :
    sixRead (wholeE H l load ++ more) = (⟨40 + (lensE l : Int), 40 + (lensE l : Int) + (load.length : Int), H.hop, false, (l.length : Int), H.proto, H.src, H.dst⟩, 0) := by
  obtain ⟨k1, k2, k3, k4, k5, k6, k7, k8, k9⟩ := sixRight_bd hr
  have hb := lensE_bd l
  unfold wholeE
  rw [List.append_assoc, List.append_assoc, hdr6_read hH (by omega) (laidE_fst k4) k3 k8 k9 (by simp [laidE_len]; omega)]
  have e1 : ((laidE l H.proto).2 ++ (load ++ more)).take ((lensE l + load.length : Nat) : Int).toNat = (laidE l H.proto).2 ++ load := by
    rw [Int.toNat_natCast, ← List.append_assoc, List.take_append_of_le_length (by simp [laidE_len]), List.take_of_length_le (by simp [laidE_len])]
  rw [e1]
  have e2 : (8 : Nat) = (8 - l.length) + l.length := by omega
  conv => lhs; rw [e2]
  rw [go_all hn k4, sixGo_done (by rw [k5]; rfl)]
  simp only [Prod.mk.injEq, and_true, SixL.mk.injEq, true_and]
  omega
/-- The ninth is refused. -/
theorem whole_many {x : ExtL} (hH : SixOk H) (hr : sixRight H = true) (hn : noFrag l) (h8 : l.length = 8) (hx : 0 ≤ x.part ∧ x.part ≤ 65535) :
    sixRead (wholeE H (l ++ [x]) []) = (six0, 4) := by
  obtain ⟨k1, k2, k3, k4, k5, k6, k7, k8, k9⟩ := sixRight_bd hr
  have hb := lensE_bd (l ++ [x])
  have hb2 : (l ++ [x]).length = 9 := by simp [h8]
  unfold wholeE
  rw [List.append_nil, hdr6_read hH (by simp; omega) (laidE_fst k4) k3 k8 k9 (by simp [laidE_len])]
  rw [List.length_nil, Nat.add_zero, Int.toNat_natCast, List.take_of_length_le (by rw [laidE_len]; omega)]
  have e2 : (8 : Nat) = 0 + l.length := by omega
  conv => lhs; rw [e2, laidE_app]
  rw [go_all hn (laidE_fst k4)]
  exact sixGo_long (by show (false || !extB (kindE x)) = false; rw [kindE_ext]; rfl)
/-- One that is cut off ends too early. -/
theorem whole_cut {c : Nat} (hH : SixOk H) (hr : sixRight H = true) (hn : noFrag l) (h8 : l.length = 8) (h1 : 1 ≤ c) (hc : c ≤ 8) :
    sixRead (hdr6 H ((lensE l : Int) - (c : Int)) (laidE l H.proto).1 ++ (laidE l H.proto).2) = (six0, 2) := by
  obtain ⟨k1, k2, k3, k4, k5, k6, k7, k8, k9⟩ := sixRight_bd hr
  have hb := lensE_bd l
  rw [hdr6_read hH (by omega) (laidE_fst k4) k3 k8 k9 (by rw [laidE_len]; omega)]
  rw [show ((lensE l : Int) - (c : Int)).toNat = lensE l - c from by omega]
  have e2 : (8 : Nat) = 0 + l.length := by omega
  conv => lhs; rw [e2]
  exact go_cut h1 hc k4 l 0 _ hn (by intro h; rw [h] at h8; simp at h8)
/-- A fragment is the last that is gone through. -/
theorem whole_frag {x : ExtL} {g : Int} (hH : SixOk H) (hr : sixRight { H with proto := 59 } = true) (hn : noFrag l) (h7 : l.length ≤ 7) (hl : load.length ≤ 300) (hx : 0 ≤ x.part ∧ x.part ≤ 65535) (hk : kindE x = 44) (hp : x.part / 8 ≠ 0 ∨ x.part % 2 = 1) (hg : 0 ≤ g ∧ g ≤ 255) :
    sixRead ((wholeE { H with proto := 59 } (l ++ [x]) load).set (40 + lensE l) (b8 g)) = (⟨48 + (lensE l : Int), 48 + (lensE l : Int) + (load.length : Int), H.hop, true, (l.length : Int) + 1, g, H.src, H.dst⟩, 0) := by
  obtain ⟨k1, k2, k3, k4, k5, k6, k7, k8, k9⟩ := sixRight_bd hr
  have hb := lensE_bd l
  have hl8 : lenE x = 8 := by unfold lenE; rw [if_neg (by omega), if_pos hk]
  have e0 : lensE (l ++ [x]) = lensE l + 8 := by simp [lensE, hl8]
  have eb : (bytesE 59 x).set 0 (b8 g) = bytesE g x := by unfold bytesE; rw [if_pos hk, if_pos hk]; rfl
  have e3 : (laidE (l ++ [x]) 59).2 = (laidE l (kindE x)).2 ++ bytesE 59 x := by rw [laidE_app]; simp [laidE]
  have e4 : (laidE (l ++ [x]) 59).1 = (laidE l (kindE x)).1 := by rw [laidE_app]; rfl
  have e5 : (wholeE { H with proto := 59 } (l ++ [x]) load).set (40 + lensE l) (b8 g) = hdr6 { H with proto := 59 } (lensE (l ++ [x]) + load.length : Nat) (laidE l (kindE x)).1 ++ ((laidE l (kindE x)).2 ++ (bytesE g x ++ load)) := by
    unfold wholeE
    show (hdr6 { H with proto := 59 } _ (laidE (l ++ [x]) 59).1 ++ (laidE (l ++ [x]) 59).2 ++ load).set (40 + lensE l) (b8 g) = _
    rw [e3, e4, List.append_assoc, List.append_assoc, List.set_append_right _ _ (by rw [hdr6_len (H := { H with proto := 59 }) hH]; omega), hdr6_len (H := { H with proto := 59 }) hH]
    rw [List.set_append_right _ _ (by rw [laidE_len]; omega), laidE_len, List.set_append_left _ _ (by rw [bytesE_len]; omega)]
    rw [show 40 + lensE l - 40 - lensE l = 0 from by omega, eb]
  rw [e5, hdr6_read (H := { H with proto := 59 }) hH (by rw [e0]; omega) (laidE_fst (kindE_bd x)) k3 k8 k9 (by simp [laidE_len, e0, bytesE_len, hl8]; omega)]
  rw [Int.toNat_natCast, List.take_of_length_le (by simp [laidE_len, e0, bytesE_len, hl8]; omega)]
  have e2 : (8 : Nat) = (8 - l.length) + l.length := by omega
  conv => lhs; rw [e2]
  rw [go_all hn (kindE_bd x)]
  obtain ⟨q, hq⟩ : ∃ q, 8 - l.length = q + 1 := ⟨7 - l.length, by omega⟩
  rw [hq, go_step hg]
  have hpt : (kindE x == 44 && partB (bytesE g x ++ load)) = true := by
    rw [hk]; unfold partB
    rw [bytesE_2 x load hx hk]
    rcases hp with h | h <;> simp [h]
  rw [hpt, sixGo_done (by rfl)]
  simp only [Prod.mk.injEq, and_true, SixL.mk.injEq, true_and]
  rw [e0]
  omega
end

/-! ## The awake's answers -/
def some9 : SixL := ⟨40, 48, 64, false, 0, 17, ⟨true, [1, 2, 0, 0, 0, 0, 0, 0, 0, 0, 0, 0, 0, 0, 0, 0]⟩, ⟨true, [3, 0, 0, 0, 0, 0, 0, 0, 0, 0, 0, 0, 0, 0, 0, 0]⟩⟩
def x9 : SixL := ⟨48, 48, 64, false, 1, 17, ⟨true, [1, 2, 0, 0, 0, 0, 0, 0, 0, 0, 0, 0, 0, 0, 0, 0]⟩, ⟨true, [3, 0, 0, 0, 0, 0, 0, 0, 0, 0, 0, 0, 0, 0, 0, 0]⟩⟩
theorem some9_ok : SixOk some9 := ⟨rfl, rfl⟩
theorem some9_right : sixRight some9 = true := by decide
theorem some9_put : sixPutR some9 = (sixPut some9, 0) := by unfold sixPutR; rw [if_pos some9_right]
theorem six0_put : sixPutR six0 = ([], 1) := by unfold sixPutR; rw [if_neg (by decide)]
theorem some9_read : sixRead (sixPut some9 ++ [1, 2, 3, 4, 5, 6, 7, 8, 9]) = (some9, 0) := by
  have e : sixPut some9 ++ [1, 2, 3, 4, 5, 6, 7, 8, 9] = wholeE some9 [] [1, 2, 3, 4, 5, 6, 7, 8] ++ [9] := by
    unfold wholeE; rw [sixPut_hdr, List.append_assoc, List.append_assoc]; rfl
  rw [e, whole_back some9_ok some9_right (fun x hx => by simp at hx) (by decide) (by decide)]
  rfl
theorem some9_early : (sixRead (sixPut some9)).2 = 2 := by
  have h := sixPut_len some9_ok
  unfold sixRead
  rw [if_neg (by omega), if_neg (by decide), if_pos (by decide)]
theorem some9_ext : sixRead ((sixPut some9).set 6 0 ++ [17, 0, 0, 0, 0, 0, 0, 0]) = (x9, 0) := by
  have e : (sixPut some9).set 6 0 ++ [17, 0, 0, 0, 0, 0, 0, 0] = wholeE some9 [⟨0, 0, 0⟩] [] ++ [] := rfl
  rw [e, whole_back some9_ok some9_right (fun x hx => by simp at hx; subst hx; decide) (by decide) (by decide)]
  rfl
end Go.Proofs.Ytdohlcakoamdhaa
