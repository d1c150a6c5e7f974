/- IPv4 headers: what the statements of layer 8 say of them, in plain Lean. -/
import Derived.Test.YtdbjpfjnambenaaS08
namespace Go.Proofs.Ytdbjpfjnambenaa

/-- One byte set: what that makes of the sum. -/
theorem wsum_set : ∀ (l : List UInt8) (k : Nat) (c : UInt8) (h : k < l.length), wsum (l.set k c) = wsum l + ((c.toNat : Int) - ((l[k]'h).toNat : Int)) * (if k % 2 = 0 then 256 else 1)
  | [], k, c, h => by simp at h
  | [x], 0, c, h => by simp [wsum]; omega
  | [x], k + 1, c, h => by simp at h
  | x :: y :: r, 0, c, h => by simp [wsum]; omega
  | x :: y :: r, 1, c, h => by simp [wsum]; omega
  | x :: y :: r, k + 2, c, h => by
    have h' : k < r.length := by simpa using h
    have := wsum_set r k c h'
    simp only [List.set_cons_succ, wsum, this, List.getElem_cons_succ, Nat.add_mod_right]
    omega
/-- Of bytes whose checksum is 0 one changed: it isn't. -/
theorem ck_set {l : List UInt8} {k : Nat} {c : UInt8} (h : k < l.length) (h0 : ck l = 0) (hc : c ≠ l[k]) : ck (l.set k c) ≠ 0 := by
  have e := wsum_set l k c h
  have hne : (c.toNat : Int) ≠ (l[k].toNat : Int) := fun e => hc (UInt8.toNat_inj.mp (by exact_mod_cast e))
  have b1 := byte_bd c
  have b2 := byte_bd l[k]
  have hs := wsum_nonneg l
  have hs2 := wsum_nonneg (l.set k c)
  unfold ck at *
  unfold norm at *
  split at e <;> split at h0 <;> split <;> omega
/-- A checksum that is put in where zeros were. -/
theorem ck_fill {p q : List UInt8} (hp : p.length % 2 = 0) : ck (p ++ put2 (ck (p ++ [0, 0] ++ q)) ++ q) = 0 := by
  have hb := ck_bd (p ++ [0, 0] ++ q)
  have e0 : wsum (p ++ [0, 0] ++ q) = wsum p + wsum q := by rw [List.append_assoc, wsum_even p hp]; simp [wsum]
  have n1 := wsum_nonneg p
  have n2 := wsum_nonneg q
  have e1 : wsum (p ++ put2 (ck (p ++ [0, 0] ++ q)) ++ q) = wsum p + wsum q + ck (p ++ [0, 0] ++ q) := by
    rw [List.append_assoc, wsum_even p hp]
    simp only [put2, List.cons_append, List.nil_append, wsum, b8_toNat]
    omega
  unfold ck at e1 hb ⊢
  rw [e1, e0]
  unfold norm
  split <;> split <;> omega

/-- A header of twenty bytes, its flags and its checksum given. -/
def hdr (H : FourL) (f g x y : UInt8) : List UInt8 :=
  69 :: b8 H.tos :: b8 (H.total / 256) :: b8 H.total :: b8 (H.id / 256) :: b8 H.id :: f :: g :: b8 H.ttl :: b8 H.proto :: x :: y :: (H.src.b.take 4 ++ H.dst.b.take 4)
theorem hdr_len {H : FourL} (hH : FourOk H) (f g x y : UInt8) : (hdr H f g x y).length = 20 := by
  obtain ⟨h1, h2⟩ := hH
  simp [hdr, h1, h2]
def keepB (H : FourL) : UInt8 := if H.keep then 64 else 0
theorem fourB_hdr (H : FourL) : fourB H = hdr H (keepB H) 0 0 0 := by
  unfold fourB hdr put2 keepB
  simp only [List.cons_append, List.nil_append, List.append_assoc]
def sumd (H : FourL) (f g : UInt8) : List UInt8 := hdr H f g (b8 (ck (hdr H f g 0 0) / 256)) (b8 (ck (hdr H f g 0 0)))
theorem fourPut_hdr {H : FourL} (hH : FourOk H) : fourPut H = sumd H (keepB H) 0 := by
  unfold fourPut sumd
  rw [fourB_hdr]
  unfold cpy
  have h1 := hdr_len hH (keepB H) 0 0 0
  simp [put2, hdr]
theorem ck_sumd {H : FourL} (f g : UInt8) : ck (sumd H f g) = 0 := by
  have := ck_fill (p := [69, b8 H.tos, b8 (H.total / 256), b8 H.total, b8 (H.id / 256), b8 H.id, f, g, b8 H.ttl, b8 H.proto]) (q := H.src.b.take 4 ++ H.dst.b.take 4) (by simp)
  exact this
theorem sumd_len {H : FourL} (hH : FourOk H) (f g : UInt8) : (sumd H f g).length = 20 := hdr_len hH _ _ _ _

theorem fourRead_good {l : List UInt8} {T : Int} (hl : 20 ≤ l.length) (h0 : byteAt l 0 = 69) (hT : wordAt l 2 = T) (h1 : 20 ≤ T) (h2 : T ≤ (l.length : Int)) (hck : ck (l.take 20) = 0) : fourRead l = (fourIs l, 0) := by
  refine fourRead_last (by omega) (by omega) (by omega) (by omega) (by omega) ?_
  rw [h0]
  simpa using hck
theorem short_take {A : Adr} (hA : A.b.length = 16) (h : shortA A = true) : A = ⟨false, A.b.take 4 ++ List.replicate 12 0⟩ := by
  obtain ⟨six, b⟩ := A
  unfold shortA at h
  simp only [Bool.and_eq_true, Bool.not_eq_true'] at h
  obtain ⟨h1, h2⟩ := h
  simp only at h1 hA
  subst h1
  congr 1
  have e : b.drop 4 = List.replicate 12 0 := by
    apply List.ext_getElem
    · simp [hA]
    · intro i h3 h4
      rw [List.any_eq_false] at h2
      have := h2 _ (List.getElem_mem h3)
      rw [List.getElem_replicate]
      simpa using this
  rw [← e, List.take_append_drop]
theorem hdr_src {H : FourL} (hH : FourOk H) {f g x y : UInt8} {r : List UInt8} (hs : shortA H.src = true) : adr4 (hdr H f g x y ++ r) 12 = H.src := by
  rw [short_take hH.1 hs]
  unfold adr4
  have h1 : (H.src.b.take 4).length = 4 := by simp [hH.1]
  have : ((hdr H f g x y ++ r).drop 12).take 4 = H.src.b.take 4 := by
    show ((H.src.b.take 4 ++ H.dst.b.take 4 ++ r)).take 4 = _
    rw [List.append_assoc, List.take_append_of_le_length (by omega), List.take_of_length_le (by omega)]
  rw [this]
theorem hdr_dst {H : FourL} (hH : FourOk H) {f g x y : UInt8} {r : List UInt8} (hs : shortA H.dst = true) : adr4 (hdr H f g x y ++ r) 16 = H.dst := by
  rw [short_take hH.2 hs]
  unfold adr4
  have h1 : (H.src.b.take 4).length = 4 := by simp [hH.1]
  have h2 : (H.dst.b.take 4).length = 4 := by simp [hH.2]
  have : ((hdr H f g x y ++ r).drop 16).take 4 = H.dst.b.take 4 := by
    show ((H.src.b.take 4 ++ H.dst.b.take 4 ++ r).drop 4).take 4 = _
    have e : (H.src.b.take 4 ++ H.dst.b.take 4 ++ r).drop 4 = H.dst.b.take 4 ++ r := by
      rw [List.append_assoc, List.drop_append_of_le_length (by omega), List.drop_of_length_le (by omega), List.nil_append]
    rw [e, List.take_append_of_le_length (by omega), List.take_of_length_le (by omega)]
  rw [this]
/-- What a header with whatever flags reads as. -/
def flagged (H : FourL) (f g : UInt8) : FourL := { H with head := 20, frag := decide ((256 * (f.toNat : Int) + (g.toNat : Int)) % 16384 ≠ 0), keep := decide ((256 * (f.toNat : Int) + (g.toNat : Int)) / 16384 % 2 = 1) }
theorem read_sumd {H : FourL} (hH : FourOk H) (hr : fourRight H = true) {f g : UInt8} {r : List UInt8} (hl : H.total ≤ 20 + (r.length : Int)) : fourRead (sumd H f g ++ r) = (flagged H f g, 0) := by
  obtain ⟨k1, k2, k3, k4, k5, k6, _, k8, k9⟩ := fourRight_bd hr
  have hlen := sumd_len hH f g
  have hck := ck_sumd (H := H) f g
  have e2 : wordAt (sumd H f g ++ r) 2 = H.total := by
    show 256 * ((b8 (H.total / 256)).toNat : Int) + ((b8 H.total).toNat : Int) = _
    rw [b8_toNat, b8_toNat]; omega
  rw [fourRead_good (T := H.total) (by simp; omega) rfl e2 k2.1 (by simp only [List.length_append, hlen]; omega) (by rw [List.take_append_of_le_length (by omega), List.take_of_length_le (by omega)]; exact hck)]
  have e1 : byteAt (sumd H f g ++ r) 1 = H.tos := by show ((b8 H.tos).toNat : Int) = _; rw [b8_toNat]; omega
  have e4 : wordAt (sumd H f g ++ r) 4 = H.id := by
    show 256 * ((b8 (H.id / 256)).toNat : Int) + ((b8 H.id).toNat : Int) = _
    rw [b8_toNat, b8_toNat]; omega
  have e6 : wordAt (sumd H f g ++ r) 6 = 256 * (f.toNat : Int) + (g.toNat : Int) := rfl
  have e8 : byteAt (sumd H f g ++ r) 8 = H.ttl := by show ((b8 H.ttl).toNat : Int) = _; rw [b8_toNat]; omega
  have e9 : byteAt (sumd H f g ++ r) 9 = H.proto := by show ((b8 H.proto).toNat : Int) = _; rw [b8_toNat]; omega
  have e0 : byteAt (sumd H f g ++ r) 0 = 69 := rfl
  unfold fourIs flagged
  rw [e0, e1, e2, e4, e6, e8, e9]
  unfold sumd
  rw [hdr_src hH k8, hdr_dst hH k9]
  rfl
theorem flagged_keep {H : FourL} (hr : fourRight H = true) : flagged H (keepB H) 0 = H := by
  obtain ⟨k1, _, _, _, _, _, k7, _⟩ := fourRight_bd hr
  obtain ⟨head, total, tos, id, frag, keep, ttl, proto, src, dst⟩ := H
  simp only at k1 k7
  subst k1
  subst k7
  unfold flagged keepB
  cases keep <;> simp
/-- What is laid is read as it was. -/
theorem four_back {H : FourL} (hH : FourOk H) (hr : fourRight H = true) {r : List UInt8} (hl : H.total ≤ 20 + (r.length : Int)) : fourRead (fourPut H ++ r) = (H, 0) := by
  rw [fourPut_hdr hH, read_sumd hH hr hl, flagged_keep hr]
theorem fourPut_len {H : FourL} (hH : FourOk H) : (fourPut H).length = 20 := by rw [fourPut_hdr hH]; exact sumd_len hH _ _
theorem byteAt_take {l : List UInt8} {i k : Nat} (h : i < k) : byteAt (l.take k) i = byteAt l i := by
  unfold byteAt
  simp only [List.getD_eq_getElem?_getD, List.getElem?_take, if_pos h]
/-- Of fewer bytes it ends too early. -/
theorem four_early {H : FourL} (hH : FourOk H) (hr : fourRight H = true) {r : List UInt8} {k : Nat} (hk : (k : Int) < H.total) (hl : k ≤ 20 + r.length) : (fourRead ((fourPut H ++ r).take k)).2 = 2 := by
  obtain ⟨_, k2, _⟩ := fourRight_bd hr
  have hlen := fourPut_len hH
  by_cases h20 : k < 20
  · unfold fourRead
    rw [if_pos (by simp; omega)]
  · have e0 : byteAt ((fourPut H ++ r).take k) 0 = 69 := by rw [byteAt_take (by omega), fourPut_hdr hH]; rfl
    have e2 : wordAt ((fourPut H ++ r).take k) 2 = H.total := by
      unfold wordAt
      rw [byteAt_take (by omega), byteAt_take (by omega), fourPut_hdr hH]
      show 256 * ((b8 (H.total / 256)).toNat : Int) + ((b8 H.total).toNat : Int) = _
      rw [b8_toNat, b8_toNat]; omega
    have hl' : ((fourPut H ++ r).take k).length = k := by simp; omega
    unfold fourRead
    rw [hl', e0, e2, if_neg h20, if_neg (by omega), if_neg (by omega), if_neg (by omega), if_pos (by omega)]
/-- What is read as a header has a checksum of 0. -/
theorem read_ck {l : List UInt8} (h : (fourRead l).2 = 0) : ck (l.take (byteAt l 0 % 16 * 4).toNat) = 0 ∧ byteAt l 0 / 16 = 4 ∧ 20 ≤ byteAt l 0 % 16 * 4 := by
  unfold fourRead at h
  split at h; · simp at h
  split at h; · simp at h
  split at h; · simp at h
  split at h; · simp at h
  split at h; · simp at h
  split at h; · simp at h
  rename_i h1 h2 h3 h4 h5 h6
  refine ⟨by simpa using h6, by omega, by omega⟩
theorem xor_ne {x t : UInt8} (h : t ≠ 0) : x ^^^ t ≠ x := by
  intro e
  apply h
  have : x ^^^ (x ^^^ t) = x ^^^ x := by rw [e]
  simpa [← UInt8.xor_assoc] using this
/-- One byte of the header changed, and it is refused, unless it is longer then and the bytes behind make its checksum right. -/
theorem four_spoilt {H : FourL} (hH : FourOk H) {r : List UInt8} {k : Nat} {c : UInt8} (hk : k < 20) (hc : c ≠ (fourPut H ++ r)[k]'(by have := fourPut_len hH; simp; omega)) :
    (fourRead ((fourPut H ++ r).set k c)).2 ≠ 0 ∨ (k = 0 ∧ byteAt ((fourPut H ++ r).set k c) 0 / 16 = 4 ∧ 5 < byteAt ((fourPut H ++ r).set k c) 0 % 16 ∧ ck (((fourPut H ++ r).set k c).take (byteAt ((fourPut H ++ r).set k c) 0 % 16 * 4).toNat) = 0) := by
  have hlen := fourPut_len hH
  by_cases h : (fourRead ((fourPut H ++ r).set k c)).2 = 0
  · right
    obtain ⟨h1, h2, h3⟩ := read_ck h
    have hck : ck (fourPut H) = 0 := by rw [fourPut_hdr hH]; exact ck_sumd _ _
    have hset : (fourPut H ++ r).set k c = (fourPut H).set k c ++ r := List.set_append_left _ _ (by omega)
    have hgk : (fourPut H ++ r)[k]'(by simp; omega) = (fourPut H)[k]'(by omega) := List.getElem_append_left _
    have hne := ck_set (l := fourPut H) (k := k) (c := c) (by omega) hck (by rw [← hgk]; exact hc)
    by_cases hk0 : k = 0
    · subst hk0
      refine ⟨rfl, h2, ?_, h1⟩
      have e5 : (fourPut H ++ r)[0]'(by simp; omega) = 69 := by
        have : fourPut H ++ r = sumd H (keepB H) 0 ++ r := by rw [fourPut_hdr hH]
        simp only [this]; rfl
      have hb : byteAt ((fourPut H ++ r).set 0 c) 0 = (c.toNat : Int) := by
        rw [byteAt_get (by simp; omega)]; simp
      rw [hb] at h2 h3 ⊢
      rw [e5] at hc
      have : c.toNat ≠ 69 := fun e => hc (UInt8.toNat_inj.mp e)
      omega
    · exfalso
      have hb : byteAt ((fourPut H ++ r).set k c) 0 = 69 := by
        have : byteAt ((fourPut H ++ r).set k c) 0 = byteAt (fourPut H ++ r) 0 := by
          unfold byteAt
          simp [List.getD_eq_getElem?_getD, List.getElem?_set, hk0]
        rw [this, fourPut_hdr hH]; rfl
      rw [hb, hset] at h1
      rw [show ((69 : Int) % 16 * 4).toNat = 20 from rfl, List.take_append_of_le_length (by simp; omega), List.take_of_length_le (by simp; omega)] at h1
      exact hne h1
  · exact .inl h
def some8 : FourL := ⟨20, 22, 0, 258, false, true, 64, 17, ⟨false, [1, 2, 3, 4, 0, 0, 0, 0, 0, 0, 0, 0, 0, 0, 0, 0]⟩, ⟨false, [5, 6, 7, 8, 0, 0, 0, 0, 0, 0, 0, 0, 0, 0, 0, 0]⟩⟩
theorem some8_right : fourRight some8 = true := by decide
theorem putR_no {H : FourL} (h : ((fourPutR H).2 != 0) = true) : fourRight H = false := by
  unfold fourPutR at h
  cases hr : fourRight H with
  | false => rfl
  | true => rw [if_pos hr] at h; simp at h
theorem putR_yes {H : FourL} (h : ((fourPutR H).2 != 0) = false) : fourRight H = true := by
  unfold fourPutR at h
  cases hr : fourRight H with
  | true => rfl
  | false => rw [if_neg (by rw [hr]; decide)] at h; simp at h
theorem tmod_lt {a : Int} {n : Nat} (h : 0 ≤ a) (hn : 0 < n) : ∃ K : Nat, a.tmod (n : Int) = (K : Int) ∧ K < n := by
  rw [Int.tmod_eq_emod_of_nonneg h]
  have h1 := Int.emod_nonneg a (show (n : Int) ≠ 0 by omega)
  have h2 := Int.emod_lt_of_pos a (show (0 : Int) < n by omega)
  exact ⟨(a % (n : Int)).toNat, by omega, by omega⟩

/-! ## Bytes with others turned in; the ends of the laws -/
theorem b8_xor (x y : UInt8) : b8 (bitXor .u8 (x.toNat : Int) (y.toNat : Int)) = x ^^^ y := by
  have h1 := mask_u8 x
  have h2 := mask_u8 y
  rw [bitXor_eq h1 h2]
  apply b8_small
  simp
theorem xor_bd (x y : UInt8) : 0 ≤ bitXor .u8 (x.toNat : Int) (y.toNat : Int) ∧ bitXor .u8 (x.toNat : Int) (y.toNat : Int) < 256 := by
  rw [bitXor_eq (mask_u8 x) (mask_u8 y)]
  have := (x ^^^ y).toNat_lt
  simp only [UInt8.toNat_xor] at this
  simp only [Int.toNat_natCast]
  omega
theorem spo_guard {T : Int} {c : UInt8} (h : ((!true || decide (T > 1000)) || ((c.toNat : Int) == 0)) = false) : T ≤ 1000 ∧ c ≠ 0 := by
  simp only [Bool.not_true, Bool.false_or, Bool.or_eq_false_iff, decide_eq_false_iff_not, beq_eq_false_iff_ne, ne_eq] at h
  refine ⟨by omega, fun e => h.2 (by rw [e]; rfl)⟩
theorem spo_test {L : List UInt8} {x : UInt8} {K : Nat} (e0 : (x.toNat : Int) = byteAt L 0) :
    ((((K : Int) == 0) && (IntKind.u8.wrap ((x.toNat : Int).tdiv 16) == 4)) && decide ((x.toNat : Int).tmod 16 > 5)) = decide (K = 0 ∧ byteAt L 0 / 16 = 4 ∧ 5 < byteAt L 0 % 16) := by
  have hq := quo_byte (x := x.toNat) (k := 16) (by have := x.toNat_lt; omega)
  rw [show IntKind.u8.wrap ((x.toNat : Int).tdiv 16) = byteAt L 0 / 16 from by rw [← e0]; exact hq, Int.tmod_eq_emod_of_nonneg (by omega), e0, Bool.eq_iff_iff]
  simp only [Bool.and_eq_true, beq_iff_eq, decide_eq_true_eq]
  omega
theorem spo_end1 {L : List UInt8} {x : UInt8} {K : Nat} (e0 : (x.toNat : Int) = byteAt L 0) (hs : (fourRead L).2 ≠ 0 ∨ (K = 0 ∧ byteAt L 0 / 16 = 4 ∧ 5 < byteAt L 0 % 16 ∧ ck (L.take (byteAt L 0 % 16 * 4).toNat) = 0))
    (_h : ((((K : Int) == 0) && (IntKind.u8.wrap ((x.toNat : Int).tdiv 16) == 4)) && decide ((x.toNat : Int).tmod 16 > 5)) = true) : (((fourRead L).2 != 0) || (ck (L.take (byteAt L 0 % 16 * 4).toNat) == 0)) = true := by
  rcases hs with h | ⟨_, _, _, h⟩
  · simp [h]
  · simp [h]
theorem spo_end2 {L : List UInt8} {x : UInt8} {K : Nat} (e0 : (x.toNat : Int) = byteAt L 0) (hs : (fourRead L).2 ≠ 0 ∨ (K = 0 ∧ byteAt L 0 / 16 = 4 ∧ 5 < byteAt L 0 % 16 ∧ ck (L.take (byteAt L 0 % 16 * 4).toNat) = 0))
    (h : ((((K : Int) == 0) && (IntKind.u8.wrap ((x.toNat : Int).tdiv 16) == 4)) && decide ((x.toNat : Int).tmod 16 > 5)) = false) : ((fourRead L).2 != 0) = true := by
  rw [spo_test e0] at h
  have h := of_decide_eq_false h
  rcases hs with h1 | ⟨h1, h2, h3, _⟩
  · simpa using h1
  · exact absurd ⟨h1, h2, h3⟩ h
theorem flags_bits {z : Int} (hz : 0 ≤ z ∧ z ≤ 65535) : 256 * ((b8 (z / 2 ^ 8)).toNat : Int) + ((b8 z).toNat : Int) = z ∧ 0 ≤ z / 2 ^ 8 := by
  rw [b8_toNat, b8_toNat, show ((2 : Int) ^ 8) = 256 from rfl]; omega
theorem bit14w {n : Int} (h : 0 ≤ n ∧ n ≤ 65535) : (bitAnd .u16 n 16384 != 0) = decide (n / 16384 % 2 = 1) := by
  rw [← bit14 h, bitAnd_eq ⟨h.1, by simp [IntKind.max, IntKind.signed, IntKind.bits]; omega⟩ ⟨by decide, by decide⟩, bitAnd_eq ⟨h.1, by simp [IntKind.max, IntKind.signed, IntKind.bits]; omega⟩ ⟨by decide, by decide⟩]
theorem flags_end {H : FourL} {z : Int} (hz : 0 ≤ z ∧ z ≤ 65535) (hq : 256 * ((b8 (z / 2 ^ 8)).toNat : Int) + ((b8 z).toNat : Int) = z) :
    (((((0 : Int) == 0) && ((flagged H (b8 (z / 2 ^ 8)) (b8 z)).frag == (z % 16384 != 0))) && ((flagged H (b8 (z / 2 ^ 8)) (b8 z)).keep == (bitAnd .u16 z 16384 != 0))) && ((flagged H (b8 (z / 2 ^ 8)) (b8 z)).total == H.total) && true) = true := by
  rw [bit14w hz]
  unfold flagged
  simp only [hq]
  have : (z % 16384 != 0) = decide (z % 16384 ≠ 0) := by rw [Bool.eq_iff_iff]; simp
  rw [this]
  simp
end Go.Proofs.Ytdbjpfjnambenaa
