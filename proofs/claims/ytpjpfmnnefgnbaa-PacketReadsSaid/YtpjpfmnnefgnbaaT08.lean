/- IPv4 headers: what the statements of layer 8 say of them, in plain Lean. -/
import Derived.Test.YtpjpfmnnefgnbaaS08
namespace Go.Proofs.Ytpjpfmnnefgnbaa
set_option linter.unusedVariables false
set_option linter.unusedSimpArgs false

/-- A checksum that is put in where zeros were. -/
theorem ck_fill {p q : List UInt8} (hp : p.length % 2 = 0) : ck (p ++ put2 (ck (p ++ [0, 0] ++ q)) ++ q) = 0 := by
  have hb := ck_bd (p ++ [0, 0] ++ q)
  have e0 : wsum (p ++ [0, 0] ++ q) = wsum p + wsum q := by rw [List.append_assoc, wsum_even p hp]; simp [wsum]
  have n1 := wsum_nonneg p
  have n2 := wsum_nonneg q
  have e1 : wsum (p ++ put2 (ck (p ++ [0, 0] ++ q)) ++ q) = wsum p + wsum q + ck (p ++ [0, 0] ++ q) := by
    rw [List.append_assoc, wsum_even p hp]
    simp only [put2, List.cons_append, List.nil_append, wsum, b8_toNat]
    omega
  unfold ck at e1 hb ⊢
  rw [e1, e0]
  unfold norm
  split <;> split <;> omega

/-- A header of twenty bytes, its flags and its checksum given. -/
def hdr (H : FourL) (f g x y : UInt8) : List UInt8 :=
  69 :: b8 H.tos :: b8 (H.total / 256) :: b8 H.total :: b8 (H.id / 256) :: b8 H.id :: f :: g :: b8 H.ttl :: b8 H.proto :: x :: y :: (H.src.b.take 4 ++ H.dst.b.take 4)
theorem hdr_len {H : FourL} (hH : FourOk H) (f g x y : UInt8) : (hdr H f g x y).length = 20 := by
  obtain ⟨h1, h2⟩ := hH
  simp [hdr, h1, h2]
def keepB (H : FourL) : UInt8 := if H.keep then 64 else 0
theorem fourB_hdr (H : FourL) : fourB H = hdr H (keepB H) 0 0 0 := by
  unfold fourB hdr put2 keepB
  simp only [List.cons_append, List.nil_append, List.append_assoc]
def sumd (H : FourL) (f g : UInt8) : List UInt8 := hdr H f g (b8 (ck (hdr H f g 0 0) / 256)) (b8 (ck (hdr H f g 0 0)))
theorem fourPut_hdr {H : FourL} (hH : FourOk H) : fourPut H = sumd H (keepB H) 0 := by
  unfold fourPut sumd
  rw [fourB_hdr]
  unfold cpy
  have h1 := hdr_len hH (keepB H) 0 0 0
  simp [put2, hdr]
theorem ck_sumd {H : FourL} (f g : UInt8) : ck (sumd H f g) = 0 := by
  have := ck_fill (p := [69, b8 H.tos, b8 (H.total / 256), b8 H.total, b8 (H.id / 256), b8 H.id, f, g, b8 H.ttl, b8 H.proto]) (q := H.src.b.take 4 ++ H.dst.b.take 4) (by simp)
  exact this
theorem sumd_len {H : FourL} (hH : FourOk H) (f g : UInt8) : (sumd H f g).length = 20 := hdr_len hH _ _ _ _

theorem fourRead_good {l : List UInt8} {T : Int} (hl : 20 ≤ l.length) (h0 : byteAt l 0 = 69) (hT : wordAt l 2 = T) (h1 : 20 ≤ T) (h2 : T ≤ (l.length : Int)) (hck : ck (l.take 20) = 0) : fourRead l = (fourIs l, 0) := by
  refine fourRead_last (by omega) (by omega) (by omega) (by omega) (by omega) ?_
  rw [h0]
  simpa using hck
theorem short_take {A : Adr} (hA : A.b.length = 16) (h : shortA A = true) : A = ⟨false, A.b.take 4 ++ List.replicate 12 0⟩ := by
  obtain ⟨six, b⟩ := A
  unfold shortA at h
  simp only [Bool.and_eq_true, Bool.not_eq_true'] at h
  obtain ⟨h1, h2⟩ := h
  simp only at h1 hA
  subst h1
  congr 1
  have e : b.drop 4 = List.replicate 12 0 := by
    apply List.ext_getElem
    · simp [hA]
    · intro i h3 h4
      rw [List.any_eq_false] at h2
      have := h2 _ (List.getElem_mem h3)
      rw [List.getElem_replicate]
      simpa using this
  rw [← e, List.take_append_drop]
theorem hdr_src {H : FourL} (hH : FourOk H) {f g x y : UInt8} {r : List UInt8} (hs : shortA H.src = true) : adr4 (hdr H f g x y ++ r) 12 = H.src := by
  rw [short_take hH.1 hs]
  unfold adr4
  have h1 : (H.src.b.take 4).length = 4 := by simp [hH.1]
  have : ((hdr H f g x y ++ r).drop 12).take 4 = H.src.b.take 4 := by
    show ((H.src.b.take 4 ++ H.dst.b.take 4 ++ r)).take 4 = _
    rw [List.append_assoc, List.take_append_of_le_length (by omega), List.take_of_length_le (by omega)]
  rw [this]
theorem hdr_dst {H : FourL} (hH : FourOk H) {f g x y : UInt8} {r : List UInt8} (hs : shortA H.dst = true) : adr4 (hdr H f g x y ++ r) 16 = H.dst := by
  rw [short_take hH.2 hs]
  unfold adr4
  have h1 : (H.src.b.take 4).length = 4 := by simp [hH.1]
  have h2 : (H.dst.b.take 4).length = 4 := by simp [hH.2]
  have : ((hdr H f g x y ++ r).drop 16).take 4 = H.dst.b.take 4 := by
    show ((H.src.b.take 4 ++ H.dst.b.take 4 ++ r).drop 4).take 4 = _
    have e : (H.src.b.take 4 ++ H.dst.b.take 4 ++ r).drop 4 = H.dst.b.take 4 ++ r := by
      rw [List.append_assoc, List.drop_append_of_le_length (by omega), List.drop_of_length_le (by omega), List.nil_append]
    rw [e, List.take_append_of_le_length (by omega), List.take_of_length_le (by omega)]
  rw [this]
/-- What a header with whatever flags reads as. -/
def flagged (H : FourL) (f g : UInt8) : FourL := { H with head := 20, frag := decide ((256 * (f.toNat : Int) + (g.toNat : Int)) % 16384 ≠ 0), keep := decide ((256 * (f.toNat : Int) + (g.toNat : Int)) / 16384 % 2 = 1) }
theorem read_sumd {H : FourL} (hH : FourOk H) (hr : fourRight H = true) {f g : UInt8} {r : List UInt8} (hl : H.total ≤ 20 + (r.length : Int)) : fourRead (sumd H f g ++ r) = (flagged H f g, 0) := by
  obtain ⟨k1, k2, k3, k4, k5, k6, _, k8, k9⟩ := fourRight_bd hr
  have hlen := sumd_len hH f g
  have hck := ck_sumd (H := H) f g
  have e2 : wordAt (sumd H f g ++ r) 2 = H.total := by
    show 256 * ((b8 (H.total / 256)).toNat : Int) + ((b8 H.total).toNat : Int) = _
    rw [b8_toNat, b8_toNat]; omega
  rw [fourRead_good (T := H.total) (by simp; omega) rfl e2 k2.1 (by simp only [List.length_append, hlen]; omega) (by rw [List.take_append_of_le_length (by omega), List.take_of_length_le (by omega)]; exact hck)]
  have e1 : byteAt (sumd H f g ++ r) 1 = H.tos := by show ((b8 H.tos).toNat : Int) = _; rw [b8_toNat]; omega
  have e4 : wordAt (sumd H f g ++ r) 4 = H.id := by
    show 256 * ((b8 (H.id / 256)).toNat : Int) + ((b8 H.id).toNat : Int) = _
    rw [b8_toNat, b8_toNat]; omega
  have e6 : wordAt (sumd H f g ++ r) 6 = 256 * (f.toNat : Int) + (g.toNat : Int) := rfl
  have e8 : byteAt (sumd H f g ++ r) 8 = H.ttl := by show ((b8 H.ttl).toNat : Int) = _; rw [b8_toNat]; omega
  have e9 : byteAt (sumd H f g ++ r) 9 = H.proto := by show ((b8 H.proto).toNat : Int) = _; rw [b8_toNat]; omega
  have e0 : byteAt (sumd H f g ++ r) 0 = 69 := rfl
  unfold fourIs flagged
  rw [e0, e1, e2, e4, e6, e8, e9]
  unfold sumd
  rw [hdr_src hH k8, hdr_dst hH k9]
  rfl
theorem flagged_keep {H : FourL} (hr : fourRight H = true) : flagged H (keepB H) 0 = H := by
  obtain ⟨k1, _, _, _, _, _, k7, _⟩ := fourRight_bd hr
  obtain ⟨head, total, tos, id, frag, keep, ttl, proto, src, dst⟩ := H
  simp only at k1 k7
  subst k1
  subst k7
  unfold flagged keepB
  cases keep <;> simp
/-- What is laid is read as it was. -/
theorem four_back {H : FourL} (hH : FourOk H) (hr : fourRight H = true) {r : List UInt8} (hl : H.total ≤ 20 + (r.length : Int)) : fourRead (fourPut H ++ r) = (H, 0) := by
  rw [fourPut_hdr hH, read_sumd hH hr hl, flagged_keep hr]
theorem fourPut_len {H : FourL} (hH : FourOk H) : (fourPut H).length = 20 := by rw [fourPut_hdr hH]; exact sumd_len hH _ _
/-! ## Bytes with others turned in; the ends of the laws -/
end Go.Proofs.Ytpjpfmnnefgnbaa
