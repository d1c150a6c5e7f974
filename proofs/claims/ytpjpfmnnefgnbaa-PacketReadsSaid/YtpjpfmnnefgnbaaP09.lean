/- Extensions of IPv6, in plain Lean: laid in a row, they are gone through. -/
import Derived.Test.YtpjpfmnnefgnbaaS09
namespace Go.Proofs.Ytpjpfmnnefgnbaa
set_option linter.unusedVariables false
set_option linter.unusedSimpArgs false

structure ExtL where
  kind : UInt8
  long : UInt8
  part : Int
section
variable {H : SixL} {f p h : Int} {k : Nat}
end

/-- A header with extensions behind it, as bytes. -/
def hdr6 (H : SixL) (n : Int) (first : Int) : List UInt8 := [96, 0, 0, 0] ++ put2 n ++ [b8 first, b8 H.hop] ++ H.src.b ++ H.dst.b
theorem hdr6_len {H : SixL} (hH : SixOk H) (n f : Int) : (hdr6 H n f).length = 40 := by
  obtain ⟨h1, h2⟩ := hH
  simp [hdr6, put2_len, h1, h2]
theorem sixPut_hdr (H : SixL) : sixPut H = hdr6 H (H.total - 40) H.proto := rfl
section
variable {H : SixL} {n f : Int} {r : List UInt8}
theorem hdr6_read (hH : SixOk H) (hn : 0 ≤ n ∧ n ≤ 65535) (hf : 0 ≤ f ∧ f ≤ 255) (hh : 0 ≤ H.hop ∧ H.hop ≤ 255) (hs : H.src.six = true) (hd : H.dst.six = true) (hr : n ≤ (r.length : Int)) :
    sixRead (hdr6 H n f ++ r) = sixGo ⟨40, 40 + n, H.hop, false, 0, f, H.src, H.dst⟩ 8 (r.take n.toNat) 40 false f := by
  have hl := hdr6_len hH n f
  have hlen : (hdr6 H n f ++ r).length = 40 + r.length := by rw [List.length_append, hl]
  have b0 : byteAt (hdr6 H n f ++ r) 0 = 96 := rfl
  have t1 := b8_toNat n
  have t2 := b8_toNat (n / 256)
  have t3 := b8_toNat f
  have t4 := b8_toNat H.hop
  have b4 : byteAt (hdr6 H n f ++ r) 4 = n / 256 := by show ((b8 (n / 256)).toNat : Int) = _; omega
  have b5 : byteAt (hdr6 H n f ++ r) 5 = n % 256 := by show ((b8 n).toNat : Int) = _; omega
  have b6 : byteAt (hdr6 H n f ++ r) 6 = f := by show ((b8 f).toNat : Int) = _; omega
  have b7 : byteAt (hdr6 H n f ++ r) 7 = H.hop := by show ((b8 H.hop).toNat : Int) = _; omega
  have w4 : wordAt (hdr6 H n f ++ r) 4 = n := by unfold wordAt; rw [b4, b5]; omega
  obtain ⟨h1, h2⟩ := hH
  have a8 : adr6 (hdr6 H n f ++ r) 8 = H.src := by
    unfold adr6
    have e : (hdr6 H n f ++ r).drop 8 = H.src.b ++ (H.dst.b ++ r) := by
      unfold hdr6
      rw [List.append_assoc, List.append_assoc, List.append_assoc]
      rfl
    rw [e, List.take_append_of_le_length (by omega), List.take_of_length_le (by omega)]
    cases hA : H.src with | mk s b => rw [hA] at hs; simp at hs; rw [hs]
  have a24 : adr6 (hdr6 H n f ++ r) 24 = H.dst := by
    unfold adr6
    have e : (hdr6 H n f ++ r).drop 24 = H.dst.b ++ r := by
      have e8 : (hdr6 H n f ++ r).drop 8 = H.src.b ++ (H.dst.b ++ r) := by
        unfold hdr6
        rw [List.append_assoc, List.append_assoc, List.append_assoc]
        rfl
      rw [show (24 : Nat) = 8 + 16 from rfl, ← List.drop_drop, e8, List.drop_append_of_le_length (by omega), List.drop_of_length_le (by omega), List.nil_append]
    rw [e, List.take_append_of_le_length (by omega), List.take_of_length_le (by omega)]
    cases hA : H.dst with | mk s b => rw [hA] at hd; simp at hd; rw [hd]
  unfold sixRead
  rw [if_neg (by omega), if_neg (by rw [b0]; decide), if_neg (by rw [w4, hlen]; omega)]
  unfold sixHead
  rw [w4, b6, b7, a8, a24]
  congr 1
  rw [show (40 + n).toNat = 40 + n.toNat from by omega, List.take_append, hl, List.take_of_length_le (by omega), List.drop_append_of_le_length (by omega), List.drop_of_length_le (by omega), List.nil_append]
  congr 1
  omega
end
section
variable {H : SixL} {l : List ExtL} {load more : List UInt8}
end

/-! ## The awake's answers -/
def x9 : SixL := ⟨48, 48, 64, false, 1, 17, ⟨true, [1, 2, 0, 0, 0, 0, 0, 0, 0, 0, 0, 0, 0, 0, 0, 0]⟩, ⟨true, [3, 0, 0, 0, 0, 0, 0, 0, 0, 0, 0, 0, 0, 0, 0, 0]⟩⟩
end Go.Proofs.Ytpjpfmnnefgnbaa
