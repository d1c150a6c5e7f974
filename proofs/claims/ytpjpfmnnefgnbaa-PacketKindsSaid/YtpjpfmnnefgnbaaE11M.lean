/- What PacketKinds needs, in plain Lean. -/
import Derived.Test.YtpjpfmnnefgnbaaE11K
import Derived.Test.YtpjpfmnnefgnbaaM06
namespace Go.Proofs.Ytpjpfmnnefgnbaa
set_option linter.unusedVariables false
set_option linter.unusedSimpArgs false
open Go
def four4 (T : TupL) : TupL := { T with src := { T.src with six := false }, dst := { T.dst with six := false } }
theorem four4_ok {T : TupL} (h : TupOk T) : TupOk (four4 T) := h
theorem mend_last2 {l : List UInt8} (h : 34 ≤ l.length) {n : Int} (h0 : 0 ≤ n) (h1 : ¬ n > 65535) (e : norm n = norm (sumTo ((zerod l).drop 14) 10)) : 65535 - n = mendS l := by
  rw [mend_sum h]; exact mend_last h0 h1 e
theorem mendS_bd (l : List UInt8) : 0 ≤ mendS l ∧ mendS l ≤ 65535 := ck_bd _
theorem mend_two {l : List UInt8} : ((zerod l).set 24 (b8 (IntKind.i64.wrap ((mendS l).tdiv 256)))).set 25 (b8 ((mendS l).tmod 256)) = mendL l := by
  unfold mendL
  rw [b8_quo (mendS_bd l), b8_rem (mendS_bd l).1]; rfl
section
variable {T : TupL} {f : Int} {load : List UInt8}
theorem kinds_a {l : List UInt8} (hl : 14 ≤ l.length) {z : Int} (hz : 0 ≤ z ∧ z ≤ 65535) :
    (((((z != 2048) && (z != 34525)) && (z != 33024)) && (z != 34984)) && ((pktRead ((l.set 12 (b8 (z / 2 ^ 8))).set 13 (b8 z))).kind != 2)) = false := by
  by_cases h : ((((z != 2048) && (z != 34525)) && (z != 33024)) && (z != 34984)) = true
  · simp only [Bool.and_eq_true, bne_iff_ne, ne_eq] at h
    rw [kind_alien hl hz h.1.1.1 h.1.1.2 h.1.2 h.2]
    simp [give]
  · have h' : ((((z != 2048) && (z != 34525)) && (z != 33024)) && (z != 34984)) = false := by simpa using h
    rw [h']; rfl
theorem kinds_p {p : UInt8} (hT : TupOk T) (h6 : T.src.six = false) (h : whyL link0 T f load.length = 0) (hp : ((((p.toNat : Int) != 6) && ((p.toNat : Int) != 17))) = true) : (pktRead (mendL ((makeL link0 T f load).set 23 p))).kind = 5 := by
  simp only [Bool.and_eq_true, bne_iff_ne, ne_eq] at hp
  rw [kind_port hT h6 h (fun e => hp.1 (by rw [e]; rfl)) (fun e => hp.2 (by rw [e]; rfl))]
  rfl
theorem or32 : b8 (bitOr .u8 ((64 : UInt8).toNat : Int) 32) = 96 := by decide +kernel
theorem or_bd (x y : UInt8) : 0 ≤ bitOr .u8 (x.toNat : Int) (y.toNat : Int) ∧ bitOr .u8 (x.toNat : Int) (y.toNat : Int) < 256 ∧ bitOr .u8 (x.toNat : Int) (y.toNat : Int) = ((x ||| y).toNat : Int) := by
  have e : bitOr .u8 (x.toNat : Int) (y.toNat : Int) = ((x ||| y).toNat : Int) := by
    rw [bitOr_eq (mask_u8 x) (mask_u8 y)]
    simp
  have := (x ||| y).toNat_lt
  rw [e]
  exact ⟨by omega, by omega, rfl⟩
theorem or1_ne (t : UInt8) : t ||| 1 ≠ 0 := by
  intro h
  have h1 := congrArg (fun x : UInt8 => x.toNat.testBit 0) h
  simp at h1
theorem turn_ne (t : UInt8) : b8 (bitXor .u8 ((64 : UInt8).toNat : Int) (bitOr .u8 (t.toNat : Int) ((1 : UInt8).toNat : Int))) ≠ 64 := by
  rw [(or_bd t 1).2.2, b8_xor]
  exact xor_ne (or1_ne t)
theorem get64 {l : List UInt8} {i : Nat} {c : UInt8} (h : l[i]? = some c) (hi : i < l.length) : l[i] = c := by
  rw [List.getElem?_eq_getElem hi] at h; exact Option.some.inj h
end
section
variable {L : List UInt8} {t : UInt8}
theorem set20 {h : 20 < L.length} (h2 : L[20]'h = 64) : L.set 20 (b8 (bitOr .u8 (((L[20]'h).toNat : Nat) : Int) 32)) = L.set 20 96 := by rw [h2, or32]
theorem set22 {h : 22 < L.length} (h2 : L[22]'h = 64) : L.set 22 (b8 (bitXor .u8 (((L[22]'h).toNat : Nat) : Int) (bitOr .u8 (t.toNat : Int) 1))) = L.set 22 (b8 (bitXor .u8 ((64 : UInt8).toNat : Int) (bitOr .u8 (t.toNat : Int) ((1 : UInt8).toNat : Int)))) := by rw [h2]; rfl
theorem set20b {h : 20 < L.length} (h2 : L[20]'h = 64) : 0 ≤ bitOr .u8 (((L[20]'h).toNat : Nat) : Int) 32 ∧ bitOr .u8 (((L[20]'h).toNat : Nat) : Int) 32 < 256 := by rw [h2]; decide +kernel
theorem set22b {h : 22 < L.length} (h2 : L[22]'h = 64) : 0 ≤ bitXor .u8 (((L[22]'h).toNat : Nat) : Int) (bitOr .u8 (t.toNat : Int) 1) ∧ bitXor .u8 (((L[22]'h).toNat : Nat) : Int) (bitOr .u8 (t.toNat : Int) 1) < 256 := by
  have e : bitOr .u8 (t.toNat : Int) 1 = ((t ||| 1).toNat : Int) := (or_bd t 1).2.2
  rw [h2, e]
  exact xor_bd _ _
theorem kinds_p2 {c : Bool} {k : Int} (h : k = 5) : (c && (k != 5)) = false := by rw [h]; simp
end
section
variable {L : LinkL} {T : TupL} {f : Int} {load : List UInt8}
end
end Go.Proofs.Ytpjpfmnnefgnbaa
