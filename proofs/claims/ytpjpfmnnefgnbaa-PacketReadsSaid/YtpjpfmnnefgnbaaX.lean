/- More rules: texts, arrays, addresses, max. -/
import Derived.Test.YtpjpfmnnefgnbaaW
namespace Go.Proofs.Ytpjpfmnnefgnbaa
set_option linter.unusedVariables false
set_option linter.unusedSimpArgs false
open Go.RowKit

theorem wrap_id {k : IntKind} {r : Int} (h0 : 0 ≤ r) (h1 : r ≤ k.max) : k.wrap r = r := by
  cases k <;> simp [IntKind.max, IntKind.signed, IntKind.bits] at h1
  · exact IntWalk.i8_in _ (by omega)
  · exact IntWalk.i16_in _ (by omega)
  · exact IntWalk.i32_in _ (by omega)
  · exact IntWalk.i64_in _ (by omega)
  · exact IntWalk.u8_in _ (by omega)
  · exact IntWalk.u16_in _ (by omega)
  · exact IntWalk.u32_in _ (by omega)
  · exact IntWalk.u64_in _ (by omega)

section
variable {P : Program} {d : Option Tmp} {ty : TypeId} {pos : String} {af : Array Edge} {gd : Option (Nat × Bool)} {a : Act} {w : World}

/-! ## max -/
theorem ok_max2 {x y : Operand} {k : IntKind} {m n : Int} {ats : Array TypeId} (hx : a.eval x = .int k m) (hy : a.eval y = .int k n) : OpOk P ⟨d, .call ⟨.builtin .max, #[x, y], ats⟩, ty, pos, af, gd⟩ a w (Is (.int k (if n > m then n else m))) := by
  refine ok_val (v := .int k (if n > m then n else m)) ?_ rfl
  simp only [execOp, resolve, invoke, builtin]
  simp [hx, hy, Builtin.max_, Builtin.max2]
theorem ok_min2 {x y : Operand} {k : IntKind} {m n : Int} {ats : Array TypeId} (hx : a.eval x = .int k m) (hy : a.eval y = .int k n) : OpOk P ⟨d, .call ⟨.builtin .min, #[x, y], ats⟩, ty, pos, af, gd⟩ a w (Is (.int k (if n < m then n else m))) := by
  refine ok_val (v := .int k (if n < m then n else m)) ?_ rfl
  simp only [execOp, resolve, invoke, builtin]
  simp [hx, hy, Builtin.min_, Builtin.min2]

/-! ## Slices of arrays -/
theorem arr_bs {cs : List Value} {l : List UInt8} {v : Value} {n : Nat} (hc : cs.take n = l.map byteV) (hn : l.length = n) (hm : n ≤ 1000) (hx : Cells cs v w) (lo hi : Nat) (h1 : lo ≤ hi) (h2 : hi ≤ n) :
    ∀ b o, v = .pointer (some ⟨b, o, none⟩) → Bs (subl l lo hi) (slicedAt ⟨b, o, none⟩ lo hi n 1) w := by
  intro b o hv
  obtain ⟨b', o', hv', h⟩ := hx
  rw [hv] at hv'
  simp only [Value.pointer.injEq, Option.some.injEq, Addr.mk.injEq] at hv'
  obtain ⟨rfl, rfl, _⟩ := hv'
  have hlen : (subl l lo hi).length = hi - lo := by simp [subl]; omega
  have hcl : n ≤ cs.length := by
    have := congrArg List.length hc; simp at this; omega
  refine .inr ⟨if n = lo then ⟨b, o, none⟩ else (⟨b, o, none⟩ : Addr).add (lo * 1), n - lo, ?_, by simp [hlen]; omega, by unfold maxLen; omega, fun i hi' => ?_⟩
  · simp only [slicedAt, List.length_map, hlen]
  · simp only [List.length_map, hlen] at hi'
    refine ⟨byteV (l[lo + i]'(by omega)), ?_, ?_⟩
    · rw [if_neg (by omega), Go.WideShapes.add_plain, Go.WideShapes.add_plain, Nat.mul_one, Nat.add_assoc, h (lo + i) (by omega)]
      have : (cs.take n)[lo + i]? = (l.map byteV)[lo + i]? := by rw [hc]
      rw [List.getElem?_take_of_lt (by omega), List.getElem?_map, List.getElem?_eq_getElem (by omega), List.getElem?_eq_getElem (by omega)] at this
      simp only [Option.map_some, Option.some.injEq] at this
      rw [← this]
      simp [List.getD_eq_getElem?_getD, List.getElem?_eq_getElem (show lo + i < cs.length by omega)]
    · rw [getD_map _ _ _ (by omega)]
      have : (subl l lo hi)[i]'(by omega) = l[lo + i]'(by omega) := by simp [subl]
      rw [this]; rfl

theorem arr_of {t e : TypeId} {n : Nat} (hT : P.underlying t = some (.array n e)) : P.underlying t = some (.array (P.arrayLen t) (P.elem t)) ∧ P.arrayLen t = n ∧ P.elem t = e := by
  have h1 : P.arrayLen t = n := by simp [Program.arrayLen, hT]
  have h2 : P.elem t = e := by simp [Program.elem, hT]
  rw [h1, h2]; exact ⟨hT, rfl, rfl⟩

section
variable {t e : TypeId} {n : Nat} {x y z : Operand} {cs : List Value} {l : List UInt8} {k k' : IntKind}
theorem ok_arr_all (hT : P.underlying t = some (.array n e)) (hz : SizeIs P e 1) (hc : cs.take n = l.map byteV) (hn : l.length = n) (hm : n ≤ 1000) (hx : Cells cs (a.eval x) w) :
    OpOk P ⟨d, .slice t x none none none, ty, pos, af, gd⟩ a w (Bs l) := by
  have hs := arr_bs hc hn hm hx 0 n (Nat.zero_le _) (Nat.le_refl _)
  obtain ⟨b, o, hv, _⟩ := hx
  obtain ⟨h1, h2, h3⟩ := arr_of hT
  have hb := hs b o hv
  rw [show subl l 0 n = l from by simp [subl, ← hn]] at hb
  refine ok_val (v := slicedAt ⟨b, o, none⟩ 0 n n 1) ?_ hb
  have hr := run_sliceAt_array_all (P := P) w t ⟨b, o, none⟩ h1
  simp only [h2, h3, hz.run, Result.andThen_ok] at hr
  simp only [execOp, hv, Option.map_none]
  simp [hr]
theorem ok_arr_hi (hi : Nat) (hT : P.underlying t = some (.array n e)) (hz : SizeIs P e 1) (hc : cs.take n = l.map byteV) (hn : l.length = n) (hm : n ≤ 1000) (hx : Cells cs (a.eval x) w) (hy : a.eval y = .int k (hi : Int)) (hb : hi ≤ n) :
    OpOk P ⟨d, .slice t x none (some y) none, ty, pos, af, gd⟩ a w (Bs (l.take hi)) := by
  have hs := arr_bs hc hn hm hx 0 hi (Nat.zero_le _) hb
  obtain ⟨b, o, hv, _⟩ := hx
  obtain ⟨h1, h2, h3⟩ := arr_of hT
  have hbs := hs b o hv
  rw [show subl l 0 hi = l.take hi from by simp [subl]] at hbs
  refine ok_val (v := slicedAt ⟨b, o, none⟩ 0 hi n 1) ?_ hbs
  have hr := run_sliceAt_array_h (P := P) w t ⟨b, o, none⟩ h1 k hi (by omega) (by omega)
  simp only [h2, h3, hz.run, Result.andThen_ok, Int.toNat_natCast] at hr
  simp only [execOp, hv, hy, Option.map_none, Option.map_some]
  simp [hr]
theorem ok_arr_lo (lo : Nat) (hT : P.underlying t = some (.array n e)) (hz : SizeIs P e 1) (hc : cs.take n = l.map byteV) (hn : l.length = n) (hm : n ≤ 1000) (hx : Cells cs (a.eval x) w) (hy : a.eval y = .int k (lo : Int)) (hb : lo ≤ n) :
    OpOk P ⟨d, .slice t x (some y) none none, ty, pos, af, gd⟩ a w (Bs (l.drop lo)) := by
  have hs := arr_bs hc hn hm hx lo n hb (Nat.le_refl _)
  obtain ⟨b, o, hv, _⟩ := hx
  obtain ⟨h1, h2, h3⟩ := arr_of hT
  have hbs := hs b o hv
  rw [show subl l lo n = l.drop lo from by simp [subl, ← hn]] at hbs
  refine ok_val (v := slicedAt ⟨b, o, none⟩ lo n n 1) ?_ hbs
  have hr := run_sliceAt_array_l (P := P) w t ⟨b, o, none⟩ h1 k lo (by omega) (by omega)
  simp only [h2, h3, hz.run, Result.andThen_ok, Int.toNat_natCast] at hr
  simp only [execOp, hv, hy, Option.map_none, Option.map_some]
  simp [hr]
end

/-! ## Addresses -/
structure Adr where
  six : Bool
  b : List UInt8
def adrCells (A : Adr) : List Value := .bool A.six :: A.b.map byteV
def AdrV (A : Adr) : Value := .agg (adrCells A).toArray
def adr0 : Adr := ⟨false, List.replicate 16 0⟩
theorem adr_take {A : Adr} (h : A.b.length = 16) : ((adrCells A).drop 1).take 16 = A.b.map byteV := by
  simp [adrCells, List.take_of_length_le, h]

/-! ## Numbers made wider; zero values -/
theorem ok_convB {src dst : TypeId} {D : TypeDesc} {k' : IntKind} {x : Operand} {c : UInt8} (hs : P.underlying src = some D) (hd : P.underlying dst = some (.int k')) (hk : decide (255 ≤ k'.max) = true) (hx : ByteIs c (a.eval x) w) :
    OpOk P ⟨d, .convert src dst x, ty, pos, af, gd⟩ a w (Is (.int k' (c.toNat : Int))) := by
  have := ok_conv (d := d) (ty := ty) (pos := pos) (af := af) (gd := gd) (w := w) hs hd (show a.eval x = .int .u8 (c.toNat : Int) from hx)
  rwa [wrap_id (by omega) (by have := c.toNat_lt; have h2 := of_decide_eq_true hk; omega)] at this
theorem ok_convI {src dst : TypeId} {D : TypeDesc} {k k' : IntKind} {x : Operand} {n : Int} (hs : P.underlying src = some D) (hd : P.underlying dst = some (.int k')) (hk : k'.wrap n = n) (hx : a.eval x = .int k n) :
    OpOk P ⟨d, .convert src dst x, ty, pos, af, gd⟩ a w (Is (.int k' n)) := by
  have := ok_conv (d := d) (ty := ty) (pos := pos) (af := af) (gd := gd) (w := w) hs hd hx
  rwa [hk] at this
theorem ok_build0 {t : TypeId} {cs : Array Value} (h : P.built t [] = some cs) : OpOk P ⟨d, .build t #[], ty, pos, af, gd⟩ a w (Is (.agg cs)) := by
  refine ok_val (v := .agg cs) ?_ rfl
  have := run_build (P := P) w t #[] cs h
  simp only [execOp]
  simp [this]
end
end Go.Proofs.Ytpjpfmnnefgnbaa
