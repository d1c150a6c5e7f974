/- Rules: what one operation yields, from what is known of its operands. -/
import Derived.Test.YtpjpfmnnefgnbaaK
namespace Go.Proofs.Ytpjpfmnnefgnbaa
set_option linter.unusedVariables false
set_option linter.unusedSimpArgs false
open Go.RowKit

/-! ## Predicates on values -/

def Is (c : Value) : VP := fun v _ => v = c
instance (c : Value) : Stb (Is c) := ⟨fun _ _ _ _ h => h⟩
theorem anyw {c v : Value} {w w2 : World} (h : Is c v w) : Is c v w2 := h
theorem Is.conv {c c' v : Value} {w : World} (s : Is c v w) (h : c = c') : Is c' v w := h ▸ s
theorem Is.int {k : IntKind} {m n : Int} {v : Value} {w : World} (s : Is (.int k m) v w) (h : m = n) : Is (.int k n) v w := h ▸ s
theorem Is.bool {p q : Bool} {v : Value} {w : World} (s : Is (.bool p) v w) (h : p = q) : Is (.bool q) v w := h ▸ s

/-- Under a condition; else nothing was put there. -/
def G (c : Bool) (V : VP) : VP := fun v w => (c = true → V v w) ∧ (c = false → v = undef)
instance (c : Bool) (V : VP) [h : Stb V] : Stb (G c V) := ⟨fun _ _ _ hx g => ⟨fun hc => h.st _ _ _ hx (g.1 hc), g.2⟩⟩

/-- A slice whose elements take one cell each. -/
def Sl (Rs : List VP) : VP := fun v w => (v = .slice none 0 0 ∧ Rs = []) ∨
  ∃ p cap, v = .slice (some p) Rs.length cap ∧ Rs.length ≤ cap ∧ cap ≤ maxLen ∧ ∀ i, i < Rs.length → ∃ x, w.cell? (p.add i) = some x ∧ (Rs.getD i VP.top) x w

theorem Sl.stable {Rs : List VP} (h : ∀ i, i < Rs.length → (Rs.getD i VP.top).Stable) : (Sl Rs).Stable := by
  intro v w w' hx hv
  rcases hv with hv | ⟨p, cap, h1, h2, h3, h4⟩
  · exact .inl hv
  · exact .inr ⟨p, cap, h1, h2, h3, fun i hi => by
      obtain ⟨x, hc, hr⟩ := h4 i hi
      exact ⟨x, hx.cell hc, h i hi _ _ _ hx hr⟩⟩

def byteV (c : UInt8) : Value := .int .u8 (c.toNat : Int)
def ByteIs (c : UInt8) : VP := Is (byteV c)
instance (c : UInt8) : Stb (ByteIs c) := inferInstanceAs (Stb (Is _))
/-- A slice of bytes. -/
def Bs (l : List UInt8) : VP := Sl (l.map ByteIs)
/-- A slice of slices of bytes. -/
def Bss (ls : List (List UInt8)) : VP := Sl (ls.map Bs)
/-- A slice of ints of a kind. -/
def Ns (k : IntKind) (l : List Int) : VP := Sl (l.map fun n => Is (.int k n))

theorem getD_map {α : Type} (f : α → VP) (l : List α) (i : Nat) (h : i < l.length) : (l.map f).getD i VP.top = f l[i] := by
  simp [List.getD_eq_getElem?_getD, h]

instance (l : List UInt8) : Stb (Bs l) := ⟨Sl.stable fun i hi => by
  rw [getD_map _ _ _ (by simpa using hi)]; exact fun _ _ _ _ h => h⟩
instance (ls : List (List UInt8)) : Stb (Bss ls) := ⟨Sl.stable fun i hi => by
  rw [getD_map _ _ _ (by simpa using hi)]; exact Stb.st⟩
instance (k : IntKind) (l : List Int) : Stb (Ns k l) := ⟨Sl.stable fun i hi => by
  rw [getD_map _ _ _ (by simpa using hi)]; exact fun _ _ _ _ h => h⟩

/-- A pointer to a cell that holds such a value. -/
def Ptr (V : VP) : VP := fun v w => ∃ p x, v = .pointer (some p) ∧ p.spot = none ∧ w.cell? p = some x ∧ V x w
instance (V : VP) [h : Stb V] : Stb (Ptr V) := ⟨fun _ _ _ hx ⟨p, x, h1, h2, h3, h4⟩ => ⟨p, x, h1, h2, hx.cell h3, h.st _ _ _ hx h4⟩⟩

/-- A pointer to a row of cells (a struct's, an array's), all known. -/
def Cells (cs : List Value) : VP := fun v w => ∃ b o, v = .pointer (some ⟨b, o, none⟩) ∧ ∀ i, i < cs.length → w.cell? ⟨b, o + i, none⟩ = some (cs.getD i undef)
instance (cs : List Value) : Stb (Cells cs) := ⟨fun _ _ _ hx ⟨b, o, h1, h2⟩ => ⟨b, o, h1, fun i hi => hx.cell (h2 i hi)⟩⟩

/-- Two, three results. -/
def Tup2 (V U : VP) : VP := fun v w => ∃ x y, v = .tuple #[x, y] ∧ V x w ∧ U y w
instance (V U : VP) [h : Stb V] [k : Stb U] : Stb (Tup2 V U) := ⟨fun _ _ _ hx ⟨x, y, h1, h2, h3⟩ => ⟨x, y, h1, h.st _ _ _ hx h2, k.st _ _ _ hx h3⟩⟩
def Tup3 (V U T : VP) : VP := fun v w => ∃ x y z, v = .tuple #[x, y, z] ∧ V x w ∧ U y w ∧ T z w
instance (V U T : VP) [h : Stb V] [k : Stb U] [j : Stb T] : Stb (Tup3 V U T) := ⟨fun _ _ _ hx ⟨x, y, z, h1, h2, h3, h4⟩ => ⟨x, y, z, h1, h.st _ _ _ hx h2, k.st _ _ _ hx h3, j.st _ _ _ hx h4⟩⟩

theorem mv {V : VP} {a0 a : Act} {w0 w : World} {x y : Operand} (s : V (a0.eval x) w0) (e : Is (a0.eval x) (a.eval y) w) : V (a.eval y) w0 := by rw [show a.eval y = a0.eval x from e]; exact s
theorem ec (a : Act) (c : Value) : a.eval (.const c) = c := rfl
/-- A predicate, behind a name, so that a goal's own unknown predicate is met last. -/
@[reducible] def vp (V : VP) : VP := V

/-! ## Guards -/
section
variable {P : Program} {ops : Array Oper} {d : Option Tmp} {op : Op} {ty : TypeId} {pos : String} {af : Array Edge} {gd : Option (Nat × Bool)} {a : Act} {w : World} {V : VP}

theorem obl (h : OpOk P ⟨d, op, ty, pos, af, none⟩ a w V) : Obl P ops ⟨d, op, ty, pos, af, none⟩ a w V := by
  unfold Obl; rw [if_pos (by rfl)]; exact h

theorem okG {o : Oper} {c : Bool} (hc : c = true) (h : OpOk P o a w V) : OpOk P o a w (G c V) := by
  unfold OpOk at *
  generalize (execOp a.eval o).run P w = r at h ⊢
  have hn : ∀ v : Value, c = false → v = undef := fun v h => by rw [hc] at h; cases h
  cases r with
  | halt _ _ => exact h.elim
  | ok n w' =>
    cases n <;> first | exact h.elim | skip
    case value v => exact ⟨h.1, fun _ => h.2, hn v⟩
    case skip => exact ⟨h.1, fun _ => h.2, hn _⟩
    case enter f args => exact ⟨h.1, h.2.mono fun e w'' ⟨v, he, hx, hv⟩ => ⟨v, he, hx, fun _ => hv, hn v⟩⟩
theorem gno {c : Bool} (hc : c = false) : G c V undef w := ⟨fun h => (by rw [hc] at h; cases h), fun _ => rfl⟩
theorem gd_t {t : Tmp} {o : Oper} {p : Bool} (hv : a.eval (.tmp t) = .bool p) (h : p = true → OpOk P o a w V) : Gd P t true o a w (G p V) := by
  unfold Gd; rw [hv]
  cases p with
  | true => exact okG rfl (h rfl)
  | false => exact gno rfl
theorem gd_f {t : Tmp} {o : Oper} {p : Bool} (hv : a.eval (.tmp t) = .bool p) (h : (!p) = true → OpOk P o a w V) : Gd P t false o a w (G (!p) V) := by
  unfold Gd; rw [hv]
  cases p with
  | false => exact okG rfl (h rfl)
  | true => exact gno rfl
theorem gd_gf {t : Tmp} {o : Oper} {c p : Bool} (hv : G c (Is (.bool p)) (a.eval (.tmp t)) w) (h : (c && !p) = true → OpOk P o a w V) : Gd P t false o a w (G (c && !p) V) := by
  cases c with
  | true => exact gd_f (hv.1 rfl) h
  | false => unfold Gd; rw [show a.eval (.tmp t) = undef from hv.2 rfl]; exact gno rfl

theorem G.get {c : Bool} {v : Value} (h : G c V v w) (hc : c = true) : V v w := h.1 hc
theorem G.strip {c p : Bool} {v : Value} (hc : c = true) (h : G (c && p) V v w) : G p V v w := by subst hc; simpa using h

theorem oc0 {a0 : Act} {w0 : World} {Vs : List VP} {os : List Oper} {p : List (Tmp × Option Nat)} {ps : Plan} {Vr : List VP}
    (h : ∀ a w, Ext w0 w → factsL Vs a0 a w p → OpOk P ⟨d, op, ty, pos, af, none⟩ a w V) (k : OpsOk P ops a0 w0 Vs os ps Vr) : OpsOk P ops a0 w0 Vs (⟨d, op, ty, pos, af, none⟩ :: os) (p :: ps) (V :: Vr) :=
  ⟨fun a w hx hf => obl (h a w hx hf), k⟩

/-- What holds of a value in a world that is gone by. -/
def AtW (W : World) (V : VP) : VP := fun v _ => V v W
theorem OpOk.atw {o : Oper} [s : Stb V] (h : OpOk P o a w (AtW w V)) : OpOk P o a w V := by
  unfold OpOk okUpon at *
  generalize (execOp a.eval o).run P w = r at h ⊢
  cases r with
  | halt x w' => exact h
  | ok nx w' =>
    cases nx <;> first | exact h | skip
    case value v => exact ⟨h.1, s.st _ _ _ h.1 h.2⟩
    case skip => exact ⟨h.1, s.st _ _ _ h.1 h.2⟩
    case enter f args => exact ⟨h.1, h.2.mono fun e w'' ⟨v, he, hx, hv⟩ => ⟨v, he, hx, s.st _ _ _ hx hv⟩⟩

instance (W : World) (V : VP) : Stb (AtW W V) := ⟨fun _ _ _ _ h => h⟩
theorem AtW.base {W w : World} {v : Value} (h : AtW W V v w) : V v W := h
theorem AtW.now {W w w2 : World} {v : Value} [s : Stb V] (h : AtW W V v w2) (hx : Ext W w) : V v w := s.st _ _ _ hx h
/-! ## Moves, picks -/

theorem ok_val {v : Value} (h : (execOp a.eval ⟨d, op, ty, pos, af, gd⟩).run P w = .ok (.value v) w) (hv : V v w) : OpOk P ⟨d, op, ty, pos, af, gd⟩ a w V := by
  unfold OpOk; rw [h]; exact ⟨Ext.refl _, hv⟩
theorem ok_move {x : Operand} (h : V (a.eval x) w) : OpOk P ⟨d, .move x, ty, pos, af, gd⟩ a w (vp V) := ok_val rfl h
theorem ok_assign {x : Operand} (h : V (a.eval x) w) : OpOk P ⟨d, .assign x, ty, pos, af, gd⟩ a w (vp V) := ok_val rfl h
theorem ok_movE {a0 : Act} {x : Operand} (e : a.eval x = a0.eval x) : OpOk P ⟨d, .move x, ty, pos, af, gd⟩ a w (Is (a0.eval x)) := ok_val rfl e
theorem ok_movec {c : Value} : OpOk P ⟨d, .move (.const c), ty, pos, af, gd⟩ a w (Is c) := ok_val rfl rfl
theorem ok_assignc {c : Value} : OpOk P ⟨d, .assign (.const c), ty, pos, af, gd⟩ a w (Is c) := ok_val rfl rfl
theorem ok_assignv {c : Value} (V : VP) (h : ∀ w, V c w) : OpOk P ⟨d, .assign (.const c), ty, pos, af, gd⟩ a w V := ok_val rfl (h w)
theorem ok_and {c x : Operand} {p q : Bool} (hc : a.eval c = .bool p) (hx : G p (Is (.bool q)) (a.eval x) w) : OpOk P ⟨d, .pick c x (.const (.bool false)), ty, pos, af, gd⟩ a w (Is (.bool (p && q))) := by
  refine ok_val (v := .bool (p && q)) ?_ rfl
  cases p with
  | false => simp only [execOp, hc]; rfl
  | true => have h : a.eval x = .bool q := hx.1 rfl
            simp only [execOp, hc, h]; rfl
theorem ok_or {c x : Operand} {p q : Bool} (hc : a.eval c = .bool p) (hx : G (!p) (Is (.bool q)) (a.eval x) w) : OpOk P ⟨d, .pick c (.const (.bool true)) x, ty, pos, af, gd⟩ a w (Is (.bool (p || q))) := by
  refine ok_val (v := .bool (p || q)) ?_ rfl
  cases p with
  | true => simp only [execOp, hc]; rfl
  | false => have h : a.eval x = .bool q := hx.1 rfl
             simp only [execOp, hc, h]; rfl

/-! ## Integers and bools -/

theorem ok_not {t : TypeId} {x : Operand} {p : Bool} (hx : a.eval x = .bool p) : OpOk P ⟨d, .unOp .not t x, ty, pos, af, gd⟩ a w (Is (.bool (!p))) :=
  ok_val (v := .bool (!p)) (by simp [execOp, hx, Op.unary]) rfl

section
variable {t t' : TypeId} {x y : Operand} {k : IntKind} {m n : Int}
theorem ok_bin {o : BinOp} {v : Value} (hg : o ≠ .shl ∧ o ≠ .shr) (hx : a.eval x = .int k m) (hy : a.eval y = .int k n)
    (h : (match o with | .add | .sub | .mul => Op.intArith o k m n | .quo | .rem => Op.intDiv o k m n | .and | .or | .xor | .andNot => Op.intBits o k m n | _ => Op.intCmp o m n) = pure v) (hv : V v w) :
    OpOk P ⟨d, .binOp o t x y t', ty, pos, af, gd⟩ a w V := by
  refine ok_val (v := v) ?_ hv
  have he : (eqGuard o t x y (.int k m) (.int k n)).run P w = .ok () w := by
    unfold eqGuard; split <;> rfl
  simp only [execOp, hx, hy]
  have hb : binOp o t (.int k m) (.int k n) = pure v := by
    rw [← h]; cases o <;> first | exact absurd rfl hg.1 | exact absurd rfl hg.2 | simp [binOp]
  rw [hb]
  simp [he]
theorem ok_add (hx : a.eval x = .int k m) (hy : a.eval y = .int k n) : OpOk P ⟨d, .binOp .add t x y t', ty, pos, af, gd⟩ a w (Is (.int k (k.wrap (m + n)))) := ok_bin (by simp) hx hy rfl rfl
theorem ok_sub (hx : a.eval x = .int k m) (hy : a.eval y = .int k n) : OpOk P ⟨d, .binOp .sub t x y t', ty, pos, af, gd⟩ a w (Is (.int k (k.wrap (m - n)))) := ok_bin (by simp) hx hy rfl rfl
theorem ok_mul (hx : a.eval x = .int k m) (hy : a.eval y = .int k n) : OpOk P ⟨d, .binOp .mul t x y t', ty, pos, af, gd⟩ a w (Is (.int k (k.wrap (m * n)))) := ok_bin (by simp) hx hy rfl rfl
theorem ok_eql (hx : a.eval x = .int k m) (hy : a.eval y = .int k n) : OpOk P ⟨d, .binOp .eql t x y t', ty, pos, af, gd⟩ a w (Is (.bool (m == n))) := ok_bin (by simp) hx hy rfl rfl
theorem ok_neq (hx : a.eval x = .int k m) (hy : a.eval y = .int k n) : OpOk P ⟨d, .binOp .neq t x y t', ty, pos, af, gd⟩ a w (Is (.bool (m != n))) := ok_bin (by simp) hx hy rfl rfl
theorem ok_lss (hx : a.eval x = .int k m) (hy : a.eval y = .int k n) : OpOk P ⟨d, .binOp .lss t x y t', ty, pos, af, gd⟩ a w (Is (.bool (decide (m < n)))) := ok_bin (by simp) hx hy rfl rfl
theorem ok_leq (hx : a.eval x = .int k m) (hy : a.eval y = .int k n) : OpOk P ⟨d, .binOp .leq t x y t', ty, pos, af, gd⟩ a w (Is (.bool (decide (m ≤ n)))) := ok_bin (by simp) hx hy rfl rfl
theorem ok_gtr (hx : a.eval x = .int k m) (hy : a.eval y = .int k n) : OpOk P ⟨d, .binOp .gtr t x y t', ty, pos, af, gd⟩ a w (Is (.bool (decide (m > n)))) := ok_bin (by simp) hx hy rfl rfl
theorem ok_geq (hx : a.eval x = .int k m) (hy : a.eval y = .int k n) : OpOk P ⟨d, .binOp .geq t x y t', ty, pos, af, gd⟩ a w (Is (.bool (decide (m ≥ n)))) := ok_bin (by simp) hx hy rfl rfl
theorem ok_quo (hn : n ≠ 0) (hx : a.eval x = .int k m) (hy : a.eval y = .int k n) : OpOk P ⟨d, .binOp .quo t x y t', ty, pos, af, gd⟩ a w (Is (.int k (k.wrap (m.tdiv n)))) := ok_bin (by simp) hx hy (by simp [Op.intDiv, hn]) rfl
theorem ok_rem (hn : n ≠ 0) (hx : a.eval x = .int k m) (hy : a.eval y = .int k n) : OpOk P ⟨d, .binOp .rem t x y t', ty, pos, af, gd⟩ a w (Is (.int k (m.tmod n))) := ok_bin (by simp) hx hy (by simp [Op.intDiv, hn]) rfl

/-- int: no overflow. -/
theorem ok_addI {m n : Int} (hx : a.eval x = .int .i64 m) (hy : a.eval y = .int .i64 n) (hr : -9223372036854775808 ≤ m + n ∧ m + n ≤ 9223372036854775807) : OpOk P ⟨d, .binOp .add t x y t', ty, pos, af, gd⟩ a w (Is (.int .i64 (m + n))) := by
  have := ok_add (P := P) (d := d) (ty := ty) (pos := pos) (af := af) (gd := gd) (w := w) (t := t) (t' := t') hx hy
  rwa [IntWalk.i64_in _ (by omega)] at this
theorem ok_subI {m n : Int} (hx : a.eval x = .int .i64 m) (hy : a.eval y = .int .i64 n) (hr : -9223372036854775808 ≤ m - n ∧ m - n ≤ 9223372036854775807) : OpOk P ⟨d, .binOp .sub t x y t', ty, pos, af, gd⟩ a w (Is (.int .i64 (m - n))) := by
  have := ok_sub (P := P) (d := d) (ty := ty) (pos := pos) (af := af) (gd := gd) (w := w) (t := t) (t' := t') hx hy
  rwa [IntWalk.i64_in _ (by omega)] at this
theorem ok_mulI {m n : Int} (hx : a.eval x = .int .i64 m) (hy : a.eval y = .int .i64 n) (hr : -9223372036854775808 ≤ m * n ∧ m * n ≤ 9223372036854775807) : OpOk P ⟨d, .binOp .mul t x y t', ty, pos, af, gd⟩ a w (Is (.int .i64 (m * n))) := by
  have := ok_mul (P := P) (d := d) (ty := ty) (pos := pos) (af := af) (gd := gd) (w := w) (t := t) (t' := t') hx hy
  rwa [IntWalk.i64_in _ (by omega)] at this

def bitAnd (k : IntKind) (m n : Int) : Int := k.wrap (BitVec.ofInt k.bits m &&& BitVec.ofInt k.bits n).toNat
def bitOr (k : IntKind) (m n : Int) : Int := k.wrap (BitVec.ofInt k.bits m ||| BitVec.ofInt k.bits n).toNat
def bitXor (k : IntKind) (m n : Int) : Int := k.wrap (BitVec.ofInt k.bits m ^^^ BitVec.ofInt k.bits n).toNat
theorem ok_andb (hx : a.eval x = .int k m) (hy : a.eval y = .int k n) : OpOk P ⟨d, .binOp .and t x y t', ty, pos, af, gd⟩ a w (Is (.int k (bitAnd k m n))) := ok_bin (by simp) hx hy rfl rfl
theorem ok_orb (hx : a.eval x = .int k m) (hy : a.eval y = .int k n) : OpOk P ⟨d, .binOp .or t x y t', ty, pos, af, gd⟩ a w (Is (.int k (bitOr k m n))) := ok_bin (by simp) hx hy rfl rfl
theorem ok_shift {o : BinOp} {k' : IntKind} {v : Value} (ho : o = .shl ∨ o = .shr) (hx : a.eval x = .int k m) (hy : a.eval y = .int k' n) (h : Op.shift o k m k' n = pure v) (hv : V v w) :
    OpOk P ⟨d, .binOp o t x y t', ty, pos, af, gd⟩ a w V := by
  refine ok_val (v := v) ?_ hv
  have he : (eqGuard o t x y (.int k m) (.int k' n)).run P w = .ok () w := by
    unfold eqGuard; rcases ho with rfl | rfl <;> rfl
  simp only [execOp, hx, hy]
  have hb : binOp o t (.int k m) (.int k' n) = pure v := by
    rw [← h]; rcases ho with rfl | rfl <;> rfl
  rw [hb]
  simp [he]
/-- Shifts by a small constant number. -/
theorem ok_shl {k' : IntKind} (n : Nat) (hn : n ≤ k.bits) (hx : a.eval x = .int k m) (hy : a.eval y = .int k' n) : OpOk P ⟨d, .binOp .shl t x y t', ty, pos, af, gd⟩ a w (Is (.int k (k.wrap (m * 2 ^ n)))) :=
  ok_shift (.inl rfl) hx hy (by unfold Op.shift; rw [if_neg (by omega)]; simp [Nat.min_eq_left hn]) rfl
theorem ok_shr {k' : IntKind} (n : Nat) (hn : n ≤ k.bits) (hx : a.eval x = .int k m) (hy : a.eval y = .int k' n) : OpOk P ⟨d, .binOp .shr t x y t', ty, pos, af, gd⟩ a w (Is (.int k (m / 2 ^ n))) :=
  ok_shift (.inr rfl) hx hy (v := .int k (m / 2 ^ n)) (by
    unfold Op.shift; rw [if_neg (by omega)]; simp only [Int.toNat_natCast, Nat.min_eq_left hn]
    rw [Int.fdiv_eq_ediv_of_nonneg _ (Int.le_of_lt (Int.pow_pos (by decide)))]) rfl
def bitNot (k : IntKind) (n : Int) : Int := k.wrap (BitVec.ofInt k.bits (if k.signed then -1 else k.max) ^^^ BitVec.ofInt k.bits n).toNat
theorem ok_compl {t : TypeId} (hx : a.eval x = .int k n) : OpOk P ⟨d, .unOp .xor t x, ty, pos, af, gd⟩ a w (Is (.int k (bitNot k n))) :=
  ok_val (v := .int k (bitNot k n)) (by simp [execOp, hx, Op.unary, Op.intBits, bitNot]) rfl
theorem ok_conv {src dst : TypeId} {D : TypeDesc} {k' : IntKind} (hs : P.underlying src = some D) (hd : P.underlying dst = some (.int k')) (hx : a.eval x = .int k n) : OpOk P ⟨d, .convert src dst x, ty, pos, af, gd⟩ a w (Is (.int k' (k'.wrap n))) :=
  ok_val (v := .int k' (k'.wrap n)) (by simp [execOp, hx, convert, run_underlying hs, run_underlying hd, Conv.intToInt]) rfl
end

/-! ## Slices, pointers -/

def SizeIs (P : Program) (e : TypeId) (n : Nat) : Prop := (P.info? e).map (·.size) = some n
def ZeroIs (P : Program) (e : TypeId) (z : Value) : Prop := (P.info? e).map (·.zero) = some (some z)
theorem SizeIs.run {e : TypeId} {n : Nat} (h : SizeIs P e n) (w : World) : (sizeOf e).run P w = .ok n w := by
  unfold SizeIs at h
  cases hi : P.info? e with
  | none => rw [hi] at h; cases h
  | some i => rw [hi] at h; simp at h; simp [sizeOf, typeInfo, hi, h]
theorem ZeroIs.run {e : TypeId} {z : Value} (h : ZeroIs P e z) (w : World) : (zeroValue e).run P w = .ok z w := by
  unfold ZeroIs at h
  cases hi : P.info? e with
  | none => rw [hi] at h; cases h
  | some i => rw [hi] at h; simp at h; simp [zeroValue, typeInfo, hi, h]

theorem Sl.some_of {Rs : List VP} {v : Value} (h : Sl Rs v w) {i : Nat} (hi : i < Rs.length) :
    ∃ p cap x, v = .slice (some p) Rs.length cap ∧ p.spot = none ∧ w.cell? (p.add i) = some x ∧ (Rs.getD i VP.top) x w := by
  rcases h with ⟨_, rfl⟩ | ⟨p, cap, h1, h2, h3, h4⟩
  · simp at hi
  · obtain ⟨x, hc, hr⟩ := h4 i hi
    obtain ⟨x0, hc0, _⟩ := h4 0 (by omega)
    refine ⟨p, cap, x, h1, ?_, hc, hr⟩
    have := World.cell?_spot hc0
    simpa [Addr.add] using this

theorem Sl.len {Rs : List VP} {v : Value} (h : Sl Rs v w) : ∃ p cap, v = .slice p Rs.length cap := by
  rcases h with ⟨rfl, rfl⟩ | ⟨p, cap, h1, _⟩
  · exact ⟨_, _, rfl⟩
  · exact ⟨_, _, h1⟩

theorem ok_len {t : TypeId} {e : TypeId} {x : Operand} {Rs : List VP} {n : Nat} (hT : P.underlying t = some (.slice e)) (hx : Sl Rs (a.eval x) w) (hn : Rs.length = n) :
    OpOk P ⟨d, .call ⟨.builtin .len, #[x], #[t]⟩, ty, pos, af, gd⟩ a w (Is (.int .i64 n)) := by
  obtain ⟨p, cap, h⟩ := hx.len
  subst hn
  exact ok_val (v := .int .i64 Rs.length) (by simp [execOp, resolve, invoke, builtin, Builtin.len_, h, run_underlying hT, goInt]) rfl

theorem ok_len_bs {t : TypeId} {e : TypeId} {x : Operand} {l : List UInt8} (hT : P.underlying t = some (.slice e)) (hx : Bs l (a.eval x) w) :
    OpOk P ⟨d, .call ⟨.builtin .len, #[x], #[t]⟩, ty, pos, af, gd⟩ a w (Is (.int .i64 l.length)) := ok_len hT hx (by simp)
theorem ok_len_bss {t : TypeId} {e : TypeId} {x : Operand} {l : List (List UInt8)} (hT : P.underlying t = some (.slice e)) (hx : Bss l (a.eval x) w) :
    OpOk P ⟨d, .call ⟨.builtin .len, #[x], #[t]⟩, ty, pos, af, gd⟩ a w (Is (.int .i64 l.length)) := ok_len hT hx (by simp)
theorem ok_len_ns {t : TypeId} {e : TypeId} {x : Operand} {k : IntKind} {l : List Int} (hT : P.underlying t = some (.slice e)) (hx : Ns k l (a.eval x) w) :
    OpOk P ⟨d, .call ⟨.builtin .len, #[x], #[t]⟩, ty, pos, af, gd⟩ a w (Is (.int .i64 l.length)) := ok_len hT hx (by simp)

/-- 's[i]': the address; the load behind it. -/
theorem ok_indexAddr {t e : TypeId} {x y : Operand} {k : IntKind} {Rs : List VP} (i : Nat) (hT : P.underlying t = some (.slice e)) (hz : SizeIs P e 1) (hx : Sl Rs (a.eval x) w) (hy : a.eval y = .int k (i : Int)) (hi : i < Rs.length) :
    OpOk P ⟨d, .indexAddr t x y, ty, pos, af, gd⟩ a w (Ptr (Rs.getD i VP.top)) := by
  obtain ⟨p, cap, u, hv, hs, hc, hr⟩ := hx.some_of hi
  refine ok_val (v := .pointer (some (p.add i))) ?_ ⟨p.add i, u, rfl, ?_, hc, hr⟩
  · have h1 : (0 : Int) ≤ i ∧ (i : Int) < (Rs.length : Int) := by omega
    simp [execOp, Instr.indexAt, hv, hy, asIntOf, run_underlying hT, hz.run, hi]
  · unfold Addr.add; split <;> simp [hs]

theorem ok_load {t : TypeId} {D : TypeDesc} {x : Operand} (hT : P.underlying t = some D) (hD : (match D with | .struct _ | .array _ _ => false | _ => true) = true) (hx : Ptr V (a.eval x) w) :
    OpOk P ⟨d, .load t x, ty, pos, af, gd⟩ a w V := by
  obtain ⟨p, u, hv, hs, hc, hr⟩ := hx
  refine ok_val (v := u) ?_ hr
  have hagg : (isAgg t).run P w = .ok false w := by
    unfold isAgg
    simp only [Sem.run_bind, run_underlying hT, Result.andThen_ok]
    cases D <;> first | rfl | (simp at hD)
  simp [execOp, Instr.loadAt, hv, Instr.sureAddr, loadVar, hagg, hc]

theorem ok_index_bs {t e : TypeId} {x y : Operand} {k : IntKind} {l : List UInt8} (i : Nat) (hT : P.underlying t = some (.slice e)) (hz : SizeIs P e 1) (hx : Bs l (a.eval x) w) (hy : a.eval y = .int k (i : Int)) (hi : i < l.length) :
    OpOk P ⟨d, .indexAddr t x y, ty, pos, af, gd⟩ a w (Ptr (ByteIs l[i])) := by
  have := ok_indexAddr (d := d) (ty := ty) (pos := pos) (af := af) (gd := gd) i hT hz hx hy (by simpa using hi)
  rwa [getD_map _ _ _ hi] at this
theorem ok_index_bss {t e : TypeId} {x y : Operand} {k : IntKind} {l : List (List UInt8)} (i : Nat) (hT : P.underlying t = some (.slice e)) (hz : SizeIs P e 1) (hx : Bss l (a.eval x) w) (hy : a.eval y = .int k (i : Int)) (hi : i < l.length) :
    OpOk P ⟨d, .indexAddr t x y, ty, pos, af, gd⟩ a w (Ptr (Bs l[i])) := by
  have := ok_indexAddr (d := d) (ty := ty) (pos := pos) (af := af) (gd := gd) i hT hz hx hy (by simpa using hi)
  rwa [getD_map _ _ _ hi] at this
theorem ok_index_ns {t e : TypeId} {x y : Operand} {k k' : IntKind} {l : List Int} (i : Nat) (hT : P.underlying t = some (.slice e)) (hz : SizeIs P e 1) (hx : Ns k' l (a.eval x) w) (hy : a.eval y = .int k (i : Int)) (hi : i < l.length) :
    OpOk P ⟨d, .indexAddr t x y, ty, pos, af, gd⟩ a w (Ptr (Is (.int k' l[i]))) := by
  have := ok_indexAddr (d := d) (ty := ty) (pos := pos) (af := af) (gd := gd) i hT hz hx hy (by simpa using hi)
  rwa [getD_map _ _ _ hi] at this

/-- A row that is new. -/
theorem cell_new (w : World) (cs : Array Value) (e : TypeId) (i : Nat) : (w.alloc (.cells cs e)).cell? ⟨w.heap.size, i, none⟩ = cs[i]? := by
  unfold World.cell?
  rw [heap_alloc_new]
  rfl

/-- A variable of its own: a struct, an array. -/
theorem ok_box {t : TypeId} {x : Operand} {v : Value} (hx : a.eval x = v) : OpOk P ⟨d, .box t x, ty, pos, af, gd⟩ a w (Cells v.cells.toList) := by
  unfold OpOk
  have : (execOp a.eval ⟨d, .box t x, ty, pos, af, gd⟩).run P w = .ok (.value (.pointer (some ⟨w.heap.size, 0, none⟩))) (w.alloc (.cells v.cells t)) := by
    simp [execOp, Instr.box, newVar, newRow, hx]
  rw [this]
  refine ⟨(Ext.refl w).alloc _, w.heap.size, 0, rfl, fun i hi => ?_⟩
  rw [cell_new]
  simp [List.getD_eq_getElem?_getD, List.getElem?_eq_getElem hi]

theorem ok_boxA {t : TypeId} {x : Operand} {cs : List Value} (hx : a.eval x = .agg cs.toArray) : OpOk P ⟨d, .box t x, ty, pos, af, gd⟩ a w (Cells cs) := ok_box hx
theorem Cells.drop {cs : List Value} {b o n : Nat} (h : ∀ i, i < cs.length → w.cell? ⟨b, o + i, none⟩ = some (cs.getD i undef)) : ∀ i, i < (cs.drop n).length → w.cell? ⟨b, o + n + i, none⟩ = some ((cs.drop n).getD i undef) := by
  intro i hi
  simp only [List.length_drop] at hi
  have := h (n + i) (by omega)
  rw [Nat.add_assoc, this]
  simp [List.getD_eq_getElem?_getD, List.getElem?_drop]

theorem ok_fieldAddr {t : TypeId} {fs : Array Field} {f : Field} {i n : Nat} {x : Operand} {cs : List Value} (hT : P.underlying t = some (.struct fs)) (hf : fs[i]? = some f) (hz : SizeIs P f.type n) (hn : (n == 0) = false) (hx : Cells cs (a.eval x) w) :
    OpOk P ⟨d, .fieldAddr t x i, ty, pos, af, gd⟩ a w (Cells (cs.drop f.offset)) := by
  obtain ⟨b, o, hv, hc⟩ := hx
  refine ok_val (v := .pointer (some ⟨b, o + f.offset, none⟩)) ?_ ⟨b, o + f.offset, rfl, Cells.drop hc⟩
  have hn' : n ≠ 0 := by simpa using hn
  simp [execOp, Instr.fieldAt, hv, Instr.sureAddr, run_underlying hT, hf, fieldPlace, hz.run, hn', Go.WideShapes.add_plain]

theorem ok_loadc {t : TypeId} {D : TypeDesc} {x : Operand} {c : Value} {cs : List Value} (hT : P.underlying t = some D) (hD : (match D with | .struct _ | .array _ _ => false | _ => true) = true) (hx : Cells (c :: cs) (a.eval x) w) :
    OpOk P ⟨d, .load t x, ty, pos, af, gd⟩ a w (Is c) := by
  obtain ⟨b, o, hv, hc⟩ := hx
  exact ok_load hT hD ⟨⟨b, o, none⟩, c, hv, rfl, by simpa using hc 0 (by simp), rfl⟩

/-- A whole struct or array, loaded. -/
theorem ok_loadAgg {t : TypeId} {D : TypeDesc} {n : Nat} {x : Operand} {cs : List Value} (hT : P.underlying t = some D) (hD : (match D with | .struct _ | .array _ _ => true | _ => false) = true) (hz : SizeIs P t n) (hn : n ≤ cs.length) (hx : Cells cs (a.eval x) w) :
    OpOk P ⟨d, .load t x, ty, pos, af, gd⟩ a w (Is (.agg (cs.take n).toArray)) := by
  obtain ⟨b, o, hv, hc⟩ := hx
  refine ok_val (v := .agg (cs.take n).toArray) ?_ rfl
  have hagg : (isAgg t).run P w = .ok true w := by
    unfold isAgg
    simp only [Sem.run_bind, run_underlying hT, Result.andThen_ok]
    cases D <;> first | rfl | (simp at hD)
  have hl := run_loadCells_list (P := P) (w := w) ⟨b, o, none⟩ (cs.take n) (fun j v hj => by
    have hjn : j < (cs.take n).length := (List.getElem?_eq_some_iff.1 hj).1
    have h1 : j < cs.length := by simp at hjn; omega
    rw [Go.WideShapes.add_plain, hc j h1]
    rw [List.getElem?_take_of_lt (by simp at hjn; omega)] at hj
    simp [List.getD_eq_getElem?_getD, hj])
  have hlen : (cs.take n).length = n := by simp; omega
  rw [hlen] at hl
  simp [execOp, Instr.loadAt, hv, Instr.sureAddr, loadVar, hagg, hz.run, hl]

/-- The address of an array's element. -/
theorem ok_loadAll {t : TypeId} {D : TypeDesc} {n : Nat} {x : Operand} {cs : List Value} (hT : P.underlying t = some D) (hD : (match D with | .struct _ | .array _ _ => true | _ => false) = true) (hz : SizeIs P t n) (hx : Cells cs (a.eval x) w) (hn : cs.length = n) :
    OpOk P ⟨d, .load t x, ty, pos, af, gd⟩ a w (Is (.agg cs.toArray)) := by
  have := ok_loadAgg (d := d) (ty := ty) (pos := pos) (af := af) (gd := gd) hT hD hz (by omega) hx
  rwa [← hn, List.take_length] at this
theorem ok_extract2a {x : Operand} {V U : VP} (hx : Tup2 V U (a.eval x) w) : OpOk P ⟨d, .extract x 0, ty, pos, af, gd⟩ a w V := by
  obtain ⟨u, v, h, h1, h2⟩ := hx
  exact ok_val (v := u) (by simp [execOp, Instr.extract, h]) h1
theorem ok_extract2b {x : Operand} {V U : VP} (hx : Tup2 V U (a.eval x) w) : OpOk P ⟨d, .extract x 1, ty, pos, af, gd⟩ a w U := by
  obtain ⟨u, v, h, h1, h2⟩ := hx
  exact ok_val (v := v) (by simp [execOp, Instr.extract, h]) h2

/-! ## Slices of slices: 's[l:h]' -/

def subl (l : List UInt8) (lo hi : Nat) : List UInt8 := (l.take hi).drop lo

theorem sliced_bs {l : List UInt8} {v : Value} {w : World} (hx : Bs l v w) (lo hi : Nat) (h1 : lo ≤ hi) (h2 : hi ≤ l.length) : ∀ p len cap, v = .slice p len cap → Bs (subl l lo hi) (sliced p lo hi cap 1) w := by
  intro p len cap hv
  have hlen : (subl l lo hi).length = hi - lo := by simp [subl]; omega
  rcases hx with ⟨rfl, hl⟩ | ⟨q, cap', h3, h4, h5, h6⟩
  · simp only [Value.slice.injEq] at hv
    obtain ⟨rfl, rfl, rfl⟩ := hv
    have h0 : l = [] := by simpa using hl
    subst h0
    simp at h2
    subst h2
    simp at h1
    subst h1
    left
    exact ⟨by simp [sliced], by simp [subl]⟩
  · subst h3
    simp only [Value.slice.injEq] at hv
    obtain ⟨rfl, rfl, rfl⟩ := hv
    simp only [List.length_map] at h4 h6
    right
    refine ⟨if cap' = lo then q else q.add lo, cap' - lo, ?_, by simp [hlen]; omega, by omega, fun i hi' => ?_⟩
    · simp only [sliced, List.length_map, hlen]; split <;> simp
    · simp only [List.length_map, hlen] at hi'
      obtain ⟨x, hc, hr⟩ := h6 (lo + i) (by omega)
      have hs : q.spot = none := by
        obtain ⟨x0, hc0, _⟩ := h6 0 (by omega)
        have := World.cell?_spot hc0
        simpa [Addr.add] using this
      refine ⟨x, ?_, ?_⟩
      · rw [if_neg (by omega)]
        obtain ⟨b, o, sp⟩ := q
        simp only at hs
        subst hs
        rw [Go.WideShapes.add_plain] at hc ⊢
        rw [Go.WideShapes.add_plain, Nat.add_assoc]
        exact hc
      · rw [getD_map _ _ _ (by omega)] at hr ⊢
        have : (subl l lo hi)[i]'(by omega) = l[lo + i]'(by omega) := by simp [subl]
        rw [this]; exact hr

section
variable {t e : TypeId} {x y z : Operand} {k k' : IntKind} {l : List UInt8}
theorem elem_of (hT : P.underlying t = some (.slice e)) : P.underlying t = some (.slice (P.elem t)) := by
  rw [hT]; simp [Program.elem, hT]

theorem run_sliceBounds_ok (len cap lo hi : Nat) (olo ohi : Option Value) (hlo : olo = none ∧ lo = 0 ∨ ∃ k : IntKind, olo = some (.int k (lo : Int))) (hhi : ohi = none ∧ hi = len ∨ ∃ k : IntKind, ohi = some (.int k (hi : Int)))
    (h1 : lo ≤ hi) (h2 : hi ≤ cap) : (Instr.sliceBounds true len cap olo ohi none).run P w = .ok (lo, hi, cap) w := by
  rcases hlo with ⟨rfl, rfl⟩ | ⟨k, rfl⟩ <;> rcases hhi with ⟨rfl, rfl⟩ | ⟨k', rfl⟩ <;>
    simp [Instr.sliceBounds, run_sliceBound, *]

theorem ok_slice_genW {W : World} {olo ohi : Option Operand} (lo hi : Nat) (hT : P.underlying t = some (.slice e)) (hz : SizeIs P e 1) (hx : Bs l (a.eval x) W)
    (hlo : olo = none ∧ lo = 0 ∨ ∃ y k, olo = some y ∧ a.eval y = .int k (lo : Int)) (hhi : ohi = none ∧ hi = l.length ∨ ∃ y k, ohi = some y ∧ a.eval y = .int k (hi : Int)) (h1 : lo ≤ hi) (h2 : hi ≤ l.length) :
    OpOk P ⟨d, .slice t x olo ohi none, ty, pos, af, gd⟩ a w (AtW W (Bs (subl l lo hi))) := by
  have hs := sliced_bs hx lo hi h1 h2
  obtain ⟨p, cap, hv⟩ := hx.len
  simp only [List.length_map] at hv
  have hcap : l.length ≤ cap := by
    rcases hx with ⟨hv', hl⟩ | ⟨q, cap', h3, h4, _⟩
    · simp at hl; subst hl; simp
    · rw [hv] at h3; simp at h3 h4; omega
  refine ok_val (v := sliced p lo hi cap 1) ?_ (hs _ _ _ hv)
  have hb := run_sliceBounds_ok (P := P) (w := w) l.length cap lo hi (olo.map a.eval) (ohi.map a.eval)
    (by rcases hlo with ⟨rfl, rfl⟩ | ⟨y, k, rfl, hy⟩
        · exact .inl ⟨rfl, rfl⟩
        · exact .inr ⟨k, by simp [hy]⟩)
    (by rcases hhi with ⟨rfl, rfl⟩ | ⟨y, k, rfl, hy⟩
        · exact .inl ⟨rfl, rfl⟩
        · exact .inr ⟨k, by simp [hy]⟩) h1 (by omega)
  have ht := elem_of hT
  have he : P.elem t = e := by simp [Program.elem, hT]
  have h3 := run_slice_any (P := P) w t p l.length cap ht (olo.map a.eval) (ohi.map a.eval) none
  simp only [hb, Result.andThen_ok, he, hz.run] at h3
  have h4 : (Instr.sliceAt t (.slice p l.length cap) (olo.map a.eval) (ohi.map a.eval) none).run P w = .ok (sliced p lo hi cap 1) w := by
    rw [run_sliceAt_slice (P := P) (w := w) (h := ht)]; exact h3
  simp only [execOp, hv, Option.map_none]
  simp [h4]

theorem ok_slice_gen {olo ohi : Option Operand} (lo hi : Nat) (hT : P.underlying t = some (.slice e)) (hz : SizeIs P e 1) (hx : Bs l (a.eval x) w)
    (hlo : olo = none ∧ lo = 0 ∨ ∃ y k, olo = some y ∧ a.eval y = .int k (lo : Int)) (hhi : ohi = none ∧ hi = l.length ∨ ∃ y k, ohi = some y ∧ a.eval y = .int k (hi : Int)) (h1 : lo ≤ hi) (h2 : hi ≤ l.length) :
    OpOk P ⟨d, .slice t x olo ohi none, ty, pos, af, gd⟩ a w (Bs (subl l lo hi)) := (ok_slice_genW lo hi hT hz hx hlo hhi h1 h2).atw
theorem okW_slice_hi {W : World} (hi : Nat) (hT : P.underlying t = some (.slice e)) (hz : SizeIs P e 1) (hx : Bs l (a.eval x) W) (hy : a.eval y = .int k (hi : Int)) (h2 : hi ≤ l.length) :
    OpOk P ⟨d, .slice t x none (some y) none, ty, pos, af, gd⟩ a w (AtW W (Bs (l.take hi))) := by
  have := ok_slice_genW (d := d) (ty := ty) (pos := pos) (af := af) (gd := gd) (w := w) (olo := none) (ohi := some y) 0 hi hT hz hx (.inl ⟨rfl, rfl⟩) (.inr ⟨y, k, rfl, hy⟩) (by omega) h2
  simpa [subl] using this
theorem okW_slice_lo {W : World} (lo : Nat) (hT : P.underlying t = some (.slice e)) (hz : SizeIs P e 1) (hx : Bs l (a.eval x) W) (hy : a.eval y = .int k (lo : Int)) (h2 : lo ≤ l.length) :
    OpOk P ⟨d, .slice t x (some y) none none, ty, pos, af, gd⟩ a w (AtW W (Bs (l.drop lo))) := by
  have := ok_slice_genW (d := d) (ty := ty) (pos := pos) (af := af) (gd := gd) (w := w) (olo := some y) (ohi := none) lo l.length hT hz hx (.inr ⟨y, k, rfl, hy⟩) (.inl ⟨rfl, rfl⟩) h2 (Nat.le_refl _)
  simpa [subl] using this
theorem okW_slice_lh {W : World} (lo hi : Nat) (hT : P.underlying t = some (.slice e)) (hz : SizeIs P e 1) (hx : Bs l (a.eval x) W) (hy : a.eval y = .int k (lo : Int)) (hz' : a.eval z = .int k' (hi : Int)) (h1 : lo ≤ hi) (h2 : hi ≤ l.length) :
    OpOk P ⟨d, .slice t x (some y) (some z) none, ty, pos, af, gd⟩ a w (AtW W (Bs (subl l lo hi))) :=
  ok_slice_genW lo hi hT hz hx (.inr ⟨y, k, rfl, hy⟩) (.inr ⟨z, k', rfl, hz'⟩) h1 h2

theorem ok_slice_hi (hi : Nat) (hT : P.underlying t = some (.slice e)) (hz : SizeIs P e 1) (hx : Bs l (a.eval x) w) (hy : a.eval y = .int k (hi : Int)) (h2 : hi ≤ l.length) :
    OpOk P ⟨d, .slice t x none (some y) none, ty, pos, af, gd⟩ a w (Bs (l.take hi)) := by
  have := ok_slice_gen (d := d) (ty := ty) (pos := pos) (af := af) (gd := gd) (olo := none) (ohi := some y) 0 hi hT hz hx (.inl ⟨rfl, rfl⟩) (.inr ⟨y, k, rfl, hy⟩) (by omega) h2
  simpa [subl] using this
theorem ok_slice_lo (lo : Nat) (hT : P.underlying t = some (.slice e)) (hz : SizeIs P e 1) (hx : Bs l (a.eval x) w) (hy : a.eval y = .int k (lo : Int)) (h2 : lo ≤ l.length) :
    OpOk P ⟨d, .slice t x (some y) none none, ty, pos, af, gd⟩ a w (Bs (l.drop lo)) := by
  have := ok_slice_gen (d := d) (ty := ty) (pos := pos) (af := af) (gd := gd) (olo := some y) (ohi := none) lo l.length hT hz hx (.inr ⟨y, k, rfl, hy⟩) (.inl ⟨rfl, rfl⟩) h2 (Nat.le_refl _)
  simpa [subl] using this
theorem ok_slice_lh (lo hi : Nat) (hT : P.underlying t = some (.slice e)) (hz : SizeIs P e 1) (hx : Bs l (a.eval x) w) (hy : a.eval y = .int k (lo : Int)) (hz' : a.eval z = .int k' (hi : Int)) (h1 : lo ≤ hi) (h2 : hi ≤ l.length) :
    OpOk P ⟨d, .slice t x (some y) (some z) none, ty, pos, af, gd⟩ a w (Bs (subl l lo hi)) :=
  ok_slice_gen lo hi hT hz hx (.inr ⟨y, k, rfl, hy⟩) (.inr ⟨z, k', rfl, hz'⟩) h1 h2
end

/-! ## Calls -/

def Body (P : Program) (f : FuncId) : Prop := ∃ fn, P.funcs[f]? = some fn ∧ fn.body.isSome = true ∧ (fn.name == "runtime.NumGoroutine") = false

section
variable {f : FuncId} {ats : Array TypeId} {x0 x1 x2 x3 x4 : Operand}
theorem run_call (hb : Body P f) (xs : Array Operand) : (execOp a.eval ⟨d, .call ⟨.value (.func f), xs, ats⟩, ty, pos, af, gd⟩).run P w = .ok (.enter f (xs.map a.eval)) w := by
  obtain ⟨fn, hf, hbd, hn⟩ := hb
  have hnone : fn.body.isNone = false := by cases h : fn.body <;> simp_all
  have h1 : (callFunc f (#[] ++ xs.map a.eval ++ #[])).run P w = .ok (.enter f (xs.map a.eval)) w := by
    unfold callFunc
    simp only [Sem.run_bind, run_program, Result.andThen_ok, hf, hn, hnone, Bool.false_eq_true, if_false, Array.append_empty, Array.empty_append]
    rfl
  simp only [execOp, resolve, Deferred.ofValue, Act.eval]
  simp only [pure_bind, invoke]
  exact h1
theorem ok_callv (hb : Body P f) (xs : Array Operand) (hc : Calls P f (xs.map a.eval) w (Ret V w)) : OpOk P ⟨d, .call ⟨.value (.func f), xs, ats⟩, ty, pos, af, gd⟩ a w V := by
  unfold OpOk
  rw [run_call hb]
  exact ⟨Ext.refl _, hc⟩
theorem ok_call0 (hb : Body P f) (hc : Calls P f #[] w (Ret V w)) : OpOk P ⟨d, .call ⟨.value (.func f), #[], ats⟩, ty, pos, af, gd⟩ a w (vp V) := ok_callv hb _ (by simpa using hc)
theorem ok_call1 (hb : Body P f) (hc : Calls P f #[a.eval x0] w (Ret V w)) : OpOk P ⟨d, .call ⟨.value (.func f), #[x0], ats⟩, ty, pos, af, gd⟩ a w (vp V) := ok_callv hb _ (by simpa using hc)
theorem ok_call2 (hb : Body P f) (hc : Calls P f #[a.eval x0, a.eval x1] w (Ret V w)) : OpOk P ⟨d, .call ⟨.value (.func f), #[x0, x1], ats⟩, ty, pos, af, gd⟩ a w (vp V) := ok_callv hb _ (by simpa using hc)
theorem ok_call3 (hb : Body P f) (hc : Calls P f #[a.eval x0, a.eval x1, a.eval x2] w (Ret V w)) : OpOk P ⟨d, .call ⟨.value (.func f), #[x0, x1, x2], ats⟩, ty, pos, af, gd⟩ a w (vp V) := ok_callv hb _ (by simpa using hc)
theorem ok_call4 (hb : Body P f) (hc : Calls P f #[a.eval x0, a.eval x1, a.eval x2, a.eval x3] w (Ret V w)) : OpOk P ⟨d, .call ⟨.value (.func f), #[x0, x1, x2, x3], ats⟩, ty, pos, af, gd⟩ a w (vp V) := ok_callv hb _ (by simpa using hc)
end

theorem ok_loadp {t : TypeId} {D : TypeDesc} {x : Operand} (hT : P.underlying t = some D) (hD : (match D with | .struct _ | .array _ _ => false | _ => true) = true) (hx : Ptr V (a.eval x) w) :
    OpOk P ⟨d, .load t x, ty, pos, af, gd⟩ a w (vp V) := ok_load hT hD hx
theorem ok_ext0 {x : Operand} {V U : VP} (hx : Tup2 V U (a.eval x) w) : OpOk P ⟨d, .extract x 0, ty, pos, af, gd⟩ a w (vp V) := ok_extract2a hx
theorem ok_ext1 {x : Operand} {V U : VP} (hx : Tup2 V U (a.eval x) w) : OpOk P ⟨d, .extract x 1, ty, pos, af, gd⟩ a w (vp U) := ok_extract2b hx

/-! ## '[]T{..}' -/

/-- One cell holds it. -/
class One (R : VP) : Prop where
  one : ∀ v w, R v w → v.cells = #[v] ∧ v.oneCell' = true
instance (k : IntKind) (n : Int) : One (Is (.int k n)) := ⟨fun v _ h => by rw [show v = .int k n from h]; exact ⟨rfl, rfl⟩⟩
instance (b : Bool) : One (Is (.bool b)) := ⟨fun v _ h => by rw [show v = .bool b from h]; exact ⟨rfl, rfl⟩⟩
instance (c : UInt8) : One (ByteIs c) := ⟨fun v _ h => by rw [show v = byteV c from h]; exact ⟨rfl, rfl⟩⟩
instance (Rs : List VP) : One (Sl Rs) := ⟨fun v _ h => by obtain ⟨p, c, rfl⟩ := h.len; exact ⟨rfl, rfl⟩⟩
instance (l : List UInt8) : One (Bs l) := inferInstanceAs (One (Sl _))
instance (l : List (List UInt8)) : One (Bss l) := inferInstanceAs (One (Sl _))
instance (k : IntKind) (l : List Int) : One (Ns k l) := inferInstanceAs (One (Sl _))

def PartsOk (a : Act) (w : World) : List Operand → List VP → Prop
  | x :: xs, R :: Rs => (R (a.eval x) w ∧ R.Stable ∧ (a.eval x).cells = #[a.eval x] ∧ (a.eval x).oneCell' = true) ∧ PartsOk a w xs Rs
  | [], [] => True
  | _, _ => False

theorem PartsOk.nil : PartsOk a w [] [] := trivial
theorem PartsOk.cons {x : Operand} {xs : List Operand} {R : VP} {Rs : List VP} [h : One R] [s : Stb R] (hx : R (a.eval x) w) (hr : PartsOk a w xs Rs) : PartsOk a w (x :: xs) (R :: Rs) := ⟨⟨hx, s.st, h.one _ _ hx⟩, hr⟩

theorem PartsOk.get : ∀ {xs : List Operand} {Rs : List VP}, PartsOk a w xs Rs → xs.length = Rs.length ∧ ∀ i (h : i < xs.length), (Rs.getD i VP.top) (a.eval xs[i]) w ∧ (Rs.getD i VP.top).Stable ∧ (a.eval xs[i]).cells = #[a.eval xs[i]] ∧ (a.eval xs[i]).oneCell' = true
  | [], [], _ => ⟨rfl, fun i h => by simp at h⟩
  | x :: xs, R :: Rs, h => by
    obtain ⟨h1, h2⟩ := PartsOk.get h.2
    refine ⟨by simp [h1], fun i hi => ?_⟩
    cases i with
    | zero => simpa using h.1
    | succ i => simpa using h2 i (by simpa using hi)
  | [], _ :: _, h => h.elim
  | _ :: _, [], h => h.elim

theorem fill_row : ∀ (vs : List Value) (k : Nat) (cells : Array Value), k + vs.length ≤ cells.size → (∀ v ∈ vs, v.cells = #[v]) →
    Instr.fill (fun i => some (i * 1, 1)) cells ((vs.zipIdx k).map fun p => (p.2, p.1)) = some (cells.toList.take k ++ vs ++ cells.toList.drop (k + vs.length)).toArray
  | [], k, cells, _, _ => by simp [Instr.fill]
  | v :: vs, k, cells, h, hv => by
    simp only [List.length_cons] at h
    have hvc : v.cells = #[v] := hv v (by simp)
    simp only [List.zipIdx_cons, List.map_cons, Instr.fill, hvc, List.size_toArray, List.length_cons, List.length_nil]
    rw [if_neg (by simp; omega)]
    have hz : (Array.zipIdx #[v]) = #[(v, 0)] := rfl
    rw [hz]
    simp only [List.foldl_toArray', List.foldl_cons, List.foldl_nil, Nat.add_zero]
    rw [show k * 1 = k from Nat.mul_one k]
    rw [fill_row vs (k + 1) _ (by simp; omega) (fun u hu => hv u (by simp [hu]))]
    congr 1
    congr 1
    have hk : k < cells.toList.length := by simp; omega
    simp only [Array.toList_setIfInBounds]
    rw [List.take_set, List.drop_set]
    have e1 : ((cells.toList.take (k + 1)).set k v) = cells.toList.take k ++ [v] := by
      have hkc : min k cells.size = k := Nat.min_eq_left (by simp at hk; omega)
      rw [List.take_succ_eq_append_getElem hk, List.set_append_right _ _ (by simp; omega)]
      simp [hkc]
    rw [if_pos (by omega), e1]
    simp [Nat.add_assoc, Nat.add_comm 1]

theorem run_buildSlice {t e : TypeId} {n : Nat} {parts : Array (Nat × Operand)} {z : Value} (xs : List Operand) (Rs : List VP) (hT : P.underlying t = some (.slice e)) (hz : SizeIs P e 1) (hz0 : ZeroIs P e z)
    (hp : parts = (xs.zipIdx.map fun p => (p.2, p.1)).toArray) (hn : xs.length = n) (hn2 : n ≤ 1000) (hR : PartsOk a w xs Rs) :
    (execOp a.eval ⟨d, .buildSlice t n parts, ty, pos, af, gd⟩).run P w = .ok (.value (.slice (some ⟨w.heap.size, 0, none⟩) n n)) (w.alloc (.cells (xs.map a.eval).toArray e)) := by
  obtain ⟨hl, hg⟩ := hR.get
  have hvals : (parts.map fun (p : Nat × Operand) => (p.1, a.eval p.2)).toList = (((xs.map a.eval).zipIdx 0).map fun p => (p.2, p.1)) := by
    subst hp
    apply List.ext_getElem?
    intro i
    simp [List.getElem?_zipIdx]
    cases xs[i]? <;> simp
  have hfill := fill_row (xs.map a.eval) 0 ((Array.range (n * 1)).map fun i => z.cells[i % z.cells.size]!) (by simp [hn]) (fun v hv => by
    obtain ⟨x, hx, rfl⟩ := List.mem_map.1 hv
    obtain ⟨i, hi, rfl⟩ := List.getElem_of_mem hx
    exact (hg i hi).2.2.1)
  have hd0 : List.drop (0 + (xs.map a.eval).length) ((Array.range (n * 1)).map fun i => z.cells[i % z.cells.size]!).toList = [] := by
    apply List.drop_eq_nil_of_le; simp [hn]
  rw [hd0] at hfill
  simp only [List.take_zero, List.nil_append, List.append_nil] at hfill
  by_cases h0 : n = 0
  · have hxs : xs = [] := by simpa [h0] using hn
    subst h0
    subst hxs
    simp only [execOp]
    unfold Instr.buildSlice
    simp only [hvals]
    simp [run_underlying hT, hz.run, newRow, Instr.fill, Array.range]
  · simp only [execOp]
    unfold Instr.buildSlice
    simp only [hvals]
    have hfill' : Instr.fill (fun i => some (i * 1, 1)) ((Array.range (n * 1)).map fun i => z.cells[i % z.cells.size]!) (((xs.map a.eval).zipIdx 0).map fun p => (p.2, p.1)) = some (xs.map a.eval).toArray := hfill
    simp only [Sem.run_bind, run_underlying hT, hz.run, Result.andThen_ok, Nat.mul_one, if_neg h0]
    simp only [Nat.mul_one] at hfill'
    simp [hz0.run, hfill', newRow]
    omega

theorem ok_buildSlice {t e : TypeId} {n : Nat} {parts : Array (Nat × Operand)} {z : Value} (xs : List Operand) (Rs : List VP) (hT : P.underlying t = some (.slice e)) (hz : SizeIs P e 1) (hz0 : ZeroIs P e z)
    (hp : parts = (xs.zipIdx.map fun p => (p.2, p.1)).toArray) (hn : xs.length = n) (hn2 : n ≤ 1000) (hR : PartsOk a w xs Rs) :
    OpOk P ⟨d, .buildSlice t n parts, ty, pos, af, gd⟩ a w (Sl Rs) := by
  obtain ⟨hl, hg⟩ := hR.get
  have hrun := run_buildSlice (a := a) (w := w) (d := d) (ty := ty) (pos := pos) (af := af) (gd := gd) xs Rs hT hz hz0 hp hn hn2 hR
  unfold OpOk
  rw [hrun]
  refine ⟨(Ext.refl w).alloc _, .inr ⟨⟨w.heap.size, 0, none⟩, n, by rw [← hl, hn], by omega, by unfold maxLen; omega, fun i hi => ?_⟩⟩
  rw [← hl] at hi
  refine ⟨a.eval xs[i], ?_, (hg i hi).2.1 _ _ _ ((Ext.refl w).alloc _) (hg i hi).1⟩
  rw [Go.WideShapes.add_plain, Nat.zero_add, cell_new]
  simp [hi]

theorem ok_buildBs {t e : TypeId} {n : Nat} {parts : Array (Nat × Operand)} {z : Value} (xs : List Operand) (l : List UInt8) (hT : P.underlying t = some (.slice e)) (hz : SizeIs P e 1) (hz0 : ZeroIs P e z)
    (hp : parts = (xs.zipIdx.map fun p => (p.2, p.1)).toArray) (hn : xs.length = n) (hn2 : n ≤ 1000) (hR : PartsOk a w xs (l.map ByteIs)) :
    OpOk P ⟨d, .buildSlice t n parts, ty, pos, af, gd⟩ a w (Bs l) := ok_buildSlice xs _ hT hz hz0 hp hn hn2 hR
theorem ok_buildBss {t e : TypeId} {n : Nat} {parts : Array (Nat × Operand)} {z : Value} (xs : List Operand) (l : List (List UInt8)) (hT : P.underlying t = some (.slice e)) (hz : SizeIs P e 1) (hz0 : ZeroIs P e z)
    (hp : parts = (xs.zipIdx.map fun p => (p.2, p.1)).toArray) (hn : xs.length = n) (hn2 : n ≤ 1000) (hR : PartsOk a w xs (l.map Bs)) :
    OpOk P ⟨d, .buildSlice t n parts, ty, pos, af, gd⟩ a w (Bss l) := ok_buildSlice xs _ hT hz hz0 hp hn hn2 hR
theorem ok_buildNs {t e : TypeId} {n : Nat} {parts : Array (Nat × Operand)} {z : Value} {k : IntKind} (xs : List Operand) (l : List Int) (hT : P.underlying t = some (.slice e)) (hz : SizeIs P e 1) (hz0 : ZeroIs P e z)
    (hp : parts = (xs.zipIdx.map fun p => (p.2, p.1)).toArray) (hn : xs.length = n) (hn2 : n ≤ 1000) (hR : PartsOk a w xs (l.map fun m => Is (.int k m))) :
    OpOk P ⟨d, .buildSlice t n parts, ty, pos, af, gd⟩ a w (Ns k l) := ok_buildSlice xs _ hT hz hz0 hp hn hn2 hR

theorem bs_nil : Bs [] (.slice none 0 0) w := .inl ⟨rfl, rfl⟩
theorem ns_nil {k : IntKind} : Ns k [] (.slice none 0 0) w := .inl ⟨rfl, rfl⟩

/-- The byte that an int becomes. -/
def b8 (n : Int) : UInt8 := UInt8.ofNat (n % 256).toNat
theorem b8_toNat (n : Int) : ((b8 n).toNat : Int) = n % 256 := by
  unfold b8
  rw [UInt8.toNat_ofNat']
  have h1 := Int.emod_nonneg n (by decide : (256 : Int) ≠ 0)
  have h2 := Int.emod_lt_of_pos n (by decide : (0 : Int) < 256)
  omega
theorem byteV_b8 (n : Int) : byteV (b8 n) = .int .u8 (IntKind.u8.wrap n) := by
  unfold byteV; rw [b8_toNat, IntKind.wrap_u8]
theorem ok_conv8 {src dst : TypeId} {D : TypeDesc} {x : Operand} {k : IntKind} {n : Int} (hs : P.underlying src = some D) (hd : P.underlying dst = some (.int .u8)) (hx : a.eval x = .int k n) : OpOk P ⟨d, .convert src dst x, ty, pos, af, gd⟩ a w (ByteIs (b8 n)) := by
  have := ok_conv (d := d) (ty := ty) (pos := pos) (af := af) (gd := gd) (w := w) hs hd hx
  unfold ByteIs
  rw [byteV_b8]
  exact this
theorem ByteIs.of {v : Value} {n : Int} (h : Is (.int .u8 n) v w) (h0 : 0 ≤ n ∧ n < 256) : ByteIs (b8 n) v w := by
  show v = byteV (b8 n)
  rw [byteV_b8, IntKind.wrap_u8, Int.emod_eq_of_lt h0.1 h0.2]
  exact h
end
end Go.Proofs.Ytpjpfmnnefgnbaa
