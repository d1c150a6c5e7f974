/- What layer 11's laws need, in plain Lean: frames cut off, frames with bytes behind, frames that are made. -/
import Derived.Test.YtlmdboaghojgiaaT11
import Derived.Test.YtlmdboaghojgiaaE13
namespace Go.Proofs.Ytlmdboaghojgiaa
set_option linter.unusedVariables false
set_option linter.unusedSimpArgs false
open Go

/-! ## Bytes behind, bytes cut off -/
theorem Q9w {l : List UInt8} (h : (Q0j l).2 = 0) : ¬ l.length < 40 ∧ ¬ Q09 l 0 / 16 ≠ 6 ∧ ¬ 40 + Q07 l 4 > (l.length : Int) := by
  unfold Q0j at h
  by_cases h1 : l.length < 40
  · rw [if_pos h1] at h; cases h
  rw [if_neg h1] at h
  by_cases h2 : Q09 l 0 / 16 ≠ 6
  · rw [if_pos h2] at h; cases h
  rw [if_neg h2] at h
  by_cases h3 : 40 + Q07 l 4 > (l.length : Int)
  · rw [if_pos h3] at h; cases h
  exact ⟨h1, h2, h3⟩
theorem Qla {l m : List UInt8} {k : Nat} (h : (Q0c l).2 = 0) (hk : pkA l ≤ k) : Q0c (l.take k ++ m) = Q0c l := by
  obtain ⟨h1, h2⟩ := Qj1 h
  have hb := Q76 h
  have e : l.take k ++ m = Q23 (Q0c l).1 ++ ((l.take k).drop (pkA l) ++ m) := by
    rw [h2, ← List.append_assoc]
    congr 1
    show _ = l.take (pkA l) ++ _
    conv => lhs; rw [← List.take_append_drop (pkA l) (l.take k)]
    rw [List.take_take, Nat.min_eq_left hk]
  rw [e, Qdj (Q9x l) h1, ← hb.2.2.2, ← h]
/-! ## Fine frames -/
structure FineP (l : List UInt8) : Prop where
  lk : (Q0c l).2 = 0
  ty : (Q0c l).1.type = 2048 ∨ (Q0c l).1.type = 34525
  nt : (pkN l).2 = 0
  fr : (pkN l).1.frag = false
  ca : Q5p (pkN l).1.proto = true
  po : (Q0i (pkN l).1.proto (pkP l)).2 = 0
def Qnr (l : List UInt8) : TupL := ⟨(pkN l).1.src, (pkN l).1.dst, (pkN l).1.proto, (Q0i (pkN l).1.proto (pkP l)).1.sport, (Q0i (pkN l).1.proto (pkP l)).1.dport⟩
def Qax (l : List UInt8) : PktL := ⟨0, Qnr l, (Q0i (pkN l).1.proto (pkP l)).1.flags, (Q0c l).1.at', (Q0c l).1.at' + (pkN l).1.head, (Q0c l).1.at' + (pkN l).1.total⟩
theorem Qdk (l : List UInt8) : FineP l ∧ Q16 l = Qax l ∨ ∃ k, Q16 l = give k ∧ 1 ≤ k ∧ k ≤ 6 := by
  unfold Q16
  by_cases h1 : (Q0c l).2 ≠ 0
  · rw [if_pos h1]; exact .inr ⟨1, rfl, by omega, by omega⟩
  rw [if_neg h1]
  by_cases h2 : ¬ ((Q0c l).1.type = 2048 ∨ (Q0c l).1.type = 34525)
  · rw [if_pos h2]; exact .inr ⟨2, rfl, by omega, by omega⟩
  rw [if_neg h2]
  by_cases h3 : (pkN l).2 ≠ 0
  · rw [if_pos h3]; exact .inr ⟨3, rfl, by omega, by omega⟩
  rw [if_neg h3]
  by_cases h4 : (pkN l).1.frag = true
  · rw [if_pos h4]; exact .inr ⟨4, rfl, by omega, by omega⟩
  rw [if_neg h4]
  by_cases h5 : Q5p (pkN l).1.proto = false
  · rw [if_pos h5]; exact .inr ⟨5, rfl, by omega, by omega⟩
  rw [if_neg h5]
  by_cases h6 : (Q0i (pkN l).1.proto (pkP l)).2 ≠ 0
  · rw [if_pos h6]; exact .inr ⟨6, rfl, by omega, by omega⟩
  rw [if_neg h6]
  exact .inl ⟨⟨Decidable.not_not.1 h1, Decidable.not_not.1 h2, Decidable.not_not.1 h3, by simpa using h4, by simpa using h5, Decidable.not_not.1 h6⟩, rfl⟩
theorem Qiz {l : List UInt8} (h : FineP l) : Q16 l = Qax l := by
  unfold Q16
  rw [if_neg (not_not_intro h.lk), if_neg (not_not_intro h.ty), if_neg (not_not_intro h.nt), if_neg (by rw [h.fr]; decide), if_neg (by rw [h.ca]; decide), if_neg (not_not_intro h.po)]
  rfl
theorem Qiy {l : List UInt8} (h : (Q16 l).kind = 0) : FineP l ∧ Q16 l = Qax l := by
  rcases Qdk l with h1 | ⟨k, h1, h2, h3⟩
  · exact h1
  · rw [h1] at h
    have : k = 0 := h
    omega
theorem Qlb (l : List UInt8) : Qek (Qax l) := Q74 _ _
theorem Qh8 (l : List UInt8) : Qek (Q16 l) := by
  rcases Qdk l with ⟨_, h1⟩ | ⟨k, h1, _, _⟩
  · rw [h1]; exact Qlb l
  · rw [h1]; exact Qj2 k
theorem Qiu {l : List UInt8} (h : FineP l) : (Q0c l).1.at' = (pkA l : Int) ∧ 14 ≤ pkA l ∧ 20 ≤ (pkN l).1.head ∧ (pkN l).1.head + 8 ≤ (pkN l).1.total ∧ (pkA l : Int) + (pkN l).1.total ≤ (l.length : Int) := by
  obtain ⟨y0, y2, y3⟩ := Qqs h.lk
  obtain ⟨z1, z2, z3⟩ := Qj3 (kind := (Q0c l).1.type) (l := l.drop (pkA l)) h.nt
  have z1' : 20 ≤ (pkN l).1.head := z1
  have z2' : (pkN l).1.head ≤ (pkN l).1.total := z2
  have z3' : (pkN l).1.total ≤ ((l.drop (pkA l)).length : Int) := z3
  rw [List.length_drop] at z3'
  have y1 : (Q0c l).1.at' = (pkA l : Int) := y0
  have y4 : pkA l ≤ l.length := y3
  have hp := (Q4i h.po).2.2.1
  have hl : (pkP l).length = (pkN l).1.total.toNat - (pkN l).1.head.toNat := by
    unfold pkP subl
    rw [List.length_drop, List.length_take]
    omega
  exact ⟨y1, y2, z1', by omega, by omega⟩
def endP (l : List UInt8) : Nat := pkA l + (pkN l).1.total.toNat
/-! ## Frames that are made -/
def Q65 (T : TupL) : Nat := if T.src.six then 40 else 20
def segN (T : TupL) (load : List UInt8) : Int := ((Q2w T + load.length : Nat) : Int)
section
variable {L : LinkL} {T : TupL} {f : Int} {load : List UInt8}
theorem Qlc {n : Int} {r : List UInt8} (hT : Q3f T) (hm : MayOk T f) (hn : 0 ≤ n ∧ n + (if T.src.six then 0 else 20) ≤ 65535) (hr : n ≤ (r.length : Int)) :
    netT (if T.src.six then 34525 else 2048) (ipL T n ++ r) = (⟨(Q65 T : Int), (Q65 T : Int) + n, T.proto, false, T.src, T.dst⟩, 0) := by
  have hpb : 0 ≤ T.proto ∧ T.proto ≤ 255 ∧ extB T.proto = false := by rcases hm.proto with e | e <;> rw [e] <;> decide
  unfold Q65 ipL
  cases h6 : T.src.six with
  | true =>
    rw [h6] at hn
    simp only [if_true] at hn
    have hq := Q9y (n := n) hm h6 (by omega)
    obtain ⟨r1, r2, r3, r4, r5, r6, r7, r8, r9⟩ := Qen hq
    rw [if_pos rfl, if_pos rfl, Qh9]
    unfold netT
    rw [if_neg (by decide)]
    have e : Q0j (hdr6 (Q77 T n) ((Q77 T n).total - 40) (Q77 T n).proto ++ r) = (⟨40, 40 + n, 64, false, 0, T.proto, T.src, T.dst⟩, 0) := by
      rw [Qj4 (show Q7w (Q77 T n) from hT) (by show 0 ≤ 40 + n - 40 ∧ 40 + n - 40 ≤ 65535; omega) r4 r3 r8 r9 (by show 40 + n - 40 ≤ _; omega)]
      rw [Q22 (by rw [show (Q77 T n).proto = T.proto from rfl, hpb.2.2]; rfl)]
      simp only [Prod.mk.injEq, SixL.mk.injEq, and_true, true_and]
      exact ⟨by show 40 + (40 + n - 40) = _; omega, rfl, by decide, rfl, rfl, rfl⟩
    rw [e]
    rfl
  | false =>
    rw [h6] at hn
    simp only [Bool.false_eq_true, if_false] at hn
    have hq := Q8u (n := n) hm h6 (by omega)
    simp only [Bool.false_eq_true, if_false]
    unfold netT
    rw [if_pos rfl]
    have e := Qj5 (H := Q28 T n) hT hq (r := r) (by show 20 + n ≤ _; omega)
    rw [e]
    rfl
def Qry (L : LinkL) (T : TupL) (f : Int) (load : List UInt8) : PktL :=
  ⟨0, T, f, 14 + 4 * (L.tags.length : Int), 14 + 4 * (L.tags.length : Int) + (Q65 T : Int), 14 + 4 * (L.tags.length : Int) + ((Q65 T : Int) + segN T load)⟩
theorem Q9z (h : whyL L T f load.length = 0) : (load.length : Int) + (Q2w T : Int) + (if T.src.six then 0 else 20) ≤ 65535 ∧ MayOk T f := by
  obtain ⟨h1, h2, h3⟩ := Qa0 h
  exact ⟨by split at h3 <;> simp_all <;> omega, Qc1 h2⟩
theorem Qg5 (hL : Q2i L) (hT : Q3f T) (h : whyL L T f load.length = 0) (m : List UInt8) :
    Q0c (Q1h L T f load ++ m) = ({ Q1v L T.src.six with at' := 14 + 4 * (L.tags.length : Int) }, 0) ∧
    pkA (Q1h L T f load ++ m) = 14 + 4 * L.tags.length ∧
    pkN (Q1h L T f load ++ m) = (⟨(Q65 T : Int), (Q65 T : Int) + segN T load, T.proto, false, T.src, T.dst⟩, 0) ∧
    pkP (Q1h L T f load ++ m) = Q6x T.src T.dst T.proto (segL T f load) ∧
    Q16 (Q1h L T f load ++ m) = Qry L T f load := by
  obtain ⟨h1, h2, h3⟩ := Qa0 h
  obtain ⟨hs, hm⟩ := Q9z h
  have hsl := Q6r T f load
  have hsk := Qa1 (load := load) hm (by split at hs <;> omega)
  have hfl := Q4y (Sa := T.src) (Da := T.dst) hsk
  have hlp : (Q23 (Q1v L T.src.six)).length = 14 + 4 * L.tags.length := Q4j (Q3v hL)
  have hil : (ipL T ((segL T f load).length : Int)).length = Q65 T := by rw [Q5q hT]; rfl
  have e1 : Q1h L T f load ++ m = Q23 (Q1v L T.src.six) ++ (ipL T ((segL T f load).length : Int) ++ (Q6x T.src T.dst T.proto (segL T f load) ++ m)) := by unfold Q1h; simp [List.append_assoc]
  have e2 : Q0c (Q1h L T f load ++ m) = ({ Q1v L T.src.six with at' := 14 + 4 * (L.tags.length : Int) }, 0) := by
    rw [e1, Qdj (Q3v hL) h1]; rfl
  have e3 : pkA (Q1h L T f load ++ m) = 14 + 4 * L.tags.length := by unfold pkA; rw [e2]; show (14 + 4 * (L.tags.length : Int)).toNat = _; omega
  have hd : (Q1h L T f load ++ m).drop (14 + 4 * L.tags.length) = ipL T ((segL T f load).length : Int) ++ (Q6x T.src T.dst T.proto (segL T f load) ++ m) := by rw [e1, ← hlp, List.drop_left]
  have hN : ((segL T f load).length : Int) = segN T load := by unfold segN; rw [hsl]
  have e4 : pkN (Q1h L T f load ++ m) = (⟨(Q65 T : Int), (Q65 T : Int) + segN T load, T.proto, false, T.src, T.dst⟩, 0) := by
    unfold pkN
    rw [e2, e3, hd, hN]
    exact Qlc hT hm (by unfold segN; split at hs <;> split <;> simp_all <;> omega) (by rw [List.length_append, hfl, hsl]; unfold segN; omega)
  have e5 : pkP (Q1h L T f load ++ m) = Q6x T.src T.dst T.proto (segL T f load) := by
    unfold pkP subl
    rw [e3, e4, e1]
    show List.drop (14 + 4 * L.tags.length + ((Q65 T : Nat) : Int).toNat) (List.take (14 + 4 * L.tags.length + ((Q65 T : Int) + segN T load).toNat) _) = _
    rw [List.drop_take, ← List.append_assoc]
    have hq : (Q23 (Q1v L T.src.six) ++ ipL T ((segL T f load).length : Int)).length = 14 + 4 * L.tags.length + ((Q65 T : Nat) : Int).toNat := by rw [List.length_append, hlp, hil, Int.toNat_natCast]
    rw [← hq, List.drop_left, hq]
    exact List.take_left' (by rw [hfl, hsl]; unfold segN; omega)
  refine ⟨e2, e3, e4, e5, ?_⟩
  have hrd := Qc2 (load := load) hm (by split at hs <;> omega)
  have hpo : Q0i T.proto (Q6x T.src T.dst T.proto (segL T f load)) = Q0i T.proto (segL T f load) := Qj6 hsk
  have hca : Q5p T.proto = true := by unfold Q5p; rcases hm.proto with e | e <;> rw [e] <;> rfl
  have hty : (Q1v L T.src.six).type = 2048 ∨ (Q1v L T.src.six).type = 34525 := by unfold Q1v; cases T.src.six <;> simp
  rw [Qiz ⟨by rw [e2], by rw [e2]; exact hty, by rw [e4], by rw [e4], by rw [e4]; exact hca, by rw [e4, e5]; show (Q0i T.proto _).2 = 0; rw [hpo]; exact hsk⟩]
  unfold Qax Qnr
  rw [e2, e4, e5]
  simp only [hpo, hrd]
  rfl
end
/-! ## Turned tuples -/
/-! ## Making, whatever is told -/
section
variable {L : LinkL} {T : TupL} {f : Int} {load : List UInt8}
theorem Qqt {n : Nat} (h : Q17 (Q1v L T.src.six) = false ∨ mayL T f = false) : whyL L T f n = 1 := by unfold whyL; rw [if_pos h]
theorem Qn2 (h1 : Q17 (Q1v L T.src.six) = true) (h2 : mayL T f = true) : ¬ (Q17 (Q1v L T.src.six) = false ∨ mayL T f = false) := by
  rintro (h | h)
  · rw [h1] at h; cases h
  · rw [h2] at h; cases h
theorem Qqu {n : Nat} (h1 : Q17 (Q1v L T.src.six) = true) (h2 : mayL T f = true) (h3 : (n : Int) + (Q2w T : Int) + (if T.src.six then 40 else 20) > 65535) : whyL L T f n = 4 := by
  unfold whyL; rw [if_neg (Qn2 h1 h2), if_pos h3]
theorem Qn3 {n : Nat} (h1 : Q17 (Q1v L T.src.six) = true) (h2 : mayL T f = true) (h3 : ¬ (n : Int) + (Q2w T : Int) + (if T.src.six then 40 else 20) > 65535) : whyL L T f n = 0 := by
  unfold whyL; rw [if_neg (Qn2 h1 h2), if_neg h3]
end
theorem Qqv {r : Bool} {T : TupL} {f : Int} : ((((((((((!r) || !famB T.src T.dst) || ((T.proto != 6) && (T.proto != 17))) || decide (T.sport < 0)) || decide (T.sport > 65535)) || decide (T.dport < 0)) || decide (T.dport > 65535)) || decide (f < 0)) || decide (f > 63)) || ((T.proto == 17) && (f != 0))) = !(r && mayL T f) := by
  unfold mayL inW inB
  generalize famB T.src T.dst = b
  rw [Bool.eq_iff_iff]
  cases r <;> cases b <;> simp <;> omega
theorem Qqw {r : Bool} {T : TupL} {f : Int} (h : ((((((((((!r) || !famB T.src T.dst) || ((T.proto != 6) && (T.proto != 17))) || decide (T.sport < 0)) || decide (T.sport > 65535)) || decide (T.dport < 0)) || decide (T.dport > 65535)) || decide (f < 0)) || decide (f > 63)) || ((T.proto == 17) && (f != 0))) = true) : r = false ∨ mayL T f = false := by
  rw [Qqv] at h
  cases r with
  | false => exact .inl rfl
  | true => exact .inr (by simpa using h)
theorem Qqx {r : Bool} {T : TupL} {f : Int} (h : ((((((((((!r) || !famB T.src T.dst) || ((T.proto != 6) && (T.proto != 17))) || decide (T.sport < 0)) || decide (T.sport > 65535)) || decide (T.dport < 0)) || decide (T.dport > 65535)) || decide (f < 0)) || decide (f > 63)) || ((T.proto == 17) && (f != 0))) = false) : r = true ∧ mayL T f = true := by
  rw [Qqv] at h
  cases r with
  | false => simp at h
  | true => exact ⟨rfl, by simpa using h⟩
section
variable {L : LinkL} {T : TupL} {f : Int} {load : List UInt8}
end
end Go.Proofs.Ytlmdboaghojgiaa
