/- Regions that draw their order: what only reads is taken first, then the rest in each of its orders. -/
import Derived.Test.YtdohlcakoamdhaaH
import Derived.Test.YtdohlcakoamdhaaJ
namespace Go.Proofs.Ytdohlcakoamdhaa
open Go Go.RowKit

/-- What stands at a place. -/
def BlkS (β : Nat) (ls : List Nat) (S : List (List Value)) (w : World) : Prop := S.map List.length = ls ∧ ∃ g e, β = g + 1 ∧ Blk g e S.flatten w
section
variable {β B B' : Nat} {ls : List Nat} {S : List (List Value)} {i : Nat} {v : Value} {w W : World}
theorem PxS.blkS (h : PxS β B ls S i v w) : BlkS β ls S w := by
  obtain ⟨h0, g, e, h1, h2, h3, h4⟩ := h
  exact ⟨h0, g, e, h1, h4⟩
theorem BlkS.px (k : BlkS β ls S W) (h : PxS β B ls S i v w) : PxS β B ls S i v W := by
  obtain ⟨h0, g, e, h1, h2, h3, h4⟩ := h
  obtain ⟨_, g', e', k1, k4⟩ := k
  have : g' = g := by omega
  subst this
  exact ⟨h0, g', e', h1, h2, h3, k4⟩
end
section
variable {P : Program} {d : Option Tmp} {ty : TypeId} {pos : String} {af : Array Edge} {gd : Option (Nat × Bool)} {a : Act} {w : World} {t e : TypeId} {x y : Operand} {β B : Nat} {ls : List Nat} {S : List (List Value)} {i : Nat} {Sx : World → Prop} {D : TypeDesc}
theorem run_loadAgg {n : Nat} {cs : List Value} (hT : P.underlying t = some D) (hD : (match D with | .struct _ | .array _ _ => true | _ => false) = true) (hz : SizeIs P t n) (hn : n ≤ cs.length) (hx : Cells cs (a.eval x) w) :
    (execOp a.eval ⟨d, .load t x, ty, pos, af, gd⟩).run P w = .ok (.value (.agg (cs.take n).toArray)) w := by
  obtain ⟨b, o, hv, hc⟩ := hx
  have hagg : (isAgg t).run P w = .ok true w := by
    unfold isAgg
    simp only [Sem.run_bind, run_underlying hT, Result.andThen_ok]
    cases D <;> first | rfl | (simp at hD)
  have hl := run_loadCells_list (P := P) (w := w) ⟨b, o, none⟩ (cs.take n) (fun j v hj => by
    have hjn : j < (cs.take n).length := (List.getElem?_eq_some_iff.1 hj).1
    have h1 : j < cs.length := by simp at hjn; omega
    rw [Go.WideShapes.add_plain, hc j h1]
    rw [List.getElem?_take_of_lt (by simp at hjn; omega)] at hj
    simp [List.getD_eq_getElem?_getD, hj])
  have hlen : (cs.take n).length = n := by simp; omega
  rw [hlen] at hl
  simp [execOp, Instr.loadAt, hv, Instr.sureAddr, loadVar, hagg, hz.run, hl]
/-- Loads of what stands while 'Sx' holds. -/
theorem yh_loadSg {c : Value} (hT : P.underlying t = some D) (hD : (match D with | .struct _ | .array _ _ => false | _ => true) = true) (hx : PxS β B ls S i (a.eval x) w) (hr : ∀ W, Sx W → BlkS β ls S W) (hs : S[i]? = some [c]) :
    ∃ v, (∀ W, Sx W → (execOp a.eval ⟨d, .load t x, ty, pos, af, gd⟩).run P W = .ok (.value v) W) ∧ vp (Is c) v w := by
  obtain ⟨h0, g, e9, h1, h2, h3, h4⟩ := hx
  refine yh_load hT hD h3 (fun W hW => ?_) rfl
  obtain ⟨_, g', e', k1, k4⟩ := hr W hW
  have : g' = g := by omega
  subst this
  have := flat_at (k := 0) h0 hs (by simp)
  rw [Nat.add_zero] at this
  rw [k4.cell, this]; rfl
theorem yh_loadAgS {n : Nat} (j : Nat) (hT : P.underlying t = some D) (hD : (match D with | .struct _ | .array _ _ => true | _ => false) = true) (hz : SizeIs P t n) (hx : PxS β B ls S i (a.eval x) w) (hr : ∀ W, Sx W → BlkS β ls S W) (hij : (decide (i ≤ j) && ((ls.take i).sum + n == (ls.take j).sum)) = true) :
    ∃ v, (∀ W, Sx W → (execOp a.eval ⟨d, .load t x, ty, pos, af, gd⟩).run P W = .ok (.value v) W) ∧ vp (Is (.agg ((S.drop i).take (j - i)).flatten.toArray)) v w := by
  have h0 := hx.1
  simp only [Bool.and_eq_true, decide_eq_true_eq, beq_iff_eq] at hij
  have e1 : (S.drop i).flatten = ((S.drop i).take (j - i)).flatten ++ (S.drop j).flatten := by
    have : S.drop j = (S.drop i).drop (j - i) := by rw [List.drop_drop]; congr 1; omega
    rw [this, ← List.flatten_append, List.take_append_drop]
  have e2 : ((S.drop i).take (j - i)).flatten.length = n := by
    have h1 := seg_off h0 j
    have h2 := seg_off h0 i
    have : S.take j = S.take i ++ (S.drop i).take (j - i) := by
      have hji : j = i + (j - i) := by omega
      conv => lhs; rw [hji]
      rw [List.take_add]
    rw [this, List.flatten_append, List.length_append] at h1
    omega
  refine ⟨_, fun W hW => ?_, rfl⟩
  have := run_loadAgg (d := d) (ty := ty) (pos := pos) (af := af) (gd := gd) (n := n) hT hD hz (cs := (S.drop i).flatten) (by rw [e1, List.length_append]; omega) ((hr W hW).px hx).cells
  rw [this, e1, ← e2, List.take_left]
theorem yh_loadSgA {n : Nat} {cs : List Value} (hT : P.underlying t = some D) (hD : (match D with | .struct _ | .array _ _ => true | _ => false) = true) (hz : SizeIs P t n) (hx : PxS β B ls S i (a.eval x) w) (hr : ∀ W, Sx W → BlkS β ls S W) (hs : S[i]? = some cs) (hn : ls.getD i 0 = n) :
    ∃ v, (∀ W, Sx W → (execOp a.eval ⟨d, .load t x, ty, pos, af, gd⟩).run P W = .ok (.value v) W) ∧ vp (Is (.agg cs.toArray)) v w := by
  have h0 := hx.1
  have hi : i < S.length := (List.getElem?_eq_some_iff.1 hs).1
  have hil : i < ls.length := by rw [← h0]; simpa using hi
  have := yh_loadAgS (d := d) (ty := ty) (pos := pos) (af := af) (gd := gd) (i + 1) hT hD hz hx hr (by
    simp only [Bool.and_eq_true, decide_eq_true_eq, beq_iff_eq]
    refine ⟨by omega, ?_⟩
    rw [List.take_succ_eq_append_getElem hil, List.sum_append, ← hn]
    simp [List.getD_eq_getElem?_getD, hil])
  have e : (S.drop i).take (i + 1 - i) = [cs] := by
    obtain ⟨_, rfl⟩ := List.getElem?_eq_some_iff.1 hs
    rw [show i + 1 - i = 1 from by omega, List.drop_eq_getElem_cons hi]; rfl
  rw [e] at this
  simpa using this
theorem pv_ext2 {k : Nat} {V U : VP} (hk : (k == 0 || k == 1) = true) (hx : Tup2 V U (a.eval x) w) : ∃ v, ∀ w, (execOp a.eval ⟨d, .extract x k, ty, pos, af, gd⟩).run P w = .ok (.value v) w := by
  obtain ⟨u, v, h, _, _⟩ := hx
  simp only [Bool.or_eq_true, beq_iff_eq] at hk
  rcases hk with rfl | rfl
  · exact ⟨u, fun w => by simp [execOp, Instr.extract, h]⟩
  · exact ⟨v, fun w => by simp [execOp, Instr.extract, h]⟩
theorem pv_buildS {ls : List Nat} {Z : List (List Value)} {parts : Array (Nat × Operand)} (xs : List (Nat × Operand)) (qs : List (Nat × List Value)) (hL : LayIs P t ls Z) (hp : parts = xs.toArray) (hR : PartsC a xs qs)
    (hq : (qs.all fun q => q.2.length == ls.getD q.1 0 && decide (q.1 < ls.length)) = true) : ∃ v, ∀ w, (execOp a.eval ⟨d, .build t parts, ty, pos, af, gd⟩).run P w = .ok (.value v) w := by
  obtain ⟨hZ, hz, fs, hT, hm⟩ := hL
  refine ⟨.agg (setAll Z qs).flatten.toArray, fun w => ?_⟩
  have hb : P.built t (xs.map fun q => (q.1, a.eval q.2)) = some (setAll Z qs).flatten.toArray := by
    unfold Program.built
    cases hi : P.info? t with
    | none => rw [hi] at hz; cases hz
    | some it =>
      rw [hi] at hz
      simp only [Option.map_some, Option.some.injEq] at hz
      simp only [hT, hz, hm]
      refine fill_segs _ ls (fun i hil => ?_) xs qs Z hZ hq hR
      simp [hil]
  have := run_build (P := P) w t ((xs.map fun q => (q.1, a.eval q.2)).toArray) _ (by simpa using hb)
  subst hp
  simp only [execOp]
  simp only [List.map_toArray]
  simp [this]
/-- A slice of a slice is the same in every world. -/
theorem pv_slice_gen {W : World} {l : List UInt8} {olo ohi : Option Operand} (lo hi : Nat) (hT : P.underlying t = some (.slice e)) (hz : SizeIs P e 1) (hx : Bs l (a.eval x) W)
    (hlo : olo = none ∧ lo = 0 ∨ ∃ y k, olo = some y ∧ a.eval y = .int k (lo : Int)) (hhi : ohi = none ∧ hi = l.length ∨ ∃ y k, ohi = some y ∧ a.eval y = .int k (hi : Int)) (h1 : lo ≤ hi) (h2 : hi ≤ l.length) :
    ∃ v, ∀ w, (execOp a.eval ⟨d, .slice t x olo ohi none, ty, pos, af, gd⟩).run P w = .ok (.value v) w := by
  obtain ⟨p, cap, hv⟩ := hx.len
  simp only [List.length_map] at hv
  have hcap : l.length ≤ cap := by
    rcases hx with ⟨hv', hl⟩ | ⟨q, cap', h3, h4, _⟩
    · simp at hl; subst hl; simp
    · rw [hv] at h3; simp at h3 h4; omega
  refine ⟨sliced p lo hi cap 1, fun w => ?_⟩
  have hb := run_sliceBounds_ok (P := P) (w := w) l.length cap lo hi (olo.map a.eval) (ohi.map a.eval)
    (by rcases hlo with ⟨rfl, rfl⟩ | ⟨y, k, rfl, hy⟩
        · exact .inl ⟨rfl, rfl⟩
        · exact .inr ⟨k, by simp [hy]⟩)
    (by rcases hhi with ⟨rfl, rfl⟩ | ⟨y, k, rfl, hy⟩
        · exact .inl ⟨rfl, rfl⟩
        · exact .inr ⟨k, by simp [hy]⟩) h1 (by omega)
  have ht := elem_of hT
  have he : P.elem t = e := by simp [Program.elem, hT]
  have h3 := run_slice_any (P := P) w t p l.length cap ht (olo.map a.eval) (ohi.map a.eval) none
  simp only [hb, Result.andThen_ok, he, hz.run] at h3
  have h4 : (Instr.sliceAt t (.slice p l.length cap) (olo.map a.eval) (ohi.map a.eval) none).run P w = .ok (sliced p lo hi cap 1) w := by
    rw [run_sliceAt_slice (P := P) (w := w) (h := ht)]; exact h3
  simp only [execOp, hv, Option.map_none]
  simp [h4]
theorem pv_slice_hi {W : World} {l : List UInt8} {k : IntKind} (hi : Nat) (hT : P.underlying t = some (.slice e)) (hz : SizeIs P e 1) (hx : Bs l (a.eval x) W) (hy : a.eval y = .int k (hi : Int)) (h2 : hi ≤ l.length) :
    ∃ v, ∀ w, (execOp a.eval ⟨d, .slice t x none (some y) none, ty, pos, af, gd⟩).run P w = .ok (.value v) w := pv_slice_gen 0 hi hT hz hx (.inl ⟨rfl, rfl⟩) (.inr ⟨y, k, rfl, hy⟩) (by omega) h2
theorem pv_slice_lo {W : World} {l : List UInt8} {k : IntKind} (lo : Nat) (hT : P.underlying t = some (.slice e)) (hz : SizeIs P e 1) (hx : Bs l (a.eval x) W) (hy : a.eval y = .int k (lo : Int)) (h2 : lo ≤ l.length) :
    ∃ v, ∀ w, (execOp a.eval ⟨d, .slice t x (some y) none none, ty, pos, af, gd⟩).run P w = .ok (.value v) w := pv_slice_gen lo l.length hT hz hx (.inr ⟨y, k, rfl, hy⟩) (.inl ⟨rfl, rfl⟩) h2 (Nat.le_refl _)
theorem pv_slice_lh {W : World} {l : List UInt8} {k k' : IntKind} {z : Operand} (lo hi : Nat) (hT : P.underlying t = some (.slice e)) (hz : SizeIs P e 1) (hx : Bs l (a.eval x) W) (hy : a.eval y = .int k (lo : Int)) (hz' : a.eval z = .int k' (hi : Int)) (h1 : lo ≤ hi) (h2 : hi ≤ l.length) :
    ∃ v, ∀ w, (execOp a.eval ⟨d, .slice t x (some y) (some z) none, ty, pos, af, gd⟩).run P w = .ok (.value v) w := pv_slice_gen lo hi hT hz hx (.inr ⟨y, k, rfl, hy⟩) (.inr ⟨z, k', rfl, hz'⟩) h1 h2
end

/-! ## Every order of the rest -/
def Qn (K : Act → World → Prop) (Q : Exit → Act → World → Prop) : Exit → Act → World → Prop
  | .normal, a, w => K a w
  | e, a, w => Q e a w
section
variable {P : Program} {ops : Array Oper} {Q : Exit → Act → World → Prop} {S : World → Prop} {K K' : Act → World → Prop} {a : Act} {w : World} {L : Array Bool} {fuel : Nat}
theorem lets_qn (h : LetsOut (Qn K Q)) : LetsOut Q := h
theorem wp_qn {o : Oper} (h : o.wp P a w K (Qn K' Q)) : o.wp P a w K Q := by
  unfold Oper.wp at *
  generalize (execOp a.eval o).run P w = r at *
  cases r with
  | ok n w' =>
    cases n <;> simp only [Oper.upon] at h ⊢ <;>
      first
        | exact h
        | exact Calls.mono h (fun e w'' he => by cases e <;> first | exact he | exact lets_qn he)
  | halt x w' => cases x <;> simp only [Oper.upon] at h ⊢ <;> exact h
theorem br_of {i : Nat} {o : Oper} (hi : ops[i]? = some o) (h : wpList P ops (Qn K Q) [o] a w) : wpOp P ops Q i K a w := by
  unfold wpOp
  rw [hi]
  simp only [wpList] at h ⊢
  split
  · rename_i hw
    rw [if_pos hw] at h
    rcases h with h | h
    · exact .inl (wp_qn h)
    · exact .inr ⟨h.1, lets_qn h.2⟩
  · rename_i hw
    rw [if_neg hw] at h
    exact h
theorem qn_done (hS : S w) (h : K a w) : wpList P ops (Qn (fun a w => S w ∧ K a w) Q) [] a w := ⟨hS, h⟩
theorem anyH_br1 {i : Nat} {o : Oper} (hr : (Region.ready .any ops L == [i]) = true) (hi : ops[i]? = some o)
    (h : wpList P ops (Qn (fun a' w' => S w' ∧ wpAnyH P .any ops Q S fuel (L.setIfInBounds i true) a' w') Q) [o] a w) : wpAnyH P .any ops Q S (fuel + 1) L a w :=
  wpAnyH_all (rs := [i]) (by simpa using hr) (by simp) fun j hj => by
    simp only [List.mem_cons, List.not_mem_nil, or_false] at hj
    subst hj
    exact br_of hi h
theorem anyH_br2 {i j : Nat} {o o' : Oper} (hr : (Region.ready .any ops L == [i, j]) = true) (hi : ops[i]? = some o) (hj : ops[j]? = some o')
    (h : wpList P ops (Qn (fun a' w' => S w' ∧ wpAnyH P .any ops Q S fuel (L.setIfInBounds i true) a' w') Q) [o] a w)
    (h' : wpList P ops (Qn (fun a' w' => S w' ∧ wpAnyH P .any ops Q S fuel (L.setIfInBounds j true) a' w') Q) [o'] a w) : wpAnyH P .any ops Q S (fuel + 1) L a w :=
  wpAnyH_all (rs := [i, j]) (by simpa using hr) (by simp) fun k hk => by
    simp only [List.mem_cons, List.not_mem_nil, or_false] at hk
    rcases hk with rfl | rfl
    · exact br_of hi h
    · exact br_of hj h'
theorem anyH_br3 {i j l : Nat} {o o' o'' : Oper} (hr : (Region.ready .any ops L == [i, j, l]) = true) (hi : ops[i]? = some o) (hj : ops[j]? = some o') (hl : ops[l]? = some o'')
    (h : wpList P ops (Qn (fun a' w' => S w' ∧ wpAnyH P .any ops Q S fuel (L.setIfInBounds i true) a' w') Q) [o] a w)
    (h' : wpList P ops (Qn (fun a' w' => S w' ∧ wpAnyH P .any ops Q S fuel (L.setIfInBounds j true) a' w') Q) [o'] a w)
    (h'' : wpList P ops (Qn (fun a' w' => S w' ∧ wpAnyH P .any ops Q S fuel (L.setIfInBounds l true) a' w') Q) [o''] a w) : wpAnyH P .any ops Q S (fuel + 1) L a w :=
  wpAnyH_all (rs := [i, j, l]) (by simpa using hr) (by simp) fun k hk => by
    simp only [List.mem_cons, List.not_mem_nil, or_false] at hk
    rcases hk with rfl | rfl | rfl
    · exact br_of hi h
    · exact br_of hj h'
    · exact br_of hl h''
end
end Go.Proofs.Ytdohlcakoamdhaa
