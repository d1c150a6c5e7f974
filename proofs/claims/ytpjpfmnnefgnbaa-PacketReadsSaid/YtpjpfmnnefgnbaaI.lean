/- Regions that draw their order: what only reads is taken first, then the rest in each of its orders. -/
import Derived.Test.YtpjpfmnnefgnbaaH
import Derived.Test.YtpjpfmnnefgnbaaJ
import Derived.Lib.SlBytesConst
namespace Go.Proofs.Ytpjpfmnnefgnbaa
set_option linter.unusedVariables false
set_option linter.unusedSimpArgs false
open Go Go.RowKit
variable {dfs : List Deferred}

/-- What stands at a place. -/
def BlkS (β : Nat) (ls : List Nat) (S : List (List Value)) (w : World) : Prop := S.map List.length = ls ∧ ∃ g e, β = g + 1 ∧ Blk g e S.flatten w
section
variable {β B B' : Nat} {ls : List Nat} {S : List (List Value)} {i : Nat} {v : Value} {w W : World}
theorem PxS.blkS (h : PxS β B ls S i v w) : BlkS β ls S w := by
  obtain ⟨h0, g, e, h1, h2, h3, h4⟩ := h
  exact ⟨h0, g, e, h1, h4⟩
theorem BlkS.px (k : BlkS β ls S W) (h : PxS β B ls S i v w) : PxS β B ls S i v W := by
  obtain ⟨h0, g, e, h1, h2, h3, h4⟩ := h
  obtain ⟨_, g', e', k1, k4⟩ := k
  have : g' = g := by omega
  subst this
  exact ⟨h0, g', e', h1, h2, h3, k4⟩
end
section
variable {P : Program} {d : Option Tmp} {ty : TypeId} {pos : String} {af : Array Edge} {gd : Option (Nat × Bool)} {a : Act} {w : World} {t e : TypeId} {x y : Operand} {β B : Nat} {ls : List Nat} {S : List (List Value)} {i : Nat} {Sx : World → Prop} {D : TypeDesc}
theorem run_loadAgg {n : Nat} {cs : List Value} (hT : P.underlying t = some D) (hD : (match D with | .struct _ | .array _ _ => true | _ => false) = true) (hz : SizeIs P t n) (hn : n ≤ cs.length) (hx : Cells cs (a.eval x) w) :
    (execOp a.eval ⟨d, .load t x, ty, pos, af, gd⟩).run P w = .ok (.value (.agg (cs.take n).toArray)) w := by
  obtain ⟨b, o, hv, hc⟩ := hx
  have hagg : (isAgg t).run P w = .ok true w := by
    unfold isAgg
    simp only [Sem.run_bind, run_underlying hT, Result.andThen_ok]
    cases D <;> first | rfl | (simp at hD)
  have hl := run_loadCells_list (P := P) (w := w) ⟨b, o, none⟩ (cs.take n) (fun j v hj => by
    have hjn : j < (cs.take n).length := (List.getElem?_eq_some_iff.1 hj).1
    have h1 : j < cs.length := by simp at hjn; omega
    rw [Go.WideShapes.add_plain, hc j h1]
    rw [List.getElem?_take_of_lt (by simp at hjn; omega)] at hj
    simp [List.getD_eq_getElem?_getD, hj])
  have hlen : (cs.take n).length = n := by simp; omega
  rw [hlen] at hl
  simp [execOp, Instr.loadAt, hv, Instr.sureAddr, loadVar, hagg, hz.run, hl]
/-- Loads of what stands while 'Sx' holds. -/
theorem yh_loadSg {c : Value} (hT : P.underlying t = some D) (hD : (match D with | .struct _ | .array _ _ => false | _ => true) = true) (hx : PxS β B ls S i (a.eval x) w) (hr : ∀ W, Sx W → BlkS β ls S W) (hs : S[i]? = some [c]) :
    ∃ v, (∀ W, Sx W → (execOp a.eval ⟨d, .load t x, ty, pos, af, gd⟩).run P W = .ok (.value v) W) ∧ vp (Is c) v w := by
  obtain ⟨h0, g, e9, h1, h2, h3, h4⟩ := hx
  refine yh_load hT hD h3 (fun W hW => ?_) rfl
  obtain ⟨_, g', e', k1, k4⟩ := hr W hW
  have : g' = g := by omega
  subst this
  have := flat_at (k := 0) h0 hs (by simp)
  rw [Nat.add_zero] at this
  rw [k4.cell, this]; rfl
theorem yh_loadAgS {n : Nat} (j : Nat) (hT : P.underlying t = some D) (hD : (match D with | .struct _ | .array _ _ => true | _ => false) = true) (hz : SizeIs P t n) (hx : PxS β B ls S i (a.eval x) w) (hr : ∀ W, Sx W → BlkS β ls S W) (hij : (decide (i ≤ j) && ((ls.take i).sum + n == (ls.take j).sum)) = true) :
    ∃ v, (∀ W, Sx W → (execOp a.eval ⟨d, .load t x, ty, pos, af, gd⟩).run P W = .ok (.value v) W) ∧ vp (Is (.agg ((S.drop i).take (j - i)).flatten.toArray)) v w := by
  have h0 := hx.1
  simp only [Bool.and_eq_true, decide_eq_true_eq, beq_iff_eq] at hij
  have e1 : (S.drop i).flatten = ((S.drop i).take (j - i)).flatten ++ (S.drop j).flatten := by
    have : S.drop j = (S.drop i).drop (j - i) := by rw [List.drop_drop]; congr 1; omega
    rw [this, ← List.flatten_append, List.take_append_drop]
  have e2 : ((S.drop i).take (j - i)).flatten.length = n := by
    have h1 := seg_off h0 j
    have h2 := seg_off h0 i
    have : S.take j = S.take i ++ (S.drop i).take (j - i) := by
      have hji : j = i + (j - i) := by omega
      conv => lhs; rw [hji]
      rw [List.take_add]
    rw [this, List.flatten_append, List.length_append] at h1
    omega
  refine ⟨_, fun W hW => ?_, rfl⟩
  have := run_loadAgg (d := d) (ty := ty) (pos := pos) (af := af) (gd := gd) (n := n) hT hD hz (cs := (S.drop i).flatten) (by rw [e1, List.length_append]; omega) ((hr W hW).px hx).cells
  rw [this, e1, ← e2, List.take_left]
theorem pv_ext2 {k : Nat} {V U : VP} (hk : (k == 0 || k == 1) = true) (hx : Tup2 V U (a.eval x) w) : ∃ v, ∀ w, (execOp a.eval ⟨d, .extract x k, ty, pos, af, gd⟩).run P w = .ok (.value v) w := by
  obtain ⟨u, v, h, _, _⟩ := hx
  simp only [Bool.or_eq_true, beq_iff_eq] at hk
  rcases hk with rfl | rfl
  · exact ⟨u, fun w => by simp [execOp, Instr.extract, h]⟩
  · exact ⟨v, fun w => by simp [execOp, Instr.extract, h]⟩
/-- A slice of a slice is the same in every world. -/
theorem pv_slice_gen {W : World} {l : List UInt8} {olo ohi : Option Operand} (lo hi : Nat) (hT : P.underlying t = some (.slice e)) (hz : SizeIs P e 1) (hx : Bs l (a.eval x) W)
    (hlo : olo = none ∧ lo = 0 ∨ ∃ y k, olo = some y ∧ a.eval y = .int k (lo : Int)) (hhi : ohi = none ∧ hi = l.length ∨ ∃ y k, ohi = some y ∧ a.eval y = .int k (hi : Int)) (h1 : lo ≤ hi) (h2 : hi ≤ l.length) :
    ∃ v, ∀ w, (execOp a.eval ⟨d, .slice t x olo ohi none, ty, pos, af, gd⟩).run P w = .ok (.value v) w := by
  obtain ⟨p, cap, hv⟩ := hx.len
  simp only [List.length_map] at hv
  have hcap : l.length ≤ cap := by
    rcases hx with ⟨hv', hl⟩ | ⟨q, cap', h3, h4, _⟩
    · simp at hl; subst hl; simp
    · rw [hv] at h3; simp at h3 h4; omega
  refine ⟨sliced p lo hi cap 1, fun w => ?_⟩
  have hb := run_sliceBounds_ok (P := P) (w := w) l.length cap lo hi (olo.map a.eval) (ohi.map a.eval)
    (by rcases hlo with ⟨rfl, rfl⟩ | ⟨y, k, rfl, hy⟩
        · exact .inl ⟨rfl, rfl⟩
        · exact .inr ⟨k, by simp [hy]⟩)
    (by rcases hhi with ⟨rfl, rfl⟩ | ⟨y, k, rfl, hy⟩
        · exact .inl ⟨rfl, rfl⟩
        · exact .inr ⟨k, by simp [hy]⟩) h1 (by omega)
  have ht := elem_of hT
  have he : P.elem t = e := by simp [Program.elem, hT]
  have h3 := run_slice_any (P := P) w t p l.length cap ht (olo.map a.eval) (ohi.map a.eval) none
  simp only [hb, Result.andThen_ok, he, hz.run] at h3
  have h4 : (Instr.sliceAt t (.slice p l.length cap) (olo.map a.eval) (ohi.map a.eval) none).run P w = .ok (sliced p lo hi cap 1) w := by
    rw [run_sliceAt_slice (P := P) (w := w) (h := ht)]; exact h3
  simp only [execOp, hv, Option.map_none]
  simp [h4]
theorem pv_slice_lo {W : World} {l : List UInt8} {k : IntKind} (lo : Nat) (hT : P.underlying t = some (.slice e)) (hz : SizeIs P e 1) (hx : Bs l (a.eval x) W) (hy : a.eval y = .int k (lo : Int)) (h2 : lo ≤ l.length) :
    ∃ v, ∀ w, (execOp a.eval ⟨d, .slice t x (some y) none none, ty, pos, af, gd⟩).run P w = .ok (.value v) w := pv_slice_gen lo l.length hT hz hx (.inr ⟨y, k, rfl, hy⟩) (.inl ⟨rfl, rfl⟩) h2 (Nat.le_refl _)
theorem pv_slice_lh {W : World} {l : List UInt8} {k k' : IntKind} {z : Operand} (lo hi : Nat) (hT : P.underlying t = some (.slice e)) (hz : SizeIs P e 1) (hx : Bs l (a.eval x) W) (hy : a.eval y = .int k (lo : Int)) (hz' : a.eval z = .int k' (hi : Int)) (h1 : lo ≤ hi) (h2 : hi ≤ l.length) :
    ∃ v, ∀ w, (execOp a.eval ⟨d, .slice t x (some y) (some z) none, ty, pos, af, gd⟩).run P w = .ok (.value v) w := pv_slice_gen lo hi hT hz hx (.inr ⟨y, k, rfl, hy⟩) (.inr ⟨z, k', rfl, hz'⟩) h1 h2
end

theorem AtW.any {W w w2 : World} {V : VP} {v : Value} (h : AtW W V v w) : AtW W V v w2 := h

/-! ## Three and five results -/
def Tup5 (V0 V1 V2 V3 V4 : VP) : VP := fun v w => ∃ x0 x1 x2 x3 x4, v = .tuple #[x0, x1, x2, x3, x4] ∧ V0 x0 w ∧ V1 x1 w ∧ V2 x2 w ∧ V3 x3 w ∧ V4 x4 w
instance (V0 V1 V2 V3 V4 : VP) [h0 : Stb V0] [h1 : Stb V1] [h2 : Stb V2] [h3 : Stb V3] [h4 : Stb V4] : Stb (Tup5 V0 V1 V2 V3 V4) :=
  ⟨fun _ _ _ hx ⟨x0, x1, x2, x3, x4, e, k0, k1, k2, k3, k4⟩ => ⟨x0, x1, x2, x3, x4, e, h0.st _ _ _ hx k0, h1.st _ _ _ hx k1, h2.st _ _ _ hx k2, h3.st _ _ _ hx k3, h4.st _ _ _ hx k4⟩⟩
section
variable {P : Program} {d : Option Tmp} {ty : TypeId} {pos : String} {af : Array Edge} {gd : Option (Nat × Bool)} {a : Act} {w : World} {x : Operand} {V0 V1 V2 V3 V4 : VP}
end
section
variable {P : Program} {fn : Func} {p q u t0 t1 t2 t3 t4 : Tmp} {rty sty : TypeId} {n m m' : Nat} {V : VP} {w0 w : World} {a : Act} {cs ds : List Value} {D D' : TypeDesc} {β γ B B' : Nat}
end
/-! ## '[]byte("..")' of a constant -/
section
variable {P : Program} {Q : Exit → Act → World → Prop} {ops : Array Oper} {rest : List Oper} {d : Tmp} {t e e9 ty : TypeId} {pos : String} {af : Array Edge} {a : Act} {w : World} {n β B : Nat} {x : Operand} {l : List UInt8}
theorem run_conv_own {g : Nat} {cur : Array Value} {m c : Nat} {fz : Nat × Nat} (ht : P.underlying t = some (.slice e)) (he : P.underlying e = some (.int .u8)) (hh : w.heap[g]? = some (.cells cur e9 fz)) :
    ∃ w', (convert t t (.slice (some ⟨g, 0, none⟩) m c)).run P w = .ok (.slice (some ⟨g, 0, none⟩) m c) w' ∧ ChgAt (g + 1) w w' ∧ ∃ fz', w'.heap[g]? = some (.cells cur e9 fz') := by
  have hsh : w.shape? g = some (e9, cur.size) := by unfold World.shape?; rw [hh]
  refine ⟨w.freeze ⟨g, cur.size, none⟩ 1, ?_, ?_, ?_⟩
  · simp [convert, run_underlying ht, run_underlying he, markStringish, hsh]
  · unfold World.freeze
    rw [if_neg (by decide)]
    exact ⟨rfl, rfl, rfl, by simp, fun k hk hne => by
      show (w.heap.modify g _)[k]? = _
      rw [Array.getElem?_modify, if_neg (by omega)]⟩
  · unfold World.freeze
    rw [if_neg (by decide)]
    show ∃ fz', (w.heap.modify g _)[g]? = _
    rw [Array.getElem?_modify, if_pos rfl, hh]
    exact ⟨_, rfl⟩
theorem wl_convS (hfr : FrD dfs n a) (hd : decide (d < n) = true) (hT : P.underlying t = some (.slice e)) (he : P.underlying e = some (.int .u8)) (hx : OwnBA β B e9 l (a.eval x) w) (hl : (l == []) = false)
    (k : ∀ β' a' w', (β' = β ∨ β' = w.heap.size + 1) → ChgAt β w w' → FrD dfs n a' → Bs l (a'.eval (.tmp d)) w' → Same [d] a a' → wpList P ops Q rest a' w') :
    wpList P ops Q (⟨some d, .convert t t x, ty, pos, af, none⟩ :: rest) a w := by
  have hdn : d < a.tmps.size := by rw [hfr.1]; simpa using hd
  rcases hx.blk with ⟨_, rfl, _⟩ | ⟨g, r, hg, hB, hv, hh, hm⟩
  · simp at hl
  · obtain ⟨w', hrun, hc, fz, hh'⟩ := run_conv_own (P := P) (m := l.length) (c := l.length + r.length) hT he hh
    refine wpList_plain rfl fun K hK => ?_
    unfold Oper.wp execOp
    simp only [Sem.run_bind, Result.andThen_ok, hv]
    have hrun' : (Functor.map Next.value (convert t t (.slice (some ⟨g, 0, none⟩) l.length (l.length + r.length)))).run P w = .ok (.value (.slice (some ⟨g, 0, none⟩) l.length (l.length + r.length))) w' := by
      simp [hrun]
    first | rw [hrun'] | simp only [hrun, Result.andThen_ok, Sem.run_pure]
    refine hK _ _ (k β _ w' (.inl rfl) (hg ▸ hc) (put_fr hfr) ?_ put_same)
    rw [put_eval hdn]
    refine .inr ⟨⟨g, 0, none⟩, l.length + r.length, by simp, by simp, hm, fun i hi => ?_⟩
    have hi2 : i < l.length := by simpa using hi
    refine ⟨byteV l[i], ?_, by rw [getD_map _ _ _ hi2]; rfl⟩
    rw [Go.WideShapes.add_plain, Nat.zero_add]
    unfold World.cell?
    simp [hh', hi2]
    rw [List.getElem?_append_left (by simpa using hi2)]
    simp [hi2]
end

/-! ## Every order of the rest -/
def Qn (K : Act → World → Prop) (Q : Exit → Act → World → Prop) : Exit → Act → World → Prop
  | .normal, a, w => K a w
  | e, a, w => Q e a w
section
variable {P : Program} {ops : Array Oper} {Q : Exit → Act → World → Prop} {S : World → Prop} {K K' : Act → World → Prop} {a : Act} {w : World} {L : Array Bool} {fuel : Nat}
theorem lets_qn (h : LetsOut (Qn K Q)) : LetsOut Q := h
theorem wp_qn {o : Oper} (h : o.wp P a w K (Qn K' Q)) : o.wp P a w K Q := by
  unfold Oper.wp at *
  generalize (execOp a.eval o).run P w = r at *
  cases r with
  | ok n w' =>
    cases n <;> simp only [Oper.upon] at h ⊢ <;>
      first
        | exact h
        | exact Calls.mono h (fun e w'' he => by cases e <;> first | exact he | exact lets_qn he)
  | halt x w' => cases x <;> simp only [Oper.upon] at h ⊢ <;> exact h
theorem br_of {i : Nat} {o : Oper} (hi : ops[i]? = some o) (h : wpList P ops (Qn K Q) [o] a w) : wpOp P ops Q i K a w := by
  unfold wpOp
  rw [hi]
  simp only [wpList] at h ⊢
  split
  · rename_i hw
    rw [if_pos hw] at h
    rcases h with h | h
    · exact .inl (wp_qn h)
    · exact .inr ⟨h.1, lets_qn h.2⟩
  · rename_i hw
    rw [if_neg hw] at h
    exact h
theorem qn_done (hS : S w) (h : K a w) : wpList P ops (Qn (fun a w => S w ∧ K a w) Q) [] a w := ⟨hS, h⟩
theorem anyH_br1 {i : Nat} {o : Oper} (hr : (Region.ready .any ops L == [i]) = true) (hi : ops[i]? = some o)
    (h : wpList P ops (Qn (fun a' w' => S w' ∧ wpAnyH P .any ops Q S fuel (L.setIfInBounds i true) a' w') Q) [o] a w) : wpAnyH P .any ops Q S (fuel + 1) L a w :=
  wpAnyH_all (rs := [i]) (by simpa using hr) (by simp) fun j hj => by
    simp only [List.mem_cons, List.not_mem_nil, or_false] at hj
    subst hj
    exact br_of hi h
theorem anyH_br2 {i j : Nat} {o o' : Oper} (hr : (Region.ready .any ops L == [i, j]) = true) (hi : ops[i]? = some o) (hj : ops[j]? = some o')
    (h : wpList P ops (Qn (fun a' w' => S w' ∧ wpAnyH P .any ops Q S fuel (L.setIfInBounds i true) a' w') Q) [o] a w)
    (h' : wpList P ops (Qn (fun a' w' => S w' ∧ wpAnyH P .any ops Q S fuel (L.setIfInBounds j true) a' w') Q) [o'] a w) : wpAnyH P .any ops Q S (fuel + 1) L a w :=
  wpAnyH_all (rs := [i, j]) (by simpa using hr) (by simp) fun k hk => by
    simp only [List.mem_cons, List.not_mem_nil, or_false] at hk
    rcases hk with rfl | rfl
    · exact br_of hi h
    · exact br_of hj h'
end
end Go.Proofs.Ytpjpfmnnefgnbaa
