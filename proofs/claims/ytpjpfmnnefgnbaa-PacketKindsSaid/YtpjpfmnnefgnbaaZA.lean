/- 'append(x, make([]T, n)...)' of an owned row. -/
import Derived.Test.YtpjpfmnnefgnbaaW
import Derived.Lib.AppendZeros
namespace Go.Proofs.Ytpjpfmnnefgnbaa
set_option linter.unusedVariables false
set_option linter.unusedSimpArgs false
open Go Go.RowKit
variable {dfs : List Deferred}

theorem zeros_list {v0 : Value} (n : Nat) : (Builtin.zeroCells #[v0] n).toList = List.replicate n v0 := by
  simp only [Builtin.zeroCells, List.size_toArray, List.length_cons, List.length_nil, Nat.mul_one, Array.toList_map, Array.toList_range]
  apply List.ext_getElem
  · simp
  · intro i h1 h2
    simp [Nat.mod_one]
theorem run_zeros_room {P : Program} (w : World) (t tn ty e : TypeId) (i : TypeInfo) (z v0 : Value) (k kn : IntKind) (ht : P.underlying t = some (.slice e)) (htn : P.underlying tn = some (.int kn)) (hi : P.info? e = some i) (hz : i.zero = some z)
    (hs : i.size = 1) (hc : z.cells = #[v0]) (h1 : v0.oneCell' = true) (g sLen sCap : Nat) (cur : Array Value) (hg : w.heap[g]? = some (.cells cur e (0, 0))) (m : Nat) (h0 : 0 < m) (h63 : (m : Int) ≤ 9223372036854775807) (h48 : m * i.bytes ≤ 281474976710656)
    (hroom : sLen + m ≤ sCap) (hfit : sLen + m ≤ cur.size) :
    (Builtin.append_ #[t, tn] ty #[.slice (some ⟨g, 0, none⟩) sLen sCap, .int k m]).run P w =
      .ok (.slice (some ⟨g, 0, none⟩) (sLen + m) sCap) (w.setRow g (cur.toList.take sLen ++ List.replicate m v0 ++ cur.toList.drop (sLen + m)).toArray) := by
  have hn : m ≠ 0 := by omega
  have hw : IntKind.i64.wrap (m : Int) = m := by rw [IntKind.wrap_i64]; omega
  have hneg : ¬ ((m : Int) < 0) := by omega
  have h48i : ¬ (281474976710656 < (m : Int) * (i.bytes : Int)) := by rw [← Int.natCast_mul]; omega
  have hst := run_storeCells_at P g (sLen * 1) e (List.replicate m v0) 0 cur w hg (by simpa using hfit) (by intro u hu; rw [List.mem_replicate] at hu; rw [hu.2]; exact h1)
  simp only [Nat.add_zero, Nat.mul_one, List.length_replicate] at hst
  have hzl := zeros_list (v0 := v0) m
  simp [Builtin.append_, run_underlying ht, run_underlying htn, sizeOf, typeInfo, zeroValue, hi, hz, hs, asInt, asIntOf, hw, hn, hneg, h48i, hroom, Addr.add_lit, hc, hzl, hst]
theorem run_zeros_grow {P : Program} (w : World) (t tn ty e : TypeId) (i : TypeInfo) (z v0 : Value) (k kn : IntKind) (ht : P.underlying t = some (.slice e)) (htn : P.underlying tn = some (.int kn)) (hi : P.info? e = some i) (hz : i.zero = some z)
    (hs : i.size = 1) (hc : z.cells = #[v0]) (b : Addr) (sLen sCap : Nat) (olds : List Value) (hlo : olds.length = sLen) (holds : ∀ j v, olds[j]? = some v → w.cell? (b.add j) = some v)
    (m : Nat) (h0 : 0 < m) (h63m : (m : Int) ≤ 9223372036854775807) (h48 : m * i.bytes ≤ 281474976710656)
    (hg : sCap < sLen + m) (h63 : ((sLen + m : Nat) : Int) ≤ 9223372036854775807) (hfit : Builtin.nextslicecap (sLen + m) sCap * i.bytes ≤ 281474976710656) :
    (Builtin.append_ #[t, tn] ty #[.slice (some b) sLen sCap, .int k m]).run P w =
      .ok (.slice (some ⟨w.heap.size, 0, none⟩) (sLen + m) (grownCap w (sLen + m) sCap e))
        (w.drew.alloc (.cells (olds.toArray ++ (List.replicate m v0).toArray ++ Builtin.zeroCells z.cells (grownCap w (sLen + m) sCap e - (sLen + m))) e)) := by
  have hn : m ≠ 0 := by omega
  have hw : IntKind.i64.wrap (m : Int) = m := by rw [IntKind.wrap_i64]; omega
  have hneg : ¬ ((m : Int) < 0) := by omega
  have h48i : ¬ (281474976710656 < (m : Int) * (i.bytes : Int)) := by rw [← Int.natCast_mul]; omega
  have hr : ¬ (sLen + m ≤ sCap) := by omega
  have h63' : ¬ (9223372036854775807 < ((sLen : Int) + (m : Int))) := by omega
  have h48' : ¬ (281474976710656 < Builtin.nextslicecap (sLen + m) sCap * i.bytes) := by omega
  have hfo := run_firstCells_some (P := P) w.drew 1 sLen b sLen sCap olds (by omega) (by simpa using holds)
  have hzl : Builtin.zeroCells #[v0] m = (List.replicate m v0).toArray := by apply Array.ext'; rw [zeros_list]
  simp [Builtin.append_, run_underlying ht, run_underlying htn, sizeOf, typeInfo, zeroValue, hi, hz, hs, asInt, asIntOf, hw, hn, hneg, h48i, hr, h63', h48', Question.forced, hfo, newRow, grownCap, hc, hzl]
  try (congr 2; apply Array.ext'; simp [List.append_assoc])
section
variable {P : Program} {Q : Exit → Act → World → Prop} {ops : Array Oper} {rest : List Oper} {d : Tmp} {ty : TypeId} {pos : String} {af : Array Edge} {a : Act} {w : World} {n : Nat}
theorem wl_append_z {β B : Nat} {t tn e : TypeId} {kn k' : IntKind} {z : Value} {bytes : Nat} {x y : Operand} {l : List UInt8} {m : Nat} (hfr : FrD dfs n a) (hd : decide (d < n) = true) (hT : P.underlying t = some (.slice e)) (hN : P.underlying tn = some (.int kn)) (hI : InfoIs P e z bytes) (hzc : z.cells = #[byteV 0])
    (hx : OwnBA β B e l (a.eval x) w) (hy : Is (.int k' (m : Int)) (a.eval y) w) (h0 : 0 < m) (hB : B ≤ w.heap.size) (hroom : (l.length + m) * bytes ≤ 140737488355328 ∧ l.length + m ≤ 9223372036854775807)
    (k : ∀ β' a' w', (β' = β ∨ β' = w.heap.size + 1) → ChgAt β w w' → FrD dfs n a' → OwnBA β' B e (l ++ List.replicate m 0) (a'.eval (.tmp d)) w' → Same [d] a a' → wpList P ops Q rest a' w') :
    wpList P ops Q (⟨some d, .call ⟨.builtin .append, #[x, y], #[t, tn]⟩, ty, pos, af, none⟩ :: rest) a w := by
  obtain ⟨i, hi, hz, hsz, hby⟩ := hI.get
  have hsz1 : i.size = 1 := hsz
  have hdn : d < a.tmps.size := by rw [hfr.1]; simpa using hd
  obtain ⟨hx, rfl⟩ := hx
  have hy' : a.eval y = .int k' (m : Int) := hy
  have hmb : m * bytes ≤ (l.length + m) * bytes := Nat.mul_le_mul_right _ (by omega)
  have hlen : (l.map byteV ++ List.replicate m (byteV 0)).length = (l.map byteV).length + m := by simp
  have hone : (byteV 0).oneCell' = true := rfl
  refine wpList_plain rfl fun K hK => ?_
  have key : ∃ v' w', (Builtin.append_ #[t, tn] ty #[a.eval x, .int k' (m : Int)]).run P w = .ok v' w' ∧ Own B e (l.map byteV ++ List.replicate m (byteV 0)) v' w' ∧ w.grownBy w' (a.eval x).ownBlock ∧ (bk v' = bk (a.eval x) ∨ bk v' = w.heap.size + 1) := by
    have grown : ∀ (old : Nat), old < l.length + m → ∀ (row : Option Nat),
        Own B e (l.map byteV ++ List.replicate m (byteV 0)) (.slice (some ⟨w.heap.size, 0, none⟩) (l.length + m) (grownCap w (l.length + m) old e)) (w.drew.alloc (.cells ((l.map byteV).toArray ++ (List.replicate m (byteV 0)).toArray ++ Builtin.zeroCells z.cells (grownCap w (l.length + m) old e - (l.length + m))) e)) ∧
        w.grownBy (w.drew.alloc (.cells ((l.map byteV).toArray ++ (List.replicate m (byteV 0)).toArray ++ Builtin.zeroCells z.cells (grownCap w (l.length + m) old e - (l.length + m))) e)) row := by
      intro old ho row
      have hge := grownCap_ge w (l.length + m) old e
      have hcm : grownCap w (l.length + m) old e ≤ maxLen := grownCap_le_maxLen w (l.length + m) old e (by unfold maxLen; omega)
      refine ⟨?_, ⟨rfl, rfl, rfl, by simp, fun k hk _ => heap_alloc_old w.drew _ hk⟩⟩
      unfold Own
      rw [hlen, List.length_map]
      refine ⟨by simp, .inr ⟨w.heap.size, _, _, rfl, hB, heap_alloc_new w.drew _, hge, hcm, ?_, ?_⟩⟩
      · simp only [Array.size_append, List.size_toArray, size_zeroCells, hzc, List.length_map, List.length_replicate, List.length_cons, List.length_nil]
        omega
      · simp only [Array.toList_append, List.append_assoc]
        rw [← List.append_assoc, Nat.mul_one, show l.length + m = (l.map byteV ++ List.replicate m (byteV 0)).length from by simp]
        exact List.take_left
    have hx0 := hx
    unfold Own at hx0
    rw [List.length_map] at hx0
    rcases hx0.2 with ⟨h3, h4⟩ | ⟨g, cap, cur, h3, hbg, hg, hnc, hcm, hcs, htake⟩
    · have hl : l = [] := List.eq_nil_of_length_eq_zero h4
      have h := Lib.run_append_nil_zeros (P := P) w t tn ty e i z k' kn hT hN hi hz m h0 (by omega) (by omega) (by rw [hby]; omega)
      have hgr := grown 0 (by omega) (a.eval x).ownBlock
      rw [h3]
      refine ⟨_, _, h, ?_, ?_, .inr rfl⟩
      · have := hgr.1
        subst hl
        have hzl : Builtin.zeroCells z.cells m = (List.replicate m (byteV 0)).toArray := by rw [hzc]; apply Array.ext'; rw [zeros_list]
        rw [hzl]
        simpa using this
      · have := hgr.2
        subst hl
        have hzl : Builtin.zeroCells z.cells m = (List.replicate m (byteV 0)).toArray := by rw [hzc]; apply Array.ext'; rw [zeros_list]
        rw [hzl]
        rw [h3] at this
        simpa using this
    · rw [h3]
      rw [Nat.mul_one] at hcs htake
      by_cases hr : l.length + m ≤ cap
      · have h := run_zeros_room (P := P) w t tn ty e i z (byteV 0) k' kn hT hN hi hz hsz1 hzc hone g l.length cap cur hg m h0 (by omega) (by rw [hby]; omega) hr (by omega)
        refine ⟨_, _, h, ?_, ⟨rfl, rfl, rfl, by simp, fun k _ hk => setRow_other w g k _ (fun e => hk (by simp [Value.ownBlock, e]))⟩, .inl rfl⟩
        unfold Own
        rw [hlen, List.length_map]
        refine ⟨by simp, .inr ⟨g, cap, _, rfl, hbg, setRow_heap w g cur _ e _ hg, hr, hcm, ?_, ?_⟩⟩
        · simp only [List.size_toArray, List.length_append, List.length_take, List.length_drop, Array.length_toList, List.length_replicate]
          omega
        · rw [htake, Nat.mul_one]
          rw [show l.length + m = (l.map byteV ++ List.replicate m (byteV 0)).length from by simp]
          exact List.take_left
      · have holds : ∀ j u, (l.map byteV)[j]? = some u → w.cell? ((⟨g, 0, none⟩ : Addr).add j) = some u := hx.cells (g := g) (by rw [h3]; rfl)
        have h := run_zeros_grow (P := P) w t tn ty e i z (byteV 0) k' kn hT hN hi hz hsz1 hzc ⟨g, 0, none⟩ l.length cap (l.map byteV) (by simp) holds m h0 (by omega) (by rw [hby]; omega) (by omega) (by omega) (growslice_fits (by omega) (by rw [hby]; exact hroom.1))
        have hgr := grown cap (by omega) (Value.ownBlock (.slice (some ⟨g, 0, none⟩) l.length cap))
        exact ⟨_, _, h, hgr.1, hgr.2, .inr rfl⟩
  obtain ⟨v', w', hr, hown, hg, hbk⟩ := key
  unfold Oper.wp execOp
  simp only [resolve, invoke, builtin, Sem.run_bind, Sem.run_pure, Result.andThen_ok, List.map_toArray, List.map_cons, List.map_nil, hy', hr]
  refine hK _ _ (k (bk v') _ w' hbk (ChgAt.of_grown hg) (put_fr hfr) ?_ put_same)
  rw [put_eval hdn]
  refine ⟨?_, rfl⟩
  rw [List.map_append, List.map_replicate]
  exact hown
end
end Go.Proofs.Ytpjpfmnnefgnbaa
