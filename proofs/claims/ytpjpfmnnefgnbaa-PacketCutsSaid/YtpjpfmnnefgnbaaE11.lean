/- What layer 11's laws need, in plain Lean: frames cut off, frames with bytes behind, frames that are made. -/
import Derived.Test.YtpjpfmnnefgnbaaT11
import Derived.Test.YtpjpfmnnefgnbaaE13
namespace Go.Proofs.Ytpjpfmnnefgnbaa
set_option linter.unusedVariables false
set_option linter.unusedSimpArgs false
open Go

/-! ## Bytes behind, bytes cut off -/
theorem part_app {l m : List UInt8} {i n : Nat} (h : i + n ≤ l.length) : ((l ++ m).drop i).take n = (l.drop i).take n := by
  rw [List.drop_append_of_le_length (by omega), List.take_append_of_le_length (by rw [List.length_drop]; omega)]
theorem four_app {l m : List UInt8} (h : (fourRead l).2 = 0) : fourRead (l ++ m) = fourRead l := by
  obtain ⟨h1, h2, h3, h4, h5, h6⟩ := fourRead_conds h
  have hw := wordAt_bd l 2
  have b : ∀ i, i < 20 → byteAt (l ++ m) i = byteAt l i := fun i hi => byteAt_app (by omega)
  have w : ∀ i, i < 19 → wordAt (l ++ m) i = wordAt l i := fun i hi => by unfold wordAt; rw [b i (by omega), b (i + 1) (by omega)]
  have hl : (l ++ m).length = l.length + m.length := List.length_append
  have e2 : fourRead (l ++ m) = (fourIs (l ++ m), 0) := by
    refine fourRead_last (by omega) (by rw [b 0 (by omega)]; exact h2) (by rw [b 0 (by omega), hl]; omega) (by rw [b 0 (by omega), w 2 (by omega)]; omega) (by rw [w 2 (by omega), hl]; omega) ?_
    rw [b 0 (by omega), List.take_append_of_le_length (by omega)]
    exact h6
  rw [e2, fourRead_last h1 h2 h3 h4 h5 h6]
  unfold fourIs adr4
  rw [b 0 (by omega), b 1 (by omega), b 8 (by omega), b 9 (by omega), w 2 (by omega), w 4 (by omega), w 6 (by omega), part_app (by omega), part_app (by omega)]
theorem six_conds {l : List UInt8} (h : (sixRead l).2 = 0) : ¬ l.length < 40 ∧ ¬ byteAt l 0 / 16 ≠ 6 ∧ ¬ 40 + wordAt l 4 > (l.length : Int) := by
  unfold sixRead at h
  by_cases h1 : l.length < 40
  · rw [if_pos h1] at h; cases h
  rw [if_neg h1] at h
  by_cases h2 : byteAt l 0 / 16 ≠ 6
  · rw [if_pos h2] at h; cases h
  rw [if_neg h2] at h
  by_cases h3 : 40 + wordAt l 4 > (l.length : Int)
  · rw [if_pos h3] at h; cases h
  exact ⟨h1, h2, h3⟩
theorem six_app {l m : List UInt8} (h : (sixRead l).2 = 0) : sixRead (l ++ m) = sixRead l := by
  have hw := wordAt_bd l 4
  obtain ⟨h1, h2, h3⟩ := six_conds h
  have b : ∀ i, i < 40 → byteAt (l ++ m) i = byteAt l i := fun i hi => byteAt_app (by omega)
  have w : wordAt (l ++ m) 4 = wordAt l 4 := by unfold wordAt; rw [b 4 (by omega), b (4 + 1) (by omega)]
  have hl : (l ++ m).length = l.length + m.length := List.length_append
  unfold sixRead
  rw [if_neg (by omega), if_neg (by rw [b 0 (by omega)]; exact h2), if_neg (by rw [w, hl]; omega), if_neg h1, if_neg h2, if_neg h3, w, b 6 (by omega), List.take_append_of_le_length (by omega)]
  congr 1
  unfold sixHead adr6
  rw [w, b 6 (by omega), b 7 (by omega), part_app (by omega), part_app (by omega)]
theorem netT_app {k : Int} {l m : List UInt8} (h : (netT k l).2 = 0) : netT k (l ++ m) = netT k l := by
  unfold netT at h ⊢
  split
  · rename_i hk
    rw [if_pos hk] at h
    rw [four_app h]
  · rename_i hk
    rw [if_neg hk] at h
    rw [six_app h]
theorem netT_take {k : Int} {l : List UInt8} (h : (netT k l).2 = 0) : netT k (l.take (netT k l).1.total.toNat) = netT k l := by
  unfold netT at h ⊢
  split
  · rename_i hk
    rw [if_pos hk] at h
    simp only [four_take h]
  · rename_i hk
    rw [if_neg hk] at h
    simp only [six_take h]
theorem netT_cut {k : Int} {l : List UInt8} {n : Nat} (h : (netT k l).2 = 0) (hn : (n : Int) < (netT k l).1.total) : (netT k (l.take n)).2 ≠ 0 := by
  intro h0
  have e := netT_app (m := l.drop n) h0
  rw [List.take_append_drop] at e
  have hb := netT_bd h0
  rw [← e] at hb
  have := hb.2.2
  rw [List.length_take] at this
  omega
theorem link_app {l m : List UInt8} {k : Nat} (h : (linkRead l).2 = 0) (hk : pkA l ≤ k) : linkRead (l.take k ++ m) = linkRead l := by
  obtain ⟨h1, h2⟩ := link_only h
  have hb := linkRead_bd h
  have e : l.take k ++ m = linkPut (linkRead l).1 ++ ((l.take k).drop (pkA l) ++ m) := by
    rw [h2, ← List.append_assoc]
    congr 1
    show _ = l.take (pkA l) ++ _
    conv => lhs; rw [← List.take_append_drop (pkA l) (l.take k)]
    rw [List.take_take, Nat.min_eq_left hk]
  rw [e, link_back (linkRead_ok l) h1, ← hb.2.2.2, ← h]
theorem link_cut {l : List UInt8} {n : Nat} (h : (linkRead l).2 = 0) (hn : n < pkA l) : linkRead (l.take n) = (link0, 2) := by
  obtain ⟨h1, h2⟩ := link_only h
  have hb := linkRead_bd h
  have e : l.take n = (linkPut (linkRead l).1).take n := by
    rw [h2, List.take_take, Nat.min_eq_left (by show n ≤ pkA l; omega)]
  unfold pkA at hn
  rw [e, link_early (linkRead_ok l) h1 (by omega)]

/-! ## Fine frames -/
structure FineP (l : List UInt8) : Prop where
  lk : (linkRead l).2 = 0
  ty : (linkRead l).1.type = 2048 ∨ (linkRead l).1.type = 34525
  nt : (pkN l).2 = 0
  fr : (pkN l).1.frag = false
  ca : carriedB (pkN l).1.proto = true
  po : (portRead (pkN l).1.proto (pkP l)).2 = 0
def fineT (l : List UInt8) : TupL := ⟨(pkN l).1.src, (pkN l).1.dst, (pkN l).1.proto, (portRead (pkN l).1.proto (pkP l)).1.sport, (portRead (pkN l).1.proto (pkP l)).1.dport⟩
def fineR (l : List UInt8) : PktL := ⟨0, fineT l, (portRead (pkN l).1.proto (pkP l)).1.flags, (linkRead l).1.at', (linkRead l).1.at' + (pkN l).1.head, (linkRead l).1.at' + (pkN l).1.total⟩
theorem pkt_cases (l : List UInt8) : FineP l ∧ pktRead l = fineR l ∨ ∃ k, pktRead l = give k ∧ 1 ≤ k ∧ k ≤ 6 := by
  unfold pktRead
  by_cases h1 : (linkRead l).2 ≠ 0
  · rw [if_pos h1]; exact .inr ⟨1, rfl, by omega, by omega⟩
  rw [if_neg h1]
  by_cases h2 : ¬ ((linkRead l).1.type = 2048 ∨ (linkRead l).1.type = 34525)
  · rw [if_pos h2]; exact .inr ⟨2, rfl, by omega, by omega⟩
  rw [if_neg h2]
  by_cases h3 : (pkN l).2 ≠ 0
  · rw [if_pos h3]; exact .inr ⟨3, rfl, by omega, by omega⟩
  rw [if_neg h3]
  by_cases h4 : (pkN l).1.frag = true
  · rw [if_pos h4]; exact .inr ⟨4, rfl, by omega, by omega⟩
  rw [if_neg h4]
  by_cases h5 : carriedB (pkN l).1.proto = false
  · rw [if_pos h5]; exact .inr ⟨5, rfl, by omega, by omega⟩
  rw [if_neg h5]
  by_cases h6 : (portRead (pkN l).1.proto (pkP l)).2 ≠ 0
  · rw [if_pos h6]; exact .inr ⟨6, rfl, by omega, by omega⟩
  rw [if_neg h6]
  exact .inl ⟨⟨Decidable.not_not.1 h1, Decidable.not_not.1 h2, Decidable.not_not.1 h3, by simpa using h4, by simpa using h5, Decidable.not_not.1 h6⟩, rfl⟩
theorem fine_eq {l : List UInt8} (h : FineP l) : pktRead l = fineR l := by
  unfold pktRead
  rw [if_neg (not_not_intro h.lk), if_neg (not_not_intro h.ty), if_neg (not_not_intro h.nt), if_neg (by rw [h.fr]; decide), if_neg (by rw [h.ca]; decide), if_neg (not_not_intro h.po)]
  rfl
theorem fine_of {l : List UInt8} (h : (pktRead l).kind = 0) : FineP l ∧ pktRead l = fineR l := by
  rcases pkt_cases l with h1 | ⟨k, h1, h2, h3⟩
  · exact h1
  · rw [h1] at h
    have : k = 0 := h
    omega
theorem fine_no {l : List UInt8} (h : (pktRead l).kind ≠ 0) : pktRead l = give (pktRead l).kind ∧ 1 ≤ (pktRead l).kind ∧ (pktRead l).kind ≤ 6 := by
  rcases pkt_cases l with ⟨_, h1⟩ | ⟨k, h1, h2, h3⟩
  · rw [h1] at h; exact absurd rfl h
  · rw [h1]; exact ⟨rfl, h2, h3⟩
theorem fineR_ok (l : List UInt8) : PktOk (fineR l) := netT_ok _ _
theorem pktRead_ok (l : List UInt8) : PktOk (pktRead l) := by
  rcases pkt_cases l with ⟨_, h1⟩ | ⟨k, h1, _, _⟩
  · rw [h1]; exact fineR_ok l
  · rw [h1]; exact give_ok k
theorem fine_bd {l : List UInt8} (h : FineP l) : (linkRead l).1.at' = (pkA l : Int) ∧ 14 ≤ pkA l ∧ 20 ≤ (pkN l).1.head ∧ (pkN l).1.head + 8 ≤ (pkN l).1.total ∧ (pkA l : Int) + (pkN l).1.total ≤ (l.length : Int) := by
  obtain ⟨y0, y2, y3⟩ := pk_bd h.lk
  obtain ⟨z1, z2, z3⟩ := netT_bd (kind := (linkRead l).1.type) (l := l.drop (pkA l)) h.nt
  have z1' : 20 ≤ (pkN l).1.head := z1
  have z2' : (pkN l).1.head ≤ (pkN l).1.total := z2
  have z3' : (pkN l).1.total ≤ ((l.drop (pkA l)).length : Int) := z3
  rw [List.length_drop] at z3'
  have y1 : (linkRead l).1.at' = (pkA l : Int) := y0
  have y4 : pkA l ≤ l.length := y3
  have hp := (portRead_ok h.po).2.2.1
  have hl : (pkP l).length = (pkN l).1.total.toNat - (pkN l).1.head.toNat := by
    unfold pkP subl
    rw [List.length_drop, List.length_take]
    omega
  exact ⟨y1, y2, z1', by omega, by omega⟩
def endP (l : List UInt8) : Nat := pkA l + (pkN l).1.total.toNat
theorem pkt_congr {l m : List UInt8} (h1 : linkRead m = linkRead l) (h2 : pkN m = pkN l) (h3 : pkP m = pkP l) : pktRead m = pktRead l := by
  unfold pktRead; rw [h1, h2, h3]
theorem fine_take {l : List UInt8} (h : FineP l) (m : List UInt8) : pktRead (l.take (endP l) ++ m) = pktRead l := by
  obtain ⟨b1, b2, b3, b4, b5⟩ := fine_bd h
  have hA : pkA l ≤ endP l := by unfold endP; omega
  have hE : endP l ≤ l.length := by unfold endP; omega
  have h1 := link_app (m := m) h.lk hA
  have hA2 : pkA (l.take (endP l) ++ m) = pkA l := by unfold pkA; rw [h1]
  have h2 : pkN (l.take (endP l) ++ m) = pkN l := by
    have hd : (l.take (endP l) ++ m).drop (pkA l) = (l.drop (pkA l)).take (pkN l).1.total.toNat ++ m := by
      rw [List.drop_append_of_le_length (by rw [List.length_take]; omega), List.drop_take]
      congr 2
      unfold endP; omega
    unfold pkN
    rw [h1, hA2, hd]
    have e := netT_take (k := (linkRead l).1.type) (l := l.drop (pkA l)) h.nt
    rw [netT_app (by show (netT _ (List.take (netT _ _).1.total.toNat _)).2 = 0; rw [e]; exact h.nt)]
    exact e
  refine pkt_congr h1 h2 ?_
  unfold pkP subl
  rw [hA2, h2, List.take_append_of_le_length (by rw [List.length_take]; unfold endP; unfold endP at hE; omega), List.take_take, Nat.min_eq_left (by unfold endP; omega)]
theorem fine_cut {l : List UInt8} (h : FineP l) {n : Nat} (hn : n < endP l) : (pktRead (l.take n)).kind = 1 ∨ (pktRead (l.take n)).kind = 3 := by
  obtain ⟨b1, b2, b3, b4, b5⟩ := fine_bd h
  by_cases hA : n < pkA l
  · left
    unfold pktRead
    rw [link_cut h.lk hA, if_pos (by decide)]; rfl
  · right
    have h1 := link_app (m := []) h.lk (show pkA l ≤ n by omega)
    rw [List.append_nil] at h1
    have hA2 : pkA (l.take n) = pkA l := by unfold pkA; rw [h1]
    have h2 : (pkN (l.take n)).2 ≠ 0 := by
      unfold pkN
      rw [h1, hA2, List.drop_take]
      exact netT_cut h.nt (by show ((n - pkA l : Nat) : Int) < (pkN l).1.total; unfold endP at hn; omega)
    unfold pktRead
    rw [h1, if_neg (not_not_intro h.lk), if_neg (not_not_intro h.ty), if_pos h2]; rfl

/-! ## Frames that are made -/
def headI (T : TupL) : Nat := if T.src.six then 40 else 20
def segN (T : TupL) (load : List UInt8) : Int := ((headL T + load.length : Nat) : Int)
section
variable {L : LinkL} {T : TupL} {f : Int} {load : List UInt8}
theorem net_made {n : Int} {r : List UInt8} (hT : TupOk T) (hm : MayOk T f) (hn : 0 ≤ n ∧ n + (if T.src.six then 0 else 20) ≤ 65535) (hr : n ≤ (r.length : Int)) :
    netT (if T.src.six then 34525 else 2048) (ipL T n ++ r) = (⟨(headI T : Int), (headI T : Int) + n, T.proto, false, T.src, T.dst⟩, 0) := by
  have hpb : 0 ≤ T.proto ∧ T.proto ≤ 255 ∧ extB T.proto = false := by rcases hm.proto with e | e <;> rw [e] <;> decide
  unfold headI ipL
  cases h6 : T.src.six with
  | true =>
    rw [h6] at hn
    simp only [if_true] at hn
    have hq := six40_right (n := n) hm h6 (by omega)
    obtain ⟨r1, r2, r3, r4, r5, r6, r7, r8, r9⟩ := sixRight_bd hq
    rw [if_pos rfl, if_pos rfl, sixPut_hdr]
    unfold netT
    rw [if_neg (by decide)]
    have e : sixRead (hdr6 (six40 T n) ((six40 T n).total - 40) (six40 T n).proto ++ r) = (⟨40, 40 + n, 64, false, 0, T.proto, T.src, T.dst⟩, 0) := by
      rw [hdr6_read (show SixOk (six40 T n) from hT) (by show 0 ≤ 40 + n - 40 ∧ 40 + n - 40 ≤ 65535; omega) r4 r3 r8 r9 (by show 40 + n - 40 ≤ _; omega)]
      rw [sixGo_done (by rw [show (six40 T n).proto = T.proto from rfl, hpb.2.2]; rfl)]
      simp only [Prod.mk.injEq, SixL.mk.injEq, and_true, true_and]
      exact ⟨by show 40 + (40 + n - 40) = _; omega, rfl, by decide, rfl, rfl, rfl⟩
    rw [e]
    rfl
  | false =>
    rw [h6] at hn
    simp only [Bool.false_eq_true, if_false] at hn
    have hq := four20_right (n := n) hm h6 (by omega)
    simp only [Bool.false_eq_true, if_false]
    unfold netT
    rw [if_pos rfl]
    have e := four_back (H := four20 T n) hT hq (r := r) (by show 20 + n ≤ _; omega)
    rw [e]
    rfl
def madeR (L : LinkL) (T : TupL) (f : Int) (load : List UInt8) : PktL :=
  ⟨0, T, f, 14 + 4 * (L.tags.length : Int), 14 + 4 * (L.tags.length : Int) + (headI T : Int), 14 + 4 * (L.tags.length : Int) + ((headI T : Int) + segN T load)⟩
theorem why_seg (h : whyL L T f load.length = 0) : (load.length : Int) + (headL T : Int) + (if T.src.six then 0 else 20) ≤ 65535 ∧ MayOk T f := by
  obtain ⟨h1, h2, h3⟩ := why_ok h
  exact ⟨by split at h3 <;> simp_all <;> omega, mayL_ok h2⟩
/-- What is made is read as it was told. -/
theorem make_all (hL : LinkOk L) (hT : TupOk T) (h : whyL L T f load.length = 0) (m : List UInt8) :
    linkRead (makeL L T f load ++ m) = ({ typedL L T.src.six with at' := 14 + 4 * (L.tags.length : Int) }, 0) ∧
    pkA (makeL L T f load ++ m) = 14 + 4 * L.tags.length ∧
    pkN (makeL L T f load ++ m) = (⟨(headI T : Int), (headI T : Int) + segN T load, T.proto, false, T.src, T.dst⟩, 0) ∧
    pkP (makeL L T f load ++ m) = pFill T.src T.dst T.proto (segL T f load) ∧
    pktRead (makeL L T f load ++ m) = madeR L T f load := by
  obtain ⟨h1, h2, h3⟩ := why_ok h
  obtain ⟨hs, hm⟩ := why_seg h
  have hsl := segL_len T f load
  have hsk := seg_ok (load := load) hm (by split at hs <;> omega)
  have hfl := fill_len (Sa := T.src) (Da := T.dst) hsk
  have hlp : (linkPut (typedL L T.src.six)).length = 14 + 4 * L.tags.length := linkPut_len (typedL_ok hL)
  have hil : (ipL T ((segL T f load).length : Int)).length = headI T := by rw [ipL_len hT]; rfl
  have e1 : makeL L T f load ++ m = linkPut (typedL L T.src.six) ++ (ipL T ((segL T f load).length : Int) ++ (pFill T.src T.dst T.proto (segL T f load) ++ m)) := by unfold makeL; simp [List.append_assoc]
  have e2 : linkRead (makeL L T f load ++ m) = ({ typedL L T.src.six with at' := 14 + 4 * (L.tags.length : Int) }, 0) := by
    rw [e1, link_back (typedL_ok hL) h1]; rfl
  have e3 : pkA (makeL L T f load ++ m) = 14 + 4 * L.tags.length := by unfold pkA; rw [e2]; show (14 + 4 * (L.tags.length : Int)).toNat = _; omega
  have hd : (makeL L T f load ++ m).drop (14 + 4 * L.tags.length) = ipL T ((segL T f load).length : Int) ++ (pFill T.src T.dst T.proto (segL T f load) ++ m) := by rw [e1, ← hlp, List.drop_left]
  have hN : ((segL T f load).length : Int) = segN T load := by unfold segN; rw [hsl]
  have e4 : pkN (makeL L T f load ++ m) = (⟨(headI T : Int), (headI T : Int) + segN T load, T.proto, false, T.src, T.dst⟩, 0) := by
    unfold pkN
    rw [e2, e3, hd, hN]
    exact net_made hT hm (by unfold segN; split at hs <;> split <;> simp_all <;> omega) (by rw [List.length_append, hfl, hsl]; unfold segN; omega)
  have e5 : pkP (makeL L T f load ++ m) = pFill T.src T.dst T.proto (segL T f load) := by
    unfold pkP subl
    rw [e3, e4, e1]
    show List.drop (14 + 4 * L.tags.length + ((headI T : Nat) : Int).toNat) (List.take (14 + 4 * L.tags.length + ((headI T : Int) + segN T load).toNat) _) = _
    rw [List.drop_take, ← List.append_assoc]
    have hq : (linkPut (typedL L T.src.six) ++ ipL T ((segL T f load).length : Int)).length = 14 + 4 * L.tags.length + ((headI T : Nat) : Int).toNat := by rw [List.length_append, hlp, hil, Int.toNat_natCast]
    rw [← hq, List.drop_left, hq]
    exact List.take_left' (by rw [hfl, hsl]; unfold segN; omega)
  refine ⟨e2, e3, e4, e5, ?_⟩
  have hrd := seg_read (load := load) hm (by split at hs <;> omega)
  have hpo : portRead T.proto (pFill T.src T.dst T.proto (segL T f load)) = portRead T.proto (segL T f load) := fill_read hsk
  have hca : carriedB T.proto = true := by unfold carriedB; rcases hm.proto with e | e <;> rw [e] <;> rfl
  have hty : (typedL L T.src.six).type = 2048 ∨ (typedL L T.src.six).type = 34525 := by unfold typedL; cases T.src.six <;> simp
  rw [fine_eq ⟨by rw [e2], by rw [e2]; exact hty, by rw [e4], by rw [e4], by rw [e4]; exact hca, by rw [e4, e5]; show (portRead T.proto _).2 = 0; rw [hpo]; exact hsk⟩]
  unfold fineR fineT
  rw [e2, e4, e5]
  simp only [hpo, hrd]
  rfl
theorem make_end (hL : LinkOk L) (hT : TupOk T) (h : whyL L T f load.length = 0) : (madeR L T f load).end' = ((makeL L T f load).length : Int) := by
  rw [makeL_len hL hT h]
  show 14 + 4 * (L.tags.length : Int) + ((headI T : Int) + segN T load) = _
  unfold segN headI
  split <;> omega
theorem fill_drop {Sa Da : Adr} {q : Int} {l : List UInt8} {n : Nat} (h : (portRead q l).2 = 0) (hn : atN q + 2 ≤ n) : (pFill Sa Da q l).drop n = l.drop n := by
  have ha := (atN_le h).1
  unfold pFill put2At
  rw [List.drop_append, List.drop_of_length_le (by simp [put2_len]; omega), List.nil_append, List.drop_drop]
  congr 1
  simp [put2_len]; omega
theorem make_tail (hL : LinkOk L) (hT : TupOk T) (h : whyL L T f load.length = 0) : (makeL L T f load).drop ((makeL L T f load).length - load.length) = load := by
  obtain ⟨h1, h2, h3⟩ := why_ok h
  obtain ⟨hs, hm⟩ := why_seg h
  have hsl := segL_len T f load
  have hsk := seg_ok (load := load) hm (by split at hs <;> omega)
  have hfl := fill_len (Sa := T.src) (Da := T.dst) hsk
  have hat : atN T.proto + 2 ≤ headL T := by unfold atN headL; rcases hm.proto with e | e <;> rw [e] <;> decide
  have hml : (makeL L T f load).length = (linkPut (typedL L T.src.six) ++ ipL T ((segL T f load).length : Int)).length + (headL T + load.length) := by unfold makeL; rw [List.length_append, hfl, hsl]
  rw [show (makeL L T f load).length - load.length = (linkPut (typedL L T.src.six) ++ ipL T ((segL T f load).length : Int)).length + headL T from by omega]
  unfold makeL
  rw [← List.drop_drop, List.drop_left, fill_drop hsk hat]
  unfold segL
  refine List.drop_left' ?_
  unfold headL
  split <;> simp [put2_len]
theorem make_right (hT : TupOk T) (h : whyL L T f load.length = 0) : pRight T.src T.dst T.proto (pFill T.src T.dst T.proto (segL T f load)) = true := by
  obtain ⟨hs, hm⟩ := why_seg h
  exact fill_right hT.1 hT.2 (seg_ok (load := load) hm (by split at hs <;> omega))
end
/-! ## Turned tuples -/
theorem famB_comm (A D : Adr) : famB A D = famB D A := by
  unfold famB
  cases A.six <;> cases D.six <;> simp [Bool.and_comm]
theorem may_turn (T : TupL) (f : Int) : mayL (turnT T) f = mayL T f := by
  unfold mayL turnT
  simp only [famB_comm T.dst T.src]
  rw [Bool.eq_iff_iff]
  simp only [Bool.and_eq_true]
  constructor
  · rintro ⟨⟨⟨⟨⟨a, b⟩, c⟩, d⟩, e⟩, g⟩; exact ⟨⟨⟨⟨⟨a, b⟩, d⟩, c⟩, e⟩, g⟩
  · rintro ⟨⟨⟨⟨⟨a, b⟩, c⟩, d⟩, e⟩, g⟩; exact ⟨⟨⟨⟨⟨a, b⟩, d⟩, c⟩, e⟩, g⟩
theorem why_turn (L : LinkL) (T : TupL) (f : Int) (n : Nat) (hr : linkRight (typedL L true) = true) (hr2 : linkRight (typedL L false) = true) : whyL L (turnT T) f n = whyL L T f n := by
  unfold whyL
  rw [may_turn]
  have e1 : ∀ b, ¬ linkRight (typedL L b) = false := by intro b; cases b <;> simp [hr, hr2]
  by_cases h : mayL T f = false
  · rw [if_pos (.inr h), if_pos (.inr h)]
  · have n1 : ¬ (linkRight (typedL L (turnT T).src.six) = false ∨ mayL T f = false) := by
      rintro (h1 | h1)
      · exact e1 _ h1
      · exact h h1
    have n2 : ¬ (linkRight (typedL L T.src.six) = false ∨ mayL T f = false) := by
      rintro (h1 | h1)
      · exact e1 _ h1
      · exact h h1
    rw [if_neg n1, if_neg n2]
    have := (mayL_ok (by simpa using h)).fam
    have e2 : (turnT T).src.six = T.src.six := this.symm
    have e3 : headL (turnT T) = headL T := rfl
    rw [e2, e3]
/-! ## Making, whatever is told -/
def makeR (L : LinkL) (T : TupL) (f : Int) (load : List UInt8) : List UInt8 × Int := if whyL L T f load.length = 0 then (makeL L T f load, 0) else ([], whyL L T f load.length)
section
variable {L : LinkL} {T : TupL} {f : Int} {load : List UInt8}
theorem whyL_1 {n : Nat} (h : linkRight (typedL L T.src.six) = false ∨ mayL T f = false) : whyL L T f n = 1 := by unfold whyL; rw [if_pos h]
theorem why_n1 (h1 : linkRight (typedL L T.src.six) = true) (h2 : mayL T f = true) : ¬ (linkRight (typedL L T.src.six) = false ∨ mayL T f = false) := by
  rintro (h | h)
  · rw [h1] at h; cases h
  · rw [h2] at h; cases h
theorem whyL_4 {n : Nat} (h1 : linkRight (typedL L T.src.six) = true) (h2 : mayL T f = true) (h3 : (n : Int) + (headL T : Int) + (if T.src.six then 40 else 20) > 65535) : whyL L T f n = 4 := by
  unfold whyL; rw [if_neg (why_n1 h1 h2), if_pos h3]
theorem whyL_0 {n : Nat} (h1 : linkRight (typedL L T.src.six) = true) (h2 : mayL T f = true) (h3 : ¬ (n : Int) + (headL T : Int) + (if T.src.six then 40 else 20) > 65535) : whyL L T f n = 0 := by
  unfold whyL; rw [if_neg (why_n1 h1 h2), if_neg h3]
theorem makeR_no {k : Int} (h : whyL L T f load.length = k) (hk : k ≠ 0) : makeR L T f load = ([], k) := by unfold makeR; rw [h, if_neg hk]
theorem makeR_0 (h : whyL L T f load.length = 0) : makeR L T f load = (makeL L T f load, 0) := by unfold makeR; rw [if_pos h]
theorem makeL_6 (h6 : T.src.six = true) : makeL L T f load = linkPut (typedL L T.src.six) ++ sixPut (six40 T (segN T load)) ++ pFill T.src T.dst T.proto (segL T f load) := by
  unfold makeL ipL; rw [if_pos h6, segL_len]; rfl
theorem makeL_4 (h6 : T.src.six = false) : makeL L T f load = linkPut (typedL L T.src.six) ++ fourPut (four20 T (segN T load)) ++ pFill T.src T.dst T.proto (segL T f load) := by
  unfold makeL ipL; rw [if_neg (by rw [h6]; decide), segL_len]; rfl
theorem may_c1 {X : LinkL} {b : Bool} (h : (((linkPutR X).2 != 0) || !b) = true) : linkRight X = false ∨ b = false := by
  rw [Bool.or_eq_true] at h
  rcases h with h | h
  · exact .inl (linkPut_no h).1
  · exact .inr (by simpa using h)
theorem may_c2 {X : LinkL} {b : Bool} (h : (((linkPutR X).2 != 0) || !b) = false) : linkRight X = true ∧ b = true ∧ linkPutR X = (linkPut X, 0) := by
  rw [Bool.or_eq_false_iff] at h
  have := linkPut_yes h.1
  exact ⟨this.1, by simpa using h.2, this.2⟩
theorem segN_6 (h : T.proto = 6) : segN T load = 20 + (load.length : Int) := by unfold segN headL; rw [if_neg (by omega)]; omega
theorem segN_17 (h : T.proto ≠ 6) (hm : mayL T f = true) : segN T load = 8 + (load.length : Int) := by
  unfold segN headL
  rcases (mayL_ok hm).proto with e | e
  · exact absurd e h
  · rw [if_pos e]; omega
theorem segN_head : segN T load = (load.length : Int) + (headL T : Int) := by unfold segN; omega
end
theorem why_c {r : Bool} {T : TupL} {f : Int} : ((((((((((!r) || !famB T.src T.dst) || ((T.proto != 6) && (T.proto != 17))) || decide (T.sport < 0)) || decide (T.sport > 65535)) || decide (T.dport < 0)) || decide (T.dport > 65535)) || decide (f < 0)) || decide (f > 63)) || ((T.proto == 17) && (f != 0))) = !(r && mayL T f) := by
  unfold mayL inW inB
  generalize famB T.src T.dst = b
  rw [Bool.eq_iff_iff]
  cases r <;> cases b <;> simp <;> omega
theorem why_c1 {r : Bool} {T : TupL} {f : Int} (h : ((((((((((!r) || !famB T.src T.dst) || ((T.proto != 6) && (T.proto != 17))) || decide (T.sport < 0)) || decide (T.sport > 65535)) || decide (T.dport < 0)) || decide (T.dport > 65535)) || decide (f < 0)) || decide (f > 63)) || ((T.proto == 17) && (f != 0))) = true) : r = false ∨ mayL T f = false := by
  rw [why_c] at h
  cases r with
  | false => exact .inl rfl
  | true => exact .inr (by simpa using h)
theorem why_c2 {r : Bool} {T : TupL} {f : Int} (h : ((((((((((!r) || !famB T.src T.dst) || ((T.proto != 6) && (T.proto != 17))) || decide (T.sport < 0)) || decide (T.sport > 65535)) || decide (T.dport < 0)) || decide (T.dport > 65535)) || decide (f < 0)) || decide (f > 63)) || ((T.proto == 17) && (f != 0))) = false) : r = true ∧ mayL T f = true := by
  rw [why_c] at h
  cases r with
  | false => simp at h
  | true => exact ⟨rfl, by simpa using h⟩
section
variable {L : LinkL} {T : TupL} {f : Int} {load : List UInt8}
theorem makeR_bad (h : (makeR L T f load).2 ≠ 0) : (makeR L T f load).1 = [] := by
  by_cases hw : whyL L T f load.length = 0
  · rw [makeR_0 hw] at h; exact absurd rfl h
  · rw [makeR_no rfl hw]
theorem makeR_good (h : (makeR L T f load).2 = 0) : whyL L T f load.length = 0 := by
  by_cases hw : whyL L T f load.length = 0
  · exact hw
  · rw [makeR_no rfl hw] at h; exact absurd h hw
theorem back_dead {n : Nat} (hn : (madeR L T f load).end' = (n : Int)) : (((((((((madeR L T f load).kind != 0) || false) || ((madeR L T f load).flags != f)) || ((madeR L T f load).net != 14 + 4 * (L.tags.length : Int))) || ((madeR L T f load).end' != (n : Int))) || decide ((madeR L T f load).seg < (madeR L T f load).net)) || decide ((madeR L T f load).seg > (madeR L T f load).end'))) = false := by
  rw [hn]
  have e : (n : Int) = 14 + 4 * (L.tags.length : Int) + ((headI T : Int) + segN T load) := hn.symm
  have e2 : 0 ≤ segN T load := by unfold segN; omega
  have c1 : ¬ (madeR L T f load).seg < (madeR L T f load).net := by show ¬ 14 + 4 * (L.tags.length : Int) + (headI T : Int) < 14 + 4 * (L.tags.length : Int); omega
  have c2 : ¬ (madeR L T f load).seg > (n : Int) := by rw [e]; show ¬ 14 + 4 * (L.tags.length : Int) + (headI T : Int) > _; omega
  have c3 : (madeR L T f load).net = 14 + 4 * (L.tags.length : Int) := rfl
  have c4 : (madeR L T f load).kind = 0 := rfl
  have c5 : (madeR L T f load).flags = f := rfl
  rw [decide_eq_false c1, decide_eq_false c2, c3, c4, c5]
  simp
theorem make_seg (hL : LinkOk L) (hT : TupOk T) (h : whyL L T f load.length = 0) : subl (makeL L T f load) (14 + 4 * L.tags.length + headI T) (makeL L T f load).length = pFill T.src T.dst T.proto (segL T f load) := by
  have e := (make_all hL hT h []).2.2.2.1
  have e3 := (make_all hL hT h []).2.1
  have e4 := (make_all hL hT h []).2.2.1
  rw [List.append_nil] at e e3 e4
  rw [← e]
  unfold pkP
  rw [e3, e4]
  have h2 := make_end hL hT h
  have h3 : (madeR L T f load).end' = 14 + 4 * (L.tags.length : Int) + ((headI T : Int) + segN T load) := rfl
  have e2 : 0 ≤ segN T load := by unfold segN; omega
  show subl _ _ _ = subl _ (14 + 4 * L.tags.length + ((headI T : Nat) : Int).toNat) (14 + 4 * L.tags.length + ((headI T : Int) + segN T load).toNat)
  rw [Int.toNat_natCast, show 14 + 4 * L.tags.length + ((headI T : Int) + segN T load).toNat = (makeL L T f load).length from by omega]
end
theorem make_fok {L : LinkL} {T : TupL} {f : Int} {load : List UInt8} (h : whyL L T f load.length = 0) : (portRead T.proto (pFill T.src T.dst T.proto (segL T f load))).2 = 0 := by
  obtain ⟨hs, hm⟩ := why_seg h
  have hsk := seg_ok (load := load) hm (by split at hs <;> omega)
  rw [fill_read hsk]; exact hsk
theorem make_flen {L : LinkL} {T : TupL} {f : Int} {load : List UInt8} (h : whyL L T f load.length = 0) : (pFill T.src T.dst T.proto (segL T f load)).length = headL T + load.length := by
  obtain ⟨hs, hm⟩ := why_seg h
  rw [fill_len (seg_ok (load := load) hm (by split at hs <;> omega)), segL_len]
theorem pkt_tup {p : PktL} (h : PktOk p) : ((pktS p).flatten.drop 1).take 37 = (tupS p.tup).flatten := by
  have := tup_len h
  show ((tupS p.tup).flatten ++ _).take 37 = _
  exact List.take_left' this
end Go.Proofs.Ytpjpfmnnefgnbaa
