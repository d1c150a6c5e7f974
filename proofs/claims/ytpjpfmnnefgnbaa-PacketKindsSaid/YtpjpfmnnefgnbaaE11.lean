/- What layer 11's laws need, in plain Lean: frames cut off, frames with bytes behind, frames that are made. -/
import Derived.Test.YtpjpfmnnefgnbaaT11
import Derived.Test.YtpjpfmnnefgnbaaE13
namespace Go.Proofs.Ytpjpfmnnefgnbaa
set_option linter.unusedVariables false
set_option linter.unusedSimpArgs false
open Go

/-! ## Bytes behind, bytes cut off -/
/-! ## Fine frames -/
structure FineP (l : List UInt8) : Prop where
  lk : (linkRead l).2 = 0
  ty : (linkRead l).1.type = 2048 ∨ (linkRead l).1.type = 34525
  nt : (pkN l).2 = 0
  fr : (pkN l).1.frag = false
  ca : carriedB (pkN l).1.proto = true
  po : (portRead (pkN l).1.proto (pkP l)).2 = 0
def fineT (l : List UInt8) : TupL := ⟨(pkN l).1.src, (pkN l).1.dst, (pkN l).1.proto, (portRead (pkN l).1.proto (pkP l)).1.sport, (portRead (pkN l).1.proto (pkP l)).1.dport⟩
def fineR (l : List UInt8) : PktL := ⟨0, fineT l, (portRead (pkN l).1.proto (pkP l)).1.flags, (linkRead l).1.at', (linkRead l).1.at' + (pkN l).1.head, (linkRead l).1.at' + (pkN l).1.total⟩
theorem pkt_cases (l : List UInt8) : FineP l ∧ pktRead l = fineR l ∨ ∃ k, pktRead l = give k ∧ 1 ≤ k ∧ k ≤ 6 := by
  unfold pktRead
  by_cases h1 : (linkRead l).2 ≠ 0
  · rw [if_pos h1]; exact .inr ⟨1, rfl, by omega, by omega⟩
  rw [if_neg h1]
  by_cases h2 : ¬ ((linkRead l).1.type = 2048 ∨ (linkRead l).1.type = 34525)
  · rw [if_pos h2]; exact .inr ⟨2, rfl, by omega, by omega⟩
  rw [if_neg h2]
  by_cases h3 : (pkN l).2 ≠ 0
  · rw [if_pos h3]; exact .inr ⟨3, rfl, by omega, by omega⟩
  rw [if_neg h3]
  by_cases h4 : (pkN l).1.frag = true
  · rw [if_pos h4]; exact .inr ⟨4, rfl, by omega, by omega⟩
  rw [if_neg h4]
  by_cases h5 : carriedB (pkN l).1.proto = false
  · rw [if_pos h5]; exact .inr ⟨5, rfl, by omega, by omega⟩
  rw [if_neg h5]
  by_cases h6 : (portRead (pkN l).1.proto (pkP l)).2 ≠ 0
  · rw [if_pos h6]; exact .inr ⟨6, rfl, by omega, by omega⟩
  rw [if_neg h6]
  exact .inl ⟨⟨Decidable.not_not.1 h1, Decidable.not_not.1 h2, Decidable.not_not.1 h3, by simpa using h4, by simpa using h5, Decidable.not_not.1 h6⟩, rfl⟩
theorem fine_eq {l : List UInt8} (h : FineP l) : pktRead l = fineR l := by
  unfold pktRead
  rw [if_neg (not_not_intro h.lk), if_neg (not_not_intro h.ty), if_neg (not_not_intro h.nt), if_neg (by rw [h.fr]; decide), if_neg (by rw [h.ca]; decide), if_neg (not_not_intro h.po)]
  rfl
theorem fineR_ok (l : List UInt8) : PktOk (fineR l) := netT_ok _ _
theorem pktRead_ok (l : List UInt8) : PktOk (pktRead l) := by
  rcases pkt_cases l with ⟨_, h1⟩ | ⟨k, h1, _, _⟩
  · rw [h1]; exact fineR_ok l
  · rw [h1]; exact give_ok k
/-! ## Frames that are made -/
def headI (T : TupL) : Nat := if T.src.six then 40 else 20
def segN (T : TupL) (load : List UInt8) : Int := ((headL T + load.length : Nat) : Int)
section
variable {L : LinkL} {T : TupL} {f : Int} {load : List UInt8}
theorem net_made {n : Int} {r : List UInt8} (hT : TupOk T) (hm : MayOk T f) (hn : 0 ≤ n ∧ n + (if T.src.six then 0 else 20) ≤ 65535) (hr : n ≤ (r.length : Int)) :
    netT (if T.src.six then 34525 else 2048) (ipL T n ++ r) = (⟨(headI T : Int), (headI T : Int) + n, T.proto, false, T.src, T.dst⟩, 0) := by
  have hpb : 0 ≤ T.proto ∧ T.proto ≤ 255 ∧ extB T.proto = false := by rcases hm.proto with e | e <;> rw [e] <;> decide
  unfold headI ipL
  cases h6 : T.src.six with
  | true =>
    rw [h6] at hn
    simp only [if_true] at hn
    have hq := six40_right (n := n) hm h6 (by omega)
    obtain ⟨r1, r2, r3, r4, r5, r6, r7, r8, r9⟩ := sixRight_bd hq
    rw [if_pos rfl, if_pos rfl, sixPut_hdr]
    unfold netT
    rw [if_neg (by decide)]
    have e : sixRead (hdr6 (six40 T n) ((six40 T n).total - 40) (six40 T n).proto ++ r) = (⟨40, 40 + n, 64, false, 0, T.proto, T.src, T.dst⟩, 0) := by
      rw [hdr6_read (show SixOk (six40 T n) from hT) (by show 0 ≤ 40 + n - 40 ∧ 40 + n - 40 ≤ 65535; omega) r4 r3 r8 r9 (by show 40 + n - 40 ≤ _; omega)]
      rw [sixGo_done (by rw [show (six40 T n).proto = T.proto from rfl, hpb.2.2]; rfl)]
      simp only [Prod.mk.injEq, SixL.mk.injEq, and_true, true_and]
      exact ⟨by show 40 + (40 + n - 40) = _; omega, rfl, by decide, rfl, rfl, rfl⟩
    rw [e]
    rfl
  | false =>
    rw [h6] at hn
    simp only [Bool.false_eq_true, if_false] at hn
    have hq := four20_right (n := n) hm h6 (by omega)
    simp only [Bool.false_eq_true, if_false]
    unfold netT
    rw [if_pos rfl]
    have e := four_back (H := four20 T n) hT hq (r := r) (by show 20 + n ≤ _; omega)
    rw [e]
    rfl
def madeR (L : LinkL) (T : TupL) (f : Int) (load : List UInt8) : PktL :=
  ⟨0, T, f, 14 + 4 * (L.tags.length : Int), 14 + 4 * (L.tags.length : Int) + (headI T : Int), 14 + 4 * (L.tags.length : Int) + ((headI T : Int) + segN T load)⟩
theorem why_seg (h : whyL L T f load.length = 0) : (load.length : Int) + (headL T : Int) + (if T.src.six then 0 else 20) ≤ 65535 ∧ MayOk T f := by
  obtain ⟨h1, h2, h3⟩ := why_ok h
  exact ⟨by split at h3 <;> simp_all <;> omega, mayL_ok h2⟩
theorem make_all (hL : LinkOk L) (hT : TupOk T) (h : whyL L T f load.length = 0) (m : List UInt8) :
    linkRead (makeL L T f load ++ m) = ({ typedL L T.src.six with at' := 14 + 4 * (L.tags.length : Int) }, 0) ∧
    pkA (makeL L T f load ++ m) = 14 + 4 * L.tags.length ∧
    pkN (makeL L T f load ++ m) = (⟨(headI T : Int), (headI T : Int) + segN T load, T.proto, false, T.src, T.dst⟩, 0) ∧
    pkP (makeL L T f load ++ m) = pFill T.src T.dst T.proto (segL T f load) ∧
    pktRead (makeL L T f load ++ m) = madeR L T f load := by
  obtain ⟨h1, h2, h3⟩ := why_ok h
  obtain ⟨hs, hm⟩ := why_seg h
  have hsl := segL_len T f load
  have hsk := seg_ok (load := load) hm (by split at hs <;> omega)
  have hfl := fill_len (Sa := T.src) (Da := T.dst) hsk
  have hlp : (linkPut (typedL L T.src.six)).length = 14 + 4 * L.tags.length := linkPut_len (typedL_ok hL)
  have hil : (ipL T ((segL T f load).length : Int)).length = headI T := by rw [ipL_len hT]; rfl
  have e1 : makeL L T f load ++ m = linkPut (typedL L T.src.six) ++ (ipL T ((segL T f load).length : Int) ++ (pFill T.src T.dst T.proto (segL T f load) ++ m)) := by unfold makeL; simp [List.append_assoc]
  have e2 : linkRead (makeL L T f load ++ m) = ({ typedL L T.src.six with at' := 14 + 4 * (L.tags.length : Int) }, 0) := by
    rw [e1, link_back (typedL_ok hL) h1]; rfl
  have e3 : pkA (makeL L T f load ++ m) = 14 + 4 * L.tags.length := by unfold pkA; rw [e2]; show (14 + 4 * (L.tags.length : Int)).toNat = _; omega
  have hd : (makeL L T f load ++ m).drop (14 + 4 * L.tags.length) = ipL T ((segL T f load).length : Int) ++ (pFill T.src T.dst T.proto (segL T f load) ++ m) := by rw [e1, ← hlp, List.drop_left]
  have hN : ((segL T f load).length : Int) = segN T load := by unfold segN; rw [hsl]
  have e4 : pkN (makeL L T f load ++ m) = (⟨(headI T : Int), (headI T : Int) + segN T load, T.proto, false, T.src, T.dst⟩, 0) := by
    unfold pkN
    rw [e2, e3, hd, hN]
    exact net_made hT hm (by unfold segN; split at hs <;> split <;> simp_all <;> omega) (by rw [List.length_append, hfl, hsl]; unfold segN; omega)
  have e5 : pkP (makeL L T f load ++ m) = pFill T.src T.dst T.proto (segL T f load) := by
    unfold pkP subl
    rw [e3, e4, e1]
    show List.drop (14 + 4 * L.tags.length + ((headI T : Nat) : Int).toNat) (List.take (14 + 4 * L.tags.length + ((headI T : Int) + segN T load).toNat) _) = _
    rw [List.drop_take, ← List.append_assoc]
    have hq : (linkPut (typedL L T.src.six) ++ ipL T ((segL T f load).length : Int)).length = 14 + 4 * L.tags.length + ((headI T : Nat) : Int).toNat := by rw [List.length_append, hlp, hil, Int.toNat_natCast]
    rw [← hq, List.drop_left, hq]
    exact List.take_left' (by rw [hfl, hsl]; unfold segN; omega)
  refine ⟨e2, e3, e4, e5, ?_⟩
  have hrd := seg_read (load := load) hm (by split at hs <;> omega)
  have hpo : portRead T.proto (pFill T.src T.dst T.proto (segL T f load)) = portRead T.proto (segL T f load) := fill_read hsk
  have hca : carriedB T.proto = true := by unfold carriedB; rcases hm.proto with e | e <;> rw [e] <;> rfl
  have hty : (typedL L T.src.six).type = 2048 ∨ (typedL L T.src.six).type = 34525 := by unfold typedL; cases T.src.six <;> simp
  rw [fine_eq ⟨by rw [e2], by rw [e2]; exact hty, by rw [e4], by rw [e4], by rw [e4]; exact hca, by rw [e4, e5]; show (portRead T.proto _).2 = 0; rw [hpo]; exact hsk⟩]
  unfold fineR fineT
  rw [e2, e4, e5]
  simp only [hpo, hrd]
  rfl
end
/-! ## Turned tuples -/
/-! ## Making, whatever is told -/
def makeR (L : LinkL) (T : TupL) (f : Int) (load : List UInt8) : List UInt8 × Int := if whyL L T f load.length = 0 then (makeL L T f load, 0) else ([], whyL L T f load.length)
section
variable {L : LinkL} {T : TupL} {f : Int} {load : List UInt8}
theorem whyL_1 {n : Nat} (h : linkRight (typedL L T.src.six) = false ∨ mayL T f = false) : whyL L T f n = 1 := by unfold whyL; rw [if_pos h]
theorem why_n1 (h1 : linkRight (typedL L T.src.six) = true) (h2 : mayL T f = true) : ¬ (linkRight (typedL L T.src.six) = false ∨ mayL T f = false) := by
  rintro (h | h)
  · rw [h1] at h; cases h
  · rw [h2] at h; cases h
theorem whyL_4 {n : Nat} (h1 : linkRight (typedL L T.src.six) = true) (h2 : mayL T f = true) (h3 : (n : Int) + (headL T : Int) + (if T.src.six then 40 else 20) > 65535) : whyL L T f n = 4 := by
  unfold whyL; rw [if_neg (why_n1 h1 h2), if_pos h3]
theorem whyL_0 {n : Nat} (h1 : linkRight (typedL L T.src.six) = true) (h2 : mayL T f = true) (h3 : ¬ (n : Int) + (headL T : Int) + (if T.src.six then 40 else 20) > 65535) : whyL L T f n = 0 := by
  unfold whyL; rw [if_neg (why_n1 h1 h2), if_neg h3]
theorem makeR_no {k : Int} (h : whyL L T f load.length = k) (hk : k ≠ 0) : makeR L T f load = ([], k) := by unfold makeR; rw [h, if_neg hk]
theorem makeR_0 (h : whyL L T f load.length = 0) : makeR L T f load = (makeL L T f load, 0) := by unfold makeR; rw [if_pos h]
theorem makeL_6 (h6 : T.src.six = true) : makeL L T f load = linkPut (typedL L T.src.six) ++ sixPut (six40 T (segN T load)) ++ pFill T.src T.dst T.proto (segL T f load) := by
  unfold makeL ipL; rw [if_pos h6, segL_len]; rfl
theorem makeL_4 (h6 : T.src.six = false) : makeL L T f load = linkPut (typedL L T.src.six) ++ fourPut (four20 T (segN T load)) ++ pFill T.src T.dst T.proto (segL T f load) := by
  unfold makeL ipL; rw [if_neg (by rw [h6]; decide), segL_len]; rfl
theorem may_c1 {X : LinkL} {b : Bool} (h : (((linkPutR X).2 != 0) || !b) = true) : linkRight X = false ∨ b = false := by
  rw [Bool.or_eq_true] at h
  rcases h with h | h
  · exact .inl (linkPut_no h).1
  · exact .inr (by simpa using h)
theorem may_c2 {X : LinkL} {b : Bool} (h : (((linkPutR X).2 != 0) || !b) = false) : linkRight X = true ∧ b = true ∧ linkPutR X = (linkPut X, 0) := by
  rw [Bool.or_eq_false_iff] at h
  have := linkPut_yes h.1
  exact ⟨this.1, by simpa using h.2, this.2⟩
theorem segN_6 (h : T.proto = 6) : segN T load = 20 + (load.length : Int) := by unfold segN headL; rw [if_neg (by omega)]; omega
theorem segN_17 (h : T.proto ≠ 6) (hm : mayL T f = true) : segN T load = 8 + (load.length : Int) := by
  unfold segN headL
  rcases (mayL_ok hm).proto with e | e
  · exact absurd e h
  · rw [if_pos e]; omega
theorem segN_head : segN T load = (load.length : Int) + (headL T : Int) := by unfold segN; omega
end
section
variable {L : LinkL} {T : TupL} {f : Int} {load : List UInt8}
theorem makeR_bad (h : (makeR L T f load).2 ≠ 0) : (makeR L T f load).1 = [] := by
  by_cases hw : whyL L T f load.length = 0
  · rw [makeR_0 hw] at h; exact absurd rfl h
  · rw [makeR_no rfl hw]
theorem makeR_good (h : (makeR L T f load).2 = 0) : whyL L T f load.length = 0 := by
  by_cases hw : whyL L T f load.length = 0
  · exact hw
  · rw [makeR_no rfl hw] at h; exact absurd h hw
end
end Go.Proofs.Ytpjpfmnnefgnbaa
