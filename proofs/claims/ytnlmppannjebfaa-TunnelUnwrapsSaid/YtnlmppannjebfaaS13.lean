/- IP in IP, in plain Lean. -/
import Derived.Test.YtnlmppannjebfaaS11
namespace Go.Proofs.Ytnlmppannjebfaa
set_option linter.unusedVariables false
set_option linter.unusedSimpArgs false
open Go

structure NetL where
  head : Int
  total : Int
  proto : Int
  frag : Bool
  ok : Bool
def netS (N : NetL) : List (List Value) := [[.int .i64 N.head], [.int .i64 N.total], [.int .i64 N.proto], [.bool N.frag], [.bool N.ok]]
def NetV (N : NetL) : Value := .agg (netS N).flatten.toArray
def net0 : NetL := ⟨0, 0, 0, false, false⟩
theorem net_len (N : NetL) : (netS N).flatten.length = 5 := rfl
theorem net_one {N : NetL} : ∀ u ∈ (netS N).flatten, u.oneCell' = true := by
  intro u hu
  simp [netS] at hu
  rcases hu with h | h | h | h | h <;> subst h <;> rfl
def netRead (kind : Int) (l : List UInt8) : NetL :=
  if kind = 2048 then ⟨(fourRead l).1.head, (fourRead l).1.total, (fourRead l).1.proto, (fourRead l).1.frag, (fourRead l).2 == 0⟩
  else if kind = 34525 then ⟨(sixRead l).1.head, (sixRead l).1.total, (sixRead l).1.proto, (sixRead l).1.frag, (sixRead l).2 == 0⟩
  else net0
theorem four_bd (l : List UInt8) : (fourRead l).1 = four0 ∨ (20 ≤ (fourRead l).1.head ∧ (fourRead l).1.head ≤ (fourRead l).1.total ∧ (fourRead l).1.total ≤ (l.length : Int) ∧ (fourRead l).2 = 0) := by
  unfold fourRead
  split; · exact .inl rfl
  split; · exact .inl rfl
  split; · exact .inl rfl
  split; · exact .inl rfl
  split; · exact .inl rfl
  split; · exact .inl rfl
  right
  refine ⟨?_, ?_, ?_, rfl⟩
  · show 20 ≤ byteAt l 0 % 16 * 4; omega
  · show byteAt l 0 % 16 * 4 ≤ wordAt l 2; omega
  · show wordAt l 2 ≤ _; omega
theorem go_bd {H : SixL} : ∀ (k : Nat) (R : List UInt8) (h : Int) (f : Bool) (p : Int), 40 ≤ h → h + (R.length : Int) = H.total → 0 ≤ p ∧ p ≤ 255 →
    (sixGo H k R h f p).1 = six0 ∧ (sixGo H k R h f p).2 ≠ 0 ∨ (40 ≤ (sixGo H k R h f p).1.head ∧ (sixGo H k R h f p).1.head ≤ (sixGo H k R h f p).1.total ∧ (sixGo H k R h f p).1.total = H.total ∧ (sixGo H k R h f p).2 = 0) := by
  intro k
  induction k with
  | zero =>
    intro R h f p h40 ht hp
    by_cases c : (f || !extB p) = true
    · rw [sixGo_done c]; right; refine ⟨h40, ?_, rfl, rfl⟩; show h ≤ H.total; omega
    · rw [sixGo_long (by simpa using c)]; left; exact ⟨rfl, by decide⟩
  | succ k ih =>
    intro R h f p h40 ht hp
    by_cases c : (f || !extB p) = true
    · rw [sixGo_done c]; right; refine ⟨h40, ?_, rfl, rfl⟩; show h ≤ H.total; omega
    · have c' : (f || !extB p) = false := by simpa using c
      by_cases e : (R.length : Int) < 8 ∨ (R.length : Int) < sizeE p (byteAt R 1)
      · rw [sixGo_end c' e]; left; exact ⟨rfl, by decide⟩
      · rw [sixGo_step c' e]
        have hge := sizeE_ge (six_ext c') (byteAt_bd R 1).1
        refine ih _ _ _ _ (by omega) ?_ (byteAt_bd R 0)
        rw [List.length_drop]; omega
theorem six_bd (l : List UInt8) : (sixRead l).1 = six0 ∧ (sixRead l).2 ≠ 0 ∨ (40 ≤ (sixRead l).1.head ∧ (sixRead l).1.head ≤ (sixRead l).1.total ∧ (sixRead l).1.total ≤ (l.length : Int) ∧ (sixRead l).2 = 0) := by
  have hw := wordAt_bd l 4
  unfold sixRead
  split; · exact .inl ⟨rfl, by decide⟩
  split; · exact .inl ⟨rfl, by decide⟩
  split; · exact .inl ⟨rfl, by decide⟩
  rename_i h1 h2 h3
  rcases go_bd (H := sixHead l) 8 ((l.take (40 + wordAt l 4).toNat).drop 40) 40 false (byteAt l 6) (by omega) (by show (40 : Int) + _ = 40 + wordAt l 4; simp; omega) (byteAt_bd l 6) with h | h
  · exact .inl h
  · right
    refine ⟨h.1, h.2.1, ?_, h.2.2.2⟩
    rw [h.2.2.1]
    show 40 + wordAt l 4 ≤ _
    omega
theorem net_bd (kind : Int) (l : List UInt8) : netRead kind l = net0 ∨ (20 ≤ (netRead kind l).head ∧ (netRead kind l).head ≤ (netRead kind l).total ∧ (netRead kind l).total ≤ (l.length : Int) ∧ (netRead kind l).ok = true) := by
  unfold netRead
  split
  · rcases four_bd l with h | h
    · by_cases h0 : (fourRead l).2 = 0
      · exfalso
        unfold fourRead at h0 h
        repeat' (split at h0; · simp at h0)
        rw [if_neg (by assumption), if_neg (by assumption), if_neg (by assumption), if_neg (by assumption), if_neg (by assumption), if_neg (by assumption)] at h
        have := congrArg FourL.head h
        have h9 : byteAt l 0 % 16 * 4 = 0 := this
        omega
      · left; rw [h]; show (⟨0, 0, 0, false, (fourRead l).2 == 0⟩ : NetL) = net0
        rw [show ((fourRead l).2 == 0) = false from by simpa using h0]; rfl
    · right; exact ⟨h.1, h.2.1, h.2.2.1, by simp [h.2.2.2]⟩
  · split
    · rcases six_bd l with h | h
      · left; rw [h.1]; show (⟨0, 0, 0, false, (sixRead l).2 == 0⟩ : NetL) = net0
        rw [show ((sixRead l).2 == 0) = false from by simpa using h.2]; rfl
      · right; exact ⟨by show 20 ≤ (sixRead l).1.head; omega, h.2.1, h.2.2.1, by simp [h.2.2.2]⟩
    · exact .inl rfl
/-! ## Wrapping, unwrapping -/
def cutL (l : List UInt8) : LinkL := (linkRead l).1
def cutA (l : List UInt8) : Nat := (linkRead l).1.at'.toNat
def cutN (l : List UInt8) : NetL := if (linkRead l).2 = 0 then netRead (cutL l).type (l.drop (cutA l)) else net0
def cutP (l : List UInt8) : List UInt8 := if (linkRead l).2 = 0 then subl l (cutA l) (cutA l + (cutN l).total.toNat) else []
theorem cut_bd (l : List UInt8) (h : (linkRead l).2 = 0) : ((cutA l : Nat) : Int) = (cutL l).at' ∧ 14 ≤ cutA l ∧ cutA l ≤ l.length ∧ (cutN l = net0 ∨ (20 ≤ (cutN l).head ∧ (cutN l).head ≤ (cutN l).total ∧ (cutA l : Int) + (cutN l).total ≤ (l.length : Int) ∧ (cutN l).ok = true)) := by
  have hb := linkRead_bd h
  have e1 : ((cutA l : Nat) : Int) = (cutL l).at' := by unfold cutA cutL; omega
  have e2 : (cutL l).at' = (linkRead l).1.at' := rfl
  refine ⟨e1, by omega, by omega, ?_⟩
  unfold cutN
  rw [if_pos h]
  rcases net_bd (cutL l).type (l.drop (cutA l)) with h1 | h1
  · exact .inl h1
  · right
    have := h1.2.2.1
    rw [List.length_drop] at this
    exact ⟨h1.1, h1.2.1, by omega, h1.2.2.2⟩
theorem cut_tot {l : List UInt8} (h : (linkRead l).2 = 0) : 0 ≤ (cutN l).total ∧ (cutA l : Int) + (cutN l).total ≤ (l.length : Int) := by
  obtain ⟨h1, h2, h3, h4⟩ := cut_bd l h
  rcases h4 with h4 | h4
  · rw [h4]; show (0 : Int) ≤ 0 ∧ (cutA l : Int) + 0 ≤ _; omega
  · omega
theorem cutN_ok {l : List UInt8} (h : (cutN l).ok = true) : (linkRead l).2 = 0 := by
  unfold cutN at h
  split at h
  · assumption
  · cases h
theorem cutP_len {l : List UInt8} (h : (cutN l).ok = true) : ((cutP l).length : Int) = (cutN l).total ∧ 20 ≤ (cutN l).head ∧ (cutN l).head ≤ (cutN l).total := by
  have h0 := cutN_ok h
  obtain ⟨h1, h2, h3, h4⟩ := cut_bd l h0
  rcases h4 with h4 | h4
  · rw [h4] at h; cases h
  · unfold cutP
    rw [if_pos h0]
    refine ⟨?_, h4.1, h4.2.1⟩
    simp [subl]; omega
def ipip (l : List UInt8) : Int := if (cutL l).type = 34525 then 41 else 4
def wrapT (l : List UInt8) (A D : Adr) : TupL := ⟨A, D, ipip l, 0, 0⟩
def wrapR (l : List UInt8) (A D : Adr) : List UInt8 × Int :=
  if (cutN l).ok = false then ([], 3)
  else if famB A D = false then ([], 1)
  else if (if A.six then (cutN l).total else 20 + (cutN l).total) > 65535 then ([], 4)
  else (linkPut (typedL (cutL l) A.six) ++ ipL (wrapT l A D) (cutN l).total ++ cutP l, 0)
def innerI (p : Int) : Int := if p = 4 then 2048 else if p = 41 then 34525 else 0
def unwR (l : List UInt8) : List UInt8 × Bool :=
  if (!(cutN l).ok || (cutN l).frag) = true then ([], false)
  else if (netRead (innerI (cutN l).proto) ((cutP l).drop (cutN l).head.toNat)).ok = false then ([], false)
  else (linkPut (typedL (cutL l) (decide ((cutN l).proto = 41))) ++ ((cutP l).drop (cutN l).head.toNat).take (netRead (innerI (cutN l).proto) ((cutP l).drop (cutN l).head.toNat)).total.toNat, true)
theorem inner_ok {p : Int} {l : List UInt8} (h : (netRead (innerI p) l).ok = true) : p = 4 ∨ p = 41 := by
  unfold innerI at h
  split at h
  · left; assumption
  · split at h
    · right; assumption
    · cases h
theorem cut_right {l : List UInt8} (h : (cutN l).ok = true) (six : Bool) : linkRight (typedL (cutL l) six) = true := right_typed (link_only (cutN_ok h)).1
theorem cutL_ok (l : List UInt8) : LinkOk (cutL l) := linkRead_ok l
theorem linkPutR_len {L : LinkL} {z : Int} (h : LinkOk L) : (linkPutR { L with type := z }).1.length ≤ 22 := by
  unfold linkPutR
  cases hr : linkRight { L with type := z } with
  | false => simp
  | true =>
    have h1 := linkPut_len (L := { L with type := z }) h
    have h2 := (linkRight_bd hr).1
    simp only [if_true]
    rw [h1]; show 14 + 4 * L.tags.length ≤ 22
    have : L.tags.length ≤ 2 := h2
    omega
theorem fam_plain {A D : Adr} (h : (A.six != D.six) = false) : (!A.six && !(!(A.b.drop 4).any (fun c => c != 0) && !(D.b.drop 4).any (fun c => c != 0))) = !famB A D := by
  have h1 : A.six = D.six := by simpa using h
  unfold famB shortA
  rw [if_neg (by rw [h]; decide), ← h1]
  cases A.six <;> cases (A.b.drop 4).any (fun c => c != 0) <;> cases (D.b.drop 4).any (fun c => c != 0) <;> rfl
section
variable {l : List UInt8} {A D : Adr}
theorem ipip_cases (l : List UInt8) : ipip l = 41 ∨ ipip l = 4 := by unfold ipip; split <;> simp
theorem wrap6_right {n : Int} (h6 : A.six = true) (hf : famB A D = true) (hn : 0 ≤ n ∧ n ≤ 65535) : sixRight (six40 (wrapT l A D) n) = true := by
  have h7 := (famB_yes hf).1
  rw [h6] at h7
  rcases ipip_cases l with hp | hp <;> simp [sixRight, six40, wrapT, inB, hp, h6, ← h7, extB] <;> omega
theorem wrap4_right {n : Int} (h6 : A.six = false) (hf : famB A D = true) (hn : 0 ≤ n ∧ 20 + n ≤ 65535) : fourRight (four20 (wrapT l A D) n) = true := by
  obtain ⟨k1, k2⟩ := (famB_yes hf).2 h6
  rcases ipip_cases l with hp | hp <;> simp [fourRight, four20, wrapT, inB, hp, k1, k2] <;> omega
theorem wrapR_3 (h : (cutN l).ok = false) : wrapR l A D = ([], 3) := by unfold wrapR; rw [if_pos h]
theorem wrapR_1 (h : (cutN l).ok = true) (hf : famB A D = false) : wrapR l A D = ([], 1) := by unfold wrapR; rw [if_neg (by rw [h]; decide), if_pos hf]
theorem wrapR_64 (h : (cutN l).ok = true) (hf : famB A D = true) (h6 : A.six = true) (hn : (cutN l).total > 65535) : wrapR l A D = ([], 4) := by
  unfold wrapR; rw [if_neg (by rw [h]; decide), if_neg (by rw [hf]; decide), if_pos (by rw [h6]; simpa using hn)]
theorem wrapR_44 (h : (cutN l).ok = true) (hf : famB A D = true) (h6 : A.six = false) (hn : 20 + (cutN l).total > 65535) : wrapR l A D = ([], 4) := by
  unfold wrapR; rw [if_neg (by rw [h]; decide), if_neg (by rw [hf]; decide), if_pos (by rw [h6]; simpa using hn)]
theorem wrapR_6 (h : (cutN l).ok = true) (hf : famB A D = true) (h6 : A.six = true) (hn : ¬ (cutN l).total > 65535) : wrapR l A D = (linkPut (typedL (cutL l) true) ++ sixPut (six40 (wrapT l A D) (cutN l).total) ++ cutP l, 0) := by
  unfold wrapR; rw [if_neg (by rw [h]; decide), if_neg (by rw [hf]; decide), if_neg (by rw [h6]; simpa using hn)]
  unfold ipL; rw [if_pos (show (wrapT l A D).src.six = true from h6), h6]
theorem wrapR_4 (h : (cutN l).ok = true) (hf : famB A D = true) (h6 : A.six = false) (hn : ¬ 20 + (cutN l).total > 65535) : wrapR l A D = (linkPut (typedL (cutL l) false) ++ fourPut (four20 (wrapT l A D) (cutN l).total) ++ cutP l, 0) := by
  unfold wrapR; rw [if_neg (by rw [h]; decide), if_neg (by rw [hf]; decide), if_neg (by rw [h6]; simpa using hn)]
  unfold ipL; rw [if_neg (by show ¬ A.six = true; rw [h6]; decide), h6]
theorem put_typed (h : (cutN l).ok = true) (six : Bool) : linkPutR (typedL (cutL l) six) = (linkPut (typedL (cutL l) six), 0) := by unfold linkPutR; rw [if_pos (cut_right h six)]
theorem unwR_no (h : (!(cutN l).ok || (cutN l).frag) = true) : unwR l = ([], false) := by unfold unwR; rw [if_pos h]
theorem unwR_no2 (h : (!(cutN l).ok || (cutN l).frag) = false) (h2 : (netRead (innerI (cutN l).proto) ((cutP l).drop (cutN l).head.toNat)).ok = false) : unwR l = ([], false) := by
  unfold unwR; rw [if_neg (by rw [h]; decide), if_pos h2]
theorem unwR_yes (h : (!(cutN l).ok || (cutN l).frag) = false) (h2 : (netRead (innerI (cutN l).proto) ((cutP l).drop (cutN l).head.toNat)).ok = true) :
    unwR l = (linkPut (typedL (cutL l) (decide ((cutN l).proto = 41))) ++ ((cutP l).drop (cutN l).head.toNat).take (netRead (innerI (cutN l).proto) ((cutP l).drop (cutN l).head.toNat)).total.toNat, true) := by
  unfold unwR; rw [if_neg (by rw [h]; decide), if_neg (by rw [h2]; decide)]
theorem unw_c1 (h : (((!(cutN l).ok) || (cutN l).frag) || (((cutN l).proto != 4) && ((cutN l).proto != 41))) = true) : unwR l = ([], false) := by
  by_cases h1 : (!(cutN l).ok || (cutN l).frag) = true
  · exact unwR_no h1
  · have h1' : (!(cutN l).ok || (cutN l).frag) = false := by simpa using h1
    rw [h1', Bool.false_or] at h
    refine unwR_no2 h1' ?_
    cases h9 : (netRead (innerI (cutN l).proto) ((cutP l).drop (cutN l).head.toNat)).ok with
    | false => rfl
    | true =>
      have := inner_ok h9
      simp at h
      omega
theorem unw_c2 (h : (((!(cutN l).ok) || (cutN l).frag) || (((cutN l).proto != 4) && ((cutN l).proto != 41))) = false) : (!(cutN l).ok || (cutN l).frag) = false ∧ ((cutN l).proto = 4 ∨ (cutN l).proto = 41) := by
  simp only [Bool.or_eq_false_iff, Bool.and_eq_false_iff, bne_eq_false_iff_eq] at h ⊢
  exact ⟨h.1, h.2⟩
theorem net_tot {kind : Int} {m : List UInt8} (h : (netRead kind m).ok = true) : 0 ≤ (netRead kind m).total ∧ (netRead kind m).total ≤ (m.length : Int) := by
  rcases net_bd kind m with h9 | h9
  · rw [h9] at h; cases h
  · omega
theorem typed_inner {L : LinkL} {p : Int} (h : p = 4 ∨ p = 41) : { L with type := innerI p } = typedL L (decide (p = 41)) := by
  rcases h with rfl | rfl <;> rfl
end
end Go.Proofs.Ytnlmppannjebfaa
