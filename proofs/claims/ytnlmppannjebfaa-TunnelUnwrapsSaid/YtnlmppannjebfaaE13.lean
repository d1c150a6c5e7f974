/- What layer 13's laws need, in plain Lean. -/
import Derived.Test.YtnlmppannjebfaaS13
namespace Go.Proofs.Ytnlmppannjebfaa
set_option linter.unusedVariables false
set_option linter.unusedSimpArgs false
open Go

def adrA : Adr := ⟨false, [1, 2, 3, 4, 0, 0, 0, 0, 0, 0, 0, 0, 0, 0, 0, 0]⟩
def adrS : Adr := ⟨true, [0, 0, 0, 0, 0, 0, 0, 0, 0, 0, 0, 0, 0, 0, 0, 0]⟩
def tup13 : TupL := ⟨adrA, adrA, 6, 0, 0⟩
def load13 : List UInt8 := [49, 50, 51, 52, 53, 54]
def mk13 : List UInt8 := makeL link0 tup13 2 load13
def mk9 : List UInt8 := [] ++ mk13 ++ [9]
theorem mk13_r : linkRight (typedL link0 tup13.src.six) = true := by decide +kernel
theorem mk13_m : mayL tup13 2 = true := by decide +kernel
theorem mk13_n9 : (load13.length : Int) + (headL tup13 : Int) + (if tup13.src.six then 0 else 20) ≤ 65535 := by decide +kernel
theorem mk13_len : mk13.length = 60 := by decide +kernel
theorem mk13_w : (wrapR mk9 adrA adrA).2 = 0 ∧ (wrapR mk9 adrA adrA).1.length = 80 := by decide +kernel
theorem mk13_u : unwR (wrapR mk9 adrA adrA).1 = (mk13, true) := by decide +kernel
theorem mk13_s : (wrapR mk13 adrS adrS).2 = 0 ∧ (wrapR mk13 adrS adrS).1.length = 100 := by decide +kernel
theorem mk13_f : wrapR mk13 adrA adrS = ([], 1) := by decide +kernel
theorem mk13_n : unwR mk13 = ([], false) := by decide +kernel
theorem unwR_empty {l : List UInt8} (h : (unwR l).2 = false) : (unwR l).1 = [] := by
  unfold unwR at h ⊢
  split; · rfl
  rename_i h1
  rw [if_neg h1] at h
  split; · rfl
  rename_i h2
  rw [if_neg h2] at h
  cases h

/-! ## What is wrapped, read -/
theorem wordAt_take {l : List UInt8} {i k : Nat} (h : i + 1 < k) : wordAt (l.take k) i = wordAt l i := by
  unfold wordAt; rw [byteAt_take (by omega), byteAt_take h]
theorem part_take {l : List UInt8} {i n k : Nat} (h : i + n ≤ k) : ((l.take k).drop i).take n = (l.drop i).take n := by
  rw [List.drop_take, List.take_take]; congr 1; omega
theorem fourRead_conds {l : List UInt8} (h : (fourRead l).2 = 0) : ¬ l.length < 20 ∧ ¬ (byteAt l 0 / 16 ≠ 4 ∨ byteAt l 0 % 16 * 4 < 20) ∧ ¬ byteAt l 0 % 16 * 4 > (l.length : Int) ∧ ¬ wordAt l 2 < byteAt l 0 % 16 * 4 ∧ ¬ wordAt l 2 > (l.length : Int) ∧ ¬ ck (l.take (byteAt l 0 % 16 * 4).toNat) ≠ 0 := by
  unfold fourRead at h
  by_cases h1 : l.length < 20
  · rw [if_pos h1] at h; cases h
  rw [if_neg h1] at h
  by_cases h2 : byteAt l 0 / 16 ≠ 4 ∨ byteAt l 0 % 16 * 4 < 20
  · rw [if_pos h2] at h; cases h
  rw [if_neg h2] at h
  by_cases h3 : byteAt l 0 % 16 * 4 > (l.length : Int)
  · rw [if_pos h3] at h; cases h
  rw [if_neg h3] at h
  by_cases h4 : wordAt l 2 < byteAt l 0 % 16 * 4
  · rw [if_pos h4] at h; cases h
  rw [if_neg h4] at h
  by_cases h5 : wordAt l 2 > (l.length : Int)
  · rw [if_pos h5] at h; cases h
  rw [if_neg h5] at h
  by_cases h6 : ck (l.take (byteAt l 0 % 16 * 4).toNat) ≠ 0
  · rw [if_pos h6] at h; cases h
  exact ⟨h1, h2, h3, h4, h5, h6⟩
theorem four_take {l : List UInt8} (h : (fourRead l).2 = 0) : fourRead (l.take (fourRead l).1.total.toNat) = fourRead l := by
  obtain ⟨h1, h2, h3, h4, h5, h6⟩ := fourRead_conds h
  have e := fourRead_last h1 h2 h3 h4 h5 h6
  have ht : (fourRead l).1.total = wordAt l 2 := by rw [e]; rfl
  rw [ht]
  have hw := wordAt_bd l 2
  have hn : 20 ≤ (wordAt l 2).toNat := by omega
  have hlen : (l.take (wordAt l 2).toNat).length = (wordAt l 2).toNat := by rw [List.length_take]; omega
  have b : ∀ i, i < 20 → byteAt (l.take (wordAt l 2).toNat) i = byteAt l i := fun i hi => byteAt_take (by omega)
  have w : ∀ i, i < 19 → wordAt (l.take (wordAt l 2).toNat) i = wordAt l i := fun i hi => wordAt_take (by omega)
  have e2 : fourRead (l.take (wordAt l 2).toNat) = (fourIs (l.take (wordAt l 2).toNat), 0) := by
    refine fourRead_last (by omega) (by rw [b 0 (by omega)]; exact h2) (by rw [b 0 (by omega), hlen]; omega) (by rw [b 0 (by omega), w 2 (by omega)]; omega) (by rw [w 2 (by omega), hlen]; omega) ?_
    rw [b 0 (by omega), List.take_take, Nat.min_eq_left (by omega)]
    exact h6
  rw [e2, e]
  unfold fourIs adr4
  rw [b 0 (by omega), b 1 (by omega), b 8 (by omega), b 9 (by omega), w 2 (by omega), w 4 (by omega), w 6 (by omega), part_take (by omega), part_take (by omega)]
theorem six_take {l : List UInt8} (h : (sixRead l).2 = 0) : sixRead (l.take (sixRead l).1.total.toNat) = sixRead l := by
  have hw := wordAt_bd l 4
  have hne : ¬ l.length < 40 ∧ ¬ byteAt l 0 / 16 ≠ 6 ∧ ¬ 40 + wordAt l 4 > (l.length : Int) := by
    unfold sixRead at h
    by_cases h1 : l.length < 40
    · rw [if_pos h1] at h; cases h
    rw [if_neg h1] at h
    by_cases h2 : byteAt l 0 / 16 ≠ 6
    · rw [if_pos h2] at h; cases h
    rw [if_neg h2] at h
    by_cases h3 : 40 + wordAt l 4 > (l.length : Int)
    · rw [if_pos h3] at h; cases h
    exact ⟨h1, h2, h3⟩
  obtain ⟨h1, h2, h3⟩ := hne
  have e : sixRead l = sixGo (sixHead l) 8 ((l.take (40 + wordAt l 4).toNat).drop 40) 40 false (byteAt l 6) := by unfold sixRead; rw [if_neg h1, if_neg h2, if_neg h3]
  have ht : (sixRead l).1.total = 40 + wordAt l 4 := by
    rcases go_bd (H := sixHead l) 8 ((l.take (40 + wordAt l 4).toNat).drop 40) 40 false (byteAt l 6) (by omega) (by show (40 : Int) + _ = 40 + wordAt l 4; simp; omega) (byteAt_bd l 6) with k | k
    · rw [e] at h; exact absurd h k.2
    · rw [e]; exact k.2.2.1
  rw [ht]
  have hlen : (l.take (40 + wordAt l 4).toNat).length = (40 + wordAt l 4).toNat := by rw [List.length_take]; omega
  have b : ∀ i, i < 40 → byteAt (l.take (40 + wordAt l 4).toNat) i = byteAt l i := fun i hi => byteAt_take (by omega)
  have w : wordAt (l.take (40 + wordAt l 4).toNat) 4 = wordAt l 4 := wordAt_take (by omega)
  rw [e]
  unfold sixRead
  rw [if_neg (by omega), if_neg (by rw [b 0 (by omega)]; exact h2), if_neg (by rw [w, hlen]; omega), w, b 6 (by omega), List.take_take, Nat.min_self]
  congr 1
  unfold sixHead adr6
  rw [w, b 6 (by omega), b 7 (by omega), part_take (by omega), part_take (by omega)]
theorem net_take {kind : Int} {l : List UInt8} (h : (netRead kind l).ok = true) : netRead kind (l.take (netRead kind l).total.toNat) = netRead kind l := by
  unfold netRead at h ⊢
  split
  · rename_i hk
    rw [if_pos hk] at h
    have h0 : (fourRead l).2 = 0 := by simpa using h
    rw [four_take h0]
  · rename_i hk
    rw [if_neg hk] at h
    split
    · rename_i hk2
      rw [if_pos hk2] at h
      have h0 : (sixRead l).2 = 0 := by simpa using h
      rw [six_take h0]
    · rfl
theorem net_kind {kind : Int} {l : List UInt8} (h : (netRead kind l).ok = true) : kind = 2048 ∨ kind = 34525 := by
  unfold netRead at h
  by_cases hk : kind = 2048
  · exact .inl hk
  · rw [if_neg hk] at h
    by_cases hk2 : kind = 34525
    · exact .inr hk2
    · rw [if_neg hk2] at h; cases h
def headW (A : Adr) : Nat := if A.six then 40 else 20
section
variable {l m : List UInt8} {A D : Adr}
theorem wrap_ok (h : (wrapR l A D).2 = 0) : (cutN l).ok = true ∧ famB A D = true ∧ (if A.six then (cutN l).total else 20 + (cutN l).total) ≤ 65535 ∧ (wrapR l A D).1 = linkPut (typedL (cutL l) A.six) ++ ipL (wrapT l A D) (cutN l).total ++ cutP l := by
  unfold wrapR at h ⊢
  by_cases h1 : (cutN l).ok = false
  · rw [if_pos h1] at h; cases h
  rw [if_neg h1] at h ⊢
  by_cases h2 : famB A D = false
  · rw [if_pos h2] at h; cases h
  rw [if_neg h2] at h ⊢
  by_cases h3 : (if A.six then (cutN l).total else 20 + (cutN l).total) > 65535
  · rw [if_pos h3] at h; cases h
  rw [if_neg h3]
  exact ⟨by simpa using h1, by simpa using h2, by omega, rfl⟩
theorem wrap_no (h : (wrapR l A D).2 ≠ 0) : (wrapR l A D).1 = [] := by
  unfold wrapR at h ⊢
  by_cases h1 : (cutN l).ok = false
  · rw [if_pos h1]
  rw [if_neg h1] at h ⊢
  by_cases h2 : famB A D = false
  · rw [if_pos h2]
  rw [if_neg h2] at h ⊢
  by_cases h3 : (if A.six then (cutN l).total else 20 + (cutN l).total) > 65535
  · rw [if_pos h3]
  rw [if_neg h3] at h
  exact absurd rfl h
theorem wrap_no1 (h : (wrapR l A D).2 ≠ 0) (hok : (cutN l).ok = true) (ht : (cutN l).total ≤ 60000) : wrapR l A D = ([], 1) := by
  unfold wrapR at h ⊢
  rw [if_neg (by rw [hok]; decide)] at h ⊢
  by_cases h2 : famB A D = false
  · rw [if_pos h2]
  rw [if_neg h2, if_neg (by split <;> omega)] at h
  exact absurd rfl h
theorem cutP_take (h : (cutN l).ok = true) : cutP l = (l.drop (cutA l)).take (cutN l).total.toNat := by
  unfold cutP
  rw [if_pos (cutN_ok h)]
  unfold subl
  rw [List.drop_take]
  congr 1
  omega
theorem cutN_net (h : (cutN l).ok = true) : cutN l = netRead (cutL l).type (l.drop (cutA l)) := by unfold cutN; rw [if_pos (cutN_ok h)]
theorem ip_len (hA : A.b.length = 16) (hD : D.b.length = 16) (n : Int) : (ipL (wrapT l A D) n).length = headW A := by
  rw [ipL_len (T := wrapT l A D) ⟨hA, hD⟩]; rfl
theorem ip_net (hA : A.b.length = 16) (hD : D.b.length = 16) (h : (wrapR l A D).2 = 0) : netRead (if A.six then 34525 else 2048) (ipL (wrapT l A D) (cutN l).total ++ (cutP l ++ m)) = ⟨(headW A : Int), (headW A : Int) + (cutN l).total, ipip l, false, true⟩ := by
  obtain ⟨h1, h2, h3, _⟩ := wrap_ok h
  obtain ⟨k1, k2, k3⟩ := cutP_len h1
  have hpb : 0 ≤ ipip l ∧ ipip l ≤ 255 ∧ extB (ipip l) = false := by rcases ipip_cases l with e | e <;> rw [e] <;> decide
  unfold headW ipL
  cases h6 : A.six with
  | true =>
    rw [h6] at h3
    simp only [if_true] at h3
    have hr := wrap6_right (l := l) (n := (cutN l).total) h6 h2 (by omega)
    obtain ⟨r1, r2, r3, r4, r5, r6, r7, r8, r9⟩ := sixRight_bd hr
    rw [if_pos (show (wrapT l A D).src.six = true from h6), sixPut_hdr]
    unfold netRead
    rw [if_neg (by decide), if_pos (by decide)]
    have e : sixRead (hdr6 (six40 (wrapT l A D) (cutN l).total) ((six40 (wrapT l A D) (cutN l).total).total - 40) (six40 (wrapT l A D) (cutN l).total).proto ++ (cutP l ++ m)) = (⟨40, 40 + (cutN l).total, 64, false, 0, ipip l, A, D⟩, 0) := by
      rw [hdr6_read ⟨hA, hD⟩ (by show 0 ≤ 40 + (cutN l).total - 40 ∧ 40 + (cutN l).total - 40 ≤ 65535; omega) r4 r3 r8 r9 (by rw [List.length_append]; show 40 + (cutN l).total - 40 ≤ _; omega)]
      rw [sixGo_done (by rw [show (six40 (wrapT l A D) (cutN l).total).proto = ipip l from rfl, hpb.2.2]; rfl)]
      simp only [Prod.mk.injEq, SixL.mk.injEq, and_true, true_and]
      exact ⟨by show 40 + (40 + (cutN l).total - 40) = _; omega, rfl, by decide, rfl, rfl, rfl⟩
    rw [e]
    rfl
  | false =>
    rw [h6] at h3
    simp only [Bool.false_eq_true, if_false] at h3 ⊢
    have hr := wrap4_right (l := l) (n := (cutN l).total) h6 h2 (by omega)
    rw [if_neg (show ¬ (wrapT l A D).src.six = true from by show ¬ A.six = true; rw [h6]; decide)]
    unfold netRead
    rw [if_pos rfl]
    have e := four_back (H := four20 (wrapT l A D) (cutN l).total) ⟨hA, hD⟩ hr (r := cutP l ++ m) (by rw [List.length_append]; show 20 + (cutN l).total ≤ _; omega)
    rw [e]
    rfl
/-- What is wrapped, taken apart. -/
theorem wrap_cut (hA : A.b.length = 16) (hD : D.b.length = 16) (h : (wrapR l A D).2 = 0) (m : List UInt8) :
    linkRead ((wrapR l A D).1 ++ m) = ({ typedL (cutL l) A.six with at' := (cutA l : Int) }, 0) ∧ cutA ((wrapR l A D).1 ++ m) = cutA l ∧
    cutN ((wrapR l A D).1 ++ m) = ⟨(headW A : Int), (headW A : Int) + (cutN l).total, ipip l, false, true⟩ ∧ cutP ((wrapR l A D).1 ++ m) = ipL (wrapT l A D) (cutN l).total ++ cutP l ∧
    ((wrapR l A D).1 ++ m).drop (cutA l) = ipL (wrapT l A D) (cutN l).total ++ (cutP l ++ m) ∧ ((wrapR l A D).1.length : Int) = (cutA l : Int) + (headW A : Int) + (cutN l).total := by
  obtain ⟨h1, h2, h3, h4⟩ := wrap_ok h
  have h0 := cutN_ok h1
  have hb := linkRead_bd h0
  obtain ⟨c1, c2, c3, c4⟩ := cut_bd l h0
  obtain ⟨k1, k2, k3⟩ := cutP_len h1
  have hat : (cutL l).at' = 14 + 4 * ((cutL l).tags.length : Int) := hb.2.2.2
  have hlp : (linkPut (typedL (cutL l) A.six)).length = cutA l := by
    rw [linkPut_len (typedL_ok (cutL_ok l))]
    show 14 + 4 * (cutL l).tags.length = _
    omega
  have hil := ip_len (l := l) hA hD (cutN l).total
  have e1 : (wrapR l A D).1 ++ m = linkPut (typedL (cutL l) A.six) ++ (ipL (wrapT l A D) (cutN l).total ++ (cutP l ++ m)) := by rw [h4]; simp [List.append_assoc]
  have e2 : linkRead ((wrapR l A D).1 ++ m) = ({ typedL (cutL l) A.six with at' := (cutA l : Int) }, 0) := by
    rw [e1, link_back (typedL_ok (cutL_ok l)) (cut_right h1 A.six)]
    show (({ typedL (cutL l) A.six with at' := 14 + 4 * ((cutL l).tags.length : Int) } : LinkL), (0 : Int)) = _
    rw [← hat, ← c1]
  have e3 : cutA ((wrapR l A D).1 ++ m) = cutA l := by unfold cutA; rw [e2]; exact Int.toNat_natCast _
  have e4 : ((wrapR l A D).1 ++ m).drop (cutA l) = ipL (wrapT l A D) (cutN l).total ++ (cutP l ++ m) := by
    rw [e1, ← hlp, List.drop_left]
  have e5 : cutN ((wrapR l A D).1 ++ m) = ⟨(headW A : Int), (headW A : Int) + (cutN l).total, ipip l, false, true⟩ := by
    have : (linkRead ((wrapR l A D).1 ++ m)).2 = 0 := by rw [e2]
    unfold cutN
    rw [if_pos this, e3, e4]
    have ht : (cutL ((wrapR l A D).1 ++ m)).type = (if A.six then 34525 else 2048) := by unfold cutL; rw [e2]; rfl
    rw [ht]
    exact ip_net hA hD h
  have hP : (cutP l).length = (cutN l).total.toNat := by omega
  refine ⟨e2, e3, e5, ?_, e4, ?_⟩
  · rw [cutP_take (by rw [e5]), e3, e4, e5, ← List.append_assoc]
    show List.take ((headW A : Int) + (cutN l).total).toNat _ = _
    rw [List.take_left' (by rw [List.length_append, hil, hP]; omega)]
  · rw [h4, List.length_append, List.length_append, hlp, hil, hP]
    omega
theorem wrap_whole (hA : A.b.length = 16) (hD : D.b.length = 16) (h : (wrapR l A D).2 = 0) (m : List UInt8) : ((wrapR l A D).1 ++ m).take (cutA ((wrapR l A D).1 ++ m) + (cutN ((wrapR l A D).1 ++ m)).total.toNat) = (wrapR l A D).1 := by
  obtain ⟨e1, e2, e3, e4, e5, e6⟩ := wrap_cut hA hD h m
  obtain ⟨k1, k2, k3⟩ := cutP_len (wrap_ok h).1
  rw [e2, e3]
  exact List.take_left' (by show _ = cutA l + ((headW A : Int) + (cutN l).total).toNat; omega)
theorem ipip_type (h : (cutN l).ok = true) : innerI (ipip l) = (cutL l).type := by
  rw [cutN_net h] at h
  unfold ipip
  rcases net_kind h with e | e <;> rw [e] <;> rfl
/-- What is wrapped is unwrapped as it was. -/
theorem wrap_back (hA : A.b.length = 16) (hD : D.b.length = 16) (h : (wrapR l A D).2 = 0) (m : List UInt8) : unwR ((wrapR l A D).1 ++ m) = (l.take (cutA l + (cutN l).total.toNat), true) := by
  obtain ⟨e1, e2, e3, e4, e5, e6⟩ := wrap_cut hA hD h m
  have h1 := (wrap_ok h).1
  obtain ⟨k1, k2, k3⟩ := cutP_len h1
  have h0 := cutN_ok h1
  have hit := ipip_type h1
  have hdr : (cutP ((wrapR l A D).1 ++ m)).drop (cutN ((wrapR l A D).1 ++ m)).head.toNat = cutP l := by
    rw [e4, e3]
    show List.drop ((headW A : Nat) : Int).toNat _ = _
    rw [Int.toNat_natCast, ← ip_len (l := l) hA hD (cutN l).total, List.drop_left]
  have hnet : netRead (innerI (cutN ((wrapR l A D).1 ++ m)).proto) (cutP l) = cutN l := by
    rw [e3]
    show netRead (innerI (ipip l)) (cutP l) = _
    rw [hit, cutP_take h1]
    have hk := h1
    rw [cutN_net h1] at hk ⊢
    exact net_take hk
  rw [unwR_yes (by rw [e3]; rfl) (by rw [hdr, hnet]; exact h1), hdr, hnet]
  congr 1
  have hP : (cutP l).length = (cutN l).total.toNat := by omega
  rw [List.take_of_length_le (by omega)]
  have hl1 := (link_only h0).2
  have hlk : linkPut (typedL (cutL ((wrapR l A D).1 ++ m)) (decide ((cutN ((wrapR l A D).1 ++ m)).proto = 41))) = l.take (cutA l) := by
    unfold cutA
    rw [← hl1, e3]
    have hcl : cutL ((wrapR l A D).1 ++ m) = { typedL (cutL l) A.six with at' := (cutA l : Int) } := by unfold cutL; rw [e1]; rfl
    rw [hcl]
    have ht : (if decide (ipip l = 41) = true then (34525 : Int) else 2048) = (cutL l).type := by
      rw [← hit]
      rcases ipip_cases l with e | e <;> rw [e] <;> rfl
    show (cutL l).dst ++ (cutL l).src ++ (cutL l).tags.flatMap tagPut ++ put2 (if decide (ipip l = 41) = true then (34525 : Int) else 2048) = linkPut (cutL l)
    rw [ht]
    rfl
  rw [hlk]
  have : cutP l = (l.take (cutA l + (cutN l).total.toNat)).drop (cutA l) := by unfold cutP; rw [if_pos h0]; rfl
  rw [this]
  have h9 : l.take (cutA l) = (l.take (cutA l + (cutN l).total.toNat)).take (cutA l) := by rw [List.take_take]; congr 1; omega
  rw [h9, List.take_append_drop]
theorem wrap_len (hA : A.b.length = 16) (hD : D.b.length = 16) : (wrapR l A D).1.length ≤ l.length + 40 := by
  by_cases h : (wrapR l A D).2 = 0
  · obtain ⟨e1, e2, e3, e4, e5, e6⟩ := wrap_cut hA hD h []
    have h1 := (wrap_ok h).1
    have h9 := cut_tot (cutN_ok h1)
    have : headW A ≤ 40 := by unfold headW; split <;> omega
    omega
  · rw [wrap_no h]; simp
theorem wrap_tail (hA : A.b.length = 16) (hD : D.b.length = 16) (h : (wrapR l A D).2 = 0) : (wrapR l A D).1.drop ((wrapR l A D).1.length - (cutN l).total.toNat) = subl l (cutA l) (cutA l + (cutN l).total.toNat) := by
  obtain ⟨h1, h2, h3, h4⟩ := wrap_ok h
  obtain ⟨k1, k2, k3⟩ := cutP_len h1
  have hc : cutP l = subl l (cutA l) (cutA l + (cutN l).total.toNat) := by unfold cutP; rw [if_pos (cutN_ok h1)]
  rw [← hc, h4]
  exact List.drop_left' (by simp only [List.length_append]; omega)
theorem outer_a (l : List UInt8) : ((ipip l == 41) == ((cutL l).type == 34525)) = true := by
  unfold ipip
  split
  · rename_i h; rw [h]; rfl
  · rename_i h
    have : ((cutL l).type == 34525) = false := by simpa using h
    rw [this]; rfl
theorem outer_b (L : LinkL) (b : Bool) : (((typedL L b).type == 34525) == b) = true := by cases b <;> rfl
end
end Go.Proofs.Ytnlmppannjebfaa
