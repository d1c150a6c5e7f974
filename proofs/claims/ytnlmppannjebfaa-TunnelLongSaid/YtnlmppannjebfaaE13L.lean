/- Frames as long as may be, in plain Lean. -/
import Derived.Test.YtnlmppannjebfaaE13
namespace Go.Proofs.Ytnlmppannjebfaa
set_option linter.unusedVariables false
set_option linter.unusedSimpArgs false
open Go
def adrI : Adr := ⟨true, [1, 0, 0, 0, 0, 0, 0, 0, 0, 0, 0, 0, 0, 0, 0, 0]⟩
def inA (b : Bool) : Adr := if b then adrI else adrA
def headN (b : Bool) : Nat := if b then 40 else 20
def tupB (b : Bool) : TupL := ⟨inA b, inA b, 17, 0, 0⟩
theorem inA_len (b : Bool) : (inA b).b.length = 16 := by cases b <;> rfl
theorem headN_bd (b : Bool) : 20 ≤ headN b ∧ headN b ≤ 40 := by cases b <;> decide
theorem tupB_ok (b : Bool) : TupOk (tupB b) := ⟨inA_len b, inA_len b⟩
theorem long_r (b : Bool) : linkRight (typedL link0 (tupB b).src.six) = true := by cases b <;> decide
theorem long_m (b : Bool) : mayL (tupB b) 0 = true := by cases b <;> decide
theorem inA_fam (c : Bool) : famB (inA c) (inA c) = true := by cases c <;> decide
section
variable {b c : Bool} {K : Nat}
def longL (b : Bool) (K : Nat) : List UInt8 := List.replicate (65480 + K - headN b - 8) 0
theorem longL_len (b : Bool) (K : Nat) : (longL b K).length = 65480 + K - headN b - 8 := by unfold longL; simp
theorem long_n9 (hK : K < 96) (h : b = true ∨ 65480 + K ≤ 65535) : ((longL b K).length : Int) + (headL (tupB b) : Int) + (if (tupB b).src.six then 0 else 20) ≤ 65535 := by
  rw [longL_len]
  show ((65480 + K - headN b - 8 : Nat) : Int) + ((8 : Nat) : Int) + (if (inA b).six then 0 else 20) ≤ 65535
  cases b with
  | true => show ((65480 + K - 40 - 8 : Nat) : Int) + ((8 : Nat) : Int) + 0 ≤ 65535; omega
  | false =>
    have : 65480 + K ≤ 65535 := by rcases h with h | h; · cases h
                                   · exact h
    show ((65480 + K - 20 - 8 : Nat) : Int) + ((8 : Nat) : Int) + 20 ≤ 65535; omega
theorem long_seg (hK : K < 96) (h : b = true ∨ 65480 + K ≤ 65535) : (segL (tupB b) 0 (longL b K)).length = 65480 + K - headN b ∧ (pFill (tupB b).src (tupB b).dst (tupB b).proto (segL (tupB b) 0 (longL b K))).length = 65480 + K - headN b := by
  have h1 := segL_len (tupB b) 0 (longL b K)
  rw [longL_len] at h1
  have h2 : headL (tupB b) = 8 := rfl
  have h3 := headN_bd b
  have h9 := long_n9 hK h
  rw [longL_len] at h9
  have h4 := seg_ok (load := longL b K) (mayL_ok (long_m b)) (by rw [longL_len]; split at h9 <;> omega)
  refine ⟨by omega, ?_⟩
  rw [fill_len h4]
  omega
theorem long_net (hK : K < 96) (h : b = true ∨ 65480 + K ≤ 65535) {F : List UInt8} (hF : F.length = 65480 + K - headN b) :
    netRead (if b then 34525 else 2048) (ipL (tupB b) ((65480 + K - headN b : Nat) : Int) ++ F) = ⟨(headN b : Int), (headN b : Int) + ((65480 + K - headN b : Nat) : Int), 17, false, true⟩ := by
  have hm := mayL_ok (long_m b)
  cases b with
  | true =>
    have hr := six40_right (T := tupB true) (n := ((65480 + K - headN true : Nat) : Int)) hm rfl (by show (0 : Int) ≤ ((65480 + K - 40 : Nat) : Int) ∧ ((65480 + K - 40 : Nat) : Int) ≤ 65535; omega)
    obtain ⟨r1, r2, r3, r4, r5, r6, r7, r8, r9⟩ := sixRight_bd hr
    unfold ipL
    rw [if_pos (show (tupB true).src.six = true from rfl), sixPut_hdr]
    unfold netRead
    rw [if_pos rfl, if_neg (by decide), if_pos (by decide)]
    have e : sixRead (hdr6 (six40 (tupB true) ((65480 + K - headN true : Nat) : Int)) ((six40 (tupB true) ((65480 + K - headN true : Nat) : Int)).total - 40) (six40 (tupB true) ((65480 + K - headN true : Nat) : Int)).proto ++ F) = (⟨40, 40 + ((65480 + K - headN true : Nat) : Int), 64, false, 0, 17, adrI, adrI⟩, 0) := by
      rw [hdr6_read (show SixOk (six40 (tupB true) _) from tupB_ok true) (by show 0 ≤ 40 + ((65480 + K - 40 : Nat) : Int) - 40 ∧ 40 + ((65480 + K - 40 : Nat) : Int) - 40 ≤ 65535; omega) r4 r3 r8 r9 (by rw [hF]; show 40 + ((65480 + K - 40 : Nat) : Int) - 40 ≤ ((65480 + K - 40 : Nat) : Int); omega)]
      rw [sixGo_done rfl]
      simp only [Prod.mk.injEq, SixL.mk.injEq, and_true, true_and]
      exact ⟨by show 40 + (40 + ((65480 + K - 40 : Nat) : Int) - 40) = 40 + ((65480 + K - 40 : Nat) : Int); omega, rfl, by decide, rfl, rfl, rfl⟩
    rw [e]
    rfl
  | false =>
    have h9 : 65480 + K ≤ 65535 := by rcases h with h | h; · cases h
                                      · exact h
    have hr := four20_right (T := tupB false) (n := ((65480 + K - headN false : Nat) : Int)) hm rfl (by show (0 : Int) ≤ ((65480 + K - 20 : Nat) : Int) ∧ 20 + ((65480 + K - 20 : Nat) : Int) ≤ 65535; omega)
    unfold ipL
    rw [if_neg (show ¬ (tupB false).src.six = true from by decide)]
    unfold netRead
    rw [if_pos (show (if (false = true) then (34525 : Int) else 2048) = 2048 from rfl)]
    have e := four_back (H := four20 (tupB false) ((65480 + K - headN false : Nat) : Int)) (tupB_ok false) hr (r := F) (by rw [hF]; show 20 + ((65480 + K - 20 : Nat) : Int) ≤ 20 + ((65480 + K - 20 : Nat) : Int); omega)
    rw [e]
    rfl
def longX (b : Bool) (K : Nat) : List UInt8 := makeL link0 (tupB b) 0 (longL b K)
theorem long_cut (hK : K < 96) (h : b = true ∨ 65480 + K ≤ 65535) : (cutN (longX b K)).ok = true ∧ (cutN (longX b K)).total = 65480 + (K : Int) ∧ cutA (longX b K) = 14 ∧ (longX b K).length = 14 + (65480 + K) := by
  obtain ⟨s1, s2⟩ := long_seg hK h
  have h3 := headN_bd b
  have e1 : longX b K = linkPut (typedL link0 b) ++ (ipL (tupB b) ((65480 + K - headN b : Nat) : Int) ++ pFill (tupB b).src (tupB b).dst (tupB b).proto (segL (tupB b) 0 (longL b K))) := by
    unfold longX makeL
    rw [s1, List.append_assoc]
    cases b <;> rfl
  have e2 : linkRead (longX b K) = ({ typedL link0 b with at' := 14 }, 0) := by
    rw [e1, link_back (typedL_ok link0_ok) (by cases b <;> decide)]; rfl
  have e3 : cutA (longX b K) = 14 := by unfold cutA; rw [e2]; rfl
  have hl : (linkPut (typedL link0 b)).length = 14 := by rw [linkPut_len (typedL_ok link0_ok)]; rfl
  have e4 : cutN (longX b K) = ⟨(headN b : Int), (headN b : Int) + ((65480 + K - headN b : Nat) : Int), 17, false, true⟩ := by
    unfold cutN
    rw [if_pos (by rw [e2]), e3, e1]
    have hd : (linkPut (typedL link0 b) ++ (ipL (tupB b) ((65480 + K - headN b : Nat) : Int) ++ pFill (tupB b).src (tupB b).dst (tupB b).proto (segL (tupB b) 0 (longL b K)))).drop 14 = ipL (tupB b) ((65480 + K - headN b : Nat) : Int) ++ pFill (tupB b).src (tupB b).dst (tupB b).proto (segL (tupB b) 0 (longL b K)) := List.drop_left' hl
    rw [hd, ← e1]
    have ht : (cutL (longX b K)).type = (if b then 34525 else 2048) := by unfold cutL; rw [e2]; rfl
    rw [ht]
    exact long_net hK h s2
  refine ⟨by rw [e4], by rw [e4]; show (headN b : Int) + ((65480 + K - headN b : Nat) : Int) = _; omega, e3, ?_⟩
  rw [e1, List.length_append, List.length_append, hl, ipL_len (tupB_ok b), s2]
  cases b with
  | true => show 14 + (40 + (65480 + K - 40)) = _; omega
  | false => show 14 + (20 + (65480 + K - 20)) = _; omega
theorem long_4 (hK : K < 96) (h : b = true ∨ 65480 + K ≤ 65535) (hk : 65480 + (K : Int) > (if c then 65535 else 65515)) : wrapR (longX b K) (inA c) (inA c) = ([], 4) := by
  obtain ⟨h1, h2, _, _⟩ := long_cut hK h
  cases c with
  | true => exact wrapR_64 h1 (inA_fam true) rfl (by rw [h2]; simpa using hk)
  | false => exact wrapR_44 h1 (inA_fam false) rfl (by rw [h2]; simp at hk; omega)
theorem long_0 (hK : K < 96) (h : b = true ∨ 65480 + K ≤ 65535) (hk : ¬ 65480 + (K : Int) > (if c then 65535 else 65515)) : (wrapR (longX b K) (inA c) (inA c)).2 = 0 ∧ ((wrapR (longX b K) (inA c) (inA c)).1.length : Int) = 14 + (headN c : Int) + (65480 + (K : Int)) := by
  obtain ⟨h1, h2, h3, _⟩ := long_cut hK h
  have h0 : (wrapR (longX b K) (inA c) (inA c)).2 = 0 := by
    cases c with
    | true => rw [wrapR_6 h1 (inA_fam true) rfl (by rw [h2]; simpa using hk)]
    | false => rw [wrapR_4 h1 (inA_fam false) rfl (by rw [h2]; simp at hk; omega)]
  have e := (wrap_cut (inA_len c) (inA_len c) h0 []).2.2.2.2.2
  refine ⟨h0, ?_⟩
  rw [e, h2, h3]
  have : (headW (inA c) : Int) = (headN c : Int) := by cases c <;> rfl
  rw [this]
  rfl
end
end Go.Proofs.Ytnlmppannjebfaa
