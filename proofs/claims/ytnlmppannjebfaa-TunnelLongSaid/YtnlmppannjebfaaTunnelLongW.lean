import Derived.Test.YtnlmppannjebfaaA13
import Derived.Test.YtnlmppannjebfaaE13L
namespace Go.Proofs.Ytnlmppannjebfaa
open Go.RowKit
set_option linter.unusedVariables false
set_option linter.unusedSimpArgs false
set_option maxRecDepth 4000
def D_law_TunnelLong_0 : List Tmp := [9, 23, 24]
def D_law_TunnelLong_1 : List Tmp := [10, 11, 26, 27]
set_option maxHeartbeats 1000000 in
theorem law_TunnelLong {x0 x1 x2 : Value} {w : World} {q : Int} {b c : Bool} (h0 : (Is (.int .u16 q)) x0 w) (h1 : (Is (.bool b)) x1 w) (h2 : (Is (.bool c)) x2 w) (hq : 0 ≤ q ∧ q ≤ 65535) :
    Calls Try.prog 7 #[x0, x1, x2] w (Ret (Is (.bool true)) w) := by
 obtain ⟨K, hK, hKl⟩ := tmod_lt (a := q) (n := 96) hq.1 (by omega)
 have hKq : q.tmod 96 = (K : Int) := hK
 have hhb := headN_bd b
 refine enter Try.func7 rfl Try.ntmps7 (k := 3) rfl (by decide) (fun a0 hr hargs => ?_)
 have s0 := sarg h0 (hargs 0 (by decide))
 have s1 := sarg h1 (hargs 1 (by decide))
 have s2 := sarg h2 (hargs 2 (by decide))
 clear hargs
 refine wp_seq ?_
 refine wp_reg 83 [[]] [?b1_0] mixed hr ?t1 ?o1 ?_
 case o1 =>
  refine oc0 (fun A W hx hf => ?_) ?_
  exact ok_assignc
  exact OpsOk.nil
 case t1 => exact inferInstance
 clear hr; intro a2 w2 x hr hd hs
 revert s2; revert s1; revert s0; refine kp3 hs rfl ?_; intro s0 s1 s2
 have e_w := x
 clear hd hs x
 refine exit_then ?_
 refine wp_seq ?_
 refine wp_seq ?_
 refine wp_reg 83 [[], [(16, some 0)]] [?b3_0, ?b3_1] mixed hr ?t3 ?o3 ?_
 case o3 =>
  refine oc0 (fun A W hx hf => ?_) ?_
  exact ok_call0 body9 (c_awake13 )
  refine oc0 (fun A W hx hf => ?_) ?_
  exact ok_not (q0 ?b3_0 A W 16 hf)
  exact OpsOk.nil
 case t3 => exact inferInstance
 clear hr; intro a4 w4 x hr hd hs
 revert s2; revert s1; revert s0; refine kp3 hs rfl ?_; intro s0 s1 s2
 have s17 := fa ?b3_1 a4 w4 17 (hd 1 17 rfl)
 replace e_w := e_w.trans x
 clear hd hs x
 refine exit_then ?_
 refine wp_cond_split (show _ = _ from s17) (fun hd9 => ?_) (fun hd9 => ?_)
 ·
  exfalso; simp at hd9
 ·
  try simp only [decide_eq_true_eq, decide_eq_false_iff_not, Bool.not_eq_true', Bool.not_eq_false', Bool.not_true, Bool.not_false, Bool.and_eq_true, Bool.and_eq_false_iff, Bool.or_eq_true, Bool.or_eq_false_iff, bne_iff_ne, beq_iff_eq, ne_eq, beq_eq_false_iff_ne, bne_eq_false_iff_eq] at hd9
  refine wp_skip ?_
  refine exit_then ?_
  refine wp_seq ?_
  refine wp_reg_pre (l := [_, _, _]) (rest := [_]) 83 [[], [(18, some 0)], []] [?b6_0, ?b6_1, ?b6_2] hr ?t6 ?o6 ?_
  case o6 =>
   refine oc0 (fun A W hx hf => ?_) ?_
   exact ok_buildArr [1, 2, 3, 4, 0, 0, 0, 0, 0, 0, 0, 0, 0, 0, 0, 0] [(0, (.int .u8 1)), (1, (.int .u8 2)), (2, (.int .u8 3)), (3, (.int .u8 4))] rfl (by kernel_rfl)
   refine oc0 (fun A W hx hf => ?_) ?_
   exact ok_buildS [(1, (.tmp 18))] [(1, _)] lay25 rfl (PartsC.agg (q0 ?b6_0 A W 18 hf) (PartsC.nil)) (by first | rfl | simp [adrCells, *])
   refine oc0 (fun A W hx hf => ?_) ?_
   exact ok_allocS [[.bool adr0.six], adr0.b.map byteV] [1, 16] zerov25 (by rfl) (by rfl) hx.size
   exact OpsOk.nil
  case t6 => exact inferInstance
  clear hr; intro a7 w7 x hr hd hs
  have z_w_w4 := e_w.size
  revert s2; revert s1; revert s0; refine kp3 hs rfl ?_; intro s0 s1 s2
  clear s17
  have s19 := fa ?b6_1 a7 w7 19 (hd 1 19 rfl)
  have s7 := fa ?b6_2 a7 w7 7 (hd 2 7 rfl)
  obtain ⟨g7_7, q7_7⟩ := PxN.at s7; clear s7; have n7_7 := PxS.lt q7_7
  replace q7_7 := PxS.mono q7_7 e_w.size
  have s7 := q7_7; clear q7_7
  replace e_w := e_w.trans x
  clear hd hs x
  have z8 := PxS.lt s7
  have l8 := (show (g7_7 = 0 ∨ w.heap.size < g7_7) ∧ True from ⟨by omega, trivial⟩)
  refine wl_storeSm [[.bool adrA.six], adrA.b.map byteV] hr size25 s7 (Is.conv s19 rfl) (by rfl) (by decide) rfl ?_; clear hr; intro a8 w8 hc hu hr hs
  have hb : Below w.heap.size w7 w8 := hc.below e_w.size l8.1
  revert s7; revert s2; revert s1; revert s0; refine kp4 hs rfl ?_; intro s0 s1 s2 s7
  clear s19
  replace s7 := hu _ _ _ s7
  try simp only [List.set_cons_zero, List.set_cons_succ] at s7
  replace e_w := e_w.below (Nat.le_refl _) hb
  clear hu hs hc hb
  refine wpList_nil ?_
  refine exit_then ?_
  refine wp_seq ?_
  refine wp_reg_pre (l := [_, _, _]) (rest := [_]) 83 [[], [(20, some 0)], []] [?b9_0, ?b9_1, ?b9_2] hr ?t9 ?o9 ?_
  case o9 =>
   refine oc0 (fun A W hx hf => ?_) ?_
   exact ok_buildArr [1, 2, 3, 4, 0, 0, 0, 0, 0, 0, 0, 0, 0, 0, 0, 0] [(0, (.int .u8 1)), (1, (.int .u8 2)), (2, (.int .u8 3)), (3, (.int .u8 4))] rfl (by kernel_rfl)
   refine oc0 (fun A W hx hf => ?_) ?_
   exact ok_buildS [(1, (.tmp 20))] [(1, _)] lay25 rfl (PartsC.agg (q0 ?b9_0 A W 20 hf) (PartsC.nil)) (by first | rfl | simp [adrCells, *])
   refine oc0 (fun A W hx hf => ?_) ?_
   exact ok_allocS [[.bool adr0.six], adr0.b.map byteV] [1, 16] zerov25 (by rfl) (by rfl) hx.size
   exact OpsOk.nil
  case t9 => exact inferInstance
  clear hr; intro a10 w10 x hr hd hs
  have z_w_w8 := e_w.size
  have l10_7 := PxS.lt s7
  revert s7; revert s2; revert s1; revert s0; refine kp4 hs rfl ?_; intro s0 s1 s2 s7
  have s21 := fa ?b9_1 a10 w10 21 (hd 1 21 rfl)
  have s8 := fa ?b9_2 a10 w10 8 (hd 2 8 rfl)
  obtain ⟨g10_8, q10_8⟩ := PxN.at s8; clear s8; have n10_8 := PxS.lt q10_8
  replace q10_8 := PxS.mono q10_8 e_w.size
  have s8 := q10_8; clear q10_8
  replace e_w := e_w.trans x
  have e_w8 := x
  clear hd hs x
  have z11 := PxS.lt s8
  have l11 := (show (g10_8 = 0 ∨ w.heap.size < g10_8) ∧ True from ⟨by omega, trivial⟩)
  have l11_7 := PxS.lt (later e_w8 s7)
  refine wl_storeSm [[.bool adrA.six], adrA.b.map byteV] hr size25 s8 (Is.conv s21 rfl) (by rfl) (by decide) rfl ?_; clear hr; intro a11 w11 hc hu hr hs
  have hb : Below w.heap.size w10 w11 := hc.below e_w.size l11.1
  revert s8; revert s7; revert s2; revert s1; revert s0; refine kp5 hs rfl ?_; intro s0 s1 s2 s7 s8
  clear s21
  replace s7 := PxS.other (later e_w8 s7) hc (by omega)
  replace s8 := hu _ _ _ s8
  try simp only [List.set_cons_zero, List.set_cons_succ] at s8
  replace e_w := e_w.below (Nat.le_refl _) hb
  clear e_w8
  clear hu hs hc hb
  refine wpList_nil ?_
  refine exit_then ?_
  refine wp_seq ?_
  refine wp_reg 83 [[]] [?b12_0] mixed hr ?t12 ?o12 ?_
  case o12 =>
   refine oc0 (fun A W hx hf => ?_) ?_
   exact ok_assignc
   exact OpsOk.nil
  case t12 => exact inferInstance
  clear hr; intro a13 w13 x hr hd hs
  revert s8; revert s7; revert s2; revert s1; revert s0; refine kp5 hs rfl ?_; intro s0 s1 s2 s7 s8
  have s9 := fa ?b12_0 a13 w13 9 (hd 0 9 rfl)
  replace e_w := e_w.trans x
  have e_w11 := x
  clear hd hs x
  refine exit_then ?_
  refine wp_seq ?_
  refine wp_seq ?_
  refine wp_reg 83 [[(1, none)]] [?b14_0] mixed hr ?t14 ?o14 ?_
  case o14 =>
   refine oc0 (fun A W hx hf => ?_) ?_
   exact ok_movE (a0 := a13) (r0 hf)
   exact OpsOk.nil
  case t14 => exact inferInstance
  clear hr; intro a15 w15 x hr hd hs
  have u22 := mv s1 (fa ?b14_0 a15 w15 22 (hd 0 22 rfl))
  revert s9; revert s8; revert s7; revert s2; revert s1; revert s0; refine kp6 hs rfl ?_; intro s0 s1 s2 s7 s8 s9
  have s22 := u22; clear u22
  replace e_w := e_w.trans x
  replace e_w11 := e_w11.trans x
  have e_w13 := x
  clear hd hs x
  refine exit_then ?_
  refine wp_cut (fun A W => Fr 83 A ∧ Same D_law_TunnelLong_0 a15 A ∧ Ext w W ∧ (PxS g7_7 w.heap.size [1, 16] [[.bool (inA b).six], (inA b).b.map byteV] 0) (A.eval (.tmp 7)) W ∧ (PxS g10_8 w.heap.size [1, 16] [[.bool adrA.six], adrA.b.map byteV] 0) (A.eval (.tmp 8)) W ∧ (Is (.int .i64 (headN b : Int))) (A.eval (.tmp 9)) W) ?cut16 ?_
  case cut16 =>
   have m16 : Same D_law_TunnelLong_0 a15 a15 := Same.rfl
   refine wp_cond_split (show _ = _ from s22) (fun hb => ?_) (fun hb => ?_)
   ·
    subst hb
    refine wp_seq ?_
    refine wp_reg_pre (l := [_, _]) (rest := [_]) 83 [[], [(23, some 0)]] [?b18_0, ?b18_1] hr ?t18 ?o18 ?_
    case o18 =>
     refine oc0 (fun A W hx hf => ?_) ?_
     exact ok_buildArr [1, 0, 0, 0, 0, 0, 0, 0, 0, 0, 0, 0, 0, 0, 0, 0] [(0, (.int .u8 1))] rfl (by kernel_rfl)
     refine oc0 (fun A W hx hf => ?_) ?_
     exact ok_buildS [(0, (.const (.bool true))), (1, (.tmp 23))] [(0, _), (1, _)] lay25 rfl (PartsC.one (ec A (.bool true)) rfl (PartsC.agg (q0 ?b18_0 A W 23 hf) (PartsC.nil))) (by first | rfl | simp [adrCells, *])
     exact OpsOk.nil
    case t18 => exact inferInstance
    clear hr; intro a19 w19 x hr hd hs
    revert s8; revert s7; revert s2; revert s1; revert s0; refine kp5 hs rfl ?_; intro s0 s1 s2 s7 s8
    clear s9 s22
    have s24 := fa ?b18_1 a19 w19 24 (hd 1 24 rfl)
    replace e_w := e_w.trans x
    replace e_w11 := e_w11.trans x
    clear e_w13
    replace m16 := m16.tr hs rfl
    clear hd hs x
    have z20 := PxS.lt (later e_w11 s7)
    have l20 := (show (g7_7 = 0 ∨ w.heap.size < g7_7) ∧ True from ⟨by omega, trivial⟩)
    have l20_8 := PxS.lt (later e_w11 s8)
    refine wl_storeSm [[.bool adrI.six], adrI.b.map byteV] hr size25 (later e_w11 s7) (Is.conv s24 rfl) (by rfl) (by decide) rfl ?_; clear hr; intro a20 w20 hc hu hr hs
    have hb : Below w.heap.size w19 w20 := hc.below e_w.size l20.1
    revert s8; revert s7; revert s2; revert s1; revert s0; refine kp5 hs rfl ?_; intro s0 s1 s2 s7 s8
    clear s24
    replace s7 := hu _ _ _ (later e_w11 s7)
    try simp only [List.set_cons_zero, List.set_cons_succ] at s7
    replace s8 := PxS.other (later e_w11 s8) hc (by omega)
    replace e_w := e_w.below (Nat.le_refl _) hb
    clear e_w11
    replace m16 := m16.tr hs rfl
    clear hu hs hc hb
    refine wpList_nil ?_
    refine exit_then ?_
    refine wp_reg 83 [[]] [?b21_0] mixed hr ?t21 ?o21 ?_
    case o21 =>
     refine oc0 (fun A W hx hf => ?_) ?_
     exact ok_assignc
     exact OpsOk.nil
    case t21 => exact inferInstance
    clear hr; intro a22 w22 x hr hd hs
    revert s8; revert s7; revert s2; revert s1; revert s0; refine kp5 hs rfl ?_; intro s0 s1 s2 s7 s8
    have s9 := fa ?b21_0 a22 w22 9 (hd 0 9 rfl)
    replace e_w := e_w.trans x
    have e_w20 := x
    replace m16 := m16.tr hs rfl
    clear hd hs x
    refine exit_then ?_
    refine ⟨hr, m16, e_w, ?_, ?_, ?_⟩
    · first | exact (later e_w20 s7) | exact PxS.cast (later e_w20 s7) rfl | exact Is.int (later e_w20 s7) rfl
    · first | exact (later e_w20 s8) | exact PxS.cast (later e_w20 s8) rfl | exact Is.int (later e_w20 s8) rfl
    · first | exact s9 | exact PxS.cast s9 rfl | exact Is.int s9 rfl
   ·
    subst hb
    refine wp_skip ?_
    refine exit_then ?_
    refine ⟨hr, m16, e_w, ?_, ?_, ?_⟩
    · first | exact (later e_w11 s7) | exact PxS.cast (later e_w11 s7) rfl | exact Is.int (later e_w11 s7) rfl
    · first | exact (later e_w11 s8) | exact PxS.cast (later e_w11 s8) rfl | exact Is.int (later e_w11 s8) rfl
    · first | exact (later e_w13 s9) | exact PxS.cast (later e_w13 s9) rfl | exact Is.int (later e_w13 s9) rfl
  intro a16 w16 hI
  clear e_w
  clear e_w11
  clear e_w13
  clear hr; obtain ⟨hr, hs, e_w, u7, u8, u9⟩ := hI
  revert s2; revert s1; revert s0; refine kp3 hs rfl ?_; intro s0 s1 s2
  clear s7 s8 s9 s22
  have s7 := u7; clear u7
  have s8 := u8; clear u8
  have s9 := u9; clear u9
  clear hs
  refine wp_seq ?_
  refine wp_reg 83 [[]] [?b23_0] mixed hr ?t23 ?o23 ?_
  case o23 =>
   refine oc0 (fun A W hx hf => ?_) ?_
   exact ok_assignc
   exact OpsOk.nil
  case t23 => exact inferInstance
  clear hr; intro a24 w24 x hr hd hs
  revert s9; revert s8; revert s7; revert s2; revert s1; revert s0; refine kp6 hs rfl ?_; intro s0 s1 s2 s7 s8 s9
  have s10 := fa ?b23_0 a24 w24 10 (hd 0 10 rfl)
  replace e_w := e_w.trans x
  have e_w16 := x
  clear hd hs x
  refine exit_then ?_
  refine wp_seq ?_
  refine wp_reg 83 [[]] [?b25_0] mixed hr ?t25 ?o25 ?_
  case o25 =>
   refine oc0 (fun A W hx hf => ?_) ?_
   exact ok_assignc
   exact OpsOk.nil
  case t25 => exact inferInstance
  clear hr; intro a26 w26 x hr hd hs
  revert s9; revert s8; revert s7; revert s2; revert s1; revert s0; refine kp6 hs rfl ?_; intro s0 s1 s2 s7 s8 s9
  revert s10; refine kp1 hs rfl ?_; intro s10
  have s11 := fa ?b25_0 a26 w26 11 (hd 0 11 rfl)
  replace e_w := e_w.trans x
  replace e_w16 := e_w16.trans x
  have e_w24 := x
  clear hd hs x
  refine exit_then ?_
  refine wp_seq ?_
  refine wp_seq ?_
  refine wp_reg 83 [[(2, none)]] [?b27_0] mixed hr ?t27 ?o27 ?_
  case o27 =>
   refine oc0 (fun A W hx hf => ?_) ?_
   exact ok_movE (a0 := a26) (r0 hf)
   exact OpsOk.nil
  case t27 => exact inferInstance
  clear hr; intro a28 w28 x hr hd hs
  have u25 := mv s2 (fa ?b27_0 a28 w28 25 (hd 0 25 rfl))
  revert s10; revert s9; revert s8; revert s7; revert s1; revert s0; refine kp6 hs rfl ?_; intro s0 s1 s7 s8 s9 s10
  revert s11; refine kp1 hs rfl ?_; intro s11
  clear s2
  have s25 := u25; clear u25
  replace e_w := e_w.trans x
  replace e_w16 := e_w16.trans x
  replace e_w24 := e_w24.trans x
  have e_w26 := x
  clear hd hs x
  refine exit_then ?_
  refine wp_cut (fun A W => Fr 83 A ∧ Same D_law_TunnelLong_1 a28 A ∧ Ext w W ∧ (PxS g7_7 w.heap.size [1, 16] [[.bool (inA b).six], (inA b).b.map byteV] 0) (A.eval (.tmp 7)) W ∧ (PxS g10_8 w.heap.size [1, 16] [[.bool (inA c).six], (inA c).b.map byteV] 0) (A.eval (.tmp 8)) W ∧ (Is (.int .i64 (headN c : Int))) (A.eval (.tmp 10)) W ∧ (Is (.int .i64 (if c then 65535 else 65515))) (A.eval (.tmp 11)) W) ?cut29 ?_
  case cut29 =>
   have m29 : Same D_law_TunnelLong_1 a28 a28 := Same.rfl
   refine wp_cond_split (show _ = _ from s25) (fun hc9 => ?_) (fun hc9 => ?_)
   ·
    subst hc9
    refine wp_seq ?_
    refine wp_reg_pre (l := [_, _]) (rest := [_]) 83 [[], [(26, some 0)]] [?b31_0, ?b31_1] hr ?t31 ?o31 ?_
    case o31 =>
     refine oc0 (fun A W hx hf => ?_) ?_
     exact ok_buildArr [1, 0, 0, 0, 0, 0, 0, 0, 0, 0, 0, 0, 0, 0, 0, 0] [(0, (.int .u8 1))] rfl (by kernel_rfl)
     refine oc0 (fun A W hx hf => ?_) ?_
     exact ok_buildS [(0, (.const (.bool true))), (1, (.tmp 26))] [(0, _), (1, _)] lay25 rfl (PartsC.one (ec A (.bool true)) rfl (PartsC.agg (q0 ?b31_0 A W 26 hf) (PartsC.nil))) (by first | rfl | simp [adrCells, *])
     exact OpsOk.nil
    case t31 => exact inferInstance
    clear hr; intro a32 w32 x hr hd hs
    revert s9; revert s8; revert s7; revert s1; revert s0; refine kp5 hs rfl ?_; intro s0 s1 s7 s8 s9
    clear s10 s11 s25
    have s27 := fa ?b31_1 a32 w32 27 (hd 1 27 rfl)
    replace e_w := e_w.trans x
    replace e_w16 := e_w16.trans x
    clear e_w24
    clear e_w26
    replace m29 := m29.tr hs rfl
    clear hd hs x
    have z33 := PxS.lt (later e_w16 s8)
    have l33 := (show (g10_8 = 0 ∨ w.heap.size < g10_8) ∧ True from ⟨by omega, trivial⟩)
    have l33_7 := PxS.lt (later e_w16 s7)
    refine wl_storeSm [[.bool adrI.six], adrI.b.map byteV] hr size25 (later e_w16 s8) (Is.conv s27 rfl) (by rfl) (by decide) rfl ?_; clear hr; intro a33 w33 hc hu hr hs
    have hb : Below w.heap.size w32 w33 := hc.below e_w.size l33.1
    revert s9; revert s8; revert s7; revert s1; revert s0; refine kp5 hs rfl ?_; intro s0 s1 s7 s8 s9
    clear s27
    replace s7 := PxS.other (later e_w16 s7) hc (by omega)
    replace s8 := hu _ _ _ (later e_w16 s8)
    try simp only [List.set_cons_zero, List.set_cons_succ] at s8
    replace e_w := e_w.below (Nat.le_refl _) hb
    clear e_w16
    replace s9 := anyw (w2 := w33) s9
    replace m29 := m29.tr hs rfl
    clear hu hs hc hb
    refine wpList_nil ?_
    refine exit_then ?_
    refine wp_seq ?_
    refine wp_reg 83 [[]] [?b34_0] mixed hr ?t34 ?o34 ?_
    case o34 =>
     refine oc0 (fun A W hx hf => ?_) ?_
     exact ok_assignc
     exact OpsOk.nil
    case t34 => exact inferInstance
    clear hr; intro a35 w35 x hr hd hs
    revert s9; revert s8; revert s7; revert s1; revert s0; refine kp5 hs rfl ?_; intro s0 s1 s7 s8 s9
    have s10 := fa ?b34_0 a35 w35 10 (hd 0 10 rfl)
    replace e_w := e_w.trans x
    have e_w33 := x
    replace m29 := m29.tr hs rfl
    clear hd hs x
    refine exit_then ?_
    refine wp_reg 83 [[]] [?b36_0] mixed hr ?t36 ?o36 ?_
    case o36 =>
     refine oc0 (fun A W hx hf => ?_) ?_
     exact ok_assignc
     exact OpsOk.nil
    case t36 => exact inferInstance
    clear hr; intro a37 w37 x hr hd hs
    revert s10; revert s9; revert s8; revert s7; revert s1; revert s0; refine kp6 hs rfl ?_; intro s0 s1 s7 s8 s9 s10
    have s11 := fa ?b36_0 a37 w37 11 (hd 0 11 rfl)
    replace e_w := e_w.trans x
    replace e_w33 := e_w33.trans x
    have e_w35 := x
    replace m29 := m29.tr hs rfl
    clear hd hs x
    refine exit_then ?_
    refine ⟨hr, m29, e_w, ?_, ?_, ?_, ?_⟩
    · first | exact (later e_w33 s7) | exact PxS.cast (later e_w33 s7) rfl | exact Is.int (later e_w33 s7) rfl
    · first | exact (later e_w33 s8) | exact PxS.cast (later e_w33 s8) rfl | exact Is.int (later e_w33 s8) rfl
    · first | exact (later e_w35 s10) | exact PxS.cast (later e_w35 s10) rfl | exact Is.int (later e_w35 s10) rfl
    · first | exact s11 | exact PxS.cast s11 rfl | exact Is.int s11 rfl
   ·
    subst hc9
    refine wp_skip ?_
    refine exit_then ?_
    refine ⟨hr, m29, e_w, ?_, ?_, ?_, ?_⟩
    · first | exact (later e_w16 s7) | exact PxS.cast (later e_w16 s7) rfl | exact Is.int (later e_w16 s7) rfl
    · first | exact (later e_w16 s8) | exact PxS.cast (later e_w16 s8) rfl | exact Is.int (later e_w16 s8) rfl
    · first | exact (later e_w24 s10) | exact PxS.cast (later e_w24 s10) rfl | exact Is.int (later e_w24 s10) rfl
    · first | exact (later e_w26 s11) | exact PxS.cast (later e_w26 s11) rfl | exact Is.int (later e_w26 s11) rfl
  intro a29 w29 hI
  clear e_w
  clear e_w16
  clear e_w24
  clear e_w26
  clear hr; obtain ⟨hr, hs, e_w, u7, u8, u10, u11⟩ := hI
  revert s9; revert s1; revert s0; refine kp3 hs rfl ?_; intro s0 s1 s9
  clear s7 s8 s10 s11 s25
  have s7 := u7; clear u7
  have s8 := u8; clear u8
  have s10 := u10; clear u10
  have s11 := u11; clear u11
  replace s9 := anyw (w2 := w29) s9
  clear hs
  refine wp_seq ?_
  refine wp_reg 83 [[(0, none)], [(28, some 0)], [(29, some 1)], [(30, some 2)], [(31, some 3)]] [?b38_0, ?b38_1, ?b38_2, ?b38_3, ?b38_3] mixed hr ?t38 ?o38 ?_
  case o38 =>
   refine oc0 (fun A W hx hf => ?_) ?_
   exact ok_movE (a0 := a29) (r0 hf)
   refine oc0 (fun A W hx hf => ?_) ?_
   exact ok_rem (by decide) (p2 s0 e_w hx (q0 ?b38_0 A W 28 hf)) (ec A (.int .u16 96))
   refine oc0 (fun A W hx hf => ?_) ?_
   exact ok_convI Try.underlying48 Try.underlying3 (by rw [hKq]; exact IntWalk.i64_in _ (by omega)) (q0 ?b38_1 A W 29 hf)
   refine oc0 (fun A W hx hf => ?_) ?_
   exact ok_addI (ec A (.int .i64 65480)) (q0 ?b38_2 A W 30 hf) (by rw [hKq]; omega)
   refine oc0 (fun A W hx hf => ?_) ?_
   exact ok_assign (q0 ?b38_3 A W 31 hf)
   exact OpsOk.nil
  case t38 => exact inferInstance
  clear hr; intro a39 w39 x hr hd hs
  revert s9; revert s11; revert s10; revert s8; revert s7; revert s1; refine kp6 hs rfl ?_; intro s1 s7 s8 s10 s11 s9
  clear s0
  have s12 := fa ?b38_3 a39 w39 12 (hd 4 12 rfl)
  replace e_w := e_w.trans x
  have e_w29 := x
  clear hd hs x
  replace s12 := Is.int s12 (show _ = (65480 + (K : Int) : Int) from by rw [hKq])
  refine exit_then ?_
  refine wp_seq ?_
  refine wp_seq ?_
  refine wp_reg 83 [[(1, none)], [(32, some 0)], [(33, some 1)], [(12, none), (34, some 2)], [(35, some 3), (34, some 2)], [(34, some 2), (36, some 4)]] [?b40_0, ?b40_1, ?b40_1, ?b40_3, ?b40_4, ?b40_5] mixed hr ?t40 ?o40 ?_
  case o40 =>
   refine oc0 (fun A W hx hf => ?_) ?_
   exact ok_movE (a0 := a39) (r0 hf)
   refine oc0 (fun A W hx hf => ?_) ?_
   exact ok_not (p2 s1 e_w hx (q0 ?b40_0 A W 32 hf))
   refine oc0 (fun A W hx hf => ?_) ?_
   exact ok_move (q0 ?b40_1 A W 33 hf)
   refine ocg 34 ?_ (fun A W hx hf => ?_) ?_
   rfl
   exact gd_t (q1 ?b40_1 A W 34 hf) (fun hc => ok_movE (a0 := a39) (r0 hf))
   refine ocg 34 ?_ (fun A W hx hf => ?_) ?_
   rfl
   exact gd_t (q1 ?b40_1 A W 34 hf) (fun hc => ok_gtr (p1 s12 hx (G.get (q0 ?b40_3 A W 35 hf) hc)) (ec A (.int .i64 65535)))
   refine oc0 (fun A W hx hf => ?_) ?_
   exact ok_and (q0 ?b40_1 A W 34 hf) (q1 ?b40_4 A W 36 hf)
   exact OpsOk.nil
  case t40 => exact inferInstance
  clear hr; intro a41 w41 x hr hd hs
  revert s12; revert s9; revert s11; revert s10; revert s8; revert s7; refine kp6 hs rfl ?_; intro s7 s8 s10 s11 s9 s12
  clear s1
  have s37 := fa ?b40_5 a41 w41 37 (hd 5 37 rfl)
  replace e_w := e_w.trans x
  replace e_w29 := e_w29.trans x
  have e_w39 := x
  clear hd hs x
  refine exit_then ?_
  refine wp_cond_split (show _ = _ from s37) (fun hg => ?_) (fun hg => ?_)
  ·
   skip
   refine wp_seq ?_
   refine wp_reg 83 [[]] [?b43_0] mixed hr ?t43 ?o43 ?_
   case o43 =>
    refine oc0 (fun A W hx hf => ?_) ?_
    exact ok_assignc
    exact OpsOk.nil
   case t43 => exact inferInstance
   clear hr; intro a44 w44 x hr hd hs
   clear s7 s8 s10 s11 s9 s12 s37
   have s6 := fa ?b43_0 a44 w44 6 (hd 0 6 rfl)
   replace e_w := e_w.trans x
   clear e_w29
   clear e_w39
   clear hd hs x
   refine exit_then ?_
   refine wp_ret ?_
   refine then_ret ?_
   refine ret_tmp Try.results7 hr e_w ?_
   first | with_reducible exact s6 | exact Is.bool s6 (by rw [hw4]; rfl) | exact Is.bool s6 (by rw [ll, w0, w1]; simp)
  ·
   have hg9 : b = true ∨ 65480 + K ≤ 65535 := by cases b <;> simp at hg ⊢; omega
   obtain ⟨lo, lt, la, ll⟩ := long_cut (b := b) (K := K) hKl hg9
   refine wp_skip ?_
   refine exit_then ?_
   refine wp_seq ?_
   refine wp_reg 83 [[], [(7, none)], [(7, none)], [(39, some 1), (40, some 2)], [(12, none)], [(9, none)], [(42, some 4), (43, some 5)], [(44, some 6)], [(45, some 7)], [(38, some 0), (41, some 3), (46, some 8)], [(47, some 9)]] [?b45_0, ?b45_1, ?b45_2, ?b45_3, ?b45_4, ?b45_5, ?b45_6, ?b45_7, ?b45_8, ?b45_9, ?b45_9] mixed hr ?t45 ?o45 ?_
   case o45 =>
    refine oc0 (fun A W hx hf => ?_) ?_
    exact ok_build0 built41
    refine oc0 (fun A W hx hf => ?_) ?_
    exact ok_loadAggS 2 Try.underlying25 rfl size25 (o2 s7 e_w29 hx (r0 hf)) rfl
    refine oc0 (fun A W hx hf => ?_) ?_
    exact ok_loadAggS 2 Try.underlying25 rfl size25 (o2 s7 e_w29 hx (r0 hf)) rfl
    refine oc0 (fun A W hx hf => ?_) ?_
    exact ok_buildS [(0, (.tmp 39)), (1, (.tmp 40)), (2, (.const (.int .i64 17)))] [(0, _), (1, _), (2, _)] lay51 rfl (PartsC.agg (q0 ?b45_1 A W 39 hf) (PartsC.agg (q1 ?b45_2 A W 40 hf) (PartsC.one (ec A (.int .i64 17)) rfl (PartsC.nil)))) (by simp [inA_len])
    refine oc0 (fun A W hx hf => ?_) ?_
    exact ok_movE (a0 := a41) (r0 hf)
    refine oc0 (fun A W hx hf => ?_) ?_
    exact ok_movE (a0 := a41) (r0 hf)
    refine oc0 (fun A W hx hf => ?_) ?_
    exact ok_subI (p2 s12 e_w39 hx (q0 ?b45_4 A W 42 hf)) (p2 s9 e_w29 hx (q1 ?b45_5 A W 43 hf)) (by omega)
    refine oc0 (fun A W hx hf => ?_) ?_
    exact ok_subI (q0 ?b45_6 A W 44 hf) (ec A (.int .i64 8)) (by omega)
    refine oc0 (fun A W hx hf => ?_) ?_
    exact ok_makeBs (n := 65480 + K - headN b - 8) Try.underlying22 info5 (Is.int (q0 ?b45_7 A W 45 hf) (show _ = ((65480 + K - headN b - 8 : Nat) : Int) from by omega)) (Is.int (q0 ?b45_7 A W 45 hf) (show _ = ((65480 + K - headN b - 8 : Nat) : Int) from by omega)) (by omega) hx.size
    refine oc0 (fun A W hx hf => ?_) ?_
    exact ok_call4 body18 (c_r11Make (LinkV.of (show Is (LnkA link0 (.slice none 0 0)) _ _ from Is.conv (q0 ?b45_0 A W 38 hf) rfl) rw_nil) (show Is (TupV (tupB b)) _ _ from Is.conv (q1 ?b45_3 A W 41 hf) (by cases b <;> rfl)) (show Is (.int .i64 0) (A.eval (.const (.int .i64 0))) _ from rfl) (OwnB.bs (q2 ?b45_8 A W 46 hf)) (by exact ⟨rfl, rfl⟩) (by exact tupB_ok b) (by exact long_r b) (by exact long_m b) (by exact long_n9 hKl hg9) hx.size)
    refine oc0 (fun A W hx hf => ?_) ?_
    exact ok_assign (q0 ?b45_9 A W 47 hf)
    exact OpsOk.nil
   case t45 => exact inferInstance
   clear hr; intro a46 w46 x hr hd hs
   have z_w_w41 := e_w.size
   have z_w29_w41 := e_w29.size
   have z_w39_w41 := e_w39.size
   have l46_7 := PxS.lt (later e_w29 s7)
   have l46_8 := PxS.lt (later e_w29 s8)
   revert s12; revert s11; revert s10; revert s8; refine kp4 hs rfl ?_; intro s8 s10 s11 s12
   clear s7 s9 s37
   have s13 := fa ?b45_9 a46 w46 13 (hd 10 13 rfl)
   obtain ⟨g46_13, q46_13⟩ := OwnB.at s13; clear s13; have n46_13 := OwnBA.lt q46_13
   replace q46_13 := OwnBA.mono q46_13 e_w.size
   have s13 := q46_13; clear q46_13
   replace e_w := e_w.trans x
   replace e_w29 := e_w29.trans x
   replace e_w39 := e_w39.trans x
   clear hd hs x
   replace s13 := OwnBA.cast s13 (show _ = longX b K from rfl)
   refine exit_then ?_
   refine wp_seq ?_
   refine wp_reg 83 [[(13, none)], [(8, none)], [(8, none)], [(49, some 0), (50, some 1), (51, some 2)], [(52, some 3)], [(48, some 4)], [(48, some 4)], [(53, some 5)], [(54, some 6)]] [?b47_0, ?b47_1, ?b47_2, ?b47_3, ?b47_3, ?b47_5, ?b47_6, ?b47_5, ?b47_6] mixed hr ?t47 ?o47 ?_
   case o47 =>
    refine oc0 (fun A W hx hf => ?_) ?_
    exact ok_movE (a0 := a46) (r0 hf)
    refine oc0 (fun A W hx hf => ?_) ?_
    exact ok_loadAggS 2 Try.underlying25 rfl size25 (o2 s8 e_w29 hx (r0 hf)) rfl
    refine oc0 (fun A W hx hf => ?_) ?_
    exact ok_loadAggS 2 Try.underlying25 rfl size25 (o2 s8 e_w29 hx (r0 hf)) rfl
    refine oc0 (fun A W hx hf => ?_) ?_
    exact ok_call3 body10 (c_tWrap (OwnBA.bs (p1 s13 hx (q0 ?b47_0 A W 49 hf))) (Is.conv (q1 ?b47_1 A W 50 hf) (adr_seg (inA c))) (Is.conv (q2 ?b47_2 A W 51 hf) (adr_seg (inA c))) (by exact inA_len c) (by exact inA_len c) (by omega) hx.size)
    refine oc0 (fun A W hx hf => ?_) ?_
    exact ok_move (q0 ?b47_3 A W 52 hf)
    refine oc0 (fun A W hx hf => ?_) ?_
    exact ok_ext0 (q0 ?b47_3 A W 48 hf)
    refine oc0 (fun A W hx hf => ?_) ?_
    exact ok_ext1 (q0 ?b47_3 A W 48 hf)
    refine oc0 (fun A W hx hf => ?_) ?_
    exact ok_assign (q0 ?b47_5 A W 53 hf)
    refine oc0 (fun A W hx hf => ?_) ?_
    exact ok_assign (q0 ?b47_6 A W 54 hf)
    exact OpsOk.nil
   case t47 => exact inferInstance
   clear hr; intro a48 w48 x hr hd hs
   have z_w_w46 := e_w.size
   have z_w29_w46 := e_w29.size
   have z_w39_w46 := e_w39.size
   have l48_8 := PxS.lt (later e_w29 s8)
   have l48_13 := OwnBA.lt s13
   revert s13; revert s12; revert s11; revert s10; refine kp4 hs rfl ?_; intro s10 s11 s12 s13
   clear s8
   have s14 := fa ?b47_5 a48 w48 14 (hd 7 14 rfl)
   have s15 := fa ?b47_6 a48 w48 15 (hd 8 15 rfl)
   obtain ⟨g48_14, q48_14⟩ := OwnB.at s14; clear s14; have n48_14 := OwnBA.lt q48_14
   replace q48_14 := OwnBA.mono q48_14 e_w.size
   have s14 := q48_14; clear q48_14
   replace e_w := e_w.trans x
   replace e_w29 := e_w29.trans x
   replace e_w39 := e_w39.trans x
   have e_w46 := x
   clear hd hs x
   refine exit_then ?_
   refine wp_seq ?_
   refine wp_seq ?_
   refine wp_reg 83 [[(12, none)], [(11, none)], [(55, some 0), (56, some 1)]] [?b49_0, ?b49_1, ?b49_2] mixed hr ?t49 ?o49 ?_
   case o49 =>
    refine oc0 (fun A W hx hf => ?_) ?_
    exact ok_movE (a0 := a48) (r0 hf)
    refine oc0 (fun A W hx hf => ?_) ?_
    exact ok_movE (a0 := a48) (r0 hf)
    refine oc0 (fun A W hx hf => ?_) ?_
    exact ok_gtr (p2 s12 e_w39 hx (q0 ?b49_0 A W 55 hf)) (p2 s11 e_w29 hx (q1 ?b49_1 A W 56 hf))
    exact OpsOk.nil
   case t49 => exact inferInstance
   clear hr; intro a50 w50 x hr hd hs
   revert s14; revert s15; revert s13; revert s12; revert s10; refine kp5 hs rfl ?_; intro s10 s12 s13 s15 s14
   clear s11
   have s57 := fa ?b49_2 a50 w50 57 (hd 2 57 rfl)
   replace e_w := e_w.trans x
   replace e_w29 := e_w29.trans x
   replace e_w39 := e_w39.trans x
   replace e_w46 := e_w46.trans x
   have e_w48 := x
   clear hd hs x
   refine exit_then ?_
   refine wp_cond_split (show _ = _ from s57) (fun hk => ?_) (fun hk => ?_)
   ·
    have hk : 65480 + (K : Int) > (if c then 65535 else 65515) := by simpa using hk
    have hw4 := long_4 hKl hg9 hk
    refine wp_seq ?_
    refine wp_reg 83 [[(15, none)], [(58, some 0)], [(59, some 1)], [(14, none), (60, some 2)], [(61, some 3), (60, some 2)], [(62, some 4), (60, some 2)], [(60, some 2), (63, some 5)], [(64, some 6)]] [?b52_0, ?b52_1, ?b52_1, ?b52_3, ?b52_4, ?b52_5, ?b52_6, ?b52_6] mixed hr ?t52 ?o52 ?_
    case o52 =>
     refine oc0 (fun A W hx hf => ?_) ?_
     exact ok_movE (a0 := a50) (r0 hf)
     refine oc0 (fun A W hx hf => ?_) ?_
     exact ok_eql (p2 s15 e_w48 hx (q0 ?b52_0 A W 58 hf)) (ec A (.int .i64 4))
     refine oc0 (fun A W hx hf => ?_) ?_
     exact ok_move (q0 ?b52_1 A W 59 hf)
     refine ocg 60 ?_ (fun A W hx hf => ?_) ?_
     rfl
     exact gd_t (q1 ?b52_1 A W 60 hf) (fun hc => ok_movE (a0 := a50) (r0 hf))
     refine ocg 60 ?_ (fun A W hx hf => ?_) ?_
     rfl
     exact gd_t (q1 ?b52_1 A W 60 hf) (fun hc => ok_len_bs Try.underlying22 (OwnBA.bs (p2 s14 e_w48 hx (G.get (q0 ?b52_3 A W 61 hf) hc))))
     refine ocg 60 ?_ (fun A W hx hf => ?_) ?_
     rfl
     exact gd_t (q1 ?b52_1 A W 60 hf) (fun hc => ok_eql (G.get (q0 ?b52_4 A W 62 hf) hc) (ec A (.int .i64 0)))
     refine oc0 (fun A W hx hf => ?_) ?_
     exact ok_and (q0 ?b52_1 A W 60 hf) (q1 ?b52_5 A W 63 hf)
     refine oc0 (fun A W hx hf => ?_) ?_
     exact ok_assign (q0 ?b52_6 A W 64 hf)
     exact OpsOk.nil
    case t52 => exact inferInstance
    clear hr; intro a53 w53 x hr hd hs
    clear s10 s12 s13 s15 s14 s57
    have s6 := fa ?b52_6 a53 w53 6 (hd 7 6 rfl)
    replace e_w := e_w.trans x
    clear e_w29
    clear e_w39
    clear e_w46
    clear e_w48
    clear hd hs x
    refine exit_then ?_
    refine wp_ret ?_
    refine then_ret ?_
    refine ret_tmp Try.results7 hr e_w ?_
    first | with_reducible exact s6 | exact Is.bool s6 (by rw [hw4]; rfl) | exact Is.bool s6 (by rw [ll, w0, w1]; simp)
   ·
    have hk : ¬ 65480 + (K : Int) > (if c then 65535 else 65515) := by simpa using hk
    obtain ⟨w0, w1⟩ := long_0 hKl hg9 hk
    have hhc := headN_bd c
    refine wp_skip ?_
    refine exit_then ?_
    refine wp_seq ?_
    refine wp_reg 83 [[(13, none)], [(65, some 0)], [(12, none)], [(67, some 2)], [(66, some 1), (68, some 3)], [(69, some 4)], [(15, none), (70, some 5)], [(71, some 6), (70, some 5)], [(70, some 5), (72, some 7)], [(73, some 8)], [(14, none), (74, some 9)], [(75, some 10), (74, some 9)], [(10, none), (74, some 9)], [(77, some 12), (74, some 9)], [(12, none), (74, some 9)], [(78, some 13), (79, some 14), (74, some 9)], [(76, some 11), (80, some 15), (74, some 9)], [(74, some 9), (81, some 16)], [(82, some 17)]] [?b54_0, ?b54_1, ?b54_2, ?b54_3, ?b54_4, ?b54_4, ?b54_6, ?b54_7, ?b54_8, ?b54_8, ?b54_10, ?b54_11, ?b54_12, ?b54_13, ?b54_14, ?b54_15, ?b54_16, ?b54_17, ?b54_17] mixed hr ?t54 ?o54 ?_
    case o54 =>
     refine oc0 (fun A W hx hf => ?_) ?_
     exact ok_movE (a0 := a50) (r0 hf)
     refine oc0 (fun A W hx hf => ?_) ?_
     exact ok_len_bs Try.underlying22 (OwnBA.bs (p2 s13 e_w46 hx (q0 ?b54_0 A W 65 hf)))
     refine oc0 (fun A W hx hf => ?_) ?_
     exact ok_movE (a0 := a50) (r0 hf)
     refine oc0 (fun A W hx hf => ?_) ?_
     exact ok_addI (ec A (.int .i64 14)) (p2 s12 e_w39 hx (q0 ?b54_2 A W 67 hf)) (by omega)
     refine oc0 (fun A W hx hf => ?_) ?_
     exact ok_eql (q0 ?b54_1 A W 66 hf) (q1 ?b54_3 A W 68 hf)
     refine oc0 (fun A W hx hf => ?_) ?_
     exact ok_move (q0 ?b54_4 A W 69 hf)
     refine ocg 70 ?_ (fun A W hx hf => ?_) ?_
     rfl
     exact gd_t (q1 ?b54_4 A W 70 hf) (fun hc => ok_movE (a0 := a50) (r0 hf))
     refine ocg 70 ?_ (fun A W hx hf => ?_) ?_
     rfl
     exact gd_t (q1 ?b54_4 A W 70 hf) (fun hc => ok_eql (p2 s15 e_w48 hx (G.get (q0 ?b54_6 A W 71 hf) hc)) (ec A (.int .i64 0)))
     refine oc0 (fun A W hx hf => ?_) ?_
     exact ok_and (q0 ?b54_4 A W 70 hf) (q1 ?b54_7 A W 72 hf)
     refine oc0 (fun A W hx hf => ?_) ?_
     exact ok_move (q0 ?b54_8 A W 73 hf)
     refine ocg 74 ?_ (fun A W hx hf => ?_) ?_
     rfl
     exact gd_t (q1 ?b54_8 A W 74 hf) (fun hc => ok_movE (a0 := a50) (r0 hf))
     refine ocg 74 ?_ (fun A W hx hf => ?_) ?_
     rfl
     exact gd_t (q1 ?b54_8 A W 74 hf) (fun hc => ok_len_bs Try.underlying22 (OwnBA.bs (p2 s14 e_w48 hx (G.get (q0 ?b54_10 A W 75 hf) hc))))
     refine ocg 74 ?_ (fun A W hx hf => ?_) ?_
     rfl
     exact gd_t (q1 ?b54_8 A W 74 hf) (fun hc => ok_movE (a0 := a50) (r0 hf))
     refine ocg 74 ?_ (fun A W hx hf => ?_) ?_
     rfl
     exact gd_t (q1 ?b54_8 A W 74 hf) (fun hc => ok_addI (ec A (.int .i64 14)) (p2 s10 e_w29 hx (G.get (q0 ?b54_12 A W 77 hf) hc)) (by omega))
     refine ocg 74 ?_ (fun A W hx hf => ?_) ?_
     rfl
     exact gd_t (q1 ?b54_8 A W 74 hf) (fun hc => ok_movE (a0 := a50) (r0 hf))
     refine ocg 74 ?_ (fun A W hx hf => ?_) ?_
     rfl
     exact gd_t (q2 ?b54_8 A W 74 hf) (fun hc => ok_addI (G.get (q0 ?b54_13 A W 78 hf) hc) (p2 s12 e_w39 hx (G.get (q1 ?b54_14 A W 79 hf) hc)) (by omega))
     refine ocg 74 ?_ (fun A W hx hf => ?_) ?_
     rfl
     exact gd_t (q2 ?b54_8 A W 74 hf) (fun hc => ok_eql (G.get (q0 ?b54_11 A W 76 hf) hc) (G.get (q1 ?b54_15 A W 80 hf) hc))
     refine oc0 (fun A W hx hf => ?_) ?_
     exact ok_and (q0 ?b54_8 A W 74 hf) (q1 ?b54_16 A W 81 hf)
     refine oc0 (fun A W hx hf => ?_) ?_
     exact ok_assign (q0 ?b54_17 A W 82 hf)
     exact OpsOk.nil
    case t54 => exact inferInstance
    clear hr; intro a55 w55 x hr hd hs
    clear s10 s12 s13 s15 s14 s57
    have s6 := fa ?b54_17 a55 w55 6 (hd 18 6 rfl)
    replace e_w := e_w.trans x
    clear e_w29
    clear e_w39
    clear e_w46
    clear e_w48
    clear hd hs x
    refine exit_then ?_
    refine wp_ret ?_
    refine ret_tmp Try.results7 hr e_w ?_
    first | with_reducible exact s6 | exact Is.bool s6 (by rw [hw4]; rfl) | exact Is.bool s6 (by rw [ll, w0, w1]; simp)

end Go.Proofs.Ytnlmppannjebfaa
