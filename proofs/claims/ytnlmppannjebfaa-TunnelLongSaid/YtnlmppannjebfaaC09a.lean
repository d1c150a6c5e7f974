import Derived.Test.YtnlmppannjebfaaC01
import Derived.Test.YtnlmppannjebfaaC06
import Derived.Test.YtnlmppannjebfaaS09
namespace Go.Proofs.Ytnlmppannjebfaa
open Go.RowKit
set_option linter.unusedVariables false
set_option linter.unusedSimpArgs false
set_option maxRecDepth 4000
theorem c_xtwo {x0 x1 : Value} {w : World} {l : List UInt8} {z : Int} (h0 : (Bs l) x0 w) (h1 : (Is (.int .i64 z)) x1 w) (hz0 : 0 ≤ z) (hz1 : z.toNat + 2 ≤ l.length) :
    Calls Try.prog 71 #[x0, x1] w (Ret (Is (.int .i64 (wordAt l z.toNat))) w) := by
 have hlen := Bs.len_le h0
 obtain ⟨i, rfl⟩ : ∃ i : Nat, z = (i : Int) := ⟨z.toNat, by omega⟩
 simp only [Int.toNat_natCast] at hz1 ⊢
 have hbe := be_two hz1
 have hw := wordAt_bd l i
 have h8 : (subl l i (i + 2)).take 8 = subl l i (i + 2) := List.take_of_length_le (by simp [subl]; omega)
 refine enter Try.func71 rfl Try.ntmps71 (k := 2) rfl (by decide) (fun a0 hr hargs => ?_)
 have s0 := sarg h0 (hargs 0 (by decide))
 have s1 := sarg h1 (hargs 1 (by decide))
 clear hargs
 refine wp_seq ?_
 refine wp_reg 12 [[]] [?b1_0] mixed hr ?t1 ?o1 ?_
 case o1 =>
  refine oc0 (fun A W hx hf => ?_) ?_
  exact ok_assignc
  exact OpsOk.nil
 case t1 => exact inferInstance
 clear hr; intro a2 w2 x hr hd hs
 revert s1; revert s0; refine kp2 hs rfl ?_; intro s0 s1
 have e_w := x
 clear hd hs x
 refine exit_then ?_
 refine wp_seq ?_
 refine wp_reg 12 [[(0, none)], [(1, none)], [(1, none)], [(7, some 2)], [(5, some 0), (6, some 1), (8, some 3)], [(9, some 4)], [(10, some 5)], [(11, some 6)]] [?b3_0, ?b3_1, ?b3_2, ?b3_3, ?b3_4, ?b3_5, ?b3_6, ?b3_6] mixed hr ?t3 ?o3 ?_
 case o3 =>
  refine oc0 (fun A W hx hf => ?_) ?_
  exact ok_movE (a0 := a2) (r0 hf)
  refine oc0 (fun A W hx hf => ?_) ?_
  exact ok_movE (a0 := a2) (r0 hf)
  refine oc0 (fun A W hx hf => ?_) ?_
  exact ok_movE (a0 := a2) (r0 hf)
  refine oc0 (fun A W hx hf => ?_) ?_
  exact ok_addI (p2 s1 e_w hx (q0 ?b3_2 A W 7 hf)) (ec A (.int .i64 2)) (by omega)
  refine oc0 (fun A W hx hf => ?_) ?_
  exact ok_slice_lh (i) (i + 2) Try.underlying22 size5 (p2 s0 e_w hx (q0 ?b3_0 A W 5 hf)) (p2 s1 e_w hx (q1 ?b3_1 A W 6 hf)) (Is.int (q2 ?b3_3 A W 8 hf) (by omega)) (by first | omega | decide | (simp; done) | (simp; omega)) (by first | omega | decide | (simp; done) | (simp; omega))
  refine oc0 (fun A W hx hf => ?_) ?_
  exact ok_call2 body74 (c_Get (q0 ?b3_4 A W 9 hf) (show Is (.bool true) (A.eval (.const (.bool true))) _ from rfl))
  refine oc0 (fun A W hx hf => ?_) ?_
  exact ok_convI Try.underlying86 Try.underlying3 (by rw [h8, hbe]; exact IntWalk.i64_in _ (by omega)) (q0 ?b3_5 A W 10 hf)
  refine oc0 (fun A W hx hf => ?_) ?_
  exact ok_assign (q0 ?b3_6 A W 11 hf)
  exact OpsOk.nil
 case t3 => exact inferInstance
 clear hr; intro a4 w4 x hr hd hs
 clear s0 s1
 have s4 := fa ?b3_6 a4 w4 4 (hd 7 4 rfl)
 replace e_w := e_w.trans x
 clear hd hs x
 refine exit_then ?_
 refine wp_ret ?_
 refine ret_tmp Try.results71 hr e_w ?_
 exact Is.int s4 (by rw [h8, hbe])

def D_c_xsize_0 : List Tmp := [7, 9, 10]
theorem c_xsize {x0 x1 : Value} {w : World} {p : Int} {l : List UInt8} (h0 : (Is (.int .i64 p)) x0 w) (h1 : (Bs l) x1 w) (h2 : 2 ≤ l.length) :
    Calls Try.prog 60 #[x0, x1] w (Ret (Is (.int .i64 (sizeE p (byteAt l 1)))) w) := by
 have hlen := Bs.len_le h1
 have e1 : (l[1]'(by omega)).toNat = byteAt l 1 := (byteAt_get (by omega)).symm
 have b1 := byteAt_bd l 1
 refine enter Try.func60 rfl Try.ntmps60 (k := 2) rfl (by decide) (fun a0 hr hargs => ?_)
 have s0 := sarg h0 (hargs 0 (by decide))
 have s1 := sarg h1 (hargs 1 (by decide))
 clear hargs
 refine wp_seq ?_
 refine wp_reg 30 [[]] [?b1_0] mixed hr ?t1 ?o1 ?_
 case o1 =>
  refine oc0 (fun A W hx hf => ?_) ?_
  exact ok_assignc
  exact OpsOk.nil
 case t1 => exact inferInstance
 clear hr; intro a2 w2 x hr hd hs
 revert s1; revert s0; refine kp2 hs rfl ?_; intro s0 s1
 have e_w := x
 clear hd hs x
 refine exit_then ?_
 refine wp_seq ?_
 refine wp_reg 30 [[]] [?b3_0] mixed hr ?t3 ?o3 ?_
 case o3 =>
  refine oc0 (fun A W hx hf => ?_) ?_
  exact ok_assignc
  exact OpsOk.nil
 case t3 => exact inferInstance
 clear hr; intro a4 w4 x hr hd hs
 revert s1; revert s0; refine kp2 hs rfl ?_; intro s0 s1
 have s5 := fa ?b3_0 a4 w4 5 (hd 0 5 rfl)
 replace e_w := e_w.trans x
 clear hd hs x
 refine exit_then ?_
 refine wp_seq ?_
 refine wp_seq ?_
 refine wp_reg 30 [[(0, none)]] [?b5_0] mixed hr ?t5 ?o5 ?_
 case o5 =>
  refine oc0 (fun A W hx hf => ?_) ?_
  exact ok_movE (a0 := a4) (r0 hf)
  exact OpsOk.nil
 case t5 => exact inferInstance
 clear hr; intro a6 w6 x hr hd hs
 have u6 := mv s0 (fa ?b5_0 a6 w6 6 (hd 0 6 rfl))
 revert s5; revert s1; refine kp2 hs rfl ?_; intro s1 s5
 clear s0
 have s6 := u6; clear u6
 replace e_w := e_w.trans x
 have e_w4 := x
 clear hd hs x
 refine exit_then ?_
 refine wp_block ?_
 refine wp_seq ?_
 refine wp_block ?_
 refine wp_seq ?_
 refine wp_block ?_
 refine wp_seq ?_
 refine wp_block ?_
 refine wp_seq ?_
 refine wp_seq ?_
 refine wp_seq ?_
 refine wp_seq ?_
 refine wp_reg 30 [[(6, none)], [(8, some 0)]] [?b7_0, ?b7_0] mixed hr ?t7 ?o7 ?_
 case o7 =>
  refine oc0 (fun A W hx hf => ?_) ?_
  exact ok_eql (o2 s6 e_w hx (r0 hf)) (ec A (.int .i64 0))
  refine oc0 (fun A W hx hf => ?_) ?_
  exact ok_assign (q0 ?b7_0 A W 8 hf)
  exact OpsOk.nil
 case t7 => exact inferInstance
 clear hr; intro a8 w8 x hr hd hs
 revert s6; revert s5; revert s1; refine kp3 hs rfl ?_; intro s1 s5 s6
 have s7 := fa ?b7_0 a8 w8 7 (hd 1 7 rfl)
 replace e_w := e_w.trans x
 replace e_w4 := e_w4.trans x
 clear hd hs x
 refine exit_then ?_
 refine wp_cut (fun A W => Fr 30 A ∧ Same D_c_xsize_0 a8 A ∧ Ext w W ∧ Ext w4 W ∧ (Is (.bool (decide (p = 0 ∨ p = 43 ∨ p = 60)))) (A.eval (.tmp 7)) W) ?cut9 ?_
 case cut9 =>
  have m9 : Same D_c_xsize_0 a8 a8 := Same.rfl
  refine wp_cond_split (show _ = _ from s7) (fun hq => ?_) (fun hq => ?_)
  ·
   have hq : p = 0 := by simpa using hq
   refine wp_skip ?_
   refine exit_then ?_
   refine ⟨hr, m9, e_w, e_w4, ?_⟩
   · first | exact Is.bool s7 (kind_a hq) | exact Is.bool s7 (kind_b hq hq2) | exact Is.bool s7 (kind_c hq hq2)
  ·
   have hq : p ≠ 0 := by simpa using hq
   refine wp_seq ?_
   refine wp_reg 30 [[(6, none)], [(9, some 0)]] [?b11_0, ?b11_0] mixed hr ?t11 ?o11 ?_
   case o11 =>
    refine oc0 (fun A W hx hf => ?_) ?_
    exact ok_eql (o2 s6 e_w hx (r0 hf)) (ec A (.int .i64 43))
    refine oc0 (fun A W hx hf => ?_) ?_
    exact ok_assign (q0 ?b11_0 A W 9 hf)
    exact OpsOk.nil
   case t11 => exact inferInstance
   clear hr; intro a12 w12 x hr hd hs
   revert s6; revert s5; revert s1; refine kp3 hs rfl ?_; intro s1 s5 s6
   clear s7
   have s7 := fa ?b11_0 a12 w12 7 (hd 1 7 rfl)
   replace e_w := e_w.trans x
   replace e_w4 := e_w4.trans x
   replace m9 := m9.tr hs rfl
   clear hd hs x
   refine exit_then ?_
   refine wp_cond_split (show _ = _ from s7) (fun hq2 => ?_) (fun hq2 => ?_)
   ·
    have hq2 : p = 43 := by simpa using hq2
    refine wp_skip ?_
    refine exit_then ?_
    refine ⟨hr, m9, e_w, e_w4, ?_⟩
    · first | exact Is.bool s7 (kind_a hq) | exact Is.bool s7 (kind_b hq hq2) | exact Is.bool s7 (kind_c hq hq2)
   ·
    have hq2 : p ≠ 43 := by simpa using hq2
    refine wp_reg 30 [[(6, none)], [(10, some 0)]] [?b14_0, ?b14_0] mixed hr ?t14 ?o14 ?_
    case o14 =>
     refine oc0 (fun A W hx hf => ?_) ?_
     exact ok_eql (o2 s6 e_w hx (r0 hf)) (ec A (.int .i64 60))
     refine oc0 (fun A W hx hf => ?_) ?_
     exact ok_assign (q0 ?b14_0 A W 10 hf)
     exact OpsOk.nil
    case t14 => exact inferInstance
    clear hr; intro a15 w15 x hr hd hs
    revert s6; revert s5; revert s1; refine kp3 hs rfl ?_; intro s1 s5 s6
    clear s7
    have s7 := fa ?b14_0 a15 w15 7 (hd 1 7 rfl)
    replace e_w := e_w.trans x
    replace e_w4 := e_w4.trans x
    replace m9 := m9.tr hs rfl
    clear hd hs x
    refine exit_then ?_
    refine ⟨hr, m9, e_w, e_w4, ?_⟩
    · first | exact Is.bool s7 (kind_a hq) | exact Is.bool s7 (kind_b hq hq2) | exact Is.bool s7 (kind_c hq hq2)
 intro a9 w9 hI
 clear e_w
 clear e_w4
 clear hr; obtain ⟨hr, hs, e_w, e_w4, u7⟩ := hI
 revert s6; revert s5; revert s1; refine kp3 hs rfl ?_; intro s1 s5 s6
 clear s7
 have s7 := u7; clear u7
 clear hs
 refine wp_cond_split (show _ = _ from s7) (fun hk => ?_) (fun hk => ?_)
 ·
  have hk := of_decide_eq_true hk
  refine wp_exit ?_
  refine then_exit ?_
  refine then_exit ?_
  refine blk_exit ?_
  refine exit_then ?_
  refine wp_reg 30 [[(1, none)], [(15, some 0)], [(16, some 1)], [(17, some 2)], [(18, some 3)], [(19, some 4)]] [?b17_0, ?b17_1, ?b17_2, ?b17_3, ?b17_4, ?b17_4] mixed hr ?t17 ?o17 ?_
  case o17 =>
   refine oc0 (fun A W hx hf => ?_) ?_
   exact ok_movE (a0 := a9) (r0 hf)
   refine oc0 (fun A W hx hf => ?_) ?_
   exact ok_index_bs (1) Try.underlying22 size5 (p2 s1 e_w hx (q0 ?b17_0 A W 15 hf)) (ec A (.int .i64 1)) (by first | omega | decide | (simp; done) | (simp; omega))
   refine oc0 (fun A W hx hf => ?_) ?_
   exact ok_loadp Try.underlying5 rfl (q0 ?b17_1 A W 16 hf)
   refine oc0 (fun A W hx hf => ?_) ?_
   exact ok_convB Try.underlying5 Try.underlying3 (by decide) (q0 ?b17_2 A W 17 hf)
   refine oc0 (fun A W hx hf => ?_) ?_
   exact ok_mulI (q0 ?b17_3 A W 18 hf) (ec A (.int .i64 4)) (by omega)
   refine oc0 (fun A W hx hf => ?_) ?_
   exact ok_assign (q0 ?b17_4 A W 19 hf)
   exact OpsOk.nil
  case t17 => exact inferInstance
  clear hr; intro a18 w18 x hr hd hs
  revert s1; refine kp1 hs rfl ?_; intro s1
  clear s5 s6 s7
  have s5 := fa ?b17_4 a18 w18 5 (hd 5 5 rfl)
  replace e_w := e_w.trans x
  clear e_w4
  clear hd hs x
  refine blk_normal ?_
  refine exit_then ?_
  refine wp_reg 30 [[(5, none)], [(1, none)], [(21, some 1)], [(22, some 2)], [(23, some 3)], [(24, some 4)], [(20, some 0), (25, some 5)], [(26, some 6)]] [?b19_0, ?b19_1, ?b19_2, ?b19_3, ?b19_4, ?b19_5, ?b19_6, ?b19_6] mixed hr ?t19 ?o19 ?_
  case o19 =>
   refine oc0 (fun A W hx hf => ?_) ?_
   exact ok_movE (a0 := a18) (r0 hf)
   refine oc0 (fun A W hx hf => ?_) ?_
   exact ok_movE (a0 := a18) (r0 hf)
   refine oc0 (fun A W hx hf => ?_) ?_
   exact ok_index_bs (1) Try.underlying22 size5 (p2 s1 e_w hx (q0 ?b19_1 A W 21 hf)) (ec A (.int .i64 1)) (by first | omega | decide | (simp; done) | (simp; omega))
   refine oc0 (fun A W hx hf => ?_) ?_
   exact ok_loadp Try.underlying5 rfl (q0 ?b19_2 A W 22 hf)
   refine oc0 (fun A W hx hf => ?_) ?_
   exact ok_convB Try.underlying5 Try.underlying3 (by decide) (q0 ?b19_3 A W 23 hf)
   refine oc0 (fun A W hx hf => ?_) ?_
   exact ok_mulI (q0 ?b19_4 A W 24 hf) (ec A (.int .i64 4)) (by omega)
   refine oc0 (fun A W hx hf => ?_) ?_
   exact ok_addI (p1 s5 hx (q0 ?b19_0 A W 20 hf)) (q1 ?b19_5 A W 25 hf) (by omega)
   refine oc0 (fun A W hx hf => ?_) ?_
   exact ok_assign (q0 ?b19_6 A W 26 hf)
   exact OpsOk.nil
  case t19 => exact inferInstance
  clear hr; intro a20 w20 x hr hd hs
  clear s1 s5
  have s5 := fa ?b19_6 a20 w20 5 (hd 7 5 rfl)
  replace e_w := e_w.trans x
  clear hd hs x
  refine blk_normal ?_
  refine exit_then ?_
  refine wp_seq ?_
  refine wp_reg 30 [[(5, none)], [(27, some 0)], [(28, some 1)]] [?b21_0, ?b21_1, ?b21_1] mixed hr ?t21 ?o21 ?_
  case o21 =>
   refine oc0 (fun A W hx hf => ?_) ?_
   exact ok_movE (a0 := a20) (r0 hf)
   refine oc0 (fun A W hx hf => ?_) ?_
   exact ok_addI (p1 s5 hx (q0 ?b21_0 A W 27 hf)) (ec A (.int .i64 8)) (by omega)
   refine oc0 (fun A W hx hf => ?_) ?_
   exact ok_assign (q0 ?b21_1 A W 28 hf)
   exact OpsOk.nil
  case t21 => exact inferInstance
  clear hr; intro a22 w22 x hr hd hs
  clear s5
  have s5 := fa ?b21_1 a22 w22 5 (hd 2 5 rfl)
  replace e_w := e_w.trans x
  clear hd hs x
  refine exit_then ?_
  refine wp_exit ?_
  refine blk_exit ?_
  refine exit_then ?_
  refine wp_seq ?_
  refine wp_reg 30 [[(5, none)], [(29, some 0)]] [?b23_0, ?b23_0] mixed hr ?t23 ?o23 ?_
  case o23 =>
   refine oc0 (fun A W hx hf => ?_) ?_
   exact ok_movE (a0 := a22) (r0 hf)
   refine oc0 (fun A W hx hf => ?_) ?_
   exact ok_assign (q0 ?b23_0 A W 29 hf)
   exact OpsOk.nil
  case t23 => exact inferInstance
  clear hr; intro a24 w24 x hr hd hs
  have u4 := mv s5 (fa ?b23_0 a24 w24 4 (hd 1 4 rfl))
  clear s5
  have s4 := u4; clear u4
  replace e_w := e_w.trans x
  have e_w22 := x
  clear hd hs x
  refine exit_then ?_
  refine wp_ret ?_
  refine ret_tmp Try.results60 hr e_w ?_
  exact Is.int (later e_w22 s4) (by unfold sizeE; first | (rw [if_pos hk]; omega) | (rw [if_neg hk, if_pos h51]; omega) | (rw [if_neg hk, if_neg h51, if_pos h44]; omega) | (rw [if_neg hk, if_neg h51, if_neg h44]))
 ·
  have hk := of_decide_eq_false hk
  refine wp_skip ?_
  refine exit_then ?_
  refine wp_seq ?_
  refine wp_seq ?_
  refine wp_reg 30 [[(6, none)], [(12, some 0)]] [?b25_0, ?b25_0] mixed hr ?t25 ?o25 ?_
  case o25 =>
   refine oc0 (fun A W hx hf => ?_) ?_
   exact ok_eql (o2 s6 e_w hx (r0 hf)) (ec A (.int .i64 51))
   refine oc0 (fun A W hx hf => ?_) ?_
   exact ok_assign (q0 ?b25_0 A W 12 hf)
   exact OpsOk.nil
  case t25 => exact inferInstance
  clear hr; intro a26 w26 x hr hd hs
  revert s6; revert s5; revert s1; refine kp3 hs rfl ?_; intro s1 s5 s6
  clear s7
  have s11 := fa ?b25_0 a26 w26 11 (hd 1 11 rfl)
  replace e_w := e_w.trans x
  replace e_w4 := e_w4.trans x
  clear hd hs x
  refine exit_then ?_
  refine wp_cond_split (show _ = _ from s11) (fun h51 => ?_) (fun h51 => ?_)
  ·
   have h51 : p = 51 := by simpa using h51
   refine wp_exit ?_
   refine then_exit ?_
   refine then_exit ?_
   refine blk_pass rfl ?_
   refine then_exit ?_
   refine blk_exit ?_
   refine exit_then ?_
   refine wp_reg 30 [[(5, none)], [(1, none)], [(21, some 1)], [(22, some 2)], [(23, some 3)], [(24, some 4)], [(20, some 0), (25, some 5)], [(26, some 6)]] [?b28_0, ?b28_1, ?b28_2, ?b28_3, ?b28_4, ?b28_5, ?b28_6, ?b28_6] mixed hr ?t28 ?o28 ?_
   case o28 =>
    refine oc0 (fun A W hx hf => ?_) ?_
    exact ok_movE (a0 := a26) (r0 hf)
    refine oc0 (fun A W hx hf => ?_) ?_
    exact ok_movE (a0 := a26) (r0 hf)
    refine oc0 (fun A W hx hf => ?_) ?_
    exact ok_index_bs (1) Try.underlying22 size5 (p2 s1 e_w hx (q0 ?b28_1 A W 21 hf)) (ec A (.int .i64 1)) (by first | omega | decide | (simp; done) | (simp; omega))
    refine oc0 (fun A W hx hf => ?_) ?_
    exact ok_loadp Try.underlying5 rfl (q0 ?b28_2 A W 22 hf)
    refine oc0 (fun A W hx hf => ?_) ?_
    exact ok_convB Try.underlying5 Try.underlying3 (by decide) (q0 ?b28_3 A W 23 hf)
    refine oc0 (fun A W hx hf => ?_) ?_
    exact ok_mulI (q0 ?b28_4 A W 24 hf) (ec A (.int .i64 4)) (by omega)
    refine oc0 (fun A W hx hf => ?_) ?_
    exact ok_addI (p2 s5 e_w4 hx (q0 ?b28_0 A W 20 hf)) (q1 ?b28_5 A W 25 hf) (by omega)
    refine oc0 (fun A W hx hf => ?_) ?_
    exact ok_assign (q0 ?b28_6 A W 26 hf)
    exact OpsOk.nil
   case t28 => exact inferInstance
   clear hr; intro a29 w29 x hr hd hs
   clear s1 s5 s6 s11
   have s5 := fa ?b28_6 a29 w29 5 (hd 7 5 rfl)
   replace e_w := e_w.trans x
   clear e_w4
   clear hd hs x
   refine blk_normal ?_
   refine exit_then ?_
   refine wp_seq ?_
   refine wp_reg 30 [[(5, none)], [(27, some 0)], [(28, some 1)]] [?b30_0, ?b30_1, ?b30_1] mixed hr ?t30 ?o30 ?_
   case o30 =>
    refine oc0 (fun A W hx hf => ?_) ?_
    exact ok_movE (a0 := a29) (r0 hf)
    refine oc0 (fun A W hx hf => ?_) ?_
    exact ok_addI (p1 s5 hx (q0 ?b30_0 A W 27 hf)) (ec A (.int .i64 8)) (by omega)
    refine oc0 (fun A W hx hf => ?_) ?_
    exact ok_assign (q0 ?b30_1 A W 28 hf)
    exact OpsOk.nil
   case t30 => exact inferInstance
   clear hr; intro a31 w31 x hr hd hs
   clear s5
   have s5 := fa ?b30_1 a31 w31 5 (hd 2 5 rfl)
   replace e_w := e_w.trans x
   clear hd hs x
   refine exit_then ?_
   refine wp_exit ?_
   refine blk_exit ?_
   refine exit_then ?_
   refine wp_seq ?_
   refine wp_reg 30 [[(5, none)], [(29, some 0)]] [?b32_0, ?b32_0] mixed hr ?t32 ?o32 ?_
   case o32 =>
    refine oc0 (fun A W hx hf => ?_) ?_
    exact ok_movE (a0 := a31) (r0 hf)
    refine oc0 (fun A W hx hf => ?_) ?_
    exact ok_assign (q0 ?b32_0 A W 29 hf)
    exact OpsOk.nil
   case t32 => exact inferInstance
   clear hr; intro a33 w33 x hr hd hs
   have u4 := mv s5 (fa ?b32_0 a33 w33 4 (hd 1 4 rfl))
   clear s5
   have s4 := u4; clear u4
   replace e_w := e_w.trans x
   have e_w31 := x
   clear hd hs x
   refine exit_then ?_
   refine wp_ret ?_
   refine ret_tmp Try.results60 hr e_w ?_
   exact Is.int (later e_w31 s4) (by unfold sizeE; first | (rw [if_pos hk]; omega) | (rw [if_neg hk, if_pos h51]; omega) | (rw [if_neg hk, if_neg h51, if_pos h44]; omega) | (rw [if_neg hk, if_neg h51, if_neg h44]))
  ·
   have h51 : p ≠ 51 := by simpa using h51
   refine wp_skip ?_
   refine exit_then ?_
   refine wp_seq ?_
   refine wp_reg 30 [[(6, none)], [(14, some 0)]] [?b34_0, ?b34_0] mixed hr ?t34 ?o34 ?_
   case o34 =>
    refine oc0 (fun A W hx hf => ?_) ?_
    exact ok_eql (o2 s6 e_w hx (r0 hf)) (ec A (.int .i64 44))
    refine oc0 (fun A W hx hf => ?_) ?_
    exact ok_assign (q0 ?b34_0 A W 14 hf)
    exact OpsOk.nil
   case t34 => exact inferInstance
   clear hr; intro a35 w35 x hr hd hs
   revert s5; refine kp1 hs rfl ?_; intro s5
   clear s1 s6 s11
   have s13 := fa ?b34_0 a35 w35 13 (hd 1 13 rfl)
   replace e_w := e_w.trans x
   replace e_w4 := e_w4.trans x
   clear hd hs x
   refine exit_then ?_
   refine wp_cond_split (show _ = _ from s13) (fun h44 => ?_) (fun h44 => ?_)
   ·
    have h44 : p = 44 := by simpa using h44
    refine wp_exit ?_
    refine then_exit ?_
    refine blk_pass rfl ?_
    refine then_exit ?_
    refine blk_pass rfl ?_
    refine then_exit ?_
    refine blk_exit ?_
    refine exit_then ?_
    refine wp_seq ?_
    refine wp_reg 30 [[(5, none)], [(27, some 0)], [(28, some 1)]] [?b37_0, ?b37_1, ?b37_1] mixed hr ?t37 ?o37 ?_
    case o37 =>
     refine oc0 (fun A W hx hf => ?_) ?_
     exact ok_movE (a0 := a35) (r0 hf)
     refine oc0 (fun A W hx hf => ?_) ?_
     exact ok_addI (p2 s5 e_w4 hx (q0 ?b37_0 A W 27 hf)) (ec A (.int .i64 8)) (by omega)
     refine oc0 (fun A W hx hf => ?_) ?_
     exact ok_assign (q0 ?b37_1 A W 28 hf)
     exact OpsOk.nil
    case t37 => exact inferInstance
    clear hr; intro a38 w38 x hr hd hs
    clear s5 s13
    have s5 := fa ?b37_1 a38 w38 5 (hd 2 5 rfl)
    replace e_w := e_w.trans x
    clear e_w4
    clear hd hs x
    refine exit_then ?_
    refine wp_exit ?_
    refine blk_exit ?_
    refine exit_then ?_
    refine wp_seq ?_
    refine wp_reg 30 [[(5, none)], [(29, some 0)]] [?b39_0, ?b39_0] mixed hr ?t39 ?o39 ?_
    case o39 =>
     refine oc0 (fun A W hx hf => ?_) ?_
     exact ok_movE (a0 := a38) (r0 hf)
     refine oc0 (fun A W hx hf => ?_) ?_
     exact ok_assign (q0 ?b39_0 A W 29 hf)
     exact OpsOk.nil
    case t39 => exact inferInstance
    clear hr; intro a40 w40 x hr hd hs
    have u4 := mv s5 (fa ?b39_0 a40 w40 4 (hd 1 4 rfl))
    clear s5
    have s4 := u4; clear u4
    replace e_w := e_w.trans x
    have e_w38 := x
    clear hd hs x
    refine exit_then ?_
    refine wp_ret ?_
    refine ret_tmp Try.results60 hr e_w ?_
    exact Is.int (later e_w38 s4) (by unfold sizeE; first | (rw [if_pos hk]; omega) | (rw [if_neg hk, if_pos h51]; omega) | (rw [if_neg hk, if_neg h51, if_pos h44]; omega) | (rw [if_neg hk, if_neg h51, if_neg h44]))
   ·
    have h44 : p ≠ 44 := by simpa using h44
    refine wp_skip ?_
    refine exit_then ?_
    refine wp_exit ?_
    refine blk_pass rfl ?_
    refine then_exit ?_
    refine blk_pass rfl ?_
    refine then_exit ?_
    refine blk_pass rfl ?_
    refine then_exit ?_
    refine blk_exit ?_
    refine exit_then ?_
    refine wp_seq ?_
    refine wp_reg 30 [[(5, none)], [(29, some 0)]] [?b41_0, ?b41_0] mixed hr ?t41 ?o41 ?_
    case o41 =>
     refine oc0 (fun A W hx hf => ?_) ?_
     exact ok_movE (a0 := a35) (r0 hf)
     refine oc0 (fun A W hx hf => ?_) ?_
     exact ok_assign (q0 ?b41_0 A W 29 hf)
     exact OpsOk.nil
    case t41 => exact inferInstance
    clear hr; intro a42 w42 x hr hd hs
    have u4 := mv s5 (fa ?b41_0 a42 w42 4 (hd 1 4 rfl))
    clear s5 s13
    have s4 := u4; clear u4
    replace e_w := e_w.trans x
    replace e_w4 := e_w4.trans x
    clear hd hs x
    refine exit_then ?_
    refine wp_ret ?_
    refine ret_tmp Try.results60 hr e_w ?_
    exact Is.int (later e_w4 s4) (by unfold sizeE; first | (rw [if_pos hk]; omega) | (rw [if_neg hk, if_pos h51]; omega) | (rw [if_neg hk, if_neg h51, if_pos h44]; omega) | (rw [if_neg hk, if_neg h51, if_neg h44]))

theorem c_xext {x0 : Value} {w : World} {p : Int} (h0 : (Is (.int .i64 p)) x0 w)  :
    Calls Try.prog 40 #[x0] w (Ret (Is (.bool (extB p))) w) := by
 refine enter Try.func40 rfl Try.ntmps40 (k := 1) rfl (by decide) (fun a0 hr hargs => ?_)
 have s0 := sarg h0 (hargs 0 (by decide))
 clear hargs
 refine wp_seq ?_
 refine wp_reg 7 [[]] [?b1_0] mixed hr ?t1 ?o1 ?_
 case o1 =>
  refine oc0 (fun A W hx hf => ?_) ?_
  exact ok_assignc
  exact OpsOk.nil
 case t1 => exact inferInstance
 clear hr; intro a2 w2 x hr hd hs
 revert s0; refine kp1 hs rfl ?_; intro s0
 have e_w := x
 clear hd hs x
 refine exit_then ?_
 refine wp_seq ?_
 refine wp_reg 7 [[(0, none)], [], [(3, some 0), (4, some 1)], [(5, some 2)], [(6, some 3)]] [?b3_0, ?b3_1, ?b3_2, ?b3_3, ?b3_3] mixed hr ?t3 ?o3 ?_
 case o3 =>
  refine oc0 (fun A W hx hf => ?_) ?_
  exact ok_movE (a0 := a2) (r0 hf)
  refine oc0 (fun A W hx hf => ?_) ?_
  exact ok_makeBs (n := 8) Try.underlying22 info5 (ec A (.int .i64 8)) (ec A (.int .i64 8)) (by omega) hx.size
  refine oc0 (fun A W hx hf => ?_) ?_
  exact ok_call2 body60 (c_xsize (p2 s0 e_w hx (q0 ?b3_0 A W 3 hf)) (OwnB.bs (q1 ?b3_1 A W 4 hf)) (by decide))
  refine oc0 (fun A W hx hf => ?_) ?_
  exact ok_gtr (q0 ?b3_2 A W 5 hf) (ec A (.int .i64 0))
  refine oc0 (fun A W hx hf => ?_) ?_
  exact ok_assign (q0 ?b3_3 A W 6 hf)
  exact OpsOk.nil
 case t3 => exact inferInstance
 clear hr; intro a4 w4 x hr hd hs
 have z_w_w2 := e_w.size
 clear s0
 have s2 := fa ?b3_3 a4 w4 2 (hd 4 2 rfl)
 replace e_w := e_w.trans x
 clear hd hs x
 refine exit_then ?_
 refine wp_ret ?_
 refine ret_tmp Try.results40 hr e_w ?_
 exact Is.bool s2 (sizeE_ext _)

theorem c_xin {x0 : Value} {w : World} {m : Int} (h0 : (Is (.int .i64 m)) x0 w)  :
    Calls Try.prog 39 #[x0] w (Ret (Is (.bool (inB m 255))) w) := by
 refine enter Try.func39 rfl Try.ntmps39 (k := 1) rfl (by decide) (fun a0 hr hargs => ?_)
 have s0 := sarg h0 (hargs 0 (by decide))
 clear hargs
 refine wp_seq ?_
 refine wp_reg 9 [[]] [?b1_0] mixed hr ?t1 ?o1 ?_
 case o1 =>
  refine oc0 (fun A W hx hf => ?_) ?_
  exact ok_assignc
  exact OpsOk.nil
 case t1 => exact inferInstance
 clear hr; intro a2 w2 x hr hd hs
 revert s0; refine kp1 hs rfl ?_; intro s0
 have e_w := x
 clear hd hs x
 refine exit_then ?_
 refine wp_seq ?_
 refine wp_reg 9 [[(0, none)], [(3, some 0)], [(4, some 1)], [(0, none), (5, some 2)], [(6, some 3), (5, some 2)], [(5, some 2), (7, some 4)], [(8, some 5)]] [?b3_0, ?b3_1, ?b3_1, ?b3_3, ?b3_4, ?b3_5, ?b3_5] mixed hr ?t3 ?o3 ?_
 case o3 =>
  refine oc0 (fun A W hx hf => ?_) ?_
  exact ok_movE (a0 := a2) (r0 hf)
  refine oc0 (fun A W hx hf => ?_) ?_
  exact ok_geq (p2 s0 e_w hx (q0 ?b3_0 A W 3 hf)) (ec A (.int .i64 0))
  refine oc0 (fun A W hx hf => ?_) ?_
  exact ok_move (q0 ?b3_1 A W 4 hf)
  refine ocg 5 ?_ (fun A W hx hf => ?_) ?_
  rfl
  exact gd_t (q1 ?b3_1 A W 5 hf) (fun hc => ok_movE (a0 := a2) (r0 hf))
  refine ocg 5 ?_ (fun A W hx hf => ?_) ?_
  rfl
  exact gd_t (q1 ?b3_1 A W 5 hf) (fun hc => ok_leq (p2 s0 e_w hx (G.get (q0 ?b3_3 A W 6 hf) hc)) (ec A (.int .i64 255)))
  refine oc0 (fun A W hx hf => ?_) ?_
  exact ok_and (q0 ?b3_1 A W 5 hf) (q1 ?b3_4 A W 7 hf)
  refine oc0 (fun A W hx hf => ?_) ?_
  exact ok_assign (q0 ?b3_5 A W 8 hf)
  exact OpsOk.nil
 case t3 => exact inferInstance
 clear hr; intro a4 w4 x hr hd hs
 clear s0
 have s2 := fa ?b3_5 a4 w4 2 (hd 6 2 rfl)
 replace e_w := e_w.trans x
 clear hd hs x
 refine exit_then ?_
 refine wp_ret ?_
 refine ret_tmp Try.results39 hr e_w ?_
 exact Is.bool s2 (by unfold inB; rfl)

end Go.Proofs.Ytnlmppannjebfaa
