import Derived.Test.YtdbjpfjnambenaaFacts
import Derived.Test.YtdbjpfjnambenaaL06
namespace Go.Proofs.Ytdbjpfjnambenaa
open Go.RowKit
set_option linter.unusedVariables false
set_option maxRecDepth 4000
def D_c_grow_0 : List Tmp := [0, 17, 18, 19, 20, 21, 22, 23, 24, 25]
theorem c_grow {x0 x1 : Value} {w : World} {n B : Nat} (h0 : (Is (.slice none 0 0)) x0 w) (h1 : (Is (.int .i64 (n : Int))) x1 w) (hB : B ≤ w.heap.size) (hn : n ≤ 1000000000000) :
    Calls Try.prog 27 #[x0, x1] w (Ret (OwnB B 5 []) w) := by
 refine enter Try.func27 rfl Try.ntmps27 (k := 2) rfl (by decide) (fun a0 hr hargs => ?_)
 have s0 := sarg h0 (hargs 0 (by decide))
 have s1 := sarg h1 (hargs 1 (by decide))
 clear hargs
 refine wp_seq ?_
 refine wp_reg 27 [[]] [?b1_0] mixed (by kernel_rfl) (by kernel_rfl) hr ?t1 ?o1 ?_
 case o1 =>
  refine oc0 (fun A W hx hf => ?_) ?_
  exact ok_assignv (Bs []) (fun _ => bs_nil)
  exact OpsOk.nil
 case t1 => exact inferInstance
 clear hr; intro a2 w2 x hr hd hs
 revert s1; revert s0; refine kp2 hs rfl ?_; intro s0 s1
 have e_w := x
 clear hd hs x
 refine exit_then ?_
 refine wp_seq ?_
 refine wp_seq ?_
 refine wp_reg 27 [[(1, none)], [(5, some 0)]] [?b3_0, ?b3_1] mixed (by kernel_rfl) (by kernel_rfl) hr ?t3 ?o3 ?_
 case o3 =>
  refine oc0 (fun A W hx hf => ?_) ?_
  exact ok_movE (a0 := a2) (r0 hf)
  refine oc0 (fun A W hx hf => ?_) ?_
  exact ok_lss (p2 s1 e_w hx (q0 ?b3_0 A W 5 hf)) (ec A (.int .i64 0))
  exact OpsOk.nil
 case t3 => exact inferInstance
 clear hr; intro a4 w4 x hr hd hs
 revert s1; revert s0; refine kp2 hs rfl ?_; intro s0 s1
 have s6 := fa ?b3_1 a4 w4 6 (hd 1 6 rfl)
 replace e_w := e_w.trans x
 clear hd hs x
 refine exit_then ?_
 refine wp_cond_split (show _ = _ from s6) (fun hneg => ?_) (fun hneg => ?_)
 · skip
   exfalso; simp at hneg; omega
 · skip
   try simp only [decide_eq_true_eq, decide_eq_false_iff_not, Bool.not_eq_true', Bool.not_eq_false', Bool.not_true, Bool.not_false, Bool.and_eq_true, Bool.and_eq_false_iff, Bool.or_eq_true, Bool.or_eq_false_iff, bne_iff_ne, beq_iff_eq, ne_eq, beq_eq_false_iff_ne, bne_eq_false_iff_eq] at hneg
   refine wp_skip ?_
   refine exit_then ?_
   refine wp_seq ?_
   refine wp_seq ?_
   refine wp_reg 27 [[(1, none)], [(0, none)], [(9, some 1)], [(0, none)], [(11, some 3)], [(10, some 2), (12, some 4)], [(8, some 0), (13, some 5)], [(14, some 6)]] [?b6_0, ?b6_1, ?b6_2, ?b6_3, ?b6_4, ?b6_5, ?b6_6, ?b6_6] mixed (by kernel_rfl) (by kernel_rfl) hr ?t6 ?o6 ?_
   case o6 =>
    refine oc0 (fun A W hx hf => ?_) ?_
    exact ok_movE (a0 := a4) (r0 hf)
    refine oc0 (fun A W hx hf => ?_) ?_
    exact ok_movE (a0 := a4) (r0 hf)
    refine oc0 (fun A W hx hf => ?_) ?_
    exact ok_cap_nil Try.underlying22 (p2 s0 e_w hx (q0 ?b6_1 A W 9 hf))
    refine oc0 (fun A W hx hf => ?_) ?_
    exact ok_movE (a0 := a4) (r0 hf)
    refine oc0 (fun A W hx hf => ?_) ?_
    exact ok_len_nil Try.underlying22 (p2 s0 e_w hx (q0 ?b6_3 A W 11 hf))
    refine oc0 (fun A W hx hf => ?_) ?_
    exact ok_subI (q0 ?b6_2 A W 10 hf) (q1 ?b6_4 A W 12 hf) (by omega)
    refine oc0 (fun A W hx hf => ?_) ?_
    exact ok_subI (p2 s1 e_w hx (q0 ?b6_0 A W 8 hf)) (q1 ?b6_5 A W 13 hf) (by omega)
    refine oc0 (fun A W hx hf => ?_) ?_
    exact ok_assign (q0 ?b6_6 A W 14 hf)
    exact OpsOk.nil
   case t6 => exact inferInstance
   clear hr; intro a7 w7 x hr hd hs
   revert s0; refine kp1 hs rfl ?_; intro s0
   clear s1 s6
   have s1 := fa ?b6_6 a7 w7 1 (hd 7 1 rfl)
   replace e_w := e_w.trans x
   clear hd hs x
   refine exit_then ?_
   refine wp_seq ?_
   refine wp_reg 27 [[(1, none)], [(15, some 0)]] [?b8_0, ?b8_1] mixed (by kernel_rfl) (by kernel_rfl) hr ?t8 ?o8 ?_
   case o8 =>
    refine oc0 (fun A W hx hf => ?_) ?_
    exact ok_movE (a0 := a7) (r0 hf)
    refine oc0 (fun A W hx hf => ?_) ?_
    exact ok_gtr (p1 s1 hx (q0 ?b8_0 A W 15 hf)) (ec A (.int .i64 0))
    exact OpsOk.nil
   case t8 => exact inferInstance
   clear hr; intro a9 w9 x hr hd hs
   revert s1; revert s0; refine kp2 hs rfl ?_; intro s0 s1
   have s16 := fa ?b8_1 a9 w9 16 (hd 1 16 rfl)
   replace e_w := e_w.trans x
   have e_w7 := x
   clear hd hs x
   refine exit_then ?_
   refine wp_cut (fun A W => Fr 27 A ∧ Same D_c_grow_0 a9 A ∧ Ext w W ∧ (OwnB B 5 []) (A.eval (.tmp 0)) W) ?cut10 ?_
   case cut10 =>
    have m10 : Same D_c_grow_0 a9 a9 := Same.rfl
    refine wp_cond_split (show _ = _ from s16) (fun hpos => ?_) (fun hpos => ?_)
    · skip
      have hp : 0 < n := by simp at hpos; omega
      refine wp_reg 27 [[(0, none)], [(0, none)], [(18, some 1)], [(17, some 0), (19, some 2)], [(1, none)], [(20, some 3), (21, some 4)], [(0, none)], [(23, some 6)], [(22, some 5), (24, some 7)], [(25, some 8)]] [?b12_0, ?b12_1, ?b12_2, ?b12_3, ?b12_4, ?b12_5, ?b12_6, ?b12_7, ?b12_8, ?b12_8] mixed (by kernel_rfl) (by kernel_rfl) hr ?t12 ?o12 ?_
      case o12 =>
       refine oc0 (fun A W hx hf => ?_) ?_
       exact ok_movE (a0 := a9) (r0 hf)
       refine oc0 (fun A W hx hf => ?_) ?_
       exact ok_movE (a0 := a9) (r0 hf)
       refine oc0 (fun A W hx hf => ?_) ?_
       exact ok_cap_nil Try.underlying22 (p2 s0 e_w hx (q0 ?b12_1 A W 18 hf))
       refine oc0 (fun A W hx hf => ?_) ?_
       exact ok_slice_nil Try.underlying22 size5 (p2 s0 e_w hx (q0 ?b12_0 A W 17 hf)) (q1 ?b12_2 A W 19 hf)
       refine oc0 (fun A W hx hf => ?_) ?_
       exact ok_movE (a0 := a9) (r0 hf)
       refine oc0 (fun A W hx hf => ?_) ?_
       exact ok_append_zeros (B := B) (n := n) Try.underlying22 Try.underlying3 info5 rfl (q0 ?b12_3 A W 20 hf) (Is.int (p2 s1 e_w7 hx (q1 ?b12_4 A W 21 hf)) (by omega)) hp (by omega) (Nat.le_trans hB (Nat.le_trans e_w.size hx.size))
       refine oc0 (fun A W hx hf => ?_) ?_
       exact ok_movE (a0 := a9) (r0 hf)
       refine oc0 (fun A W hx hf => ?_) ?_
       exact ok_len_nil Try.underlying22 (p2 s0 e_w hx (q0 ?b12_6 A W 23 hf))
       refine oc0 (fun A W hx hf => ?_) ?_
       exact ok_slice_own 0 Try.underlying22 size5 (q0 ?b12_5 A W 22 hf) (q1 ?b12_7 A W 24 hf) (by omega)
       refine oc0 (fun A W hx hf => ?_) ?_
       exact ok_assign (q0 ?b12_8 A W 25 hf)
       exact OpsOk.nil
      case t12 => exact inferInstance
      clear hr; intro a13 w13 x hr hd hs
      clear s0 s1 s16
      have s0 := fa ?b12_8 a13 w13 0 (hd 9 0 rfl)
      replace e_w := e_w.trans x
      clear e_w7
      replace m10 := m10.tr hs rfl
      clear hd hs x
      refine exit_then ?_
      refine ⟨hr, m10, e_w, ?_⟩
      · first | exact s0 | (rw [show OwnB B 5 [] = Is (.slice none 0 0) from rfl]; exact s0) | exact (show OwnB B 5 [] _ _ from (show Is (.slice none 0 0) _ _ from s0) ▸ ownB_nil)
    · skip
      skip
      refine wp_skip ?_
      refine exit_then ?_
      refine ⟨hr, m10, e_w, ?_⟩
      · first | exact (later e_w s0) | (rw [show OwnB B 5 [] = Is (.slice none 0 0) from rfl]; exact (later e_w s0)) | exact (show OwnB B 5 [] _ _ from (show Is (.slice none 0 0) _ _ from (later e_w s0)) ▸ ownB_nil)
   intro a10 w10 hI
   clear e_w
   clear e_w7
   clear hr; obtain ⟨hr, hs, e_w, u0⟩ := hI
   clear s0 s1 s16
   have s0 := u0; clear u0
   clear hs
   refine wp_seq ?_
   refine wp_reg 27 [[(0, none)], [(26, some 0)]] [?b14_0, ?b14_0] mixed (by kernel_rfl) (by kernel_rfl) hr ?t14 ?o14 ?_
   case o14 =>
    refine oc0 (fun A W hx hf => ?_) ?_
    exact ok_movE (a0 := a10) (r0 hf)
    refine oc0 (fun A W hx hf => ?_) ?_
    exact ok_assign (q0 ?b14_0 A W 26 hf)
    exact OpsOk.nil
   case t14 => exact inferInstance
   clear hr; intro a15 w15 x hr hd hs
   have u4 := mv s0 (fa ?b14_0 a15 w15 4 (hd 1 4 rfl))
   clear s0
   have s4 := u4; clear u4
   replace e_w := e_w.trans x
   have e_w10 := x
   clear hd hs x
   refine exit_then ?_
   refine wp_ret ?_
   refine ret_tmp Try.results27 hr e_w ?_
   first | exact (later e_w10 s4) | exact Is.int (later e_w10 s4) (by omega) | exact Is.bool (later e_w10 s4) (by omega)

def D_c_concat_0 : List Tmp := [3, 5, 11, 12, 13, 14, 15, 16, 17, 18, 19, 20, 21, 22]
def D_c_concat_1 : List Tmp := [6, 8, 27, 28, 29, 30, 31, 32, 33, 34]
theorem c_concat {x0 : Value} {w : World} {ls : List (List UInt8)} {B : Nat} (h0 : (Bss ls) x0 w) (hB : B ≤ w.heap.size) (hn : ls.flatten.length ≤ 1000000000000) :
    Calls Try.prog 23 #[x0] w (Ret (OwnB B 5 ls.flatten) w) := by
 have hlen : ls.length ≤ 9223372036854775807 := Bss.len_le h0
 have hsum := fun i => flat_take_le ls i
 refine enter Try.func23 rfl Try.ntmps23 (k := 1) rfl (by decide) (fun a0 hr hargs => ?_)
 have s0 := sarg h0 (hargs 0 (by decide))
 clear hargs
 refine wp_seq ?_
 refine wp_reg 36 [[]] [?b1_0] mixed (by kernel_rfl) (by kernel_rfl) hr ?t1 ?o1 ?_
 case o1 =>
  refine oc0 (fun A W hx hf => ?_) ?_
  exact ok_assignv (Bs []) (fun _ => bs_nil)
  exact OpsOk.nil
 case t1 => exact inferInstance
 clear hr; intro a2 w2 x hr hd hs
 revert s0; refine kp1 hs rfl ?_; intro s0
 have e_w := x
 clear hd hs x
 refine exit_then ?_
 refine wp_seq ?_
 refine wp_reg 36 [[]] [?b3_0] mixed (by kernel_rfl) (by kernel_rfl) hr ?t3 ?o3 ?_
 case o3 =>
  refine oc0 (fun A W hx hf => ?_) ?_
  exact ok_assignc
  exact OpsOk.nil
 case t3 => exact inferInstance
 clear hr; intro a4 w4 x hr hd hs
 revert s0; refine kp1 hs rfl ?_; intro s0
 have s3 := fa ?b3_0 a4 w4 3 (hd 0 3 rfl)
 replace e_w := e_w.trans x
 clear hd hs x
 refine exit_then ?_
 refine wp_seq ?_
 refine wp_seq ?_
 refine wp_reg 36 [[(0, none)], [(9, some 0)], []] [?b5_0, ?b5_1, ?b5_2] mixed (by kernel_rfl) (by kernel_rfl) hr ?t5 ?o5 ?_
 case o5 =>
  refine oc0 (fun A W hx hf => ?_) ?_
  exact ok_movE (a0 := a4) (r0 hf)
  refine oc0 (fun A W hx hf => ?_) ?_
  exact ok_len_bss Try.underlying54 (p2 s0 e_w hx (q0 ?b5_0 A W 9 hf))
  refine oc0 (fun A W hx hf => ?_) ?_
  exact ok_movec
  exact OpsOk.nil
 case t5 => exact inferInstance
 clear hr; intro a6 w6 x hr hd hs
 have u9 := mv s0 (fa ?b5_0 a6 w6 9 (hd 0 9 rfl))
 revert s3; revert s0; refine kp2 hs rfl ?_; intro s0 s3
 have s9 := u9; clear u9
 have s10 := fa ?b5_1 a6 w6 10 (hd 1 10 rfl)
 have s11 := fa ?b5_2 a6 w6 11 (hd 2 11 rfl)
 replace e_w := e_w.trans x
 have e_w4 := x
 clear hd hs x
 refine exit_then ?_
 refine wp_block ?_
 refine wp_loop_inv (fun n A W => ∃ (i : Nat), n = ls.length - i ∧ Fr 36 A ∧ Same D_c_concat_0 a6 A ∧ Ext w W ∧ Ext w6 W ∧ (i ≤ ls.length) ∧ (Is (.int .i64 ((ls.take i).flatten.length : Int))) (A.eval (.tmp 3)) W ∧ (Is (.int .i64 (i : Int))) (A.eval (.tmp 11)) W) ?start7 ?_
 case start7 =>
  refine ⟨_, 0, rfl, hr, Same.rfl, e_w, (Ext.refl _), (by first | assumption | omega), ?_, ?_⟩
  · exact Is.int (later e_w4 s3) (by simp)
  · exact s11
 intro n7 a7 w7 hI
 clear e_w
 clear e_w4
 clear hr; obtain ⟨i, hn7, hr, hs, e_w, e_w6, hi, u3, u11⟩ := hI
 revert s10; revert s9; revert s0; refine kp3 hs rfl ?_; intro s0 s9 s10
 clear s3 s11
 have s3 := u3; clear u3
 have s11 := u11; clear u11
 have m7 := hs; clear hs
 refine wp_seq ?_
 refine wp_reg 36 [[(11, none), (10, none)]] [?b8_0] mixed (by kernel_rfl) (by kernel_rfl) hr ?t8 ?o8 ?_
 case o8 =>
  refine oc0 (fun A W hx hf => ?_) ?_
  exact ok_lss (o1 s11 hx (r0 hf)) (o2 s10 e_w6 hx (r1 hf))
  exact OpsOk.nil
 case t8 => exact inferInstance
 clear hr; intro a9 w9 x hr hd hs
 revert s11; revert s3; revert s10; revert s9; revert s0; refine kp5 hs rfl ?_; intro s0 s9 s10 s3 s11
 have s12 := fa ?b8_0 a9 w9 12 (hd 0 12 rfl)
 replace e_w := e_w.trans x
 replace e_w6 := e_w6.trans x
 have e_w7 := x
 replace m7 := m7.tr hs rfl
 clear hd hs x
 refine exit_then ?_
 refine wp_seq ?_
 refine wp_cond_split (show _ = _ from s12) (fun hlt => ?_) (fun hlt => ?_)
 · skip
   have hlt : i < ls.length := by simp at hlt; omega
   refine wp_skip ?_
   refine exit_then ?_
   refine wp_seq ?_
   refine wp_block ?_
   refine wp_seq ?_
   refine wp_reg 36 [[(9, none), (11, none)], [(13, some 0)], [(14, some 1)]] [?b11_0, ?b11_1, ?b11_1] mixed (by kernel_rfl) (by kernel_rfl) hr ?t11 ?o11 ?_
   case o11 =>
    refine oc0 (fun A W hx hf => ?_) ?_
    exact ok_index_bss (_) Try.underlying54 size22 (o2 s9 e_w hx (r0 hf)) (o2 s11 e_w7 hx (r1 hf)) (by first | omega | decide | (simp; done) | (simp; omega))
    refine oc0 (fun A W hx hf => ?_) ?_
    exact ok_loadp Try.underlying22 rfl (q0 ?b11_0 A W 13 hf)
    refine oc0 (fun A W hx hf => ?_) ?_
    exact ok_assign (q0 ?b11_1 A W 14 hf)
    exact OpsOk.nil
   case t11 => exact inferInstance
   clear hr; intro a12 w12 x hr hd hs
   revert s11; revert s3; revert s10; revert s9; revert s0; refine kp5 hs rfl ?_; intro s0 s9 s10 s3 s11
   clear s12
   have s5 := fa ?b11_1 a12 w12 5 (hd 2 5 rfl)
   replace e_w := e_w.trans x
   replace e_w6 := e_w6.trans x
   replace e_w7 := e_w7.trans x
   replace m7 := m7.tr hs rfl
   clear hd hs x
   refine exit_then ?_
   refine wp_seq ?_
   have hs1 := hsum (i + 1); have hs2 := flat_len hlt
   refine wp_reg 36 [[(3, none)], [(5, none)], [(16, some 1)], [(15, some 0), (17, some 2)], [(18, some 3)]] [?b13_0, ?b13_1, ?b13_2, ?b13_3, ?b13_3] mixed (by kernel_rfl) (by kernel_rfl) hr ?t13 ?o13 ?_
   case o13 =>
    refine oc0 (fun A W hx hf => ?_) ?_
    exact ok_movE (a0 := a12) (r0 hf)
    refine oc0 (fun A W hx hf => ?_) ?_
    exact ok_movE (a0 := a12) (r0 hf)
    refine oc0 (fun A W hx hf => ?_) ?_
    exact ok_len_bs Try.underlying22 (p1 s5 hx (q0 ?b13_1 A W 16 hf))
    refine oc0 (fun A W hx hf => ?_) ?_
    exact ok_addI (p2 s3 e_w7 hx (q0 ?b13_0 A W 15 hf)) (q1 ?b13_2 A W 17 hf) (by omega)
    refine oc0 (fun A W hx hf => ?_) ?_
    exact ok_assign (q0 ?b13_3 A W 18 hf)
    exact OpsOk.nil
   case t13 => exact inferInstance
   clear hr; intro a14 w14 x hr hd hs
   revert s11; revert s10; revert s9; revert s0; refine kp4 hs rfl ?_; intro s0 s9 s10 s11
   clear s3 s5
   have s3 := fa ?b13_3 a14 w14 3 (hd 4 3 rfl)
   replace e_w := e_w.trans x
   replace e_w6 := e_w6.trans x
   replace e_w7 := e_w7.trans x
   replace m7 := m7.tr hs rfl
   clear hd hs x
   refine exit_then ?_
   refine wp_seq ?_
   refine wp_reg 36 [[(3, none)], [(19, some 0)]] [?b15_0, ?b15_1] mixed (by kernel_rfl) (by kernel_rfl) hr ?t15 ?o15 ?_
   case o15 =>
    refine oc0 (fun A W hx hf => ?_) ?_
    exact ok_movE (a0 := a14) (r0 hf)
    refine oc0 (fun A W hx hf => ?_) ?_
    exact ok_lss (p1 s3 hx (q0 ?b15_0 A W 19 hf)) (ec A (.int .i64 0))
    exact OpsOk.nil
   case t15 => exact inferInstance
   clear hr; intro a16 w16 x hr hd hs
   revert s3; revert s11; revert s10; revert s9; revert s0; refine kp5 hs rfl ?_; intro s0 s9 s10 s11 s3
   have s20 := fa ?b15_1 a16 w16 20 (hd 1 20 rfl)
   replace e_w := e_w.trans x
   replace e_w6 := e_w6.trans x
   replace e_w7 := e_w7.trans x
   have e_w14 := x
   replace m7 := m7.tr hs rfl
   clear hd hs x
   refine exit_then ?_
   refine wp_cond_split (show _ = _ from s20) (fun hc17 => ?_) (fun hc17 => ?_)
   · skip
     exfalso; simp at hc17; omega
   · skip
     try simp only [decide_eq_true_eq, decide_eq_false_iff_not, Bool.not_eq_true', Bool.not_eq_false', Bool.not_true, Bool.not_false, Bool.and_eq_true, Bool.and_eq_false_iff, Bool.or_eq_true, Bool.or_eq_false_iff, bne_iff_ne, beq_iff_eq, ne_eq, beq_eq_false_iff_ne, bne_eq_false_iff_eq] at hc17
     refine wp_skip ?_
     refine blk_normal ?_
     refine exit_then ?_
     refine wp_reg 36 [[(11, none)], [(22, some 0)]] [?b18_0, ?b18_0] mixed (by kernel_rfl) (by kernel_rfl) hr ?t18 ?o18 ?_
     case o18 =>
      refine oc0 (fun A W hx hf => ?_) ?_
      exact ok_addI (o2 s11 e_w7 hx (r0 hf)) (ec A (.int .i64 1)) (by omega)
      refine oc0 (fun A W hx hf => ?_) ?_
      exact ok_move (q0 ?b18_0 A W 22 hf)
      exact OpsOk.nil
     case t18 => exact inferInstance
     clear hr; intro a19 w19 x hr hd hs
     revert s3; revert s10; revert s9; revert s0; refine kp4 hs rfl ?_; intro s0 s9 s10 s3
     clear s11 s20
     have s11 := fa ?b18_0 a19 w19 11 (hd 1 11 rfl)
     replace e_w := e_w.trans x
     replace e_w6 := e_w6.trans x
     clear e_w7
     replace e_w14 := e_w14.trans x
     replace m7 := m7.tr hs rfl
     clear hd hs x
     refine exit_then ?_
     refine ⟨(fun (i : Nat) => ls.length - i) (i + 1), ?_, ?_⟩
     · (try dsimp only); omega
     refine ⟨i + 1, rfl, hr, m7, e_w, e_w6, (by first | assumption | omega), ?_, ?_⟩
     · exact Is.int (later e_w14 s3) (flat_len hlt)
     · first | exact s11 | exact Is.int s11 (by first | omega | simp) | exact Is.bool s11 (by first | omega | simp)
 · skip
   have hlt : i = ls.length := by simp at hlt; omega
   subst hlt
   refine wp_exit ?_
   refine then_exit ?_
   refine then_exit ?_
   refine blk_exit ?_
   refine exit_then ?_
   refine wp_seq ?_
   refine wp_reg 36 [[(3, none)], [(23, some 0)], [(24, some 1)]] [?b20_0, ?b20_1, ?b20_1] mixed (by kernel_rfl) (by kernel_rfl) hr ?t20 ?o20 ?_
   case o20 =>
    refine oc0 (fun A W hx hf => ?_) ?_
    exact ok_movE (a0 := a9) (r0 hf)
    refine oc0 (fun A W hx hf => ?_) ?_
    exact ok_call2 body27 (c_grow (show Is (.slice none 0 0) (A.eval (.const (.slice none 0 0))) _ from rfl) (p2 s3 e_w7 hx (q0 ?b20_0 A W 23 hf)) hx.size (by rw [List.take_length]; exact hn))
    refine oc0 (fun A W hx hf => ?_) ?_
    exact ok_assign (q0 ?b20_1 A W 24 hf)
    exact OpsOk.nil
   case t20 => exact inferInstance
   clear hr; intro a21 w21 x hr hd hs
   have z_w_w9 := e_w.size
   have z_w6_w9 := e_w6.size
   have z_w7_w9 := e_w7.size
   revert s0; refine kp1 hs rfl ?_; intro s0
   clear s9 s10 s3 s11 s12
   have s6 := fa ?b20_1 a21 w21 6 (hd 2 6 rfl)
   replace e_w := e_w.trans x
   clear e_w6
   clear e_w7
   have e_w9 := x
   clear hd hs x
   refine exit_then ?_
   refine wp_seq ?_
   refine wp_seq ?_
   refine wp_reg 36 [[(0, none)], [(25, some 0)], []] [?b22_0, ?b22_1, ?b22_2] mixed (by kernel_rfl) (by kernel_rfl) hr ?t22 ?o22 ?_
   case o22 =>
    refine oc0 (fun A W hx hf => ?_) ?_
    exact ok_movE (a0 := a21) (r0 hf)
    refine oc0 (fun A W hx hf => ?_) ?_
    exact ok_len_bss Try.underlying54 (p2 s0 e_w hx (q0 ?b22_0 A W 25 hf))
    refine oc0 (fun A W hx hf => ?_) ?_
    exact ok_movec
    exact OpsOk.nil
   case t22 => exact inferInstance
   clear hr; intro a23 w23 x hr hd hs
   have u25 := mv s0 (fa ?b22_0 a23 w23 25 (hd 0 25 rfl))
   revert s6; refine kp1 hs rfl ?_; intro s6
   clear s0
   have s25 := u25; clear u25
   have s26 := fa ?b22_1 a23 w23 26 (hd 1 26 rfl)
   have s27 := fa ?b22_2 a23 w23 27 (hd 2 27 rfl)
   replace e_w := e_w.trans x
   replace e_w9 := e_w9.trans x
   have e_w21 := x
   clear hd hs x
   refine exit_then ?_
   refine wp_block ?_
   refine wp_loop_inv (fun n A W => ∃ (i : Nat), n = ls.length - i ∧ Fr 36 A ∧ Same D_c_concat_1 a23 A ∧ Ext w W ∧ Ext w9 W ∧ (i ≤ ls.length) ∧ (OwnB w9.heap.size 5 (ls.take i).flatten) (A.eval (.tmp 6)) W ∧ (Is (.int .i64 (i : Int))) (A.eval (.tmp 27)) W) ?start24 ?_
   case start24 =>
    refine ⟨_, 0, rfl, hr, Same.rfl, e_w, e_w9, (by first | assumption | omega), ?_, ?_⟩
    · exact (later e_w21 s6)
    · exact s27
   intro n24 a24 w24 hI
   clear e_w
   clear e_w9
   clear e_w21
   clear hr; obtain ⟨i, hn24, hr, hs, e_w, e_w9, hi2, u6, u27⟩ := hI
   revert s26; revert s25; refine kp2 hs rfl ?_; intro s25 s26
   clear s6 s27
   have s6 := u6; clear u6
   have s27 := u27; clear u27
   replace s26 := anyw (w2 := w24) s26
   have m24 := hs; clear hs
   refine wp_seq ?_
   refine wp_reg 36 [[(27, none), (26, none)]] [?b25_0] mixed (by kernel_rfl) (by kernel_rfl) hr ?t25 ?o25 ?_
   case o25 =>
    refine oc0 (fun A W hx hf => ?_) ?_
    exact ok_lss (o1 s27 hx (r0 hf)) (o1 s26 hx (r1 hf))
    exact OpsOk.nil
   case t25 => exact inferInstance
   clear hr; intro a26 w26 x hr hd hs
   revert s26; revert s27; revert s6; revert s25; refine kp4 hs rfl ?_; intro s25 s6 s27 s26
   have s28 := fa ?b25_0 a26 w26 28 (hd 0 28 rfl)
   replace e_w := e_w.trans x
   replace e_w9 := e_w9.trans x
   have e_w24 := x
   replace m24 := m24.tr hs rfl
   clear hd hs x
   refine exit_then ?_
   refine wp_seq ?_
   refine wp_cond_split (show _ = _ from s28) (fun hlt => ?_) (fun hlt => ?_)
   · skip
     have hlt : i < ls.length := by simp at hlt; omega
     refine wp_skip ?_
     refine exit_then ?_
     refine wp_seq ?_
     refine wp_block ?_
     refine wp_seq ?_
     refine wp_reg 36 [[(25, none), (27, none)], [(29, some 0)], [(30, some 1)]] [?b28_0, ?b28_1, ?b28_1] mixed (by kernel_rfl) (by kernel_rfl) hr ?t28 ?o28 ?_
     case o28 =>
      refine oc0 (fun A W hx hf => ?_) ?_
      exact ok_index_bss (_) Try.underlying54 size22 (o2 s25 e_w hx (r0 hf)) (o2 s27 e_w24 hx (r1 hf)) (by first | omega | decide | (simp; done) | (simp; omega))
      refine oc0 (fun A W hx hf => ?_) ?_
      exact ok_loadp Try.underlying22 rfl (q0 ?b28_0 A W 29 hf)
      refine oc0 (fun A W hx hf => ?_) ?_
      exact ok_assign (q0 ?b28_1 A W 30 hf)
      exact OpsOk.nil
     case t28 => exact inferInstance
     clear hr; intro a29 w29 x hr hd hs
     revert s26; revert s27; revert s6; revert s25; refine kp4 hs rfl ?_; intro s25 s6 s27 s26
     clear s28
     have s8 := fa ?b28_1 a29 w29 8 (hd 2 8 rfl)
     replace e_w := e_w.trans x
     replace e_w9 := e_w9.trans x
     replace e_w24 := e_w24.trans x
     replace m24 := m24.tr hs rfl
     clear hd hs x
     refine exit_then ?_
     have hs1 := hsum (i + 1); have hs2 := flat_len hlt
     refine wp_reg_pre (l := [_, _]) (rest := [_, _]) 36 [[(6, none)], [(8, none)]] [?b30_0, ?b30_1] (by kernel_rfl) (by kernel_rfl) hr ?t30 ?o30 ?_
     case o30 =>
      refine oc0 (fun A W hx hf => ?_) ?_
      exact ok_movE (a0 := a29) (r0 hf)
      refine oc0 (fun A W hx hf => ?_) ?_
      exact ok_movE (a0 := a29) (r0 hf)
      exact OpsOk.nil
     case t30 => exact inferInstance
     clear hr; intro a31 w31 x hr hd hs
     have u31 := mv s6 (fa ?b30_0 a31 w31 31 (hd 0 31 rfl))
     have u32 := mv s8 (fa ?b30_1 a31 w31 32 (hd 1 32 rfl))
     revert s26; revert s27; revert s6; revert s25; refine kp4 hs rfl ?_; intro s25 s6 s27 s26
     clear s8
     have s31 := u31; clear u31
     have s32 := u32; clear u32
     replace e_w := e_w.trans x
     replace e_w9 := e_w9.trans x
     replace e_w24 := e_w24.trans x
     have e_w29 := x
     replace m24 := m24.tr hs rfl
     clear hd hs x
     refine wl_append_bs hr (by decide) Try.underlying22 info5 rfl (later e_w24 s31) (later e_w29 s32) e_w9.size (by have e1 := congrArg List.length (tot_next hlt); simp only [List.length_append] at e1; omega) ?_; clear hr; intro a32 w32 hb hr hd hs
     revert s26; revert s27; revert s6; revert s25; refine kp4 hs rfl ?_; intro s25 s6 s27 s26
     clear s31 s32
     have s33 := hd
     replace e_w := e_w.below z_w_w9 hb
     replace e_w9 := e_w9.below (Nat.le_refl _) hb
     clear e_w24
     clear e_w29
     replace s27 := anyw (w2 := w32) s27
     replace s26 := anyw (w2 := w32) s26
     replace m24 := m24.tr hs rfl
     clear hd hs hb
     refine wl_op hr (ok_assign s33) inferInstance ?_; clear hr; intro a33 w33 x hr hd hs
     revert s26; revert s27; revert s25; refine kp3 hs rfl ?_; intro s25 s27 s26
     clear s33
     have s6 := hd 6 rfl (by decide)
     replace e_w := e_w.trans x
     replace e_w9 := e_w9.trans x
     have e_w32 := x
     replace m24 := m24.tr hs rfl
     clear hd hs x
     refine wpList_nil ?_
     refine blk_normal ?_
     refine exit_then ?_
     refine wp_reg 36 [[(27, none)], [(34, some 0)]] [?b34_0, ?b34_0] mixed (by kernel_rfl) (by kernel_rfl) hr ?t34 ?o34 ?_
     case o34 =>
      refine oc0 (fun A W hx hf => ?_) ?_
      exact ok_addI (o2 s27 e_w32 hx (r0 hf)) (ec A (.int .i64 1)) (by omega)
      refine oc0 (fun A W hx hf => ?_) ?_
      exact ok_move (q0 ?b34_0 A W 34 hf)
      exact OpsOk.nil
     case t34 => exact inferInstance
     clear hr; intro a35 w35 x hr hd hs
     revert s6; revert s26; revert s25; refine kp3 hs rfl ?_; intro s25 s26 s6
     clear s27
     have s27 := fa ?b34_0 a35 w35 27 (hd 1 27 rfl)
     replace e_w := e_w.trans x
     replace e_w9 := e_w9.trans x
     replace e_w32 := e_w32.trans x
     have e_w33 := x
     replace m24 := m24.tr hs rfl
     clear hd hs x
     refine exit_then ?_
     refine ⟨(fun (i : Nat) => ls.length - i) (i + 1), ?_, ?_⟩
     · (try dsimp only); omega
     refine ⟨i + 1, rfl, hr, m24, e_w, e_w9, (by first | assumption | omega), ?_, ?_⟩
     · rw [tot_next hlt]; exact (later e_w33 s6)
     · first | exact s27 | exact Is.int s27 (by first | omega | simp) | exact Is.bool s27 (by first | omega | simp)
   · skip
     have hlt : i = ls.length := by simp at hlt; omega
     subst hlt
     refine wp_exit ?_
     refine then_exit ?_
     refine then_exit ?_
     refine blk_exit ?_
     refine exit_then ?_
     refine wp_seq ?_
     refine wp_reg 36 [[(6, none)], [(35, some 0)]] [?b36_0, ?b36_0] mixed (by kernel_rfl) (by kernel_rfl) hr ?t36 ?o36 ?_
     case o36 =>
      refine oc0 (fun A W hx hf => ?_) ?_
      exact ok_movE (a0 := a26) (r0 hf)
      refine oc0 (fun A W hx hf => ?_) ?_
      exact ok_assign (q0 ?b36_0 A W 35 hf)
      exact OpsOk.nil
     case t36 => exact inferInstance
     clear hr; intro a37 w37 x hr hd hs
     have u2 := mv s6 (fa ?b36_0 a37 w37 2 (hd 1 2 rfl))
     clear s25 s6 s27 s26 s28
     have s2 := u2; clear u2
     replace e_w := e_w.trans x
     replace e_w9 := e_w9.trans x
     replace e_w24 := e_w24.trans x
     clear hd hs x
     refine exit_then ?_
     refine wp_ret ?_
     refine ret_tmp Try.results23 hr e_w ?_
     (rw [List.take_length] at s2; exact OwnB.mono (later e_w24 s2) (Nat.le_trans hB (by assumption)))

end Go.Proofs.Ytdbjpfjnambenaa
