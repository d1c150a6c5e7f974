import Derived.Test.YtehhjmcdpcilfaaC08a
namespace Go.Proofs.Ytehhjmcdpcilfaa
open Go.RowKit
set_option linter.unusedVariables false
set_option maxRecDepth 4000
def D_c_four_Read_0 : List Tmp := [21, 27, 28]
theorem c_four_Read {x0 : Value} {w : World} {l : List UInt8} (h0 : (Bs l) x0 w)  :
    Calls Try.prog 10 #[x0] w (Ret (Tup2 (Is (FourV (fourRead l).1)) (Is (.int .i64 (fourRead l).2))) w) := by
 have hlen := Bs.len_le h0
 have b0 := byteAt_bd l 0
 have w2 := wordAt_bd l 2
 have w6 := wordAt_bd l 6
 refine enter Try.func10 rfl Try.ntmps10 (k := 1) rfl (by decide) (fun a0 hr hargs => ?_)
 have s0 := sarg h0 (hargs 0 (by decide))
 clear hargs
 refine wp_seq ?_
 refine wp_reg 84 [[], []] [?b1_0, ?b1_1] mixed (by kernel_rfl) (by kernel_rfl) hr ?t1 ?o1 ?_
 case o1 =>
  refine oc0 (fun A W hx hf => ?_) ?_
  exact ok_allocS [(fourS four0).flatten] [42] zerov28 (by rfl) (by rfl) hx.size
  refine oc0 (fun A W hx hf => ?_) ?_
  exact ok_assignc
  exact OpsOk.nil
 case t1 => exact inferInstance
 clear hr; intro a2 w2 x hr hd hs
 revert s0; refine kp1 hs rfl ?_; intro s0
 have s2 := fa ?b1_0 a2 w2 2 (hd 0 2 rfl)
 obtain ⟨g2_2, q2_2⟩ := PxN.at s2; clear s2; have n2_2 := PxS.lt q2_2
 have s2 := q2_2; clear q2_2
 have e_w := x
 clear hd hs x
 refine exit_then ?_
 refine wp_seq ?_
 refine wp_seq ?_
 refine wp_reg 84 [[(0, none)], [(7, some 0)], [(8, some 1)]] [?b3_0, ?b3_1, ?b3_2] mixed (by kernel_rfl) (by kernel_rfl) hr ?t3 ?o3 ?_
 case o3 =>
  refine oc0 (fun A W hx hf => ?_) ?_
  exact ok_movE (a0 := a2) (r0 hf)
  refine oc0 (fun A W hx hf => ?_) ?_
  exact ok_len_bs Try.underlying22 (p2 s0 e_w hx (q0 ?b3_0 A W 7 hf))
  refine oc0 (fun A W hx hf => ?_) ?_
  exact ok_lss (q0 ?b3_1 A W 8 hf) (ec A (.int .i64 20))
  exact OpsOk.nil
 case t3 => exact inferInstance
 clear hr; intro a4 w4 x hr hd hs
 revert s0 s2; refine kp2 hs rfl ?_; intro s0 s2
 have s9 := fa ?b3_2 a4 w4 9 (hd 2 9 rfl)
 replace e_w := e_w.trans x
 have e_w2 := x
 clear hd hs x
 refine exit_then ?_
 refine wp_cond_split (show _ = _ from s9) (fun hl => ?_) (fun hl => ?_)
 · skip
   have hl : l.length < 20 := by simp at hl; omega
   have hrd : fourRead l = (four0, 2) := by unfold fourRead; rw [if_pos hl]
   refine wp_seq ?_
   refine wp_reg_pre (l := [_]) (rest := [_, _]) 84 [[]] [?b6_0] (by kernel_rfl) (by kernel_rfl) hr ?t6 ?o6 ?_
   case o6 =>
    refine oc0 (fun A W hx hf => ?_) ?_
    exact ok_build0 built28
    exact OpsOk.nil
   case t6 => exact inferInstance
   clear hr; intro a7 w7 x hr hd hs
   revert s2; refine kp1 hs rfl ?_; intro s2
   clear s0 s9
   have s10 := fa ?b6_0 a7 w7 10 (hd 0 10 rfl)
   replace e_w := e_w.trans x
   replace e_w2 := e_w2.trans x
   clear hd hs x
   have z8 := PxS.lt (later e_w2 s2)
   have l8 := (show (g2_2 = 0 ∨ w.heap.size < g2_2) ∧ True from ⟨by omega, trivial⟩)
   refine wl_storeSn hr size28 (later e_w2 s2) s10 (by exact four_len four0_ok) (by exact four_one) rfl ?_; clear hr; intro a8 w8 hc hu hr hs
   have hb : Below w.heap.size w7 w8 := hc.below e_w.size l8.1
   revert s2; refine kp1 hs rfl ?_; intro s2
   clear s10
   replace s2 := hu _ _ _ (later e_w2 s2)
   try simp only [List.set_cons_zero, List.set_cons_succ] at s2
   replace e_w := e_w.below (Nat.le_refl _) hb
   clear e_w2
   clear hu hs hc hb
   refine wl_op hr (ok_assignc) inferInstance ?_; clear hr; intro a9 w9 x hr hd hs
   revert s2; refine kp1 hs rfl ?_; intro s2
   have s3 := hd 3 rfl (by decide)
   replace e_w := e_w.trans x
   have e_w8 := x
   clear hd hs x
   refine wpList_nil ?_
   refine exit_then ?_
   refine wp_ret ?_
   refine then_ret ?_
   refine ret_cell_tmp Try.results10 hr Try.underlying28 rfl size28 (later e_w8 s2) e_w ?_
   (rw [hrd]; exact ⟨_, _, rfl, rfl, s3⟩)
 · skip
   have hl : ¬ l.length < 20 := by simp at hl; omega
   have e0 : (l[0]'(by omega)).toNat = byteAt l 0 := (byteAt_get (by omega)).symm
   have e1 : (l[1]'(by omega)).toNat = byteAt l 1 := (byteAt_get (by omega)).symm
   have e8 : (l[8]'(by omega)).toNat = byteAt l 8 := (byteAt_get (by omega)).symm
   have e9 : (l[9]'(by omega)).toNat = byteAt l 9 := (byteAt_get (by omega)).symm
   refine wp_skip ?_
   refine exit_then ?_
   refine wp_seq ?_
   refine wp_reg 84 [[(0, none)], [(11, some 0)], [(12, some 1)], [(13, some 2)], [(14, some 3)], [(15, some 4)], [(0, none)], [(17, some 6)], [(0, none)], [(19, some 8)], [(16, some 5)], [(18, some 7)], [(20, some 9)]] [?b10_0, ?b10_1, ?b10_2, ?b10_3, ?b10_4, ?b10_5, ?b10_6, ?b10_7, ?b10_8, ?b10_9, ?b10_5, ?b10_7, ?b10_9] mixed (by kernel_rfl) (by kernel_rfl) hr ?t10 ?o10 ?_
   case o10 =>
    refine oc0 (fun A W hx hf => ?_) ?_
    exact ok_movE (a0 := a4) (r0 hf)
    refine oc0 (fun A W hx hf => ?_) ?_
    exact ok_index_bs (0) Try.underlying22 size5 (p2 s0 e_w hx (q0 ?b10_0 A W 11 hf)) (ec A (.int .i64 0)) (by first | omega | decide | (simp; done) | (simp; omega))
    refine oc0 (fun A W hx hf => ?_) ?_
    exact ok_loadp Try.underlying5 rfl (q0 ?b10_1 A W 12 hf)
    refine oc0 (fun A W hx hf => ?_) ?_
    exact ok_andm 4 (by decide) (q0 ?b10_2 A W 13 hf) (ec A (.int .u8 15)) (by decide) (by exact mask_u8 _)
    refine oc0 (fun A W hx hf => ?_) ?_
    exact ok_convI Try.underlying5 Try.underlying3 (by exact IntWalk.i64_in _ (by omega)) (q0 ?b10_3 A W 14 hf)
    refine oc0 (fun A W hx hf => ?_) ?_
    exact ok_mulI (q0 ?b10_4 A W 15 hf) (ec A (.int .i64 4)) (by omega)
    refine oc0 (fun A W hx hf => ?_) ?_
    exact ok_movE (a0 := a4) (r0 hf)
    refine oc0 (fun A W hx hf => ?_) ?_
    exact ok_call2 body18 (c_two (p2 s0 e_w hx (q0 ?b10_6 A W 17 hf)) (show Is (.int .i64 2) (A.eval (.const (.int .i64 2))) _ from rfl) (by decide) (by omega))
    refine oc0 (fun A W hx hf => ?_) ?_
    exact ok_movE (a0 := a4) (r0 hf)
    refine oc0 (fun A W hx hf => ?_) ?_
    exact ok_call2 body18 (c_two (p2 s0 e_w hx (q0 ?b10_8 A W 19 hf)) (show Is (.int .i64 6) (A.eval (.const (.int .i64 6))) _ from rfl) (by decide) (by omega))
    refine oc0 (fun A W hx hf => ?_) ?_
    exact ok_assign (q0 ?b10_5 A W 16 hf)
    refine oc0 (fun A W hx hf => ?_) ?_
    exact ok_assign (q0 ?b10_7 A W 18 hf)
    refine oc0 (fun A W hx hf => ?_) ?_
    exact ok_assign (q0 ?b10_9 A W 20 hf)
    exact OpsOk.nil
   case t10 => exact inferInstance
   clear hr; intro a11 w11 x hr hd hs
   revert s0 s2; refine kp2 hs rfl ?_; intro s0 s2
   clear s9
   have s4 := fa ?b10_5 a11 w11 4 (hd 10 4 rfl)
   have s5 := fa ?b10_7 a11 w11 5 (hd 11 5 rfl)
   have s6 := fa ?b10_9 a11 w11 6 (hd 12 6 rfl)
   replace e_w := e_w.trans x
   replace e_w2 := e_w2.trans x
   clear hd hs x
   replace s4 := Is.int s4 (show _ = byteAt l 0 % 16 * 4 from by rw [e0]; rfl)
   refine exit_then ?_
   refine wp_seq ?_
   refine wp_block ?_
   refine wp_seq ?_
   refine wp_seq ?_
   refine wp_reg 84 [[(0, none)], [(22, some 0)], [(23, some 1)], [(24, some 2)], [(25, some 3)], [(26, some 4)]] [?b12_0, ?b12_1, ?b12_2, ?b12_3, ?b12_4, ?b12_4] mixed (by kernel_rfl) (by kernel_rfl) hr ?t12 ?o12 ?_
   case o12 =>
    refine oc0 (fun A W hx hf => ?_) ?_
    exact ok_movE (a0 := a11) (r0 hf)
    refine oc0 (fun A W hx hf => ?_) ?_
    exact ok_index_bs (0) Try.underlying22 size5 (p2 s0 e_w hx (q0 ?b12_0 A W 22 hf)) (ec A (.int .i64 0)) (by first | omega | decide | (simp; done) | (simp; omega))
    refine oc0 (fun A W hx hf => ?_) ?_
    exact ok_loadp Try.underlying5 rfl (q0 ?b12_1 A W 23 hf)
    refine oc0 (fun A W hx hf => ?_) ?_
    exact ok_shr 4 (by decide) (q0 ?b12_2 A W 24 hf) (ec A (.int .u64 4))
    refine oc0 (fun A W hx hf => ?_) ?_
    exact ok_neq (q0 ?b12_3 A W 25 hf) (ec A (.int .u8 4))
    refine oc0 (fun A W hx hf => ?_) ?_
    exact ok_assign (q0 ?b12_4 A W 26 hf)
    exact OpsOk.nil
   case t12 => exact inferInstance
   clear hr; intro a13 w13 x hr hd hs
   revert s0 s2 s5 s6 s4; refine kp5 hs rfl ?_; intro s0 s2 s5 s6 s4
   have s21 := fa ?b12_4 a13 w13 21 (hd 5 21 rfl)
   replace e_w := e_w.trans x
   replace e_w2 := e_w2.trans x
   have e_w11 := x
   clear hd hs x
   refine exit_then ?_
   refine wp_cut (fun A W => Fr 84 A ∧ Same D_c_four_Read_0 a13 A ∧ Ext w W ∧ (Is (.bool (decide (byteAt l 0 / 16 ≠ 4 ∨ byteAt l 0 % 16 * 4 < 20)))) (A.eval (.tmp 21)) W ∧ (PxS g2_2 w.heap.size [42] [(fourS four0).flatten] 0) (A.eval (.tmp 2)) W) ?cut14 ?_
   case cut14 =>
    have m14 : Same D_c_four_Read_0 a13 a13 := Same.rfl
    refine wp_cond_split (show _ = _ from s21) (fun hv => ?_) (fun hv => ?_)
    · skip
      skip
      refine wp_skip ?_
      refine exit_then ?_
      refine ⟨hr, m14, e_w, ?_, ?_⟩
      · first | exact Is.bool s21 (read_c1 e0 hv) | exact Is.bool s21 (read_c2 e0 hv)
      · exact (later e_w2 s2)
    · skip
      skip
      refine wp_reg 84 [[(4, none)], [(27, some 0)], [(28, some 1)]] [?b16_0, ?b16_1, ?b16_1] mixed (by kernel_rfl) (by kernel_rfl) hr ?t16 ?o16 ?_
      case o16 =>
       refine oc0 (fun A W hx hf => ?_) ?_
       exact ok_movE (a0 := a13) (r0 hf)
       refine oc0 (fun A W hx hf => ?_) ?_
       exact ok_lss (p2 s4 e_w11 hx (q0 ?b16_0 A W 27 hf)) (ec A (.int .i64 20))
       refine oc0 (fun A W hx hf => ?_) ?_
       exact ok_assign (q0 ?b16_1 A W 28 hf)
       exact OpsOk.nil
      case t16 => exact inferInstance
      clear hr; intro a17 w17 x hr hd hs
      revert s0 s2 s5 s6 s4; refine kp5 hs rfl ?_; intro s0 s2 s5 s6 s4
      clear s21
      have s21 := fa ?b16_1 a17 w17 21 (hd 2 21 rfl)
      replace e_w := e_w.trans x
      replace e_w2 := e_w2.trans x
      replace e_w11 := e_w11.trans x
      replace m14 := m14.tr hs rfl
      clear hd hs x
      refine exit_then ?_
      refine ⟨hr, m14, e_w, ?_, ?_⟩
      · first | exact Is.bool s21 (read_c1 e0 hv) | exact Is.bool s21 (read_c2 e0 hv)
      · exact (later e_w2 s2)
   intro a14 w14 hI
   clear e_w
   clear e_w2
   clear e_w11
   clear hr; obtain ⟨hr, hs, e_w, u21, u2⟩ := hI
   revert s0 s5 s6 s4; refine kp4 hs rfl ?_; intro s0 s5 s6 s4
   clear s2 s21
   have s21 := u21; clear u21
   have s2 := u2; clear u2
   replace s5 := anyw (w2 := w14) s5
   replace s6 := anyw (w2 := w14) s6
   replace s4 := anyw (w2 := w14) s4
   clear hs
   refine wp_cond_split (show _ = _ from s21) (fun hv => ?_) (fun hv => ?_)
   · skip
     have hv := of_decide_eq_true hv
     have hrd : fourRead l = (four0, 3) := by unfold fourRead; rw [if_neg hl, if_pos hv]
     refine wp_seq ?_
     refine wp_reg_pre (l := [_]) (rest := [_, _]) 84 [[]] [?b19_0] (by kernel_rfl) (by kernel_rfl) hr ?t19 ?o19 ?_
     case o19 =>
      refine oc0 (fun A W hx hf => ?_) ?_
      exact ok_build0 built28
      exact OpsOk.nil
     case t19 => exact inferInstance
     clear hr; intro a20 w20 x hr hd hs
     revert s2; refine kp1 hs rfl ?_; intro s2
     clear s0 s21 s5 s6 s4
     have s29 := fa ?b19_0 a20 w20 29 (hd 0 29 rfl)
     replace e_w := e_w.trans x
     have e_w14 := x
     clear hd hs x
     have z21 := PxS.lt (later e_w14 s2)
     have l21 := (show (g2_2 = 0 ∨ w.heap.size < g2_2) ∧ True from ⟨by omega, trivial⟩)
     refine wl_storeSn hr size28 (later e_w14 s2) s29 (by exact four_len four0_ok) (by exact four_one) rfl ?_; clear hr; intro a21 w21 hc hu hr hs
     have hb : Below w.heap.size w20 w21 := hc.below e_w.size l21.1
     revert s2; refine kp1 hs rfl ?_; intro s2
     clear s29
     replace s2 := hu _ _ _ (later e_w14 s2)
     try simp only [List.set_cons_zero, List.set_cons_succ] at s2
     replace e_w := e_w.below (Nat.le_refl _) hb
     clear e_w14
     clear hu hs hc hb
     refine wl_op hr (ok_assignc) inferInstance ?_; clear hr; intro a22 w22 x hr hd hs
     revert s2; refine kp1 hs rfl ?_; intro s2
     have s3 := hd 3 rfl (by decide)
     replace e_w := e_w.trans x
     have e_w21 := x
     clear hd hs x
     refine wpList_nil ?_
     refine exit_then ?_
     refine wp_ret ?_
     refine blk_ret ?_
     refine then_ret ?_
     refine ret_cell_tmp Try.results10 hr Try.underlying28 rfl size28 (later e_w21 s2) e_w ?_
     (rw [hrd]; exact ⟨_, _, rfl, rfl, s3⟩)
   · skip
     have hv := of_decide_eq_false hv
     refine wp_seq ?_
     refine wp_reg 84 [[(4, none)], [(0, none)], [(32, some 1)], [(31, some 0), (33, some 2)], [(34, some 3)]] [?b23_0, ?b23_1, ?b23_2, ?b23_3, ?b23_3] mixed (by kernel_rfl) (by kernel_rfl) hr ?t23 ?o23 ?_
     case o23 =>
      refine oc0 (fun A W hx hf => ?_) ?_
      exact ok_movE (a0 := a14) (r0 hf)
      refine oc0 (fun A W hx hf => ?_) ?_
      exact ok_movE (a0 := a14) (r0 hf)
      refine oc0 (fun A W hx hf => ?_) ?_
      exact ok_len_bs Try.underlying22 (p2 s0 e_w hx (q0 ?b23_1 A W 32 hf))
      refine oc0 (fun A W hx hf => ?_) ?_
      exact ok_gtr (p1 s4 hx (q0 ?b23_0 A W 31 hf)) (q1 ?b23_2 A W 33 hf)
      refine oc0 (fun A W hx hf => ?_) ?_
      exact ok_assign (q0 ?b23_3 A W 34 hf)
      exact OpsOk.nil
     case t23 => exact inferInstance
     clear hr; intro a24 w24 x hr hd hs
     revert s0 s2 s5 s6 s4; refine kp5 hs rfl ?_; intro s0 s2 s5 s6 s4
     clear s21
     have s30 := fa ?b23_3 a24 w24 30 (hd 4 30 rfl)
     replace e_w := e_w.trans x
     have e_w14 := x
     clear hd hs x
     refine exit_then ?_
     refine wp_cond_split (show _ = _ from s30) (fun hh => ?_) (fun hh => ?_)
     · skip
       have hh : byteAt l 0 % 16 * 4 > (l.length : Int) := by simpa using hh
       have hrd : fourRead l = (four0, 2) := by unfold fourRead; rw [if_neg hl, if_neg hv, if_pos hh]
       refine wp_seq ?_
       refine wp_reg_pre (l := [_]) (rest := [_, _]) 84 [[]] [?b26_0] (by kernel_rfl) (by kernel_rfl) hr ?t26 ?o26 ?_
       case o26 =>
        refine oc0 (fun A W hx hf => ?_) ?_
        exact ok_build0 built28
        exact OpsOk.nil
       case t26 => exact inferInstance
       clear hr; intro a27 w27 x hr hd hs
       revert s2; refine kp1 hs rfl ?_; intro s2
       clear s0 s5 s6 s4 s30
       have s35 := fa ?b26_0 a27 w27 35 (hd 0 35 rfl)
       replace e_w := e_w.trans x
       replace e_w14 := e_w14.trans x
       clear hd hs x
       have z28 := PxS.lt (later e_w14 s2)
       have l28 := (show (g2_2 = 0 ∨ w.heap.size < g2_2) ∧ True from ⟨by omega, trivial⟩)
       refine wl_storeSn hr size28 (later e_w14 s2) s35 (by exact four_len four0_ok) (by exact four_one) rfl ?_; clear hr; intro a28 w28 hc hu hr hs
       have hb : Below w.heap.size w27 w28 := hc.below e_w.size l28.1
       revert s2; refine kp1 hs rfl ?_; intro s2
       clear s35
       replace s2 := hu _ _ _ (later e_w14 s2)
       try simp only [List.set_cons_zero, List.set_cons_succ] at s2
       replace e_w := e_w.below (Nat.le_refl _) hb
       clear e_w14
       clear hu hs hc hb
       refine wl_op hr (ok_assignc) inferInstance ?_; clear hr; intro a29 w29 x hr hd hs
       revert s2; refine kp1 hs rfl ?_; intro s2
       have s3 := hd 3 rfl (by decide)
       replace e_w := e_w.trans x
       have e_w28 := x
       clear hd hs x
       refine wpList_nil ?_
       refine exit_then ?_
       refine wp_ret ?_
       refine blk_ret ?_
       refine then_ret ?_
       refine ret_cell_tmp Try.results10 hr Try.underlying28 rfl size28 (later e_w28 s2) e_w ?_
       (rw [hrd]; exact ⟨_, _, rfl, rfl, s3⟩)
     · skip
       have hh : ¬ byteAt l 0 % 16 * 4 > (l.length : Int) := by simpa using hh
       refine wp_seq ?_
       refine wp_reg 84 [[(5, none)], [(4, none)], [(37, some 0), (38, some 1)], [(39, some 2)]] [?b30_0, ?b30_1, ?b30_2, ?b30_2] mixed (by kernel_rfl) (by kernel_rfl) hr ?t30 ?o30 ?_
       case o30 =>
        refine oc0 (fun A W hx hf => ?_) ?_
        exact ok_movE (a0 := a24) (r0 hf)
        refine oc0 (fun A W hx hf => ?_) ?_
        exact ok_movE (a0 := a24) (r0 hf)
        refine oc0 (fun A W hx hf => ?_) ?_
        exact ok_lss (p2 s5 e_w14 hx (q0 ?b30_0 A W 37 hf)) (p2 s4 e_w14 hx (q1 ?b30_1 A W 38 hf))
        refine oc0 (fun A W hx hf => ?_) ?_
        exact ok_assign (q0 ?b30_2 A W 39 hf)
        exact OpsOk.nil
       case t30 => exact inferInstance
       clear hr; intro a31 w31 x hr hd hs
       revert s0 s2 s5 s6 s4; refine kp5 hs rfl ?_; intro s0 s2 s5 s6 s4
       clear s30
       have s36 := fa ?b30_2 a31 w31 36 (hd 3 36 rfl)
       replace e_w := e_w.trans x
       replace e_w14 := e_w14.trans x
       clear hd hs x
       refine exit_then ?_
       refine wp_cond_split (show _ = _ from s36) (fun ht => ?_) (fun ht => ?_)
       · skip
         have ht : wordAt l 2 < byteAt l 0 % 16 * 4 := by simpa using ht
         have hrd : fourRead l = (four0, 3) := by unfold fourRead; rw [if_neg hl, if_neg hv, if_neg hh, if_pos ht]
         refine wp_seq ?_
         refine wp_reg_pre (l := [_]) (rest := [_, _]) 84 [[]] [?b33_0] (by kernel_rfl) (by kernel_rfl) hr ?t33 ?o33 ?_
         case o33 =>
          refine oc0 (fun A W hx hf => ?_) ?_
          exact ok_build0 built28
          exact OpsOk.nil
         case t33 => exact inferInstance
         clear hr; intro a34 w34 x hr hd hs
         revert s2; refine kp1 hs rfl ?_; intro s2
         clear s0 s5 s6 s4 s36
         have s40 := fa ?b33_0 a34 w34 40 (hd 0 40 rfl)
         replace e_w := e_w.trans x
         replace e_w14 := e_w14.trans x
         clear hd hs x
         have z35 := PxS.lt (later e_w14 s2)
         have l35 := (show (g2_2 = 0 ∨ w.heap.size < g2_2) ∧ True from ⟨by omega, trivial⟩)
         refine wl_storeSn hr size28 (later e_w14 s2) s40 (by exact four_len four0_ok) (by exact four_one) rfl ?_; clear hr; intro a35 w35 hc hu hr hs
         have hb : Below w.heap.size w34 w35 := hc.below e_w.size l35.1
         revert s2; refine kp1 hs rfl ?_; intro s2
         clear s40
         replace s2 := hu _ _ _ (later e_w14 s2)
         try simp only [List.set_cons_zero, List.set_cons_succ] at s2
         replace e_w := e_w.below (Nat.le_refl _) hb
         clear e_w14
         clear hu hs hc hb
         refine wl_op hr (ok_assignc) inferInstance ?_; clear hr; intro a36 w36 x hr hd hs
         revert s2; refine kp1 hs rfl ?_; intro s2
         have s3 := hd 3 rfl (by decide)
         replace e_w := e_w.trans x
         have e_w35 := x
         clear hd hs x
         refine wpList_nil ?_
         refine exit_then ?_
         refine wp_ret ?_
         refine blk_ret ?_
         refine then_ret ?_
         refine ret_cell_tmp Try.results10 hr Try.underlying28 rfl size28 (later e_w35 s2) e_w ?_
         (rw [hrd]; exact ⟨_, _, rfl, rfl, s3⟩)
       · skip
         have ht : ¬ wordAt l 2 < byteAt l 0 % 16 * 4 := by simpa using ht
         refine wp_seq ?_
         refine wp_reg 84 [[(5, none)], [(0, none)], [(43, some 1)], [(42, some 0), (44, some 2)], [(45, some 3)]] [?b37_0, ?b37_1, ?b37_2, ?b37_3, ?b37_3] mixed (by kernel_rfl) (by kernel_rfl) hr ?t37 ?o37 ?_
         case o37 =>
          refine oc0 (fun A W hx hf => ?_) ?_
          exact ok_movE (a0 := a31) (r0 hf)
          refine oc0 (fun A W hx hf => ?_) ?_
          exact ok_movE (a0 := a31) (r0 hf)
          refine oc0 (fun A W hx hf => ?_) ?_
          exact ok_len_bs Try.underlying22 (p2 s0 e_w hx (q0 ?b37_1 A W 43 hf))
          refine oc0 (fun A W hx hf => ?_) ?_
          exact ok_gtr (p2 s5 e_w14 hx (q0 ?b37_0 A W 42 hf)) (q1 ?b37_2 A W 44 hf)
          refine oc0 (fun A W hx hf => ?_) ?_
          exact ok_assign (q0 ?b37_3 A W 45 hf)
          exact OpsOk.nil
         case t37 => exact inferInstance
         clear hr; intro a38 w38 x hr hd hs
         revert s0 s2 s5 s6 s4; refine kp5 hs rfl ?_; intro s0 s2 s5 s6 s4
         clear s36
         have s41 := fa ?b37_3 a38 w38 41 (hd 4 41 rfl)
         replace e_w := e_w.trans x
         replace e_w14 := e_w14.trans x
         clear hd hs x
         refine exit_then ?_
         refine wp_cond_split (show _ = _ from s41) (fun hu => ?_) (fun hu => ?_)
         · skip
           have hu : wordAt l 2 > (l.length : Int) := by simpa using hu
           have hrd : fourRead l = (four0, 2) := by unfold fourRead; rw [if_neg hl, if_neg hv, if_neg hh, if_neg ht, if_pos hu]
           refine wp_seq ?_
           refine wp_reg_pre (l := [_]) (rest := [_, _]) 84 [[]] [?b40_0] (by kernel_rfl) (by kernel_rfl) hr ?t40 ?o40 ?_
           case o40 =>
            refine oc0 (fun A W hx hf => ?_) ?_
            exact ok_build0 built28
            exact OpsOk.nil
           case t40 => exact inferInstance
           clear hr; intro a41 w41 x hr hd hs
           revert s2; refine kp1 hs rfl ?_; intro s2
           clear s0 s5 s6 s4 s41
           have s46 := fa ?b40_0 a41 w41 46 (hd 0 46 rfl)
           replace e_w := e_w.trans x
           replace e_w14 := e_w14.trans x
           clear hd hs x
           have z42 := PxS.lt (later e_w14 s2)
           have l42 := (show (g2_2 = 0 ∨ w.heap.size < g2_2) ∧ True from ⟨by omega, trivial⟩)
           refine wl_storeSn hr size28 (later e_w14 s2) s46 (by exact four_len four0_ok) (by exact four_one) rfl ?_; clear hr; intro a42 w42 hc hu hr hs
           have hb : Below w.heap.size w41 w42 := hc.below e_w.size l42.1
           revert s2; refine kp1 hs rfl ?_; intro s2
           clear s46
           replace s2 := hu _ _ _ (later e_w14 s2)
           try simp only [List.set_cons_zero, List.set_cons_succ] at s2
           replace e_w := e_w.below (Nat.le_refl _) hb
           clear e_w14
           clear hu hs hc hb
           refine wl_op hr (ok_assignc) inferInstance ?_; clear hr; intro a43 w43 x hr hd hs
           revert s2; refine kp1 hs rfl ?_; intro s2
           have s3 := hd 3 rfl (by decide)
           replace e_w := e_w.trans x
           have e_w42 := x
           clear hd hs x
           refine wpList_nil ?_
           refine exit_then ?_
           refine wp_ret ?_
           refine blk_ret ?_
           refine then_ret ?_
           refine ret_cell_tmp Try.results10 hr Try.underlying28 rfl size28 (later e_w42 s2) e_w ?_
           (rw [hrd]; exact ⟨_, _, rfl, rfl, s3⟩)
         · skip
           have hu : ¬ wordAt l 2 > (l.length : Int) := by simpa using hu
           refine wp_seq ?_
           refine wp_reg 84 [[(0, none)], [(4, none)], [(48, some 0), (49, some 1)], [(50, some 2)], [(51, some 3)], [(52, some 4)], [(53, some 5)]] [?b44_0, ?b44_1, ?b44_2, ?b44_3, ?b44_4, ?b44_5, ?b44_5] mixed (by kernel_rfl) (by kernel_rfl) hr ?t44 ?o44 ?_
           case o44 =>
            refine oc0 (fun A W hx hf => ?_) ?_
            exact ok_movE (a0 := a38) (r0 hf)
            refine oc0 (fun A W hx hf => ?_) ?_
            exact ok_movE (a0 := a38) (r0 hf)
            refine oc0 (fun A W hx hf => ?_) ?_
            exact okW_slice_hi ((byteAt l 0 % 16 * 4).toNat) Try.underlying22 size5 (sarg s0 (show _ = _ from (q0 ?b44_0 A W 48 hf))) (Is.int (p2 s4 e_w14 hx (q1 ?b44_1 A W 49 hf)) (by omega)) (by omega)
            refine oc0 (fun A W hx hf => ?_) ?_
            exact ok_buildBss [(.tmp 50)] [_] Try.underlying60 size22 zero22 rfl rfl (by decide) (PartsOk.cons (AtW.now (q0 ?b44_2 A W 50 hf) (e_w.trans hx)) (PartsOk.nil))
            refine oc0 (fun A W hx hf => ?_) ?_
            exact ok_call1 body19 (c_Right (q0 ?b44_3 A W 51 hf))
            refine oc0 (fun A W hx hf => ?_) ?_
            exact ok_not (q0 ?b44_4 A W 52 hf)
            refine oc0 (fun A W hx hf => ?_) ?_
            exact ok_assign (q0 ?b44_5 A W 53 hf)
            exact OpsOk.nil
           case t44 => exact inferInstance
           clear hr; intro a45 w45 x hr hd hs
           revert s0 s2 s5 s6 s4; refine kp5 hs rfl ?_; intro s0 s2 s5 s6 s4
           clear s41
           have s47 := fa ?b44_5 a45 w45 47 (hd 6 47 rfl)
           replace e_w := e_w.trans x
           replace e_w14 := e_w14.trans x
           clear hd hs x
           refine exit_then ?_
           refine wp_cond_split (show _ = _ from s47) (fun hs => ?_) (fun hs => ?_)
           · skip
             have hs : ck (l.take (byteAt l 0 % 16 * 4).toNat) ≠ 0 := by simpa using hs
             have hrd : fourRead l = (four0, 8) := by unfold fourRead; rw [if_neg hl, if_neg hv, if_neg hh, if_neg ht, if_neg hu, if_pos hs]
             refine wp_seq ?_
             refine wp_reg_pre (l := [_]) (rest := [_, _]) 84 [[]] [?b47_0] (by kernel_rfl) (by kernel_rfl) hr ?t47 ?o47 ?_
             case o47 =>
              refine oc0 (fun A W hx hf => ?_) ?_
              exact ok_build0 built28
              exact OpsOk.nil
             case t47 => exact inferInstance
             clear hr; intro a48 w48 x hr hd hs
             revert s2; refine kp1 hs rfl ?_; intro s2
             clear s0 s5 s6 s4 s47
             have s54 := fa ?b47_0 a48 w48 54 (hd 0 54 rfl)
             replace e_w := e_w.trans x
             replace e_w14 := e_w14.trans x
             clear hd hs x
             have z49 := PxS.lt (later e_w14 s2)
             have l49 := (show (g2_2 = 0 ∨ w.heap.size < g2_2) ∧ True from ⟨by omega, trivial⟩)
             refine wl_storeSn hr size28 (later e_w14 s2) s54 (by exact four_len four0_ok) (by exact four_one) rfl ?_; clear hr; intro a49 w49 hc hu hr hs
             have hb : Below w.heap.size w48 w49 := hc.below e_w.size l49.1
             revert s2; refine kp1 hs rfl ?_; intro s2
             clear s54
             replace s2 := hu _ _ _ (later e_w14 s2)
             try simp only [List.set_cons_zero, List.set_cons_succ] at s2
             replace e_w := e_w.below (Nat.le_refl _) hb
             clear e_w14
             clear hu hs hc hb
             refine wl_op hr (ok_assignc) inferInstance ?_; clear hr; intro a50 w50 x hr hd hs
             revert s2; refine kp1 hs rfl ?_; intro s2
             have s3 := hd 3 rfl (by decide)
             replace e_w := e_w.trans x
             have e_w49 := x
             clear hd hs x
             refine wpList_nil ?_
             refine exit_then ?_
             refine wp_ret ?_
             refine blk_ret ?_
             refine then_ret ?_
             refine ret_cell_tmp Try.results10 hr Try.underlying28 rfl size28 (later e_w49 s2) e_w ?_
             (rw [hrd]; exact ⟨_, _, rfl, rfl, s3⟩)
           · skip
             have hs : ¬ ck (l.take (byteAt l 0 % 16 * 4).toNat) ≠ 0 := by simpa using hs
             have hrd := fourRead_last hl hv hh ht hu hs
             refine wp_skip ?_
             refine blk_normal ?_
             refine exit_then ?_
             refine wp_seq ?_
             refine wp_any_start mixed (fun w51 x => ?_)
             show wpAny _ _ _ _ 31 _ _ _
             replace e_w := e_w.trans x
             replace e_w14 := e_w14.trans x
             have e_w45 := x
             clear x
             refine wp_sel (l := [_, _, _, _, _, _, _, _, _, _, _, _, _, _, _, _, _, _, _, _, _, _, _, _, _, _, _, _, _, _, _]) 84 _ [false, false, false, false, false, false, false, false, false, false, false, false, false, false, false, false, false, false, false, false, false, false, false, false, false, false, false, false, false, true, true] [29, 30] [[(4, none)], [(5, none)], [(0, none)], [(57, some 2)], [(58, some 3)], [(59, some 4)], [(0, none)], [(61, some 6)], [(6, none)], [(63, some 8)], [(64, some 9)], [(6, none)], [(66, some 11)], [(67, some 12)], [(0, none)], [(69, some 14)], [(70, some 15)], [(71, some 16)], [(0, none)], [(73, some 18)], [(74, some 19)], [(75, some 20)], [(0, none)], [(77, some 22)], [(78, some 23)], [(0, none)], [(80, some 25)], [(81, some 26)], [(55, some 0), (56, some 1), (60, some 5), (62, some 7), (65, some 10), (68, some 13), (72, some 17), (76, some 21), (79, some 24), (82, some 27)], [], []] [?b52_0, ?b52_1, ?b52_2, ?b52_3, ?b52_4, ?b52_5, ?b52_6, ?b52_7, ?b52_8, ?b52_9, ?b52_10, ?b52_11, ?b52_12, ?b52_13, ?b52_14, ?b52_15, ?b52_16, ?b52_17, ?b52_18, ?b52_19, ?b52_20, ?b52_21, ?b52_22, ?b52_23, ?b52_24, ?b52_25, ?b52_26, ?b52_27, ?b52_28, VP.top, VP.top] (by kernel_rfl) rfl (by kernel_rfl) hr ?t52 ?o52 ?_
             case o52 =>
              refine lc0 (fun A W hx hf => ?_) ?_
              exact ok_movE (a0 := a45) (r0 hf)
              refine lc0 (fun A W hx hf => ?_) ?_
              exact ok_movE (a0 := a45) (r0 hf)
              refine lc0 (fun A W hx hf => ?_) ?_
              exact ok_movE (a0 := a45) (r0 hf)
              refine lc0 (fun A W hx hf => ?_) ?_
              exact ok_index_bs (1) Try.underlying22 size5 (p2 s0 e_w hx (q0 ?b52_2 A W 57 hf)) (ec A (.int .i64 1)) (by first | omega | decide | (simp; done) | (simp; omega))
              refine lc0 (fun A W hx hf => ?_) ?_
              exact ok_loadp Try.underlying5 rfl (q0 ?b52_3 A W 58 hf)
              refine lc0 (fun A W hx hf => ?_) ?_
              exact ok_convB Try.underlying5 Try.underlying3 (by decide) (q0 ?b52_4 A W 59 hf)
              refine lc0 (fun A W hx hf => ?_) ?_
              exact ok_movE (a0 := a45) (r0 hf)
              refine lc0 (fun A W hx hf => ?_) ?_
              exact ok_call2 body18 (c_two (p2 s0 e_w hx (q0 ?b52_6 A W 61 hf)) (show Is (.int .i64 4) (A.eval (.const (.int .i64 4))) _ from rfl) (by decide) (by omega))
              refine lc0 (fun A W hx hf => ?_) ?_
              exact ok_movE (a0 := a45) (r0 hf)
              refine lc0 (fun A W hx hf => ?_) ?_
              exact ok_andm 14 (by decide) (p2 s6 e_w14 hx (q0 ?b52_8 A W 63 hf)) (ec A (.int .i64 16383)) (by decide) (by simp [IntKind.max, IntKind.signed, IntKind.bits]; omega)
              refine lc0 (fun A W hx hf => ?_) ?_
              exact ok_neq (q0 ?b52_9 A W 64 hf) (ec A (.int .i64 0))
              refine lc0 (fun A W hx hf => ?_) ?_
              exact ok_movE (a0 := a45) (r0 hf)
              refine lc0 (fun A W hx hf => ?_) ?_
              exact ok_andb (p2 s6 e_w14 hx (q0 ?b52_11 A W 66 hf)) (ec A (.int .i64 16384))
              refine lc0 (fun A W hx hf => ?_) ?_
              exact ok_neq (q0 ?b52_12 A W 67 hf) (ec A (.int .i64 0))
              refine lc0 (fun A W hx hf => ?_) ?_
              exact ok_movE (a0 := a45) (r0 hf)
              refine lc0 (fun A W hx hf => ?_) ?_
              exact ok_index_bs (8) Try.underlying22 size5 (p2 s0 e_w hx (q0 ?b52_14 A W 69 hf)) (ec A (.int .i64 8)) (by first | omega | decide | (simp; done) | (simp; omega))
              refine lc0 (fun A W hx hf => ?_) ?_
              exact ok_loadp Try.underlying5 rfl (q0 ?b52_15 A W 70 hf)
              refine lc0 (fun A W hx hf => ?_) ?_
              exact ok_convB Try.underlying5 Try.underlying3 (by decide) (q0 ?b52_16 A W 71 hf)
              refine lc0 (fun A W hx hf => ?_) ?_
              exact ok_movE (a0 := a45) (r0 hf)
              refine lc0 (fun A W hx hf => ?_) ?_
              exact ok_index_bs (9) Try.underlying22 size5 (p2 s0 e_w hx (q0 ?b52_18 A W 73 hf)) (ec A (.int .i64 9)) (by first | omega | decide | (simp; done) | (simp; omega))
              refine lc0 (fun A W hx hf => ?_) ?_
              exact ok_loadp Try.underlying5 rfl (q0 ?b52_19 A W 74 hf)
              refine lc0 (fun A W hx hf => ?_) ?_
              exact ok_convB Try.underlying5 Try.underlying3 (by decide) (q0 ?b52_20 A W 75 hf)
              refine lc0 (fun A W hx hf => ?_) ?_
              exact ok_movE (a0 := a45) (r0 hf)
              refine lc0 (fun A W hx hf => ?_) ?_
              exact okW_slice_lo (12) Try.underlying22 size5 (sarg s0 (show _ = _ from (q0 ?b52_22 A W 77 hf))) (ec A (.int .i64 12)) (by first | omega | decide | (simp; done) | (simp; omega))
              refine lc0 (fun A W hx hf => ?_) ?_
              exact ok_call1 body20 (c_addr (AtW.now (q0 ?b52_23 A W 78 hf) (e_w.trans hx)) (by simp; omega))
              refine lc0 (fun A W hx hf => ?_) ?_
              exact ok_movE (a0 := a45) (r0 hf)
              refine lc0 (fun A W hx hf => ?_) ?_
              exact okW_slice_lo (16) Try.underlying22 size5 (sarg s0 (show _ = _ from (q0 ?b52_25 A W 80 hf))) (ec A (.int .i64 16)) (by first | omega | decide | (simp; done) | (simp; omega))
              refine lc0 (fun A W hx hf => ?_) ?_
              exact ok_call1 body20 (c_addr (AtW.now (q0 ?b52_26 A W 81 hf) (e_w.trans hx)) (by simp; omega))
              refine lc0 (fun A W hx hf => ?_) ?_
              exact ok_buildS [(0, (.tmp 55)), (1, (.tmp 56)), (2, (.tmp 60)), (3, (.tmp 62)), (4, (.tmp 65)), (5, (.tmp 68)), (6, (.tmp 72)), (7, (.tmp 76)), (8, (.tmp 79)), (9, (.tmp 82))] [(0, _), (1, _), (2, _), (3, _), (4, _), (5, _), (6, _), (7, _), (8, _), (9, _)] lay28 rfl (PartsC.one (p2 s4 e_w14 hx (q0 ?b52_0 A W 55 hf)) rfl (PartsC.one (p2 s5 e_w14 hx (q1 ?b52_1 A W 56 hf)) rfl (PartsC.one (q2 ?b52_5 A W 60 hf) rfl (PartsC.one (q3 ?b52_7 A W 62 hf) rfl (PartsC.one (q4 ?b52_10 A W 65 hf) rfl (PartsC.one (q5 ?b52_13 A W 68 hf) rfl (PartsC.one (q6 ?b52_17 A W 72 hf) rfl (PartsC.one (q7 ?b52_21 A W 76 hf) rfl (PartsC.agg (q8 ?b52_24 A W 79 hf) (PartsC.agg (q9 ?b52_27 A W 82 hf) (PartsC.nil))))))))))) (by simp [adrCells_len (adr4_len (l := l.drop 12) (i := 0) (by simp; omega)), adrCells_len (adr4_len (l := l.drop 16) (i := 0) (by simp; omega))])
              refine lcs ?_
              refine lcs ?_
              exact lcn
             case t52 => repeat (first | exact stb_nil | refine stb_cons ?_)
             clear hr; intro a53 w53 x hr hd hs
             have u55 := mv s4 (fa ?b52_0 a53 w53 55 (hd 0 55 rfl rfl))
             have u56 := mv s5 (fa ?b52_1 a53 w53 56 (hd 1 56 rfl rfl))
             have u57 := mv s0 (fa ?b52_2 a53 w53 57 (hd 2 57 rfl rfl))
             have u61 := mv s0 (fa ?b52_6 a53 w53 61 (hd 6 61 rfl rfl))
             have u63 := mv s6 (fa ?b52_8 a53 w53 63 (hd 8 63 rfl rfl))
             have u66 := mv s6 (fa ?b52_11 a53 w53 66 (hd 11 66 rfl rfl))
             have u69 := mv s0 (fa ?b52_14 a53 w53 69 (hd 14 69 rfl rfl))
             have u73 := mv s0 (fa ?b52_18 a53 w53 73 (hd 18 73 rfl rfl))
             have u77 := mv s0 (fa ?b52_22 a53 w53 77 (hd 22 77 rfl rfl))
             have u80 := mv s0 (fa ?b52_25 a53 w53 80 (hd 25 80 rfl rfl))
             revert s0 s2 s5 s6 s4; refine kp5 hs rfl ?_; intro s0 s2 s5 s6 s4
             clear s47
             have s55 := u55; clear u55
             have s56 := u56; clear u56
             have s57 := u57; clear u57
             have s61 := u61; clear u61
             have s63 := u63; clear u63
             have s66 := u66; clear u66
             have s69 := u69; clear u69
             have s73 := u73; clear u73
             have s77 := u77; clear u77
             have s80 := u80; clear u80
             have s58 := fa ?b52_3 a53 w53 58 (hd 3 58 rfl rfl)
             have s59 := fa ?b52_4 a53 w53 59 (hd 4 59 rfl rfl)
             have s60 := fa ?b52_5 a53 w53 60 (hd 5 60 rfl rfl)
             have s62 := fa ?b52_7 a53 w53 62 (hd 7 62 rfl rfl)
             have s64 := fa ?b52_9 a53 w53 64 (hd 9 64 rfl rfl)
             have s65 := fa ?b52_10 a53 w53 65 (hd 10 65 rfl rfl)
             have s67 := fa ?b52_12 a53 w53 67 (hd 12 67 rfl rfl)
             have s68 := fa ?b52_13 a53 w53 68 (hd 13 68 rfl rfl)
             have s70 := fa ?b52_15 a53 w53 70 (hd 15 70 rfl rfl)
             have s71 := fa ?b52_16 a53 w53 71 (hd 16 71 rfl rfl)
             have s72 := fa ?b52_17 a53 w53 72 (hd 17 72 rfl rfl)
             have s74 := fa ?b52_19 a53 w53 74 (hd 19 74 rfl rfl)
             have s75 := fa ?b52_20 a53 w53 75 (hd 20 75 rfl rfl)
             have s76 := fa ?b52_21 a53 w53 76 (hd 21 76 rfl rfl)
             have s78 := AtW.base (fa ?b52_23 a53 w53 78 (hd 23 78 rfl rfl))
             have s79 := fa ?b52_24 a53 w53 79 (hd 24 79 rfl rfl)
             have s81 := AtW.base (fa ?b52_26 a53 w53 81 (hd 26 81 rfl rfl))
             have s82 := fa ?b52_27 a53 w53 82 (hd 27 82 rfl rfl)
             have s83 := fa ?b52_28 a53 w53 83 (hd 28 83 rfl rfl)
             replace e_w := e_w.trans x
             replace e_w14 := e_w14.trans x
             clear e_w45
             clear hd hs x
             show wpList _ _ _ [_, _] _ _
             have z54 := PxS.lt (later e_w14 s2)
             have l54 := (show (g2_2 = 0 ∨ w.heap.size < g2_2) ∧ True from ⟨by omega, trivial⟩)
             refine wl_storeSn hr size28 (later e_w14 s2) (Is.conv s83 (four_built e1 e8 e9 w6)) (by exact four_len ⟨adr4_len (by simp; omega), adr4_len (by simp; omega)⟩) (by exact four_one) rfl ?_; clear hr; intro a54 w54 hc hu hr hs
             have hb : Below w.heap.size w53 w54 := hc.below e_w.size l54.1
             revert s2; refine kp1 hs rfl ?_; intro s2
             clear s0 s5 s6 s4 s55 s56 s57 s61 s63 s66 s69 s73 s77 s80 s58 s59 s60 s62 s64 s65 s67 s68 s70 s71 s72 s74 s75 s76 s78 s79 s81 s82 s83
             replace s2 := hu _ _ _ (later e_w14 s2)
             try simp only [List.set_cons_zero, List.set_cons_succ] at s2
             replace e_w := e_w.below (Nat.le_refl _) hb
             clear e_w14
             clear hu hs hc hb
             refine wl_op hr (ok_assignc) inferInstance ?_; clear hr; intro a55 w55 x hr hd hs
             revert s2; refine kp1 hs rfl ?_; intro s2
             have s3 := hd 3 rfl (by decide)
             replace e_w := e_w.trans x
             have e_w54 := x
             clear hd hs x
             refine wpList_nil ?_
             refine exit_then ?_
             refine wp_ret ?_
             refine ret_cell_tmp Try.results10 hr Try.underlying28 rfl size28 (later e_w54 s2) e_w ?_
             (rw [hrd]; exact ⟨_, _, rfl, rfl, s3⟩)

end Go.Proofs.Ytehhjmcdpcilfaa
