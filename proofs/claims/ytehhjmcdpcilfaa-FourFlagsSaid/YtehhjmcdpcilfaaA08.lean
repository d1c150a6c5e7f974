import Derived.Test.YtehhjmcdpcilfaaC08b
import Derived.Test.YtehhjmcdpcilfaaC08c
import Derived.Test.YtehhjmcdpcilfaaE08
namespace Go.Proofs.Ytehhjmcdpcilfaa
open Go.RowKit
set_option linter.unusedVariables false
set_option maxRecDepth 4000
theorem c_some8 {w : World}    :
    Calls Try.prog 17 #[] w (Ret (Is (FourV some8)) w) := by
 refine enter Try.func17 rfl Try.ntmps17 (k := 0) rfl (by decide) (fun a0 hr hargs => ?_)
 clear hargs
 refine wp_seq ?_
 refine wp_reg 6 [[]] [?b1_0] mixed (by kernel_rfl) (by kernel_rfl) hr ?t1 ?o1 ?_
 case o1 =>
  refine oc0 (fun A W hx hf => ?_) ?_
  exact ok_allocS [(fourS four0).flatten] [42] zerov28 (by rfl) (by rfl) hx.size
  exact OpsOk.nil
 case t1 => exact inferInstance
 clear hr; intro a2 w2 x hr hd hs
 have s0 := fa ?b1_0 a2 w2 0 (hd 0 0 rfl)
 obtain ⟨g2_0, q2_0⟩ := PxN.at s0; clear s0; have n2_0 := PxS.lt q2_0
 have s0 := q2_0; clear q2_0
 have e_w := x
 clear hd hs x
 refine exit_then ?_
 refine wp_seq ?_
 refine wp_reg_pre (l := [_, _, _, _, _]) (rest := [_]) 6 [[], [(1, some 0)], [], [(3, some 2)], [(2, some 1), (4, some 3)]] [?b3_0, ?b3_1, ?b3_2, ?b3_3, ?b3_4] (by kernel_rfl) (by kernel_rfl) hr ?t3 ?o3 ?_
 case o3 =>
  refine oc0 (fun A W hx hf => ?_) ?_
  exact ok_buildArr [1, 2, 3, 4, 0, 0, 0, 0, 0, 0, 0, 0, 0, 0, 0, 0] [(0, (.int .u8 1)), (1, (.int .u8 2)), (2, (.int .u8 3)), (3, (.int .u8 4))] rfl (by kernel_rfl)
  refine oc0 (fun A W hx hf => ?_) ?_
  exact ok_buildS [(1, (.tmp 1))] [(1, _)] lay26 rfl (PartsC.agg (q0 ?b3_0 A W 1 hf) (PartsC.nil)) (by first | rfl | simp [adrCells, *])
  refine oc0 (fun A W hx hf => ?_) ?_
  exact ok_buildArr [5, 6, 7, 8, 0, 0, 0, 0, 0, 0, 0, 0, 0, 0, 0, 0] [(0, (.int .u8 5)), (1, (.int .u8 6)), (2, (.int .u8 7)), (3, (.int .u8 8))] rfl (by kernel_rfl)
  refine oc0 (fun A W hx hf => ?_) ?_
  exact ok_buildS [(1, (.tmp 3))] [(1, _)] lay26 rfl (PartsC.agg (q0 ?b3_2 A W 3 hf) (PartsC.nil)) (by first | rfl | simp [adrCells, *])
  refine oc0 (fun A W hx hf => ?_) ?_
  exact ok_buildS [(0, (.const (.int .i64 20))), (1, (.const (.int .i64 22))), (6, (.const (.int .i64 64))), (7, (.const (.int .i64 17))), (5, (.const (.bool true))), (3, (.const (.int .i64 258))), (8, (.tmp 2)), (9, (.tmp 4))] [(0, _), (1, _), (6, _), (7, _), (5, _), (3, _), (8, _), (9, _)] lay28 rfl (PartsC.one (ec A (.int .i64 20)) rfl (PartsC.one (ec A (.int .i64 22)) rfl (PartsC.one (ec A (.int .i64 64)) rfl (PartsC.one (ec A (.int .i64 17)) rfl (PartsC.one (ec A (.bool true)) rfl (PartsC.one (ec A (.int .i64 258)) rfl (PartsC.agg (q0 ?b3_1 A W 2 hf) (PartsC.agg (q1 ?b3_3 A W 4 hf) (PartsC.nil))))))))) (by first | rfl | simp [adrCells, *])
  exact OpsOk.nil
 case t3 => exact inferInstance
 clear hr; intro a4 w4 x hr hd hs
 revert s0; refine kp1 hs rfl ?_; intro s0
 have s5 := fa ?b3_4 a4 w4 5 (hd 4 5 rfl)
 replace e_w := e_w.trans x
 have e_w2 := x
 clear hd hs x
 have z5 := PxS.lt (later e_w2 s0)
 have l5 := (show (g2_0 = 0 ∨ w.heap.size < g2_0) ∧ True from ⟨by omega, trivial⟩)
 refine wl_storeSn hr size28 (later e_w2 s0) (Is.conv s5 (show Value.agg _ = FourV some8 from rfl)) (by exact four_len ⟨rfl, rfl⟩) (by exact four_one) rfl ?_; clear hr; intro a5 w5 hc hu hr hs
 have hb : Below w.heap.size w4 w5 := hc.below e_w.size l5.1
 revert s0; refine kp1 hs rfl ?_; intro s0
 clear s5
 replace s0 := hu _ _ _ (later e_w2 s0)
 try simp only [List.set_cons_zero, List.set_cons_succ] at s0
 replace e_w := e_w.below (Nat.le_refl _) hb
 clear e_w2
 clear hu hs hc hb
 refine wpList_nil ?_
 refine exit_then ?_
 refine wp_ret ?_
 refine ret_cell Try.results17 hr Try.underlying28 rfl size28 s0 e_w ?_
 exact rfl

theorem c_awake08 {w : World}    :
    Calls Try.prog 9 #[] w (Ret (Is (.bool true)) w) := by
 have hok : FourOk some8 := ⟨rfl, rfl⟩
 have hrt : fourRight some8 = true := some8_right
 have hp1 : fourPutR some8 = (fourPut some8, 0) := by unfold fourPutR; rw [if_pos hrt]
 have hpl := fourPut_len hok
 have hb1 : fourRead ([] ++ fourPut some8 ++ [1, 2, 3]) = (some8, 0) := four_back hok hrt (r := [1, 2, 3]) (by decide)
 have hb2 : (fourRead (fourPut some8)).2 = 2 := by have := four_early hok hrt (r := []) (k := 20) (by decide) (by decide); rw [List.append_nil, List.take_of_length_le (by omega)] at this; exact this
 have hp2 : fourPutR four0 = ([], 1) := by unfold fourPutR; rw [if_neg (by decide)]
 refine enter Try.func9 rfl Try.ntmps9 (k := 0) rfl (by decide) (fun a0 hr hargs => ?_)
 clear hargs
 refine wp_seq ?_
 refine wp_reg 57 [[]] [?b1_0] mixed (by kernel_rfl) (by kernel_rfl) hr ?t1 ?o1 ?_
 case o1 =>
  refine oc0 (fun A W hx hf => ?_) ?_
  exact ok_assignc
  exact OpsOk.nil
 case t1 => exact inferInstance
 clear hr; intro a2 w2 x hr hd hs
 have e_w := x
 clear hd hs x
 refine exit_then ?_
 refine wp_seq ?_
 refine wp_reg 57 [[], [(10, some 0)], [(11, some 1)], [(9, some 2)], [(9, some 2)], [(12, some 3)], [(13, some 4)]] [?b3_0, ?b3_1, ?b3_1, ?b3_3, ?b3_4, ?b3_3, ?b3_4] mixed (by kernel_rfl) (by kernel_rfl) hr ?t3 ?o3 ?_
 case o3 =>
  refine oc0 (fun A W hx hf => ?_) ?_
  exact ok_call0 body17 (c_some8 )
  refine oc0 (fun A W hx hf => ?_) ?_
  exact ok_call1 body12 (c_four_Put (q0 ?b3_0 A W 10 hf) (by exact hok) hx.size)
  refine oc0 (fun A W hx hf => ?_) ?_
  exact ok_move (q0 ?b3_1 A W 11 hf)
  refine oc0 (fun A W hx hf => ?_) ?_
  exact ok_ext0 (q0 ?b3_1 A W 9 hf)
  refine oc0 (fun A W hx hf => ?_) ?_
  exact ok_ext1 (q0 ?b3_1 A W 9 hf)
  refine oc0 (fun A W hx hf => ?_) ?_
  exact ok_assign (q0 ?b3_3 A W 12 hf)
  refine oc0 (fun A W hx hf => ?_) ?_
  exact ok_assign (q0 ?b3_4 A W 13 hf)
  exact OpsOk.nil
 case t3 => exact inferInstance
 clear hr; intro a4 w4 x hr hd hs
 have z_w_w2 := e_w.size
 have s1 := fa ?b3_3 a4 w4 1 (hd 5 1 rfl)
 have s2 := fa ?b3_4 a4 w4 2 (hd 6 2 rfl)
 obtain ⟨g4_1, q4_1⟩ := OwnB.at s1; clear s1; have n4_1 := OwnBA.lt q4_1
 replace q4_1 := OwnBA.mono q4_1 e_w.size
 have s1 := q4_1; clear q4_1
 replace e_w := e_w.trans x
 clear hd hs x
 replace s1 := OwnBA.cast s1 (show _ = fourPut some8 from by rw [hp1])
 replace s2 := Is.int s2 (show _ = (0 : Int) from by rw [hp1])
 refine exit_then ?_
 refine wp_seq ?_
 refine wp_reg_pre (l := [_, _]) (rest := [_, _, _, _, _, _, _, _, _, _]) 57 [[], [(1, none)]] [?b5_0, ?b5_1] (by kernel_rfl) (by kernel_rfl) hr ?t5 ?o5 ?_
 case o5 =>
  refine oc0 (fun A W hx hf => ?_) ?_
  exact ok_ownBs [] [] Try.underlying22 size5 zero5 rfl rfl (by decide) hx.size (PartsOk.nil)
  refine oc0 (fun A W hx hf => ?_) ?_
  exact ok_movE (a0 := a4) (r0 hf)
  exact OpsOk.nil
 case t5 => exact inferInstance
 clear hr; intro a6 w6 x hr hd hs
 have z_w_w4 := e_w.size
 have l6_1 := OwnBA.lt s1
 have u16 := mv s1 (fa ?b5_1 a6 w6 16 (hd 1 16 rfl))
 revert s1 s2; refine kp2 hs rfl ?_; intro s1 s2
 have s16 := u16; clear u16
 have s15 := fa ?b5_0 a6 w6 15 (hd 0 15 rfl)
 obtain ⟨g6_15, q6_15⟩ := OwnB.at s15; clear s15; have n6_15 := OwnBA.lt q6_15
 replace q6_15 := OwnBA.mono q6_15 e_w.size
 have s15 := q6_15; clear q6_15
 replace e_w := e_w.trans x
 have e_w4 := x
 clear hd hs x
 have l7 := OwnBA.lt s15
 have l7_1 := OwnBA.lt (later e_w4 s1)
 refine wl_append_bsA hr (by decide) Try.underlying22 info5 rfl s15 (OwnBA.bs (later e_w4 s16)) e_w.size (by simp; omega) ?_; clear hr; intro g7 a7 w7 hg7 hc hr hd hs
 have hb := hc.below e_w.size l7.1
 revert s1 s2; refine kp2 hs rfl ?_; intro s1 s2
 clear s16 s15
 replace s1 := OwnBA.other (later e_w4 s1) hc (by omega)
 have s17 := hd
 replace e_w := e_w.below (Nat.le_refl _) hb
 clear e_w4
 replace s2 := anyw (w2 := w7) s2
 clear hd hs hb hc
 refine wl_op hr (ok_buildBs [(.const (.int .u8 1)), (.const (.int .u8 2)), (.const (.int .u8 3))] [_, _, _] Try.underlying22 size5 zero5 rfl rfl (by decide) (PartsOk.cons (show ByteIs 1 _ _ from rfl) (PartsOk.cons (show ByteIs 2 _ _ from rfl) (PartsOk.cons (show ByteIs 3 _ _ from rfl) (PartsOk.nil))))) inferInstance ?_; clear hr; intro a8 w8 x hr hd hs
 revert s1 s17 s2; refine kp3 hs rfl ?_; intro s1 s17 s2
 have s18 := hd 18 rfl (by decide)
 replace e_w := e_w.trans x
 have e_w7 := x
 clear hd hs x
 have l9 := OwnBA.lt (later e_w7 s17)
 have l9_1 := OwnBA.lt (later e_w7 s1)
 refine wl_append_bsA hr (by decide) Try.underlying22 info5 rfl (later e_w7 s17) s18 e_w.size (by simp; omega) ?_; clear hr; intro g9 a9 w9 hg9 hc hr hd hs
 have hb := hc.below e_w.size l9.1
 revert s1 s2; refine kp2 hs rfl ?_; intro s1 s2
 clear s17 s18
 replace s1 := OwnBA.other (later e_w7 s1) hc (by omega)
 have s19 := hd
 replace e_w := e_w.below (Nat.le_refl _) hb
 clear e_w7
 replace s2 := anyw (w2 := w9) s2
 clear hd hs hb hc
 refine wl_op hr (ok_call1 body10 (c_four_Read (OwnBA.bs s19))) inferInstance ?_; clear hr; intro a10 w10 x hr hd hs
 revert s1 s2; refine kp2 hs rfl ?_; intro s1 s2
 clear s19
 have s20 := hd 20 rfl (by decide)
 replace e_w := e_w.trans x
 have e_w9 := x
 clear hd hs x
 refine wl_op hr (ok_move s20) inferInstance ?_; clear hr; intro a11 w11 x hr hd hs
 revert s1 s2; refine kp2 hs rfl ?_; intro s1 s2
 clear s20
 have s14 := hd 14 rfl (by decide)
 replace e_w := e_w.trans x
 replace e_w9 := e_w9.trans x
 clear hd hs x
 refine wl_op hr (ok_ext0 s14) inferInstance ?_; clear hr; intro a12 w12 x hr hd hs
 revert s1 s2 s14; refine kp3 hs rfl ?_; intro s1 s2 s14
 have s21 := hd 21 rfl (by decide)
 replace e_w := e_w.trans x
 replace e_w9 := e_w9.trans x
 have e_w11 := x
 clear hd hs x
 refine wl_op hr (ok_ext1 (later e_w11 s14)) inferInstance ?_; clear hr; intro a13 w13 x hr hd hs
 revert s1 s2 s21; refine kp3 hs rfl ?_; intro s1 s2 s21
 clear s14
 have s22 := hd 22 rfl (by decide)
 replace e_w := e_w.trans x
 replace e_w9 := e_w9.trans x
 clear e_w11
 have e_w12 := x
 clear hd hs x
 have l14_1 := OwnBA.lt (later e_w9 s1)
 refine wl_op hr (ok_allocS [(fourS four0).flatten] [42] zerov28 (by rfl) (by rfl) (Nat.le_refl _)) inferInstance ?_; clear hr; intro a14 w14 x hr hd hs
 revert s1 s2 s21 s22; refine kp4 hs rfl ?_; intro s1 s2 s21 s22
 have s3 := hd 3 rfl (by decide)
 obtain ⟨g14_3, q14_3⟩ := PxN.at s3; clear s3; have n14_3 := PxS.lt q14_3
 replace q14_3 := PxS.mono q14_3 e_w.size
 have s3 := q14_3; clear q14_3
 replace e_w := e_w.trans x
 replace e_w9 := e_w9.trans x
 replace e_w12 := e_w12.trans x
 have e_w13 := x
 clear hd hs x
 have z15 := PxS.lt s3
 have l15 := (show (g14_3 = 0 ∨ w.heap.size < g14_3) ∧ True from ⟨by omega, trivial⟩)
 have l15_1 := OwnBA.lt (later e_w9 s1)
 refine wl_storeSn hr size28 s3 (later e_w12 s21) (by exact four_len (fourRead_ok _)) (by exact four_one) rfl ?_; clear hr; intro a15 w15 hc hu hr hs
 have hb : Below w.heap.size w14 w15 := hc.below e_w.size l15.1
 revert s1 s2 s22 s3; refine kp4 hs rfl ?_; intro s1 s2 s22 s3
 clear s21
 replace s1 := OwnBA.other (later e_w9 s1) hc (by omega)
 replace s3 := hu _ _ _ s3
 try simp only [List.set_cons_zero, List.set_cons_succ] at s3
 replace e_w := e_w.below (Nat.le_refl _) hb
 clear e_w9
 clear e_w12
 clear e_w13
 replace s2 := anyw (w2 := w15) s2
 replace s22 := anyw (w2 := w15) s22
 clear hu hs hc hb
 refine wl_op hr (ok_assign s22) inferInstance ?_; clear hr; intro a16 w16 x hr hd hs
 revert s1 s3 s2; refine kp3 hs rfl ?_; intro s1 s3 s2
 clear s22
 have s4 := hd 4 rfl (by decide)
 replace e_w := e_w.trans x
 have e_w15 := x
 clear hd hs x
 refine wpList_nil ?_
 replace s4 := Is.int s4 (show _ = (0 : Int) from by rw [hb1])
 refine exit_then ?_
 refine wp_seq ?_
 refine wp_reg_pre (l := [_, _, _, _, _, _]) (rest := [_, _]) 57 [[(1, none)], [(24, some 0)], [(25, some 1)], [(23, some 2)], [(23, some 2)], []] [?b17_0, ?b17_1, ?b17_1, ?b17_3, ?b17_4, ?b17_5] (by kernel_rfl) (by kernel_rfl) hr ?t17 ?o17 ?_
 case o17 =>
  refine oc0 (fun A W hx hf => ?_) ?_
  exact ok_movE (a0 := a16) (r0 hf)
  refine oc0 (fun A W hx hf => ?_) ?_
  exact ok_call1 body10 (c_four_Read (OwnBA.bs (p2 s1 e_w15 hx (q0 ?b17_0 A W 24 hf))))
  refine oc0 (fun A W hx hf => ?_) ?_
  exact ok_move (q0 ?b17_1 A W 25 hf)
  refine oc0 (fun A W hx hf => ?_) ?_
  exact ok_ext0 (q0 ?b17_1 A W 23 hf)
  refine oc0 (fun A W hx hf => ?_) ?_
  exact ok_ext1 (q0 ?b17_1 A W 23 hf)
  refine oc0 (fun A W hx hf => ?_) ?_
  exact ok_allocS [(fourS four0).flatten] [42] zerov28 (by rfl) (by rfl) hx.size
  exact OpsOk.nil
 case t17 => exact inferInstance
 clear hr; intro a18 w18 x hr hd hs
 have z_w_w16 := e_w.size
 have z_w15_w16 := e_w15.size
 have l18_1 := OwnBA.lt (later e_w15 s1)
 have l18_3 := PxS.lt (later e_w15 s3)
 revert s1 s3 s2 s4; refine kp4 hs rfl ?_; intro s1 s3 s2 s4
 have s26 := fa ?b17_3 a18 w18 26 (hd 3 26 rfl)
 have s27 := fa ?b17_4 a18 w18 27 (hd 4 27 rfl)
 have s5 := fa ?b17_5 a18 w18 5 (hd 5 5 rfl)
 obtain ⟨g18_5, q18_5⟩ := PxN.at s5; clear s5; have n18_5 := PxS.lt q18_5
 replace q18_5 := PxS.mono q18_5 e_w.size
 have s5 := q18_5; clear q18_5
 replace e_w := e_w.trans x
 replace e_w15 := e_w15.trans x
 have e_w16 := x
 clear hd hs x
 have z19 := PxS.lt s5
 have l19 := (show (g18_5 = 0 ∨ w.heap.size < g18_5) ∧ True from ⟨by omega, trivial⟩)
 have l19_1 := OwnBA.lt (later e_w15 s1)
 have l19_3 := PxS.lt (later e_w15 s3)
 refine wl_storeSn hr size28 s5 s26 (by exact four_len (fourRead_ok _)) (by exact four_one) rfl ?_; clear hr; intro a19 w19 hc hu hr hs
 have hb : Below w.heap.size w18 w19 := hc.below e_w.size l19.1
 revert s1 s3 s2 s4 s27; refine kp5 hs rfl ?_; intro s1 s3 s2 s4 s27
 clear s26 s5
 replace s1 := OwnBA.other (later e_w15 s1) hc (by omega)
 replace s3 := PxS.other (later e_w15 s3) hc (by omega)
 replace e_w := e_w.below (Nat.le_refl _) hb
 clear e_w15
 clear e_w16
 replace s2 := anyw (w2 := w19) s2
 replace s4 := anyw (w2 := w19) s4
 replace s27 := anyw (w2 := w19) s27
 clear hu hs hc hb
 refine wl_op hr (ok_assign s27) inferInstance ?_; clear hr; intro a20 w20 x hr hd hs
 revert s1 s3 s2 s4; refine kp4 hs rfl ?_; intro s1 s3 s2 s4
 clear s27
 have s6 := hd 6 rfl (by decide)
 replace e_w := e_w.trans x
 have e_w19 := x
 clear hd hs x
 refine wpList_nil ?_
 replace s6 := Is.int s6 hb2
 refine exit_then ?_
 refine wp_seq ?_
 refine wp_reg 57 [[], [(29, some 0)], [(30, some 1)], [(28, some 2)], [(28, some 2)], [(31, some 3)], [(32, some 4)]] [?b21_0, ?b21_1, ?b21_1, ?b21_3, ?b21_4, ?b21_3, ?b21_4] mixed (by kernel_rfl) (by kernel_rfl) hr ?t21 ?o21 ?_
 case o21 =>
  refine oc0 (fun A W hx hf => ?_) ?_
  exact ok_build0 built28
  refine oc0 (fun A W hx hf => ?_) ?_
  exact ok_call1 body12 (c_four_Put (show Is (FourV four0) _ _ from (q0 ?b21_0 A W 29 hf)) (by exact four0_ok) hx.size)
  refine oc0 (fun A W hx hf => ?_) ?_
  exact ok_move (q0 ?b21_1 A W 30 hf)
  refine oc0 (fun A W hx hf => ?_) ?_
  exact ok_ext0 (q0 ?b21_1 A W 28 hf)
  refine oc0 (fun A W hx hf => ?_) ?_
  exact ok_ext1 (q0 ?b21_1 A W 28 hf)
  refine oc0 (fun A W hx hf => ?_) ?_
  exact ok_assign (q0 ?b21_3 A W 31 hf)
  refine oc0 (fun A W hx hf => ?_) ?_
  exact ok_assign (q0 ?b21_4 A W 32 hf)
  exact OpsOk.nil
 case t21 => exact inferInstance
 clear hr; intro a22 w22 x hr hd hs
 have z_w_w20 := e_w.size
 have z_w19_w20 := e_w19.size
 revert s1 s3 s2 s4 s6; refine kp5 hs rfl ?_; intro s1 s3 s2 s4 s6
 have s8 := fa ?b21_4 a22 w22 8 (hd 6 8 rfl)
 replace e_w := e_w.trans x
 replace e_w19 := e_w19.trans x
 have e_w20 := x
 clear hd hs x
 replace s8 := Is.int s8 (show _ = (1 : Int) from by rw [hp2])
 refine exit_then ?_
 refine wp_seq ?_
 refine wp_reg 57 [[(2, none)], [(33, some 0)], [(34, some 1)], [(1, none), (35, some 2)], [(36, some 3), (35, some 2)], [(37, some 4), (35, some 2)], [(35, some 2), (38, some 5)], [(39, some 6)], [(4, none), (40, some 7)], [(41, some 8), (40, some 7)], [(40, some 7), (42, some 9)], [(43, some 10)], [(3, none), (44, some 11)], [(44, some 11)], [(45, some 12), (46, some 13), (44, some 11)], [(44, some 11), (47, some 14)], [(48, some 15)], [(6, none), (49, some 16)], [(50, some 17), (49, some 16)], [(49, some 16), (51, some 18)], [(52, some 19)], [(8, none), (53, some 20)], [(54, some 21), (53, some 20)], [(53, some 20), (55, some 22)], [(56, some 23)]] [?b23_0, ?b23_1, ?b23_1, ?b23_3, ?b23_4, ?b23_5, ?b23_6, ?b23_6, ?b23_8, ?b23_9, ?b23_10, ?b23_10, ?b23_12, ?b23_13, ?b23_14, ?b23_15, ?b23_15, ?b23_17, ?b23_18, ?b23_19, ?b23_19, ?b23_21, ?b23_22, ?b23_23, ?b23_23] mixed (by kernel_rfl) (by kernel_rfl) hr ?t23 ?o23 ?_
 case o23 =>
  refine oc0 (fun A W hx hf => ?_) ?_
  exact ok_movE (a0 := a22) (r0 hf)
  refine oc0 (fun A W hx hf => ?_) ?_
  exact ok_eql (p2 s2 e_w19 hx (q0 ?b23_0 A W 33 hf)) (ec A (.int .i64 0))
  refine oc0 (fun A W hx hf => ?_) ?_
  exact ok_move (q0 ?b23_1 A W 34 hf)
  refine ocg 35 ?_ (fun A W hx hf => ?_) ?_
  rfl
  exact gd_t (q1 ?b23_1 A W 35 hf) (fun hc => ok_movE (a0 := a22) (r0 hf))
  refine ocg 35 ?_ (fun A W hx hf => ?_) ?_
  rfl
  exact gd_t (q1 ?b23_1 A W 35 hf) (fun hc => ok_len_bs Try.underlying22 (OwnBA.bs (p2 s1 e_w19 hx (G.get (q0 ?b23_3 A W 36 hf) hc))))
  refine ocg 35 ?_ (fun A W hx hf => ?_) ?_
  rfl
  exact gd_t (q1 ?b23_1 A W 35 hf) (fun hc => ok_eql (G.get (q0 ?b23_4 A W 37 hf) hc) (ec A (.int .i64 20)))
  refine oc0 (fun A W hx hf => ?_) ?_
  exact ok_and (q0 ?b23_1 A W 35 hf) (q1 ?b23_5 A W 38 hf)
  refine oc0 (fun A W hx hf => ?_) ?_
  exact ok_move (q0 ?b23_6 A W 39 hf)
  refine ocg 40 ?_ (fun A W hx hf => ?_) ?_
  rfl
  exact gd_t (q1 ?b23_6 A W 40 hf) (fun hc => ok_movE (a0 := a22) (r0 hf))
  refine ocg 40 ?_ (fun A W hx hf => ?_) ?_
  rfl
  exact gd_t (q1 ?b23_6 A W 40 hf) (fun hc => ok_eql (p2 s4 e_w19 hx (G.get (q0 ?b23_8 A W 41 hf) hc)) (ec A (.int .i64 0)))
  refine oc0 (fun A W hx hf => ?_) ?_
  exact ok_and (q0 ?b23_6 A W 40 hf) (q1 ?b23_9 A W 42 hf)
  refine oc0 (fun A W hx hf => ?_) ?_
  exact ok_move (q0 ?b23_10 A W 43 hf)
  refine ocg 44 ?_ (fun A W hx hf => ?_) ?_
  rfl
  exact gd_t (q1 ?b23_10 A W 44 hf) (fun hc => ok_loadSeg Try.underlying28 rfl size28 (o2 s3 e_w19 hx (r0 hf)) rfl rfl)
  refine ocg 44 ?_ (fun A W hx hf => ?_) ?_
  rfl
  exact gd_t (q0 ?b23_10 A W 44 hf) (fun hc => ok_call0 body17 (c_some8 ))
  refine ocg 44 ?_ (fun A W hx hf => ?_) ?_
  rfl
  exact gd_t (q2 ?b23_10 A W 44 hf) (fun hc => ok_eqself eqg28 (eq_four (fourRead_ok _)) (G.get (q0 ?b23_12 A W 45 hf) hc) (Is.conv (G.get (q1 ?b23_13 A W 46 hf) hc) (show FourV some8 = FourV (fourRead _).1 from by rw [hb1])))
  refine oc0 (fun A W hx hf => ?_) ?_
  exact ok_and (q0 ?b23_10 A W 44 hf) (q1 ?b23_14 A W 47 hf)
  refine oc0 (fun A W hx hf => ?_) ?_
  exact ok_move (q0 ?b23_15 A W 48 hf)
  refine ocg 49 ?_ (fun A W hx hf => ?_) ?_
  rfl
  exact gd_t (q1 ?b23_15 A W 49 hf) (fun hc => ok_movE (a0 := a22) (r0 hf))
  refine ocg 49 ?_ (fun A W hx hf => ?_) ?_
  rfl
  exact gd_t (q1 ?b23_15 A W 49 hf) (fun hc => ok_eql (p2 s6 e_w20 hx (G.get (q0 ?b23_17 A W 50 hf) hc)) (ec A (.int .i64 2)))
  refine oc0 (fun A W hx hf => ?_) ?_
  exact ok_and (q0 ?b23_15 A W 49 hf) (q1 ?b23_18 A W 51 hf)
  refine oc0 (fun A W hx hf => ?_) ?_
  exact ok_move (q0 ?b23_19 A W 52 hf)
  refine ocg 53 ?_ (fun A W hx hf => ?_) ?_
  rfl
  exact gd_t (q1 ?b23_19 A W 53 hf) (fun hc => ok_movE (a0 := a22) (r0 hf))
  refine ocg 53 ?_ (fun A W hx hf => ?_) ?_
  rfl
  exact gd_t (q1 ?b23_19 A W 53 hf) (fun hc => ok_eql (p1 s8 hx (G.get (q0 ?b23_21 A W 54 hf) hc)) (ec A (.int .i64 1)))
  refine oc0 (fun A W hx hf => ?_) ?_
  exact ok_and (q0 ?b23_19 A W 53 hf) (q1 ?b23_22 A W 55 hf)
  refine oc0 (fun A W hx hf => ?_) ?_
  exact ok_assign (q0 ?b23_23 A W 56 hf)
  exact OpsOk.nil
 case t23 => repeat (first | exact stb_nil | refine stb_cons ?_)
 clear hr; intro a24 w24 x hr hd hs
 clear s1 s3 s2 s4 s6 s8
 have s0 := fa ?b23_23 a24 w24 0 (hd 24 0 rfl)
 replace e_w := e_w.trans x
 clear e_w19
 clear e_w20
 clear hd hs x
 refine exit_then ?_
 refine wp_ret ?_
 refine ret_tmp Try.results9 hr e_w ?_
 exact Is.bool s0 (by simp [hpl])

end Go.Proofs.Ytehhjmcdpcilfaa
