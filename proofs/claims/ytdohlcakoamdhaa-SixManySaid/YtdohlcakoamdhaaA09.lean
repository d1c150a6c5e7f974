import Derived.Test.YtdohlcakoamdhaaC09b
import Derived.Test.YtdohlcakoamdhaaC09c
import Derived.Test.YtdohlcakoamdhaaE09
import Derived.Test.YtdohlcakoamdhaaP09
namespace Go.Proofs.Ytdohlcakoamdhaa
open Go.RowKit
set_option linter.unusedVariables false
set_option maxRecDepth 4000
theorem c_some9 {w : World}    :
    Calls Try.prog 18 #[] w (Ret (Is (SixV some9)) w) := by
 refine enter Try.func18 rfl Try.ntmps18 (k := 0) rfl (by decide) (fun a0 hr hargs => ?_)
 clear hargs
 refine wp_seq ?_
 refine wp_reg 6 [[]] [?b1_0] mixed (by kernel_rfl) (by kernel_rfl) hr ?t1 ?o1 ?_
 case o1 =>
  refine oc0 (fun A W hx hf => ?_) ?_
  exact ok_allocS [(sixS six0).flatten] [40] zerov28 (by rfl) (by rfl) hx.size
  exact OpsOk.nil
 case t1 => exact inferInstance
 clear hr; intro a2 w2 x hr hd hs
 have s0 := fa ?b1_0 a2 w2 0 (hd 0 0 rfl)
 obtain ⟨g2_0, q2_0⟩ := PxN.at s0; clear s0; have n2_0 := PxS.lt q2_0
 have s0 := q2_0; clear q2_0
 have e_w := x
 clear hd hs x
 refine exit_then ?_
 refine wp_seq ?_
 refine wp_reg_pre (l := [_, _, _, _, _]) (rest := [_]) 6 [[], [(1, some 0)], [], [(3, some 2)], [(2, some 1), (4, some 3)]] [?b3_0, ?b3_1, ?b3_2, ?b3_3, ?b3_4] (by kernel_rfl) (by kernel_rfl) hr ?t3 ?o3 ?_
 case o3 =>
  refine oc0 (fun A W hx hf => ?_) ?_
  exact ok_buildArr [1, 2, 0, 0, 0, 0, 0, 0, 0, 0, 0, 0, 0, 0, 0, 0] [(0, (.int .u8 1)), (1, (.int .u8 2))] rfl (by kernel_rfl)
  refine oc0 (fun A W hx hf => ?_) ?_
  exact ok_buildS [(0, (.const (.bool true))), (1, (.tmp 1))] [(0, _), (1, _)] lay26 rfl (PartsC.one (ec A (.bool true)) rfl (PartsC.agg (q0 ?b3_0 A W 1 hf) (PartsC.nil))) (by first | rfl | simp [adrCells, *])
  refine oc0 (fun A W hx hf => ?_) ?_
  exact ok_buildArr [3, 0, 0, 0, 0, 0, 0, 0, 0, 0, 0, 0, 0, 0, 0, 0] [(0, (.int .u8 3))] rfl (by kernel_rfl)
  refine oc0 (fun A W hx hf => ?_) ?_
  exact ok_buildS [(0, (.const (.bool true))), (1, (.tmp 3))] [(0, _), (1, _)] lay26 rfl (PartsC.one (ec A (.bool true)) rfl (PartsC.agg (q0 ?b3_2 A W 3 hf) (PartsC.nil))) (by first | rfl | simp [adrCells, *])
  refine oc0 (fun A W hx hf => ?_) ?_
  exact ok_buildS [(0, (.const (.int .i64 40))), (1, (.const (.int .i64 48))), (2, (.const (.int .i64 64))), (5, (.const (.int .i64 17))), (6, (.tmp 2)), (7, (.tmp 4))] [(0, _), (1, _), (2, _), (5, _), (6, _), (7, _)] lay28 rfl (PartsC.one (ec A (.int .i64 40)) rfl (PartsC.one (ec A (.int .i64 48)) rfl (PartsC.one (ec A (.int .i64 64)) rfl (PartsC.one (ec A (.int .i64 17)) rfl (PartsC.agg (q0 ?b3_1 A W 2 hf) (PartsC.agg (q1 ?b3_3 A W 4 hf) (PartsC.nil))))))) (by first | rfl | simp [adrCells, *])
  exact OpsOk.nil
 case t3 => exact inferInstance
 clear hr; intro a4 w4 x hr hd hs
 revert s0; refine kp1 hs rfl ?_; intro s0
 have s5 := fa ?b3_4 a4 w4 5 (hd 4 5 rfl)
 replace e_w := e_w.trans x
 have e_w2 := x
 clear hd hs x
 have z5 := PxS.lt (later e_w2 s0)
 have l5 := (show (g2_0 = 0 ∨ w.heap.size < g2_0) ∧ True from ⟨by omega, trivial⟩)
 refine wl_storeSn hr size28 (later e_w2 s0) (Is.conv s5 (show Value.agg _ = SixV some9 from rfl)) (by exact six_len ⟨rfl, rfl⟩) (by exact six_one) rfl ?_; clear hr; intro a5 w5 hc hu hr hs
 have hb : Below w.heap.size w4 w5 := hc.below e_w.size l5.1
 revert s0; refine kp1 hs rfl ?_; intro s0
 clear s5
 replace s0 := hu _ _ _ (later e_w2 s0)
 try simp only [List.set_cons_zero, List.set_cons_succ] at s0
 replace e_w := e_w.below (Nat.le_refl _) hb
 clear e_w2
 clear hu hs hc hb
 refine wpList_nil ?_
 refine exit_then ?_
 refine wp_ret ?_
 refine ret_cell Try.results18 hr Try.underlying28 rfl size28 s0 e_w ?_
 exact rfl

theorem c_awake09 {w : World}    :
    Calls Try.prog 9 #[] w (Ret (Is (.bool true)) w) := by
 have hok := some9_ok
 have hpl := sixPut_len some9_ok
 refine enter Try.func9 rfl Try.ntmps9 (k := 0) rfl (by decide) (fun a0 hr hargs => ?_)
 clear hargs
 refine wp_seq ?_
 refine wp_reg 89 [[]] [?b1_0] mixed (by kernel_rfl) (by kernel_rfl) hr ?t1 ?o1 ?_
 case o1 =>
  refine oc0 (fun A W hx hf => ?_) ?_
  exact ok_assignc
  exact OpsOk.nil
 case t1 => exact inferInstance
 clear hr; intro a2 w2 x hr hd hs
 have e_w := x
 clear hd hs x
 refine exit_then ?_
 refine wp_seq ?_
 refine wp_reg 89 [[], [(13, some 0)], [(14, some 1)], [(12, some 2)], [(12, some 2)], [(15, some 3)], [(16, some 4)]] [?b3_0, ?b3_1, ?b3_1, ?b3_3, ?b3_4, ?b3_3, ?b3_4] mixed (by kernel_rfl) (by kernel_rfl) hr ?t3 ?o3 ?_
 case o3 =>
  refine oc0 (fun A W hx hf => ?_) ?_
  exact ok_call0 body18 (c_some9 )
  refine oc0 (fun A W hx hf => ?_) ?_
  exact ok_call1 body12 (c_xPut (q0 ?b3_0 A W 13 hf) (by exact hok) hx.size)
  refine oc0 (fun A W hx hf => ?_) ?_
  exact ok_move (q0 ?b3_1 A W 14 hf)
  refine oc0 (fun A W hx hf => ?_) ?_
  exact ok_ext0 (q0 ?b3_1 A W 12 hf)
  refine oc0 (fun A W hx hf => ?_) ?_
  exact ok_ext1 (q0 ?b3_1 A W 12 hf)
  refine oc0 (fun A W hx hf => ?_) ?_
  exact ok_assign (q0 ?b3_3 A W 15 hf)
  refine oc0 (fun A W hx hf => ?_) ?_
  exact ok_assign (q0 ?b3_4 A W 16 hf)
  exact OpsOk.nil
 case t3 => exact inferInstance
 clear hr; intro a4 w4 x hr hd hs
 have z_w_w2 := e_w.size
 have s1 := fa ?b3_3 a4 w4 1 (hd 5 1 rfl)
 have s2 := fa ?b3_4 a4 w4 2 (hd 6 2 rfl)
 obtain ⟨g4_1, q4_1⟩ := OwnB.at s1; clear s1; have n4_1 := OwnBA.lt q4_1
 replace q4_1 := OwnBA.mono q4_1 e_w.size
 have s1 := q4_1; clear q4_1
 replace e_w := e_w.trans x
 clear hd hs x
 replace s1 := OwnBA.cast s1 (show _ = sixPut some9 from by rw [some9_put])
 replace s2 := Is.int s2 (show _ = (0 : Int) from by rw [some9_put])
 refine exit_then ?_
 refine wp_seq ?_
 refine wp_reg_pre (l := [_, _]) (rest := [_, _, _, _, _, _, _, _, _, _]) 89 [[], [(1, none)]] [?b5_0, ?b5_1] (by kernel_rfl) (by kernel_rfl) hr ?t5 ?o5 ?_
 case o5 =>
  refine oc0 (fun A W hx hf => ?_) ?_
  exact ok_ownBs [] [] Try.underlying22 size5 zero5 rfl rfl (by decide) hx.size (PartsOk.nil)
  refine oc0 (fun A W hx hf => ?_) ?_
  exact ok_movE (a0 := a4) (r0 hf)
  exact OpsOk.nil
 case t5 => exact inferInstance
 clear hr; intro a6 w6 x hr hd hs
 have z_w_w4 := e_w.size
 have l6_1 := OwnBA.lt s1
 have u19 := mv s1 (fa ?b5_1 a6 w6 19 (hd 1 19 rfl))
 revert s2; revert s1; refine kp2 hs rfl ?_; intro s1 s2
 have s19 := u19; clear u19
 have s18 := fa ?b5_0 a6 w6 18 (hd 0 18 rfl)
 obtain ⟨g6_18, q6_18⟩ := OwnB.at s18; clear s18; have n6_18 := OwnBA.lt q6_18
 replace q6_18 := OwnBA.mono q6_18 e_w.size
 have s18 := q6_18; clear q6_18
 replace e_w := e_w.trans x
 have e_w4 := x
 clear hd hs x
 have l7 := OwnBA.lt s18
 have l7_1 := OwnBA.lt (later e_w4 s1)
 refine wl_append_bsA hr (by decide) Try.underlying22 info5 rfl s18 (OwnBA.bs (later e_w4 s19)) e_w.size (by first | (simp [hpl]; done) | (simp [hpl]; omega)) ?_; clear hr; intro g7 a7 w7 hg7 hc hr hd hs
 have hb := hc.below e_w.size l7.1
 revert s2; revert s1; refine kp2 hs rfl ?_; intro s1 s2
 clear s19 s18
 replace s1 := OwnBA.other (later e_w4 s1) hc (by omega)
 have s20 := hd
 replace e_w := e_w.below (Nat.le_refl _) hb
 clear e_w4
 replace s2 := anyw (w2 := w7) s2
 clear hd hs hb hc
 refine wl_op hr (ok_buildBs [(.const (.int .u8 1)), (.const (.int .u8 2)), (.const (.int .u8 3)), (.const (.int .u8 4)), (.const (.int .u8 5)), (.const (.int .u8 6)), (.const (.int .u8 7)), (.const (.int .u8 8)), (.const (.int .u8 9))] [_, _, _, _, _, _, _, _, _] Try.underlying22 size5 zero5 rfl rfl (by decide) (PartsOk.cons (show ByteIs 1 _ _ from rfl) (PartsOk.cons (show ByteIs 2 _ _ from rfl) (PartsOk.cons (show ByteIs 3 _ _ from rfl) (PartsOk.cons (show ByteIs 4 _ _ from rfl) (PartsOk.cons (show ByteIs 5 _ _ from rfl) (PartsOk.cons (show ByteIs 6 _ _ from rfl) (PartsOk.cons (show ByteIs 7 _ _ from rfl) (PartsOk.cons (show ByteIs 8 _ _ from rfl) (PartsOk.cons (show ByteIs 9 _ _ from rfl) (PartsOk.nil))))))))))) inferInstance ?_; clear hr; intro a8 w8 x hr hd hs
 revert s2; revert s20; revert s1; refine kp3 hs rfl ?_; intro s1 s20 s2
 have s21 := hd 21 rfl (by decide)
 replace e_w := e_w.trans x
 have e_w7 := x
 clear hd hs x
 have l9 := OwnBA.lt (later e_w7 s20)
 have l9_1 := OwnBA.lt (later e_w7 s1)
 refine wl_append_bsA hr (by decide) Try.underlying22 info5 rfl (later e_w7 s20) s21 e_w.size (by first | (simp [hpl]; done) | (simp [hpl]; omega)) ?_; clear hr; intro g9 a9 w9 hg9 hc hr hd hs
 have hb := hc.below e_w.size l9.1
 revert s2; revert s1; refine kp2 hs rfl ?_; intro s1 s2
 clear s20 s21
 replace s1 := OwnBA.other (later e_w7 s1) hc (by omega)
 have s22 := hd
 replace e_w := e_w.below (Nat.le_refl _) hb
 clear e_w7
 replace s2 := anyw (w2 := w9) s2
 clear hd hs hb hc
 refine wl_op hr (ok_call1 body10 (c_xRead (OwnBA.bs s22))) inferInstance ?_; clear hr; intro a10 w10 x hr hd hs
 revert s2; revert s1; refine kp2 hs rfl ?_; intro s1 s2
 clear s22
 have s23 := hd 23 rfl (by decide)
 replace e_w := e_w.trans x
 have e_w9 := x
 clear hd hs x
 refine wl_op hr (ok_move s23) inferInstance ?_; clear hr; intro a11 w11 x hr hd hs
 revert s2; revert s1; refine kp2 hs rfl ?_; intro s1 s2
 clear s23
 have s17 := hd 17 rfl (by decide)
 replace e_w := e_w.trans x
 replace e_w9 := e_w9.trans x
 clear hd hs x
 refine wl_op hr (ok_ext0 s17) inferInstance ?_; clear hr; intro a12 w12 x hr hd hs
 revert s17; revert s2; revert s1; refine kp3 hs rfl ?_; intro s1 s2 s17
 have s24 := hd 24 rfl (by decide)
 replace e_w := e_w.trans x
 replace e_w9 := e_w9.trans x
 have e_w11 := x
 clear hd hs x
 refine wl_op hr (ok_ext1 (later e_w11 s17)) inferInstance ?_; clear hr; intro a13 w13 x hr hd hs
 revert s24; revert s2; revert s1; refine kp3 hs rfl ?_; intro s1 s2 s24
 clear s17
 have s25 := hd 25 rfl (by decide)
 replace e_w := e_w.trans x
 replace e_w9 := e_w9.trans x
 clear e_w11
 have e_w12 := x
 clear hd hs x
 have l14_1 := OwnBA.lt (later e_w9 s1)
 refine wl_op hr (ok_allocS [(sixS six0).flatten] [40] zerov28 (by rfl) (by rfl) (Nat.le_refl _)) inferInstance ?_; clear hr; intro a14 w14 x hr hd hs
 revert s25; revert s24; revert s2; revert s1; refine kp4 hs rfl ?_; intro s1 s2 s24 s25
 have s3 := hd 3 rfl (by decide)
 obtain ⟨g14_3, q14_3⟩ := PxN.at s3; clear s3; have n14_3 := PxS.lt q14_3
 replace q14_3 := PxS.mono q14_3 e_w.size
 have s3 := q14_3; clear q14_3
 replace e_w := e_w.trans x
 replace e_w9 := e_w9.trans x
 replace e_w12 := e_w12.trans x
 have e_w13 := x
 clear hd hs x
 have z15 := PxS.lt s3
 have l15 := (show (g14_3 = 0 ∨ w.heap.size < g14_3) ∧ True from ⟨by omega, trivial⟩)
 have l15_1 := OwnBA.lt (later e_w9 s1)
 refine wl_storeSn hr size28 s3 (later e_w12 s24) (by exact six_len (sixRead_ok _)) (by exact six_one) rfl ?_; clear hr; intro a15 w15 hc hu hr hs
 have hb : Below w.heap.size w14 w15 := hc.below e_w.size l15.1
 revert s3; revert s25; revert s2; revert s1; refine kp4 hs rfl ?_; intro s1 s2 s25 s3
 clear s24
 replace s1 := OwnBA.other (later e_w9 s1) hc (by omega)
 replace s3 := hu _ _ _ s3
 try simp only [List.set_cons_zero, List.set_cons_succ, sixS2] at s3
 replace e_w := e_w.below (Nat.le_refl _) hb
 clear e_w9
 clear e_w12
 clear e_w13
 replace s2 := anyw (w2 := w15) s2
 replace s25 := anyw (w2 := w15) s25
 clear hu hs hc hb
 refine wl_op hr (ok_assign s25) inferInstance ?_; clear hr; intro a16 w16 x hr hd hs
 revert s2; revert s3; revert s1; refine kp3 hs rfl ?_; intro s1 s3 s2
 clear s25
 have s4 := hd 4 rfl (by decide)
 replace e_w := e_w.trans x
 have e_w15 := x
 clear hd hs x
 refine wpList_nil ?_
 replace s4 := Is.int s4 (show _ = (0 : Int) from by rw [List.nil_append, some9_read])
 refine exit_then ?_
 refine wp_seq ?_
 refine wp_reg_pre (l := [_, _, _, _, _, _]) (rest := [_, _]) 89 [[(1, none)], [(27, some 0)], [(28, some 1)], [(26, some 2)], [(26, some 2)], []] [?b17_0, ?b17_1, ?b17_1, ?b17_3, ?b17_4, ?b17_5] (by kernel_rfl) (by kernel_rfl) hr ?t17 ?o17 ?_
 case o17 =>
  refine oc0 (fun A W hx hf => ?_) ?_
  exact ok_movE (a0 := a16) (r0 hf)
  refine oc0 (fun A W hx hf => ?_) ?_
  exact ok_call1 body10 (c_xRead (OwnBA.bs (p2 s1 e_w15 hx (q0 ?b17_0 A W 27 hf))))
  refine oc0 (fun A W hx hf => ?_) ?_
  exact ok_move (q0 ?b17_1 A W 28 hf)
  refine oc0 (fun A W hx hf => ?_) ?_
  exact ok_ext0 (q0 ?b17_1 A W 26 hf)
  refine oc0 (fun A W hx hf => ?_) ?_
  exact ok_ext1 (q0 ?b17_1 A W 26 hf)
  refine oc0 (fun A W hx hf => ?_) ?_
  exact ok_allocS [(sixS six0).flatten] [40] zerov28 (by rfl) (by rfl) hx.size
  exact OpsOk.nil
 case t17 => exact inferInstance
 clear hr; intro a18 w18 x hr hd hs
 have z_w_w16 := e_w.size
 have z_w15_w16 := e_w15.size
 have l18_1 := OwnBA.lt (later e_w15 s1)
 have l18_3 := PxS.lt (later e_w15 s3)
 revert s4; revert s2; revert s3; revert s1; refine kp4 hs rfl ?_; intro s1 s3 s2 s4
 have s29 := fa ?b17_3 a18 w18 29 (hd 3 29 rfl)
 have s30 := fa ?b17_4 a18 w18 30 (hd 4 30 rfl)
 have s5 := fa ?b17_5 a18 w18 5 (hd 5 5 rfl)
 obtain ⟨g18_5, q18_5⟩ := PxN.at s5; clear s5; have n18_5 := PxS.lt q18_5
 replace q18_5 := PxS.mono q18_5 e_w.size
 have s5 := q18_5; clear q18_5
 replace e_w := e_w.trans x
 replace e_w15 := e_w15.trans x
 have e_w16 := x
 clear hd hs x
 have z19 := PxS.lt s5
 have l19 := (show (g18_5 = 0 ∨ w.heap.size < g18_5) ∧ True from ⟨by omega, trivial⟩)
 have l19_1 := OwnBA.lt (later e_w15 s1)
 have l19_3 := PxS.lt (later e_w15 s3)
 refine wl_storeSn hr size28 s5 s29 (by exact six_len (sixRead_ok _)) (by exact six_one) rfl ?_; clear hr; intro a19 w19 hc hu hr hs
 have hb : Below w.heap.size w18 w19 := hc.below e_w.size l19.1
 revert s30; revert s4; revert s2; revert s3; revert s1; refine kp5 hs rfl ?_; intro s1 s3 s2 s4 s30
 clear s29 s5
 replace s1 := OwnBA.other (later e_w15 s1) hc (by omega)
 replace s3 := PxS.other (later e_w15 s3) hc (by omega)
 replace e_w := e_w.below (Nat.le_refl _) hb
 clear e_w15
 clear e_w16
 replace s2 := anyw (w2 := w19) s2
 replace s4 := anyw (w2 := w19) s4
 replace s30 := anyw (w2 := w19) s30
 clear hu hs hc hb
 refine wl_op hr (ok_assign s30) inferInstance ?_; clear hr; intro a20 w20 x hr hd hs
 revert s4; revert s2; revert s3; revert s1; refine kp4 hs rfl ?_; intro s1 s3 s2 s4
 clear s30
 have s6 := hd 6 rfl (by decide)
 replace e_w := e_w.trans x
 have e_w19 := x
 clear hd hs x
 refine wpList_nil ?_
 replace s6 := Is.int s6 some9_early
 refine exit_then ?_
 refine wp_seq ?_
 refine wp_reg_pre (l := [_, _]) (rest := [_, _]) 89 [[], [(1, none)]] [?b21_0, ?b21_1] (by kernel_rfl) (by kernel_rfl) hr ?t21 ?o21 ?_
 case o21 =>
  refine oc0 (fun A W hx hf => ?_) ?_
  exact ok_ownBs [] [] Try.underlying22 size5 zero5 rfl rfl (by decide) hx.size (PartsOk.nil)
  refine oc0 (fun A W hx hf => ?_) ?_
  exact ok_movE (a0 := a20) (r0 hf)
  exact OpsOk.nil
 case t21 => exact inferInstance
 clear hr; intro a22 w22 x hr hd hs
 have z_w_w20 := e_w.size
 have z_w19_w20 := e_w19.size
 have l22_1 := OwnBA.lt (later e_w19 s1)
 have l22_3 := PxS.lt (later e_w19 s3)
 have u32 := mv s1 (fa ?b21_1 a22 w22 32 (hd 1 32 rfl))
 revert s6; revert s4; revert s2; revert s3; refine kp4 hs rfl ?_; intro s3 s2 s4 s6
 clear s1
 have s32 := u32; clear u32
 have s31 := fa ?b21_0 a22 w22 31 (hd 0 31 rfl)
 obtain ⟨g22_31, q22_31⟩ := OwnB.at s31; clear s31; have n22_31 := OwnBA.lt q22_31
 replace q22_31 := OwnBA.mono q22_31 e_w.size
 have s31 := q22_31; clear q22_31
 replace e_w := e_w.trans x
 replace e_w19 := e_w19.trans x
 have e_w20 := x
 clear hd hs x
 have l23 := OwnBA.lt s31
 have l23_3 := PxS.lt (later e_w19 s3)
 refine wl_append_bsA hr (by decide) Try.underlying22 info5 rfl s31 (OwnBA.bs (later e_w19 s32)) e_w.size (by first | (simp [hpl]; done) | (simp [hpl]; omega)) ?_; clear hr; intro g23 a23 w23 hg23 hc hr hd hs
 have hb := hc.below e_w.size l23.1
 revert s6; revert s4; revert s2; revert s3; refine kp4 hs rfl ?_; intro s3 s2 s4 s6
 clear s32 s31
 replace s3 := PxS.other (later e_w19 s3) hc (by omega)
 have s33 := hd
 replace e_w := e_w.below (Nat.le_refl _) hb
 clear e_w19
 clear e_w20
 replace s2 := anyw (w2 := w23) s2
 replace s4 := anyw (w2 := w23) s4
 replace s6 := anyw (w2 := w23) s6
 clear hd hs hb hc
 refine wl_op hr (ok_assign s33) inferInstance ?_; clear hr; intro a24 w24 x hr hd hs
 revert s6; revert s4; revert s2; revert s3; refine kp4 hs rfl ?_; intro s3 s2 s4 s6
 clear s33
 have s7 := hd 7 rfl (by decide)
 replace e_w := e_w.trans x
 have e_w23 := x
 clear hd hs x
 refine wpList_nil ?_
 replace s7 := OwnBA.cast s7 (List.nil_append _)
 refine exit_then ?_
 refine wp_seq ?_
 refine wp_seq ?_
 refine wp_reg 89 [[(7, none)], [(34, some 0)], [(35, some 1)]] [?b25_0, ?b25_1, ?b25_2] mixed (by kernel_rfl) (by kernel_rfl) hr ?t25 ?o25 ?_
 case o25 =>
  refine oc0 (fun A W hx hf => ?_) ?_
  exact ok_movE (a0 := a24) (r0 hf)
  refine oc0 (fun A W hx hf => ?_) ?_
  exact ok_len_bs Try.underlying22 (OwnBA.bs (p1 s7 hx (q0 ?b25_0 A W 34 hf)))
  refine oc0 (fun A W hx hf => ?_) ?_
  exact ok_neq (q0 ?b25_1 A W 35 hf) (ec A (.int .i64 40))
  exact OpsOk.nil
 case t25 => exact inferInstance
 clear hr; intro a26 w26 x hr hd hs
 revert s7; revert s6; revert s4; revert s2; revert s3; refine kp5 hs rfl ?_; intro s3 s2 s4 s6 s7
 have s36 := fa ?b25_2 a26 w26 36 (hd 2 36 rfl)
 replace e_w := e_w.trans x
 replace e_w23 := e_w23.trans x
 have e_w24 := x
 clear hd hs x
 refine exit_then ?_
 refine wp_cond_split (show _ = _ from s36) (fun hd9 => ?_) (fun hd9 => ?_)
 · skip
   exfalso; simp [hpl] at hd9
 · skip
   clear hd9
   refine wp_skip ?_
   refine exit_then ?_
   refine wp_seq ?_
   refine wp_reg_pre (l := [_, _]) (rest := [_]) 89 [[(7, none)], [(37, some 0)]] [?b28_0, ?b28_1] (by kernel_rfl) (by kernel_rfl) hr ?t28 ?o28 ?_
   case o28 =>
    refine oc0 (fun A W hx hf => ?_) ?_
    exact ok_movE (a0 := a26) (r0 hf)
    refine oc0 (fun A W hx hf => ?_) ?_
    exact ok_indexA (6) Try.underlying22 size5 (p2 s7 e_w24 hx (q0 ?b28_0 A W 37 hf)) (ec A (.int .i64 6)) (by omega)
    exact OpsOk.nil
   case t28 => exact inferInstance
   clear hr; intro a29 w29 x hr hd hs
   revert s7; revert s6; revert s4; revert s2; revert s3; refine kp5 hs rfl ?_; intro s3 s2 s4 s6 s7
   clear s36
   have s38 := fa ?b28_1 a29 w29 38 (hd 1 38 rfl)
   replace e_w := e_w.trans x
   replace e_w23 := e_w23.trans x
   replace e_w24 := e_w24.trans x
   clear hd hs x
   have z30 := EpA.lt s38
   have l30 := (show (g23 = 0 ∨ w.heap.size < g23) ∧ True from ⟨by omega, trivial⟩)
   have l30_3 := PxS.lt (later e_w23 s3)
   refine wl_storeA hr size5 s38 (show ByteIs 0 _ _ from rfl) ?_; clear hr; intro a30 w30 hc hu hr hs
   have hb : Below w.heap.size w29 w30 := hc.below e_w.size l30.1
   revert s7; revert s6; revert s4; revert s2; revert s3; refine kp5 hs rfl ?_; intro s3 s2 s4 s6 s7
   clear s38
   replace s3 := PxS.other (later e_w23 s3) hc (by omega)
   replace s7 := hu _ _ _ (later e_w24 s7)
   replace e_w := e_w.below (Nat.le_refl _) hb
   clear e_w23
   clear e_w24
   replace s2 := anyw (w2 := w30) s2
   replace s4 := anyw (w2 := w30) s4
   replace s6 := anyw (w2 := w30) s6
   clear hu hs hc hb
   refine wpList_nil ?_
   refine exit_then ?_
   refine wp_seq ?_
   refine wp_reg_pre (l := [_, _]) (rest := [_, _, _, _, _, _, _, _]) 89 [[(7, none)], []] [?b31_0, ?b31_1] (by kernel_rfl) (by kernel_rfl) hr ?t31 ?o31 ?_
   case o31 =>
    refine oc0 (fun A W hx hf => ?_) ?_
    exact ok_movE (a0 := a30) (r0 hf)
    refine oc0 (fun A W hx hf => ?_) ?_
    exact ok_buildBs [(.const (.int .u8 17)), (.const (.int .u8 0)), (.const (.int .u8 0)), (.const (.int .u8 0)), (.const (.int .u8 0)), (.const (.int .u8 0)), (.const (.int .u8 0)), (.const (.int .u8 0))] [_, _, _, _, _, _, _, _] Try.underlying22 size5 zero5 rfl rfl (by decide) (PartsOk.cons (show ByteIs 17 _ _ from rfl) (PartsOk.cons (show ByteIs 0 _ _ from rfl) (PartsOk.cons (show ByteIs 0 _ _ from rfl) (PartsOk.cons (show ByteIs 0 _ _ from rfl) (PartsOk.cons (show ByteIs 0 _ _ from rfl) (PartsOk.cons (show ByteIs 0 _ _ from rfl) (PartsOk.cons (show ByteIs 0 _ _ from rfl) (PartsOk.cons (show ByteIs 0 _ _ from rfl) (PartsOk.nil)))))))))
    exact OpsOk.nil
   case t31 => exact inferInstance
   clear hr; intro a32 w32 x hr hd hs
   have u40 := mv s7 (fa ?b31_0 a32 w32 40 (hd 0 40 rfl))
   revert s6; revert s4; revert s2; revert s3; refine kp4 hs rfl ?_; intro s3 s2 s4 s6
   clear s7
   have s40 := u40; clear u40
   have s41 := fa ?b31_1 a32 w32 41 (hd 1 41 rfl)
   replace e_w := e_w.trans x
   have e_w30 := x
   clear hd hs x
   have l33 := OwnBA.lt (later e_w30 s40)
   have l33_3 := PxS.lt (later e_w30 s3)
   refine wl_append_bsA hr (by decide) Try.underlying22 info5 rfl (later e_w30 s40) s41 e_w.size (by first | (simp [hpl]; done) | (simp [hpl]; omega)) ?_; clear hr; intro g33 a33 w33 hg33 hc hr hd hs
   have hb := hc.below e_w.size l33.1
   revert s6; revert s4; revert s2; revert s3; refine kp4 hs rfl ?_; intro s3 s2 s4 s6
   clear s40 s41
   replace s3 := PxS.other (later e_w30 s3) hc (by omega)
   have s42 := hd
   replace e_w := e_w.below (Nat.le_refl _) hb
   clear e_w30
   replace s2 := anyw (w2 := w33) s2
   replace s4 := anyw (w2 := w33) s4
   replace s6 := anyw (w2 := w33) s6
   clear hd hs hb hc
   refine wl_op hr (ok_call1 body10 (c_xRead (OwnBA.bs s42))) inferInstance ?_; clear hr; intro a34 w34 x hr hd hs
   revert s6; revert s4; revert s2; revert s3; refine kp4 hs rfl ?_; intro s3 s2 s4 s6
   clear s42
   have s43 := hd 43 rfl (by decide)
   replace e_w := e_w.trans x
   have e_w33 := x
   clear hd hs x
   refine wl_op hr (ok_move s43) inferInstance ?_; clear hr; intro a35 w35 x hr hd hs
   revert s6; revert s4; revert s2; revert s3; refine kp4 hs rfl ?_; intro s3 s2 s4 s6
   clear s43
   have s39 := hd 39 rfl (by decide)
   replace e_w := e_w.trans x
   replace e_w33 := e_w33.trans x
   clear hd hs x
   refine wl_op hr (ok_ext0 s39) inferInstance ?_; clear hr; intro a36 w36 x hr hd hs
   revert s39; revert s6; revert s4; revert s2; revert s3; refine kp5 hs rfl ?_; intro s3 s2 s4 s6 s39
   have s44 := hd 44 rfl (by decide)
   replace e_w := e_w.trans x
   replace e_w33 := e_w33.trans x
   have e_w35 := x
   clear hd hs x
   refine wl_op hr (ok_ext1 (later e_w35 s39)) inferInstance ?_; clear hr; intro a37 w37 x hr hd hs
   revert s44; revert s6; revert s4; revert s2; revert s3; refine kp5 hs rfl ?_; intro s3 s2 s4 s6 s44
   clear s39
   have s45 := hd 45 rfl (by decide)
   replace e_w := e_w.trans x
   replace e_w33 := e_w33.trans x
   clear e_w35
   have e_w36 := x
   clear hd hs x
   have l38_3 := PxS.lt (later e_w33 s3)
   refine wl_op hr (ok_allocS (sixS2 six0) [1, 1, 1, 1, 1, 1, 1, 16, 1, 16] zerov28 (by rfl) (by rfl) (Nat.le_refl _)) inferInstance ?_; clear hr; intro a38 w38 x hr hd hs
   revert s45; revert s44; revert s6; revert s4; revert s2; revert s3; refine kp6 hs rfl ?_; intro s3 s2 s4 s6 s44 s45
   have s8 := hd 8 rfl (by decide)
   obtain ⟨g38_8, q38_8⟩ := PxN.at s8; clear s8; have n38_8 := PxS.lt q38_8
   replace q38_8 := PxS.mono q38_8 e_w.size
   have s8 := q38_8; clear q38_8
   replace e_w := e_w.trans x
   replace e_w33 := e_w33.trans x
   replace e_w36 := e_w36.trans x
   have e_w37 := x
   clear hd hs x
   have z39 := PxS.lt s8
   have l39 := (show (g38_8 = 0 ∨ w.heap.size < g38_8) ∧ True from ⟨by omega, trivial⟩)
   have l39_3 := PxS.lt (later e_w33 s3)
   refine wl_storeSm (sixS2 (sixRead ((sixPut some9).set 6 0 ++ [17, 0, 0, 0, 0, 0, 0, 0])).1) hr size28 s8 (Is.conv (later e_w36 s44) (show SixV _ = _ from by unfold SixV; rw [six_seg])) (by exact sixS2_lens (sixRead_ok _)) (by rw [six_seg]; exact six_one) rfl ?_; clear hr; intro a39 w39 hc hu hr hs
   have hb : Below w.heap.size w38 w39 := hc.below e_w.size l39.1
   revert s8; revert s45; revert s6; revert s4; revert s2; revert s3; refine kp6 hs rfl ?_; intro s3 s2 s4 s6 s45 s8
   clear s44
   replace s3 := PxS.other (later e_w33 s3) hc (by omega)
   replace s8 := hu _ _ _ s8
   try simp only [List.set_cons_zero, List.set_cons_succ, sixS2] at s8
   replace e_w := e_w.below (Nat.le_refl _) hb
   clear e_w33
   clear e_w36
   clear e_w37
   replace s2 := anyw (w2 := w39) s2
   replace s4 := anyw (w2 := w39) s4
   replace s6 := anyw (w2 := w39) s6
   replace s45 := anyw (w2 := w39) s45
   clear hu hs hc hb
   refine wl_op hr (ok_assign s45) inferInstance ?_; clear hr; intro a40 w40 x hr hd hs
   revert s6; revert s4; revert s2; revert s8; revert s3; refine kp5 hs rfl ?_; intro s3 s8 s2 s4 s6
   clear s45
   have s9 := hd 9 rfl (by decide)
   replace e_w := e_w.trans x
   have e_w39 := x
   clear hd hs x
   refine wpList_nil ?_
   replace s8 := PxS.cast s8 (show _ = sixS2 x9 from by rw [some9_ext]; rfl)
   replace s9 := Is.int s9 (show _ = (0 : Int) from by rw [some9_ext])
   refine exit_then ?_
   refine wp_seq ?_
   refine wp_reg 89 [[], [(47, some 0)], [(48, some 1)], [(46, some 2)], [(46, some 2)], [(49, some 3)], [(50, some 4)]] [?b41_0, ?b41_1, ?b41_1, ?b41_3, ?b41_4, ?b41_3, ?b41_4] mixed (by kernel_rfl) (by kernel_rfl) hr ?t41 ?o41 ?_
   case o41 =>
    refine oc0 (fun A W hx hf => ?_) ?_
    exact ok_build0 built28
    refine oc0 (fun A W hx hf => ?_) ?_
    exact ok_call1 body12 (c_xPut (show Is (SixV six0) _ _ from (q0 ?b41_0 A W 47 hf)) (by exact six0_ok) hx.size)
    refine oc0 (fun A W hx hf => ?_) ?_
    exact ok_move (q0 ?b41_1 A W 48 hf)
    refine oc0 (fun A W hx hf => ?_) ?_
    exact ok_ext0 (q0 ?b41_1 A W 46 hf)
    refine oc0 (fun A W hx hf => ?_) ?_
    exact ok_ext1 (q0 ?b41_1 A W 46 hf)
    refine oc0 (fun A W hx hf => ?_) ?_
    exact ok_assign (q0 ?b41_3 A W 49 hf)
    refine oc0 (fun A W hx hf => ?_) ?_
    exact ok_assign (q0 ?b41_4 A W 50 hf)
    exact OpsOk.nil
   case t41 => exact inferInstance
   clear hr; intro a42 w42 x hr hd hs
   have z_w_w40 := e_w.size
   have z_w39_w40 := e_w39.size
   revert s9; revert s8; revert s6; revert s4; revert s2; revert s3; refine kp6 hs rfl ?_; intro s3 s2 s4 s6 s8 s9
   have s11 := fa ?b41_4 a42 w42 11 (hd 6 11 rfl)
   replace e_w := e_w.trans x
   replace e_w39 := e_w39.trans x
   have e_w40 := x
   clear hd hs x
   replace s11 := Is.int s11 (show _ = (1 : Int) from by rw [six0_put])
   refine exit_then ?_
   refine wp_seq ?_
   refine wp_reg 89 ([(2, none)] :: [(51, some 0)] :: [(52, some 1)] :: [(4, none), (53, some 2)] :: [(54, some 3), (53, some 2)] :: [(53, some 2), (55, some 4)] :: [(56, some 5)] :: [(3, none), (57, some 6)] :: [(57, some 6)] :: [(58, some 7), (59, some 8), (57, some 6)] :: [(57, some 6), (60, some 9)] :: [(61, some 10)] :: [(6, none), (62, some 11)] :: [(63, some 12), (62, some 11)] :: [(62, some 11), (64, some 13)] :: [(65, some 14)] :: [(9, none), (66, some 15)] :: [(67, some 16), (66, some 15)] :: [(66, some 15), (68, some 17)] :: [(69, some 18)] :: [(8, none), (70, some 19)] :: [(71, some 20), (70, some 19)] :: [(72, some 21), (70, some 19)] :: [(70, some 19), (73, some 22)] :: [(74, some 23)] :: [(8, none), (75, some 24)] :: [(76, some 25), (75, some 24)] :: [(77, some 26), (75, some 24)] :: [(75, some 24), (78, some 27)] :: [(79, some 28)] :: [(8, none), (80, some 29)] :: [(81, some 30), (80, some 29)] :: [(82, some 31), (80, some 29)] :: [(80, some 29), (83, some 32)] :: [(84, some 33)] :: [(11, none), (85, some 34)] :: [(86, some 35), (85, some 34)] :: [(85, some 34), (87, some 36)] :: [(88, some 37)] :: []) (?b43_0 :: ?b43_1 :: ?b43_1 :: ?b43_3 :: ?b43_4 :: ?b43_5 :: ?b43_5 :: ?b43_7 :: ?b43_8 :: ?b43_9 :: ?b43_10 :: ?b43_10 :: ?b43_12 :: ?b43_13 :: ?b43_14 :: ?b43_14 :: ?b43_16 :: ?b43_17 :: ?b43_18 :: ?b43_18 :: ?b43_20 :: ?b43_21 :: ?b43_22 :: ?b43_23 :: ?b43_23 :: ?b43_25 :: ?b43_26 :: ?b43_27 :: ?b43_28 :: ?b43_28 :: ?b43_30 :: ?b43_31 :: ?b43_32 :: ?b43_33 :: ?b43_33 :: ?b43_35 :: ?b43_36 :: ?b43_37 :: ?b43_37 :: []) mixed (by kernel_rfl) (by kernel_rfl) hr ?t43 ?o43 ?_
   case o43 =>
    refine oc0 (fun A W hx hf => ?_) ?_
    exact ok_movE (a0 := a42) (r0 hf)
    refine oc0 (fun A W hx hf => ?_) ?_
    exact ok_eql (p2 s2 e_w39 hx (q0 ?b43_0 A W 51 hf)) (ec A (.int .i64 0))
    refine oc0 (fun A W hx hf => ?_) ?_
    exact ok_move (q0 ?b43_1 A W 52 hf)
    refine ocg 53 ?_ (fun A W hx hf => ?_) ?_
    rfl
    exact gd_t (q1 ?b43_1 A W 53 hf) (fun hc => ok_movE (a0 := a42) (r0 hf))
    refine ocg 53 ?_ (fun A W hx hf => ?_) ?_
    rfl
    exact gd_t (q1 ?b43_1 A W 53 hf) (fun hc => ok_eql (p2 s4 e_w39 hx (G.get (q0 ?b43_3 A W 54 hf) hc)) (ec A (.int .i64 0)))
    refine oc0 (fun A W hx hf => ?_) ?_
    exact ok_and (q0 ?b43_1 A W 53 hf) (q1 ?b43_4 A W 55 hf)
    refine oc0 (fun A W hx hf => ?_) ?_
    exact ok_move (q0 ?b43_5 A W 56 hf)
    refine ocg 57 ?_ (fun A W hx hf => ?_) ?_
    rfl
    exact gd_t (q1 ?b43_5 A W 57 hf) (fun hc => ok_loadSeg Try.underlying28 rfl size28 (o2 s3 e_w39 hx (r0 hf)) rfl rfl)
    refine ocg 57 ?_ (fun A W hx hf => ?_) ?_
    rfl
    exact gd_t (q0 ?b43_5 A W 57 hf) (fun hc => ok_call0 body18 (c_some9 ))
    refine ocg 57 ?_ (fun A W hx hf => ?_) ?_
    rfl
    exact gd_t (q2 ?b43_5 A W 57 hf) (fun hc => ok_eqself eqg28 (eq_six (sixRead_ok _)) (G.get (q0 ?b43_7 A W 58 hf) hc) (Is.conv (G.get (q1 ?b43_8 A W 59 hf) hc) (show SixV some9 = SixV (sixRead _).1 from by rw [List.nil_append, some9_read])))
    refine oc0 (fun A W hx hf => ?_) ?_
    exact ok_and (q0 ?b43_5 A W 57 hf) (q1 ?b43_9 A W 60 hf)
    refine oc0 (fun A W hx hf => ?_) ?_
    exact ok_move (q0 ?b43_10 A W 61 hf)
    refine ocg 62 ?_ (fun A W hx hf => ?_) ?_
    rfl
    exact gd_t (q1 ?b43_10 A W 62 hf) (fun hc => ok_movE (a0 := a42) (r0 hf))
    refine ocg 62 ?_ (fun A W hx hf => ?_) ?_
    rfl
    exact gd_t (q1 ?b43_10 A W 62 hf) (fun hc => ok_eql (p2 s6 e_w39 hx (G.get (q0 ?b43_12 A W 63 hf) hc)) (ec A (.int .i64 2)))
    refine oc0 (fun A W hx hf => ?_) ?_
    exact ok_and (q0 ?b43_10 A W 62 hf) (q1 ?b43_13 A W 64 hf)
    refine oc0 (fun A W hx hf => ?_) ?_
    exact ok_move (q0 ?b43_14 A W 65 hf)
    refine ocg 66 ?_ (fun A W hx hf => ?_) ?_
    rfl
    exact gd_t (q1 ?b43_14 A W 66 hf) (fun hc => ok_movE (a0 := a42) (r0 hf))
    refine ocg 66 ?_ (fun A W hx hf => ?_) ?_
    rfl
    exact gd_t (q1 ?b43_14 A W 66 hf) (fun hc => ok_eql (p2 s9 e_w40 hx (G.get (q0 ?b43_16 A W 67 hf) hc)) (ec A (.int .i64 0)))
    refine oc0 (fun A W hx hf => ?_) ?_
    exact ok_and (q0 ?b43_14 A W 66 hf) (q1 ?b43_17 A W 68 hf)
    refine oc0 (fun A W hx hf => ?_) ?_
    exact ok_move (q0 ?b43_18 A W 69 hf)
    refine ocg 70 ?_ (fun A W hx hf => ?_) ?_
    rfl
    exact gd_t (q1 ?b43_18 A W 70 hf) (fun hc => ok_fieldS 0 Try.underlying28 (k := 0) rfl size3 rfl (o2 s8 e_w39 hx (r0 hf)) rfl)
    refine ocg 70 ?_ (fun A W hx hf => ?_) ?_
    rfl
    exact gd_t (q1 ?b43_18 A W 70 hf) (fun hc => ok_loadS Try.underlying3 rfl (G.get (q0 ?b43_20 A W 71 hf) hc) rfl)
    refine ocg 70 ?_ (fun A W hx hf => ?_) ?_
    rfl
    exact gd_t (q1 ?b43_18 A W 70 hf) (fun hc => ok_eql (G.get (q0 ?b43_21 A W 72 hf) hc) (ec A (.int .i64 48)))
    refine oc0 (fun A W hx hf => ?_) ?_
    exact ok_and (q0 ?b43_18 A W 70 hf) (q1 ?b43_22 A W 73 hf)
    refine oc0 (fun A W hx hf => ?_) ?_
    exact ok_move (q0 ?b43_23 A W 74 hf)
    refine ocg 75 ?_ (fun A W hx hf => ?_) ?_
    rfl
    exact gd_t (q1 ?b43_23 A W 75 hf) (fun hc => ok_fieldS 4 Try.underlying28 (k := 4) rfl size3 rfl (o2 s8 e_w39 hx (r0 hf)) rfl)
    refine ocg 75 ?_ (fun A W hx hf => ?_) ?_
    rfl
    exact gd_t (q1 ?b43_23 A W 75 hf) (fun hc => ok_loadS Try.underlying3 rfl (G.get (q0 ?b43_25 A W 76 hf) hc) rfl)
    refine ocg 75 ?_ (fun A W hx hf => ?_) ?_
    rfl
    exact gd_t (q1 ?b43_23 A W 75 hf) (fun hc => ok_eql (G.get (q0 ?b43_26 A W 77 hf) hc) (ec A (.int .i64 1)))
    refine oc0 (fun A W hx hf => ?_) ?_
    exact ok_and (q0 ?b43_23 A W 75 hf) (q1 ?b43_27 A W 78 hf)
    refine oc0 (fun A W hx hf => ?_) ?_
    exact ok_move (q0 ?b43_28 A W 79 hf)
    refine ocg 80 ?_ (fun A W hx hf => ?_) ?_
    rfl
    exact gd_t (q1 ?b43_28 A W 80 hf) (fun hc => ok_fieldS 5 Try.underlying28 (k := 5) rfl size3 rfl (o2 s8 e_w39 hx (r0 hf)) rfl)
    refine ocg 80 ?_ (fun A W hx hf => ?_) ?_
    rfl
    exact gd_t (q1 ?b43_28 A W 80 hf) (fun hc => ok_loadS Try.underlying3 rfl (G.get (q0 ?b43_30 A W 81 hf) hc) rfl)
    refine ocg 80 ?_ (fun A W hx hf => ?_) ?_
    rfl
    exact gd_t (q1 ?b43_28 A W 80 hf) (fun hc => ok_eql (G.get (q0 ?b43_31 A W 82 hf) hc) (ec A (.int .i64 17)))
    refine oc0 (fun A W hx hf => ?_) ?_
    exact ok_and (q0 ?b43_28 A W 80 hf) (q1 ?b43_32 A W 83 hf)
    refine oc0 (fun A W hx hf => ?_) ?_
    exact ok_move (q0 ?b43_33 A W 84 hf)
    refine ocg 85 ?_ (fun A W hx hf => ?_) ?_
    rfl
    exact gd_t (q1 ?b43_33 A W 85 hf) (fun hc => ok_movE (a0 := a42) (r0 hf))
    refine ocg 85 ?_ (fun A W hx hf => ?_) ?_
    rfl
    exact gd_t (q1 ?b43_33 A W 85 hf) (fun hc => ok_eql (p1 s11 hx (G.get (q0 ?b43_35 A W 86 hf) hc)) (ec A (.int .i64 1)))
    refine oc0 (fun A W hx hf => ?_) ?_
    exact ok_and (q0 ?b43_33 A W 85 hf) (q1 ?b43_36 A W 87 hf)
    refine oc0 (fun A W hx hf => ?_) ?_
    exact ok_assign (q0 ?b43_37 A W 88 hf)
    exact OpsOk.nil
   case t43 => repeat (first | exact stb_nil | refine stb_cons ?_)
   clear hr; intro a44 w44 x hr hd hs
   clear s3 s2 s4 s6 s8 s9 s11
   have s0 := fa ?b43_37 a44 w44 0 (hd 38 0 rfl)
   replace e_w := e_w.trans x
   clear e_w39
   clear e_w40
   clear hd hs x
   refine exit_then ?_
   refine wp_ret ?_
   refine ret_tmp Try.results9 hr e_w ?_
   exact Is.bool s0 (by simp [x9])

end Go.Proofs.Ytdohlcakoamdhaa
