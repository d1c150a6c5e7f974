import Derived.Test.YtdbjpfjnambenaaC07b
import Derived.Test.YtdbjpfjnambenaaC07c
import Derived.Test.YtdbjpfjnambenaaC07d
import Derived.Test.YtdbjpfjnambenaaE07
import Derived.Test.YtdbjpfjnambenaaP07
namespace Go.Proofs.Ytdbjpfjnambenaa
open Go.RowKit
set_option linter.unusedVariables false
set_option maxRecDepth 4000
set_option maxHeartbeats 1000000 in
theorem c_awake07 {w : World}    :
    Calls Try.prog 9 #[] w (Ret (Is (.bool true)) w) := by
 have hpl := some7_len
 refine enter Try.func9 rfl Try.ntmps9 (k := 0) rfl (by decide) (fun a0 hr hargs => ?_)
 clear hargs
 refine wp_seq ?_
 refine wp_reg 114 [[]] [?b1_0] mixed (by kernel_rfl) (by kernel_rfl) hr ?t1 ?o1 ?_
 case o1 =>
  refine oc0 (fun A W hx hf => ?_) ?_
  exact ok_assignc
  exact OpsOk.nil
 case t1 => exact inferInstance
 clear hr; intro a2 w2 x hr hd hs
 have e_w := x
 clear hd hs x
 refine exit_then ?_
 refine wp_seq ?_
 refine wp_reg_pre (l := [_, _, _, _, _]) (rest := [_, _]) 114 [[], [], [], [(12, some 2)], [(10, some 0), (11, some 1), (13, some 3)]] [?b3_0, ?b3_1, ?b3_2, ?b3_3, ?b3_4] (by kernel_rfl) (by kernel_rfl) hr ?t3 ?o3 ?_
 case o3 =>
  refine oc0 (fun A W hx hf => ?_) ?_
  exact ok_buildArr [1, 0, 0, 0, 0, 0] [(0, (.int .u8 1))] rfl (by kernel_rfl)
  refine oc0 (fun A W hx hf => ?_) ?_
  exact ok_buildArr [2, 0, 0, 0, 0, 0] [(0, (.int .u8 2))] rfl (by kernel_rfl)
  refine oc0 (fun A W hx hf => ?_) ?_
  exact ok_buildS [(0, (.const (.int .i64 33024))), (1, (.const (.int .i64 258)))] [(0, _), (1, _)] lay45 rfl (PartsC.one (ec A (.int .i64 33024)) rfl (PartsC.one (ec A (.int .i64 258)) rfl (PartsC.nil))) (by first | rfl | simp [adrCells, *])
  refine oc0 (fun A W hx hf => ?_) ?_
  exact ok_buildRw (R := tagR) [(.tmp 12)] [⟨33024, 258⟩] Try.underlying25 size45 zerom45 rfl rfl rfl (by decide) (PartsR.cons (Is.conv (q0 ?b3_2 A W 12 hf) rfl) (PartsR.nil)) hx.size
  refine oc0 (fun A W hx hf => ?_) ?_
  exact ok_buildO (e := 45) (L := some7) [(0, .tmp 10), (1, .tmp 11), (2, .tmp 13), (3, .const (.int .i64 2048))] (fun v => [(0, [.int .u8 1, .int .u8 0, .int .u8 0, .int .u8 0, .int .u8 0, .int .u8 0]), (1, [.int .u8 2, .int .u8 0, .int .u8 0, .int .u8 0, .int .u8 0, .int .u8 0]), (2, [v]), (3, [.int .i64 2048])]) (.tmp 13) lay27 rfl (q2 ?b3_3 A W 13 hf) (PartsC.agg (q0 ?b3_0 A W 10 hf) (PartsC.agg (q1 ?b3_1 A W 11 hf) (PartsC.one rfl (rw_one (OwnR.rw (q2 ?b3_3 A W 13 hf))) (PartsC.one (ec _ _) rfl PartsC.nil)))) rfl (fun v => rfl)
  exact OpsOk.nil
 case t3 => exact inferInstance
 clear hr; intro a4 w4 x hr hd hs
 have z_w_w2 := e_w.size
 have s14 := fa ?b3_4 a4 w4 14 (hd 4 14 rfl)
 obtain ⟨sv14, s14, gL⟩ := LinkO.open s14; obtain ⟨g4_14, gL⟩ := OwnR.at gL; have n4_14 := OwnRA.lt gL
 replace gL := OwnRA.mono gL e_w.size
 replace e_w := e_w.trans x
 clear hd hs x
 have l5_gL := OwnRA.lt gL
 refine wl_op hr (ok_allocS (lnkS link0 (.slice none 0 0)) [6, 6, 1, 1, 1] zerov27 (by rfl) (by rfl) (Nat.le_refl _)) inferInstance ?_; clear hr; intro a5 w5 x hr hd hs
 revert s14; refine kp1 hs rfl ?_; intro s14
 have s1 := hd 1 rfl (by decide)
 obtain ⟨g5_1, q5_1⟩ := PxN.at s1; clear s1; have n5_1 := PxS.lt q5_1
 replace q5_1 := PxS.mono q5_1 e_w.size
 have s1 := q5_1; clear q5_1
 replace e_w := e_w.trans x
 have e_w4 := x
 clear hd hs x
 have z6 := PxS.lt s1
 have l6 := (show (g5_1 = 0 ∨ w.heap.size < g5_1) ∧ True from ⟨by omega, trivial⟩)
 have l6_gL := OwnRA.lt (later e_w4 gL)
 refine wl_storeSm (lnkS some7 sv14) hr size27 s1 (later e_w4 s14) (by rfl) (by exact lnk_one (rw_one (OwnRA.rw (later e_w4 gL)))) rfl ?_; clear hr; intro a6 w6 hc hu hr hs
 have hb : Below w.heap.size w5 w6 := hc.below e_w.size l6.1
 revert s1; refine kp1 hs rfl ?_; intro s1
 clear s14
 replace s1 := hu _ _ _ s1
 try simp only [List.set_cons_zero, List.set_cons_succ, lnkS] at s1
 replace gL := OwnRA.other (later e_w4 gL) hc (by omega)
 replace e_w := e_w.below (Nat.le_refl _) hb
 clear e_w4
 clear hu hs hc hb
 refine wpList_nil ?_
 refine exit_then ?_
 refine wp_seq ?_
 refine wp_reg 114 [[(1, none)], [(16, some 0)], [(17, some 1)], [(15, some 2)], [(15, some 2)], [(18, some 3)], [(19, some 4)]] [?b7_0, ?b7_1, ?b7_1, ?b7_3, ?b7_4, ?b7_3, ?b7_4] mixed (by kernel_rfl) (by kernel_rfl) hr ?t7 ?o7 ?_
 case o7 =>
  refine oc0 (fun A W hx hf => ?_) ?_
  exact ok_loadAggS 5 Try.underlying27 rfl size27 (o1 s1 hx (r0 hf)) rfl
  refine oc0 (fun A W hx hf => ?_) ?_
  exact ok_call1 body13 (c_lPut (LinkV.of (show Is (LnkA some7 sv14) _ _ from (q0 ?b7_0 A W 16 hf)) (OwnRA.rw (later hx gL))) (by exact some7_ok) hx.size)
  refine oc0 (fun A W hx hf => ?_) ?_
  exact ok_move (q0 ?b7_1 A W 17 hf)
  refine oc0 (fun A W hx hf => ?_) ?_
  exact ok_ext0 (q0 ?b7_1 A W 15 hf)
  refine oc0 (fun A W hx hf => ?_) ?_
  exact ok_ext1 (q0 ?b7_1 A W 15 hf)
  refine oc0 (fun A W hx hf => ?_) ?_
  exact ok_assign (q0 ?b7_3 A W 18 hf)
  refine oc0 (fun A W hx hf => ?_) ?_
  exact ok_assign (q0 ?b7_4 A W 19 hf)
  exact OpsOk.nil
 case t7 => exact inferInstance
 clear hr; intro a8 w8 x hr hd hs
 have z_w_w6 := e_w.size
 have l8_1 := PxS.lt s1
 have l8_gL := OwnRA.lt gL
 revert s1; refine kp1 hs rfl ?_; intro s1
 have s2 := fa ?b7_3 a8 w8 2 (hd 5 2 rfl)
 have s3 := fa ?b7_4 a8 w8 3 (hd 6 3 rfl)
 obtain ⟨g8_2, q8_2⟩ := OwnB.at s2; clear s2; have n8_2 := OwnBA.lt q8_2
 replace q8_2 := OwnBA.mono q8_2 e_w.size
 have s2 := q8_2; clear q8_2
 replace e_w := e_w.trans x
 have e_w6 := x
 clear hd hs x
 replace s2 := OwnBA.cast s2 (show _ = linkPut some7 from by rw [some7_put])
 replace s3 := Is.int s3 (show _ = (0 : Int) from by rw [some7_put])
 refine exit_then ?_
 refine wp_seq ?_
 refine wp_reg_pre (l := [_, _]) (rest := [_, _, _, _, _, _, _, _, _, _]) 114 [[], [(2, none)]] [?b9_0, ?b9_1] (by kernel_rfl) (by kernel_rfl) hr ?t9 ?o9 ?_
 case o9 =>
  refine oc0 (fun A W hx hf => ?_) ?_
  exact ok_ownBs [] [] Try.underlying22 size5 zero5 rfl rfl (by decide) hx.size (PartsOk.nil)
  refine oc0 (fun A W hx hf => ?_) ?_
  exact ok_movE (a0 := a8) (r0 hf)
  exact OpsOk.nil
 case t9 => exact inferInstance
 clear hr; intro a10 w10 x hr hd hs
 have z_w_w8 := e_w.size
 have z_w6_w8 := e_w6.size
 have l10_1 := PxS.lt (later e_w6 s1)
 have l10_2 := OwnBA.lt s2
 have l10_gL := OwnRA.lt (later e_w6 gL)
 have u22 := mv s2 (fa ?b9_1 a10 w10 22 (hd 1 22 rfl))
 revert s3; revert s2; revert s1; refine kp3 hs rfl ?_; intro s1 s2 s3
 have s22 := u22; clear u22
 have s21 := fa ?b9_0 a10 w10 21 (hd 0 21 rfl)
 obtain ⟨g10_21, q10_21⟩ := OwnB.at s21; clear s21; have n10_21 := OwnBA.lt q10_21
 replace q10_21 := OwnBA.mono q10_21 e_w.size
 have s21 := q10_21; clear q10_21
 replace e_w := e_w.trans x
 replace e_w6 := e_w6.trans x
 have e_w8 := x
 clear hd hs x
 have l11 := OwnBA.lt s21
 have l11_1 := PxS.lt (later e_w6 s1)
 have l11_2 := OwnBA.lt (later e_w8 s2)
 have l11_gL := OwnRA.lt (later e_w6 gL)
 refine wl_append_bsA hr (by decide) Try.underlying22 info5 rfl s21 (OwnBA.bs (later e_w8 s22)) e_w.size (by first | (simp [hpl]; done) | (simp [hpl]; omega)) ?_; clear hr; intro g11 a11 w11 hg11 hc hr hd hs
 have hb := hc.below e_w.size l11.1
 revert s3; revert s2; revert s1; refine kp3 hs rfl ?_; intro s1 s2 s3
 clear s22 s21
 replace s1 := PxS.other (later e_w6 s1) hc (by omega)
 replace s2 := OwnBA.other (later e_w8 s2) hc (by omega)
 have s23 := hd
 replace gL := OwnRA.other (later e_w6 gL) hc (by omega)
 replace e_w := e_w.below (Nat.le_refl _) hb
 clear e_w6
 clear e_w8
 replace s3 := anyw (w2 := w11) s3
 clear hd hs hb hc
 refine wl_op hr (ok_buildBs [(.const (.int .u8 9))] [_] Try.underlying22 size5 zero5 rfl rfl (by decide) (PartsOk.cons (show ByteIs 9 _ _ from rfl) (PartsOk.nil))) inferInstance ?_; clear hr; intro a12 w12 x hr hd hs
 revert s3; revert s23; revert s2; revert s1; refine kp4 hs rfl ?_; intro s1 s2 s23 s3
 have s24 := hd 24 rfl (by decide)
 replace e_w := e_w.trans x
 have e_w11 := x
 clear hd hs x
 have l13 := OwnBA.lt (later e_w11 s23)
 have l13_1 := PxS.lt (later e_w11 s1)
 have l13_2 := OwnBA.lt (later e_w11 s2)
 have l13_gL := OwnRA.lt (later e_w11 gL)
 refine wl_append_bsA hr (by decide) Try.underlying22 info5 rfl (later e_w11 s23) s24 e_w.size (by first | (simp [hpl]; done) | (simp [hpl]; omega)) ?_; clear hr; intro g13 a13 w13 hg13 hc hr hd hs
 have hb := hc.below e_w.size l13.1
 revert s3; revert s2; revert s1; refine kp3 hs rfl ?_; intro s1 s2 s3
 clear s23 s24
 replace s1 := PxS.other (later e_w11 s1) hc (by omega)
 replace s2 := OwnBA.other (later e_w11 s2) hc (by omega)
 have s25 := hd
 replace gL := OwnRA.other (later e_w11 gL) hc (by omega)
 replace e_w := e_w.below (Nat.le_refl _) hb
 clear e_w11
 replace s3 := anyw (w2 := w13) s3
 clear hd hs hb hc
 have l14_1 := PxS.lt s1
 have l14_2 := OwnBA.lt s2
 have l14_25 := OwnBA.lt s25
 have l14_gL := OwnRA.lt gL
 refine wl_op hr (ok_call1 body10 (c_lRead (OwnBA.bs s25) (Nat.le_refl _))) inferInstance ?_; clear hr; intro a14 w14 x hr hd hs
 revert s3; revert s2; revert s1; refine kp3 hs rfl ?_; intro s1 s2 s3
 clear s25
 have s26 := hd 26 rfl (by decide)
 obtain ⟨sv27, s26, gM⟩ := Tup2.openL s26; obtain ⟨g14_26, gM⟩ := OwnR.at gM; have n14_26 := OwnRA.lt gM
 replace gM := OwnRA.mono gM e_w.size
 replace e_w := e_w.trans x
 have e_w13 := x
 clear hd hs x
 refine wl_op hr (ok_move s26) inferInstance ?_; clear hr; intro a15 w15 x hr hd hs
 revert s3; revert s2; revert s1; refine kp3 hs rfl ?_; intro s1 s2 s3
 clear s26
 have s20 := hd 20 rfl (by decide)
 replace e_w := e_w.trans x
 replace e_w13 := e_w13.trans x
 have e_w14 := x
 clear hd hs x
 refine wl_op hr (ok_ext0 s20) inferInstance ?_; clear hr; intro a16 w16 x hr hd hs
 revert s20; revert s3; revert s2; revert s1; refine kp4 hs rfl ?_; intro s1 s2 s3 s20
 have s27 := hd 27 rfl (by decide)
 replace e_w := e_w.trans x
 replace e_w13 := e_w13.trans x
 replace e_w14 := e_w14.trans x
 have e_w15 := x
 clear hd hs x
 refine wl_op hr (ok_ext1 (later e_w15 s20)) inferInstance ?_; clear hr; intro a17 w17 x hr hd hs
 revert s27; revert s3; revert s2; revert s1; refine kp4 hs rfl ?_; intro s1 s2 s3 s27
 clear s20
 have s28 := hd 28 rfl (by decide)
 replace e_w := e_w.trans x
 replace e_w13 := e_w13.trans x
 replace e_w14 := e_w14.trans x
 clear e_w15
 have e_w16 := x
 clear hd hs x
 have l18_1 := PxS.lt (later e_w13 s1)
 have l18_2 := OwnBA.lt (later e_w13 s2)
 have l18_gL := OwnRA.lt (later e_w13 gL)
 have l18_gM := OwnRA.lt (later e_w14 gM)
 refine wl_op hr (ok_allocS (lnkS link0 (.slice none 0 0)) [6, 6, 1, 1, 1] zerov27 (by rfl) (by rfl) (Nat.le_refl _)) inferInstance ?_; clear hr; intro a18 w18 x hr hd hs
 revert s28; revert s27; revert s3; revert s2; revert s1; refine kp5 hs rfl ?_; intro s1 s2 s3 s27 s28
 have s4 := hd 4 rfl (by decide)
 obtain ⟨g18_4, q18_4⟩ := PxN.at s4; clear s4; have n18_4 := PxS.lt q18_4
 replace q18_4 := PxS.mono q18_4 e_w.size
 have s4 := q18_4; clear q18_4
 replace e_w := e_w.trans x
 replace e_w13 := e_w13.trans x
 replace e_w14 := e_w14.trans x
 replace e_w16 := e_w16.trans x
 have e_w17 := x
 clear hd hs x
 have z19 := PxS.lt s4
 have l19 := (show (g18_4 = 0 ∨ w.heap.size < g18_4) ∧ True from ⟨by omega, trivial⟩)
 have l19_1 := PxS.lt (later e_w13 s1)
 have l19_2 := OwnBA.lt (later e_w13 s2)
 have l19_gL := OwnRA.lt (later e_w13 gL)
 have l19_gM := OwnRA.lt (later e_w14 gM)
 refine wl_storeSm (lnkS (linkRead ([] ++ linkPut some7 ++ [9])).1 sv27) hr size27 s4 (later e_w16 s27) (by exact lnkS_lens (linkRead_ok _)) (by exact lnk_one (rw_one (OwnRA.rw (later e_w14 gM)))) rfl ?_; clear hr; intro a19 w19 hc hu hr hs
 have hb : Below w.heap.size w18 w19 := hc.below e_w.size l19.1
 revert s4; revert s28; revert s3; revert s2; revert s1; refine kp5 hs rfl ?_; intro s1 s2 s3 s28 s4
 clear s27
 replace s1 := PxS.other (later e_w13 s1) hc (by omega)
 replace s2 := OwnBA.other (later e_w13 s2) hc (by omega)
 replace s4 := hu _ _ _ s4
 try simp only [List.set_cons_zero, List.set_cons_succ, lnkS] at s4
 replace gL := OwnRA.other (later e_w13 gL) hc (by omega)
 replace gM := OwnRA.other (later e_w14 gM) hc (by omega)
 replace e_w := e_w.below (Nat.le_refl _) hb
 clear e_w13
 clear e_w14
 clear e_w16
 clear e_w17
 replace s3 := anyw (w2 := w19) s3
 replace s28 := anyw (w2 := w19) s28
 clear hu hs hc hb
 refine wl_op hr (ok_assign s28) inferInstance ?_; clear hr; intro a20 w20 x hr hd hs
 revert s3; revert s4; revert s2; revert s1; refine kp4 hs rfl ?_; intro s1 s2 s4 s3
 clear s28
 have s5 := hd 5 rfl (by decide)
 replace e_w := e_w.trans x
 have e_w19 := x
 clear hd hs x
 refine wpList_nil ?_
 replace gM := OwnRA.cast gM (show _ = [⟨33024, 258⟩] from by rw [List.nil_append, some7_read]; rfl)
 replace s4 := PxS.cast s4 (show _ = [some7.dst.map byteV, some7.src.map byteV, [sv27], [.int .i64 2048], [.int .i64 18]] from by rw [List.nil_append, some7_read]; rfl)
 replace s5 := Is.int s5 (show _ = (0 : Int) from by rw [List.nil_append, some7_read])
 refine exit_then ?_
 refine wp_seq ?_
 refine wp_reg_pre (l := [_, _, _, _, _, _, _, _, _]) (rest := [_, _, _]) 114 [[(2, none)], [(2, none)], [(31, some 1)], [(32, some 2)], [(30, some 0), (33, some 3)], [(34, some 4)], [(35, some 5)], [(29, some 6)], [(29, some 6)]] [?b21_0, ?b21_1, ?b21_2, ?b21_3, ?b21_4, ?b21_5, ?b21_5, ?b21_7, ?b21_8] (by kernel_rfl) (by kernel_rfl) hr ?t21 ?o21 ?_
 case o21 =>
  refine oc0 (fun A W hx hf => ?_) ?_
  exact ok_movE (a0 := a20) (r0 hf)
  refine oc0 (fun A W hx hf => ?_) ?_
  exact ok_movE (a0 := a20) (r0 hf)
  refine oc0 (fun A W hx hf => ?_) ?_
  exact ok_len_bs Try.underlying22 (OwnBA.bs (p2 s2 e_w19 hx (q0 ?b21_1 A W 31 hf)))
  refine oc0 (fun A W hx hf => ?_) ?_
  exact ok_min2 (ec A (.int .i64 17)) (q0 ?b21_2 A W 32 hf)
  refine oc0 (fun A W hx hf => ?_) ?_
  exact ok_slice_hi (17) Try.underlying22 size5 (OwnBA.bs (p2 s2 e_w19 hx (q0 ?b21_0 A W 30 hf))) (Is.int (q1 ?b21_3 A W 33 hf) (by rw [hpl]; rfl)) (by rw [hpl]; decide)
  refine oc0 (fun A W hx hf => ?_) ?_
  exact ok_call1 body10 (c_lRead (q0 ?b21_4 A W 34 hf) hx.size)
  refine oc0 (fun A W hx hf => ?_) ?_
  exact ok_move (q0 ?b21_5 A W 35 hf)
  refine oc0 (fun A W hx hf => ?_) ?_
  exact ok_ext0 (q0 ?b21_5 A W 29 hf)
  refine oc0 (fun A W hx hf => ?_) ?_
  exact ok_ext1 (q0 ?b21_5 A W 29 hf)
  exact OpsOk.nil
 case t21 => exact inferInstance
 clear hr; intro a22 w22 x hr hd hs
 have l22_1 := PxS.lt (later e_w19 s1)
 have l22_2 := OwnBA.lt (later e_w19 s2)
 have l22_4 := PxS.lt (later e_w19 s4)
 have l22_gL := OwnRA.lt (later e_w19 gL)
 have l22_gM := OwnRA.lt (later e_w19 gM)
 revert s5; revert s4; revert s3; revert s2; revert s1; refine kp5 hs rfl ?_; intro s1 s2 s3 s4 s5
 have s36 := fa ?b21_7 a22 w22 36 (hd 7 36 rfl)
 have s37 := fa ?b21_8 a22 w22 37 (hd 8 37 rfl)
 obtain ⟨sv36, s36, gN⟩ := LinkO.open s36; obtain ⟨g22_36, gN⟩ := OwnR.at gN; have n22_36 := OwnRA.lt gN
 replace gN := OwnRA.mono gN e_w.size
 replace e_w := e_w.trans x
 replace e_w19 := e_w19.trans x
 have e_w20 := x
 clear hd hs x
 have l23_1 := PxS.lt (later e_w19 s1)
 have l23_2 := OwnBA.lt (later e_w19 s2)
 have l23_4 := PxS.lt (later e_w19 s4)
 have l23_gL := OwnRA.lt (later e_w19 gL)
 have l23_gM := OwnRA.lt (later e_w19 gM)
 have l23_gN := OwnRA.lt gN
 refine wl_op hr (ok_allocS [(lnkS link0 (.slice none 0 0)).flatten] [15] zerov27 (by rfl) (by rfl) (Nat.le_refl _)) inferInstance ?_; clear hr; intro a23 w23 x hr hd hs
 revert s37; revert s5; revert s4; revert s3; revert s2; revert s1; refine kp6 hs rfl ?_; intro s1 s2 s3 s4 s5 s37
 revert s36; refine kp1 hs rfl ?_; intro s36
 have s6 := hd 6 rfl (by decide)
 obtain ⟨g23_6, q23_6⟩ := PxN.at s6; clear s6; have n23_6 := PxS.lt q23_6
 replace q23_6 := PxS.mono q23_6 e_w.size
 have s6 := q23_6; clear q23_6
 replace e_w := e_w.trans x
 replace e_w19 := e_w19.trans x
 replace e_w20 := e_w20.trans x
 have e_w22 := x
 clear hd hs x
 have z24 := PxS.lt s6
 have l24 := (show (g23_6 = 0 ∨ w.heap.size < g23_6) ∧ True from ⟨by omega, trivial⟩)
 have l24_1 := PxS.lt (later e_w19 s1)
 have l24_2 := OwnBA.lt (later e_w19 s2)
 have l24_4 := PxS.lt (later e_w19 s4)
 have l24_gL := OwnRA.lt (later e_w19 gL)
 have l24_gM := OwnRA.lt (later e_w19 gM)
 have l24_gN := OwnRA.lt (later e_w22 gN)
 refine wl_storeSn hr size27 s6 (later e_w22 s36) (by exact lnk_len (linkRead_ok _)) (by exact lnk_one (rw_one (OwnRA.rw (later e_w22 gN)))) rfl ?_; clear hr; intro a24 w24 hc hu hr hs
 have hb : Below w.heap.size w23 w24 := hc.below e_w.size l24.1
 revert s37; revert s5; revert s4; revert s3; revert s2; revert s1; refine kp6 hs rfl ?_; intro s1 s2 s3 s4 s5 s37
 clear s36 s6
 replace s1 := PxS.other (later e_w19 s1) hc (by omega)
 replace s2 := OwnBA.other (later e_w19 s2) hc (by omega)
 replace s4 := PxS.other (later e_w19 s4) hc (by omega)
 replace gL := OwnRA.other (later e_w19 gL) hc (by omega)
 replace gM := OwnRA.other (later e_w19 gM) hc (by omega)
 replace gN := OwnRA.other (later e_w22 gN) hc (by omega)
 replace e_w := e_w.below (Nat.le_refl _) hb
 clear e_w19
 clear e_w20
 clear e_w22
 replace s3 := anyw (w2 := w24) s3
 replace s5 := anyw (w2 := w24) s5
 replace s37 := anyw (w2 := w24) s37
 clear hu hs hc hb
 refine wl_op hr (ok_assign s37) inferInstance ?_; clear hr; intro a25 w25 x hr hd hs
 revert s5; revert s3; revert s4; revert s2; revert s1; refine kp5 hs rfl ?_; intro s1 s2 s4 s3 s5
 clear s37
 have s7 := hd 7 rfl (by decide)
 replace e_w := e_w.trans x
 have e_w24 := x
 clear hd hs x
 refine wpList_nil ?_
 replace s7 := Is.int s7 (show _ = (2 : Int) from some7_early)
 refine exit_then ?_
 refine wp_seq ?_
 refine wp_reg 114 [[], [(39, some 0)], [(40, some 1)], [(38, some 2)], [(38, some 2)], [(41, some 3)], [(42, some 4)]] [?b26_0, ?b26_1, ?b26_1, ?b26_3, ?b26_4, ?b26_3, ?b26_4] mixed (by kernel_rfl) (by kernel_rfl) hr ?t26 ?o26 ?_
 case o26 =>
  refine oc0 (fun A W hx hf => ?_) ?_
  exact ok_buildS [(3, (.const (.int .i64 33024)))] [(3, _)] lay27 rfl (PartsC.one (ec A (.int .i64 33024)) rfl (PartsC.nil)) (by first | rfl | simp [adrCells, *])
  refine oc0 (fun A W hx hf => ?_) ?_
  exact ok_call1 body13 (c_lPut (LinkV.of (show Is (LnkA bad7 (.slice none 0 0)) _ _ from (q0 ?b26_0 A W 39 hf)) rw_nil) (by exact ⟨rfl, rfl⟩) hx.size)
  refine oc0 (fun A W hx hf => ?_) ?_
  exact ok_move (q0 ?b26_1 A W 40 hf)
  refine oc0 (fun A W hx hf => ?_) ?_
  exact ok_ext0 (q0 ?b26_1 A W 38 hf)
  refine oc0 (fun A W hx hf => ?_) ?_
  exact ok_ext1 (q0 ?b26_1 A W 38 hf)
  refine oc0 (fun A W hx hf => ?_) ?_
  exact ok_assign (q0 ?b26_3 A W 41 hf)
  refine oc0 (fun A W hx hf => ?_) ?_
  exact ok_assign (q0 ?b26_4 A W 42 hf)
  exact OpsOk.nil
 case t26 => exact inferInstance
 clear hr; intro a27 w27 x hr hd hs
 have z_w_w25 := e_w.size
 have z_w24_w25 := e_w24.size
 revert s7; revert s5; revert s3; revert s4; revert s2; revert s1; refine kp6 hs rfl ?_; intro s1 s2 s4 s3 s5 s7
 have s9 := fa ?b26_4 a27 w27 9 (hd 6 9 rfl)
 replace e_w := e_w.trans x
 replace e_w24 := e_w24.trans x
 have e_w25 := x
 clear hd hs x
 replace s9 := Is.int s9 (show _ = (1 : Int) from by rw [bad7_put])
 refine exit_then ?_
 refine wp_seq ?_
 refine wp_reg 114 ([(3, none)] :: [(43, some 0)] :: [(44, some 1)] :: [(2, none), (45, some 2)] :: [(46, some 3), (45, some 2)] :: [(47, some 4), (45, some 2)] :: [(45, some 2), (48, some 5)] :: [(49, some 6)] :: [(5, none), (50, some 7)] :: [(51, some 8), (50, some 7)] :: [(50, some 7), (52, some 9)] :: [(53, some 10)] :: [(4, none), (54, some 11)] :: [(55, some 12), (54, some 11)] :: [(56, some 13), (54, some 11)] :: [(54, some 11), (57, some 14)] :: [(58, some 15)] :: [(4, none), (59, some 16)] :: [(60, some 17), (59, some 16)] :: [(61, some 18), (59, some 16)] :: [(59, some 16), (62, some 19)] :: [(63, some 20)] :: [(4, none), (64, some 21)] :: [(65, some 22), (64, some 21)] :: [(66, some 23), (64, some 21)] :: [(67, some 24), (64, some 21)] :: [(64, some 21), (68, some 25)] :: [(69, some 26)] :: [(4, none), (70, some 27)] :: [(71, some 28), (70, some 27)] :: [(72, some 29), (70, some 27)] :: [(73, some 30), (70, some 27)] :: [(74, some 31), (70, some 27)] :: [(75, some 32), (70, some 27)] :: [(70, some 27), (76, some 33)] :: [(77, some 34)] :: [(4, none), (78, some 35)] :: [(79, some 36), (78, some 35)] :: [(1, none), (78, some 35)] :: [(81, some 38), (78, some 35)] :: [(80, some 37), (82, some 39), (78, some 35)] :: [(78, some 35), (83, some 40)] :: [(84, some 41)] :: [(7, none), (85, some 42)] :: [(86, some 43), (85, some 42)] :: [(85, some 42), (87, some 44)] :: [(88, some 45)] :: [(9, none), (89, some 46)] :: [(90, some 47), (89, some 46)] :: [(89, some 46), (91, some 48)] :: [(92, some 49)] :: [(2, none), (93, some 50)] :: [(1, none), (93, some 50)] :: [(95, some 52), (93, some 50)] :: [(1, none), (93, some 50)] :: [(97, some 54), (93, some 50)] :: [(94, some 51), (96, some 53), (98, some 55), (93, some 50)] :: [(99, some 56), (93, some 50)] :: [(100, some 57), (93, some 50)] :: [(93, some 50), (101, some 58)] :: [(102, some 59)] :: [(2, none), (103, some 60)] :: [(1, none), (103, some 60)] :: [(105, some 62), (103, some 60)] :: [(1, none), (103, some 60)] :: [(107, some 64), (103, some 60)] :: [(104, some 61), (106, some 63), (108, some 65), (103, some 60)] :: [(109, some 66), (103, some 60)] :: [(110, some 67), (103, some 60)] :: [(111, some 68), (103, some 60)] :: [(103, some 60), (112, some 69)] :: [(113, some 70)] :: []) (?b28_0 :: ?b28_1 :: ?b28_1 :: ?b28_3 :: ?b28_4 :: ?b28_5 :: ?b28_6 :: ?b28_6 :: ?b28_8 :: ?b28_9 :: ?b28_10 :: ?b28_10 :: ?b28_12 :: ?b28_13 :: ?b28_14 :: ?b28_15 :: ?b28_15 :: ?b28_17 :: ?b28_18 :: ?b28_19 :: ?b28_20 :: ?b28_20 :: ?b28_22 :: ?b28_23 :: ?b28_24 :: ?b28_25 :: ?b28_26 :: ?b28_26 :: ?b28_28 :: ?b28_29 :: ?b28_30 :: ?b28_31 :: ?b28_32 :: ?b28_33 :: ?b28_34 :: ?b28_34 :: ?b28_36 :: ?b28_37 :: ?b28_38 :: ?b28_39 :: ?b28_40 :: ?b28_41 :: ?b28_41 :: ?b28_43 :: ?b28_44 :: ?b28_45 :: ?b28_45 :: ?b28_47 :: ?b28_48 :: ?b28_49 :: ?b28_49 :: ?b28_51 :: ?b28_52 :: ?b28_53 :: ?b28_54 :: ?b28_55 :: ?b28_56 :: ?b28_57 :: ?b28_58 :: ?b28_59 :: ?b28_59 :: ?b28_61 :: ?b28_62 :: ?b28_63 :: ?b28_64 :: ?b28_65 :: ?b28_66 :: ?b28_67 :: ?b28_68 :: ?b28_69 :: ?b28_70 :: ?b28_70 :: []) mixed (by kernel_rfl) (by kernel_rfl) hr ?t28 ?o28 ?_
 case o28 =>
  refine oc0 (fun A W hx hf => ?_) ?_
  exact ok_movE (a0 := a27) (r0 hf)
  refine oc0 (fun A W hx hf => ?_) ?_
  exact ok_eql (p2 s3 e_w24 hx (q0 ?b28_0 A W 43 hf)) (ec A (.int .i64 0))
  refine oc0 (fun A W hx hf => ?_) ?_
  exact ok_move (q0 ?b28_1 A W 44 hf)
  refine ocg 45 ?_ (fun A W hx hf => ?_) ?_
  rfl
  exact gd_t (q1 ?b28_1 A W 45 hf) (fun hc => ok_movE (a0 := a27) (r0 hf))
  refine ocg 45 ?_ (fun A W hx hf => ?_) ?_
  rfl
  exact gd_t (q1 ?b28_1 A W 45 hf) (fun hc => ok_len_bs Try.underlying22 (OwnBA.bs (p2 s2 e_w24 hx (G.get (q0 ?b28_3 A W 46 hf) hc))))
  refine ocg 45 ?_ (fun A W hx hf => ?_) ?_
  rfl
  exact gd_t (q1 ?b28_1 A W 45 hf) (fun hc => ok_eql (G.get (q0 ?b28_4 A W 47 hf) hc) (ec A (.int .i64 18)))
  refine oc0 (fun A W hx hf => ?_) ?_
  exact ok_and (q0 ?b28_1 A W 45 hf) (q1 ?b28_5 A W 48 hf)
  refine oc0 (fun A W hx hf => ?_) ?_
  exact ok_move (q0 ?b28_6 A W 49 hf)
  refine ocg 50 ?_ (fun A W hx hf => ?_) ?_
  rfl
  exact gd_t (q1 ?b28_6 A W 50 hf) (fun hc => ok_movE (a0 := a27) (r0 hf))
  refine ocg 50 ?_ (fun A W hx hf => ?_) ?_
  rfl
  exact gd_t (q1 ?b28_6 A W 50 hf) (fun hc => ok_eql (p2 s5 e_w24 hx (G.get (q0 ?b28_8 A W 51 hf) hc)) (ec A (.int .i64 0)))
  refine oc0 (fun A W hx hf => ?_) ?_
  exact ok_and (q0 ?b28_6 A W 50 hf) (q1 ?b28_9 A W 52 hf)
  refine oc0 (fun A W hx hf => ?_) ?_
  exact ok_move (q0 ?b28_10 A W 53 hf)
  refine ocg 54 ?_ (fun A W hx hf => ?_) ?_
  rfl
  exact gd_t (q1 ?b28_10 A W 54 hf) (fun hc => ok_fieldS 4 Try.underlying27 (k := 4) rfl size3 rfl (o2 s4 e_w24 hx (r0 hf)) rfl)
  refine ocg 54 ?_ (fun A W hx hf => ?_) ?_
  rfl
  exact gd_t (q1 ?b28_10 A W 54 hf) (fun hc => ok_loadS Try.underlying3 rfl (G.get (q0 ?b28_12 A W 55 hf) hc) rfl)
  refine ocg 54 ?_ (fun A W hx hf => ?_) ?_
  rfl
  exact gd_t (q1 ?b28_10 A W 54 hf) (fun hc => ok_eql (G.get (q0 ?b28_13 A W 56 hf) hc) (ec A (.int .i64 18)))
  refine oc0 (fun A W hx hf => ?_) ?_
  exact ok_and (q0 ?b28_10 A W 54 hf) (q1 ?b28_14 A W 57 hf)
  refine oc0 (fun A W hx hf => ?_) ?_
  exact ok_move (q0 ?b28_15 A W 58 hf)
  refine ocg 59 ?_ (fun A W hx hf => ?_) ?_
  rfl
  exact gd_t (q1 ?b28_15 A W 59 hf) (fun hc => ok_fieldS 3 Try.underlying27 (k := 3) rfl size3 rfl (o2 s4 e_w24 hx (r0 hf)) rfl)
  refine ocg 59 ?_ (fun A W hx hf => ?_) ?_
  rfl
  exact gd_t (q1 ?b28_15 A W 59 hf) (fun hc => ok_loadS Try.underlying3 rfl (G.get (q0 ?b28_17 A W 60 hf) hc) rfl)
  refine ocg 59 ?_ (fun A W hx hf => ?_) ?_
  rfl
  exact gd_t (q1 ?b28_15 A W 59 hf) (fun hc => ok_eql (G.get (q0 ?b28_18 A W 61 hf) hc) (ec A (.int .i64 2048)))
  refine oc0 (fun A W hx hf => ?_) ?_
  exact ok_and (q0 ?b28_15 A W 59 hf) (q1 ?b28_19 A W 62 hf)
  refine oc0 (fun A W hx hf => ?_) ?_
  exact ok_move (q0 ?b28_20 A W 63 hf)
  refine ocg 64 ?_ (fun A W hx hf => ?_) ?_
  rfl
  exact gd_t (q1 ?b28_20 A W 64 hf) (fun hc => ok_fieldS 2 Try.underlying27 (k := 2) rfl size25 rfl (o2 s4 e_w24 hx (r0 hf)) rfl)
  refine ocg 64 ?_ (fun A W hx hf => ?_) ?_
  rfl
  exact gd_t (q1 ?b28_20 A W 64 hf) (fun hc => ok_is (ok_loadS Try.underlying25 rfl (G.get (q0 ?b28_22 A W 65 hf) hc) rfl) (OwnRA.rw (later (e_w24.trans hx) gM)))
  refine ocg 64 ?_ (fun A W hx hf => ?_) ?_
  rfl
  exact gd_t (q1 ?b28_20 A W 64 hf) (fun hc => ok_len_rw Try.underlying25 (G.get (q0 ?b28_23 A W 66 hf) hc))
  refine ocg 64 ?_ (fun A W hx hf => ?_) ?_
  rfl
  exact gd_t (q1 ?b28_20 A W 64 hf) (fun hc => ok_eql (G.get (q0 ?b28_24 A W 67 hf) hc) (ec A (.int .i64 1)))
  refine oc0 (fun A W hx hf => ?_) ?_
  exact ok_and (q0 ?b28_20 A W 64 hf) (q1 ?b28_25 A W 68 hf)
  refine oc0 (fun A W hx hf => ?_) ?_
  exact ok_move (q0 ?b28_26 A W 69 hf)
  refine ocg 70 ?_ (fun A W hx hf => ?_) ?_
  rfl
  exact gd_t (q1 ?b28_26 A W 70 hf) (fun hc => ok_fieldS 2 Try.underlying27 (k := 2) rfl size25 rfl (o2 s4 e_w24 hx (r0 hf)) rfl)
  refine ocg 70 ?_ (fun A W hx hf => ?_) ?_
  rfl
  exact gd_t (q1 ?b28_26 A W 70 hf) (fun hc => ok_is (ok_loadS Try.underlying25 rfl (G.get (q0 ?b28_28 A W 71 hf) hc) rfl) (OwnRA.rw (later (e_w24.trans hx) gM)))
  refine ocg 70 ?_ (fun A W hx hf => ?_) ?_
  rfl
  exact gd_t (q1 ?b28_26 A W 70 hf) (fun hc => ok_index_rw (0) Try.underlying25 size45 (G.get (q0 ?b28_29 A W 72 hf) hc) (ec A (.int .i64 0)) (by first | omega | decide | (simp; done) | (simp; omega)))
  refine ocg 70 ?_ (fun A W hx hf => ?_) ?_
  rfl
  exact gd_t (q1 ?b28_26 A W 70 hf) (fun hc => ok_fieldAddr Try.underlying45 (i := 1) rfl size3 rfl (G.get (q0 ?b28_30 A W 73 hf) hc))
  refine ocg 70 ?_ (fun A W hx hf => ?_) ?_
  rfl
  exact gd_t (q1 ?b28_26 A W 70 hf) (fun hc => ok_loadc Try.underlying3 rfl (G.get (q0 ?b28_31 A W 74 hf) hc))
  refine ocg 70 ?_ (fun A W hx hf => ?_) ?_
  rfl
  exact gd_t (q1 ?b28_26 A W 70 hf) (fun hc => ok_eql (G.get (q0 ?b28_32 A W 75 hf) hc) (ec A (.int .i64 258)))
  refine oc0 (fun A W hx hf => ?_) ?_
  exact ok_and (q0 ?b28_26 A W 70 hf) (q1 ?b28_33 A W 76 hf)
  refine oc0 (fun A W hx hf => ?_) ?_
  exact ok_move (q0 ?b28_34 A W 77 hf)
  refine ocg 78 ?_ (fun A W hx hf => ?_) ?_
  rfl
  exact gd_t (q1 ?b28_34 A W 78 hf) (fun hc => ok_fieldS 0 Try.underlying27 (k := 0) rfl size24 rfl (o2 s4 e_w24 hx (r0 hf)) rfl)
  refine ocg 78 ?_ (fun A W hx hf => ?_) ?_
  rfl
  exact gd_t (q1 ?b28_34 A W 78 hf) (fun hc => ok_loadSeg Try.underlying24 rfl size24 (G.get (q0 ?b28_36 A W 79 hf) hc) rfl rfl)
  refine ocg 78 ?_ (fun A W hx hf => ?_) ?_
  rfl
  exact gd_t (q1 ?b28_34 A W 78 hf) (fun hc => ok_fieldS 0 Try.underlying27 (k := 0) rfl size24 rfl (o2 s1 e_w24 hx (r0 hf)) rfl)
  refine ocg 78 ?_ (fun A W hx hf => ?_) ?_
  rfl
  exact gd_t (q1 ?b28_34 A W 78 hf) (fun hc => ok_loadSeg Try.underlying24 rfl size24 (G.get (q0 ?b28_38 A W 81 hf) hc) rfl rfl)
  refine ocg 78 ?_ (fun A W hx hf => ?_) ?_
  rfl
  exact gd_t (q2 ?b28_34 A W 78 hf) (fun hc => ok_eqself eqg24 (eq_six6 (l := some7.dst) rfl) (G.get (q0 ?b28_37 A W 80 hf) hc) (G.get (q1 ?b28_39 A W 82 hf) hc))
  refine oc0 (fun A W hx hf => ?_) ?_
  exact ok_and (q0 ?b28_34 A W 78 hf) (q1 ?b28_40 A W 83 hf)
  refine oc0 (fun A W hx hf => ?_) ?_
  exact ok_move (q0 ?b28_41 A W 84 hf)
  refine ocg 85 ?_ (fun A W hx hf => ?_) ?_
  rfl
  exact gd_t (q1 ?b28_41 A W 85 hf) (fun hc => ok_movE (a0 := a27) (r0 hf))
  refine ocg 85 ?_ (fun A W hx hf => ?_) ?_
  rfl
  exact gd_t (q1 ?b28_41 A W 85 hf) (fun hc => ok_eql (p2 s7 e_w25 hx (G.get (q0 ?b28_43 A W 86 hf) hc)) (ec A (.int .i64 2)))
  refine oc0 (fun A W hx hf => ?_) ?_
  exact ok_and (q0 ?b28_41 A W 85 hf) (q1 ?b28_44 A W 87 hf)
  refine oc0 (fun A W hx hf => ?_) ?_
  exact ok_move (q0 ?b28_45 A W 88 hf)
  refine ocg 89 ?_ (fun A W hx hf => ?_) ?_
  rfl
  exact gd_t (q1 ?b28_45 A W 89 hf) (fun hc => ok_movE (a0 := a27) (r0 hf))
  refine ocg 89 ?_ (fun A W hx hf => ?_) ?_
  rfl
  exact gd_t (q1 ?b28_45 A W 89 hf) (fun hc => ok_eql (p1 s9 hx (G.get (q0 ?b28_47 A W 90 hf) hc)) (ec A (.int .i64 1)))
  refine oc0 (fun A W hx hf => ?_) ?_
  exact ok_and (q0 ?b28_45 A W 89 hf) (q1 ?b28_48 A W 91 hf)
  refine oc0 (fun A W hx hf => ?_) ?_
  exact ok_move (q0 ?b28_49 A W 92 hf)
  refine ocg 93 ?_ (fun A W hx hf => ?_) ?_
  rfl
  exact gd_t (q1 ?b28_49 A W 93 hf) (fun hc => ok_movE (a0 := a27) (r0 hf))
  refine ocg 93 ?_ (fun A W hx hf => ?_) ?_
  rfl
  exact gd_t (q1 ?b28_49 A W 93 hf) (fun hc => ok_fieldS 1 Try.underlying27 (k := 1) rfl size24 rfl (o2 s1 e_w24 hx (r0 hf)) rfl)
  refine ocg 93 ?_ (fun A W hx hf => ?_) ?_
  rfl
  exact gd_t (q1 ?b28_49 A W 93 hf) (fun hc => ok_loadSeg Try.underlying24 rfl size24 (G.get (q0 ?b28_52 A W 95 hf) hc) rfl rfl)
  refine ocg 93 ?_ (fun A W hx hf => ?_) ?_
  rfl
  exact gd_t (q1 ?b28_49 A W 93 hf) (fun hc => ok_fieldS 0 Try.underlying27 (k := 0) rfl size24 rfl (o2 s1 e_w24 hx (r0 hf)) rfl)
  refine ocg 93 ?_ (fun A W hx hf => ?_) ?_
  rfl
  exact gd_t (q1 ?b28_49 A W 93 hf) (fun hc => ok_loadSeg Try.underlying24 rfl size24 (G.get (q0 ?b28_54 A W 97 hf) hc) rfl rfl)
  refine ocg 93 ?_ (fun A W hx hf => ?_) ?_
  rfl
  exact gd_t (q3 ?b28_49 A W 93 hf) (fun hc => ok_call3 body17 (c_lTurn (OwnBA.bs (p2 s2 e_w24 hx (G.get (q0 ?b28_51 A W 94 hf) hc))) (G.get (q1 ?b28_53 A W 96 hf) hc) (G.get (q2 ?b28_55 A W 98 hf) hc) (by rfl) (by rfl) (by rw [hpl]; decide) hx.size))
  refine ocg 93 ?_ (fun A W hx hf => ?_) ?_
  rfl
  exact gd_t (q1 ?b28_49 A W 93 hf) (fun hc => ok_len_bs Try.underlying22 (OwnB.bs (G.get (q0 ?b28_56 A W 99 hf) hc)))
  refine ocg 93 ?_ (fun A W hx hf => ?_) ?_
  rfl
  exact gd_t (q1 ?b28_49 A W 93 hf) (fun hc => ok_eql (G.get (q0 ?b28_57 A W 100 hf) hc) (ec A (.int .i64 18)))
  refine oc0 (fun A W hx hf => ?_) ?_
  exact ok_and (q0 ?b28_49 A W 93 hf) (q1 ?b28_58 A W 101 hf)
  refine oc0 (fun A W hx hf => ?_) ?_
  exact ok_move (q0 ?b28_59 A W 102 hf)
  refine ocg 103 ?_ (fun A W hx hf => ?_) ?_
  rfl
  exact gd_t (q1 ?b28_59 A W 103 hf) (fun hc => ok_movE (a0 := a27) (r0 hf))
  refine ocg 103 ?_ (fun A W hx hf => ?_) ?_
  rfl
  exact gd_t (q1 ?b28_59 A W 103 hf) (fun hc => ok_fieldS 1 Try.underlying27 (k := 1) rfl size24 rfl (o2 s1 e_w24 hx (r0 hf)) rfl)
  refine ocg 103 ?_ (fun A W hx hf => ?_) ?_
  rfl
  exact gd_t (q1 ?b28_59 A W 103 hf) (fun hc => ok_loadSeg Try.underlying24 rfl size24 (G.get (q0 ?b28_62 A W 105 hf) hc) rfl rfl)
  refine ocg 103 ?_ (fun A W hx hf => ?_) ?_
  rfl
  exact gd_t (q1 ?b28_59 A W 103 hf) (fun hc => ok_fieldS 0 Try.underlying27 (k := 0) rfl size24 rfl (o2 s1 e_w24 hx (r0 hf)) rfl)
  refine ocg 103 ?_ (fun A W hx hf => ?_) ?_
  rfl
  exact gd_t (q1 ?b28_59 A W 103 hf) (fun hc => ok_loadSeg Try.underlying24 rfl size24 (G.get (q0 ?b28_64 A W 107 hf) hc) rfl rfl)
  refine ocg 103 ?_ (fun A W hx hf => ?_) ?_
  rfl
  exact gd_t (q3 ?b28_59 A W 103 hf) (fun hc => ok_call3 body17 (c_lTurn (OwnBA.bs (p2 s2 e_w24 hx (G.get (q0 ?b28_61 A W 104 hf) hc))) (G.get (q1 ?b28_63 A W 106 hf) hc) (G.get (q2 ?b28_65 A W 108 hf) hc) (by rfl) (by rfl) (by rw [hpl]; decide) hx.size))
  refine ocg 103 ?_ (fun A W hx hf => ?_) ?_
  rfl
  exact gd_t (q1 ?b28_59 A W 103 hf) (fun hc => ok_slice_hi (1) Try.underlying22 size5 (OwnB.bs (G.get (q0 ?b28_66 A W 109 hf) hc)) (ec A (.int .i64 1)) (by rw [turnL_len, hpl]; decide))
  refine ocg 103 ?_ (fun A W hx hf => ?_) ?_
  rfl
  exact gd_t (q1 ?b28_59 A W 103 hf) (fun hc => ok_str Try.underlying22 Try.underlying5 Try.underlying9 (G.get (q0 ?b28_67 A W 110 hf) hc))
  refine ocg 103 ?_ (fun A W hx hf => ?_) ?_
  rfl
  exact gd_t (q1 ?b28_59 A W 103 hf) (fun hc => ok_eqs (G.get (q0 ?b28_68 A W 111 hf) hc) (ec _ _))
  refine oc0 (fun A W hx hf => ?_) ?_
  exact ok_and (q0 ?b28_59 A W 103 hf) (q1 ?b28_69 A W 112 hf)
  refine oc0 (fun A W hx hf => ?_) ?_
  exact ok_assign (q0 ?b28_70 A W 113 hf)
  exact OpsOk.nil
 case t28 => repeat (first | exact stb_nil | refine stb_cons ?_)
 clear hr; intro a29 w29 x hr hd hs
 have z_w_w27 := e_w.size
 have z_w24_w27 := e_w24.size
 have z_w25_w27 := e_w25.size
 clear s1 s2 s4 s3 s5 s7 s9
 have s0 := fa ?b28_70 a29 w29 0 (hd 71 0 rfl)
 replace e_w := e_w.trans x
 replace e_w24 := e_w24.trans x
 clear e_w25
 clear hd hs x
 refine exit_then ?_
 refine wp_ret ?_
 refine ret_tmp Try.results9 hr e_w ?_
 exact Is.bool s0 (by rw [turnL_len, hpl, bstr_toList, show ({ data := #[2] } : ByteArray) = bstr [2] from rfl, bstr_toList, show List.take 1 (turnL (linkPut some7) some7.src some7.dst) = [2] from rfl]; first | rfl | decide | simp)

end Go.Proofs.Ytdbjpfjnambenaa
