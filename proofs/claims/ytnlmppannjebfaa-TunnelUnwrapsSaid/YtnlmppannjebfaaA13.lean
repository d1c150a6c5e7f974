import Derived.Test.YtnlmppannjebfaaC13d
import Derived.Test.YtnlmppannjebfaaC11
import Derived.Test.YtnlmppannjebfaaC06
import Derived.Test.YtnlmppannjebfaaE13
import Derived.Test.YtnlmppannjebfaaP07
namespace Go.Proofs.Ytnlmppannjebfaa
open Go.RowKit
set_option linter.unusedVariables false
set_option linter.unusedSimpArgs false
set_option maxRecDepth 4000
def D_c_awake13_0 : List Tmp := [4, 5, 24, 25, 26, 27, 28, 29, 30, 31, 32, 33, 34]
set_option maxHeartbeats 1000000 in
theorem c_awake13 {w : World}    :
    Calls Try.prog 9 #[] w (Ret (Is (.bool true)) w) := by
 have hml := mk13_len
 obtain ⟨hw1, hw2⟩ := mk13_w
 obtain ⟨hx1, hx2⟩ := mk13_s
 have hu1 := mk13_u
 have hf1 := mk13_f
 have hn1 := mk13_n
 refine enter Try.func9 rfl Try.ntmps9 (k := 0) rfl (by decide) (fun a0 hr hargs => ?_)
 clear hargs
 refine wp_seq ?_
 refine wp_reg 97 [[]] [?b1_0] mixed hr ?t1 ?o1 ?_
 case o1 =>
  refine oc0 (fun A W hx hf => ?_) ?_
  exact ok_assignc
  exact OpsOk.nil
 case t1 => exact inferInstance
 clear hr; intro a2 w2 x hr hd hs
 have e_w := x
 clear hd hs x
 refine exit_then ?_
 refine wp_seq ?_
 refine wp_reg_pre (l := [_, _, _]) (rest := [_]) 97 [[], [(14, some 0)], []] [?b3_0, ?b3_1, ?b3_2] hr ?t3 ?o3 ?_
 case o3 =>
  refine oc0 (fun A W hx hf => ?_) ?_
  exact ok_buildArr [1, 2, 3, 4, 0, 0, 0, 0, 0, 0, 0, 0, 0, 0, 0, 0] [(0, (.int .u8 1)), (1, (.int .u8 2)), (2, (.int .u8 3)), (3, (.int .u8 4))] rfl (by kernel_rfl)
  refine oc0 (fun A W hx hf => ?_) ?_
  exact ok_buildS [(1, (.tmp 14))] [(1, _)] lay25 rfl (PartsC.agg (q0 ?b3_0 A W 14 hf) (PartsC.nil)) (by first | rfl | simp [adrCells, *])
  refine oc0 (fun A W hx hf => ?_) ?_
  exact ok_allocS [[.bool adr0.six], adr0.b.map byteV] [1, 16] zerov25 (by rfl) (by rfl) hx.size
  exact OpsOk.nil
 case t3 => exact inferInstance
 clear hr; intro a4 w4 x hr hd hs
 have z_w_w2 := e_w.size
 have s15 := fa ?b3_1 a4 w4 15 (hd 1 15 rfl)
 have s1 := fa ?b3_2 a4 w4 1 (hd 2 1 rfl)
 obtain ⟨g4_1, q4_1⟩ := PxN.at s1; clear s1; have n4_1 := PxS.lt q4_1
 replace q4_1 := PxS.mono q4_1 e_w.size
 have s1 := q4_1; clear q4_1
 replace e_w := e_w.trans x
 clear hd hs x
 have z5 := PxS.lt s1
 have l5 := (show (g4_1 = 0 ∨ w.heap.size < g4_1) ∧ True from ⟨by omega, trivial⟩)
 refine wl_storeSm [[.bool adrA.six], adrA.b.map byteV] hr size25 s1 (Is.conv s15 rfl) (by rfl) (by decide) rfl ?_; clear hr; intro a5 w5 hc hu hr hs
 have hb : Below w.heap.size w4 w5 := hc.below e_w.size l5.1
 revert s1; refine kp1 hs rfl ?_; intro s1
 clear s15
 replace s1 := hu _ _ _ s1
 try simp only [List.set_cons_zero, List.set_cons_succ] at s1
 replace e_w := e_w.below (Nat.le_refl _) hb
 clear hu hs hc hb
 refine wpList_nil ?_
 refine exit_then ?_
 refine wp_seq ?_
 refine wp_reg_pre (l := [_, _]) (rest := [_]) 97 [[], []] [?b6_0, ?b6_1] hr ?t6 ?o6 ?_
 case o6 =>
  refine oc0 (fun A W hx hf => ?_) ?_
  exact ok_buildS [(0, (.const (.bool true)))] [(0, _)] lay25 rfl (PartsC.one (ec A (.bool true)) rfl (PartsC.nil)) (by first | rfl | simp [adrCells, *])
  refine oc0 (fun A W hx hf => ?_) ?_
  exact ok_allocS [[.bool adr0.six], adr0.b.map byteV] [1, 16] zerov25 (by rfl) (by rfl) hx.size
  exact OpsOk.nil
 case t6 => exact inferInstance
 clear hr; intro a7 w7 x hr hd hs
 have z_w_w5 := e_w.size
 have l7_1 := PxS.lt s1
 revert s1; refine kp1 hs rfl ?_; intro s1
 have s16 := fa ?b6_0 a7 w7 16 (hd 0 16 rfl)
 have s2 := fa ?b6_1 a7 w7 2 (hd 1 2 rfl)
 obtain ⟨g7_2, q7_2⟩ := PxN.at s2; clear s2; have n7_2 := PxS.lt q7_2
 replace q7_2 := PxS.mono q7_2 e_w.size
 have s2 := q7_2; clear q7_2
 replace e_w := e_w.trans x
 have e_w5 := x
 clear hd hs x
 have z8 := PxS.lt s2
 have l8 := (show (g7_2 = 0 ∨ w.heap.size < g7_2) ∧ True from ⟨by omega, trivial⟩)
 have l8_1 := PxS.lt (later e_w5 s1)
 refine wl_storeSm [[.bool adrS.six], adrS.b.map byteV] hr size25 s2 (Is.conv s16 rfl) (by rfl) (by decide) rfl ?_; clear hr; intro a8 w8 hc hu hr hs
 have hb : Below w.heap.size w7 w8 := hc.below e_w.size l8.1
 revert s2; revert s1; refine kp2 hs rfl ?_; intro s1 s2
 clear s16
 replace s1 := PxS.other (later e_w5 s1) hc (by omega)
 replace s2 := hu _ _ _ s2
 try simp only [List.set_cons_zero, List.set_cons_succ] at s2
 replace e_w := e_w.below (Nat.le_refl _) hb
 clear e_w5
 clear hu hs hc hb
 refine wpList_nil ?_
 refine exit_then ?_
 refine wp_seq ?_
 refine wp_reg_pre (l := [_, _, _, _, _]) (rest := [_, _, _]) 97 [[], [(1, none)], [(1, none)], [(18, some 1), (19, some 2)], []] [?b9_0, ?b9_1, ?b9_2, ?b9_3, ?b9_4] hr ?t9 ?o9 ?_
 case o9 =>
  refine oc0 (fun A W hx hf => ?_) ?_
  exact ok_build0 built41
  refine oc0 (fun A W hx hf => ?_) ?_
  exact ok_loadAggS 2 Try.underlying25 rfl size25 (o1 s1 hx (r0 hf)) rfl
  refine oc0 (fun A W hx hf => ?_) ?_
  exact ok_loadAggS 2 Try.underlying25 rfl size25 (o1 s1 hx (r0 hf)) rfl
  refine oc0 (fun A W hx hf => ?_) ?_
  exact ok_buildS [(0, (.tmp 18)), (1, (.tmp 19)), (2, (.const (.int .i64 6)))] [(0, _), (1, _), (2, _)] lay51 rfl (PartsC.agg (q0 ?b9_1 A W 18 hf) (PartsC.agg (q1 ?b9_2 A W 19 hf) (PartsC.one (ec A (.int .i64 6)) rfl (PartsC.nil)))) (by first | rfl | simp [adrCells, *])
  refine oc0 (fun A W hx hf => ?_) ?_
  exact ok_ownBs [(.const (.int .u8 49)), (.const (.int .u8 50)), (.const (.int .u8 51)), (.const (.int .u8 52)), (.const (.int .u8 53)), (.const (.int .u8 54))] [_, _, _, _, _, _] Try.underlying22 size5 zero5 rfl rfl (by decide) hx.size (PartsOk.cons (show ByteIs 49 _ _ from rfl) (PartsOk.cons (show ByteIs 50 _ _ from rfl) (PartsOk.cons (show ByteIs 51 _ _ from rfl) (PartsOk.cons (show ByteIs 52 _ _ from rfl) (PartsOk.cons (show ByteIs 53 _ _ from rfl) (PartsOk.cons (show ByteIs 54 _ _ from rfl) (PartsOk.nil)))))))
  exact OpsOk.nil
 case t9 => exact inferInstance
 clear hr; intro a10 w10 x hr hd hs
 have z_w_w8 := e_w.size
 have l10_1 := PxS.lt s1
 have l10_2 := PxS.lt s2
 revert s2; revert s1; refine kp2 hs rfl ?_; intro s1 s2
 have s17 := fa ?b9_0 a10 w10 17 (hd 0 17 rfl)
 have s20 := fa ?b9_3 a10 w10 20 (hd 3 20 rfl)
 have s21 := fa ?b9_4 a10 w10 21 (hd 4 21 rfl)
 obtain ⟨g10_21, q10_21⟩ := OwnB.at s21; clear s21; have n10_21 := OwnBA.lt q10_21
 replace q10_21 := OwnBA.mono q10_21 e_w.size
 have s21 := q10_21; clear q10_21
 replace e_w := e_w.trans x
 have e_w8 := x
 clear hd hs x
 have l11 := OwnBA.lt s21
 have l11_1 := PxS.lt (later e_w8 s1)
 have l11_2 := PxS.lt (later e_w8 s2)
 refine wl_convS hr (by decide) Try.underlying22 Try.underlying5 s21 rfl ?_; clear hr; intro g11 a11 w11 hg11 hc hr hd hs
 have hb := hc.below e_w.size l11.1
 revert s20; revert s17; revert s2; revert s1; refine kp4 hs rfl ?_; intro s1 s2 s17 s20
 clear s21
 replace s1 := PxS.other (later e_w8 s1) hc (by omega)
 replace s2 := PxS.other (later e_w8 s2) hc (by omega)
 have s22 := hd
 replace e_w := e_w.below (Nat.le_refl _) hb
 clear e_w8
 replace s17 := anyw (w2 := w11) s17
 replace s20 := anyw (w2 := w11) s20
 clear hd hs hb hc
 have l12_1 := PxS.lt s1
 have l12_2 := PxS.lt s2
 refine wl_op hr (ok_call4 body18 (c_r11Make (LinkV.of (show Is (LnkA link0 (.slice none 0 0)) _ _ from Is.conv s17 rfl) rw_nil) (show Is (TupV tup13) _ _ from Is.conv s20 rfl) (show Is (.int .i64 2) (a11.eval (.const (.int .i64 2))) _ from rfl) s22 (by exact ⟨rfl, rfl⟩) (by exact tup0_ok) (by exact mk13_r) (by exact mk13_m) (by exact mk13_n9) (Nat.le_refl _))) inferInstance ?_; clear hr; intro a12 w12 x hr hd hs
 revert s2; revert s1; refine kp2 hs rfl ?_; intro s1 s2
 clear s22 s17 s20
 have s23 := hd 23 rfl (by decide)
 obtain ⟨g12_23, q12_23⟩ := OwnB.at s23; clear s23; have n12_23 := OwnBA.lt q12_23
 replace q12_23 := OwnBA.mono q12_23 e_w.size
 have s23 := q12_23; clear q12_23
 replace e_w := e_w.trans x
 have e_w11 := x
 clear hd hs x
 refine wl_op hr (ok_assign s23) inferInstance ?_; clear hr; intro a13 w13 x hr hd hs
 revert s2; revert s1; refine kp2 hs rfl ?_; intro s1 s2
 clear s23
 have s3 := hd 3 rfl (by decide)
 replace e_w := e_w.trans x
 replace e_w11 := e_w11.trans x
 clear hd hs x
 refine wpList_nil ?_
 replace s3 := OwnBA.cast s3 (show _ = mk13 from rfl)
 refine exit_then ?_
 refine wp_seq ?_
 refine wp_cut (fun A W => Fr 97 A ∧ Same D_c_awake13_0 a13 A ∧ Ext w W ∧ (PxS g4_1 w.heap.size [1, 16] [[.bool adrA.six], adrA.b.map byteV] 0) (A.eval (.tmp 1)) W ∧ (PxS g7_2 w.heap.size [1, 16] [[.bool adrS.six], adrS.b.map byteV] 0) (A.eval (.tmp 2)) W ∧ (OwnBA g12_23 w.heap.size 5 mk13) (A.eval (.tmp 3)) W ∧ (Bs (wrapR mk9 adrA adrA).1) (A.eval (.tmp 4)) W ∧ (Is (.int .i64 0)) (A.eval (.tmp 5)) W) ?cut14 ?_
 case cut14 =>
  have m14 : Same D_c_awake13_0 a13 a13 := Same.rfl
  refine wp_anyH_start (fun W => Below w.heap.size w W ∧ BlkS g4_1 [1, 16] _ W) mixed (fun w' x => ⟨(e_w.trans x), PxS.blkS (later (e_w11.trans x) s1)⟩) (fun w15 x _ => ?_)
  show wpAnyH _ _ _ _ _ 13 _ _ _
  replace e_w := e_w.trans x
  replace e_w11 := e_w11.trans x
  have e_w13 := x
  clear x
  refine anyH_op (i := 1) hr rfl (by decide) (by kernel_rfl) (fun _ _ _ _ h => h) (yh (py_of (ok_move (later e_w13 s3)) (pv_move))) ⟨e_w, PxS.blkS (later e_w11 s1)⟩ ?_; clear hr; intro a16 hr hd hs
  revert s3; revert s2; revert s1; refine kp3 hs rfl ?_; intro s1 s2 s3
  have s26 := hd
  replace m14 := m14.tr hs rfl
  clear hd hs
  refine anyH_op (i := 5) hr rfl (by decide) (by kernel_rfl) (fun _ _ _ _ h => h) (yh_loadAgS 2 Try.underlying25 rfl size25 (later e_w11 s1) (fun W hW => hW.2) rfl) ⟨e_w, PxS.blkS (later e_w11 s1)⟩ ?_; clear hr; intro a17 hr hd hs
  revert s26; revert s3; revert s2; revert s1; refine kp4 hs rfl ?_; intro s1 s2 s3 s26
  have s30 := hd
  replace m14 := m14.tr hs rfl
  clear hd hs
  refine anyH_op (i := 6) hr rfl (by decide) (by kernel_rfl) (fun _ _ _ _ h => h) (yh_loadAgS 2 Try.underlying25 rfl size25 (later e_w11 s1) (fun W hW => hW.2) rfl) ⟨e_w, PxS.blkS (later e_w11 s1)⟩ ?_; clear hr; intro a18 hr hd hs
  revert s30; revert s26; revert s3; revert s2; revert s1; refine kp5 hs rfl ?_; intro s1 s2 s3 s26 s30
  have s31 := hd
  replace m14 := m14.tr hs rfl
  clear hd hs
  refine anyH_br2 (i := 0) (j := 3) (by kernel_rfl) rfl rfl ?_ ?_
  ·
   have l19_1 := PxS.lt (later e_w11 s1)
   have l19_2 := PxS.lt (later e_w11 s2)
   have l19_3 := OwnBA.lt (later e_w13 s3)
   have l19_26 := OwnBA.lt s26
   refine wl_op hr (ok_ownBs [] [] Try.underlying22 size5 zero5 rfl rfl (by decide) (Nat.le_refl _) (PartsOk.nil)) inferInstance ?_; clear hr; intro a19 w19 x hr hd hs
   revert s31; revert s30; revert s26; revert s3; revert s2; revert s1; refine kp6 hs rfl ?_; intro s1 s2 s3 s26 s30 s31
   have s25 := hd 25 rfl (by decide)
   obtain ⟨g19_25, q19_25⟩ := OwnB.at s25; clear s25; have n19_25 := OwnBA.lt q19_25
   replace q19_25 := OwnBA.mono q19_25 e_w.size
   have s25 := q19_25; clear q19_25
   replace e_w := e_w.trans x
   replace e_w11 := e_w11.trans x
   replace e_w13 := e_w13.trans x
   have e_w15 := x
   replace m14 := m14.tr hs rfl
   clear hd hs x
   refine qn_done ⟨e_w, PxS.blkS (later e_w11 s1)⟩ ?_
   refine anyH_br2 (i := 2) (j := 3) (by kernel_rfl) rfl rfl ?_ ?_
   ·
    have l20 := OwnBA.lt s25
    have l20_1 := PxS.lt (later e_w11 s1)
    have l20_2 := PxS.lt (later e_w11 s2)
    have l20_3 := OwnBA.lt (later e_w13 s3)
    refine wl_append_bsA hr (by decide) Try.underlying22 info5 rfl s25 (OwnBA.bs (later e_w15 s26)) e_w.size (by first | (simp [hml]; done) | (simp [hml]; omega)) ?_; clear hr; intro g20 a20 w20 hg20 hc hr hd hs
    have hb := hc.below e_w.size l20.1
    revert s31; revert s30; revert s3; revert s2; revert s1; refine kp5 hs rfl ?_; intro s1 s2 s3 s30 s31
    clear s26 s25
    replace s1 := PxS.other (later e_w11 s1) hc (by omega)
    replace s2 := PxS.other (later e_w11 s2) hc (by omega)
    replace s3 := OwnBA.other (later e_w13 s3) hc (by omega)
    have s27 := hd
    replace e_w := e_w.below (Nat.le_refl _) hb
    clear e_w11
    clear e_w13
    clear e_w15
    replace s30 := anyw (w2 := w20) s30
    replace s31 := anyw (w2 := w20) s31
    replace m14 := m14.tr hs rfl
    clear hd hs hb hc
    refine qn_done ⟨e_w, PxS.blkS s1⟩ ?_
    refine anyH_br1 (i := 3) (by kernel_rfl) rfl ?_
    ·
     have l21_1 := PxS.lt s1
     have l21_2 := PxS.lt s2
     have l21_3 := OwnBA.lt s3
     have l21_27 := OwnBA.lt s27
     refine wl_op hr (ok_ownBs [(.const (.int .u8 9))] [_] Try.underlying22 size5 zero5 rfl rfl (by decide) (Nat.le_refl _) (PartsOk.cons (show ByteIs 9 _ _ from rfl) (PartsOk.nil))) inferInstance ?_; clear hr; intro a21 w21 x hr hd hs
     revert s31; revert s30; revert s27; revert s3; revert s2; revert s1; refine kp6 hs rfl ?_; intro s1 s2 s3 s27 s30 s31
     have s28 := hd 28 rfl (by decide)
     obtain ⟨g21_28, q21_28⟩ := OwnB.at s28; clear s28; have n21_28 := OwnBA.lt q21_28
     replace q21_28 := OwnBA.mono q21_28 e_w.size
     have s28 := q21_28; clear q21_28
     replace e_w := e_w.trans x
     have e_w20 := x
     replace m14 := m14.tr hs rfl
     clear hd hs x
     refine qn_done ⟨e_w, PxS.blkS (later e_w20 s1)⟩ ?_
     refine anyH_br1 (i := 4) (by kernel_rfl) rfl ?_
     ·
      have l22 := OwnBA.lt (later e_w20 s27)
      have l22_1 := PxS.lt (later e_w20 s1)
      have l22_2 := PxS.lt (later e_w20 s2)
      have l22_3 := OwnBA.lt (later e_w20 s3)
      refine wl_append_bsA hr (by decide) Try.underlying22 info5 rfl (later e_w20 s27) (OwnBA.bs s28) e_w.size (by first | (simp [hml]; done) | (simp [hml]; omega)) ?_; clear hr; intro g22 a22 w22 hg22 hc hr hd hs
      have hb := hc.below e_w.size l22.1
      revert s31; revert s30; revert s3; revert s2; revert s1; refine kp5 hs rfl ?_; intro s1 s2 s3 s30 s31
      clear s27 s28
      replace s1 := PxS.other (later e_w20 s1) hc (by omega)
      replace s2 := PxS.other (later e_w20 s2) hc (by omega)
      replace s3 := OwnBA.other (later e_w20 s3) hc (by omega)
      have s29 := hd
      replace e_w := e_w.below (Nat.le_refl _) hb
      clear e_w20
      replace s30 := anyw (w2 := w22) s30
      replace s31 := anyw (w2 := w22) s31
      replace m14 := m14.tr hs rfl
      clear hd hs hb hc
      refine qn_done ⟨e_w, PxS.blkS s1⟩ ?_
      refine anyH_br1 (i := 7) (by kernel_rfl) rfl ?_
      ·
       refine wl_op hr (ok_call3 body10 (c_tWrap (OwnBA.bs s29) (Is.conv s30 (adr_seg adrA)) (Is.conv s31 (adr_seg adrA)) (by exact rfl) (by exact rfl) (by simp [hml]) (Nat.le_refl _))) inferInstance ?_; clear hr; intro a23 w23 x hr hd hs
       revert s3; revert s2; revert s1; refine kp3 hs rfl ?_; intro s1 s2 s3
       clear s29 s30 s31
       have s32 := hd 32 rfl (by decide)
       replace e_w := e_w.trans x
       have e_w22 := x
       replace m14 := m14.tr hs rfl
       clear hd hs x
       refine qn_done ⟨e_w, PxS.blkS (later e_w22 s1)⟩ ?_
       refine anyH_op (i := 8) hr rfl (by decide) (by kernel_rfl) (fun _ _ _ _ h => h) (yh (py_of (ok_move s32) (pv_move))) ⟨e_w, PxS.blkS (later e_w22 s1)⟩ ?_; clear hr; intro a24 hr hd hs
       revert s3; revert s2; revert s1; refine kp3 hs rfl ?_; intro s1 s2 s3
       clear s32
       have s24 := hd
       replace m14 := m14.tr hs rfl
       clear hd hs
       refine anyH_op (i := 9) hr rfl (by decide) (by kernel_rfl) (fun _ _ _ _ h => h) (yh (py_of (ok_ext0 s24) (pv_ext2 rfl s24))) ⟨e_w, PxS.blkS (later e_w22 s1)⟩ ?_; clear hr; intro a25 hr hd hs
       revert s24; revert s3; revert s2; revert s1; refine kp4 hs rfl ?_; intro s1 s2 s3 s24
       have s33 := hd
       replace m14 := m14.tr hs rfl
       clear hd hs
       refine anyH_op (i := 10) hr rfl (by decide) (by kernel_rfl) (fun _ _ _ _ h => h) (yh (py_of (ok_ext1 s24) (pv_ext2 rfl s24))) ⟨e_w, PxS.blkS (later e_w22 s1)⟩ ?_; clear hr; intro a26 hr hd hs
       revert s33; revert s3; revert s2; revert s1; refine kp4 hs rfl ?_; intro s1 s2 s3 s33
       clear s24
       have s34 := hd
       replace m14 := m14.tr hs rfl
       clear hd hs
       refine anyH_op (i := 11) hr rfl (by decide) (by kernel_rfl) (fun _ _ _ _ h => h) (yh (py_of (ok_assign s33) (pv_assign))) ⟨e_w, PxS.blkS (later e_w22 s1)⟩ ?_; clear hr; intro a27 hr hd hs
       revert s34; revert s3; revert s2; revert s1; refine kp4 hs rfl ?_; intro s1 s2 s3 s34
       clear s33
       have s4 := hd
       replace m14 := m14.tr hs rfl
       clear hd hs
       refine anyH_op (i := 12) hr rfl (by decide) (by kernel_rfl) (fun _ _ _ _ h => h) (yh (py_of (ok_assign s34) (pv_assign))) ⟨e_w, PxS.blkS (later e_w22 s1)⟩ ?_; clear hr; intro a28 hr hd hs
       revert s4; revert s3; revert s2; revert s1; refine kp4 hs rfl ?_; intro s1 s2 s3 s4
       clear s34
       have s5 := hd
       replace m14 := m14.tr hs rfl
       clear hd hs
       refine anyH_done (by kernel_rfl) ?_
       refine exit_then ?_
       refine ⟨hr, m14, e_w, ?_, ?_, ?_, ?_, ?_⟩
       · exact (later e_w22 s1)
       · exact (later e_w22 s2)
       · exact (later e_w22 s3)
       · exact OwnB.bs s4
       · exact Is.int s5 hw1
   ·
    have l29_1 := PxS.lt (later e_w11 s1)
    have l29_2 := PxS.lt (later e_w11 s2)
    have l29_3 := OwnBA.lt (later e_w13 s3)
    have l29_26 := OwnBA.lt (later e_w15 s26)
    have l29_25 := OwnBA.lt s25
    refine wl_op hr (ok_ownBs [(.const (.int .u8 9))] [_] Try.underlying22 size5 zero5 rfl rfl (by decide) (Nat.le_refl _) (PartsOk.cons (show ByteIs 9 _ _ from rfl) (PartsOk.nil))) inferInstance ?_; clear hr; intro a29 w29 x hr hd hs
    revert s31; revert s30; revert s26; revert s3; revert s2; revert s1; refine kp6 hs rfl ?_; intro s1 s2 s3 s26 s30 s31
    revert s25; refine kp1 hs rfl ?_; intro s25
    have s28 := hd 28 rfl (by decide)
    obtain ⟨g29_28, q29_28⟩ := OwnB.at s28; clear s28; have n29_28 := OwnBA.lt q29_28
    replace q29_28 := OwnBA.mono q29_28 e_w.size
    have s28 := q29_28; clear q29_28
    replace e_w := e_w.trans x
    replace e_w11 := e_w11.trans x
    replace e_w13 := e_w13.trans x
    replace e_w15 := e_w15.trans x
    have e_w19 := x
    replace m14 := m14.tr hs rfl
    clear hd hs x
    refine qn_done ⟨e_w, PxS.blkS (later e_w11 s1)⟩ ?_
    refine anyH_br1 (i := 2) (by kernel_rfl) rfl ?_
    ·
     have l30 := OwnBA.lt (later e_w19 s25)
     have l30_1 := PxS.lt (later e_w11 s1)
     have l30_2 := PxS.lt (later e_w11 s2)
     have l30_3 := OwnBA.lt (later e_w13 s3)
     have l30_28 := OwnBA.lt s28
     refine wl_append_bsA hr (by decide) Try.underlying22 info5 rfl (later e_w19 s25) (OwnBA.bs (later e_w15 s26)) e_w.size (by first | (simp [hml]; done) | (simp [hml]; omega)) ?_; clear hr; intro g30 a30 w30 hg30 hc hr hd hs
     have hb := hc.below e_w.size l30.1
     revert s28; revert s31; revert s30; revert s3; revert s2; revert s1; refine kp6 hs rfl ?_; intro s1 s2 s3 s30 s31 s28
     clear s26 s25
     replace s1 := PxS.other (later e_w11 s1) hc (by omega)
     replace s2 := PxS.other (later e_w11 s2) hc (by omega)
     replace s3 := OwnBA.other (later e_w13 s3) hc (by omega)
     replace s28 := OwnBA.other s28 hc (by omega)
     have s27 := hd
     replace e_w := e_w.below (Nat.le_refl _) hb
     clear e_w11
     clear e_w13
     clear e_w15
     clear e_w19
     replace s30 := anyw (w2 := w30) s30
     replace s31 := anyw (w2 := w30) s31
     replace m14 := m14.tr hs rfl
     clear hd hs hb hc
     refine qn_done ⟨e_w, PxS.blkS s1⟩ ?_
     refine anyH_br1 (i := 4) (by kernel_rfl) rfl ?_
     ·
      have l31 := OwnBA.lt s27
      have l31_1 := PxS.lt s1
      have l31_2 := PxS.lt s2
      have l31_3 := OwnBA.lt s3
      refine wl_append_bsA hr (by decide) Try.underlying22 info5 rfl s27 (OwnBA.bs s28) e_w.size (by first | (simp [hml]; done) | (simp [hml]; omega)) ?_; clear hr; intro g31 a31 w31 hg31 hc hr hd hs
      have hb := hc.below e_w.size l31.1
      revert s31; revert s30; revert s3; revert s2; revert s1; refine kp5 hs rfl ?_; intro s1 s2 s3 s30 s31
      clear s28 s27
      replace s1 := PxS.other s1 hc (by omega)
      replace s2 := PxS.other s2 hc (by omega)
      replace s3 := OwnBA.other s3 hc (by omega)
      have s29 := hd
      replace e_w := e_w.below (Nat.le_refl _) hb
      replace s30 := anyw (w2 := w31) s30
      replace s31 := anyw (w2 := w31) s31
      replace m14 := m14.tr hs rfl
      clear hd hs hb hc
      refine qn_done ⟨e_w, PxS.blkS s1⟩ ?_
      refine anyH_br1 (i := 7) (by kernel_rfl) rfl ?_
      ·
       refine wl_op hr (ok_call3 body10 (c_tWrap (OwnBA.bs s29) (Is.conv s30 (adr_seg adrA)) (Is.conv s31 (adr_seg adrA)) (by exact rfl) (by exact rfl) (by simp [hml]) (Nat.le_refl _))) inferInstance ?_; clear hr; intro a32 w32 x hr hd hs
       revert s3; revert s2; revert s1; refine kp3 hs rfl ?_; intro s1 s2 s3
       clear s29 s30 s31
       have s32 := hd 32 rfl (by decide)
       replace e_w := e_w.trans x
       have e_w31 := x
       replace m14 := m14.tr hs rfl
       clear hd hs x
       refine qn_done ⟨e_w, PxS.blkS (later e_w31 s1)⟩ ?_
       refine anyH_op (i := 8) hr rfl (by decide) (by kernel_rfl) (fun _ _ _ _ h => h) (yh (py_of (ok_move s32) (pv_move))) ⟨e_w, PxS.blkS (later e_w31 s1)⟩ ?_; clear hr; intro a33 hr hd hs
       revert s3; revert s2; revert s1; refine kp3 hs rfl ?_; intro s1 s2 s3
       clear s32
       have s24 := hd
       replace m14 := m14.tr hs rfl
       clear hd hs
       refine anyH_op (i := 9) hr rfl (by decide) (by kernel_rfl) (fun _ _ _ _ h => h) (yh (py_of (ok_ext0 s24) (pv_ext2 rfl s24))) ⟨e_w, PxS.blkS (later e_w31 s1)⟩ ?_; clear hr; intro a34 hr hd hs
       revert s24; revert s3; revert s2; revert s1; refine kp4 hs rfl ?_; intro s1 s2 s3 s24
       have s33 := hd
       replace m14 := m14.tr hs rfl
       clear hd hs
       refine anyH_op (i := 10) hr rfl (by decide) (by kernel_rfl) (fun _ _ _ _ h => h) (yh (py_of (ok_ext1 s24) (pv_ext2 rfl s24))) ⟨e_w, PxS.blkS (later e_w31 s1)⟩ ?_; clear hr; intro a35 hr hd hs
       revert s33; revert s3; revert s2; revert s1; refine kp4 hs rfl ?_; intro s1 s2 s3 s33
       clear s24
       have s34 := hd
       replace m14 := m14.tr hs rfl
       clear hd hs
       refine anyH_op (i := 11) hr rfl (by decide) (by kernel_rfl) (fun _ _ _ _ h => h) (yh (py_of (ok_assign s33) (pv_assign))) ⟨e_w, PxS.blkS (later e_w31 s1)⟩ ?_; clear hr; intro a36 hr hd hs
       revert s34; revert s3; revert s2; revert s1; refine kp4 hs rfl ?_; intro s1 s2 s3 s34
       clear s33
       have s4 := hd
       replace m14 := m14.tr hs rfl
       clear hd hs
       refine anyH_op (i := 12) hr rfl (by decide) (by kernel_rfl) (fun _ _ _ _ h => h) (yh (py_of (ok_assign s34) (pv_assign))) ⟨e_w, PxS.blkS (later e_w31 s1)⟩ ?_; clear hr; intro a37 hr hd hs
       revert s4; revert s3; revert s2; revert s1; refine kp4 hs rfl ?_; intro s1 s2 s3 s4
       clear s34
       have s5 := hd
       replace m14 := m14.tr hs rfl
       clear hd hs
       refine anyH_done (by kernel_rfl) ?_
       refine exit_then ?_
       refine ⟨hr, m14, e_w, ?_, ?_, ?_, ?_, ?_⟩
       · exact (later e_w31 s1)
       · exact (later e_w31 s2)
       · exact (later e_w31 s3)
       · exact OwnB.bs s4
       · exact Is.int s5 hw1
  ·
   have l38_1 := PxS.lt (later e_w11 s1)
   have l38_2 := PxS.lt (later e_w11 s2)
   have l38_3 := OwnBA.lt (later e_w13 s3)
   have l38_26 := OwnBA.lt s26
   refine wl_op hr (ok_ownBs [(.const (.int .u8 9))] [_] Try.underlying22 size5 zero5 rfl rfl (by decide) (Nat.le_refl _) (PartsOk.cons (show ByteIs 9 _ _ from rfl) (PartsOk.nil))) inferInstance ?_; clear hr; intro a38 w38 x hr hd hs
   revert s31; revert s30; revert s26; revert s3; revert s2; revert s1; refine kp6 hs rfl ?_; intro s1 s2 s3 s26 s30 s31
   have s28 := hd 28 rfl (by decide)
   obtain ⟨g38_28, q38_28⟩ := OwnB.at s28; clear s28; have n38_28 := OwnBA.lt q38_28
   replace q38_28 := OwnBA.mono q38_28 e_w.size
   have s28 := q38_28; clear q38_28
   replace e_w := e_w.trans x
   replace e_w11 := e_w11.trans x
   replace e_w13 := e_w13.trans x
   have e_w15 := x
   replace m14 := m14.tr hs rfl
   clear hd hs x
   refine qn_done ⟨e_w, PxS.blkS (later e_w11 s1)⟩ ?_
   refine anyH_br1 (i := 0) (by kernel_rfl) rfl ?_
   ·
    have l39_1 := PxS.lt (later e_w11 s1)
    have l39_2 := PxS.lt (later e_w11 s2)
    have l39_3 := OwnBA.lt (later e_w13 s3)
    have l39_26 := OwnBA.lt (later e_w15 s26)
    have l39_28 := OwnBA.lt s28
    refine wl_op hr (ok_ownBs [] [] Try.underlying22 size5 zero5 rfl rfl (by decide) (Nat.le_refl _) (PartsOk.nil)) inferInstance ?_; clear hr; intro a39 w39 x hr hd hs
    revert s31; revert s30; revert s26; revert s3; revert s2; revert s1; refine kp6 hs rfl ?_; intro s1 s2 s3 s26 s30 s31
    revert s28; refine kp1 hs rfl ?_; intro s28
    have s25 := hd 25 rfl (by decide)
    obtain ⟨g39_25, q39_25⟩ := OwnB.at s25; clear s25; have n39_25 := OwnBA.lt q39_25
    replace q39_25 := OwnBA.mono q39_25 e_w.size
    have s25 := q39_25; clear q39_25
    replace e_w := e_w.trans x
    replace e_w11 := e_w11.trans x
    replace e_w13 := e_w13.trans x
    replace e_w15 := e_w15.trans x
    have e_w38 := x
    replace m14 := m14.tr hs rfl
    clear hd hs x
    refine qn_done ⟨e_w, PxS.blkS (later e_w11 s1)⟩ ?_
    refine anyH_br1 (i := 2) (by kernel_rfl) rfl ?_
    ·
     have l40 := OwnBA.lt s25
     have l40_1 := PxS.lt (later e_w11 s1)
     have l40_2 := PxS.lt (later e_w11 s2)
     have l40_3 := OwnBA.lt (later e_w13 s3)
     have l40_28 := OwnBA.lt (later e_w38 s28)
     refine wl_append_bsA hr (by decide) Try.underlying22 info5 rfl s25 (OwnBA.bs (later e_w15 s26)) e_w.size (by first | (simp [hml]; done) | (simp [hml]; omega)) ?_; clear hr; intro g40 a40 w40 hg40 hc hr hd hs
     have hb := hc.below e_w.size l40.1
     revert s28; revert s31; revert s30; revert s3; revert s2; revert s1; refine kp6 hs rfl ?_; intro s1 s2 s3 s30 s31 s28
     clear s26 s25
     replace s1 := PxS.other (later e_w11 s1) hc (by omega)
     replace s2 := PxS.other (later e_w11 s2) hc (by omega)
     replace s3 := OwnBA.other (later e_w13 s3) hc (by omega)
     replace s28 := OwnBA.other (later e_w38 s28) hc (by omega)
     have s27 := hd
     replace e_w := e_w.below (Nat.le_refl _) hb
     clear e_w11
     clear e_w13
     clear e_w15
     clear e_w38
     replace s30 := anyw (w2 := w40) s30
     replace s31 := anyw (w2 := w40) s31
     replace m14 := m14.tr hs rfl
     clear hd hs hb hc
     refine qn_done ⟨e_w, PxS.blkS s1⟩ ?_
     refine anyH_br1 (i := 4) (by kernel_rfl) rfl ?_
     ·
      have l41 := OwnBA.lt s27
      have l41_1 := PxS.lt s1
      have l41_2 := PxS.lt s2
      have l41_3 := OwnBA.lt s3
      refine wl_append_bsA hr (by decide) Try.underlying22 info5 rfl s27 (OwnBA.bs s28) e_w.size (by first | (simp [hml]; done) | (simp [hml]; omega)) ?_; clear hr; intro g41 a41 w41 hg41 hc hr hd hs
      have hb := hc.below e_w.size l41.1
      revert s31; revert s30; revert s3; revert s2; revert s1; refine kp5 hs rfl ?_; intro s1 s2 s3 s30 s31
      clear s28 s27
      replace s1 := PxS.other s1 hc (by omega)
      replace s2 := PxS.other s2 hc (by omega)
      replace s3 := OwnBA.other s3 hc (by omega)
      have s29 := hd
      replace e_w := e_w.below (Nat.le_refl _) hb
      replace s30 := anyw (w2 := w41) s30
      replace s31 := anyw (w2 := w41) s31
      replace m14 := m14.tr hs rfl
      clear hd hs hb hc
      refine qn_done ⟨e_w, PxS.blkS s1⟩ ?_
      refine anyH_br1 (i := 7) (by kernel_rfl) rfl ?_
      ·
       refine wl_op hr (ok_call3 body10 (c_tWrap (OwnBA.bs s29) (Is.conv s30 (adr_seg adrA)) (Is.conv s31 (adr_seg adrA)) (by exact rfl) (by exact rfl) (by simp [hml]) (Nat.le_refl _))) inferInstance ?_; clear hr; intro a42 w42 x hr hd hs
       revert s3; revert s2; revert s1; refine kp3 hs rfl ?_; intro s1 s2 s3
       clear s29 s30 s31
       have s32 := hd 32 rfl (by decide)
       replace e_w := e_w.trans x
       have e_w41 := x
       replace m14 := m14.tr hs rfl
       clear hd hs x
       refine qn_done ⟨e_w, PxS.blkS (later e_w41 s1)⟩ ?_
       refine anyH_op (i := 8) hr rfl (by decide) (by kernel_rfl) (fun _ _ _ _ h => h) (yh (py_of (ok_move s32) (pv_move))) ⟨e_w, PxS.blkS (later e_w41 s1)⟩ ?_; clear hr; intro a43 hr hd hs
       revert s3; revert s2; revert s1; refine kp3 hs rfl ?_; intro s1 s2 s3
       clear s32
       have s24 := hd
       replace m14 := m14.tr hs rfl
       clear hd hs
       refine anyH_op (i := 9) hr rfl (by decide) (by kernel_rfl) (fun _ _ _ _ h => h) (yh (py_of (ok_ext0 s24) (pv_ext2 rfl s24))) ⟨e_w, PxS.blkS (later e_w41 s1)⟩ ?_; clear hr; intro a44 hr hd hs
       revert s24; revert s3; revert s2; revert s1; refine kp4 hs rfl ?_; intro s1 s2 s3 s24
       have s33 := hd
       replace m14 := m14.tr hs rfl
       clear hd hs
       refine anyH_op (i := 10) hr rfl (by decide) (by kernel_rfl) (fun _ _ _ _ h => h) (yh (py_of (ok_ext1 s24) (pv_ext2 rfl s24))) ⟨e_w, PxS.blkS (later e_w41 s1)⟩ ?_; clear hr; intro a45 hr hd hs
       revert s33; revert s3; revert s2; revert s1; refine kp4 hs rfl ?_; intro s1 s2 s3 s33
       clear s24
       have s34 := hd
       replace m14 := m14.tr hs rfl
       clear hd hs
       refine anyH_op (i := 11) hr rfl (by decide) (by kernel_rfl) (fun _ _ _ _ h => h) (yh (py_of (ok_assign s33) (pv_assign))) ⟨e_w, PxS.blkS (later e_w41 s1)⟩ ?_; clear hr; intro a46 hr hd hs
       revert s34; revert s3; revert s2; revert s1; refine kp4 hs rfl ?_; intro s1 s2 s3 s34
       clear s33
       have s4 := hd
       replace m14 := m14.tr hs rfl
       clear hd hs
       refine anyH_op (i := 12) hr rfl (by decide) (by kernel_rfl) (fun _ _ _ _ h => h) (yh (py_of (ok_assign s34) (pv_assign))) ⟨e_w, PxS.blkS (later e_w41 s1)⟩ ?_; clear hr; intro a47 hr hd hs
       revert s4; revert s3; revert s2; revert s1; refine kp4 hs rfl ?_; intro s1 s2 s3 s4
       clear s34
       have s5 := hd
       replace m14 := m14.tr hs rfl
       clear hd hs
       refine anyH_done (by kernel_rfl) ?_
       refine exit_then ?_
       refine ⟨hr, m14, e_w, ?_, ?_, ?_, ?_, ?_⟩
       · exact (later e_w41 s1)
       · exact (later e_w41 s2)
       · exact (later e_w41 s3)
       · exact OwnB.bs s4
       · exact Is.int s5 hw1
 intro a14 w14 hI
 clear e_w
 clear e_w11
 clear hr; obtain ⟨hr, hs, e_w, u1, u2, u3, u4, u5⟩ := hI
 clear s1 s2 s3
 have s1 := u1; clear u1
 have s2 := u2; clear u2
 have s3 := u3; clear u3
 have s4 := u4; clear u4
 have s5 := u5; clear u5
 clear hs
 refine wp_seq ?_
 refine wp_reg 97 [[(4, none)], [(36, some 0)], [(37, some 1)], [(35, some 2)], [(35, some 2)], [(38, some 3)], [(39, some 4)]] [?b48_0, ?b48_1, ?b48_1, ?b48_3, ?b48_4, ?b48_3, ?b48_4] mixed hr ?t48 ?o48 ?_
 case o48 =>
  refine oc0 (fun A W hx hf => ?_) ?_
  exact ok_movE (a0 := a14) (r0 hf)
  refine oc0 (fun A W hx hf => ?_) ?_
  exact ok_call1 body13 (c_tUnwrap (p1 s4 hx (q0 ?b48_0 A W 36 hf)) (by rw [hw2]; decide) hx.size)
  refine oc0 (fun A W hx hf => ?_) ?_
  exact ok_move (q0 ?b48_1 A W 37 hf)
  refine oc0 (fun A W hx hf => ?_) ?_
  exact ok_ext0 (q0 ?b48_1 A W 35 hf)
  refine oc0 (fun A W hx hf => ?_) ?_
  exact ok_ext1 (q0 ?b48_1 A W 35 hf)
  refine oc0 (fun A W hx hf => ?_) ?_
  exact ok_assign (q0 ?b48_3 A W 38 hf)
  refine oc0 (fun A W hx hf => ?_) ?_
  exact ok_assign (q0 ?b48_4 A W 39 hf)
  exact OpsOk.nil
 case t48 => exact inferInstance
 clear hr; intro a49 w49 x hr hd hs
 have z_w_w14 := e_w.size
 have l49_1 := PxS.lt s1
 have l49_2 := PxS.lt s2
 have l49_3 := OwnBA.lt s3
 revert s5; revert s4; revert s3; revert s2; revert s1; refine kp5 hs rfl ?_; intro s1 s2 s3 s4 s5
 have s6 := fa ?b48_3 a49 w49 6 (hd 5 6 rfl)
 have s7 := fa ?b48_4 a49 w49 7 (hd 6 7 rfl)
 obtain ⟨g49_6, q49_6⟩ := OwnB.at s6; clear s6; have n49_6 := OwnBA.lt q49_6
 replace q49_6 := OwnBA.mono q49_6 e_w.size
 have s6 := q49_6; clear q49_6
 replace e_w := e_w.trans x
 have e_w14 := x
 clear hd hs x
 replace s6 := OwnBA.cast s6 (show _ = mk13 from by rw [hu1])
 replace s7 := Is.int s7 (show _ = (0 : Int) from by rw [hu1]; rfl)
 refine exit_then ?_
 refine wp_seq ?_
 refine wp_reg 97 [[(3, none)], [(2, none)], [(2, none)], [(41, some 0), (42, some 1), (43, some 2)], [(44, some 3)], [(40, some 4)], [(40, some 4)], [(45, some 5)], [(46, some 6)]] [?b50_0, ?b50_1, ?b50_2, ?b50_3, ?b50_3, ?b50_5, ?b50_6, ?b50_5, ?b50_6] mixed hr ?t50 ?o50 ?_
 case o50 =>
  refine oc0 (fun A W hx hf => ?_) ?_
  exact ok_movE (a0 := a49) (r0 hf)
  refine oc0 (fun A W hx hf => ?_) ?_
  exact ok_loadAggS 2 Try.underlying25 rfl size25 (o2 s2 e_w14 hx (r0 hf)) rfl
  refine oc0 (fun A W hx hf => ?_) ?_
  exact ok_loadAggS 2 Try.underlying25 rfl size25 (o2 s2 e_w14 hx (r0 hf)) rfl
  refine oc0 (fun A W hx hf => ?_) ?_
  exact ok_call3 body10 (c_tWrap (OwnBA.bs (p2 s3 e_w14 hx (q0 ?b50_0 A W 41 hf))) (Is.conv (q1 ?b50_1 A W 42 hf) (adr_seg adrS)) (Is.conv (q2 ?b50_2 A W 43 hf) (adr_seg adrS)) (by exact rfl) (by exact rfl) (by rw [hml]; decide) hx.size)
  refine oc0 (fun A W hx hf => ?_) ?_
  exact ok_move (q0 ?b50_3 A W 44 hf)
  refine oc0 (fun A W hx hf => ?_) ?_
  exact ok_ext0 (q0 ?b50_3 A W 40 hf)
  refine oc0 (fun A W hx hf => ?_) ?_
  exact ok_ext1 (q0 ?b50_3 A W 40 hf)
  refine oc0 (fun A W hx hf => ?_) ?_
  exact ok_assign (q0 ?b50_5 A W 45 hf)
  refine oc0 (fun A W hx hf => ?_) ?_
  exact ok_assign (q0 ?b50_6 A W 46 hf)
  exact OpsOk.nil
 case t50 => exact inferInstance
 clear hr; intro a51 w51 x hr hd hs
 have z_w_w49 := e_w.size
 have z_w14_w49 := e_w14.size
 have l51_1 := PxS.lt (later e_w14 s1)
 have l51_2 := PxS.lt (later e_w14 s2)
 have l51_3 := OwnBA.lt (later e_w14 s3)
 have l51_6 := OwnBA.lt s6
 revert s6; revert s5; revert s4; revert s3; revert s2; revert s1; refine kp6 hs rfl ?_; intro s1 s2 s3 s4 s5 s6
 revert s7; refine kp1 hs rfl ?_; intro s7
 have s8 := fa ?b50_5 a51 w51 8 (hd 7 8 rfl)
 have s9 := fa ?b50_6 a51 w51 9 (hd 8 9 rfl)
 obtain ⟨g51_8, q51_8⟩ := OwnB.at s8; clear s8; have n51_8 := OwnBA.lt q51_8
 replace q51_8 := OwnBA.mono q51_8 e_w.size
 have s8 := q51_8; clear q51_8
 replace e_w := e_w.trans x
 replace e_w14 := e_w14.trans x
 have e_w49 := x
 clear hd hs x
 replace s9 := Is.int s9 hx1
 refine exit_then ?_
 refine wp_seq ?_
 refine wp_reg 97 [[(3, none)], [(1, none)], [(2, none)], [(48, some 0), (49, some 1), (50, some 2)], [(51, some 3)], [(47, some 4)], [(47, some 4)], [(52, some 5)], [(53, some 6)]] [?b52_0, ?b52_1, ?b52_2, ?b52_3, ?b52_3, ?b52_5, ?b52_6, ?b52_5, ?b52_6] mixed hr ?t52 ?o52 ?_
 case o52 =>
  refine oc0 (fun A W hx hf => ?_) ?_
  exact ok_movE (a0 := a51) (r0 hf)
  refine oc0 (fun A W hx hf => ?_) ?_
  exact ok_loadAggS 2 Try.underlying25 rfl size25 (o2 s1 e_w14 hx (r0 hf)) rfl
  refine oc0 (fun A W hx hf => ?_) ?_
  exact ok_loadAggS 2 Try.underlying25 rfl size25 (o2 s2 e_w14 hx (r0 hf)) rfl
  refine oc0 (fun A W hx hf => ?_) ?_
  exact ok_call3 body10 (c_tWrap (OwnBA.bs (p2 s3 e_w14 hx (q0 ?b52_0 A W 48 hf))) (Is.conv (q1 ?b52_1 A W 49 hf) (adr_seg adrA)) (Is.conv (q2 ?b52_2 A W 50 hf) (adr_seg adrS)) (by exact rfl) (by exact rfl) (by rw [hml]; decide) hx.size)
  refine oc0 (fun A W hx hf => ?_) ?_
  exact ok_move (q0 ?b52_3 A W 51 hf)
  refine oc0 (fun A W hx hf => ?_) ?_
  exact ok_ext0 (q0 ?b52_3 A W 47 hf)
  refine oc0 (fun A W hx hf => ?_) ?_
  exact ok_ext1 (q0 ?b52_3 A W 47 hf)
  refine oc0 (fun A W hx hf => ?_) ?_
  exact ok_assign (q0 ?b52_5 A W 52 hf)
  refine oc0 (fun A W hx hf => ?_) ?_
  exact ok_assign (q0 ?b52_6 A W 53 hf)
  exact OpsOk.nil
 case t52 => exact inferInstance
 clear hr; intro a53 w53 x hr hd hs
 have z_w_w51 := e_w.size
 have z_w14_w51 := e_w14.size
 have z_w49_w51 := e_w49.size
 revert s8; revert s7; revert s6; revert s5; revert s4; revert s3; refine kp6 hs rfl ?_; intro s3 s4 s5 s6 s7 s8
 revert s9; refine kp1 hs rfl ?_; intro s9
 clear s1 s2
 have s11 := fa ?b52_6 a53 w53 11 (hd 8 11 rfl)
 replace e_w := e_w.trans x
 replace e_w14 := e_w14.trans x
 replace e_w49 := e_w49.trans x
 have e_w51 := x
 clear hd hs x
 replace s11 := Is.int s11 (show _ = (1 : Int) from by rw [hf1])
 refine exit_then ?_
 refine wp_seq ?_
 refine wp_reg 97 [[(3, none)], [(55, some 0)], [(56, some 1)], [(54, some 2)], [(54, some 2)], [(57, some 3)], [(58, some 4)]] [?b54_0, ?b54_1, ?b54_1, ?b54_3, ?b54_4, ?b54_3, ?b54_4] mixed hr ?t54 ?o54 ?_
 case o54 =>
  refine oc0 (fun A W hx hf => ?_) ?_
  exact ok_movE (a0 := a53) (r0 hf)
  refine oc0 (fun A W hx hf => ?_) ?_
  exact ok_call1 body13 (c_tUnwrap (OwnBA.bs (p2 s3 e_w14 hx (q0 ?b54_0 A W 55 hf))) (by rw [hml]; decide) hx.size)
  refine oc0 (fun A W hx hf => ?_) ?_
  exact ok_move (q0 ?b54_1 A W 56 hf)
  refine oc0 (fun A W hx hf => ?_) ?_
  exact ok_ext0 (q0 ?b54_1 A W 54 hf)
  refine oc0 (fun A W hx hf => ?_) ?_
  exact ok_ext1 (q0 ?b54_1 A W 54 hf)
  refine oc0 (fun A W hx hf => ?_) ?_
  exact ok_assign (q0 ?b54_3 A W 57 hf)
  refine oc0 (fun A W hx hf => ?_) ?_
  exact ok_assign (q0 ?b54_4 A W 58 hf)
  exact OpsOk.nil
 case t54 => exact inferInstance
 clear hr; intro a55 w55 x hr hd hs
 have z_w_w53 := e_w.size
 have z_w14_w53 := e_w14.size
 have z_w49_w53 := e_w49.size
 have z_w51_w53 := e_w51.size
 revert s8; revert s7; revert s6; revert s5; revert s4; revert s3; refine kp6 hs rfl ?_; intro s3 s4 s5 s6 s7 s8
 revert s11; revert s9; refine kp2 hs rfl ?_; intro s9 s11
 have s13 := fa ?b54_4 a55 w55 13 (hd 6 13 rfl)
 replace e_w := e_w.trans x
 replace e_w14 := e_w14.trans x
 replace e_w49 := e_w49.trans x
 replace e_w51 := e_w51.trans x
 have e_w53 := x
 clear hd hs x
 replace s13 := Is.int s13 (show _ = (3 : Int) from by rw [hn1]; rfl)
 refine exit_then ?_
 refine wp_seq ?_
 refine wp_reg 97 ([(3, none)] :: [(59, some 0)] :: [(60, some 1)] :: [(61, some 2)] :: [(5, none), (62, some 3)] :: [(63, some 4), (62, some 3)] :: [(62, some 3), (64, some 5)] :: [(65, some 6)] :: [(4, none), (66, some 7)] :: [(67, some 8), (66, some 7)] :: [(68, some 9), (66, some 7)] :: [(66, some 7), (69, some 10)] :: [(70, some 11)] :: [(7, none), (71, some 12)] :: [(72, some 13), (71, some 12)] :: [(71, some 12), (73, some 14)] :: [(74, some 15)] :: [(6, none), (75, some 16)] :: [(3, none), (75, some 16)] :: [(76, some 17), (77, some 18), (75, some 16)] :: [(75, some 16), (78, some 19)] :: [(79, some 20)] :: [(9, none), (80, some 21)] :: [(81, some 22), (80, some 21)] :: [(80, some 21), (82, some 23)] :: [(83, some 24)] :: [(8, none), (84, some 25)] :: [(85, some 26), (84, some 25)] :: [(86, some 27), (84, some 25)] :: [(84, some 25), (87, some 28)] :: [(88, some 29)] :: [(11, none), (89, some 30)] :: [(90, some 31), (89, some 30)] :: [(89, some 30), (91, some 32)] :: [(92, some 33)] :: [(13, none), (93, some 34)] :: [(94, some 35), (93, some 34)] :: [(93, some 34), (95, some 36)] :: [(96, some 37)] :: []) (?b56_0 :: ?b56_1 :: ?b56_2 :: ?b56_2 :: ?b56_4 :: ?b56_5 :: ?b56_6 :: ?b56_6 :: ?b56_8 :: ?b56_9 :: ?b56_10 :: ?b56_11 :: ?b56_11 :: ?b56_13 :: ?b56_14 :: ?b56_15 :: ?b56_15 :: ?b56_17 :: ?b56_18 :: ?b56_19 :: ?b56_20 :: ?b56_20 :: ?b56_22 :: ?b56_23 :: ?b56_24 :: ?b56_24 :: ?b56_26 :: ?b56_27 :: ?b56_28 :: ?b56_29 :: ?b56_29 :: ?b56_31 :: ?b56_32 :: ?b56_33 :: ?b56_33 :: ?b56_35 :: ?b56_36 :: ?b56_37 :: ?b56_37 :: []) mixed hr ?t56 ?o56 ?_
 case o56 =>
  refine oc0 (fun A W hx hf => ?_) ?_
  exact ok_movE (a0 := a55) (r0 hf)
  refine oc0 (fun A W hx hf => ?_) ?_
  exact ok_len_bs Try.underlying22 (OwnBA.bs (p2 s3 e_w14 hx (q0 ?b56_0 A W 59 hf)))
  refine oc0 (fun A W hx hf => ?_) ?_
  exact ok_eql (q0 ?b56_1 A W 60 hf) (ec A (.int .i64 60))
  refine oc0 (fun A W hx hf => ?_) ?_
  exact ok_move (q0 ?b56_2 A W 61 hf)
  refine ocg 62 ?_ (fun A W hx hf => ?_) ?_
  rfl
  exact gd_t (q1 ?b56_2 A W 62 hf) (fun hc => ok_movE (a0 := a55) (r0 hf))
  refine ocg 62 ?_ (fun A W hx hf => ?_) ?_
  rfl
  exact gd_t (q1 ?b56_2 A W 62 hf) (fun hc => ok_eql (p2 s5 e_w14 hx (G.get (q0 ?b56_4 A W 63 hf) hc)) (ec A (.int .i64 0)))
  refine oc0 (fun A W hx hf => ?_) ?_
  exact ok_and (q0 ?b56_2 A W 62 hf) (q1 ?b56_5 A W 64 hf)
  refine oc0 (fun A W hx hf => ?_) ?_
  exact ok_move (q0 ?b56_6 A W 65 hf)
  refine ocg 66 ?_ (fun A W hx hf => ?_) ?_
  rfl
  exact gd_t (q1 ?b56_6 A W 66 hf) (fun hc => ok_movE (a0 := a55) (r0 hf))
  refine ocg 66 ?_ (fun A W hx hf => ?_) ?_
  rfl
  exact gd_t (q1 ?b56_6 A W 66 hf) (fun hc => ok_len_bs Try.underlying22 (p2 s4 e_w14 hx (G.get (q0 ?b56_8 A W 67 hf) hc)))
  refine ocg 66 ?_ (fun A W hx hf => ?_) ?_
  rfl
  exact gd_t (q1 ?b56_6 A W 66 hf) (fun hc => ok_eql (G.get (q0 ?b56_9 A W 68 hf) hc) (ec A (.int .i64 80)))
  refine oc0 (fun A W hx hf => ?_) ?_
  exact ok_and (q0 ?b56_6 A W 66 hf) (q1 ?b56_10 A W 69 hf)
  refine oc0 (fun A W hx hf => ?_) ?_
  exact ok_move (q0 ?b56_11 A W 70 hf)
  refine ocg 71 ?_ (fun A W hx hf => ?_) ?_
  rfl
  exact gd_t (q1 ?b56_11 A W 71 hf) (fun hc => ok_movE (a0 := a55) (r0 hf))
  refine ocg 71 ?_ (fun A W hx hf => ?_) ?_
  rfl
  exact gd_t (q1 ?b56_11 A W 71 hf) (fun hc => ok_eql (p2 s7 e_w49 hx (G.get (q0 ?b56_13 A W 72 hf) hc)) (ec A (.int .i64 0)))
  refine oc0 (fun A W hx hf => ?_) ?_
  exact ok_and (q0 ?b56_11 A W 71 hf) (q1 ?b56_14 A W 73 hf)
  refine oc0 (fun A W hx hf => ?_) ?_
  exact ok_move (q0 ?b56_15 A W 74 hf)
  refine ocg 75 ?_ (fun A W hx hf => ?_) ?_
  rfl
  exact gd_t (q1 ?b56_15 A W 75 hf) (fun hc => ok_movE (a0 := a55) (r0 hf))
  refine ocg 75 ?_ (fun A W hx hf => ?_) ?_
  rfl
  exact gd_t (q1 ?b56_15 A W 75 hf) (fun hc => ok_movE (a0 := a55) (r0 hf))
  refine ocg 75 ?_ (fun A W hx hf => ?_) ?_
  rfl
  exact gd_t (q2 ?b56_15 A W 75 hf) (fun hc => ok_call2 body12 (c_Same (OwnBA.bs (p2 s6 e_w49 hx (G.get (q0 ?b56_17 A W 76 hf) hc))) (OwnBA.bs (p2 s3 e_w14 hx (G.get (q1 ?b56_18 A W 77 hf) hc)))))
  refine oc0 (fun A W hx hf => ?_) ?_
  exact ok_and (q0 ?b56_15 A W 75 hf) (q1 ?b56_19 A W 78 hf)
  refine oc0 (fun A W hx hf => ?_) ?_
  exact ok_move (q0 ?b56_20 A W 79 hf)
  refine ocg 80 ?_ (fun A W hx hf => ?_) ?_
  rfl
  exact gd_t (q1 ?b56_20 A W 80 hf) (fun hc => ok_movE (a0 := a55) (r0 hf))
  refine ocg 80 ?_ (fun A W hx hf => ?_) ?_
  rfl
  exact gd_t (q1 ?b56_20 A W 80 hf) (fun hc => ok_eql (p2 s9 e_w51 hx (G.get (q0 ?b56_22 A W 81 hf) hc)) (ec A (.int .i64 0)))
  refine oc0 (fun A W hx hf => ?_) ?_
  exact ok_and (q0 ?b56_20 A W 80 hf) (q1 ?b56_23 A W 82 hf)
  refine oc0 (fun A W hx hf => ?_) ?_
  exact ok_move (q0 ?b56_24 A W 83 hf)
  refine ocg 84 ?_ (fun A W hx hf => ?_) ?_
  rfl
  exact gd_t (q1 ?b56_24 A W 84 hf) (fun hc => ok_movE (a0 := a55) (r0 hf))
  refine ocg 84 ?_ (fun A W hx hf => ?_) ?_
  rfl
  exact gd_t (q1 ?b56_24 A W 84 hf) (fun hc => ok_len_bs Try.underlying22 (OwnBA.bs (p2 s8 e_w51 hx (G.get (q0 ?b56_26 A W 85 hf) hc))))
  refine ocg 84 ?_ (fun A W hx hf => ?_) ?_
  rfl
  exact gd_t (q1 ?b56_24 A W 84 hf) (fun hc => ok_eql (G.get (q0 ?b56_27 A W 86 hf) hc) (ec A (.int .i64 100)))
  refine oc0 (fun A W hx hf => ?_) ?_
  exact ok_and (q0 ?b56_24 A W 84 hf) (q1 ?b56_28 A W 87 hf)
  refine oc0 (fun A W hx hf => ?_) ?_
  exact ok_move (q0 ?b56_29 A W 88 hf)
  refine ocg 89 ?_ (fun A W hx hf => ?_) ?_
  rfl
  exact gd_t (q1 ?b56_29 A W 89 hf) (fun hc => ok_movE (a0 := a55) (r0 hf))
  refine ocg 89 ?_ (fun A W hx hf => ?_) ?_
  rfl
  exact gd_t (q1 ?b56_29 A W 89 hf) (fun hc => ok_eql (p2 s11 e_w53 hx (G.get (q0 ?b56_31 A W 90 hf) hc)) (ec A (.int .i64 1)))
  refine oc0 (fun A W hx hf => ?_) ?_
  exact ok_and (q0 ?b56_29 A W 89 hf) (q1 ?b56_32 A W 91 hf)
  refine oc0 (fun A W hx hf => ?_) ?_
  exact ok_move (q0 ?b56_33 A W 92 hf)
  refine ocg 93 ?_ (fun A W hx hf => ?_) ?_
  rfl
  exact gd_t (q1 ?b56_33 A W 93 hf) (fun hc => ok_movE (a0 := a55) (r0 hf))
  refine ocg 93 ?_ (fun A W hx hf => ?_) ?_
  rfl
  exact gd_t (q1 ?b56_33 A W 93 hf) (fun hc => ok_eql (p1 s13 hx (G.get (q0 ?b56_35 A W 94 hf) hc)) (ec A (.int .i64 3)))
  refine oc0 (fun A W hx hf => ?_) ?_
  exact ok_and (q0 ?b56_33 A W 93 hf) (q1 ?b56_36 A W 95 hf)
  refine oc0 (fun A W hx hf => ?_) ?_
  exact ok_assign (q0 ?b56_37 A W 96 hf)
  exact OpsOk.nil
 case t56 => repeat (first | exact stb_nil | refine stb_cons ?_)
 clear hr; intro a57 w57 x hr hd hs
 clear s3 s4 s5 s6 s7 s8 s9 s11 s13
 have s0 := fa ?b56_37 a57 w57 0 (hd 38 0 rfl)
 replace e_w := e_w.trans x
 clear e_w14
 clear e_w49
 clear e_w51
 clear e_w53
 clear hd hs x
 refine exit_then ?_
 refine wp_ret ?_
 refine ret_tmp Try.results9 hr e_w ?_
 exact Is.bool s0 (by rw [hml, hw2, hx2]; simp)

end Go.Proofs.Ytnlmppannjebfaa
