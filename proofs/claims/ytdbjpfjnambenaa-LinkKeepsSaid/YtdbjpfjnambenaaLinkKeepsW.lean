import Derived.Test.YtdbjpfjnambenaaA07
import Derived.Test.YtdbjpfjnambenaaC07e
import Derived.Test.YtdbjpfjnambenaaC07f
namespace Go.Proofs.Ytdbjpfjnambenaa
open Go.RowKit
set_option linter.unusedVariables false
set_option maxRecDepth 4000
def D_law_LinkKeeps_0 : List Tmp := [9, 33, 34, 35, 36, 37, 38, 39, 40, 41, 42, 43, 44, 45, 46]
def D_law_LinkKeeps_1 : List Tmp := [10, 51, 52, 53, 54, 55, 56, 57, 58, 59]
set_option maxHeartbeats 1000000 in
theorem law_LinkKeeps {x0 x1 : Value} {w : World} {l d : List UInt8} (h0 : (Bs l) x0 w) (h1 : (Is (.agg (d.map byteV).toArray)) x1 w) (hd : d.length = 6) :
    Calls Try.prog 8 #[x0, x1] w (Ret (Is (.bool true)) w) := by
 have hlen := Bs.len_le h0
 have htl := turnL_len (l := l) (d := d) (s := d)
 refine enter Try.func8 rfl Try.ntmps8 (k := 2) rfl (by decide) (fun a0 hr hargs => ?_)
 have s0 := sarg h0 (hargs 0 (by decide))
 have s1 := sarg h1 (hargs 1 (by decide))
 clear hargs
 refine wp_seq ?_
 refine wp_reg 68 [[(1, none)], []] [?b1_0, ?b1_1] mixed (by kernel_rfl) (by kernel_rfl) hr ?t1 ?o1 ?_
 case o1 =>
  refine oc0 (fun A W hx hf => ?_) ?_
  exact ok_boxS [d.map byteV] [6] (Is.conv (o1 s1 hx (r0 hf)) (show _ = Value.agg [d.map byteV].flatten.toArray from by simp)) (by simp [hd]) hx.size
  refine oc0 (fun A W hx hf => ?_) ?_
  exact ok_assignc
  exact OpsOk.nil
 case t1 => exact inferInstance
 clear hr; intro a2 w2 x hr hd hs
 revert s0; refine kp1 hs rfl ?_; intro s0
 clear s1
 have s3 := fa ?b1_0 a2 w2 3 (hd 0 3 rfl)
 obtain ⟨g2_3, q2_3⟩ := PxN.at s3; clear s3; have n2_3 := PxS.lt q2_3
 have s3 := q2_3; clear q2_3
 have e_w := x
 clear hd hs x
 refine exit_then ?_
 refine wp_seq ?_
 refine wp_seq ?_
 refine wp_reg 68 [[], [(13, some 0)], [(14, some 1)], [(0, none), (15, some 2)], [(16, some 3), (15, some 2)], [(17, some 4), (15, some 2)], [(15, some 2), (18, some 5)]] [?b3_0, ?b3_1, ?b3_1, ?b3_3, ?b3_4, ?b3_5, ?b3_6] mixed (by kernel_rfl) (by kernel_rfl) hr ?t3 ?o3 ?_
 case o3 =>
  refine oc0 (fun A W hx hf => ?_) ?_
  exact ok_call0 body9 (c_awake07 )
  refine oc0 (fun A W hx hf => ?_) ?_
  exact ok_not (q0 ?b3_0 A W 13 hf)
  refine oc0 (fun A W hx hf => ?_) ?_
  exact ok_move (q0 ?b3_1 A W 14 hf)
  refine ocg 15 ?_ (fun A W hx hf => ?_) ?_
  rfl
  exact gd_f (q1 ?b3_1 A W 15 hf) (fun hc => ok_movE (a0 := a2) (r0 hf))
  refine ocg 15 ?_ (fun A W hx hf => ?_) ?_
  rfl
  exact gd_f (q1 ?b3_1 A W 15 hf) (fun hc => ok_len_bs Try.underlying22 (p2 s0 e_w hx (G.get (q0 ?b3_3 A W 16 hf) hc)))
  refine ocg 15 ?_ (fun A W hx hf => ?_) ?_
  rfl
  exact gd_f (q1 ?b3_1 A W 15 hf) (fun hc => ok_gtr (G.get (q0 ?b3_4 A W 17 hf) hc) (ec A (.int .i64 1000)))
  refine oc0 (fun A W hx hf => ?_) ?_
  exact ok_or (q0 ?b3_1 A W 15 hf) (q1 ?b3_5 A W 18 hf)
  exact OpsOk.nil
 case t3 => exact inferInstance
 clear hr; intro a4 w4 x hr hd hs
 revert s3; revert s0; refine kp2 hs rfl ?_; intro s0 s3
 have s19 := fa ?b3_6 a4 w4 19 (hd 6 19 rfl)
 replace e_w := e_w.trans x
 have e_w2 := x
 clear hd hs x
 refine exit_then ?_
 refine wp_cond_split (show _ = _ from s19) (fun hl => ?_) (fun hl => ?_)
 · skip
   skip
   refine wp_seq ?_
   refine wp_reg 68 [[], [(20, some 0)]] [?b6_0, ?b6_0] mixed (by kernel_rfl) (by kernel_rfl) hr ?t6 ?o6 ?_
   case o6 =>
    refine oc0 (fun A W hx hf => ?_) ?_
    exact ok_call0 body9 (c_awake07 )
    refine oc0 (fun A W hx hf => ?_) ?_
    exact ok_assign (q0 ?b6_0 A W 20 hf)
    exact OpsOk.nil
   case t6 => exact inferInstance
   clear hr; intro a7 w7 x hr hd hs
   clear s0 s3 s19
   have s4 := fa ?b6_0 a7 w7 4 (hd 1 4 rfl)
   replace e_w := e_w.trans x
   clear e_w2
   clear hd hs x
   refine exit_then ?_
   refine wp_ret ?_
   refine then_ret ?_
   refine ret_tmp Try.results8 hr e_w ?_
   first | with_reducible exact s4 | exact Is.bool s4 (by simp)
 · skip
   have hl : l.length ≤ 1000 := by simp at hl; omega
   refine wp_skip ?_
   refine exit_then ?_
   refine wp_seq ?_
   refine wp_reg_pre (l := [_, _]) (rest := [_, _]) 68 [[], [(0, none)]] [?b8_0, ?b8_1] (by kernel_rfl) (by kernel_rfl) hr ?t8 ?o8 ?_
   case o8 =>
    refine oc0 (fun A W hx hf => ?_) ?_
    exact ok_ownBs [] [] Try.underlying22 size5 zero5 rfl rfl (by decide) hx.size (PartsOk.nil)
    refine oc0 (fun A W hx hf => ?_) ?_
    exact ok_movE (a0 := a4) (r0 hf)
    exact OpsOk.nil
   case t8 => exact inferInstance
   clear hr; intro a9 w9 x hr hd hs
   have z_w_w4 := e_w.size
   have z_w2_w4 := e_w2.size
   have l9_3 := PxS.lt (later e_w2 s3)
   have u22 := mv s0 (fa ?b8_1 a9 w9 22 (hd 1 22 rfl))
   revert s3; revert s0; refine kp2 hs rfl ?_; intro s0 s3
   clear s19
   have s22 := u22; clear u22
   have s21 := fa ?b8_0 a9 w9 21 (hd 0 21 rfl)
   obtain ⟨g9_21, q9_21⟩ := OwnB.at s21; clear s21; have n9_21 := OwnBA.lt q9_21
   replace q9_21 := OwnBA.mono q9_21 e_w.size
   have s21 := q9_21; clear q9_21
   replace e_w := e_w.trans x
   replace e_w2 := e_w2.trans x
   clear hd hs x
   have l10 := OwnBA.lt s21
   have l10_3 := PxS.lt (later e_w2 s3)
   refine wl_append_bsA hr (by decide) Try.underlying22 info5 rfl s21 (later e_w s22) e_w.size (by simp; omega) ?_; clear hr; intro g10 a10 w10 hg10 hc hr hd hs
   have hb := hc.below e_w.size l10.1
   revert s3; revert s0; refine kp2 hs rfl ?_; intro s0 s3
   clear s22 s21
   replace s3 := PxS.other (later e_w2 s3) hc (by omega)
   have s23 := hd
   replace e_w := e_w.below (Nat.le_refl _) hb
   clear e_w2
   clear hd hs hb hc
   refine wl_op hr (ok_assign s23) inferInstance ?_; clear hr; intro a11 w11 x hr hd hs
   revert s3; revert s0; refine kp2 hs rfl ?_; intro s0 s3
   clear s23
   have s5 := hd 5 rfl (by decide)
   replace e_w := e_w.trans x
   have e_w10 := x
   clear hd hs x
   refine wpList_nil ?_
   replace s5 := OwnBA.cast s5 (show _ = l from by simp)
   refine exit_then ?_
   refine wp_seq ?_
   refine wp_reg 68 [[(5, none)], [(3, none)], [(3, none)], [(24, some 0), (25, some 1), (26, some 2)], [(27, some 3)]] [?b12_0, ?b12_1, ?b12_2, ?b12_3, ?b12_3] mixed (by kernel_rfl) (by kernel_rfl) hr ?t12 ?o12 ?_
   case o12 =>
    refine oc0 (fun A W hx hf => ?_) ?_
    exact ok_movE (a0 := a11) (r0 hf)
    refine oc0 (fun A W hx hf => ?_) ?_
    exact ok_loadSeg Try.underlying24 rfl size24 (o2 s3 e_w10 hx (r0 hf)) rfl rfl
    refine oc0 (fun A W hx hf => ?_) ?_
    exact ok_loadSeg Try.underlying24 rfl size24 (o2 s3 e_w10 hx (r0 hf)) rfl rfl
    refine oc0 (fun A W hx hf => ?_) ?_
    exact ok_call3 body17 (c_lTurn (OwnBA.bs (p1 s5 hx (q0 ?b12_0 A W 24 hf))) (Is.conv (q1 ?b12_1 A W 25 hf) (show _ = Value.agg (d.map byteV).toArray from by simp)) (Is.conv (q2 ?b12_2 A W 26 hf) (show _ = Value.agg (d.map byteV).toArray from by simp)) (by exact hd) (by exact hd) (by omega) hx.size)
    refine oc0 (fun A W hx hf => ?_) ?_
    exact ok_assign (q0 ?b12_3 A W 27 hf)
    exact OpsOk.nil
   case t12 => exact inferInstance
   clear hr; intro a13 w13 x hr hd hs
   have z_w_w11 := e_w.size
   have z_w10_w11 := e_w10.size
   have l13_3 := PxS.lt (later e_w10 s3)
   have l13_5 := OwnBA.lt s5
   revert s5; revert s0; refine kp2 hs rfl ?_; intro s0 s5
   clear s3
   have s6 := fa ?b12_3 a13 w13 6 (hd 4 6 rfl)
   obtain ⟨g13_6, q13_6⟩ := OwnB.at s6; clear s6; have n13_6 := OwnBA.lt q13_6
   replace q13_6 := OwnBA.mono q13_6 e_w.size
   have s6 := q13_6; clear q13_6
   replace e_w := e_w.trans x
   clear e_w10
   have e_w11 := x
   clear hd hs x
   refine exit_then ?_
   refine wp_seq ?_
   refine wp_reg_pre (l := [_, _, _, _, _]) (rest := [_, _, _]) 68 [[(5, none)], [(29, some 0)], [(30, some 1)], [(28, some 2)], [(28, some 2)]] [?b14_0, ?b14_1, ?b14_1, ?b14_3, ?b14_4] (by kernel_rfl) (by kernel_rfl) hr ?t14 ?o14 ?_
   case o14 =>
    refine oc0 (fun A W hx hf => ?_) ?_
    exact ok_movE (a0 := a13) (r0 hf)
    refine oc0 (fun A W hx hf => ?_) ?_
    exact ok_call1 body10 (c_lRead (OwnBA.bs (p2 s5 e_w11 hx (q0 ?b14_0 A W 29 hf))) hx.size)
    refine oc0 (fun A W hx hf => ?_) ?_
    exact ok_move (q0 ?b14_1 A W 30 hf)
    refine oc0 (fun A W hx hf => ?_) ?_
    exact ok_ext0 (q0 ?b14_1 A W 28 hf)
    refine oc0 (fun A W hx hf => ?_) ?_
    exact ok_ext1 (q0 ?b14_1 A W 28 hf)
    exact OpsOk.nil
   case t14 => exact inferInstance
   clear hr; intro a15 w15 x hr hd hs
   have l15_5 := OwnBA.lt (later e_w11 s5)
   have l15_6 := OwnBA.lt s6
   revert s6; revert s5; revert s0; refine kp3 hs rfl ?_; intro s0 s5 s6
   have s31 := fa ?b14_3 a15 w15 31 (hd 3 31 rfl)
   have s32 := fa ?b14_4 a15 w15 32 (hd 4 32 rfl)
   obtain ⟨sv31, s31, gA⟩ := LinkO.open s31; obtain ⟨g15_31, gA⟩ := OwnR.at gA; have n15_31 := OwnRA.lt gA
   replace gA := OwnRA.mono gA e_w.size
   replace e_w := e_w.trans x
   replace e_w11 := e_w11.trans x
   have e_w13 := x
   clear hd hs x
   have l16_5 := OwnBA.lt (later e_w11 s5)
   have l16_6 := OwnBA.lt (later e_w13 s6)
   have l16_gA := OwnRA.lt gA
   refine wl_op hr (ok_allocS [(lnkS link0 (.slice none 0 0)).flatten] [15] zerov27 (by rfl) (by rfl) (Nat.le_refl _)) inferInstance ?_; clear hr; intro a16 w16 x hr hd hs
   revert s31; revert s32; revert s6; revert s5; revert s0; refine kp5 hs rfl ?_; intro s0 s5 s6 s32 s31
   have s7 := hd 7 rfl (by decide)
   obtain ⟨g16_7, q16_7⟩ := PxN.at s7; clear s7; have n16_7 := PxS.lt q16_7
   replace q16_7 := PxS.mono q16_7 e_w.size
   have s7 := q16_7; clear q16_7
   replace e_w := e_w.trans x
   replace e_w11 := e_w11.trans x
   replace e_w13 := e_w13.trans x
   have e_w15 := x
   clear hd hs x
   have z17 := PxS.lt s7
   have l17 := (show (g16_7 = 0 ∨ w.heap.size < g16_7) ∧ True from ⟨by omega, trivial⟩)
   have l17_5 := OwnBA.lt (later e_w11 s5)
   have l17_6 := OwnBA.lt (later e_w13 s6)
   have l17_gA := OwnRA.lt (later e_w15 gA)
   refine wl_storeSn hr size27 s7 (later e_w15 s31) (by exact lnk_len (linkRead_ok _)) (by exact lnk_one (rw_one (OwnRA.rw (later e_w15 gA)))) rfl ?_; clear hr; intro a17 w17 hc hu hr hs
   have hb : Below w.heap.size w16 w17 := hc.below e_w.size l17.1
   revert s7; revert s32; revert s6; revert s5; revert s0; refine kp5 hs rfl ?_; intro s0 s5 s6 s32 s7
   clear s31
   replace s5 := OwnBA.other (later e_w11 s5) hc (by omega)
   replace s6 := OwnBA.other (later e_w13 s6) hc (by omega)
   replace s7 := hu _ _ _ s7
   try simp only [List.set_cons_zero, List.set_cons_succ] at s7
   replace gA := OwnRA.other (later e_w15 gA) hc (by omega)
   replace e_w := e_w.below (Nat.le_refl _) hb
   clear e_w11
   clear e_w13
   clear e_w15
   replace s32 := anyw (w2 := w17) s32
   clear hu hs hc hb
   refine wl_op hr (ok_assign s32) inferInstance ?_; clear hr; intro a18 w18 x hr hd hs
   revert s7; revert s6; revert s5; revert s0; refine kp4 hs rfl ?_; intro s0 s5 s6 s7
   clear s32
   replace e_w := e_w.trans x
   have e_w17 := x
   clear hd hs x
   refine wpList_nil ?_
   refine exit_then ?_
   refine wp_seq ?_
   refine wp_seq ?_
   refine wp_reg 68 [[]] [?b19_0] mixed (by kernel_rfl) (by kernel_rfl) hr ?t19 ?o19 ?_
   case o19 =>
    refine oc0 (fun A W hx hf => ?_) ?_
    exact ok_assignc
    exact OpsOk.nil
   case t19 => exact inferInstance
   clear hr; intro a20 w20 x hr hd hs
   revert s7; revert s6; revert s5; revert s0; refine kp4 hs rfl ?_; intro s0 s5 s6 s7
   have s9 := fa ?b19_0 a20 w20 9 (hd 0 9 rfl)
   replace e_w := e_w.trans x
   replace e_w17 := e_w17.trans x
   clear hd hs x
   refine exit_then ?_
   refine wp_block ?_
   refine wp_loop_inv (fun n A W => ∃ (i : Nat) (m : List UInt8), n = m.length - i ∧ Fr 68 A ∧ Same D_law_LinkKeeps_0 a20 A ∧ Ext w W ∧ (m.length = l.length) ∧ (OwnRA g15_31 w.heap.size 45 tagR (linkRead l).1.tags) (sv31) W ∧ (OwnBA g10 w.heap.size 5 l) (A.eval (.tmp 5)) W ∧ (OwnBA g13_6 w.heap.size 5 m) (A.eval (.tmp 6)) W ∧ (PxS g16_7 w.heap.size [15] [(lnkS (linkRead l).1 sv31).flatten] 0) (A.eval (.tmp 7)) W ∧ (Is (.int .i64 (i : Int))) (A.eval (.tmp 9)) W) ?start21 ?_
   case start21 =>
    refine ⟨_, 0, turnL l d d, rfl, hr, Same.rfl, e_w, (by exact htl), (later e_w17 gA), ?_, ?_, ?_, ?_⟩
    · exact (later e_w17 s5)
    · exact (later e_w17 s6)
    · exact (later e_w17 s7)
    · first | exact s9 | exact Is.int s9 (by first | omega | simp) | exact Is.bool s9 (by first | omega | simp)
   intro n21 a21 w21 hI
   clear e_w
   clear e_w17
   clear hr; obtain ⟨i, m, hn21, hr, hs, e_w, hm, gA, u5, u6, u7, u9⟩ := hI
   revert s0; refine kp1 hs rfl ?_; intro s0
   clear s5 s6 s7 s9
   have s5 := u5; clear u5
   have s6 := u6; clear u6
   have s7 := u7; clear u7
   have s9 := u9; clear u9
   have m21 := hs; clear hs
   refine wp_seq ?_
   refine wp_seq ?_
   refine wp_reg 68 [[(9, none)], [(6, none)], [(34, some 1)], [(33, some 0), (35, some 2)]] [?b22_0, ?b22_1, ?b22_2, ?b22_3] mixed (by kernel_rfl) (by kernel_rfl) hr ?t22 ?o22 ?_
   case o22 =>
    refine oc0 (fun A W hx hf => ?_) ?_
    exact ok_movE (a0 := a21) (r0 hf)
    refine oc0 (fun A W hx hf => ?_) ?_
    exact ok_movE (a0 := a21) (r0 hf)
    refine oc0 (fun A W hx hf => ?_) ?_
    exact ok_len_bs Try.underlying22 (OwnBA.bs (p1 s6 hx (q0 ?b22_1 A W 34 hf)))
    refine oc0 (fun A W hx hf => ?_) ?_
    exact ok_lss (p1 s9 hx (q0 ?b22_0 A W 33 hf)) (q1 ?b22_2 A W 35 hf)
    exact OpsOk.nil
   case t22 => exact inferInstance
   clear hr; intro a23 w23 x hr hd hs
   revert s9; revert s7; revert s6; revert s5; revert s0; refine kp5 hs rfl ?_; intro s0 s5 s6 s7 s9
   have s36 := fa ?b22_3 a23 w23 36 (hd 3 36 rfl)
   replace e_w := e_w.trans x
   have e_w21 := x
   replace m21 := m21.tr hs rfl
   clear hd hs x
   refine exit_then ?_
   refine wp_cond_split (show _ = _ from s36) (fun hlt => ?_) (fun hlt => ?_)
   · skip
     have hlt : i < m.length := by simp at hlt; omega
     refine wp_skip ?_
     refine exit_then ?_
     refine wp_seq ?_
     refine wp_block ?_
     refine wp_reg_pre (l := [_, _, _, _, _, _, _, _]) (rest := [_]) 68 [[(6, none)], [(9, none)], [(6, none)], [(9, none)], [(41, some 2), (42, some 3)], [(43, some 4)], [(44, some 5)], [(39, some 0), (40, some 1)]] [?b25_0, ?b25_1, ?b25_2, ?b25_3, ?b25_4, ?b25_5, ?b25_6, ?b25_7] (by kernel_rfl) (by kernel_rfl) hr ?t25 ?o25 ?_
     case o25 =>
      refine oc0 (fun A W hx hf => ?_) ?_
      exact ok_movE (a0 := a23) (r0 hf)
      refine oc0 (fun A W hx hf => ?_) ?_
      exact ok_movE (a0 := a23) (r0 hf)
      refine oc0 (fun A W hx hf => ?_) ?_
      exact ok_movE (a0 := a23) (r0 hf)
      refine oc0 (fun A W hx hf => ?_) ?_
      exact ok_movE (a0 := a23) (r0 hf)
      refine oc0 (fun A W hx hf => ?_) ?_
      exact ok_index_bs (_) Try.underlying22 size5 (OwnBA.bs (p2 s6 e_w21 hx (q0 ?b25_2 A W 41 hf))) (p2 s9 e_w21 hx (q1 ?b25_3 A W 42 hf)) (by exact hlt)
      refine oc0 (fun A W hx hf => ?_) ?_
      exact ok_loadp Try.underlying5 rfl (q0 ?b25_4 A W 43 hf)
      refine oc0 (fun A W hx hf => ?_) ?_
      exact ok_xorb (q0 ?b25_5 A W 44 hf) (ec A (.int .u8 255))
      refine oc0 (fun A W hx hf => ?_) ?_
      exact ok_indexA (_) Try.underlying22 size5 (p2 s6 e_w21 hx (q0 ?b25_0 A W 39 hf)) (p2 s9 e_w21 hx (q1 ?b25_1 A W 40 hf)) (by exact hlt)
      exact OpsOk.nil
     case t25 => exact inferInstance
     clear hr; intro a26 w26 x hr hd hs
     revert s9; revert s7; revert s6; revert s5; revert s0; refine kp5 hs rfl ?_; intro s0 s5 s6 s7 s9
     clear s36
     have s45 := fa ?b25_6 a26 w26 45 (hd 6 45 rfl)
     have s46 := fa ?b25_7 a26 w26 46 (hd 7 46 rfl)
     replace e_w := e_w.trans x
     replace e_w21 := e_w21.trans x
     replace m21 := m21.tr hs rfl
     clear hd hs x
     have z27 := EpA.lt s46
     have l27 := (show (g13_6 = 0 ∨ w.heap.size < g13_6) ∧ True from ⟨by omega, trivial⟩)
     have l27_5 := OwnBA.lt (later e_w21 s5)
     have l27_7 := PxS.lt (later e_w21 s7)
     have l27_gA := OwnRA.lt (later e_w21 gA)
     refine wl_storeA hr size5 s46 (ByteIs.of s45 (by exact xor_bd _ 255)) ?_; clear hr; intro a27 w27 hc hu hr hs
     have hb : Below w.heap.size w26 w27 := hc.below e_w.size l27.1
     revert s9; revert s7; revert s6; revert s5; revert s0; refine kp5 hs rfl ?_; intro s0 s5 s6 s7 s9
     clear s45 s46
     replace s5 := OwnBA.other (later e_w21 s5) hc (by omega)
     replace s6 := hu _ _ _ (later e_w21 s6)
     replace s7 := PxS.other (later e_w21 s7) hc (by omega)
     replace gA := OwnRA.other (later e_w21 gA) hc (by omega)
     replace e_w := e_w.below (Nat.le_refl _) hb
     clear e_w21
     replace s9 := anyw (w2 := w27) s9
     replace m21 := m21.tr hs rfl
     clear hu hs hc hb
     refine wpList_nil ?_
     replace s6 := OwnBA.cast s6 (show _ = m.set i (m[i]'hlt ^^^ 255) from by rw [show (255 : Int) = (((255 : UInt8).toNat : Nat) : Int) from rfl, b8_xor])
     refine blk_normal ?_
     refine exit_then ?_
     refine wp_reg 68 [[(9, none)], [(37, some 0)], [(38, some 1)]] [?b28_0, ?b28_1, ?b28_1] mixed (by kernel_rfl) (by kernel_rfl) hr ?t28 ?o28 ?_
     case o28 =>
      refine oc0 (fun A W hx hf => ?_) ?_
      exact ok_movE (a0 := a27) (r0 hf)
      refine oc0 (fun A W hx hf => ?_) ?_
      exact ok_addI (p1 s9 hx (q0 ?b28_0 A W 37 hf)) (ec A (.int .i64 1)) (by omega)
      refine oc0 (fun A W hx hf => ?_) ?_
      exact ok_assign (q0 ?b28_1 A W 38 hf)
      exact OpsOk.nil
     case t28 => exact inferInstance
     clear hr; intro a29 w29 x hr hd hs
     revert s6; revert s7; revert s5; revert s0; refine kp4 hs rfl ?_; intro s0 s5 s7 s6
     clear s9
     have s9 := fa ?b28_1 a29 w29 9 (hd 2 9 rfl)
     replace e_w := e_w.trans x
     have e_w27 := x
     replace m21 := m21.tr hs rfl
     clear hd hs x
     refine exit_then ?_
     refine ⟨(fun (i : Nat) (m : List UInt8) => m.length - i) (i + 1) (m.set i (m[i]'hlt ^^^ 255)), ?_, ?_⟩
     · (try dsimp only); simp; omega
     refine ⟨i + 1, m.set i (m[i]'hlt ^^^ 255), rfl, hr, m21, e_w, (by simp [hm]), (later e_w27 gA), ?_, ?_, ?_, ?_⟩
     · exact (later e_w27 s5)
     · exact (later e_w27 s6)
     · exact (later e_w27 s7)
     · first | exact s9 | exact Is.int s9 (by first | omega | simp) | exact Is.bool s9 (by first | omega | simp)
   · skip
     skip
     refine wp_exit ?_
     refine then_exit ?_
     refine then_exit ?_
     refine blk_exit ?_
     refine exit_then ?_
     refine wp_seq ?_
     refine wp_seq ?_
     refine wp_reg 68 [[(5, none)], [(0, none)], [(47, some 0), (48, some 1)], [(49, some 2)]] [?b30_0, ?b30_1, ?b30_2, ?b30_3] mixed (by kernel_rfl) (by kernel_rfl) hr ?t30 ?o30 ?_
     case o30 =>
      refine oc0 (fun A W hx hf => ?_) ?_
      exact ok_movE (a0 := a23) (r0 hf)
      refine oc0 (fun A W hx hf => ?_) ?_
      exact ok_movE (a0 := a23) (r0 hf)
      refine oc0 (fun A W hx hf => ?_) ?_
      exact ok_call2 body15 (c_Same (OwnBA.bs (p2 s5 e_w21 hx (q0 ?b30_0 A W 47 hf))) (p2 s0 e_w hx (q1 ?b30_1 A W 48 hf)))
      refine oc0 (fun A W hx hf => ?_) ?_
      exact ok_not (q0 ?b30_2 A W 49 hf)
      exact OpsOk.nil
     case t30 => exact inferInstance
     clear hr; intro a31 w31 x hr hd hs
     revert s7; revert s5; revert s0; refine kp3 hs rfl ?_; intro s0 s5 s7
     clear s6 s9 s36
     have s50 := fa ?b30_3 a31 w31 50 (hd 3 50 rfl)
     replace e_w := e_w.trans x
     replace e_w21 := e_w21.trans x
     clear hd hs x
     refine exit_then ?_
     refine wp_cond_split (show _ = _ from s50) (fun hd9 => ?_) (fun hd9 => ?_)
     · skip
       exfalso; simp at hd9
     · skip
       try simp only [decide_eq_true_eq, decide_eq_false_iff_not, Bool.not_eq_true', Bool.not_eq_false', Bool.not_true, Bool.not_false, Bool.and_eq_true, Bool.and_eq_false_iff, Bool.or_eq_true, Bool.or_eq_false_iff, bne_iff_ne, beq_iff_eq, ne_eq, beq_eq_false_iff_ne, bne_eq_false_iff_eq] at hd9
       refine wp_skip ?_
       refine exit_then ?_
       refine wp_seq ?_
       refine wp_seq ?_
       refine wp_reg 68 [[]] [?b33_0] mixed (by kernel_rfl) (by kernel_rfl) hr ?t33 ?o33 ?_
       case o33 =>
        refine oc0 (fun A W hx hf => ?_) ?_
        exact ok_assignc
        exact OpsOk.nil
       case t33 => exact inferInstance
       clear hr; intro a34 w34 x hr hd hs
       revert s7; revert s5; revert s0; refine kp3 hs rfl ?_; intro s0 s5 s7
       clear s50
       have s10 := fa ?b33_0 a34 w34 10 (hd 0 10 rfl)
       replace e_w := e_w.trans x
       replace e_w21 := e_w21.trans x
       clear hd hs x
       refine exit_then ?_
       refine wp_block ?_
       refine wp_loop_inv (fun n A W => ∃ (j : Nat) (m2 : List UInt8), n = m2.length - j ∧ Fr 68 A ∧ Same D_law_LinkKeeps_1 a34 A ∧ Ext w W ∧ (m2.length = l.length) ∧ (OwnRA g15_31 w.heap.size 45 tagR (linkRead l).1.tags) (sv31) W ∧ (OwnBA g10 w.heap.size 5 m2) (A.eval (.tmp 5)) W ∧ (PxS g16_7 w.heap.size [15] [(lnkS (linkRead l).1 sv31).flatten] 0) (A.eval (.tmp 7)) W ∧ (Is (.int .i64 (j : Int))) (A.eval (.tmp 10)) W) ?start35 ?_
       case start35 =>
        refine ⟨_, 0, l, rfl, hr, Same.rfl, e_w, (by rfl), (later e_w21 gA), ?_, ?_, ?_⟩
        · exact (later e_w21 s5)
        · exact (later e_w21 s7)
        · first | exact s10 | exact Is.int s10 (by first | omega | simp) | exact Is.bool s10 (by first | omega | simp)
       intro n35 a35 w35 hI
       clear e_w
       clear e_w21
       clear hr; obtain ⟨j, m2, hn35, hr, hs, e_w, hm2, gA, u5, u7, u10⟩ := hI
       revert s0; refine kp1 hs rfl ?_; intro s0
       clear s5 s7 s10
       have s5 := u5; clear u5
       have s7 := u7; clear u7
       have s10 := u10; clear u10
       have m35 := hs; clear hs
       refine wp_seq ?_
       refine wp_seq ?_
       refine wp_reg 68 [[(10, none)], [(5, none)], [(52, some 1)], [(51, some 0), (53, some 2)]] [?b36_0, ?b36_1, ?b36_2, ?b36_3] mixed (by kernel_rfl) (by kernel_rfl) hr ?t36 ?o36 ?_
       case o36 =>
        refine oc0 (fun A W hx hf => ?_) ?_
        exact ok_movE (a0 := a35) (r0 hf)
        refine oc0 (fun A W hx hf => ?_) ?_
        exact ok_movE (a0 := a35) (r0 hf)
        refine oc0 (fun A W hx hf => ?_) ?_
        exact ok_len_bs Try.underlying22 (OwnBA.bs (p1 s5 hx (q0 ?b36_1 A W 52 hf)))
        refine oc0 (fun A W hx hf => ?_) ?_
        exact ok_lss (p1 s10 hx (q0 ?b36_0 A W 51 hf)) (q1 ?b36_2 A W 53 hf)
        exact OpsOk.nil
       case t36 => exact inferInstance
       clear hr; intro a37 w37 x hr hd hs
       revert s10; revert s7; revert s5; revert s0; refine kp4 hs rfl ?_; intro s0 s5 s7 s10
       have s54 := fa ?b36_3 a37 w37 54 (hd 3 54 rfl)
       replace e_w := e_w.trans x
       have e_w35 := x
       replace m35 := m35.tr hs rfl
       clear hd hs x
       refine exit_then ?_
       refine wp_cond_split (show _ = _ from s54) (fun hlt => ?_) (fun hlt => ?_)
       · skip
         have hlt : j < m2.length := by simp at hlt; omega
         refine wp_skip ?_
         refine exit_then ?_
         refine wp_seq ?_
         refine wp_block ?_
         refine wp_reg_pre (l := [_, _, _]) (rest := [_]) 68 [[(5, none)], [(10, none)], [(57, some 0), (58, some 1)]] [?b39_0, ?b39_1, ?b39_2] (by kernel_rfl) (by kernel_rfl) hr ?t39 ?o39 ?_
         case o39 =>
          refine oc0 (fun A W hx hf => ?_) ?_
          exact ok_movE (a0 := a37) (r0 hf)
          refine oc0 (fun A W hx hf => ?_) ?_
          exact ok_movE (a0 := a37) (r0 hf)
          refine oc0 (fun A W hx hf => ?_) ?_
          exact ok_indexA (_) Try.underlying22 size5 (p2 s5 e_w35 hx (q0 ?b39_0 A W 57 hf)) (p2 s10 e_w35 hx (q1 ?b39_1 A W 58 hf)) (by exact hlt)
          exact OpsOk.nil
         case t39 => exact inferInstance
         clear hr; intro a40 w40 x hr hd hs
         revert s10; revert s7; revert s5; revert s0; refine kp4 hs rfl ?_; intro s0 s5 s7 s10
         clear s54
         have s59 := fa ?b39_2 a40 w40 59 (hd 2 59 rfl)
         replace e_w := e_w.trans x
         replace e_w35 := e_w35.trans x
         replace m35 := m35.tr hs rfl
         clear hd hs x
         have z41 := EpA.lt s59
         have l41 := (show (g10 = 0 ∨ w.heap.size < g10) ∧ True from ⟨by omega, trivial⟩)
         have l41_7 := PxS.lt (later e_w35 s7)
         have l41_gA := OwnRA.lt (later e_w35 gA)
         refine wl_storeA hr size5 s59 (show ByteIs 0 _ _ from rfl) ?_; clear hr; intro a41 w41 hc hu hr hs
         have hb : Below w.heap.size w40 w41 := hc.below e_w.size l41.1
         revert s10; revert s7; revert s5; revert s0; refine kp4 hs rfl ?_; intro s0 s5 s7 s10
         clear s59
         replace s5 := hu _ _ _ (later e_w35 s5)
         replace s7 := PxS.other (later e_w35 s7) hc (by omega)
         replace gA := OwnRA.other (later e_w35 gA) hc (by omega)
         replace e_w := e_w.below (Nat.le_refl _) hb
         clear e_w35
         replace s10 := anyw (w2 := w41) s10
         replace m35 := m35.tr hs rfl
         clear hu hs hc hb
         refine wpList_nil ?_
         refine blk_normal ?_
         refine exit_then ?_
         refine wp_reg 68 [[(10, none)], [(55, some 0)], [(56, some 1)]] [?b42_0, ?b42_1, ?b42_1] mixed (by kernel_rfl) (by kernel_rfl) hr ?t42 ?o42 ?_
         case o42 =>
          refine oc0 (fun A W hx hf => ?_) ?_
          exact ok_movE (a0 := a41) (r0 hf)
          refine oc0 (fun A W hx hf => ?_) ?_
          exact ok_addI (p1 s10 hx (q0 ?b42_0 A W 55 hf)) (ec A (.int .i64 1)) (by omega)
          refine oc0 (fun A W hx hf => ?_) ?_
          exact ok_assign (q0 ?b42_1 A W 56 hf)
          exact OpsOk.nil
         case t42 => exact inferInstance
         clear hr; intro a43 w43 x hr hd hs
         revert s7; revert s5; revert s0; refine kp3 hs rfl ?_; intro s0 s5 s7
         clear s10
         have s10 := fa ?b42_1 a43 w43 10 (hd 2 10 rfl)
         replace e_w := e_w.trans x
         have e_w41 := x
         replace m35 := m35.tr hs rfl
         clear hd hs x
         refine exit_then ?_
         refine ⟨(fun (j : Nat) (m2 : List UInt8) => m2.length - j) (j + 1) (m2.set j 0), ?_, ?_⟩
         · (try dsimp only); simp; omega
         refine ⟨j + 1, m2.set j 0, rfl, hr, m35, e_w, (by simp [hm2]), (later e_w41 gA), ?_, ?_, ?_⟩
         · exact (later e_w41 s5)
         · exact (later e_w41 s7)
         · first | exact s10 | exact Is.int s10 (by first | omega | simp) | exact Is.bool s10 (by first | omega | simp)
       · skip
         skip
         refine wp_exit ?_
         refine then_exit ?_
         refine then_exit ?_
         refine blk_exit ?_
         refine exit_then ?_
         refine wp_seq ?_
         refine wp_reg_pre (l := [_, _, _, _, _]) (rest := [_, _, _]) 68 [[(0, none)], [(61, some 0)], [(62, some 1)], [(60, some 2)], [(60, some 2)]] [?b44_0, ?b44_1, ?b44_1, ?b44_3, ?b44_4] (by kernel_rfl) (by kernel_rfl) hr ?t44 ?o44 ?_
         case o44 =>
          refine oc0 (fun A W hx hf => ?_) ?_
          exact ok_movE (a0 := a37) (r0 hf)
          refine oc0 (fun A W hx hf => ?_) ?_
          exact ok_call1 body11 (c_r7Read (p2 s0 e_w hx (q0 ?b44_0 A W 61 hf)) (by omega) hx.size)
          refine oc0 (fun A W hx hf => ?_) ?_
          exact ok_move (q0 ?b44_1 A W 62 hf)
          refine oc0 (fun A W hx hf => ?_) ?_
          exact ok_ext0 (q0 ?b44_1 A W 60 hf)
          refine oc0 (fun A W hx hf => ?_) ?_
          exact ok_ext1 (q0 ?b44_1 A W 60 hf)
          exact OpsOk.nil
         case t44 => exact inferInstance
         clear hr; intro a45 w45 x hr hd hs
         have l45_5 := OwnBA.lt (later e_w35 s5)
         have l45_7 := PxS.lt (later e_w35 s7)
         have l45_gA := OwnRA.lt (later e_w35 gA)
         revert s7; refine kp1 hs rfl ?_; intro s7
         clear s0 s5 s10 s54
         have s63 := fa ?b44_3 a45 w45 63 (hd 3 63 rfl)
         have s64 := fa ?b44_4 a45 w45 64 (hd 4 64 rfl)
         obtain ⟨sv63, s63, gB⟩ := LinkO.open s63; obtain ⟨g45_63, gB⟩ := OwnR.at gB; have n45_63 := OwnRA.lt gB
         replace gB := OwnRA.mono gB e_w.size
         replace e_w := e_w.trans x
         replace e_w35 := e_w35.trans x
         clear hd hs x
         have l46_7 := PxS.lt (later e_w35 s7)
         have l46_gA := OwnRA.lt (later e_w35 gA)
         have l46_gB := OwnRA.lt gB
         refine wl_op hr (ok_allocS [(lnkS link0 (.slice none 0 0)).flatten] [15] zerov27 (by rfl) (by rfl) (Nat.le_refl _)) inferInstance ?_; clear hr; intro a46 w46 x hr hd hs
         revert s63; revert s64; revert s7; refine kp3 hs rfl ?_; intro s7 s64 s63
         have s11 := hd 11 rfl (by decide)
         obtain ⟨g46_11, q46_11⟩ := PxN.at s11; clear s11; have n46_11 := PxS.lt q46_11
         replace q46_11 := PxS.mono q46_11 e_w.size
         have s11 := q46_11; clear q46_11
         replace e_w := e_w.trans x
         replace e_w35 := e_w35.trans x
         have e_w45 := x
         clear hd hs x
         have z47 := PxS.lt s11
         have l47 := (show (g46_11 = 0 ∨ w.heap.size < g46_11) ∧ True from ⟨by omega, trivial⟩)
         have l47_7 := PxS.lt (later e_w35 s7)
         have l47_gA := OwnRA.lt (later e_w35 gA)
         have l47_gB := OwnRA.lt (later e_w45 gB)
         refine wl_storeSn hr size27 s11 (later e_w45 s63) (by exact lnk_len (linkRead_ok _)) (by exact lnk_one (rw_one (OwnRA.rw (later e_w45 gB)))) rfl ?_; clear hr; intro a47 w47 hc hu hr hs
         have hb : Below w.heap.size w46 w47 := hc.below e_w.size l47.1
         revert s11; revert s64; revert s7; refine kp3 hs rfl ?_; intro s7 s64 s11
         clear s63
         replace s7 := PxS.other (later e_w35 s7) hc (by omega)
         replace s11 := hu _ _ _ s11
         try simp only [List.set_cons_zero, List.set_cons_succ] at s11
         replace gA := OwnRA.other (later e_w35 gA) hc (by omega)
         replace gB := OwnRA.other (later e_w45 gB) hc (by omega)
         replace e_w := e_w.below (Nat.le_refl _) hb
         clear e_w35
         clear e_w45
         replace s64 := anyw (w2 := w47) s64
         clear hu hs hc hb
         refine wl_op hr (ok_assign s64) inferInstance ?_; clear hr; intro a48 w48 x hr hd hs
         revert s11; revert s7; refine kp2 hs rfl ?_; intro s7 s11
         clear s64
         replace e_w := e_w.trans x
         have e_w47 := x
         clear hd hs x
         refine wpList_nil ?_
         refine exit_then ?_
         refine wp_seq ?_
         refine wp_reg 68 [[(7, none)], [(11, none)], [(65, some 0), (66, some 1)], [(67, some 2)]] [?b49_0, ?b49_1, ?b49_2, ?b49_2] mixed (by kernel_rfl) (by kernel_rfl) hr ?t49 ?o49 ?_
         case o49 =>
          refine oc0 (fun A W hx hf => ?_) ?_
          exact ok_loadSeg Try.underlying27 rfl size27 (o2 s7 e_w47 hx (r0 hf)) rfl rfl
          refine oc0 (fun A W hx hf => ?_) ?_
          exact ok_loadSeg Try.underlying27 rfl size27 (o2 s11 e_w47 hx (r0 hf)) rfl rfl
          refine oc0 (fun A W hx hf => ?_) ?_
          exact ok_call2 body12 (c_r7Same (LinkV.of (show Is (LnkA (linkRead l).1 sv31) _ _ from (q0 ?b49_0 A W 65 hf)) (OwnRA.rw (later (e_w47.trans hx) gA))) (LinkV.of (show Is (LnkA (linkRead l).1 sv63) _ _ from (q1 ?b49_1 A W 66 hf)) (OwnRA.rw (later (e_w47.trans hx) gB))) (by exact linkRead_ok _))
          refine oc0 (fun A W hx hf => ?_) ?_
          exact ok_assign (q0 ?b49_2 A W 67 hf)
          exact OpsOk.nil
         case t49 => exact inferInstance
         clear hr; intro a50 w50 x hr hd hs
         clear s7 s11
         have s4 := fa ?b49_2 a50 w50 4 (hd 3 4 rfl)
         replace e_w := e_w.trans x
         replace e_w47 := e_w47.trans x
         clear hd hs x
         refine exit_then ?_
         refine wp_ret ?_
         refine ret_tmp Try.results8 hr e_w ?_
         first | with_reducible exact s4 | exact Is.bool s4 (by simp)

end Go.Proofs.Ytdbjpfjnambenaa
