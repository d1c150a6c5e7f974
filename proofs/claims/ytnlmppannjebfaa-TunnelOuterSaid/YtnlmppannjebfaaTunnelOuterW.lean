import Derived.Test.YtnlmppannjebfaaA13
import Derived.Test.YtnlmppannjebfaaC13e
import Derived.Test.YtnlmppannjebfaaC07
import Derived.Test.YtnlmppannjebfaaC06
import Derived.Test.YtnlmppannjebfaaE13
namespace Go.Proofs.Ytnlmppannjebfaa
open Go.RowKit
set_option linter.unusedVariables false
set_option maxRecDepth 4000
def D_law_TunnelOuter_0 : List Tmp := [23]
set_option maxHeartbeats 1000000 in
theorem law_TunnelOuter {x0 x1 x2 : Value} {w : World} {l : List UInt8} {Sa Da : Adr} (h0 : (Bs l) x0 w) (h1 : (Is (AdrV Sa)) x1 w) (h2 : (Is (AdrV Da)) x2 w) (hA : Sa.b.length = 16) (hD : Da.b.length = 16) :
    Calls Try.prog 6 #[x0, x1, x2] w (Ret (Is (.bool true)) w) := by
 have hlen := Bs.len_le h0
 refine enter Try.func6 rfl Try.ntmps6 (k := 3) rfl (by decide) (fun a0 hr hargs => ?_)
 have s0 := sarg h0 (hargs 0 (by decide))
 have s1 := sarg h1 (hargs 1 (by decide))
 have s2 := sarg h2 (hargs 2 (by decide))
 clear hargs
 refine wp_seq ?_
 refine wp_reg 167 [[(1, none)], [(2, none)], []] [?b1_0, ?b1_1, ?b1_2] mixed hr ?t1 ?o1 ?_
 case o1 =>
  refine oc0 (fun A W hx hf => ?_) ?_
  exact ok_boxS [[.bool Sa.six], Sa.b.map byteV] [1, 16] (Is.conv (o1 s1 hx (r0 hf)) (adr_seg Sa).symm) (by simp [*]) hx.size
  refine oc0 (fun A W hx hf => ?_) ?_
  exact ok_boxS [[.bool Da.six], Da.b.map byteV] [1, 16] (Is.conv (o1 s2 hx (r0 hf)) (adr_seg Da).symm) (by simp [*]) hx.size
  refine oc0 (fun A W hx hf => ?_) ?_
  exact ok_assignc
  exact OpsOk.nil
 case t1 => exact inferInstance
 clear hr; intro a2 w2 x hr hd hs
 revert s0; refine kp1 hs rfl ?_; intro s0
 clear s1 s2
 have s4 := fa ?b1_0 a2 w2 4 (hd 0 4 rfl)
 have s5 := fa ?b1_1 a2 w2 5 (hd 1 5 rfl)
 obtain ⟨g2_4, q2_4⟩ := PxN.at s4; clear s4; have n2_4 := PxS.lt q2_4
 have s4 := q2_4; clear q2_4
 obtain ⟨g2_5, q2_5⟩ := PxN.at s5; clear s5; have n2_5 := PxS.lt q2_5
 have s5 := q2_5; clear q2_5
 have e_w := x
 clear hd hs x
 refine exit_then ?_
 refine wp_seq ?_
 refine wp_seq ?_
 refine wp_reg 167 [[], [(25, some 0)], [(26, some 1)], [(0, none), (27, some 2)], [(28, some 3), (27, some 2)], [(29, some 4), (27, some 2)], [(27, some 2), (30, some 5)]] [?b3_0, ?b3_1, ?b3_1, ?b3_3, ?b3_4, ?b3_5, ?b3_6] mixed hr ?t3 ?o3 ?_
 case o3 =>
  refine oc0 (fun A W hx hf => ?_) ?_
  exact ok_call0 body9 (c_awake13 )
  refine oc0 (fun A W hx hf => ?_) ?_
  exact ok_not (q0 ?b3_0 A W 25 hf)
  refine oc0 (fun A W hx hf => ?_) ?_
  exact ok_move (q0 ?b3_1 A W 26 hf)
  refine ocg 27 ?_ (fun A W hx hf => ?_) ?_
  rfl
  exact gd_f (q1 ?b3_1 A W 27 hf) (fun hc => ok_movE (a0 := a2) (r0 hf))
  refine ocg 27 ?_ (fun A W hx hf => ?_) ?_
  rfl
  exact gd_f (q1 ?b3_1 A W 27 hf) (fun hc => ok_len_bs Try.underlying22 (p2 s0 e_w hx (G.get (q0 ?b3_3 A W 28 hf) hc)))
  refine ocg 27 ?_ (fun A W hx hf => ?_) ?_
  rfl
  exact gd_f (q1 ?b3_1 A W 27 hf) (fun hc => ok_gtr (G.get (q0 ?b3_4 A W 29 hf) hc) (ec A (.int .i64 3000)))
  refine oc0 (fun A W hx hf => ?_) ?_
  exact ok_or (q0 ?b3_1 A W 27 hf) (q1 ?b3_5 A W 30 hf)
  exact OpsOk.nil
 case t3 => exact inferInstance
 clear hr; intro a4 w4 x hr hd hs
 revert s5; revert s4; revert s0; refine kp3 hs rfl ?_; intro s0 s4 s5
 have s31 := fa ?b3_6 a4 w4 31 (hd 6 31 rfl)
 replace e_w := e_w.trans x
 have e_w2 := x
 clear hd hs x
 refine exit_then ?_
 refine wp_cond_split (show _ = _ from s31) (fun hl => ?_) (fun hl => ?_)
 ·
  skip
  refine wp_seq ?_
  refine wp_reg 167 [[], [(32, some 0)]] [?b6_0, ?b6_0] mixed hr ?t6 ?o6 ?_
  case o6 =>
   refine oc0 (fun A W hx hf => ?_) ?_
   exact ok_call0 body9 (c_awake13 )
   refine oc0 (fun A W hx hf => ?_) ?_
   exact ok_assign (q0 ?b6_0 A W 32 hf)
   exact OpsOk.nil
  case t6 => exact inferInstance
  clear hr; intro a7 w7 x hr hd hs
  clear s0 s4 s5 s31
  have s6 := fa ?b6_0 a7 w7 6 (hd 1 6 rfl)
  replace e_w := e_w.trans x
  clear e_w2
  clear hd hs x
  refine exit_then ?_
  refine wp_ret ?_
  refine then_ret ?_
  refine ret_tmp Try.results6 hr e_w ?_
  first | with_reducible exact s6 | exact Is.bool s6 (by rw [hxe]; rfl) | exact Is.bool s6 (by rw [outer_a, outer_b]; simp)
 ·
  have hl : l.length ≤ 3000 := by simp at hl; omega
  refine wp_skip ?_
  refine exit_then ?_
  refine wp_seq ?_
  refine wp_reg 167 [[(0, none)], [(4, none)], [(5, none)], [(34, some 0), (35, some 1), (36, some 2)], [(37, some 3)], [(33, some 4)], [(33, some 4)], [(38, some 5)], [(39, some 6)]] [?b8_0, ?b8_1, ?b8_2, ?b8_3, ?b8_3, ?b8_5, ?b8_6, ?b8_5, ?b8_6] mixed hr ?t8 ?o8 ?_
  case o8 =>
   refine oc0 (fun A W hx hf => ?_) ?_
   exact ok_movE (a0 := a4) (r0 hf)
   refine oc0 (fun A W hx hf => ?_) ?_
   exact ok_loadAggS 2 Try.underlying25 rfl size25 (o2 s4 e_w2 hx (r0 hf)) rfl
   refine oc0 (fun A W hx hf => ?_) ?_
   exact ok_loadAggS 2 Try.underlying25 rfl size25 (o2 s5 e_w2 hx (r0 hf)) rfl
   refine oc0 (fun A W hx hf => ?_) ?_
   exact ok_call3 body10 (c_tWrap (p2 s0 e_w hx (q0 ?b8_0 A W 34 hf)) (Is.conv (q1 ?b8_1 A W 35 hf) (adr_seg Sa)) (Is.conv (q2 ?b8_2 A W 36 hf) (adr_seg Da)) (by exact hA) (by exact hD) (by omega) hx.size)
   refine oc0 (fun A W hx hf => ?_) ?_
   exact ok_move (q0 ?b8_3 A W 37 hf)
   refine oc0 (fun A W hx hf => ?_) ?_
   exact ok_ext0 (q0 ?b8_3 A W 33 hf)
   refine oc0 (fun A W hx hf => ?_) ?_
   exact ok_ext1 (q0 ?b8_3 A W 33 hf)
   refine oc0 (fun A W hx hf => ?_) ?_
   exact ok_assign (q0 ?b8_5 A W 38 hf)
   refine oc0 (fun A W hx hf => ?_) ?_
   exact ok_assign (q0 ?b8_6 A W 39 hf)
   exact OpsOk.nil
  case t8 => exact inferInstance
  clear hr; intro a9 w9 x hr hd hs
  have z_w_w4 := e_w.size
  have z_w2_w4 := e_w2.size
  have l9_4 := PxS.lt (later e_w2 s4)
  have l9_5 := PxS.lt (later e_w2 s5)
  revert s4; revert s0; refine kp2 hs rfl ?_; intro s0 s4
  clear s5 s31
  have s7 := fa ?b8_5 a9 w9 7 (hd 7 7 rfl)
  have s8 := fa ?b8_6 a9 w9 8 (hd 8 8 rfl)
  obtain ⟨g9_7, q9_7⟩ := OwnB.at s7; clear s7; have n9_7 := OwnBA.lt q9_7
  replace q9_7 := OwnBA.mono q9_7 e_w.size
  have s7 := q9_7; clear q9_7
  replace e_w := e_w.trans x
  replace e_w2 := e_w2.trans x
  clear hd hs x
  refine exit_then ?_
  refine wp_seq ?_
  refine wp_seq ?_
  refine wp_reg 167 [[(8, none)], [(40, some 0)]] [?b10_0, ?b10_1] mixed hr ?t10 ?o10 ?_
  case o10 =>
   refine oc0 (fun A W hx hf => ?_) ?_
   exact ok_movE (a0 := a9) (r0 hf)
   refine oc0 (fun A W hx hf => ?_) ?_
   exact ok_neq (p1 s8 hx (q0 ?b10_0 A W 40 hf)) (ec A (.int .i64 0))
   exact OpsOk.nil
  case t10 => exact inferInstance
  clear hr; intro a11 w11 x hr hd hs
  revert s7; revert s4; revert s0; refine kp3 hs rfl ?_; intro s0 s4 s7
  clear s8
  have s41 := fa ?b10_1 a11 w11 41 (hd 1 41 rfl)
  replace e_w := e_w.trans x
  replace e_w2 := e_w2.trans x
  have e_w9 := x
  clear hd hs x
  refine exit_then ?_
  refine wp_cond_split (show _ = _ from s41) (fun he => ?_) (fun he => ?_)
  ·
   have he : (wrapR l Sa Da).2 ≠ 0 := by simpa using he
   have hxe := wrap_no he
   refine wp_seq ?_
   refine wp_reg 167 [[(7, none)], [(42, some 0)], [(43, some 1)], [(44, some 2)]] [?b13_0, ?b13_1, ?b13_2, ?b13_2] mixed hr ?t13 ?o13 ?_
   case o13 =>
    refine oc0 (fun A W hx hf => ?_) ?_
    exact ok_movE (a0 := a11) (r0 hf)
    refine oc0 (fun A W hx hf => ?_) ?_
    exact ok_len_bs Try.underlying22 (OwnBA.bs (p2 s7 e_w9 hx (q0 ?b13_0 A W 42 hf)))
    refine oc0 (fun A W hx hf => ?_) ?_
    exact ok_eql (q0 ?b13_1 A W 43 hf) (ec A (.int .i64 0))
    refine oc0 (fun A W hx hf => ?_) ?_
    exact ok_assign (q0 ?b13_2 A W 44 hf)
    exact OpsOk.nil
   case t13 => exact inferInstance
   clear hr; intro a14 w14 x hr hd hs
   clear s0 s4 s7 s41
   have s6 := fa ?b13_2 a14 w14 6 (hd 3 6 rfl)
   replace e_w := e_w.trans x
   clear e_w2
   clear e_w9
   clear hd hs x
   refine exit_then ?_
   refine wp_ret ?_
   refine then_ret ?_
   refine ret_tmp Try.results6 hr e_w ?_
   first | with_reducible exact s6 | exact Is.bool s6 (by rw [hxe]; rfl) | exact Is.bool s6 (by rw [outer_a, outer_b]; simp)
  ·
   have he : (wrapR l Sa Da).2 = 0 := by simpa using he
   have hc9 := wrap_cut hA hD he []
   rw [List.append_nil] at hc9
   obtain ⟨e1, e2, e3, e4, e5, e6⟩ := hc9
   have hnx := ip_net (m := []) hA hD he
   rw [← e5] at hnx
   have htl := wrap_tail hA hD he
   have hcx : cutL (wrapR l Sa Da).1 = { typedL (cutL l) Sa.six with at' := (cutA l : Int) } := by unfold cutL; rw [e1]; rfl
   have hhw : headW Sa ≤ 40 := by unfold headW; split <;> omega
   have hok := (wrap_ok he).1
   have h09 := cutN_ok hok
   obtain ⟨y1, y2, y3, y4⟩ := cut_bd l h09
   have y5 : (cutL l).at' = (cutA l : Int) := y1.symm
   have y6 := cut_tot h09
   have hcn := cutN_net hok
   have hwl := wrap_len (l := l) hA hD
   have hcl9 : (linkRead l).2 = 0 := h09
   have hce : { cutL l with at' := (cutA l : Int) } = cutL l := by rw [← y5]
   have e7 : ((wrapR l Sa Da).1.length : Int) = (cutA l : Int) + ((headW Sa : Int) + (cutN l).total) := by omega
   refine wp_skip ?_
   refine exit_then ?_
   refine wp_seq ?_
   refine wp_reg_pre (l := [_, _, _, _, _]) (rest := [_, _, _]) 167 [[(0, none)], [(46, some 0)], [(47, some 1)], [(45, some 2)], [(45, some 2)]] [?b15_0, ?b15_1, ?b15_1, ?b15_3, ?b15_4] hr ?t15 ?o15 ?_
   case o15 =>
    refine oc0 (fun A W hx hf => ?_) ?_
    exact ok_movE (a0 := a11) (r0 hf)
    refine oc0 (fun A W hx hf => ?_) ?_
    exact ok_call1 body15 (c_r7Read (p2 s0 e_w hx (q0 ?b15_0 A W 46 hf)) (by omega) hx.size)
    refine oc0 (fun A W hx hf => ?_) ?_
    exact ok_move (q0 ?b15_1 A W 47 hf)
    refine oc0 (fun A W hx hf => ?_) ?_
    exact ok_ext0 (q0 ?b15_1 A W 45 hf)
    refine oc0 (fun A W hx hf => ?_) ?_
    exact ok_ext1 (q0 ?b15_1 A W 45 hf)
    exact OpsOk.nil
   case t15 => exact inferInstance
   clear hr; intro a16 w16 x hr hd hs
   have l16_4 := PxS.lt (later e_w2 s4)
   have l16_7 := OwnBA.lt (later e_w9 s7)
   revert s7; revert s4; revert s0; refine kp3 hs rfl ?_; intro s0 s4 s7
   clear s41
   have s48 := fa ?b15_3 a16 w16 48 (hd 3 48 rfl)
   have s49 := fa ?b15_4 a16 w16 49 (hd 4 49 rfl)
   obtain ⟨sv48, s48, gL⟩ := LinkO.open s48; obtain ⟨g16_48, gL⟩ := OwnR.at gL; have n16_48 := OwnRA.lt gL
   replace gL := OwnRA.mono gL e_w.size
   replace e_w := e_w.trans x
   replace e_w2 := e_w2.trans x
   replace e_w9 := e_w9.trans x
   clear hd hs x
   have l17_4 := PxS.lt (later e_w2 s4)
   have l17_7 := OwnBA.lt (later e_w9 s7)
   have l17_gL := OwnRA.lt gL
   refine wl_op hr (ok_allocS (lnkS link0 (.slice none 0 0)) [6, 6, 1, 1, 1] zerov41 (by rfl) (by rfl) (Nat.le_refl _)) inferInstance ?_; clear hr; intro a17 w17 x hr hd hs
   revert s48; revert s49; revert s7; revert s4; revert s0; refine kp5 hs rfl ?_; intro s0 s4 s7 s49 s48
   have s9 := hd 9 rfl (by decide)
   obtain ⟨g17_9, q17_9⟩ := PxN.at s9; clear s9; have n17_9 := PxS.lt q17_9
   replace q17_9 := PxS.mono q17_9 e_w.size
   have s9 := q17_9; clear q17_9
   replace e_w := e_w.trans x
   replace e_w2 := e_w2.trans x
   replace e_w9 := e_w9.trans x
   have e_w16 := x
   clear hd hs x
   have z18 := PxS.lt s9
   have l18 := (show (g17_9 = 0 ∨ w.heap.size < g17_9) ∧ True from ⟨by omega, trivial⟩)
   have l18_4 := PxS.lt (later e_w2 s4)
   have l18_7 := OwnBA.lt (later e_w9 s7)
   have l18_gL := OwnRA.lt (later e_w16 gL)
   refine wl_storeSm (lnkS (cutL l) sv48) hr size41 s9 (later e_w16 s48) (by exact lnkS_lens (cutL_ok _)) (by exact lnk_one (rw_one (OwnRA.rw (later e_w16 gL)))) rfl ?_; clear hr; intro a18 w18 hc hu hr hs
   have hb : Below w.heap.size w17 w18 := hc.below e_w.size l18.1
   revert s9; revert s49; revert s7; revert s4; revert s0; refine kp5 hs rfl ?_; intro s0 s4 s7 s49 s9
   clear s48
   replace s4 := PxS.other (later e_w2 s4) hc (by omega)
   replace s7 := OwnBA.other (later e_w9 s7) hc (by omega)
   replace s9 := hu _ _ _ s9
   try simp only [List.set_cons_zero, List.set_cons_succ, lnkS] at s9
   replace gL := OwnRA.other (later e_w16 gL) hc (by omega)
   replace e_w := e_w.below (Nat.le_refl _) hb
   clear e_w2
   clear e_w9
   clear e_w16
   replace s49 := anyw (w2 := w18) s49
   clear hu hs hc hb
   refine wl_op hr (ok_assign s49) inferInstance ?_; clear hr; intro a19 w19 x hr hd hs
   revert s9; revert s7; revert s4; revert s0; refine kp4 hs rfl ?_; intro s0 s4 s7 s9
   clear s49
   have s10 := hd 10 rfl (by decide)
   replace e_w := e_w.trans x
   have e_w18 := x
   clear hd hs x
   refine wpList_nil ?_
   replace s10 := Is.int s10 hcl9
   refine exit_then ?_
   refine wp_seq ?_
   refine wp_reg_pre (l := [_, _, _, _, _]) (rest := [_, _, _]) 167 [[(7, none)], [(51, some 0)], [(52, some 1)], [(50, some 2)], [(50, some 2)]] [?b20_0, ?b20_1, ?b20_1, ?b20_3, ?b20_4] hr ?t20 ?o20 ?_
   case o20 =>
    refine oc0 (fun A W hx hf => ?_) ?_
    exact ok_movE (a0 := a19) (r0 hf)
    refine oc0 (fun A W hx hf => ?_) ?_
    exact ok_call1 body15 (c_r7Read (OwnBA.bs (p2 s7 e_w18 hx (q0 ?b20_0 A W 51 hf))) (by omega) hx.size)
    refine oc0 (fun A W hx hf => ?_) ?_
    exact ok_move (q0 ?b20_1 A W 52 hf)
    refine oc0 (fun A W hx hf => ?_) ?_
    exact ok_ext0 (q0 ?b20_1 A W 50 hf)
    refine oc0 (fun A W hx hf => ?_) ?_
    exact ok_ext1 (q0 ?b20_1 A W 50 hf)
    exact OpsOk.nil
   case t20 => exact inferInstance
   clear hr; intro a21 w21 x hr hd hs
   have l21_4 := PxS.lt (later e_w18 s4)
   have l21_7 := OwnBA.lt (later e_w18 s7)
   have l21_9 := PxS.lt (later e_w18 s9)
   have l21_gL := OwnRA.lt (later e_w18 gL)
   revert s10; revert s9; revert s7; revert s4; revert s0; refine kp5 hs rfl ?_; intro s0 s4 s7 s9 s10
   have s53 := fa ?b20_3 a21 w21 53 (hd 3 53 rfl)
   have s54 := fa ?b20_4 a21 w21 54 (hd 4 54 rfl)
   obtain ⟨sv53, s53, gM⟩ := LinkO.open s53; obtain ⟨g21_53, gM⟩ := OwnR.at gM; have n21_53 := OwnRA.lt gM
   replace gM := OwnRA.mono gM e_w.size
   replace e_w := e_w.trans x
   replace e_w18 := e_w18.trans x
   have e_w19 := x
   clear hd hs x
   have l22_4 := PxS.lt (later e_w18 s4)
   have l22_7 := OwnBA.lt (later e_w18 s7)
   have l22_9 := PxS.lt (later e_w18 s9)
   have l22_gL := OwnRA.lt (later e_w18 gL)
   have l22_gM := OwnRA.lt gM
   refine wl_op hr (ok_allocS (lnkS link0 (.slice none 0 0)) [6, 6, 1, 1, 1] zerov41 (by rfl) (by rfl) (Nat.le_refl _)) inferInstance ?_; clear hr; intro a22 w22 x hr hd hs
   revert s54; revert s10; revert s9; revert s7; revert s4; revert s0; refine kp6 hs rfl ?_; intro s0 s4 s7 s9 s10 s54
   revert s53; refine kp1 hs rfl ?_; intro s53
   have s11 := hd 11 rfl (by decide)
   obtain ⟨g22_11, q22_11⟩ := PxN.at s11; clear s11; have n22_11 := PxS.lt q22_11
   replace q22_11 := PxS.mono q22_11 e_w.size
   have s11 := q22_11; clear q22_11
   replace e_w := e_w.trans x
   replace e_w18 := e_w18.trans x
   replace e_w19 := e_w19.trans x
   have e_w21 := x
   clear hd hs x
   have z23 := PxS.lt s11
   have l23 := (show (g22_11 = 0 ∨ w.heap.size < g22_11) ∧ True from ⟨by omega, trivial⟩)
   have l23_4 := PxS.lt (later e_w18 s4)
   have l23_7 := OwnBA.lt (later e_w18 s7)
   have l23_9 := PxS.lt (later e_w18 s9)
   have l23_gL := OwnRA.lt (later e_w18 gL)
   have l23_gM := OwnRA.lt (later e_w21 gM)
   refine wl_storeSm (lnkS (cutL (wrapR l Sa Da).1) sv53) hr size41 s11 (later e_w21 s53) (by exact lnkS_lens (cutL_ok _)) (by exact lnk_one (rw_one (OwnRA.rw (later e_w21 gM)))) rfl ?_; clear hr; intro a23 w23 hc hu hr hs
   have hb : Below w.heap.size w22 w23 := hc.below e_w.size l23.1
   revert s54; revert s10; revert s9; revert s7; revert s4; revert s0; refine kp6 hs rfl ?_; intro s0 s4 s7 s9 s10 s54
   revert s11; refine kp1 hs rfl ?_; intro s11
   clear s53
   replace s4 := PxS.other (later e_w18 s4) hc (by omega)
   replace s7 := OwnBA.other (later e_w18 s7) hc (by omega)
   replace s9 := PxS.other (later e_w18 s9) hc (by omega)
   replace s11 := hu _ _ _ s11
   try simp only [List.set_cons_zero, List.set_cons_succ, lnkS] at s11
   replace gL := OwnRA.other (later e_w18 gL) hc (by omega)
   replace gM := OwnRA.other (later e_w21 gM) hc (by omega)
   replace e_w := e_w.below (Nat.le_refl _) hb
   clear e_w18
   clear e_w19
   clear e_w21
   replace s10 := anyw (w2 := w23) s10
   replace s54 := anyw (w2 := w23) s54
   clear hu hs hc hb
   refine wl_op hr (ok_assign s54) inferInstance ?_; clear hr; intro a24 w24 x hr hd hs
   revert s10; revert s11; revert s9; revert s7; revert s4; revert s0; refine kp6 hs rfl ?_; intro s0 s4 s7 s9 s11 s10
   clear s54
   have s12 := hd 12 rfl (by decide)
   replace e_w := e_w.trans x
   have e_w23 := x
   clear hd hs x
   refine wpList_nil ?_
   replace s12 := Is.int s12 (show _ = (0 : Int) from by rw [e1])
   replace gM := OwnRA.cast gM (show (cutL (wrapR l Sa Da).1).tags = (cutL l).tags from by rw [hcx]; first | done | rfl)
   replace s11 := PxS.cast s11 (show _ = lnkS { typedL (cutL l) Sa.six with at' := (cutA l : Int) } sv53 from congrArg (fun L => lnkS L sv53) hcx)
   refine exit_then ?_
   refine wp_seq ?_
   refine wp_seq ?_
   refine wp_reg 167 [[(10, none)], [(55, some 0)], [(56, some 1)], [(12, none), (57, some 2)], [(58, some 3), (57, some 2)], [(57, some 2), (59, some 4)], [(60, some 5)], [(11, none), (61, some 6)], [(62, some 7), (61, some 6)], [(9, none), (61, some 6)], [(64, some 9), (61, some 6)], [(63, some 8), (65, some 10), (61, some 6)], [(61, some 6), (66, some 11)]] [?b25_0, ?b25_1, ?b25_1, ?b25_3, ?b25_4, ?b25_5, ?b25_5, ?b25_7, ?b25_8, ?b25_9, ?b25_10, ?b25_11, ?b25_12] mixed hr ?t25 ?o25 ?_
   case o25 =>
    refine oc0 (fun A W hx hf => ?_) ?_
    exact ok_movE (a0 := a24) (r0 hf)
    refine oc0 (fun A W hx hf => ?_) ?_
    exact ok_neq (p2 s10 e_w23 hx (q0 ?b25_0 A W 55 hf)) (ec A (.int .i64 0))
    refine oc0 (fun A W hx hf => ?_) ?_
    exact ok_move (q0 ?b25_1 A W 56 hf)
    refine ocg 57 ?_ (fun A W hx hf => ?_) ?_
    rfl
    exact gd_f (q1 ?b25_1 A W 57 hf) (fun hc => ok_movE (a0 := a24) (r0 hf))
    refine ocg 57 ?_ (fun A W hx hf => ?_) ?_
    rfl
    exact gd_f (q1 ?b25_1 A W 57 hf) (fun hc => ok_neq (p1 s12 hx (G.get (q0 ?b25_3 A W 58 hf) hc)) (ec A (.int .i64 0)))
    refine oc0 (fun A W hx hf => ?_) ?_
    exact ok_or (q0 ?b25_1 A W 57 hf) (q1 ?b25_4 A W 59 hf)
    refine oc0 (fun A W hx hf => ?_) ?_
    exact ok_move (q0 ?b25_5 A W 60 hf)
    refine ocg 61 ?_ (fun A W hx hf => ?_) ?_
    rfl
    exact gd_f (q1 ?b25_5 A W 61 hf) (fun hc => ok_fieldS 4 Try.underlying41 (k := 4) rfl size3 rfl (o2 s11 e_w23 hx (r0 hf)) rfl)
    refine ocg 61 ?_ (fun A W hx hf => ?_) ?_
    rfl
    exact gd_f (q1 ?b25_5 A W 61 hf) (fun hc => ok_loadS Try.underlying3 rfl (G.get (q0 ?b25_7 A W 62 hf) hc) rfl)
    refine ocg 61 ?_ (fun A W hx hf => ?_) ?_
    rfl
    exact gd_f (q1 ?b25_5 A W 61 hf) (fun hc => ok_fieldS 4 Try.underlying41 (k := 4) rfl size3 rfl (o2 s9 e_w23 hx (r0 hf)) rfl)
    refine ocg 61 ?_ (fun A W hx hf => ?_) ?_
    rfl
    exact gd_f (q1 ?b25_5 A W 61 hf) (fun hc => ok_loadS Try.underlying3 rfl (G.get (q0 ?b25_9 A W 64 hf) hc) rfl)
    refine ocg 61 ?_ (fun A W hx hf => ?_) ?_
    rfl
    exact gd_f (q2 ?b25_5 A W 61 hf) (fun hc => ok_neq (G.get (q0 ?b25_8 A W 63 hf) hc) (G.get (q1 ?b25_10 A W 65 hf) hc))
    refine oc0 (fun A W hx hf => ?_) ?_
    exact ok_or (q0 ?b25_5 A W 61 hf) (q1 ?b25_11 A W 66 hf)
    exact OpsOk.nil
   case t25 => exact inferInstance
   clear hr; intro a26 w26 x hr hd hs
   revert s11; revert s9; revert s7; revert s4; revert s0; refine kp5 hs rfl ?_; intro s0 s4 s7 s9 s11
   clear s10 s12
   have s67 := fa ?b25_12 a26 w26 67 (hd 12 67 rfl)
   replace e_w := e_w.trans x
   replace e_w23 := e_w23.trans x
   clear hd hs x
   refine exit_then ?_
   refine wp_cond_split (show _ = _ from s67) (fun hd9 => ?_) (fun hd9 => ?_)
   ·
    exfalso; simp [y5] at hd9
   ·
    try simp only [decide_eq_true_eq, decide_eq_false_iff_not, Bool.not_eq_true', Bool.not_eq_false', Bool.not_true, Bool.not_false, Bool.and_eq_true, Bool.and_eq_false_iff, Bool.or_eq_true, Bool.or_eq_false_iff, bne_iff_ne, beq_iff_eq, ne_eq, beq_eq_false_iff_ne, bne_eq_false_iff_eq] at hd9
    refine wp_skip ?_
    refine exit_then ?_
    refine wp_seq ?_
    refine wp_reg 167 [[(9, none)], [(69, some 0)], [(0, none)], [(9, none)], [(72, some 3)], [(71, some 2), (73, some 4)], [(70, some 1), (74, some 5)], [(75, some 6)], [(68, some 7)], [(68, some 7)], [(68, some 7)], [(68, some 7)], [(68, some 7)], [(76, some 8)], [(77, some 9)], [(78, some 10)], [(79, some 11)], [(80, some 12)]] [?b28_0, ?b28_1, ?b28_2, ?b28_3, ?b28_4, ?b28_5, ?b28_6, ?b28_6, ?b28_8, ?b28_9, ?b28_10, ?b28_11, ?b28_12, ?b28_8, ?b28_9, ?b28_10, ?b28_11, ?b28_12] mixed hr ?t28 ?o28 ?_
    case o28 =>
     refine oc0 (fun A W hx hf => ?_) ?_
     exact ok_fieldS 3 Try.underlying41 (k := 3) rfl size3 rfl (o2 s9 e_w23 hx (r0 hf)) rfl
     refine oc0 (fun A W hx hf => ?_) ?_
     exact ok_loadS Try.underlying3 rfl (q0 ?b28_0 A W 69 hf) rfl
     refine oc0 (fun A W hx hf => ?_) ?_
     exact ok_movE (a0 := a26) (r0 hf)
     refine oc0 (fun A W hx hf => ?_) ?_
     exact ok_fieldS 4 Try.underlying41 (k := 4) rfl size3 rfl (o2 s9 e_w23 hx (r0 hf)) rfl
     refine oc0 (fun A W hx hf => ?_) ?_
     exact ok_loadS Try.underlying3 rfl (q0 ?b28_3 A W 72 hf) rfl
     refine oc0 (fun A W hx hf => ?_) ?_
     exact okW_slice_lo (cutA l) Try.underlying22 size5 (sarg s0 (show _ = _ from (q0 ?b28_2 A W 71 hf))) (Is.int (q1 ?b28_4 A W 73 hf) (by exact y5)) (by omega)
     refine oc0 (fun A W hx hf => ?_) ?_
     exact ok_call2 body16 (c_r13Net (q0 ?b28_1 A W 70 hf) (AtW.now (q1 ?b28_5 A W 74 hf) (e_w.trans hx)) (by simp; omega))
     refine oc0 (fun A W hx hf => ?_) ?_
     exact ok_move (q0 ?b28_6 A W 75 hf)
     refine oc0 (fun A W hx hf => ?_) ?_
     exact ok_ext5_0 (q0 ?b28_6 A W 68 hf)
     refine oc0 (fun A W hx hf => ?_) ?_
     exact ok_ext5_1 (q0 ?b28_6 A W 68 hf)
     refine oc0 (fun A W hx hf => ?_) ?_
     exact ok_ext5_2 (q0 ?b28_6 A W 68 hf)
     refine oc0 (fun A W hx hf => ?_) ?_
     exact ok_ext5_3 (q0 ?b28_6 A W 68 hf)
     refine oc0 (fun A W hx hf => ?_) ?_
     exact ok_ext5_4 (q0 ?b28_6 A W 68 hf)
     refine oc0 (fun A W hx hf => ?_) ?_
     exact ok_assign (q0 ?b28_8 A W 76 hf)
     refine oc0 (fun A W hx hf => ?_) ?_
     exact ok_assign (q0 ?b28_9 A W 77 hf)
     refine oc0 (fun A W hx hf => ?_) ?_
     exact ok_assign (q0 ?b28_10 A W 78 hf)
     refine oc0 (fun A W hx hf => ?_) ?_
     exact ok_assign (q0 ?b28_11 A W 79 hf)
     refine oc0 (fun A W hx hf => ?_) ?_
     exact ok_assign (q0 ?b28_12 A W 80 hf)
     exact OpsOk.nil
    case t28 => exact inferInstance
    clear hr; intro a29 w29 x hr hd hs
    revert s11; revert s9; revert s7; revert s4; revert s0; refine kp5 hs rfl ?_; intro s0 s4 s7 s9 s11
    clear s67
    have s14 := fa ?b28_9 a29 w29 14 (hd 14 14 rfl)
    have s17 := fa ?b28_12 a29 w29 17 (hd 17 17 rfl)
    replace e_w := e_w.trans x
    replace e_w23 := e_w23.trans x
    clear hd hs x
    replace s14 := Is.conv s14 (show _ = Value.int .i64 (cutN l).total from by rw [hcn])
    replace s17 := Is.conv s17 (show _ = Value.bool (cutN l).ok from by rw [hcn])
    refine exit_then ?_
    refine wp_seq ?_
    refine wp_reg 167 [[(11, none)], [(82, some 0)], [(7, none)], [(11, none)], [(85, some 3)], [(84, some 2), (86, some 4)], [(83, some 1), (87, some 5)], [(88, some 6)], [(81, some 7)], [(81, some 7)], [(81, some 7)], [(81, some 7)], [(81, some 7)], [(89, some 8)], [(90, some 9)], [(91, some 10)], [(92, some 11)], [(93, some 12)]] [?b30_0, ?b30_1, ?b30_2, ?b30_3, ?b30_4, ?b30_5, ?b30_6, ?b30_6, ?b30_8, ?b30_9, ?b30_10, ?b30_11, ?b30_12, ?b30_8, ?b30_9, ?b30_10, ?b30_11, ?b30_12] mixed hr ?t30 ?o30 ?_
    case o30 =>
     refine oc0 (fun A W hx hf => ?_) ?_
     exact ok_fieldS 3 Try.underlying41 (k := 3) rfl size3 rfl (o2 s11 e_w23 hx (r0 hf)) rfl
     refine oc0 (fun A W hx hf => ?_) ?_
     exact ok_loadS Try.underlying3 rfl (q0 ?b30_0 A W 82 hf) rfl
     refine oc0 (fun A W hx hf => ?_) ?_
     exact ok_movE (a0 := a29) (r0 hf)
     refine oc0 (fun A W hx hf => ?_) ?_
     exact ok_fieldS 4 Try.underlying41 (k := 4) rfl size3 rfl (o2 s11 e_w23 hx (r0 hf)) rfl
     refine oc0 (fun A W hx hf => ?_) ?_
     exact ok_loadS Try.underlying3 rfl (q0 ?b30_3 A W 85 hf) rfl
     refine oc0 (fun A W hx hf => ?_) ?_
     exact ok_slice_lo (cutA l) Try.underlying22 size5 (OwnBA.bs (p2 s7 e_w23 hx (q0 ?b30_2 A W 84 hf))) (Is.int (q1 ?b30_4 A W 86 hf) (by rfl)) (by omega)
     refine oc0 (fun A W hx hf => ?_) ?_
     exact ok_call2 body16 (c_r13Net (q0 ?b30_1 A W 83 hf) (q1 ?b30_5 A W 87 hf) (by simp; omega))
     refine oc0 (fun A W hx hf => ?_) ?_
     exact ok_move (q0 ?b30_6 A W 88 hf)
     refine oc0 (fun A W hx hf => ?_) ?_
     exact ok_ext5_0 (q0 ?b30_6 A W 81 hf)
     refine oc0 (fun A W hx hf => ?_) ?_
     exact ok_ext5_1 (q0 ?b30_6 A W 81 hf)
     refine oc0 (fun A W hx hf => ?_) ?_
     exact ok_ext5_2 (q0 ?b30_6 A W 81 hf)
     refine oc0 (fun A W hx hf => ?_) ?_
     exact ok_ext5_3 (q0 ?b30_6 A W 81 hf)
     refine oc0 (fun A W hx hf => ?_) ?_
     exact ok_ext5_4 (q0 ?b30_6 A W 81 hf)
     refine oc0 (fun A W hx hf => ?_) ?_
     exact ok_assign (q0 ?b30_8 A W 89 hf)
     refine oc0 (fun A W hx hf => ?_) ?_
     exact ok_assign (q0 ?b30_9 A W 90 hf)
     refine oc0 (fun A W hx hf => ?_) ?_
     exact ok_assign (q0 ?b30_10 A W 91 hf)
     refine oc0 (fun A W hx hf => ?_) ?_
     exact ok_assign (q0 ?b30_11 A W 92 hf)
     refine oc0 (fun A W hx hf => ?_) ?_
     exact ok_assign (q0 ?b30_12 A W 93 hf)
     exact OpsOk.nil
    case t30 => exact inferInstance
    clear hr; intro a31 w31 x hr hd hs
    revert s14; revert s11; revert s9; revert s7; revert s4; revert s0; refine kp6 hs rfl ?_; intro s0 s4 s7 s9 s11 s14
    revert s17; refine kp1 hs rfl ?_; intro s17
    have s18 := fa ?b30_8 a31 w31 18 (hd 13 18 rfl)
    have s19 := fa ?b30_9 a31 w31 19 (hd 14 19 rfl)
    have s20 := fa ?b30_10 a31 w31 20 (hd 15 20 rfl)
    have s21 := fa ?b30_11 a31 w31 21 (hd 16 21 rfl)
    have s22 := fa ?b30_12 a31 w31 22 (hd 17 22 rfl)
    replace e_w := e_w.trans x
    replace e_w23 := e_w23.trans x
    have e_w29 := x
    clear hd hs x
    replace s18 := Is.conv s18 (show _ = Value.int .i64 (headW Sa : Int) from congrArg (fun N => Value.int .i64 N.head) hnx)
    replace s19 := Is.conv s19 (show _ = Value.int .i64 ((headW Sa : Int) + (cutN l).total) from congrArg (fun N => Value.int .i64 N.total) hnx)
    replace s20 := Is.conv s20 (show _ = Value.int .i64 (ipip l) from congrArg (fun N => Value.int .i64 N.proto) hnx)
    replace s21 := Is.conv s21 (show _ = Value.bool false from congrArg (fun N => Value.bool N.frag) hnx)
    replace s22 := Is.conv s22 (show _ = Value.bool true from congrArg (fun N => Value.bool N.ok) hnx)
    refine exit_then ?_
    refine wp_seq ?_
    refine wp_seq ?_
    refine wp_reg 167 ([(17, none)] :: [(94, some 0)] :: [(95, some 1)] :: [(22, none), (96, some 2)] :: [(97, some 3), (96, some 2)] :: [(96, some 2), (98, some 4)] :: [(99, some 5)] :: [(21, none), (100, some 6)] :: [(100, some 6), (101, some 7)] :: [(102, some 8)] :: [(19, none), (103, some 9)] :: [(18, none), (103, some 9)] :: [(14, none), (103, some 9)] :: [(105, some 11), (106, some 12), (103, some 9)] :: [(104, some 10), (107, some 13), (103, some 9)] :: [(103, some 9), (108, some 14)] :: [(109, some 15)] :: [(11, none), (110, some 16)] :: [(111, some 17), (110, some 16)] :: [(19, none), (110, some 16)] :: [(112, some 18), (113, some 19), (110, some 16)] :: [(7, none), (110, some 16)] :: [(115, some 21), (110, some 16)] :: [(114, some 20), (116, some 22), (110, some 16)] :: [(110, some 16), (117, some 23)] :: [(118, some 24)] :: [(7, none), (119, some 25)] :: [(7, none), (119, some 25)] :: [(121, some 27), (119, some 25)] :: [(14, none), (119, some 25)] :: [(122, some 28), (123, some 29), (119, some 25)] :: [(120, some 26), (124, some 30), (119, some 25)] :: [(0, none), (119, some 25)] :: [(9, none), (119, some 25)] :: [(127, some 33), (119, some 25)] :: [(9, none), (119, some 25)] :: [(129, some 35), (119, some 25)] :: [(14, none), (119, some 25)] :: [(130, some 36), (131, some 37), (119, some 25)] :: [(126, some 32), (128, some 34), (132, some 38), (119, some 25)] :: [(125, some 31), (133, some 39), (119, some 25)] :: [(134, some 40), (119, some 25)] :: [(119, some 25), (135, some 41)] :: []) (?b32_0 :: ?b32_1 :: ?b32_1 :: ?b32_3 :: ?b32_4 :: ?b32_5 :: ?b32_5 :: ?b32_7 :: ?b32_8 :: ?b32_8 :: ?b32_10 :: ?b32_11 :: ?b32_12 :: ?b32_13 :: ?b32_14 :: ?b32_15 :: ?b32_15 :: ?b32_17 :: ?b32_18 :: ?b32_19 :: ?b32_20 :: ?b32_21 :: ?b32_22 :: ?b32_23 :: ?b32_24 :: ?b32_24 :: ?b32_26 :: ?b32_27 :: ?b32_28 :: ?b32_29 :: ?b32_30 :: ?b32_31 :: ?b32_32 :: ?b32_33 :: ?b32_34 :: ?b32_35 :: ?b32_36 :: ?b32_37 :: ?b32_38 :: ?b32_39 :: ?b32_40 :: ?b32_41 :: ?b32_42 :: []) mixed hr ?t32 ?o32 ?_
    case o32 =>
     refine oc0 (fun A W hx hf => ?_) ?_
     exact ok_movE (a0 := a31) (r0 hf)
     refine oc0 (fun A W hx hf => ?_) ?_
     exact ok_not (p2 s17 e_w29 hx (q0 ?b32_0 A W 94 hf))
     refine oc0 (fun A W hx hf => ?_) ?_
     exact ok_move (q0 ?b32_1 A W 95 hf)
     refine ocg 96 ?_ (fun A W hx hf => ?_) ?_
     rfl
     exact gd_f (q1 ?b32_1 A W 96 hf) (fun hc => ok_movE (a0 := a31) (r0 hf))
     refine ocg 96 ?_ (fun A W hx hf => ?_) ?_
     rfl
     exact gd_f (q1 ?b32_1 A W 96 hf) (fun hc => ok_not (p1 s22 hx (G.get (q0 ?b32_3 A W 97 hf) hc)))
     refine oc0 (fun A W hx hf => ?_) ?_
     exact ok_or (q0 ?b32_1 A W 96 hf) (q1 ?b32_4 A W 98 hf)
     refine oc0 (fun A W hx hf => ?_) ?_
     exact ok_move (q0 ?b32_5 A W 99 hf)
     refine ocg 100 ?_ (fun A W hx hf => ?_) ?_
     rfl
     exact gd_f (q1 ?b32_5 A W 100 hf) (fun hc => ok_movE (a0 := a31) (r0 hf))
     refine oc0 (fun A W hx hf => ?_) ?_
     exact ok_or (q0 ?b32_5 A W 100 hf) (G.al (later hx s21) (q1 ?b32_7 A W 101 hf))
     refine oc0 (fun A W hx hf => ?_) ?_
     exact ok_move (q0 ?b32_8 A W 102 hf)
     refine ocg 103 ?_ (fun A W hx hf => ?_) ?_
     rfl
     exact gd_f (q1 ?b32_8 A W 103 hf) (fun hc => ok_movE (a0 := a31) (r0 hf))
     refine ocg 103 ?_ (fun A W hx hf => ?_) ?_
     rfl
     exact gd_f (q1 ?b32_8 A W 103 hf) (fun hc => ok_movE (a0 := a31) (r0 hf))
     refine ocg 103 ?_ (fun A W hx hf => ?_) ?_
     rfl
     exact gd_f (q1 ?b32_8 A W 103 hf) (fun hc => ok_movE (a0 := a31) (r0 hf))
     refine ocg 103 ?_ (fun A W hx hf => ?_) ?_
     rfl
     exact gd_f (q2 ?b32_8 A W 103 hf) (fun hc => ok_addI (p1 s18 hx (G.get (q0 ?b32_11 A W 105 hf) hc)) (p2 s14 e_w29 hx (G.get (q1 ?b32_12 A W 106 hf) hc)) (by omega))
     refine ocg 103 ?_ (fun A W hx hf => ?_) ?_
     rfl
     exact gd_f (q2 ?b32_8 A W 103 hf) (fun hc => ok_neq (p1 s19 hx (G.get (q0 ?b32_10 A W 104 hf) hc)) (G.get (q1 ?b32_13 A W 107 hf) hc))
     refine oc0 (fun A W hx hf => ?_) ?_
     exact ok_or (q0 ?b32_8 A W 103 hf) (q1 ?b32_14 A W 108 hf)
     refine oc0 (fun A W hx hf => ?_) ?_
     exact ok_move (q0 ?b32_15 A W 109 hf)
     refine ocg 110 ?_ (fun A W hx hf => ?_) ?_
     rfl
     exact gd_f (q1 ?b32_15 A W 110 hf) (fun hc => ok_fieldS 4 Try.underlying41 (k := 4) rfl size3 rfl (o2 s11 e_w23 hx (r0 hf)) rfl)
     refine ocg 110 ?_ (fun A W hx hf => ?_) ?_
     rfl
     exact gd_f (q1 ?b32_15 A W 110 hf) (fun hc => ok_loadS Try.underlying3 rfl (G.get (q0 ?b32_17 A W 111 hf) hc) rfl)
     refine ocg 110 ?_ (fun A W hx hf => ?_) ?_
     rfl
     exact gd_f (q1 ?b32_15 A W 110 hf) (fun hc => ok_movE (a0 := a31) (r0 hf))
     refine ocg 110 ?_ (fun A W hx hf => ?_) ?_
     rfl
     exact gd_f (q2 ?b32_15 A W 110 hf) (fun hc => ok_addI (G.get (q0 ?b32_18 A W 112 hf) hc) (p1 s19 hx (G.get (q1 ?b32_19 A W 113 hf) hc)) (by show (-9223372036854775808 : Int) ≤ (cutA l : Int) + ((headW Sa : Int) + (cutN l).total) ∧ (cutA l : Int) + ((headW Sa : Int) + (cutN l).total) ≤ 9223372036854775807; omega))
     refine ocg 110 ?_ (fun A W hx hf => ?_) ?_
     rfl
     exact gd_f (q1 ?b32_15 A W 110 hf) (fun hc => ok_movE (a0 := a31) (r0 hf))
     refine ocg 110 ?_ (fun A W hx hf => ?_) ?_
     rfl
     exact gd_f (q1 ?b32_15 A W 110 hf) (fun hc => ok_len_bs Try.underlying22 (OwnBA.bs (p2 s7 e_w23 hx (G.get (q0 ?b32_21 A W 115 hf) hc))))
     refine ocg 110 ?_ (fun A W hx hf => ?_) ?_
     rfl
     exact gd_f (q2 ?b32_15 A W 110 hf) (fun hc => ok_neq (G.get (q0 ?b32_20 A W 114 hf) hc) (G.get (q1 ?b32_22 A W 116 hf) hc))
     refine oc0 (fun A W hx hf => ?_) ?_
     exact ok_or (q0 ?b32_15 A W 110 hf) (q1 ?b32_23 A W 117 hf)
     refine oc0 (fun A W hx hf => ?_) ?_
     exact ok_move (q0 ?b32_24 A W 118 hf)
     refine ocg 119 ?_ (fun A W hx hf => ?_) ?_
     rfl
     exact gd_f (q1 ?b32_24 A W 119 hf) (fun hc => ok_movE (a0 := a31) (r0 hf))
     refine ocg 119 ?_ (fun A W hx hf => ?_) ?_
     rfl
     exact gd_f (q1 ?b32_24 A W 119 hf) (fun hc => ok_movE (a0 := a31) (r0 hf))
     refine ocg 119 ?_ (fun A W hx hf => ?_) ?_
     rfl
     exact gd_f (q1 ?b32_24 A W 119 hf) (fun hc => ok_len_bs Try.underlying22 (OwnBA.bs (p2 s7 e_w23 hx (G.get (q0 ?b32_27 A W 121 hf) hc))))
     refine ocg 119 ?_ (fun A W hx hf => ?_) ?_
     rfl
     exact gd_f (q1 ?b32_24 A W 119 hf) (fun hc => ok_movE (a0 := a31) (r0 hf))
     refine ocg 119 ?_ (fun A W hx hf => ?_) ?_
     rfl
     exact gd_f (q2 ?b32_24 A W 119 hf) (fun hc => ok_subI (G.get (q0 ?b32_28 A W 122 hf) hc) (p2 s14 e_w29 hx (G.get (q1 ?b32_29 A W 123 hf) hc)) (by omega))
     refine ocg 119 ?_ (fun A W hx hf => ?_) ?_
     rfl
     exact gd_f (q2 ?b32_24 A W 119 hf) (fun hc => ok_slice_lo ((wrapR l Sa Da).1.length - (cutN l).total.toNat) Try.underlying22 size5 (OwnBA.bs (p2 s7 e_w23 hx (G.get (q0 ?b32_26 A W 120 hf) hc))) (Is.int (G.get (q1 ?b32_30 A W 124 hf) hc) (by omega)) (by omega))
     refine ocg 119 ?_ (fun A W hx hf => ?_) ?_
     rfl
     exact gd_f (q1 ?b32_24 A W 119 hf) (fun hc => ok_movE (a0 := a31) (r0 hf))
     refine ocg 119 ?_ (fun A W hx hf => ?_) ?_
     rfl
     exact gd_f (q1 ?b32_24 A W 119 hf) (fun hc => ok_fieldS 4 Try.underlying41 (k := 4) rfl size3 rfl (o2 s9 e_w23 hx (r0 hf)) rfl)
     refine ocg 119 ?_ (fun A W hx hf => ?_) ?_
     rfl
     exact gd_f (q1 ?b32_24 A W 119 hf) (fun hc => ok_loadS Try.underlying3 rfl (G.get (q0 ?b32_33 A W 127 hf) hc) rfl)
     refine ocg 119 ?_ (fun A W hx hf => ?_) ?_
     rfl
     exact gd_f (q1 ?b32_24 A W 119 hf) (fun hc => ok_fieldS 4 Try.underlying41 (k := 4) rfl size3 rfl (o2 s9 e_w23 hx (r0 hf)) rfl)
     refine ocg 119 ?_ (fun A W hx hf => ?_) ?_
     rfl
     exact gd_f (q1 ?b32_24 A W 119 hf) (fun hc => ok_loadS Try.underlying3 rfl (G.get (q0 ?b32_35 A W 129 hf) hc) rfl)
     refine ocg 119 ?_ (fun A W hx hf => ?_) ?_
     rfl
     exact gd_f (q1 ?b32_24 A W 119 hf) (fun hc => ok_movE (a0 := a31) (r0 hf))
     refine ocg 119 ?_ (fun A W hx hf => ?_) ?_
     rfl
     exact gd_f (q2 ?b32_24 A W 119 hf) (fun hc => ok_addI (G.get (q0 ?b32_36 A W 130 hf) hc) (p2 s14 e_w29 hx (G.get (q1 ?b32_37 A W 131 hf) hc)) (by show (-9223372036854775808 : Int) ≤ (cutL l).at' + (cutN l).total ∧ (cutL l).at' + (cutN l).total ≤ 9223372036854775807; omega))
     refine ocg 119 ?_ (fun A W hx hf => ?_) ?_
     rfl
     exact gd_f (q3 ?b32_24 A W 119 hf) (fun hc => ok_slice_lh (cutA l) (cutA l + (cutN l).total.toNat) Try.underlying22 size5 (p2 s0 e_w hx (G.get (q0 ?b32_32 A W 126 hf) hc)) (Is.int (G.get (q1 ?b32_34 A W 128 hf) hc) (by exact y5)) (Is.int (G.get (q2 ?b32_38 A W 132 hf) hc) (by show (cutL l).at' + (cutN l).total = _; omega)) (by omega) (by omega))
     refine ocg 119 ?_ (fun A W hx hf => ?_) ?_
     rfl
     exact gd_f (q2 ?b32_24 A W 119 hf) (fun hc => ok_call2 body12 (c_Same (G.get (q0 ?b32_31 A W 125 hf) hc) (G.get (q1 ?b32_39 A W 133 hf) hc)))
     refine ocg 119 ?_ (fun A W hx hf => ?_) ?_
     rfl
     exact gd_f (q1 ?b32_24 A W 119 hf) (fun hc => ok_not (G.get (q0 ?b32_40 A W 134 hf) hc))
     refine oc0 (fun A W hx hf => ?_) ?_
     exact ok_or (q0 ?b32_24 A W 119 hf) (q1 ?b32_41 A W 135 hf)
     exact OpsOk.nil
    case t32 => repeat (first | exact stb_nil | refine stb_cons ?_)
    clear hr; intro a33 w33 x hr hd hs
    revert s20; revert s18; revert s11; revert s9; revert s4; refine kp5 hs rfl ?_; intro s4 s9 s11 s18 s20
    clear s0 s7 s14 s17 s19 s21 s22
    have s136 := fa ?b32_42 a33 w33 136 (hd 42 136 rfl)
    replace e_w := e_w.trans x
    replace e_w23 := e_w23.trans x
    clear e_w29
    have e_w31 := x
    clear hd hs x
    refine exit_then ?_
    refine wp_cond_split (show _ = _ from s136) (fun hd9 => ?_) (fun hd9 => ?_)
    ·
     exfalso; rw [htl] at hd9; simp [hok, e7] at hd9
    ·
     try simp only [decide_eq_true_eq, decide_eq_false_iff_not, Bool.not_eq_true', Bool.not_eq_false', Bool.not_true, Bool.not_false, Bool.and_eq_true, Bool.and_eq_false_iff, Bool.or_eq_true, Bool.or_eq_false_iff, bne_iff_ne, beq_iff_eq, ne_eq, beq_eq_false_iff_ne, bne_eq_false_iff_eq] at hd9
     refine wp_skip ?_
     refine exit_then ?_
     refine wp_seq ?_
     refine wp_reg 167 [[]] [?b35_0] mixed hr ?t35 ?o35 ?_
     case o35 =>
      refine oc0 (fun A W hx hf => ?_) ?_
      exact ok_assignc
      exact OpsOk.nil
     case t35 => exact inferInstance
     clear hr; intro a36 w36 x hr hd hs
     revert s20; revert s18; revert s11; revert s9; revert s4; refine kp5 hs rfl ?_; intro s4 s9 s11 s18 s20
     clear s136
     have s23 := fa ?b35_0 a36 w36 23 (hd 0 23 rfl)
     replace e_w := e_w.trans x
     replace e_w23 := e_w23.trans x
     replace e_w31 := e_w31.trans x
     clear hd hs x
     refine exit_then ?_
     refine wp_seq ?_
     refine wp_seq ?_
     refine wp_reg 167 [[(4, none)], [(137, some 0)]] [?b37_0, ?b37_1] mixed hr ?t37 ?o37 ?_
     case o37 =>
      refine oc0 (fun A W hx hf => ?_) ?_
      exact ok_fieldS 0 Try.underlying25 (k := 0) rfl size4 rfl (o2 s4 e_w23 hx (r0 hf)) rfl
      refine oc0 (fun A W hx hf => ?_) ?_
      exact ok_loadS Try.underlying4 rfl (q0 ?b37_0 A W 137 hf) rfl
      exact OpsOk.nil
     case t37 => exact inferInstance
     clear hr; intro a38 w38 x hr hd hs
     revert s23; revert s20; revert s18; revert s11; revert s9; revert s4; refine kp6 hs rfl ?_; intro s4 s9 s11 s18 s20 s23
     have s138 := fa ?b37_1 a38 w38 138 (hd 1 138 rfl)
     replace e_w := e_w.trans x
     replace e_w23 := e_w23.trans x
     replace e_w31 := e_w31.trans x
     have e_w36 := x
     clear hd hs x
     refine exit_then ?_
     refine wp_cut (fun A W => Fr 167 A ∧ Same D_law_TunnelOuter_0 a38 A ∧ Ext w W ∧ Ext w23 W ∧ Ext w31 W ∧ (Is (.int .i64 (headW Sa : Int))) (A.eval (.tmp 23)) W) ?cut39 ?_
     case cut39 =>
      have m39 : Same D_law_TunnelOuter_0 a38 a38 := Same.rfl
      refine wp_cond_split (show _ = _ from s138) (fun h6 => ?_) (fun h6 => ?_)
      ·
       skip
       refine wp_reg 167 [[]] [?b41_0] mixed hr ?t41 ?o41 ?_
       case o41 =>
        refine oc0 (fun A W hx hf => ?_) ?_
        exact ok_assignc
        exact OpsOk.nil
       case t41 => exact inferInstance
       clear hr; intro a42 w42 x hr hd hs
       revert s20; revert s18; revert s11; revert s9; revert s4; refine kp5 hs rfl ?_; intro s4 s9 s11 s18 s20
       clear s23 s138
       have s23 := fa ?b41_0 a42 w42 23 (hd 0 23 rfl)
       replace e_w := e_w.trans x
       replace e_w23 := e_w23.trans x
       replace e_w31 := e_w31.trans x
       clear e_w36
       replace m39 := m39.tr hs rfl
       clear hd hs x
       refine exit_then ?_
       refine ⟨hr, m39, e_w, e_w23, e_w31, ?_⟩
       · first | exact Is.int s23 (by unfold headW; rw [h6]; rfl)
      ·
       skip
       refine wp_skip ?_
       refine exit_then ?_
       refine ⟨hr, m39, e_w, e_w23, e_w31, ?_⟩
       · first | exact Is.int (later e_w36 s23) (by unfold headW; rw [h6]; rfl)
     intro a39 w39 hI
     clear e_w
     clear e_w23
     clear e_w31
     clear e_w36
     clear hr; obtain ⟨hr, hs, e_w, e_w23, e_w31, u23⟩ := hI
     revert s20; revert s18; revert s11; revert s9; revert s4; refine kp5 hs rfl ?_; intro s4 s9 s11 s18 s20
     clear s23 s138
     have s23 := u23; clear u23
     clear hs
     refine wp_seq ?_
     refine wp_reg 167 [[(11, none)], [(139, some 0)], [(140, some 1)]] [?b43_0, ?b43_1, ?b43_1] mixed hr ?t43 ?o43 ?_
     case o43 =>
      refine oc0 (fun A W hx hf => ?_) ?_
      exact ok_fieldS 3 Try.underlying41 (k := 3) rfl size3 rfl (o2 s11 e_w23 hx (r0 hf)) rfl
      refine oc0 (fun A W hx hf => ?_) ?_
      exact ok_loadS Try.underlying3 rfl (q0 ?b43_0 A W 139 hf) rfl
      refine oc0 (fun A W hx hf => ?_) ?_
      exact ok_assign (q0 ?b43_1 A W 140 hf)
      exact OpsOk.nil
     case t43 => exact inferInstance
     clear hr; intro a44 w44 x hr hd hs
     revert s23; revert s20; revert s18; revert s11; revert s9; revert s4; refine kp6 hs rfl ?_; intro s4 s9 s11 s18 s20 s23
     have s24 := fa ?b43_1 a44 w44 24 (hd 2 24 rfl)
     replace e_w := e_w.trans x
     replace e_w23 := e_w23.trans x
     replace e_w31 := e_w31.trans x
     have e_w39 := x
     clear hd hs x
     refine exit_then ?_
     refine wp_seq ?_
     refine wp_reg_pre (l := [_, _, _]) (rest := [_]) 167 [[(9, none)], [(141, some 0)], [(11, none)]] [?b45_0, ?b45_1, ?b45_2] hr ?t45 ?o45 ?_
     case o45 =>
      refine oc0 (fun A W hx hf => ?_) ?_
      exact ok_fieldS 3 Try.underlying41 (k := 3) rfl size3 rfl (o2 s9 e_w23 hx (r0 hf)) rfl
      refine oc0 (fun A W hx hf => ?_) ?_
      exact ok_loadS Try.underlying3 rfl (q0 ?b45_0 A W 141 hf) rfl
      refine oc0 (fun A W hx hf => ?_) ?_
      exact ok_fieldS 3 Try.underlying41 (k := 3) rfl size3 rfl (o2 s11 e_w23 hx (r0 hf)) rfl
      exact OpsOk.nil
     case t45 => exact inferInstance
     clear hr; intro a46 w46 x hr hd hs
     revert s23; revert s20; revert s18; revert s11; revert s9; revert s4; refine kp6 hs rfl ?_; intro s4 s9 s11 s18 s20 s23
     revert s24; refine kp1 hs rfl ?_; intro s24
     have s142 := fa ?b45_1 a46 w46 142 (hd 1 142 rfl)
     have s143 := fa ?b45_2 a46 w46 143 (hd 2 143 rfl)
     replace e_w := e_w.trans x
     replace e_w23 := e_w23.trans x
     replace e_w31 := e_w31.trans x
     replace e_w39 := e_w39.trans x
     have e_w44 := x
     clear hd hs x
     have z47 := PxS.lt s143
     have l47 := (show (g22_11 = 0 ∨ w.heap.size < g22_11) ∧ True from ⟨by omega, trivial⟩)
     have l47_4 := PxS.lt (later e_w23 s4)
     have l47_9 := PxS.lt (later e_w23 s9)
     have l47_gL := OwnRA.lt (later e_w23 gL)
     have l47_gM := OwnRA.lt (later e_w23 gM)
     refine wl_storeS hr size3 s143 s142 (by rfl) rfl ?_; clear hr; intro a47 w47 hc hu hr hs
     have hb : Below w.heap.size w46 w47 := hc.below e_w.size l47.1
     revert s23; revert s20; revert s18; revert s11; revert s9; revert s4; refine kp6 hs rfl ?_; intro s4 s9 s11 s18 s20 s23
     revert s24; refine kp1 hs rfl ?_; intro s24
     clear s142 s143
     replace s4 := PxS.other (later e_w23 s4) hc (by omega)
     replace s9 := PxS.other (later e_w23 s9) hc (by omega)
     replace s11 := hu _ _ _ (later e_w23 s11)
     try simp only [List.set_cons_zero, List.set_cons_succ, lnkS] at s11
     replace gL := OwnRA.other (later e_w23 gL) hc (by omega)
     replace gM := OwnRA.other (later e_w23 gM) hc (by omega)
     replace e_w := e_w.below (Nat.le_refl _) hb
     clear e_w23
     clear e_w31
     clear e_w39
     clear e_w44
     replace s18 := anyw (w2 := w47) s18
     replace s20 := anyw (w2 := w47) s20
     replace s23 := anyw (w2 := w47) s23
     replace s24 := anyw (w2 := w47) s24
     clear hu hs hc hb
     refine wpList_nil ?_
     replace s11 := PxS.cast s11 (show _ = lnkS (cutL l) sv53 from congrArg (fun L => lnkS L sv53) hce)
     refine exit_then ?_
     refine wp_seq ?_
     refine wp_reg 167 [[(18, none)], [(23, none)], [(144, some 0), (145, some 1)], [(146, some 2)], [(20, none), (147, some 3)], [(148, some 4), (147, some 3)], [(9, none), (147, some 3)], [(150, some 6), (147, some 3)], [(151, some 7), (147, some 3)], [(149, some 5), (152, some 8), (147, some 3)], [(147, some 3), (153, some 9)], [(154, some 10)], [(24, none), (155, some 11)], [(156, some 12), (155, some 11)], [(4, none), (155, some 11)], [(158, some 14), (155, some 11)], [(157, some 13), (159, some 15), (155, some 11)], [(155, some 11), (160, some 16)], [(161, some 17)], [(9, none), (162, some 18)], [(11, none), (162, some 18)], [(163, some 19), (164, some 20), (162, some 18)], [(162, some 18), (165, some 21)], [(166, some 22)]] [?b48_0, ?b48_1, ?b48_2, ?b48_2, ?b48_4, ?b48_5, ?b48_6, ?b48_7, ?b48_8, ?b48_9, ?b48_10, ?b48_10, ?b48_12, ?b48_13, ?b48_14, ?b48_15, ?b48_16, ?b48_17, ?b48_17, ?b48_19, ?b48_20, ?b48_21, ?b48_22, ?b48_22] mixed hr ?t48 ?o48 ?_
     case o48 =>
      refine oc0 (fun A W hx hf => ?_) ?_
      exact ok_movE (a0 := a47) (r0 hf)
      refine oc0 (fun A W hx hf => ?_) ?_
      exact ok_movE (a0 := a47) (r0 hf)
      refine oc0 (fun A W hx hf => ?_) ?_
      exact ok_eql (p1 s18 hx (q0 ?b48_0 A W 144 hf)) (p1 s23 hx (q1 ?b48_1 A W 145 hf))
      refine oc0 (fun A W hx hf => ?_) ?_
      exact ok_move (q0 ?b48_2 A W 146 hf)
      refine ocg 147 ?_ (fun A W hx hf => ?_) ?_
      rfl
      exact gd_t (q1 ?b48_2 A W 147 hf) (fun hc => ok_movE (a0 := a47) (r0 hf))
      refine ocg 147 ?_ (fun A W hx hf => ?_) ?_
      rfl
      exact gd_t (q1 ?b48_2 A W 147 hf) (fun hc => ok_eql (p1 s20 hx (G.get (q0 ?b48_4 A W 148 hf) hc)) (ec A (.int .i64 41)))
      refine ocg 147 ?_ (fun A W hx hf => ?_) ?_
      rfl
      exact gd_t (q1 ?b48_2 A W 147 hf) (fun hc => ok_fieldS 3 Try.underlying41 (k := 3) rfl size3 rfl (o1 s9 hx (r0 hf)) rfl)
      refine ocg 147 ?_ (fun A W hx hf => ?_) ?_
      rfl
      exact gd_t (q1 ?b48_2 A W 147 hf) (fun hc => ok_loadS Try.underlying3 rfl (G.get (q0 ?b48_6 A W 150 hf) hc) rfl)
      refine ocg 147 ?_ (fun A W hx hf => ?_) ?_
      rfl
      exact gd_t (q1 ?b48_2 A W 147 hf) (fun hc => ok_eql (G.get (q0 ?b48_7 A W 151 hf) hc) (ec A (.int .i64 34525)))
      refine ocg 147 ?_ (fun A W hx hf => ?_) ?_
      rfl
      exact gd_t (q2 ?b48_2 A W 147 hf) (fun hc => ok_eqb Try.underlying4 (G.get (q0 ?b48_5 A W 149 hf) hc) (G.get (q1 ?b48_8 A W 152 hf) hc))
      refine oc0 (fun A W hx hf => ?_) ?_
      exact ok_and (q0 ?b48_2 A W 147 hf) (q1 ?b48_9 A W 153 hf)
      refine oc0 (fun A W hx hf => ?_) ?_
      exact ok_move (q0 ?b48_10 A W 154 hf)
      refine ocg 155 ?_ (fun A W hx hf => ?_) ?_
      rfl
      exact gd_t (q1 ?b48_10 A W 155 hf) (fun hc => ok_movE (a0 := a47) (r0 hf))
      refine ocg 155 ?_ (fun A W hx hf => ?_) ?_
      rfl
      exact gd_t (q1 ?b48_10 A W 155 hf) (fun hc => ok_eql (p1 s24 hx (G.get (q0 ?b48_12 A W 156 hf) hc)) (ec A (.int .i64 34525)))
      refine ocg 155 ?_ (fun A W hx hf => ?_) ?_
      rfl
      exact gd_t (q1 ?b48_10 A W 155 hf) (fun hc => ok_fieldS 0 Try.underlying25 (k := 0) rfl size4 rfl (o1 s4 hx (r0 hf)) rfl)
      refine ocg 155 ?_ (fun A W hx hf => ?_) ?_
      rfl
      exact gd_t (q1 ?b48_10 A W 155 hf) (fun hc => ok_loadS Try.underlying4 rfl (G.get (q0 ?b48_14 A W 158 hf) hc) rfl)
      refine ocg 155 ?_ (fun A W hx hf => ?_) ?_
      rfl
      exact gd_t (q2 ?b48_10 A W 155 hf) (fun hc => ok_eqb Try.underlying4 (G.get (q0 ?b48_13 A W 157 hf) hc) (G.get (q1 ?b48_15 A W 159 hf) hc))
      refine oc0 (fun A W hx hf => ?_) ?_
      exact ok_and (q0 ?b48_10 A W 155 hf) (q1 ?b48_16 A W 160 hf)
      refine oc0 (fun A W hx hf => ?_) ?_
      exact ok_move (q0 ?b48_17 A W 161 hf)
      refine ocg 162 ?_ (fun A W hx hf => ?_) ?_
      rfl
      exact gd_t (q1 ?b48_17 A W 162 hf) (fun hc => ok_loadAggS 5 Try.underlying41 rfl size41 (o1 s9 hx (r0 hf)) rfl)
      refine ocg 162 ?_ (fun A W hx hf => ?_) ?_
      rfl
      exact gd_t (q1 ?b48_17 A W 162 hf) (fun hc => ok_loadAggS 5 Try.underlying41 rfl size41 (o1 s11 hx (r0 hf)) rfl)
      refine ocg 162 ?_ (fun A W hx hf => ?_) ?_
      rfl
      exact gd_t (q2 ?b48_17 A W 162 hf) (fun hc => ok_call2 body17 (c_r7Same (LinkV.of (show Is (LnkA (cutL l) sv48) _ _ from (G.get (q0 ?b48_19 A W 163 hf) hc)) (OwnRA.rw (later hx gL))) (LinkV.of (show Is (LnkA (cutL l) sv53) _ _ from (G.get (q1 ?b48_20 A W 164 hf) hc)) (OwnRA.rw (later hx gM))) (by exact cutL_ok l)))
      refine oc0 (fun A W hx hf => ?_) ?_
      exact ok_and (q0 ?b48_17 A W 162 hf) (q1 ?b48_21 A W 165 hf)
      refine oc0 (fun A W hx hf => ?_) ?_
      exact ok_assign (q0 ?b48_22 A W 166 hf)
      exact OpsOk.nil
     case t48 => exact inferInstance
     clear hr; intro a49 w49 x hr hd hs
     clear s4 s9 s18 s20 s23 s24 s11
     have s6 := fa ?b48_22 a49 w49 6 (hd 23 6 rfl)
     replace e_w := e_w.trans x
     have e_w47 := x
     clear hd hs x
     refine exit_then ?_
     refine wp_ret ?_
     refine ret_tmp Try.results6 hr e_w ?_
     first | with_reducible exact s6 | exact Is.bool s6 (by rw [hxe]; rfl) | exact Is.bool s6 (by rw [outer_a, outer_b]; simp)

end Go.Proofs.Ytnlmppannjebfaa
