import Derived.Test.YtdbjpfjnambenaaA07
import Derived.Test.YtdbjpfjnambenaaC07e
import Derived.Test.YtdbjpfjnambenaaC07f
namespace Go.Proofs.Ytdbjpfjnambenaa
open Go.RowKit
set_option linter.unusedVariables false
set_option maxRecDepth 4000
theorem law_LinkBack {x0 x1 x2 : Value} {w : World} {L : LinkL} {l : List UInt8} {z : Int} (h0 : (LinkV L) x0 w) (h1 : (Bs l) x1 w) (h2 : (Is (.int .u8 z)) x2 w) (hL : LinkOk L) (hz : 0 ≤ z ∧ z ≤ 255) :
    Calls Try.prog 5 #[x0, x1, x2] w (Ret (Is (.bool true)) w) := by
 obtain ⟨v, eh0, hT, hvh0⟩ := h0
 replace h0 : Is (LnkA L v) x0 w := eh0
 have hll := Bs.len_le h1
 have hpl := linkPut_len hL
 refine enter Try.func5 rfl Try.ntmps5 (k := 3) rfl (by decide) (fun a0 hr hargs => ?_)
 have s0 := sarg h0 (hargs 0 (by decide))
 have s1 := sarg h1 (hargs 1 (by decide))
 have s2 := sarg h2 (hargs 2 (by decide))
 clear hargs
 refine wp_seq ?_
 refine wp_reg 83 [[(0, none)], []] [?b1_0, ?b1_1] mixed (by kernel_rfl) (by kernel_rfl) hr ?t1 ?o1 ?_
 case o1 =>
  refine oc0 (fun A W hx hf => ?_) ?_
  exact ok_boxS (lnkS L v) [6, 6, 1, 1, 1] (o1 s0 hx (r0 hf)) (by exact lnkS_lens hL) hx.size
  refine oc0 (fun A W hx hf => ?_) ?_
  exact ok_assignc
  exact OpsOk.nil
 case t1 => exact inferInstance
 clear hr; intro a2 w2 x hr hd hs
 revert s2; revert s1; refine kp2 hs rfl ?_; intro s1 s2
 clear s0
 have s3 := fa ?b1_0 a2 w2 3 (hd 0 3 rfl)
 obtain ⟨g2_3, q2_3⟩ := PxN.at s3; clear s3; have n2_3 := PxS.lt q2_3
 have s3 := q2_3; clear q2_3
 have e_w := x
 clear hd hs x
 refine exit_then ?_
 refine wp_seq ?_
 refine wp_seq ?_
 refine wp_reg 83 [[], [(14, some 0)], [(15, some 1)], [(3, none), (16, some 2)], [(17, some 3), (16, some 2)], [(18, some 4), (16, some 2)], [(19, some 5), (16, some 2)], [(16, some 2), (20, some 6)], [(21, some 7)], [(1, none), (22, some 8)], [(23, some 9), (22, some 8)], [(24, some 10), (22, some 8)], [(22, some 8), (25, some 11)]] [?b3_0, ?b3_1, ?b3_1, ?b3_3, ?b3_4, ?b3_5, ?b3_6, ?b3_7, ?b3_7, ?b3_9, ?b3_10, ?b3_11, ?b3_12] mixed (by kernel_rfl) (by kernel_rfl) hr ?t3 ?o3 ?_
 case o3 =>
  refine oc0 (fun A W hx hf => ?_) ?_
  exact ok_call0 body9 (c_awake07 )
  refine oc0 (fun A W hx hf => ?_) ?_
  exact ok_not (q0 ?b3_0 A W 14 hf)
  refine oc0 (fun A W hx hf => ?_) ?_
  exact ok_move (q0 ?b3_1 A W 15 hf)
  refine ocg 16 ?_ (fun A W hx hf => ?_) ?_
  rfl
  exact gd_f (q1 ?b3_1 A W 16 hf) (fun hc => ok_fieldS 2 Try.underlying27 (k := 2) rfl size25 rfl (o1 s3 hx (r0 hf)) rfl)
  refine ocg 16 ?_ (fun A W hx hf => ?_) ?_
  rfl
  exact gd_f (q1 ?b3_1 A W 16 hf) (fun hc => ok_is (ok_loadS Try.underlying25 rfl (G.get (q0 ?b3_3 A W 17 hf) hc) rfl) (later (e_w.trans hx) hT))
  refine ocg 16 ?_ (fun A W hx hf => ?_) ?_
  rfl
  exact gd_f (q1 ?b3_1 A W 16 hf) (fun hc => ok_len_rw Try.underlying25 (G.get (q0 ?b3_4 A W 18 hf) hc))
  refine ocg 16 ?_ (fun A W hx hf => ?_) ?_
  rfl
  exact gd_f (q1 ?b3_1 A W 16 hf) (fun hc => ok_gtr (G.get (q0 ?b3_5 A W 19 hf) hc) (ec A (.int .i64 100)))
  refine oc0 (fun A W hx hf => ?_) ?_
  exact ok_or (q0 ?b3_1 A W 16 hf) (q1 ?b3_6 A W 20 hf)
  refine oc0 (fun A W hx hf => ?_) ?_
  exact ok_move (q0 ?b3_7 A W 21 hf)
  refine ocg 22 ?_ (fun A W hx hf => ?_) ?_
  rfl
  exact gd_f (q1 ?b3_7 A W 22 hf) (fun hc => ok_movE (a0 := a2) (r0 hf))
  refine ocg 22 ?_ (fun A W hx hf => ?_) ?_
  rfl
  exact gd_f (q1 ?b3_7 A W 22 hf) (fun hc => ok_len_bs Try.underlying22 (p2 s1 e_w hx (G.get (q0 ?b3_9 A W 23 hf) hc)))
  refine ocg 22 ?_ (fun A W hx hf => ?_) ?_
  rfl
  exact gd_f (q1 ?b3_7 A W 22 hf) (fun hc => ok_gtr (G.get (q0 ?b3_10 A W 24 hf) hc) (ec A (.int .i64 500)))
  refine oc0 (fun A W hx hf => ?_) ?_
  exact ok_or (q0 ?b3_7 A W 22 hf) (q1 ?b3_11 A W 25 hf)
  exact OpsOk.nil
 case t3 => exact inferInstance
 clear hr; intro a4 w4 x hr hd hs
 revert s3; revert s2; revert s1; refine kp3 hs rfl ?_; intro s1 s2 s3
 have s26 := fa ?b3_12 a4 w4 26 (hd 12 26 rfl)
 replace e_w := e_w.trans x
 have e_w2 := x
 clear hd hs x
 refine exit_then ?_
 refine wp_cond_split (show _ = _ from s26) (fun hg => ?_) (fun hg => ?_)
 · skip
   skip
   refine wp_seq ?_
   refine wp_reg 83 [[], [(27, some 0)]] [?b6_0, ?b6_0] mixed (by kernel_rfl) (by kernel_rfl) hr ?t6 ?o6 ?_
   case o6 =>
    refine oc0 (fun A W hx hf => ?_) ?_
    exact ok_call0 body9 (c_awake07 )
    refine oc0 (fun A W hx hf => ?_) ?_
    exact ok_assign (q0 ?b6_0 A W 27 hf)
    exact OpsOk.nil
   case t6 => exact inferInstance
   clear hr; intro a7 w7 x hr hd hs
   clear s1 s2 s3 s26
   have s6 := fa ?b6_0 a7 w7 6 (hd 1 6 rfl)
   replace e_w := e_w.trans x
   clear e_w2
   clear hd hs x
   refine exit_then ?_
   refine wp_ret ?_
   refine then_ret ?_
   refine ret_tmp Try.results5 hr e_w ?_
   first | with_reducible exact s6 | exact Is.bool s6 (by rw [hp1]; rfl) | exact Is.bool s6 (by simp [hpl]) | exact Is.bool s6 (by simp [hpl]; omega)
 · skip
   have hg : l.length ≤ 500 := by simp at hg; omega
   refine wp_skip ?_
   refine exit_then ?_
   refine wp_seq ?_
   refine wp_reg 83 [[(3, none)], [(29, some 0)], [(30, some 1)], [(28, some 2)], [(28, some 2)], [(31, some 3)], [(32, some 4)]] [?b8_0, ?b8_1, ?b8_1, ?b8_3, ?b8_4, ?b8_3, ?b8_4] mixed (by kernel_rfl) (by kernel_rfl) hr ?t8 ?o8 ?_
   case o8 =>
    refine oc0 (fun A W hx hf => ?_) ?_
    exact ok_loadAggS 5 Try.underlying27 rfl size27 (o2 s3 e_w2 hx (r0 hf)) rfl
    refine oc0 (fun A W hx hf => ?_) ?_
    exact ok_call1 body13 (c_lPut (LinkV.of (show Is (LnkA L v) _ _ from (q0 ?b8_0 A W 29 hf)) (later (e_w.trans hx) hT)) (by exact hL) hx.size)
    refine oc0 (fun A W hx hf => ?_) ?_
    exact ok_move (q0 ?b8_1 A W 30 hf)
    refine oc0 (fun A W hx hf => ?_) ?_
    exact ok_ext0 (q0 ?b8_1 A W 28 hf)
    refine oc0 (fun A W hx hf => ?_) ?_
    exact ok_ext1 (q0 ?b8_1 A W 28 hf)
    refine oc0 (fun A W hx hf => ?_) ?_
    exact ok_assign (q0 ?b8_3 A W 31 hf)
    refine oc0 (fun A W hx hf => ?_) ?_
    exact ok_assign (q0 ?b8_4 A W 32 hf)
    exact OpsOk.nil
   case t8 => exact inferInstance
   clear hr; intro a9 w9 x hr hd hs
   have z_w_w4 := e_w.size
   have z_w2_w4 := e_w2.size
   have l9_3 := PxS.lt (later e_w2 s3)
   revert s3; revert s2; revert s1; refine kp3 hs rfl ?_; intro s1 s2 s3
   clear s26
   have s7 := fa ?b8_3 a9 w9 7 (hd 5 7 rfl)
   have s8 := fa ?b8_4 a9 w9 8 (hd 6 8 rfl)
   obtain ⟨g9_7, q9_7⟩ := OwnB.at s7; clear s7; have n9_7 := OwnBA.lt q9_7
   replace q9_7 := OwnBA.mono q9_7 e_w.size
   have s7 := q9_7; clear q9_7
   replace e_w := e_w.trans x
   replace e_w2 := e_w2.trans x
   clear hd hs x
   refine exit_then ?_
   refine wp_seq ?_
   refine wp_seq ?_
   refine wp_reg 83 [[(8, none)], [(33, some 0)]] [?b10_0, ?b10_1] mixed (by kernel_rfl) (by kernel_rfl) hr ?t10 ?o10 ?_
   case o10 =>
    refine oc0 (fun A W hx hf => ?_) ?_
    exact ok_movE (a0 := a9) (r0 hf)
    refine oc0 (fun A W hx hf => ?_) ?_
    exact ok_neq (p1 s8 hx (q0 ?b10_0 A W 33 hf)) (ec A (.int .i64 0))
    exact OpsOk.nil
   case t10 => exact inferInstance
   clear hr; intro a11 w11 x hr hd hs
   revert s7; revert s3; revert s2; revert s1; refine kp4 hs rfl ?_; intro s1 s2 s3 s7
   clear s8
   have s34 := fa ?b10_1 a11 w11 34 (hd 1 34 rfl)
   replace e_w := e_w.trans x
   replace e_w2 := e_w2.trans x
   have e_w9 := x
   clear hd hs x
   refine exit_then ?_
   refine wp_cond_split (show _ = _ from s34) (fun hr9 => ?_) (fun hr9 => ?_)
   · skip
     obtain ⟨hr9, hp1⟩ := linkPut_no hr9
     refine wp_seq ?_
     refine wp_reg 83 [[(7, none)], [(35, some 0)], [(36, some 1)], [(37, some 2)]] [?b13_0, ?b13_1, ?b13_2, ?b13_2] mixed (by kernel_rfl) (by kernel_rfl) hr ?t13 ?o13 ?_
     case o13 =>
      refine oc0 (fun A W hx hf => ?_) ?_
      exact ok_movE (a0 := a11) (r0 hf)
      refine oc0 (fun A W hx hf => ?_) ?_
      exact ok_len_bs Try.underlying22 (OwnBA.bs (p2 s7 e_w9 hx (q0 ?b13_0 A W 35 hf)))
      refine oc0 (fun A W hx hf => ?_) ?_
      exact ok_eql (q0 ?b13_1 A W 36 hf) (ec A (.int .i64 0))
      refine oc0 (fun A W hx hf => ?_) ?_
      exact ok_assign (q0 ?b13_2 A W 37 hf)
      exact OpsOk.nil
     case t13 => exact inferInstance
     clear hr; intro a14 w14 x hr hd hs
     clear s1 s2 s3 s7 s34
     have s6 := fa ?b13_2 a14 w14 6 (hd 3 6 rfl)
     replace e_w := e_w.trans x
     clear e_w2
     clear e_w9
     clear hd hs x
     refine exit_then ?_
     refine wp_ret ?_
     refine then_ret ?_
     refine ret_tmp Try.results5 hr e_w ?_
     first | with_reducible exact s6 | exact Is.bool s6 (by rw [hp1]; rfl) | exact Is.bool s6 (by simp [hpl]) | exact Is.bool s6 (by simp [hpl]; omega)
   · skip
     obtain ⟨hr9, hp1⟩ := linkPut_yes hr9
     obtain ⟨ht2, hty, htb, hall⟩ := linkRight_bd hr9
     replace s7 := OwnBA.cast s7 (show _ = linkPut L from by rw [hp1])
     obtain ⟨K, hK, hKl⟩ := tmod_lt (a := z) (n := (linkPut L).length) hz.1 (by omega)
     have hb1 := link_back (r := l) hL hr9
     have hb2 := link_early (m := K) hL hr9 (by omega)
     refine wp_skip ?_
     refine exit_then ?_
     refine wp_seq ?_
     refine wp_reg_pre (l := [_, _]) (rest := [_, _, _, _, _, _, _, _, _, _]) 83 [[], [(7, none)]] [?b15_0, ?b15_1] (by kernel_rfl) (by kernel_rfl) hr ?t15 ?o15 ?_
     case o15 =>
      refine oc0 (fun A W hx hf => ?_) ?_
      exact ok_ownBs [] [] Try.underlying22 size5 zero5 rfl rfl (by decide) hx.size (PartsOk.nil)
      refine oc0 (fun A W hx hf => ?_) ?_
      exact ok_movE (a0 := a11) (r0 hf)
      exact OpsOk.nil
     case t15 => exact inferInstance
     clear hr; intro a16 w16 x hr hd hs
     have z_w_w11 := e_w.size
     have z_w2_w11 := e_w2.size
     have z_w9_w11 := e_w9.size
     have l16_3 := PxS.lt (later e_w2 s3)
     have l16_7 := OwnBA.lt (later e_w9 s7)
     have u40 := mv s7 (fa ?b15_1 a16 w16 40 (hd 1 40 rfl))
     revert s7; revert s3; revert s2; revert s1; refine kp4 hs rfl ?_; intro s1 s2 s3 s7
     clear s34
     have s40 := u40; clear u40
     have s39 := fa ?b15_0 a16 w16 39 (hd 0 39 rfl)
     obtain ⟨g16_39, q16_39⟩ := OwnB.at s39; clear s39; have n16_39 := OwnBA.lt q16_39
     replace q16_39 := OwnBA.mono q16_39 e_w.size
     have s39 := q16_39; clear q16_39
     replace e_w := e_w.trans x
     replace e_w2 := e_w2.trans x
     replace e_w9 := e_w9.trans x
     clear hd hs x
     have l17 := OwnBA.lt s39
     have l17_3 := PxS.lt (later e_w2 s3)
     have l17_7 := OwnBA.lt (later e_w9 s7)
     refine wl_append_bsA hr (by decide) Try.underlying22 info5 rfl s39 (OwnBA.bs (later e_w9 s40)) e_w.size (by first | (simp [hpl]; done) | (simp [hpl]; omega)) ?_; clear hr; intro g17 a17 w17 hg17 hc hr hd hs
     have hb := hc.below e_w.size l17.1
     revert s7; revert s3; revert s2; revert s1; refine kp4 hs rfl ?_; intro s1 s2 s3 s7
     clear s40 s39
     replace s3 := PxS.other (later e_w2 s3) hc (by omega)
     replace s7 := OwnBA.other (later e_w9 s7) hc (by omega)
     have s41 := hd
     replace e_w := e_w.below (Nat.le_refl _) hb
     clear e_w2
     clear e_w9
     clear hd hs hb hc
     refine wl_op hr (ok_move (later e_w s1)) inferInstance ?_; clear hr; intro a18 w18 x hr hd hs
     revert s41; revert s7; revert s3; revert s2; refine kp4 hs rfl ?_; intro s2 s3 s7 s41
     clear s1
     have s42 := hd 42 rfl (by decide)
     replace e_w := e_w.trans x
     have e_w17 := x
     clear hd hs x
     have l19 := OwnBA.lt (later e_w17 s41)
     have l19_3 := PxS.lt (later e_w17 s3)
     have l19_7 := OwnBA.lt (later e_w17 s7)
     refine wl_append_bsA hr (by decide) Try.underlying22 info5 rfl (later e_w17 s41) s42 e_w.size (by first | (simp [hpl]; done) | (simp [hpl]; omega)) ?_; clear hr; intro g19 a19 w19 hg19 hc hr hd hs
     have hb := hc.below e_w.size l19.1
     revert s7; revert s3; revert s2; refine kp3 hs rfl ?_; intro s2 s3 s7
     clear s41 s42
     replace s3 := PxS.other (later e_w17 s3) hc (by omega)
     replace s7 := OwnBA.other (later e_w17 s7) hc (by omega)
     have s43 := hd
     replace e_w := e_w.below (Nat.le_refl _) hb
     clear e_w17
     clear hd hs hb hc
     have l20_3 := PxS.lt s3
     have l20_7 := OwnBA.lt s7
     have l20_43 := OwnBA.lt s43
     refine wl_op hr (ok_call1 body10 (c_lRead (OwnBA.bs s43) (Nat.le_refl _))) inferInstance ?_; clear hr; intro a20 w20 x hr hd hs
     revert s7; revert s3; revert s2; refine kp3 hs rfl ?_; intro s2 s3 s7
     clear s43
     have s44 := hd 44 rfl (by decide)
     obtain ⟨sv45, s44, gA⟩ := Tup2.openL s44; obtain ⟨g20_44, gA⟩ := OwnR.at gA; have n20_44 := OwnRA.lt gA
     replace gA := OwnRA.mono gA e_w.size
     replace e_w := e_w.trans x
     have e_w19 := x
     clear hd hs x
     refine wl_op hr (ok_move s44) inferInstance ?_; clear hr; intro a21 w21 x hr hd hs
     revert s7; revert s3; revert s2; refine kp3 hs rfl ?_; intro s2 s3 s7
     clear s44
     have s38 := hd 38 rfl (by decide)
     replace e_w := e_w.trans x
     replace e_w19 := e_w19.trans x
     have e_w20 := x
     clear hd hs x
     refine wl_op hr (ok_ext0 s38) inferInstance ?_; clear hr; intro a22 w22 x hr hd hs
     revert s38; revert s7; revert s3; revert s2; refine kp4 hs rfl ?_; intro s2 s3 s7 s38
     have s45 := hd 45 rfl (by decide)
     replace e_w := e_w.trans x
     replace e_w19 := e_w19.trans x
     replace e_w20 := e_w20.trans x
     have e_w21 := x
     clear hd hs x
     refine wl_op hr (ok_ext1 (later e_w21 s38)) inferInstance ?_; clear hr; intro a23 w23 x hr hd hs
     revert s45; revert s7; revert s3; revert s2; refine kp4 hs rfl ?_; intro s2 s3 s7 s45
     clear s38
     have s46 := hd 46 rfl (by decide)
     replace e_w := e_w.trans x
     replace e_w19 := e_w19.trans x
     replace e_w20 := e_w20.trans x
     clear e_w21
     have e_w22 := x
     clear hd hs x
     have l24_3 := PxS.lt (later e_w19 s3)
     have l24_7 := OwnBA.lt (later e_w19 s7)
     have l24_gA := OwnRA.lt (later e_w20 gA)
     refine wl_op hr (ok_allocS [(lnkS link0 (.slice none 0 0)).flatten] [15] zerov27 (by rfl) (by rfl) (Nat.le_refl _)) inferInstance ?_; clear hr; intro a24 w24 x hr hd hs
     revert s46; revert s45; revert s7; revert s3; revert s2; refine kp5 hs rfl ?_; intro s2 s3 s7 s45 s46
     have s9 := hd 9 rfl (by decide)
     obtain ⟨g24_9, q24_9⟩ := PxN.at s9; clear s9; have n24_9 := PxS.lt q24_9
     replace q24_9 := PxS.mono q24_9 e_w.size
     have s9 := q24_9; clear q24_9
     replace e_w := e_w.trans x
     replace e_w19 := e_w19.trans x
     replace e_w20 := e_w20.trans x
     replace e_w22 := e_w22.trans x
     have e_w23 := x
     clear hd hs x
     have z25 := PxS.lt s9
     have l25 := (show (g24_9 = 0 ∨ w.heap.size < g24_9) ∧ True from ⟨by omega, trivial⟩)
     have l25_3 := PxS.lt (later e_w19 s3)
     have l25_7 := OwnBA.lt (later e_w19 s7)
     have l25_gA := OwnRA.lt (later e_w20 gA)
     refine wl_storeSn hr size27 s9 (later e_w22 s45) (by exact lnk_len (linkRead_ok _)) (by exact lnk_one (rw_one (OwnRA.rw (later e_w20 gA)))) rfl ?_; clear hr; intro a25 w25 hc hu hr hs
     have hb : Below w.heap.size w24 w25 := hc.below e_w.size l25.1
     revert s9; revert s46; revert s7; revert s3; revert s2; refine kp5 hs rfl ?_; intro s2 s3 s7 s46 s9
     clear s45
     replace s3 := PxS.other (later e_w19 s3) hc (by omega)
     replace s7 := OwnBA.other (later e_w19 s7) hc (by omega)
     replace s9 := hu _ _ _ s9
     try simp only [List.set_cons_zero, List.set_cons_succ, lnkS] at s9
     replace gA := OwnRA.other (later e_w20 gA) hc (by omega)
     replace e_w := e_w.below (Nat.le_refl _) hb
     clear e_w19
     clear e_w20
     clear e_w22
     clear e_w23
     replace s46 := anyw (w2 := w25) s46
     clear hu hs hc hb
     refine wl_op hr (ok_assign s46) inferInstance ?_; clear hr; intro a26 w26 x hr hd hs
     revert s9; revert s7; revert s3; revert s2; refine kp4 hs rfl ?_; intro s2 s3 s7 s9
     clear s46
     have s10 := hd 10 rfl (by decide)
     replace e_w := e_w.trans x
     have e_w25 := x
     clear hd hs x
     refine wpList_nil ?_
     replace s10 := Is.int s10 (show _ = (0 : Int) from by rw [List.nil_append, hb1])
     refine exit_then ?_
     refine wp_seq ?_
     refine wp_reg_pre (l := [_, _, _, _, _, _, _, _, _, _, _]) (rest := [_, _, _]) 83 [[(7, none)], [(2, none)], [(49, some 1)], [(7, none)], [(51, some 3)], [(50, some 2), (52, some 4)], [(48, some 0), (53, some 5)], [(54, some 6)], [(55, some 7)], [(47, some 8)], [(47, some 8)]] [?b27_0, ?b27_1, ?b27_2, ?b27_3, ?b27_4, ?b27_5, ?b27_6, ?b27_7, ?b27_7, ?b27_9, ?b27_10] (by kernel_rfl) (by kernel_rfl) hr ?t27 ?o27 ?_
     case o27 =>
      refine oc0 (fun A W hx hf => ?_) ?_
      exact ok_movE (a0 := a26) (r0 hf)
      refine oc0 (fun A W hx hf => ?_) ?_
      exact ok_movE (a0 := a26) (r0 hf)
      refine oc0 (fun A W hx hf => ?_) ?_
      exact ok_convI Try.underlying5 Try.underlying3 (by exact IntWalk.i64_in _ (by omega)) (p2 s2 e_w hx (q0 ?b27_1 A W 49 hf))
      refine oc0 (fun A W hx hf => ?_) ?_
      exact ok_movE (a0 := a26) (r0 hf)
      refine oc0 (fun A W hx hf => ?_) ?_
      exact ok_len_bs Try.underlying22 (OwnBA.bs (p2 s7 e_w25 hx (q0 ?b27_3 A W 51 hf)))
      refine oc0 (fun A W hx hf => ?_) ?_
      exact ok_rem (by omega) (q0 ?b27_2 A W 50 hf) (q1 ?b27_4 A W 52 hf)
      refine oc0 (fun A W hx hf => ?_) ?_
      exact ok_slice_hi (K) Try.underlying22 size5 (OwnBA.bs (p2 s7 e_w25 hx (q0 ?b27_0 A W 48 hf))) (Is.int (q1 ?b27_5 A W 53 hf) (by exact hK)) (by omega)
      refine oc0 (fun A W hx hf => ?_) ?_
      exact ok_call1 body10 (c_lRead (q0 ?b27_6 A W 54 hf) hx.size)
      refine oc0 (fun A W hx hf => ?_) ?_
      exact ok_move (q0 ?b27_7 A W 55 hf)
      refine oc0 (fun A W hx hf => ?_) ?_
      exact ok_ext0 (q0 ?b27_7 A W 47 hf)
      refine oc0 (fun A W hx hf => ?_) ?_
      exact ok_ext1 (q0 ?b27_7 A W 47 hf)
      exact OpsOk.nil
     case t27 => exact inferInstance
     clear hr; intro a28 w28 x hr hd hs
     have l28_3 := PxS.lt (later e_w25 s3)
     have l28_7 := OwnBA.lt (later e_w25 s7)
     have l28_9 := PxS.lt (later e_w25 s9)
     have l28_gA := OwnRA.lt (later e_w25 gA)
     revert s10; revert s9; revert s7; revert s3; refine kp4 hs rfl ?_; intro s3 s7 s9 s10
     clear s2
     have s56 := fa ?b27_9 a28 w28 56 (hd 9 56 rfl)
     have s57 := fa ?b27_10 a28 w28 57 (hd 10 57 rfl)
     obtain ⟨sv56, s56, gB⟩ := LinkO.open s56; obtain ⟨g28_56, gB⟩ := OwnR.at gB; have n28_56 := OwnRA.lt gB
     replace gB := OwnRA.mono gB e_w.size
     replace e_w := e_w.trans x
     replace e_w25 := e_w25.trans x
     have e_w26 := x
     clear hd hs x
     have l29_3 := PxS.lt (later e_w25 s3)
     have l29_7 := OwnBA.lt (later e_w25 s7)
     have l29_9 := PxS.lt (later e_w25 s9)
     have l29_gA := OwnRA.lt (later e_w25 gA)
     have l29_gB := OwnRA.lt gB
     refine wl_op hr (ok_allocS [(lnkS link0 (.slice none 0 0)).flatten] [15] zerov27 (by rfl) (by rfl) (Nat.le_refl _)) inferInstance ?_; clear hr; intro a29 w29 x hr hd hs
     revert s56; revert s57; revert s10; revert s9; revert s7; revert s3; refine kp6 hs rfl ?_; intro s3 s7 s9 s10 s57 s56
     have s11 := hd 11 rfl (by decide)
     obtain ⟨g29_11, q29_11⟩ := PxN.at s11; clear s11; have n29_11 := PxS.lt q29_11
     replace q29_11 := PxS.mono q29_11 e_w.size
     have s11 := q29_11; clear q29_11
     replace e_w := e_w.trans x
     replace e_w25 := e_w25.trans x
     replace e_w26 := e_w26.trans x
     have e_w28 := x
     clear hd hs x
     have z30 := PxS.lt s11
     have l30 := (show (g29_11 = 0 ∨ w.heap.size < g29_11) ∧ True from ⟨by omega, trivial⟩)
     have l30_3 := PxS.lt (later e_w25 s3)
     have l30_7 := OwnBA.lt (later e_w25 s7)
     have l30_9 := PxS.lt (later e_w25 s9)
     have l30_gA := OwnRA.lt (later e_w25 gA)
     have l30_gB := OwnRA.lt (later e_w28 gB)
     refine wl_storeSn hr size27 s11 (later e_w28 s56) (by exact lnk_len (linkRead_ok _)) (by exact lnk_one (rw_one (OwnRA.rw (later e_w28 gB)))) rfl ?_; clear hr; intro a30 w30 hc hu hr hs
     have hb : Below w.heap.size w29 w30 := hc.below e_w.size l30.1
     revert s57; revert s10; revert s9; revert s7; revert s3; refine kp5 hs rfl ?_; intro s3 s7 s9 s10 s57
     clear s56 s11
     replace s3 := PxS.other (later e_w25 s3) hc (by omega)
     replace s7 := OwnBA.other (later e_w25 s7) hc (by omega)
     replace s9 := PxS.other (later e_w25 s9) hc (by omega)
     replace gA := OwnRA.other (later e_w25 gA) hc (by omega)
     replace gB := OwnRA.other (later e_w28 gB) hc (by omega)
     replace e_w := e_w.below (Nat.le_refl _) hb
     clear e_w25
     clear e_w26
     clear e_w28
     replace s10 := anyw (w2 := w30) s10
     replace s57 := anyw (w2 := w30) s57
     clear hu hs hc hb
     refine wl_op hr (ok_assign s57) inferInstance ?_; clear hr; intro a31 w31 x hr hd hs
     revert s10; revert s9; revert s7; revert s3; refine kp4 hs rfl ?_; intro s3 s7 s9 s10
     clear s57
     have s12 := hd 12 rfl (by decide)
     replace e_w := e_w.trans x
     have e_w30 := x
     clear hd hs x
     refine wpList_nil ?_
     replace s12 := Is.int s12 (show _ = (2 : Int) from by rw [hb2])
     refine exit_then ?_
     refine wp_seq ?_
     refine wp_reg_pre (l := [_, _]) (rest := [_]) 83 [[(3, none)], []] [?b32_0, ?b32_1] (by kernel_rfl) (by kernel_rfl) hr ?t32 ?o32 ?_
     case o32 =>
      refine oc0 (fun A W hx hf => ?_) ?_
      exact ok_loadAggS 5 Try.underlying27 rfl size27 (o2 s3 e_w30 hx (r0 hf)) rfl
      refine oc0 (fun A W hx hf => ?_) ?_
      exact ok_allocS (lnkS link0 (.slice none 0 0)) [6, 6, 1, 1, 1] zerov27 (by rfl) (by rfl) hx.size
      exact OpsOk.nil
     case t32 => exact inferInstance
     clear hr; intro a33 w33 x hr hd hs
     have z_w_w31 := e_w.size
     have z_w30_w31 := e_w30.size
     have l33_3 := PxS.lt (later e_w30 s3)
     have l33_7 := OwnBA.lt (later e_w30 s7)
     have l33_9 := PxS.lt (later e_w30 s9)
     have l33_gA := OwnRA.lt (later e_w30 gA)
     have l33_gB := OwnRA.lt (later e_w30 gB)
     revert s12; revert s10; revert s9; revert s7; revert s3; refine kp5 hs rfl ?_; intro s3 s7 s9 s10 s12
     have s58 := fa ?b32_0 a33 w33 58 (hd 0 58 rfl)
     have s13 := fa ?b32_1 a33 w33 13 (hd 1 13 rfl)
     obtain ⟨g33_13, q33_13⟩ := PxN.at s13; clear s13; have n33_13 := PxS.lt q33_13
     replace q33_13 := PxS.mono q33_13 e_w.size
     have s13 := q33_13; clear q33_13
     replace e_w := e_w.trans x
     replace e_w30 := e_w30.trans x
     have e_w31 := x
     clear hd hs x
     have z34 := PxS.lt s13
     have l34 := (show (g33_13 = 0 ∨ w.heap.size < g33_13) ∧ True from ⟨by omega, trivial⟩)
     have l34_3 := PxS.lt (later e_w30 s3)
     have l34_7 := OwnBA.lt (later e_w30 s7)
     have l34_9 := PxS.lt (later e_w30 s9)
     have l34_gA := OwnRA.lt (later e_w30 gA)
     have l34_gB := OwnRA.lt (later e_w30 gB)
     refine wl_storeSm (lnkS L v) hr size27 s13 s58 (by exact lnkS_lens hL) (by exact lnk_one hvh0) rfl ?_; clear hr; intro a34 w34 hc hu hr hs
     have hb : Below w.heap.size w33 w34 := hc.below e_w.size l34.1
     revert s13; revert s12; revert s10; revert s9; revert s7; revert s3; refine kp6 hs rfl ?_; intro s3 s7 s9 s10 s12 s13
     clear s58
     replace s3 := PxS.other (later e_w30 s3) hc (by omega)
     replace s7 := OwnBA.other (later e_w30 s7) hc (by omega)
     replace s9 := PxS.other (later e_w30 s9) hc (by omega)
     replace s13 := hu _ _ _ s13
     try simp only [List.set_cons_zero, List.set_cons_succ, lnkS] at s13
     replace gA := OwnRA.other (later e_w30 gA) hc (by omega)
     replace gB := OwnRA.other (later e_w30 gB) hc (by omega)
     replace e_w := e_w.below (Nat.le_refl _) hb
     clear e_w30
     clear e_w31
     replace s10 := anyw (w2 := w34) s10
     replace s12 := anyw (w2 := w34) s12
     clear hu hs hc hb
     refine wpList_nil ?_
     refine exit_then ?_
     refine wp_seq ?_
     refine wp_reg_pre (l := [_, _, _, _, _, _]) (rest := [_]) 83 [[(3, none)], [(59, some 0)], [(60, some 1)], [(61, some 2)], [(62, some 3)], [(13, none)]] [?b35_0, ?b35_1, ?b35_2, ?b35_3, ?b35_4, ?b35_5] (by kernel_rfl) (by kernel_rfl) hr ?t35 ?o35 ?_
     case o35 =>
      refine oc0 (fun A W hx hf => ?_) ?_
      exact ok_fieldS 2 Try.underlying27 (k := 2) rfl size25 rfl (o1 s3 hx (r0 hf)) rfl
      refine oc0 (fun A W hx hf => ?_) ?_
      exact ok_is (ok_loadS Try.underlying25 rfl (q0 ?b35_0 A W 59 hf) rfl) (later (e_w.trans hx) hT)
      refine oc0 (fun A W hx hf => ?_) ?_
      exact ok_len_rw Try.underlying25 (q0 ?b35_1 A W 60 hf)
      refine oc0 (fun A W hx hf => ?_) ?_
      exact ok_mulI (ec A (.int .i64 4)) (q0 ?b35_2 A W 61 hf) (by omega)
      refine oc0 (fun A W hx hf => ?_) ?_
      exact ok_addI (ec A (.int .i64 14)) (q0 ?b35_3 A W 62 hf) (by omega)
      refine oc0 (fun A W hx hf => ?_) ?_
      exact ok_fieldS 4 Try.underlying27 (k := 4) rfl size3 rfl (o1 s13 hx (r0 hf)) rfl
      exact OpsOk.nil
     case t35 => exact inferInstance
     clear hr; intro a36 w36 x hr hd hs
     revert s12; revert s10; revert s13; revert s9; revert s7; refine kp5 hs rfl ?_; intro s7 s9 s13 s10 s12
     clear s3
     have s63 := fa ?b35_4 a36 w36 63 (hd 4 63 rfl)
     have s64 := fa ?b35_5 a36 w36 64 (hd 5 64 rfl)
     replace e_w := e_w.trans x
     have e_w34 := x
     clear hd hs x
     have z37 := PxS.lt s64
     have l37 := (show (g33_13 = 0 ∨ w.heap.size < g33_13) ∧ True from ⟨by omega, trivial⟩)
     have l37_7 := OwnBA.lt (later e_w34 s7)
     have l37_9 := PxS.lt (later e_w34 s9)
     have l37_gA := OwnRA.lt (later e_w34 gA)
     have l37_gB := OwnRA.lt (later e_w34 gB)
     refine wl_storeS hr size3 s64 s63 (by rfl) rfl ?_; clear hr; intro a37 w37 hc hu hr hs
     have hb : Below w.heap.size w36 w37 := hc.below e_w.size l37.1
     revert s12; revert s10; revert s13; revert s9; revert s7; refine kp5 hs rfl ?_; intro s7 s9 s13 s10 s12
     clear s63 s64
     replace s7 := OwnBA.other (later e_w34 s7) hc (by omega)
     replace s9 := PxS.other (later e_w34 s9) hc (by omega)
     replace s13 := hu _ _ _ (later e_w34 s13)
     try simp only [List.set_cons_zero, List.set_cons_succ, lnkS] at s13
     replace gA := OwnRA.other (later e_w34 gA) hc (by omega)
     replace gB := OwnRA.other (later e_w34 gB) hc (by omega)
     replace e_w := e_w.below (Nat.le_refl _) hb
     clear e_w34
     replace s10 := anyw (w2 := w37) s10
     replace s12 := anyw (w2 := w37) s12
     clear hu hs hc hb
     refine wpList_nil ?_
     replace s13 := PxS.cast s13 (show _ = lnkS { L with at' := 14 + 4 * (L.tags.length : Int) } v from rfl)
     refine exit_then ?_
     refine wp_seq ?_
     refine wp_reg 83 [[(10, none)], [(65, some 0)], [(66, some 1)], [(9, none), (67, some 2)], [(13, none), (67, some 2)], [(68, some 3), (69, some 4), (67, some 2)], [(67, some 2), (70, some 5)], [(71, some 6)], [(7, none), (72, some 7)], [(73, some 8), (72, some 7)], [(13, none), (72, some 7)], [(75, some 10), (72, some 7)], [(74, some 9), (76, some 11), (72, some 7)], [(72, some 7), (77, some 12)], [(78, some 13)], [(12, none), (79, some 14)], [(80, some 15), (79, some 14)], [(79, some 14), (81, some 16)], [(82, some 17)]] [?b38_0, ?b38_1, ?b38_1, ?b38_3, ?b38_4, ?b38_5, ?b38_6, ?b38_6, ?b38_8, ?b38_9, ?b38_10, ?b38_11, ?b38_12, ?b38_13, ?b38_13, ?b38_15, ?b38_16, ?b38_17, ?b38_17] mixed (by kernel_rfl) (by kernel_rfl) hr ?t38 ?o38 ?_
     case o38 =>
      refine oc0 (fun A W hx hf => ?_) ?_
      exact ok_movE (a0 := a37) (r0 hf)
      refine oc0 (fun A W hx hf => ?_) ?_
      exact ok_eql (p1 s10 hx (q0 ?b38_0 A W 65 hf)) (ec A (.int .i64 0))
      refine oc0 (fun A W hx hf => ?_) ?_
      exact ok_move (q0 ?b38_1 A W 66 hf)
      refine ocg 67 ?_ (fun A W hx hf => ?_) ?_
      rfl
      exact gd_t (q1 ?b38_1 A W 67 hf) (fun hc => ok_loadSeg Try.underlying27 rfl size27 (o1 s9 hx (r0 hf)) rfl rfl)
      refine ocg 67 ?_ (fun A W hx hf => ?_) ?_
      rfl
      exact gd_t (q1 ?b38_1 A W 67 hf) (fun hc => ok_loadAggS 5 Try.underlying27 rfl size27 (o1 s13 hx (r0 hf)) rfl)
      refine ocg 67 ?_ (fun A W hx hf => ?_) ?_
      rfl
      exact gd_t (q2 ?b38_1 A W 67 hf) (fun hc => ok_call2 body12 (c_r7Same (LinkV.of (show Is (LnkA { L with at' := 14 + 4 * (L.tags.length : Int) } sv45) _ _ from Is.conv (G.get (q0 ?b38_3 A W 68 hf) hc) (by rw [List.nil_append, hb1]; rfl)) (Rw.cast (OwnRA.rw (later hx gA)) (by rw [List.nil_append, hb1]))) (LinkV.of (show Is (LnkA { L with at' := 14 + 4 * (L.tags.length : Int) } v) _ _ from (G.get (q1 ?b38_4 A W 69 hf) hc)) (later (e_w.trans hx) hT)) (by exact hL)))
      refine oc0 (fun A W hx hf => ?_) ?_
      exact ok_and (q0 ?b38_1 A W 67 hf) (q1 ?b38_5 A W 70 hf)
      refine oc0 (fun A W hx hf => ?_) ?_
      exact ok_move (q0 ?b38_6 A W 71 hf)
      refine ocg 72 ?_ (fun A W hx hf => ?_) ?_
      rfl
      exact gd_t (q1 ?b38_6 A W 72 hf) (fun hc => ok_movE (a0 := a37) (r0 hf))
      refine ocg 72 ?_ (fun A W hx hf => ?_) ?_
      rfl
      exact gd_t (q1 ?b38_6 A W 72 hf) (fun hc => ok_len_bs Try.underlying22 (OwnBA.bs (p1 s7 hx (G.get (q0 ?b38_8 A W 73 hf) hc))))
      refine ocg 72 ?_ (fun A W hx hf => ?_) ?_
      rfl
      exact gd_t (q1 ?b38_6 A W 72 hf) (fun hc => ok_fieldS 4 Try.underlying27 (k := 4) rfl size3 rfl (o1 s13 hx (r0 hf)) rfl)
      refine ocg 72 ?_ (fun A W hx hf => ?_) ?_
      rfl
      exact gd_t (q1 ?b38_6 A W 72 hf) (fun hc => ok_loadS Try.underlying3 rfl (G.get (q0 ?b38_10 A W 75 hf) hc) rfl)
      refine ocg 72 ?_ (fun A W hx hf => ?_) ?_
      rfl
      exact gd_t (q2 ?b38_6 A W 72 hf) (fun hc => ok_eql (G.get (q0 ?b38_9 A W 74 hf) hc) (G.get (q1 ?b38_11 A W 76 hf) hc))
      refine oc0 (fun A W hx hf => ?_) ?_
      exact ok_and (q0 ?b38_6 A W 72 hf) (q1 ?b38_12 A W 77 hf)
      refine oc0 (fun A W hx hf => ?_) ?_
      exact ok_move (q0 ?b38_13 A W 78 hf)
      refine ocg 79 ?_ (fun A W hx hf => ?_) ?_
      rfl
      exact gd_t (q1 ?b38_13 A W 79 hf) (fun hc => ok_movE (a0 := a37) (r0 hf))
      refine ocg 79 ?_ (fun A W hx hf => ?_) ?_
      rfl
      exact gd_t (q1 ?b38_13 A W 79 hf) (fun hc => ok_eql (p1 s12 hx (G.get (q0 ?b38_15 A W 80 hf) hc)) (ec A (.int .i64 2)))
      refine oc0 (fun A W hx hf => ?_) ?_
      exact ok_and (q0 ?b38_13 A W 79 hf) (q1 ?b38_16 A W 81 hf)
      refine oc0 (fun A W hx hf => ?_) ?_
      exact ok_assign (q0 ?b38_17 A W 82 hf)
      exact OpsOk.nil
     case t38 => exact inferInstance
     clear hr; intro a39 w39 x hr hd hs
     clear s7 s9 s10 s12 s13
     have s6 := fa ?b38_17 a39 w39 6 (hd 18 6 rfl)
     replace e_w := e_w.trans x
     have e_w37 := x
     clear hd hs x
     refine exit_then ?_
     refine wp_ret ?_
     refine ret_tmp Try.results5 hr e_w ?_
     first | with_reducible exact s6 | exact Is.bool s6 (by rw [hp1]; rfl) | exact Is.bool s6 (by simp [hpl]) | exact Is.bool s6 (by simp [hpl]; omega)

end Go.Proofs.Ytdbjpfjnambenaa
