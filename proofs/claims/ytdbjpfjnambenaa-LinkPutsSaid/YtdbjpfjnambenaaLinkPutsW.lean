import Derived.Test.YtdbjpfjnambenaaA07
import Derived.Test.YtdbjpfjnambenaaC07e
import Derived.Test.YtdbjpfjnambenaaC07f
namespace Go.Proofs.Ytdbjpfjnambenaa
open Go.RowKit
set_option linter.unusedVariables false
set_option maxRecDepth 4000
theorem law_LinkPuts {x0 : Value} {w : World} {L : LinkL} (h0 : (LinkV L) x0 w) (hL : LinkOk L) :
    Calls Try.prog 4 #[x0] w (Ret (Is (.bool true)) w) := by
 obtain ⟨v, eh0, hT, hvh0⟩ := h0
 replace h0 : Is (LnkA L v) x0 w := eh0
 have htl := Rw.len_le hT
 refine enter Try.func4 rfl Try.ntmps4 (k := 1) rfl (by decide) (fun a0 hr hargs => ?_)
 have s0 := sarg h0 (hargs 0 (by decide))
 clear hargs
 refine wp_seq ?_
 refine wp_reg 37 [[(0, none)], []] [?b1_0, ?b1_1] mixed (by kernel_rfl) (by kernel_rfl) hr ?t1 ?o1 ?_
 case o1 =>
  refine oc0 (fun A W hx hf => ?_) ?_
  exact ok_boxS (lnkS L v) [6, 6, 1, 1, 1] (o1 s0 hx (r0 hf)) (by exact lnkS_lens hL) hx.size
  refine oc0 (fun A W hx hf => ?_) ?_
  exact ok_assignc
  exact OpsOk.nil
 case t1 => exact inferInstance
 clear hr; intro a2 w2 x hr hd hs
 clear s0
 have s1 := fa ?b1_0 a2 w2 1 (hd 0 1 rfl)
 obtain ⟨g2_1, q2_1⟩ := PxN.at s1; clear s1; have n2_1 := PxS.lt q2_1
 have s1 := q2_1; clear q2_1
 have e_w := x
 clear hd hs x
 refine exit_then ?_
 refine wp_seq ?_
 refine wp_seq ?_
 refine wp_reg 37 [[], [(5, some 0)], [(6, some 1)], [(1, none), (7, some 2)], [(8, some 3), (7, some 2)], [(9, some 4), (7, some 2)], [(10, some 5), (7, some 2)], [(7, some 2), (11, some 6)]] [?b3_0, ?b3_1, ?b3_1, ?b3_3, ?b3_4, ?b3_5, ?b3_6, ?b3_7] mixed (by kernel_rfl) (by kernel_rfl) hr ?t3 ?o3 ?_
 case o3 =>
  refine oc0 (fun A W hx hf => ?_) ?_
  exact ok_call0 body9 (c_awake07 )
  refine oc0 (fun A W hx hf => ?_) ?_
  exact ok_not (q0 ?b3_0 A W 5 hf)
  refine oc0 (fun A W hx hf => ?_) ?_
  exact ok_move (q0 ?b3_1 A W 6 hf)
  refine ocg 7 ?_ (fun A W hx hf => ?_) ?_
  rfl
  exact gd_f (q1 ?b3_1 A W 7 hf) (fun hc => ok_fieldS 2 Try.underlying27 (k := 2) rfl size25 rfl (o1 s1 hx (r0 hf)) rfl)
  refine ocg 7 ?_ (fun A W hx hf => ?_) ?_
  rfl
  exact gd_f (q1 ?b3_1 A W 7 hf) (fun hc => ok_is (ok_loadS Try.underlying25 rfl (G.get (q0 ?b3_3 A W 8 hf) hc) rfl) (later (e_w.trans hx) hT))
  refine ocg 7 ?_ (fun A W hx hf => ?_) ?_
  rfl
  exact gd_f (q1 ?b3_1 A W 7 hf) (fun hc => ok_len_rw Try.underlying25 (G.get (q0 ?b3_4 A W 9 hf) hc))
  refine ocg 7 ?_ (fun A W hx hf => ?_) ?_
  rfl
  exact gd_f (q1 ?b3_1 A W 7 hf) (fun hc => ok_gtr (G.get (q0 ?b3_5 A W 10 hf) hc) (ec A (.int .i64 100)))
  refine oc0 (fun A W hx hf => ?_) ?_
  exact ok_or (q0 ?b3_1 A W 7 hf) (q1 ?b3_6 A W 11 hf)
  exact OpsOk.nil
 case t3 => exact inferInstance
 clear hr; intro a4 w4 x hr hd hs
 revert s1; refine kp1 hs rfl ?_; intro s1
 have s12 := fa ?b3_7 a4 w4 12 (hd 7 12 rfl)
 replace e_w := e_w.trans x
 have e_w2 := x
 clear hd hs x
 refine exit_then ?_
 refine wp_cond_split (show _ = _ from s12) (fun hl => ?_) (fun hl => ?_)
 · skip
   skip
   refine wp_seq ?_
   refine wp_reg 37 [[], [(13, some 0)]] [?b6_0, ?b6_0] mixed (by kernel_rfl) (by kernel_rfl) hr ?t6 ?o6 ?_
   case o6 =>
    refine oc0 (fun A W hx hf => ?_) ?_
    exact ok_call0 body9 (c_awake07 )
    refine oc0 (fun A W hx hf => ?_) ?_
    exact ok_assign (q0 ?b6_0 A W 13 hf)
    exact OpsOk.nil
   case t6 => exact inferInstance
   clear hr; intro a7 w7 x hr hd hs
   clear s1 s12
   have s2 := fa ?b6_0 a7 w7 2 (hd 1 2 rfl)
   replace e_w := e_w.trans x
   clear e_w2
   clear hd hs x
   refine exit_then ?_
   refine wp_ret ?_
   refine then_ret ?_
   refine ret_tmp Try.results4 hr e_w ?_
   first | with_reducible exact s2 | exact Is.bool s2 (by simp [linkPutR, hr9]) | exact Is.bool s2 (by simp)
 · skip
   skip
   refine wp_skip ?_
   refine exit_then ?_
   refine wp_seq ?_
   refine wp_reg 37 [[(1, none)], [(15, some 0)], [(16, some 1)], [(14, some 2)], [(14, some 2)], [(17, some 3)], [(18, some 4)]] [?b8_0, ?b8_1, ?b8_1, ?b8_3, ?b8_4, ?b8_3, ?b8_4] mixed (by kernel_rfl) (by kernel_rfl) hr ?t8 ?o8 ?_
   case o8 =>
    refine oc0 (fun A W hx hf => ?_) ?_
    exact ok_loadAggS 5 Try.underlying27 rfl size27 (o2 s1 e_w2 hx (r0 hf)) rfl
    refine oc0 (fun A W hx hf => ?_) ?_
    exact ok_call1 body13 (c_lPut (LinkV.of (show Is (LnkA L v) _ _ from (q0 ?b8_0 A W 15 hf)) (later (e_w.trans hx) hT)) (by exact hL) hx.size)
    refine oc0 (fun A W hx hf => ?_) ?_
    exact ok_move (q0 ?b8_1 A W 16 hf)
    refine oc0 (fun A W hx hf => ?_) ?_
    exact ok_ext0 (q0 ?b8_1 A W 14 hf)
    refine oc0 (fun A W hx hf => ?_) ?_
    exact ok_ext1 (q0 ?b8_1 A W 14 hf)
    refine oc0 (fun A W hx hf => ?_) ?_
    exact ok_assign (q0 ?b8_3 A W 17 hf)
    refine oc0 (fun A W hx hf => ?_) ?_
    exact ok_assign (q0 ?b8_4 A W 18 hf)
    exact OpsOk.nil
   case t8 => exact inferInstance
   clear hr; intro a9 w9 x hr hd hs
   have z_w_w4 := e_w.size
   have z_w2_w4 := e_w2.size
   have l9_1 := PxS.lt (later e_w2 s1)
   revert s1; refine kp1 hs rfl ?_; intro s1
   clear s12
   have s3 := fa ?b8_3 a9 w9 3 (hd 5 3 rfl)
   have s4 := fa ?b8_4 a9 w9 4 (hd 6 4 rfl)
   obtain ⟨g9_3, q9_3⟩ := OwnB.at s3; clear s3; have n9_3 := OwnBA.lt q9_3
   replace q9_3 := OwnBA.mono q9_3 e_w.size
   have s3 := q9_3; clear q9_3
   replace e_w := e_w.trans x
   replace e_w2 := e_w2.trans x
   clear hd hs x
   refine exit_then ?_
   refine wp_seq ?_
   refine wp_seq ?_
   refine wp_reg 37 [[(1, none)], [(19, some 0)], [(20, some 1)]] [?b10_0, ?b10_1, ?b10_2] mixed (by kernel_rfl) (by kernel_rfl) hr ?t10 ?o10 ?_
   case o10 =>
    refine oc0 (fun A W hx hf => ?_) ?_
    exact ok_loadAggS 5 Try.underlying27 rfl size27 (o2 s1 e_w2 hx (r0 hf)) rfl
    refine oc0 (fun A W hx hf => ?_) ?_
    exact ok_call1 body14 (c_r7Right (LinkV.of (show Is (LnkA L v) _ _ from (q0 ?b10_0 A W 19 hf)) (later (e_w.trans hx) hT)) (by exact hL))
    refine oc0 (fun A W hx hf => ?_) ?_
    exact ok_not (q0 ?b10_1 A W 20 hf)
    exact OpsOk.nil
   case t10 => exact inferInstance
   clear hr; intro a11 w11 x hr hd hs
   revert s3; revert s4; revert s1; refine kp3 hs rfl ?_; intro s1 s4 s3
   have s21 := fa ?b10_2 a11 w11 21 (hd 2 21 rfl)
   replace e_w := e_w.trans x
   replace e_w2 := e_w2.trans x
   have e_w9 := x
   clear hd hs x
   refine exit_then ?_
   refine wp_cond_split (show _ = _ from s21) (fun hr9 => ?_) (fun hr9 => ?_)
   · skip
     have hr9 : linkRight L = false := by simpa using hr9
     refine wp_seq ?_
     refine wp_reg 37 [[(4, none)], [(22, some 0)], [(23, some 1)], [(3, none), (24, some 2)], [(25, some 3), (24, some 2)], [(26, some 4), (24, some 2)], [(24, some 2), (27, some 5)], [(28, some 6)]] [?b13_0, ?b13_1, ?b13_1, ?b13_3, ?b13_4, ?b13_5, ?b13_6, ?b13_6] mixed (by kernel_rfl) (by kernel_rfl) hr ?t13 ?o13 ?_
     case o13 =>
      refine oc0 (fun A W hx hf => ?_) ?_
      exact ok_movE (a0 := a11) (r0 hf)
      refine oc0 (fun A W hx hf => ?_) ?_
      exact ok_eql (p2 s4 e_w9 hx (q0 ?b13_0 A W 22 hf)) (ec A (.int .i64 1))
      refine oc0 (fun A W hx hf => ?_) ?_
      exact ok_move (q0 ?b13_1 A W 23 hf)
      refine ocg 24 ?_ (fun A W hx hf => ?_) ?_
      rfl
      exact gd_t (q1 ?b13_1 A W 24 hf) (fun hc => ok_movE (a0 := a11) (r0 hf))
      refine ocg 24 ?_ (fun A W hx hf => ?_) ?_
      rfl
      exact gd_t (q1 ?b13_1 A W 24 hf) (fun hc => ok_len_bs Try.underlying22 (OwnBA.bs (p2 s3 e_w9 hx (G.get (q0 ?b13_3 A W 25 hf) hc))))
      refine ocg 24 ?_ (fun A W hx hf => ?_) ?_
      rfl
      exact gd_t (q1 ?b13_1 A W 24 hf) (fun hc => ok_eql (G.get (q0 ?b13_4 A W 26 hf) hc) (ec A (.int .i64 0)))
      refine oc0 (fun A W hx hf => ?_) ?_
      exact ok_and (q0 ?b13_1 A W 24 hf) (q1 ?b13_5 A W 27 hf)
      refine oc0 (fun A W hx hf => ?_) ?_
      exact ok_assign (q0 ?b13_6 A W 28 hf)
      exact OpsOk.nil
     case t13 => exact inferInstance
     clear hr; intro a14 w14 x hr hd hs
     clear s1 s4 s3 s21
     have s2 := fa ?b13_6 a14 w14 2 (hd 7 2 rfl)
     replace e_w := e_w.trans x
     clear e_w2
     clear e_w9
     clear hd hs x
     refine exit_then ?_
     refine wp_ret ?_
     refine then_ret ?_
     refine ret_tmp Try.results4 hr e_w ?_
     first | with_reducible exact s2 | exact Is.bool s2 (by simp [linkPutR, hr9]) | exact Is.bool s2 (by simp)
   · skip
     have hr9 : linkRight L = true := by simpa using hr9
     refine wp_skip ?_
     refine exit_then ?_
     refine wp_seq ?_
     refine wp_reg 37 [[(4, none)], [(29, some 0)], [(30, some 1)], [(3, none), (31, some 2)], [(1, none), (31, some 2)], [(33, some 4), (31, some 2)], [(32, some 3), (34, some 5), (31, some 2)], [(31, some 2), (35, some 6)], [(36, some 7)]] [?b15_0, ?b15_1, ?b15_1, ?b15_3, ?b15_4, ?b15_5, ?b15_6, ?b15_7, ?b15_7] mixed (by kernel_rfl) (by kernel_rfl) hr ?t15 ?o15 ?_
     case o15 =>
      refine oc0 (fun A W hx hf => ?_) ?_
      exact ok_movE (a0 := a11) (r0 hf)
      refine oc0 (fun A W hx hf => ?_) ?_
      exact ok_eql (p2 s4 e_w9 hx (q0 ?b15_0 A W 29 hf)) (ec A (.int .i64 0))
      refine oc0 (fun A W hx hf => ?_) ?_
      exact ok_move (q0 ?b15_1 A W 30 hf)
      refine ocg 31 ?_ (fun A W hx hf => ?_) ?_
      rfl
      exact gd_t (q1 ?b15_1 A W 31 hf) (fun hc => ok_movE (a0 := a11) (r0 hf))
      refine ocg 31 ?_ (fun A W hx hf => ?_) ?_
      rfl
      exact gd_t (q1 ?b15_1 A W 31 hf) (fun hc => ok_loadAggS 5 Try.underlying27 rfl size27 (o2 s1 e_w2 hx (r0 hf)) rfl)
      refine ocg 31 ?_ (fun A W hx hf => ?_) ?_
      rfl
      exact gd_t (q1 ?b15_1 A W 31 hf) (fun hc => ok_call1 body16 (c_r7Put (LinkV.of (show Is (LnkA L v) _ _ from (G.get (q0 ?b15_4 A W 33 hf) hc)) (later (e_w.trans hx) hT)) (by exact hL) (by exact hr9) hx.size))
      refine ocg 31 ?_ (fun A W hx hf => ?_) ?_
      rfl
      exact gd_t (q2 ?b15_1 A W 31 hf) (fun hc => ok_call2 body15 (c_Same (OwnBA.bs (p2 s3 e_w9 hx (G.get (q0 ?b15_3 A W 32 hf) hc))) (OwnB.bs (G.get (q1 ?b15_5 A W 34 hf) hc))))
      refine oc0 (fun A W hx hf => ?_) ?_
      exact ok_and (q0 ?b15_1 A W 31 hf) (q1 ?b15_6 A W 35 hf)
      refine oc0 (fun A W hx hf => ?_) ?_
      exact ok_assign (q0 ?b15_7 A W 36 hf)
      exact OpsOk.nil
     case t15 => exact inferInstance
     clear hr; intro a16 w16 x hr hd hs
     have z_w_w11 := e_w.size
     have z_w2_w11 := e_w2.size
     have z_w9_w11 := e_w9.size
     clear s1 s4 s3 s21
     have s2 := fa ?b15_7 a16 w16 2 (hd 8 2 rfl)
     replace e_w := e_w.trans x
     clear e_w2
     clear e_w9
     clear hd hs x
     refine exit_then ?_
     refine wp_ret ?_
     refine ret_tmp Try.results4 hr e_w ?_
     first | with_reducible exact s2 | exact Is.bool s2 (by simp [linkPutR, hr9]) | exact Is.bool s2 (by simp)

end Go.Proofs.Ytdbjpfjnambenaa
