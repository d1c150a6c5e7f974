import Derived.Test.YtdohlcakoamdhaaA09
import Derived.Test.YtdohlcakoamdhaaC09f
import Derived.Test.YtdohlcakoamdhaaC06b
namespace Go.Proofs.Ytdohlcakoamdhaa
open Go.RowKit
set_option linter.unusedVariables false
set_option maxRecDepth 4000
theorem law_SixPuts {x0 : Value} {w : World} {H : SixL} (h0 : (Is (SixV H)) x0 w) (hH : SixOk H) :
    Calls Try.prog 4 #[x0] w (Ret (Is (.bool true)) w) := by
 refine enter Try.func4 rfl Try.ntmps4 (k := 1) rfl (by decide) (fun a0 hr hargs => ?_)
 have s0 := sarg h0 (hargs 0 (by decide))
 clear hargs
 refine wp_seq ?_
 refine wp_reg 30 [[(0, none)], []] [?b1_0, ?b1_1] mixed (by kernel_rfl) (by kernel_rfl) hr ?t1 ?o1 ?_
 case o1 =>
  refine oc0 (fun A W hx hf => ?_) ?_
  exact ok_boxA (o1 s0 hx (r0 hf))
  refine oc0 (fun A W hx hf => ?_) ?_
  exact ok_assignc
  exact OpsOk.nil
 case t1 => exact inferInstance
 clear hr; intro a2 w2 x hr hd hs
 clear s0
 have s1 := fa ?b1_0 a2 w2 1 (hd 0 1 rfl)
 have e_w := x
 clear hd hs x
 refine exit_then ?_
 refine wp_seq ?_
 refine wp_seq ?_
 refine wp_reg 30 [[], [(5, some 0)]] [?b3_0, ?b3_1] mixed (by kernel_rfl) (by kernel_rfl) hr ?t3 ?o3 ?_
 case o3 =>
  refine oc0 (fun A W hx hf => ?_) ?_
  exact ok_call0 body9 (c_awake09 )
  refine oc0 (fun A W hx hf => ?_) ?_
  exact ok_not (q0 ?b3_0 A W 5 hf)
  exact OpsOk.nil
 case t3 => exact inferInstance
 clear hr; intro a4 w4 x hr hd hs
 revert s1; refine kp1 hs rfl ?_; intro s1
 have s6 := fa ?b3_1 a4 w4 6 (hd 1 6 rfl)
 replace e_w := e_w.trans x
 have e_w2 := x
 clear hd hs x
 refine exit_then ?_
 refine wp_cond_split (show _ = _ from s6) (fun ha => ?_) (fun ha => ?_)
 · skip
   simp at ha
 · skip
   try simp only [decide_eq_true_eq, decide_eq_false_iff_not, Bool.not_eq_true', Bool.not_eq_false', Bool.not_true, Bool.not_false, Bool.and_eq_true, Bool.and_eq_false_iff, Bool.or_eq_true, Bool.or_eq_false_iff, bne_iff_ne, beq_iff_eq, ne_eq, beq_eq_false_iff_ne, bne_eq_false_iff_eq] at ha
   refine wp_skip ?_
   refine exit_then ?_
   refine wp_seq ?_
   refine wp_reg 30 [[(1, none)], [(8, some 0)], [(9, some 1)], [(7, some 2)], [(7, some 2)], [(10, some 3)], [(11, some 4)]] [?b6_0, ?b6_1, ?b6_1, ?b6_3, ?b6_4, ?b6_3, ?b6_4] mixed (by kernel_rfl) (by kernel_rfl) hr ?t6 ?o6 ?_
   case o6 =>
    refine oc0 (fun A W hx hf => ?_) ?_
    exact ok_loadAll Try.underlying28 rfl size28 (o2 s1 e_w2 hx (r0 hf)) (by exact six_len hH)
    refine oc0 (fun A W hx hf => ?_) ?_
    exact ok_call1 body12 (c_xPut (q0 ?b6_0 A W 8 hf) (by exact hH) hx.size)
    refine oc0 (fun A W hx hf => ?_) ?_
    exact ok_move (q0 ?b6_1 A W 9 hf)
    refine oc0 (fun A W hx hf => ?_) ?_
    exact ok_ext0 (q0 ?b6_1 A W 7 hf)
    refine oc0 (fun A W hx hf => ?_) ?_
    exact ok_ext1 (q0 ?b6_1 A W 7 hf)
    refine oc0 (fun A W hx hf => ?_) ?_
    exact ok_assign (q0 ?b6_3 A W 10 hf)
    refine oc0 (fun A W hx hf => ?_) ?_
    exact ok_assign (q0 ?b6_4 A W 11 hf)
    exact OpsOk.nil
   case t6 => exact inferInstance
   clear hr; intro a7 w7 x hr hd hs
   have z_w_w4 := e_w.size
   have z_w2_w4 := e_w2.size
   revert s1; refine kp1 hs rfl ?_; intro s1
   clear s6
   have s3 := fa ?b6_3 a7 w7 3 (hd 5 3 rfl)
   have s4 := fa ?b6_4 a7 w7 4 (hd 6 4 rfl)
   replace e_w := e_w.trans x
   replace e_w2 := e_w2.trans x
   have e_w4 := x
   clear hd hs x
   refine exit_then ?_
   refine wp_seq ?_
   refine wp_seq ?_
   refine wp_reg 30 [[(1, none)], [(12, some 0)], [(13, some 1)]] [?b8_0, ?b8_1, ?b8_2] mixed (by kernel_rfl) (by kernel_rfl) hr ?t8 ?o8 ?_
   case o8 =>
    refine oc0 (fun A W hx hf => ?_) ?_
    exact ok_loadAll Try.underlying28 rfl size28 (o2 s1 e_w2 hx (r0 hf)) (by exact six_len hH)
    refine oc0 (fun A W hx hf => ?_) ?_
    exact ok_call1 body13 (c_r9Right (q0 ?b8_0 A W 12 hf) (by exact hH))
    refine oc0 (fun A W hx hf => ?_) ?_
    exact ok_not (q0 ?b8_1 A W 13 hf)
    exact OpsOk.nil
   case t8 => exact inferInstance
   clear hr; intro a9 w9 x hr hd hs
   revert s1 s3 s4; refine kp3 hs rfl ?_; intro s1 s3 s4
   have s14 := fa ?b8_2 a9 w9 14 (hd 2 14 rfl)
   replace e_w := e_w.trans x
   replace e_w2 := e_w2.trans x
   replace e_w4 := e_w4.trans x
   have e_w7 := x
   clear hd hs x
   refine exit_then ?_
   refine wp_cond_split (show _ = _ from s14) (fun hr9 => ?_) (fun hr9 => ?_)
   · skip
     have hr9 : sixRight H = false := by simpa using hr9
     refine wp_seq ?_
     refine wp_reg 30 [[(4, none)], [(15, some 0)], [(16, some 1)], [(3, none), (17, some 2)], [(18, some 3), (17, some 2)], [(19, some 4), (17, some 2)], [(17, some 2), (20, some 5)], [(21, some 6)]] [?b11_0, ?b11_1, ?b11_1, ?b11_3, ?b11_4, ?b11_5, ?b11_6, ?b11_6] mixed (by kernel_rfl) (by kernel_rfl) hr ?t11 ?o11 ?_
     case o11 =>
      refine oc0 (fun A W hx hf => ?_) ?_
      exact ok_movE (a0 := a9) (r0 hf)
      refine oc0 (fun A W hx hf => ?_) ?_
      exact ok_eql (p2 s4 e_w7 hx (q0 ?b11_0 A W 15 hf)) (ec A (.int .i64 1))
      refine oc0 (fun A W hx hf => ?_) ?_
      exact ok_move (q0 ?b11_1 A W 16 hf)
      refine ocg 17 ?_ (fun A W hx hf => ?_) ?_
      rfl
      exact gd_t (q1 ?b11_1 A W 17 hf) (fun hc => ok_movE (a0 := a9) (r0 hf))
      refine ocg 17 ?_ (fun A W hx hf => ?_) ?_
      rfl
      exact gd_t (q1 ?b11_1 A W 17 hf) (fun hc => ok_len_bs Try.underlying22 (OwnB.bs (p2 s3 e_w7 hx (G.get (q0 ?b11_3 A W 18 hf) hc))))
      refine ocg 17 ?_ (fun A W hx hf => ?_) ?_
      rfl
      exact gd_t (q1 ?b11_1 A W 17 hf) (fun hc => ok_eql (G.get (q0 ?b11_4 A W 19 hf) hc) (ec A (.int .i64 0)))
      refine oc0 (fun A W hx hf => ?_) ?_
      exact ok_and (q0 ?b11_1 A W 17 hf) (q1 ?b11_5 A W 20 hf)
      refine oc0 (fun A W hx hf => ?_) ?_
      exact ok_assign (q0 ?b11_6 A W 21 hf)
      exact OpsOk.nil
     case t11 => exact inferInstance
     clear hr; intro a12 w12 x hr hd hs
     clear s1 s3 s4 s14
     have s2 := fa ?b11_6 a12 w12 2 (hd 7 2 rfl)
     replace e_w := e_w.trans x
     clear e_w2
     clear e_w4
     clear e_w7
     clear hd hs x
     refine exit_then ?_
     refine wp_ret ?_
     refine then_ret ?_
     refine ret_tmp Try.results4 hr e_w ?_
     first | exact Is.bool s2 (by simp [sixPutR, hr9])
   · skip
     have hr9 : sixRight H = true := by simpa using hr9
     refine wp_skip ?_
     refine exit_then ?_
     refine wp_seq ?_
     refine wp_reg 30 [[(4, none)], [(22, some 0)], [(23, some 1)], [(3, none), (24, some 2)], [(1, none), (24, some 2)], [(26, some 4), (24, some 2)], [(25, some 3), (27, some 5), (24, some 2)], [(24, some 2), (28, some 6)], [(29, some 7)]] [?b13_0, ?b13_1, ?b13_1, ?b13_3, ?b13_4, ?b13_5, ?b13_6, ?b13_7, ?b13_7] mixed (by kernel_rfl) (by kernel_rfl) hr ?t13 ?o13 ?_
     case o13 =>
      refine oc0 (fun A W hx hf => ?_) ?_
      exact ok_movE (a0 := a9) (r0 hf)
      refine oc0 (fun A W hx hf => ?_) ?_
      exact ok_eql (p2 s4 e_w7 hx (q0 ?b13_0 A W 22 hf)) (ec A (.int .i64 0))
      refine oc0 (fun A W hx hf => ?_) ?_
      exact ok_move (q0 ?b13_1 A W 23 hf)
      refine ocg 24 ?_ (fun A W hx hf => ?_) ?_
      rfl
      exact gd_t (q1 ?b13_1 A W 24 hf) (fun hc => ok_movE (a0 := a9) (r0 hf))
      refine ocg 24 ?_ (fun A W hx hf => ?_) ?_
      rfl
      exact gd_t (q1 ?b13_1 A W 24 hf) (fun hc => ok_loadAll Try.underlying28 rfl size28 (o2 s1 e_w2 hx (r0 hf)) (by exact six_len hH))
      refine ocg 24 ?_ (fun A W hx hf => ?_) ?_
      rfl
      exact gd_t (q1 ?b13_1 A W 24 hf) (fun hc => ok_call1 body15 (c_r9Put (G.get (q0 ?b13_4 A W 26 hf) hc) (by exact hH) (by have q9 := sixRight_bd hr9; omega) hx.size))
      refine ocg 24 ?_ (fun A W hx hf => ?_) ?_
      rfl
      exact gd_t (q2 ?b13_1 A W 24 hf) (fun hc => ok_call2 body14 (c_Same (OwnB.bs (p2 s3 e_w7 hx (G.get (q0 ?b13_3 A W 25 hf) hc))) (OwnB.bs (G.get (q1 ?b13_5 A W 27 hf) hc))))
      refine oc0 (fun A W hx hf => ?_) ?_
      exact ok_and (q0 ?b13_1 A W 24 hf) (q1 ?b13_6 A W 28 hf)
      refine oc0 (fun A W hx hf => ?_) ?_
      exact ok_assign (q0 ?b13_7 A W 29 hf)
      exact OpsOk.nil
     case t13 => exact inferInstance
     clear hr; intro a14 w14 x hr hd hs
     have z_w_w9 := e_w.size
     have z_w2_w9 := e_w2.size
     have z_w4_w9 := e_w4.size
     have z_w7_w9 := e_w7.size
     clear s1 s3 s4 s14
     have s2 := fa ?b13_7 a14 w14 2 (hd 8 2 rfl)
     replace e_w := e_w.trans x
     clear e_w2
     clear e_w4
     clear e_w7
     clear hd hs x
     refine exit_then ?_
     refine wp_ret ?_
     refine ret_tmp Try.results4 hr e_w ?_
     first | exact Is.bool s2 (by simp [sixPutR, hr9])

end Go.Proofs.Ytdohlcakoamdhaa
