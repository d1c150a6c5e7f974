import Derived.Test.YtnlmppannjebfaaA13
import Derived.Test.YtnlmppannjebfaaC13f
import Derived.Test.YtnlmppannjebfaaC13e
import Derived.Test.YtnlmppannjebfaaC07
import Derived.Test.YtnlmppannjebfaaC06
import Derived.Test.YtnlmppannjebfaaE13
namespace Go.Proofs.Ytnlmppannjebfaa
open Go.RowKit
set_option linter.unusedVariables false
set_option linter.unusedSimpArgs false
set_option maxRecDepth 4000
theorem law_TunnelUnwraps {x0 : Value} {w : World} {l : List UInt8} (h0 : (Bs l) x0 w)  :
    Calls Try.prog 4 #[x0] w (Ret (Is (.bool true)) w) := by
 have hlen := Bs.len_le h0
 refine enter Try.func4 rfl Try.ntmps4 (k := 1) rfl (by decide) (fun a0 hr hargs => ?_)
 have s0 := sarg h0 (hargs 0 (by decide))
 clear hargs
 refine wp_seq ?_
 refine wp_reg 41 [[]] [?b1_0] mixed hr ?t1 ?o1 ?_
 case o1 =>
  refine oc0 (fun A W hx hf => ?_) ?_
  exact ok_assignc
  exact OpsOk.nil
 case t1 => exact inferInstance
 clear hr; intro a2 w2 x hr hd hs
 revert s0; refine kp1 hs rfl ?_; intro s0
 have e_w := x
 clear hd hs x
 refine exit_then ?_
 refine wp_seq ?_
 refine wp_seq ?_
 refine wp_reg 41 [[], [(7, some 0)], [(8, some 1)], [(0, none), (9, some 2)], [(10, some 3), (9, some 2)], [(11, some 4), (9, some 2)], [(9, some 2), (12, some 5)]] [?b3_0, ?b3_1, ?b3_1, ?b3_3, ?b3_4, ?b3_5, ?b3_6] mixed hr ?t3 ?o3 ?_
 case o3 =>
  refine oc0 (fun A W hx hf => ?_) ?_
  exact ok_call0 body9 (c_awake13 )
  refine oc0 (fun A W hx hf => ?_) ?_
  exact ok_not (q0 ?b3_0 A W 7 hf)
  refine oc0 (fun A W hx hf => ?_) ?_
  exact ok_move (q0 ?b3_1 A W 8 hf)
  refine ocg 9 ?_ (fun A W hx hf => ?_) ?_
  rfl
  exact gd_f (q1 ?b3_1 A W 9 hf) (fun hc => ok_movE (a0 := a2) (r0 hf))
  refine ocg 9 ?_ (fun A W hx hf => ?_) ?_
  rfl
  exact gd_f (q1 ?b3_1 A W 9 hf) (fun hc => ok_len_bs Try.underlying22 (p2 s0 e_w hx (G.get (q0 ?b3_3 A W 10 hf) hc)))
  refine ocg 9 ?_ (fun A W hx hf => ?_) ?_
  rfl
  exact gd_f (q1 ?b3_1 A W 9 hf) (fun hc => ok_gtr (G.get (q0 ?b3_4 A W 11 hf) hc) (ec A (.int .i64 3000)))
  refine oc0 (fun A W hx hf => ?_) ?_
  exact ok_or (q0 ?b3_1 A W 9 hf) (q1 ?b3_5 A W 12 hf)
  exact OpsOk.nil
 case t3 => exact inferInstance
 clear hr; intro a4 w4 x hr hd hs
 revert s0; refine kp1 hs rfl ?_; intro s0
 have s13 := fa ?b3_6 a4 w4 13 (hd 6 13 rfl)
 replace e_w := e_w.trans x
 clear hd hs x
 refine exit_then ?_
 refine wp_cond_split (show _ = _ from s13) (fun hl => ?_) (fun hl => ?_)
 ·
  skip
  refine wp_seq ?_
  refine wp_reg 41 [[], [(14, some 0)]] [?b6_0, ?b6_0] mixed hr ?t6 ?o6 ?_
  case o6 =>
   refine oc0 (fun A W hx hf => ?_) ?_
   exact ok_call0 body9 (c_awake13 )
   refine oc0 (fun A W hx hf => ?_) ?_
   exact ok_assign (q0 ?b6_0 A W 14 hf)
   exact OpsOk.nil
  case t6 => exact inferInstance
  clear hr; intro a7 w7 x hr hd hs
  clear s0 s13
  have s2 := fa ?b6_0 a7 w7 2 (hd 1 2 rfl)
  replace e_w := e_w.trans x
  clear hd hs x
  refine exit_then ?_
  refine wp_ret ?_
  refine then_ret ?_
  refine ret_tmp Try.results4 hr e_w ?_
  first | with_reducible exact s2 | exact Is.bool s2 (by rw [hu, hue]; rfl) | exact Is.bool s2 (by rw [hu]; simp)
 ·
  have hl : l.length ≤ 3000 := by simp at hl; omega
  refine wp_skip ?_
  refine exit_then ?_
  refine wp_seq ?_
  refine wp_reg 41 [[(0, none)], [(16, some 0)], [(17, some 1)], [(15, some 2)], [(15, some 2)], [(18, some 3)], [(19, some 4)]] [?b8_0, ?b8_1, ?b8_1, ?b8_3, ?b8_4, ?b8_3, ?b8_4] mixed hr ?t8 ?o8 ?_
  case o8 =>
   refine oc0 (fun A W hx hf => ?_) ?_
   exact ok_movE (a0 := a4) (r0 hf)
   refine oc0 (fun A W hx hf => ?_) ?_
   exact ok_call1 body13 (c_tUnwrap (p2 s0 e_w hx (q0 ?b8_0 A W 16 hf)) (by omega) hx.size)
   refine oc0 (fun A W hx hf => ?_) ?_
   exact ok_move (q0 ?b8_1 A W 17 hf)
   refine oc0 (fun A W hx hf => ?_) ?_
   exact ok_ext0 (q0 ?b8_1 A W 15 hf)
   refine oc0 (fun A W hx hf => ?_) ?_
   exact ok_ext1 (q0 ?b8_1 A W 15 hf)
   refine oc0 (fun A W hx hf => ?_) ?_
   exact ok_assign (q0 ?b8_3 A W 18 hf)
   refine oc0 (fun A W hx hf => ?_) ?_
   exact ok_assign (q0 ?b8_4 A W 19 hf)
   exact OpsOk.nil
  case t8 => exact inferInstance
  clear hr; intro a9 w9 x hr hd hs
  have z_w_w4 := e_w.size
  revert s0; refine kp1 hs rfl ?_; intro s0
  clear s13
  have s3 := fa ?b8_3 a9 w9 3 (hd 5 3 rfl)
  have s4 := fa ?b8_4 a9 w9 4 (hd 6 4 rfl)
  obtain ⟨g9_3, q9_3⟩ := OwnB.at s3; clear s3; have n9_3 := OwnBA.lt q9_3
  replace q9_3 := OwnBA.mono q9_3 e_w.size
  have s3 := q9_3; clear q9_3
  replace e_w := e_w.trans x
  clear hd hs x
  refine exit_then ?_
  refine wp_seq ?_
  refine wp_reg 41 [[(0, none)], [(21, some 0)], [(22, some 1)], [(20, some 2)], [(20, some 2)], [(23, some 3)], [(24, some 4)]] [?b10_0, ?b10_1, ?b10_1, ?b10_3, ?b10_4, ?b10_3, ?b10_4] mixed hr ?t10 ?o10 ?_
  case o10 =>
   refine oc0 (fun A W hx hf => ?_) ?_
   exact ok_movE (a0 := a9) (r0 hf)
   refine oc0 (fun A W hx hf => ?_) ?_
   exact ok_call1 body14 (c_r13Unwrap (p2 s0 e_w hx (q0 ?b10_0 A W 21 hf)) (by omega) hx.size)
   refine oc0 (fun A W hx hf => ?_) ?_
   exact ok_move (q0 ?b10_1 A W 22 hf)
   refine oc0 (fun A W hx hf => ?_) ?_
   exact ok_ext0 (q0 ?b10_1 A W 20 hf)
   refine oc0 (fun A W hx hf => ?_) ?_
   exact ok_ext1 (q0 ?b10_1 A W 20 hf)
   refine oc0 (fun A W hx hf => ?_) ?_
   exact ok_assign (q0 ?b10_3 A W 23 hf)
   refine oc0 (fun A W hx hf => ?_) ?_
   exact ok_assign (q0 ?b10_4 A W 24 hf)
   exact OpsOk.nil
  case t10 => exact inferInstance
  clear hr; intro a11 w11 x hr hd hs
  have z_w_w9 := e_w.size
  have l11_3 := OwnBA.lt s3
  revert s3; revert s4; refine kp2 hs rfl ?_; intro s4 s3
  clear s0
  have s5 := fa ?b10_3 a11 w11 5 (hd 5 5 rfl)
  have s6 := fa ?b10_4 a11 w11 6 (hd 6 6 rfl)
  obtain ⟨g11_5, q11_5⟩ := OwnB.at s5; clear s5; have n11_5 := OwnBA.lt q11_5
  replace q11_5 := OwnBA.mono q11_5 e_w.size
  have s5 := q11_5; clear q11_5
  replace e_w := e_w.trans x
  have e_w9 := x
  clear hd hs x
  refine exit_then ?_
  refine wp_seq ?_
  refine wp_seq ?_
  refine wp_reg 41 [[(6, none)], [(25, some 0)]] [?b12_0, ?b12_1] mixed hr ?t12 ?o12 ?_
  case o12 =>
   refine oc0 (fun A W hx hf => ?_) ?_
   exact ok_movE (a0 := a11) (r0 hf)
   refine oc0 (fun A W hx hf => ?_) ?_
   exact ok_not (p1 s6 hx (q0 ?b12_0 A W 25 hf))
   exact OpsOk.nil
  case t12 => exact inferInstance
  clear hr; intro a13 w13 x hr hd hs
  revert s5; revert s3; revert s4; refine kp3 hs rfl ?_; intro s4 s3 s5
  clear s6
  have s26 := fa ?b12_1 a13 w13 26 (hd 1 26 rfl)
  replace e_w := e_w.trans x
  replace e_w9 := e_w9.trans x
  have e_w11 := x
  clear hd hs x
  refine exit_then ?_
  refine wp_cond_split (show _ = _ from s26) (fun hu => ?_) (fun hu => ?_)
  ·
   have hu : (unwR l).2 = false := by simpa using hu
   have hue := unwR_empty hu
   refine wp_seq ?_
   refine wp_reg 41 [[(4, none)], [(27, some 0)], [(28, some 1)], [(3, none), (29, some 2)], [(30, some 3), (29, some 2)], [(31, some 4), (29, some 2)], [(29, some 2), (32, some 5)], [(33, some 6)]] [?b15_0, ?b15_1, ?b15_1, ?b15_3, ?b15_4, ?b15_5, ?b15_6, ?b15_6] mixed hr ?t15 ?o15 ?_
   case o15 =>
    refine oc0 (fun A W hx hf => ?_) ?_
    exact ok_movE (a0 := a13) (r0 hf)
    refine oc0 (fun A W hx hf => ?_) ?_
    exact ok_eql (p2 s4 e_w9 hx (q0 ?b15_0 A W 27 hf)) (ec A (.int .i64 3))
    refine oc0 (fun A W hx hf => ?_) ?_
    exact ok_move (q0 ?b15_1 A W 28 hf)
    refine ocg 29 ?_ (fun A W hx hf => ?_) ?_
    rfl
    exact gd_t (q1 ?b15_1 A W 29 hf) (fun hc => ok_movE (a0 := a13) (r0 hf))
    refine ocg 29 ?_ (fun A W hx hf => ?_) ?_
    rfl
    exact gd_t (q1 ?b15_1 A W 29 hf) (fun hc => ok_len_bs Try.underlying22 (OwnBA.bs (p2 s3 e_w9 hx (G.get (q0 ?b15_3 A W 30 hf) hc))))
    refine ocg 29 ?_ (fun A W hx hf => ?_) ?_
    rfl
    exact gd_t (q1 ?b15_1 A W 29 hf) (fun hc => ok_eql (G.get (q0 ?b15_4 A W 31 hf) hc) (ec A (.int .i64 0)))
    refine oc0 (fun A W hx hf => ?_) ?_
    exact ok_and (q0 ?b15_1 A W 29 hf) (q1 ?b15_5 A W 32 hf)
    refine oc0 (fun A W hx hf => ?_) ?_
    exact ok_assign (q0 ?b15_6 A W 33 hf)
    exact OpsOk.nil
   case t15 => exact inferInstance
   clear hr; intro a16 w16 x hr hd hs
   clear s4 s3 s5 s26
   have s2 := fa ?b15_6 a16 w16 2 (hd 7 2 rfl)
   replace e_w := e_w.trans x
   clear e_w9
   clear e_w11
   clear hd hs x
   refine exit_then ?_
   refine wp_ret ?_
   refine then_ret ?_
   refine ret_tmp Try.results4 hr e_w ?_
   first | with_reducible exact s2 | exact Is.bool s2 (by rw [hu, hue]; rfl) | exact Is.bool s2 (by rw [hu]; simp)
  ·
   have hu : (unwR l).2 = true := by simpa using hu
   refine wp_skip ?_
   refine exit_then ?_
   refine wp_seq ?_
   refine wp_reg 41 [[(4, none)], [(34, some 0)], [(35, some 1)], [(3, none), (36, some 2)], [(5, none), (36, some 2)], [(37, some 3), (38, some 4), (36, some 2)], [(36, some 2), (39, some 5)], [(40, some 6)]] [?b17_0, ?b17_1, ?b17_1, ?b17_3, ?b17_4, ?b17_5, ?b17_6, ?b17_6] mixed hr ?t17 ?o17 ?_
   case o17 =>
    refine oc0 (fun A W hx hf => ?_) ?_
    exact ok_movE (a0 := a13) (r0 hf)
    refine oc0 (fun A W hx hf => ?_) ?_
    exact ok_eql (p2 s4 e_w9 hx (q0 ?b17_0 A W 34 hf)) (ec A (.int .i64 0))
    refine oc0 (fun A W hx hf => ?_) ?_
    exact ok_move (q0 ?b17_1 A W 35 hf)
    refine ocg 36 ?_ (fun A W hx hf => ?_) ?_
    rfl
    exact gd_t (q1 ?b17_1 A W 36 hf) (fun hc => ok_movE (a0 := a13) (r0 hf))
    refine ocg 36 ?_ (fun A W hx hf => ?_) ?_
    rfl
    exact gd_t (q1 ?b17_1 A W 36 hf) (fun hc => ok_movE (a0 := a13) (r0 hf))
    refine ocg 36 ?_ (fun A W hx hf => ?_) ?_
    rfl
    exact gd_t (q2 ?b17_1 A W 36 hf) (fun hc => ok_call2 body12 (c_Same (OwnBA.bs (p2 s3 e_w9 hx (G.get (q0 ?b17_3 A W 37 hf) hc))) (OwnBA.bs (p2 s5 e_w11 hx (G.get (q1 ?b17_4 A W 38 hf) hc)))))
    refine oc0 (fun A W hx hf => ?_) ?_
    exact ok_and (q0 ?b17_1 A W 36 hf) (q1 ?b17_5 A W 39 hf)
    refine oc0 (fun A W hx hf => ?_) ?_
    exact ok_assign (q0 ?b17_6 A W 40 hf)
    exact OpsOk.nil
   case t17 => exact inferInstance
   clear hr; intro a18 w18 x hr hd hs
   clear s4 s3 s5 s26
   have s2 := fa ?b17_6 a18 w18 2 (hd 7 2 rfl)
   replace e_w := e_w.trans x
   clear e_w9
   clear e_w11
   clear hd hs x
   refine exit_then ?_
   refine wp_ret ?_
   refine ret_tmp Try.results4 hr e_w ?_
   first | with_reducible exact s2 | exact Is.bool s2 (by rw [hu, hue]; rfl) | exact Is.bool s2 (by rw [hu]; simp)

end Go.Proofs.Ytnlmppannjebfaa
