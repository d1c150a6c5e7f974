import Derived.Test.YtaalllmkjobajaaA06
import Derived.Test.YtaalllmkjobajaaC06d
namespace Go.Proofs.Ytaalllmkjobajaa
open Go.RowKit
set_option linter.unusedVariables false
theorem law_InetChanges {x0 x1 x2 x3 x4 : Value} {w : World} {c m n : Int} {f t : List UInt8} (h0 : (Is (.int .u16 c)) x0 w) (h1 : (Is (.int .u16 m)) x1 w) (h2 : (Is (.int .u16 n)) x2 w) (h3 : (Bs f) x3 w) (h4 : (Bs t) x4 w) (hc : 0 ≤ c ∧ c ≤ 65535) (hm : 0 ≤ m ∧ m ≤ 65535) (hn : 0 ≤ n ∧ n ≤ 65535) :
    Calls Try.prog 7 #[x0, x1, x2, x3, x4] w (Ret (Is (.bool true)) w) := by
 have hlf := Bs.len_le h3
 have hlt := Bs.len_le h4
 have hb := chg_bd hc hm hn
 refine enter Try.func7 rfl Try.ntmps7 (k := 5) rfl (by decide) (fun a0 hr hargs => ?_)
 have s0 := sarg h0 (hargs 0 (by decide))
 have s1 := sarg h1 (hargs 1 (by decide))
 have s2 := sarg h2 (hargs 2 (by decide))
 have s3 := sarg h3 (hargs 3 (by decide))
 have s4 := sarg h4 (hargs 4 (by decide))
 clear hargs
 refine wp_seq ?_
 refine wp_reg 50 [[]] [?b1_0] mixed (by kernel_rfl) (by kernel_rfl) hr ?t1 ?o1 ?_
 case o1 =>
  refine oc0 (fun A W hx hf => ?_) ?_
  exact ok_assignc
  exact OpsOk.nil
 case t1 => exact inferInstance
 clear hr; intro a2 w2 x hr hd hs
 revert s0 s1 s2 s3 s4; refine kp5 hs rfl ?_; intro s0 s1 s2 s3 s4
 have e_w := x
 clear hd hs x
 refine exit_then ?_
 refine wp_seq ?_
 refine wp_seq ?_
 refine wp_reg 50 [[], [(11, some 0)], [(12, some 1)], [(3, none), (13, some 2)], [(14, some 3), (13, some 2)], [(15, some 4), (13, some 2)], [(13, some 2), (16, some 5)], [(17, some 6)], [(4, none), (18, some 7)], [(19, some 8), (18, some 7)], [(20, some 9), (18, some 7)], [(18, some 7), (21, some 10)]] [?b3_0, ?b3_1, ?b3_1, ?b3_3, ?b3_4, ?b3_5, ?b3_6, ?b3_6, ?b3_8, ?b3_9, ?b3_10, ?b3_11] mixed (by kernel_rfl) (by kernel_rfl) hr ?t3 ?o3 ?_
 case o3 =>
  refine oc0 (fun A W hx hf => ?_) ?_
  exact ok_call0 body9 (c_awake06 )
  refine oc0 (fun A W hx hf => ?_) ?_
  exact ok_not (q0 ?b3_0 A W 11 hf)
  refine oc0 (fun A W hx hf => ?_) ?_
  exact ok_move (q0 ?b3_1 A W 12 hf)
  refine ocg 13 ?_ (fun A W hx hf => ?_) ?_
  rfl
  exact gd_f (q1 ?b3_1 A W 13 hf) (fun hc => ok_movE (a0 := a2) (r0 hf))
  refine ocg 13 ?_ (fun A W hx hf => ?_) ?_
  rfl
  exact gd_f (q1 ?b3_1 A W 13 hf) (fun hc => ok_len_bs Try.underlying22 (p2 s3 e_w hx (G.get (q0 ?b3_3 A W 14 hf) hc)))
  refine ocg 13 ?_ (fun A W hx hf => ?_) ?_
  rfl
  exact gd_f (q1 ?b3_1 A W 13 hf) (fun hc => ok_gtr (G.get (q0 ?b3_4 A W 15 hf) hc) (ec A (.int .i64 500)))
  refine oc0 (fun A W hx hf => ?_) ?_
  exact ok_or (q0 ?b3_1 A W 13 hf) (q1 ?b3_5 A W 16 hf)
  refine oc0 (fun A W hx hf => ?_) ?_
  exact ok_move (q0 ?b3_6 A W 17 hf)
  refine ocg 18 ?_ (fun A W hx hf => ?_) ?_
  rfl
  exact gd_f (q1 ?b3_6 A W 18 hf) (fun hc => ok_movE (a0 := a2) (r0 hf))
  refine ocg 18 ?_ (fun A W hx hf => ?_) ?_
  rfl
  exact gd_f (q1 ?b3_6 A W 18 hf) (fun hc => ok_len_bs Try.underlying22 (p2 s4 e_w hx (G.get (q0 ?b3_8 A W 19 hf) hc)))
  refine ocg 18 ?_ (fun A W hx hf => ?_) ?_
  rfl
  exact gd_f (q1 ?b3_6 A W 18 hf) (fun hc => ok_gtr (G.get (q0 ?b3_9 A W 20 hf) hc) (ec A (.int .i64 500)))
  refine oc0 (fun A W hx hf => ?_) ?_
  exact ok_or (q0 ?b3_6 A W 18 hf) (q1 ?b3_10 A W 21 hf)
  exact OpsOk.nil
 case t3 => exact inferInstance
 clear hr; intro a4 w4 x hr hd hs
 revert s0 s1 s2 s3 s4; refine kp5 hs rfl ?_; intro s0 s1 s2 s3 s4
 have s22 := fa ?b3_11 a4 w4 22 (hd 11 22 rfl)
 replace e_w := e_w.trans x
 clear hd hs x
 refine exit_then ?_
 refine wp_cond_split (show _ = _ from s22) (fun hl => ?_) (fun hl => ?_)
 · skip
   skip
   refine wp_seq ?_
   refine wp_reg 50 [[], [(23, some 0)]] [?b6_0, ?b6_0] mixed (by kernel_rfl) (by kernel_rfl) hr ?t6 ?o6 ?_
   case o6 =>
    refine oc0 (fun A W hx hf => ?_) ?_
    exact ok_call0 body9 (c_awake06 )
    refine oc0 (fun A W hx hf => ?_) ?_
    exact ok_assign (q0 ?b6_0 A W 23 hf)
    exact OpsOk.nil
   case t6 => exact inferInstance
   clear hr; intro a7 w7 x hr hd hs
   clear s0 s1 s2 s3 s4 s22
   have s10 := fa ?b6_0 a7 w7 10 (hd 1 10 rfl)
   replace e_w := e_w.trans x
   clear hd hs x
   refine exit_then ?_
   refine wp_ret ?_
   refine then_ret ?_
   refine ret_tmp Try.results7 hr e_w ?_
   first | with_reducible exact s10 | exact Is.bool s10 (by simp)
 · skip
   have hl : f.length ≤ 500 ∧ t.length ≤ 500 := by simp at hl; omega
   refine wp_skip ?_
   refine exit_then ?_
   refine wp_seq ?_
   have hb2 : 0 ≤ changed c f t ∧ changed c f t ≤ 65535 := chgd_bd hc _ _ _
   refine wp_reg 50 [[(0, none)], [(1, none)], [(2, none)], [(24, some 0), (25, some 1), (26, some 2)], [(27, some 3)], [(0, none)], [(29, some 5)], [(1, none)], [(31, some 7)], [(2, none)], [(33, some 9)], [(30, some 6), (32, some 8), (34, some 10)], [(28, some 4), (35, some 11)], [(36, some 12)], [(0, none), (37, some 13)], [(3, none), (37, some 13)], [(4, none), (37, some 13)], [(38, some 14), (39, some 15), (40, some 16), (37, some 13)], [(41, some 17), (37, some 13)], [(0, none), (37, some 13)], [(43, some 19), (37, some 13)], [(3, none), (37, some 13)], [(4, none), (37, some 13)], [(44, some 20), (45, some 21), (46, some 22), (37, some 13)], [(42, some 18), (47, some 23), (37, some 13)], [(37, some 13), (48, some 24)], [(49, some 25)]] [?b8_0, ?b8_1, ?b8_2, ?b8_3, ?b8_4, ?b8_5, ?b8_6, ?b8_7, ?b8_8, ?b8_9, ?b8_10, ?b8_11, ?b8_12, ?b8_12, ?b8_14, ?b8_15, ?b8_16, ?b8_17, ?b8_18, ?b8_19, ?b8_20, ?b8_21, ?b8_22, ?b8_23, ?b8_24, ?b8_25, ?b8_25] mixed (by kernel_rfl) (by kernel_rfl) hr ?t8 ?o8 ?_
   case o8 =>
    refine oc0 (fun A W hx hf => ?_) ?_
    exact ok_movE (a0 := a4) (r0 hf)
    refine oc0 (fun A W hx hf => ?_) ?_
    exact ok_movE (a0 := a4) (r0 hf)
    refine oc0 (fun A W hx hf => ?_) ?_
    exact ok_movE (a0 := a4) (r0 hf)
    refine oc0 (fun A W hx hf => ?_) ?_
    exact ok_call3 body13 (c_Change (p2 s0 e_w hx (q0 ?b8_0 A W 24 hf)) (p2 s1 e_w hx (q1 ?b8_1 A W 25 hf)) (p2 s2 e_w hx (q2 ?b8_2 A W 26 hf)) (by omega) (by omega) (by omega))
    refine oc0 (fun A W hx hf => ?_) ?_
    exact ok_convI Try.underlying23 Try.underlying3 (by exact IntWalk.i64_in _ (by omega)) (q0 ?b8_3 A W 27 hf)
    refine oc0 (fun A W hx hf => ?_) ?_
    exact ok_movE (a0 := a4) (r0 hf)
    refine oc0 (fun A W hx hf => ?_) ?_
    exact ok_convI Try.underlying23 Try.underlying3 (by exact IntWalk.i64_in _ (by omega)) (p2 s0 e_w hx (q0 ?b8_5 A W 29 hf))
    refine oc0 (fun A W hx hf => ?_) ?_
    exact ok_movE (a0 := a4) (r0 hf)
    refine oc0 (fun A W hx hf => ?_) ?_
    exact ok_convI Try.underlying23 Try.underlying3 (by exact IntWalk.i64_in _ (by omega)) (p2 s1 e_w hx (q0 ?b8_7 A W 31 hf))
    refine oc0 (fun A W hx hf => ?_) ?_
    exact ok_movE (a0 := a4) (r0 hf)
    refine oc0 (fun A W hx hf => ?_) ?_
    exact ok_convI Try.underlying23 Try.underlying3 (by exact IntWalk.i64_in _ (by omega)) (p2 s2 e_w hx (q0 ?b8_9 A W 33 hf))
    refine oc0 (fun A W hx hf => ?_) ?_
    exact ok_call3 body17 (c_rChange (q0 ?b8_6 A W 30 hf) (q1 ?b8_8 A W 32 hf) (q2 ?b8_10 A W 34 hf) (by omega) (by omega) (by omega))
    refine oc0 (fun A W hx hf => ?_) ?_
    exact ok_eql (q0 ?b8_4 A W 28 hf) (q1 ?b8_11 A W 35 hf)
    refine oc0 (fun A W hx hf => ?_) ?_
    exact ok_move (q0 ?b8_12 A W 36 hf)
    refine ocg 37 ?_ (fun A W hx hf => ?_) ?_
    rfl
    exact gd_t (q1 ?b8_12 A W 37 hf) (fun hc => ok_movE (a0 := a4) (r0 hf))
    refine ocg 37 ?_ (fun A W hx hf => ?_) ?_
    rfl
    exact gd_t (q1 ?b8_12 A W 37 hf) (fun hc => ok_movE (a0 := a4) (r0 hf))
    refine ocg 37 ?_ (fun A W hx hf => ?_) ?_
    rfl
    exact gd_t (q1 ?b8_12 A W 37 hf) (fun hc => ok_movE (a0 := a4) (r0 hf))
    refine ocg 37 ?_ (fun A W hx hf => ?_) ?_
    rfl
    exact gd_t (q3 ?b8_12 A W 37 hf) (fun hc => ok_call3 body18 (c_Changed (p2 s0 e_w hx (G.get (q0 ?b8_14 A W 38 hf) hc)) (p2 s3 e_w hx (G.get (q1 ?b8_15 A W 39 hf) hc)) (p2 s4 e_w hx (G.get (q2 ?b8_16 A W 40 hf) hc)) (by omega) (by omega) (by omega)))
    refine ocg 37 ?_ (fun A W hx hf => ?_) ?_
    rfl
    exact gd_t (q1 ?b8_12 A W 37 hf) (fun hc => ok_convI Try.underlying23 Try.underlying3 (by exact IntWalk.i64_in _ (by omega)) (G.get (q0 ?b8_17 A W 41 hf) hc))
    refine ocg 37 ?_ (fun A W hx hf => ?_) ?_
    rfl
    exact gd_t (q1 ?b8_12 A W 37 hf) (fun hc => ok_movE (a0 := a4) (r0 hf))
    refine ocg 37 ?_ (fun A W hx hf => ?_) ?_
    rfl
    exact gd_t (q1 ?b8_12 A W 37 hf) (fun hc => ok_convI Try.underlying23 Try.underlying3 (by exact IntWalk.i64_in _ (by omega)) (p2 s0 e_w hx (G.get (q0 ?b8_19 A W 43 hf) hc)))
    refine ocg 37 ?_ (fun A W hx hf => ?_) ?_
    rfl
    exact gd_t (q1 ?b8_12 A W 37 hf) (fun hc => ok_movE (a0 := a4) (r0 hf))
    refine ocg 37 ?_ (fun A W hx hf => ?_) ?_
    rfl
    exact gd_t (q1 ?b8_12 A W 37 hf) (fun hc => ok_movE (a0 := a4) (r0 hf))
    refine ocg 37 ?_ (fun A W hx hf => ?_) ?_
    rfl
    exact gd_t (q3 ?b8_12 A W 37 hf) (fun hc => ok_call3 body19 (c_rChanged (G.get (q0 ?b8_20 A W 44 hf) hc) (p2 s3 e_w hx (G.get (q1 ?b8_21 A W 45 hf) hc)) (p2 s4 e_w hx (G.get (q2 ?b8_22 A W 46 hf) hc)) (by omega) (by omega) (by omega)))
    refine ocg 37 ?_ (fun A W hx hf => ?_) ?_
    rfl
    exact gd_t (q2 ?b8_12 A W 37 hf) (fun hc => ok_eql (G.get (q0 ?b8_18 A W 42 hf) hc) (G.get (q1 ?b8_23 A W 47 hf) hc))
    refine oc0 (fun A W hx hf => ?_) ?_
    exact ok_and (q0 ?b8_12 A W 37 hf) (q1 ?b8_24 A W 48 hf)
    refine oc0 (fun A W hx hf => ?_) ?_
    exact ok_assign (q0 ?b8_25 A W 49 hf)
    exact OpsOk.nil
   case t8 => exact inferInstance
   clear hr; intro a9 w9 x hr hd hs
   clear s0 s1 s2 s3 s4 s22
   have s10 := fa ?b8_25 a9 w9 10 (hd 26 10 rfl)
   replace e_w := e_w.trans x
   clear hd hs x
   refine exit_then ?_
   refine wp_ret ?_
   refine ret_tmp Try.results7 hr e_w ?_
   first | with_reducible exact s10 | exact Is.bool s10 (by simp)

end Go.Proofs.Ytaalllmkjobajaa
