import Derived.Test.YtaalllmkjobajaaA06
namespace Go.Proofs.Ytaalllmkjobajaa
open Go.RowKit
set_option linter.unusedVariables false
theorem law_InetSums {x0 x1 : Value} {w : World} {l : List UInt8} {n : Int} (h0 : (Bs l) x0 w) (h1 : (Is (.int .u16 n)) x1 w) (hn : 0 ≤ n ∧ n ≤ 65535) :
    Calls Try.prog 3 #[x0, x1] w (Ret (Is (.bool true)) w) := by
 have hlen := Bs.len_le h0
 have hb := ck_bd l
 obtain ⟨K, hK, hKl⟩ := tmod_nat (n := l.length) hn.1
 refine enter Try.func3 rfl Try.ntmps3 (k := 2) rfl (by decide) (fun a0 hr hargs => ?_)
 have s0 := sarg h0 (hargs 0 (by decide))
 have s1 := sarg h1 (hargs 1 (by decide))
 clear hargs
 refine wp_seq ?_
 refine wp_reg 76 [[]] [?b1_0] mixed (by kernel_rfl) (by kernel_rfl) hr ?t1 ?o1 ?_
 case o1 =>
  refine oc0 (fun A W hx hf => ?_) ?_
  exact ok_assignc
  exact OpsOk.nil
 case t1 => exact inferInstance
 clear hr; intro a2 w2 x hr hd hs
 revert s0 s1; refine kp2 hs rfl ?_; intro s0 s1
 have e_w := x
 clear hd hs x
 refine exit_then ?_
 refine wp_seq ?_
 refine wp_seq ?_
 refine wp_reg 76 [[], [(7, some 0)], [(8, some 1)], [(0, none), (9, some 2)], [(10, some 3), (9, some 2)], [(11, some 4), (9, some 2)], [(9, some 2), (12, some 5)]] [?b3_0, ?b3_1, ?b3_1, ?b3_3, ?b3_4, ?b3_5, ?b3_6] mixed (by kernel_rfl) (by kernel_rfl) hr ?t3 ?o3 ?_
 case o3 =>
  refine oc0 (fun A W hx hf => ?_) ?_
  exact ok_call0 body9 (c_awake06 )
  refine oc0 (fun A W hx hf => ?_) ?_
  exact ok_not (q0 ?b3_0 A W 7 hf)
  refine oc0 (fun A W hx hf => ?_) ?_
  exact ok_move (q0 ?b3_1 A W 8 hf)
  refine ocg 9 ?_ (fun A W hx hf => ?_) ?_
  rfl
  exact gd_f (q1 ?b3_1 A W 9 hf) (fun hc => ok_movE (a0 := a2) (r0 hf))
  refine ocg 9 ?_ (fun A W hx hf => ?_) ?_
  rfl
  exact gd_f (q1 ?b3_1 A W 9 hf) (fun hc => ok_len_bs Try.underlying22 (p2 s0 e_w hx (G.get (q0 ?b3_3 A W 10 hf) hc)))
  refine ocg 9 ?_ (fun A W hx hf => ?_) ?_
  rfl
  exact gd_f (q1 ?b3_1 A W 9 hf) (fun hc => ok_gtr (G.get (q0 ?b3_4 A W 11 hf) hc) (ec A (.int .i64 1000)))
  refine oc0 (fun A W hx hf => ?_) ?_
  exact ok_or (q0 ?b3_1 A W 9 hf) (q1 ?b3_5 A W 12 hf)
  exact OpsOk.nil
 case t3 => exact inferInstance
 clear hr; intro a4 w4 x hr hd hs
 revert s0 s1; refine kp2 hs rfl ?_; intro s0 s1
 have s13 := fa ?b3_6 a4 w4 13 (hd 6 13 rfl)
 replace e_w := e_w.trans x
 clear hd hs x
 refine exit_then ?_
 refine wp_cond_split (show _ = _ from s13) (fun hl => ?_) (fun hl => ?_)
 · skip
   skip
   refine wp_seq ?_
   refine wp_reg 76 [[], [(14, some 0)]] [?b6_0, ?b6_0] mixed (by kernel_rfl) (by kernel_rfl) hr ?t6 ?o6 ?_
   case o6 =>
    refine oc0 (fun A W hx hf => ?_) ?_
    exact ok_call0 body9 (c_awake06 )
    refine oc0 (fun A W hx hf => ?_) ?_
    exact ok_assign (q0 ?b6_0 A W 14 hf)
    exact OpsOk.nil
   case t6 => exact inferInstance
   clear hr; intro a7 w7 x hr hd hs
   clear s0 s1 s13
   have s4 := fa ?b6_0 a7 w7 4 (hd 1 4 rfl)
   replace e_w := e_w.trans x
   clear hd hs x
   refine exit_then ?_
   refine wp_ret ?_
   refine then_ret ?_
   refine ret_tmp Try.results3 hr e_w ?_
   first | exact s4 | exact Is.bool s4 sums_end
 · skip
   have hl : l.length ≤ 1000 := by simp at hl; omega
   refine wp_skip ?_
   refine exit_then ?_
   refine wp_seq ?_
   refine wp_reg 76 [[(1, none)], [(15, some 0)], [(0, none)], [(17, some 2)], [(18, some 3)], [(16, some 1), (19, some 4)], [(20, some 5)]] [?b8_0, ?b8_1, ?b8_2, ?b8_3, ?b8_4, ?b8_5, ?b8_5] mixed (by kernel_rfl) (by kernel_rfl) hr ?t8 ?o8 ?_
   case o8 =>
    refine oc0 (fun A W hx hf => ?_) ?_
    exact ok_movE (a0 := a4) (r0 hf)
    refine oc0 (fun A W hx hf => ?_) ?_
    exact ok_convI Try.underlying23 Try.underlying3 (by exact IntWalk.i64_in _ (by omega)) (p2 s1 e_w hx (q0 ?b8_0 A W 15 hf))
    refine oc0 (fun A W hx hf => ?_) ?_
    exact ok_movE (a0 := a4) (r0 hf)
    refine oc0 (fun A W hx hf => ?_) ?_
    exact ok_len_bs Try.underlying22 (p2 s0 e_w hx (q0 ?b8_2 A W 17 hf))
    refine oc0 (fun A W hx hf => ?_) ?_
    exact ok_addI (q0 ?b8_3 A W 18 hf) (ec A (.int .i64 1)) (by omega)
    refine oc0 (fun A W hx hf => ?_) ?_
    exact ok_rem (by omega) (q0 ?b8_1 A W 16 hf) (q1 ?b8_4 A W 19 hf)
    refine oc0 (fun A W hx hf => ?_) ?_
    exact ok_assign (q0 ?b8_5 A W 20 hf)
    exact OpsOk.nil
   case t8 => exact inferInstance
   clear hr; intro a9 w9 x hr hd hs
   revert s0; refine kp1 hs rfl ?_; intro s0
   clear s1 s13
   have s5 := fa ?b8_5 a9 w9 5 (hd 6 5 rfl)
   replace e_w := e_w.trans x
   clear hd hs x
   replace s5 := Is.int s5 hK
   refine exit_then ?_
   refine wp_seq ?_
   refine wp_reg 76 [[(0, none)], [(21, some 0)], [(22, some 1)], [(23, some 2)]] [?b10_0, ?b10_1, ?b10_2, ?b10_2] mixed (by kernel_rfl) (by kernel_rfl) hr ?t10 ?o10 ?_
   case o10 =>
    refine oc0 (fun A W hx hf => ?_) ?_
    exact ok_movE (a0 := a9) (r0 hf)
    refine oc0 (fun A W hx hf => ?_) ?_
    exact ok_buildBss [(.tmp 21)] [_] Try.underlying44 size22 zero22 rfl rfl (by decide) (PartsOk.cons (p2 s0 e_w hx (q0 ?b10_0 A W 21 hf)) (PartsOk.nil))
    refine oc0 (fun A W hx hf => ?_) ?_
    exact ok_call1 body10 (c_Sum (q0 ?b10_1 A W 22 hf))
    refine oc0 (fun A W hx hf => ?_) ?_
    exact ok_assign (q0 ?b10_2 A W 23 hf)
    exact OpsOk.nil
   case t10 => exact inferInstance
   clear hr; intro a11 w11 x hr hd hs
   revert s0 s5; refine kp2 hs rfl ?_; intro s0 s5
   have s6 := fa ?b10_2 a11 w11 6 (hd 3 6 rfl)
   replace e_w := e_w.trans x
   have e_w9 := x
   clear hd hs x
   replace s6 := Is.int s6 (show _ = ck l from by simp)
   refine exit_then ?_
   refine wp_seq ?_
   refine wp_seq ?_
   refine wp_reg 76 [[(6, none)], [(24, some 0)], [(0, none)], [(26, some 2)], [(25, some 1), (27, some 3)], [(28, some 4)], [(0, none), (29, some 5)], [(5, none), (29, some 5)], [(30, some 6), (31, some 7), (29, some 5)], [(0, none), (29, some 5)], [(5, none), (29, some 5)], [(33, some 9), (34, some 10), (29, some 5)], [(32, some 8), (35, some 11), (29, some 5)], [(36, some 12), (29, some 5)], [(6, none), (29, some 5)], [(37, some 13), (38, some 14), (29, some 5)], [(29, some 5), (39, some 15)], [(40, some 16)], [(0, none), (41, some 17)], [(5, none), (41, some 17)], [(42, some 18), (43, some 19), (41, some 17)], [(0, none), (41, some 17)], [(5, none), (41, some 17)], [(45, some 21), (46, some 22), (41, some 17)], [(44, some 20), (47, some 23), (41, some 17)], [(48, some 24), (41, some 17)], [(6, none), (41, some 17)], [(49, some 25), (50, some 26), (41, some 17)], [(41, some 17), (51, some 27)], [(52, some 28)], [(0, none), (53, some 29)], [(54, some 30), (53, some 29)], [(55, some 31), (53, some 29)], [(6, none), (53, some 29)], [(57, some 33), (53, some 29)], [(56, some 32), (58, some 34), (53, some 29)], [(53, some 29), (59, some 35)]] [?b12_0, ?b12_1, ?b12_2, ?b12_3, ?b12_4, ?b12_4, ?b12_6, ?b12_7, ?b12_8, ?b12_9, ?b12_10, ?b12_11, ?b12_12, ?b12_13, ?b12_14, ?b12_15, ?b12_16, ?b12_16, ?b12_18, ?b12_19, ?b12_20, ?b12_21, ?b12_22, ?b12_23, ?b12_24, ?b12_25, ?b12_26, ?b12_27, ?b12_28, ?b12_28, ?b12_30, ?b12_31, ?b12_32, ?b12_33, ?b12_34, ?b12_35, ?b12_36] mixed (by kernel_rfl) (by kernel_rfl) hr ?t12 ?o12 ?_
   case o12 =>
    refine oc0 (fun A W hx hf => ?_) ?_
    exact ok_movE (a0 := a11) (r0 hf)
    refine oc0 (fun A W hx hf => ?_) ?_
    exact ok_convI Try.underlying23 Try.underlying3 (by exact IntWalk.i64_in _ (by omega)) (p1 s6 hx (q0 ?b12_0 A W 24 hf))
    refine oc0 (fun A W hx hf => ?_) ?_
    exact ok_movE (a0 := a11) (r0 hf)
    refine oc0 (fun A W hx hf => ?_) ?_
    exact ok_call1 body11 (c_rSum (p2 s0 e_w hx (q0 ?b12_2 A W 26 hf)) (by omega))
    refine oc0 (fun A W hx hf => ?_) ?_
    exact ok_neq (q0 ?b12_1 A W 25 hf) (q1 ?b12_3 A W 27 hf)
    refine oc0 (fun A W hx hf => ?_) ?_
    exact ok_move (q0 ?b12_4 A W 28 hf)
    refine ocg 29 ?_ (fun A W hx hf => ?_) ?_
    rfl
    exact gd_f (q1 ?b12_4 A W 29 hf) (fun hc => ok_movE (a0 := a11) (r0 hf))
    refine ocg 29 ?_ (fun A W hx hf => ?_) ?_
    rfl
    exact gd_f (q1 ?b12_4 A W 29 hf) (fun hc => ok_movE (a0 := a11) (r0 hf))
    refine ocg 29 ?_ (fun A W hx hf => ?_) ?_
    rfl
    exact gd_f (q2 ?b12_4 A W 29 hf) (fun hc => ok_slice_hi (_) Try.underlying22 size5 (p2 s0 e_w hx (G.get (q0 ?b12_6 A W 30 hf) hc)) (p2 s5 e_w9 hx (G.get (q1 ?b12_7 A W 31 hf) hc)) (by first | omega | decide | (simp; done) | (simp; omega)))
    refine ocg 29 ?_ (fun A W hx hf => ?_) ?_
    rfl
    exact gd_f (q1 ?b12_4 A W 29 hf) (fun hc => ok_movE (a0 := a11) (r0 hf))
    refine ocg 29 ?_ (fun A W hx hf => ?_) ?_
    rfl
    exact gd_f (q1 ?b12_4 A W 29 hf) (fun hc => ok_movE (a0 := a11) (r0 hf))
    refine ocg 29 ?_ (fun A W hx hf => ?_) ?_
    rfl
    exact gd_f (q2 ?b12_4 A W 29 hf) (fun hc => ok_slice_lo (_) Try.underlying22 size5 (p2 s0 e_w hx (G.get (q0 ?b12_9 A W 33 hf) hc)) (p2 s5 e_w9 hx (G.get (q1 ?b12_10 A W 34 hf) hc)) (by first | omega | decide | (simp; done) | (simp; omega)))
    refine ocg 29 ?_ (fun A W hx hf => ?_) ?_
    rfl
    exact gd_f (q2 ?b12_4 A W 29 hf) (fun hc => ok_buildBss [(.tmp 32), (.tmp 35)] [_, _] Try.underlying44 size22 zero22 rfl rfl (by decide) (PartsOk.cons (G.get (q0 ?b12_8 A W 32 hf) hc) (PartsOk.cons (G.get (q1 ?b12_11 A W 35 hf) hc) (PartsOk.nil))))
    refine ocg 29 ?_ (fun A W hx hf => ?_) ?_
    rfl
    exact gd_f (q1 ?b12_4 A W 29 hf) (fun hc => ok_call1 body10 (c_Sum (G.get (q0 ?b12_12 A W 36 hf) hc)))
    refine ocg 29 ?_ (fun A W hx hf => ?_) ?_
    rfl
    exact gd_f (q1 ?b12_4 A W 29 hf) (fun hc => ok_movE (a0 := a11) (r0 hf))
    refine ocg 29 ?_ (fun A W hx hf => ?_) ?_
    rfl
    exact gd_f (q2 ?b12_4 A W 29 hf) (fun hc => ok_neq (G.get (q0 ?b12_13 A W 37 hf) hc) (p1 s6 hx (G.get (q1 ?b12_14 A W 38 hf) hc)))
    refine oc0 (fun A W hx hf => ?_) ?_
    exact ok_or (q0 ?b12_4 A W 29 hf) (q1 ?b12_15 A W 39 hf)
    refine oc0 (fun A W hx hf => ?_) ?_
    exact ok_move (q0 ?b12_16 A W 40 hf)
    refine ocg 41 ?_ (fun A W hx hf => ?_) ?_
    rfl
    exact gd_f (q1 ?b12_16 A W 41 hf) (fun hc => ok_movE (a0 := a11) (r0 hf))
    refine ocg 41 ?_ (fun A W hx hf => ?_) ?_
    rfl
    exact gd_f (q1 ?b12_16 A W 41 hf) (fun hc => ok_movE (a0 := a11) (r0 hf))
    refine ocg 41 ?_ (fun A W hx hf => ?_) ?_
    rfl
    exact gd_f (q2 ?b12_16 A W 41 hf) (fun hc => ok_slice_hi (_) Try.underlying22 size5 (p2 s0 e_w hx (G.get (q0 ?b12_18 A W 42 hf) hc)) (p2 s5 e_w9 hx (G.get (q1 ?b12_19 A W 43 hf) hc)) (by first | omega | decide | (simp; done) | (simp; omega)))
    refine ocg 41 ?_ (fun A W hx hf => ?_) ?_
    rfl
    exact gd_f (q1 ?b12_16 A W 41 hf) (fun hc => ok_movE (a0 := a11) (r0 hf))
    refine ocg 41 ?_ (fun A W hx hf => ?_) ?_
    rfl
    exact gd_f (q1 ?b12_16 A W 41 hf) (fun hc => ok_movE (a0 := a11) (r0 hf))
    refine ocg 41 ?_ (fun A W hx hf => ?_) ?_
    rfl
    exact gd_f (q2 ?b12_16 A W 41 hf) (fun hc => ok_slice_lo (_) Try.underlying22 size5 (p2 s0 e_w hx (G.get (q0 ?b12_21 A W 45 hf) hc)) (p2 s5 e_w9 hx (G.get (q1 ?b12_22 A W 46 hf) hc)) (by first | omega | decide | (simp; done) | (simp; omega)))
    refine ocg 41 ?_ (fun A W hx hf => ?_) ?_
    rfl
    exact gd_f (q2 ?b12_16 A W 41 hf) (fun hc => ok_buildBss [(.const (.slice none 0 0)), (.tmp 44), (.const (.slice none 0 0)), (.tmp 47)] [_, _, _, _] Try.underlying44 size22 zero22 rfl rfl (by decide) (PartsOk.cons bs_nil (PartsOk.cons (G.get (q0 ?b12_20 A W 44 hf) hc) (PartsOk.cons bs_nil (PartsOk.cons (G.get (q1 ?b12_23 A W 47 hf) hc) (PartsOk.nil))))))
    refine ocg 41 ?_ (fun A W hx hf => ?_) ?_
    rfl
    exact gd_f (q1 ?b12_16 A W 41 hf) (fun hc => ok_call1 body10 (c_Sum (G.get (q0 ?b12_24 A W 48 hf) hc)))
    refine ocg 41 ?_ (fun A W hx hf => ?_) ?_
    rfl
    exact gd_f (q1 ?b12_16 A W 41 hf) (fun hc => ok_movE (a0 := a11) (r0 hf))
    refine ocg 41 ?_ (fun A W hx hf => ?_) ?_
    rfl
    exact gd_f (q2 ?b12_16 A W 41 hf) (fun hc => ok_neq (G.get (q0 ?b12_25 A W 49 hf) hc) (p1 s6 hx (G.get (q1 ?b12_26 A W 50 hf) hc)))
    refine oc0 (fun A W hx hf => ?_) ?_
    exact ok_or (q0 ?b12_16 A W 41 hf) (q1 ?b12_27 A W 51 hf)
    refine oc0 (fun A W hx hf => ?_) ?_
    exact ok_move (q0 ?b12_28 A W 52 hf)
    refine ocg 53 ?_ (fun A W hx hf => ?_) ?_
    rfl
    exact gd_f (q1 ?b12_28 A W 53 hf) (fun hc => ok_movE (a0 := a11) (r0 hf))
    refine ocg 53 ?_ (fun A W hx hf => ?_) ?_
    rfl
    exact gd_f (q1 ?b12_28 A W 53 hf) (fun hc => ok_buildBss [(.tmp 54)] [_] Try.underlying44 size22 zero22 rfl rfl (by decide) (PartsOk.cons (p2 s0 e_w hx (G.get (q0 ?b12_30 A W 54 hf) hc)) (PartsOk.nil)))
    refine ocg 53 ?_ (fun A W hx hf => ?_) ?_
    rfl
    exact gd_f (q1 ?b12_28 A W 53 hf) (fun hc => ok_call1 body12 (c_Right (G.get (q0 ?b12_31 A W 55 hf) hc)))
    refine ocg 53 ?_ (fun A W hx hf => ?_) ?_
    rfl
    exact gd_f (q1 ?b12_28 A W 53 hf) (fun hc => ok_movE (a0 := a11) (r0 hf))
    refine ocg 53 ?_ (fun A W hx hf => ?_) ?_
    rfl
    exact gd_f (q1 ?b12_28 A W 53 hf) (fun hc => ok_eql (p1 s6 hx (G.get (q0 ?b12_33 A W 57 hf) hc)) (ec A (.int .u16 0)))
    refine ocg 53 ?_ (fun A W hx hf => ?_) ?_
    rfl
    exact gd_f (q2 ?b12_28 A W 53 hf) (fun hc => ok_neb Try.underlying4 (G.get (q0 ?b12_32 A W 56 hf) hc) (G.get (q1 ?b12_34 A W 58 hf) hc))
    refine oc0 (fun A W hx hf => ?_) ?_
    exact ok_or (q0 ?b12_28 A W 53 hf) (q1 ?b12_35 A W 59 hf)
    exact OpsOk.nil
   case t12 => exact inferInstance
   clear hr; intro a13 w13 x hr hd hs
   revert s0 s6; refine kp2 hs rfl ?_; intro s0 s6
   clear s5
   have s60 := fa ?b12_36 a13 w13 60 (hd 36 60 rfl)
   replace e_w := e_w.trans x
   clear e_w9
   have e_w11 := x
   clear hd hs x
   refine exit_then ?_
   refine wp_cond_split (show _ = _ from s60) (fun hc14 => ?_) (fun hc14 => ?_)
   · skip
     exfalso; simp at hc14
   · skip
     try simp only [decide_eq_true_eq, decide_eq_false_iff_not, Bool.not_eq_true', Bool.not_eq_false', Bool.not_true, Bool.not_false, Bool.and_eq_true, Bool.and_eq_false_iff, Bool.or_eq_true, Bool.or_eq_false_iff, bne_iff_ne, beq_iff_eq, ne_eq, beq_eq_false_iff_ne, bne_eq_false_iff_eq] at hc14
     refine wp_skip ?_
     refine exit_then ?_
     refine wp_seq ?_
     refine wp_reg 76 [[(0, none)], [(61, some 0)], [(62, some 1)], [(63, some 2)], [(64, some 3)], [(0, none), (65, some 4)], [(6, none), (65, some 4)], [(67, some 6), (65, some 4)], [(68, some 7), (65, some 4)], [(6, none), (65, some 4)], [(70, some 9), (65, some 4)], [(69, some 8), (71, some 10), (65, some 4)], [(66, some 5), (72, some 11), (65, some 4)], [(73, some 12), (65, some 4)], [(65, some 4), (74, some 13)], [(75, some 14)]] [?b15_0, ?b15_1, ?b15_2, ?b15_3, ?b15_3, ?b15_5, ?b15_6, ?b15_7, ?b15_8, ?b15_9, ?b15_10, ?b15_11, ?b15_12, ?b15_13, ?b15_14, ?b15_14] mixed (by kernel_rfl) (by kernel_rfl) hr ?t15 ?o15 ?_
     case o15 =>
      refine oc0 (fun A W hx hf => ?_) ?_
      exact ok_movE (a0 := a13) (r0 hf)
      refine oc0 (fun A W hx hf => ?_) ?_
      exact ok_len_bs Try.underlying22 (p2 s0 e_w hx (q0 ?b15_0 A W 61 hf))
      refine oc0 (fun A W hx hf => ?_) ?_
      exact ok_rem (by decide) (q0 ?b15_1 A W 62 hf) (ec A (.int .i64 2))
      refine oc0 (fun A W hx hf => ?_) ?_
      exact ok_eql (q0 ?b15_2 A W 63 hf) (ec A (.int .i64 1))
      refine oc0 (fun A W hx hf => ?_) ?_
      exact ok_move (q0 ?b15_3 A W 64 hf)
      refine ocg 65 ?_ (fun A W hx hf => ?_) ?_
      rfl
      exact gd_f (q1 ?b15_3 A W 65 hf) (fun hc => ok_movE (a0 := a13) (r0 hf))
      refine ocg 65 ?_ (fun A W hx hf => ?_) ?_
      rfl
      exact gd_f (q1 ?b15_3 A W 65 hf) (fun hc => ok_movE (a0 := a13) (r0 hf))
      refine ocg 65 ?_ (fun A W hx hf => ?_) ?_
      rfl
      exact gd_f (q1 ?b15_3 A W 65 hf) (fun hc => ok_shr 8 (by decide) (p2 s6 e_w11 hx (G.get (q0 ?b15_6 A W 67 hf) hc)) (ec A (.int .u64 8)))
      refine ocg 65 ?_ (fun A W hx hf => ?_) ?_
      rfl
      exact gd_f (q1 ?b15_3 A W 65 hf) (fun hc => ok_conv8 Try.underlying23 Try.underlying5 (G.get (q0 ?b15_7 A W 68 hf) hc))
      refine ocg 65 ?_ (fun A W hx hf => ?_) ?_
      rfl
      exact gd_f (q1 ?b15_3 A W 65 hf) (fun hc => ok_movE (a0 := a13) (r0 hf))
      refine ocg 65 ?_ (fun A W hx hf => ?_) ?_
      rfl
      exact gd_f (q1 ?b15_3 A W 65 hf) (fun hc => ok_conv8 Try.underlying23 Try.underlying5 (p2 s6 e_w11 hx (G.get (q0 ?b15_9 A W 70 hf) hc)))
      refine ocg 65 ?_ (fun A W hx hf => ?_) ?_
      rfl
      exact gd_f (q2 ?b15_3 A W 65 hf) (fun hc => ok_buildBs [(.tmp 69), (.tmp 71)] [_, _] Try.underlying22 size5 zero5 rfl rfl (by decide) (PartsOk.cons (G.get (q0 ?b15_8 A W 69 hf) hc) (PartsOk.cons (G.get (q1 ?b15_10 A W 71 hf) hc) (PartsOk.nil))))
      refine ocg 65 ?_ (fun A W hx hf => ?_) ?_
      rfl
      exact gd_f (q2 ?b15_3 A W 65 hf) (fun hc => ok_buildBss [(.tmp 66), (.tmp 72)] [_, _] Try.underlying44 size22 zero22 rfl rfl (by decide) (PartsOk.cons (p2 s0 e_w hx (G.get (q0 ?b15_5 A W 66 hf) hc)) (PartsOk.cons (G.get (q1 ?b15_11 A W 72 hf) hc) (PartsOk.nil))))
      refine ocg 65 ?_ (fun A W hx hf => ?_) ?_
      rfl
      exact gd_f (q1 ?b15_3 A W 65 hf) (fun hc => ok_call1 body12 (c_Right (G.get (q0 ?b15_12 A W 73 hf) hc)))
      refine oc0 (fun A W hx hf => ?_) ?_
      exact ok_or (q0 ?b15_3 A W 65 hf) (q1 ?b15_13 A W 74 hf)
      refine oc0 (fun A W hx hf => ?_) ?_
      exact ok_assign (q0 ?b15_14 A W 75 hf)
      exact OpsOk.nil
     case t15 => exact inferInstance
     clear hr; intro a16 w16 x hr hd hs
     clear s0 s6 s60
     have s4 := fa ?b15_14 a16 w16 4 (hd 15 4 rfl)
     replace e_w := e_w.trans x
     clear e_w11
     clear hd hs x
     refine exit_then ?_
     refine wp_ret ?_
     refine ret_tmp Try.results3 hr e_w ?_
     first | exact s4 | exact Is.bool s4 sums_end

end Go.Proofs.Ytaalllmkjobajaa
