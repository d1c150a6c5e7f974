import Derived.Test.YtaalllmkjobajaaC06c
namespace Go.Proofs.Ytaalllmkjobajaa
open Go.RowKit
set_option linter.unusedVariables false
set_option maxRecDepth 4000
theorem c_awake06 {w : World}    :
    Calls Try.prog 9 #[] w (Ret (Is (.bool true)) w) := by
 refine enter Try.func9 rfl Try.ntmps9 (k := 0) rfl (by decide) (fun a0 hr hargs => ?_)
 clear hargs
 refine wp_seq ?_
 refine wp_reg 43 [[]] [?b1_0] mixed (by kernel_rfl) (by kernel_rfl) hr ?t1 ?o1 ?_
 case o1 =>
  refine oc0 (fun A W hx hf => ?_) ?_
  exact ok_assignc
  exact OpsOk.nil
 case t1 => exact inferInstance
 clear hr; intro a2 w2 x hr hd hs
 have e_w := x
 clear hd hs x
 refine exit_then ?_
 refine wp_seq ?_
 refine wp_reg 43 [[], [(2, some 0)]] [?b3_0, ?b3_0] mixed (by kernel_rfl) (by kernel_rfl) hr ?t3 ?o3 ?_
 case o3 =>
  refine oc0 (fun A W hx hf => ?_) ?_
  exact ok_buildBs [(.const (.int .u8 0)), (.const (.int .u8 1)), (.const (.int .u8 242)), (.const (.int .u8 3)), (.const (.int .u8 244)), (.const (.int .u8 245)), (.const (.int .u8 246)), (.const (.int .u8 247))] [_, _, _, _, _, _, _, _] Try.underlying22 size5 zero5 rfl rfl (by decide) (PartsOk.cons (show ByteIs 0 _ _ from rfl) (PartsOk.cons (show ByteIs 1 _ _ from rfl) (PartsOk.cons (show ByteIs 242 _ _ from rfl) (PartsOk.cons (show ByteIs 3 _ _ from rfl) (PartsOk.cons (show ByteIs 244 _ _ from rfl) (PartsOk.cons (show ByteIs 245 _ _ from rfl) (PartsOk.cons (show ByteIs 246 _ _ from rfl) (PartsOk.cons (show ByteIs 247 _ _ from rfl) (PartsOk.nil)))))))))
  refine oc0 (fun A W hx hf => ?_) ?_
  exact ok_assign (q0 ?b3_0 A W 2 hf)
  exact OpsOk.nil
 case t3 => exact inferInstance
 clear hr; intro a4 w4 x hr hd hs
 have s1 := fa ?b3_0 a4 w4 1 (hd 1 1 rfl)
 replace e_w := e_w.trans x
 clear hd hs x
 refine exit_then ?_
 refine wp_seq ?_
 refine wp_reg 43 [[(1, none)], [(3, some 0)], [(4, some 1)], [(5, some 2)], [(6, some 3)], [(1, none), (7, some 4)], [(8, some 5), (7, some 4)], [(1, none), (7, some 4)], [(10, some 7), (7, some 4)], [(9, some 6), (11, some 8), (7, some 4)], [(12, some 9), (7, some 4)], [(13, some 10), (7, some 4)], [(7, some 4), (14, some 11)], [(15, some 12)], [(1, none), (16, some 13)], [(16, some 13)], [(17, some 14), (18, some 15), (16, some 13)], [(19, some 16), (16, some 13)], [(16, some 13), (20, some 17)], [(21, some 18)], [(1, none), (22, some 19)], [(23, some 20), (22, some 19)], [(24, some 21), (22, some 19)], [(25, some 22), (22, some 19)], [(22, some 19), (26, some 23)], [(27, some 24)], [(28, some 25)], [(29, some 26), (28, some 25)], [(28, some 25), (30, some 27)], [(31, some 28)], [(32, some 29)], [(33, some 30), (32, some 29)], [(32, some 29), (34, some 31)], [(35, some 32)], [(36, some 33)], [(36, some 33)], [(37, some 34), (38, some 35), (36, some 33)], [(39, some 36), (36, some 33)], [(40, some 37), (36, some 33)], [(36, some 33), (41, some 38)], [(42, some 39)]] [?b5_0, ?b5_1, ?b5_2, ?b5_3, ?b5_3, ?b5_5, ?b5_6, ?b5_7, ?b5_8, ?b5_9, ?b5_10, ?b5_11, ?b5_12, ?b5_12, ?b5_14, ?b5_15, ?b5_16, ?b5_17, ?b5_18, ?b5_18, ?b5_20, ?b5_21, ?b5_22, ?b5_23, ?b5_24, ?b5_24, ?b5_26, ?b5_27, ?b5_28, ?b5_28, ?b5_30, ?b5_31, ?b5_32, ?b5_32, ?b5_34, ?b5_35, ?b5_36, ?b5_37, ?b5_38, ?b5_39, ?b5_39] mixed (by kernel_rfl) (by kernel_rfl) hr ?t5 ?o5 ?_
 case o5 =>
  refine oc0 (fun A W hx hf => ?_) ?_
  exact ok_movE (a0 := a4) (r0 hf)
  refine oc0 (fun A W hx hf => ?_) ?_
  exact ok_buildBss [(.tmp 3)] [_] Try.underlying44 size22 zero22 rfl rfl (by decide) (PartsOk.cons (p1 s1 hx (q0 ?b5_0 A W 3 hf)) (PartsOk.nil))
  refine oc0 (fun A W hx hf => ?_) ?_
  exact ok_call1 body10 (c_Sum (q0 ?b5_1 A W 4 hf))
  refine oc0 (fun A W hx hf => ?_) ?_
  exact ok_eql (q0 ?b5_2 A W 5 hf) (ec A (.int .u16 8717))
  refine oc0 (fun A W hx hf => ?_) ?_
  exact ok_move (q0 ?b5_3 A W 6 hf)
  refine ocg 7 ?_ (fun A W hx hf => ?_) ?_
  rfl
  exact gd_t (q1 ?b5_3 A W 7 hf) (fun hc => ok_movE (a0 := a4) (r0 hf))
  refine ocg 7 ?_ (fun A W hx hf => ?_) ?_
  rfl
  exact gd_t (q1 ?b5_3 A W 7 hf) (fun hc => ok_slice_hi (3) Try.underlying22 size5 (p1 s1 hx (G.get (q0 ?b5_5 A W 8 hf) hc)) (ec A (.int .i64 3)) (by first | omega | decide | (simp; done) | (simp; omega)))
  refine ocg 7 ?_ (fun A W hx hf => ?_) ?_
  rfl
  exact gd_t (q1 ?b5_3 A W 7 hf) (fun hc => ok_movE (a0 := a4) (r0 hf))
  refine ocg 7 ?_ (fun A W hx hf => ?_) ?_
  rfl
  exact gd_t (q1 ?b5_3 A W 7 hf) (fun hc => ok_slice_lo (3) Try.underlying22 size5 (p1 s1 hx (G.get (q0 ?b5_7 A W 10 hf) hc)) (ec A (.int .i64 3)) (by first | omega | decide | (simp; done) | (simp; omega)))
  refine ocg 7 ?_ (fun A W hx hf => ?_) ?_
  rfl
  exact gd_t (q2 ?b5_3 A W 7 hf) (fun hc => ok_buildBss [(.tmp 9), (.tmp 11)] [_, _] Try.underlying44 size22 zero22 rfl rfl (by decide) (PartsOk.cons (G.get (q0 ?b5_6 A W 9 hf) hc) (PartsOk.cons (G.get (q1 ?b5_8 A W 11 hf) hc) (PartsOk.nil))))
  refine ocg 7 ?_ (fun A W hx hf => ?_) ?_
  rfl
  exact gd_t (q1 ?b5_3 A W 7 hf) (fun hc => ok_call1 body10 (c_Sum (G.get (q0 ?b5_9 A W 12 hf) hc)))
  refine ocg 7 ?_ (fun A W hx hf => ?_) ?_
  rfl
  exact gd_t (q1 ?b5_3 A W 7 hf) (fun hc => ok_eql (G.get (q0 ?b5_10 A W 13 hf) hc) (ec A (.int .u16 8717)))
  refine oc0 (fun A W hx hf => ?_) ?_
  exact ok_and (q0 ?b5_3 A W 7 hf) (q1 ?b5_11 A W 14 hf)
  refine oc0 (fun A W hx hf => ?_) ?_
  exact ok_move (q0 ?b5_12 A W 15 hf)
  refine ocg 16 ?_ (fun A W hx hf => ?_) ?_
  rfl
  exact gd_t (q1 ?b5_12 A W 16 hf) (fun hc => ok_movE (a0 := a4) (r0 hf))
  refine ocg 16 ?_ (fun A W hx hf => ?_) ?_
  rfl
  exact gd_t (q0 ?b5_12 A W 16 hf) (fun hc => ok_buildBs [(.const (.int .u8 34)), (.const (.int .u8 13))] [_, _] Try.underlying22 size5 zero5 rfl rfl (by decide) (PartsOk.cons (show ByteIs 34 _ _ from rfl) (PartsOk.cons (show ByteIs 13 _ _ from rfl) (PartsOk.nil))))
  refine ocg 16 ?_ (fun A W hx hf => ?_) ?_
  rfl
  exact gd_t (q2 ?b5_12 A W 16 hf) (fun hc => ok_buildBss [(.tmp 17), (.tmp 18)] [_, _] Try.underlying44 size22 zero22 rfl rfl (by decide) (PartsOk.cons (p1 s1 hx (G.get (q0 ?b5_14 A W 17 hf) hc)) (PartsOk.cons (G.get (q1 ?b5_15 A W 18 hf) hc) (PartsOk.nil))))
  refine ocg 16 ?_ (fun A W hx hf => ?_) ?_
  rfl
  exact gd_t (q1 ?b5_12 A W 16 hf) (fun hc => ok_call1 body12 (c_Right (G.get (q0 ?b5_16 A W 19 hf) hc)))
  refine oc0 (fun A W hx hf => ?_) ?_
  exact ok_and (q0 ?b5_12 A W 16 hf) (q1 ?b5_17 A W 20 hf)
  refine oc0 (fun A W hx hf => ?_) ?_
  exact ok_move (q0 ?b5_18 A W 21 hf)
  refine ocg 22 ?_ (fun A W hx hf => ?_) ?_
  rfl
  exact gd_t (q1 ?b5_18 A W 22 hf) (fun hc => ok_movE (a0 := a4) (r0 hf))
  refine ocg 22 ?_ (fun A W hx hf => ?_) ?_
  rfl
  exact gd_t (q1 ?b5_18 A W 22 hf) (fun hc => ok_buildBss [(.tmp 23)] [_] Try.underlying44 size22 zero22 rfl rfl (by decide) (PartsOk.cons (p1 s1 hx (G.get (q0 ?b5_20 A W 23 hf) hc)) (PartsOk.nil)))
  refine ocg 22 ?_ (fun A W hx hf => ?_) ?_
  rfl
  exact gd_t (q1 ?b5_18 A W 22 hf) (fun hc => ok_call1 body12 (c_Right (G.get (q0 ?b5_21 A W 24 hf) hc)))
  refine ocg 22 ?_ (fun A W hx hf => ?_) ?_
  rfl
  exact gd_t (q1 ?b5_18 A W 22 hf) (fun hc => ok_not (G.get (q0 ?b5_22 A W 25 hf) hc))
  refine oc0 (fun A W hx hf => ?_) ?_
  exact ok_and (q0 ?b5_18 A W 22 hf) (q1 ?b5_23 A W 26 hf)
  refine oc0 (fun A W hx hf => ?_) ?_
  exact ok_move (q0 ?b5_24 A W 27 hf)
  refine ocg 28 ?_ (fun A W hx hf => ?_) ?_
  rfl
  exact gd_t (q0 ?b5_24 A W 28 hf) (fun hc => ok_call1 body10 (c_Sum (show Bss [] (A.eval (.const (.slice none 0 0))) _ from bss_nil)))
  refine ocg 28 ?_ (fun A W hx hf => ?_) ?_
  rfl
  exact gd_t (q1 ?b5_24 A W 28 hf) (fun hc => ok_eql (G.get (q0 ?b5_26 A W 29 hf) hc) (ec A (.int .u16 65535)))
  refine oc0 (fun A W hx hf => ?_) ?_
  exact ok_and (q0 ?b5_24 A W 28 hf) (q1 ?b5_27 A W 30 hf)
  refine oc0 (fun A W hx hf => ?_) ?_
  exact ok_move (q0 ?b5_28 A W 31 hf)
  refine ocg 32 ?_ (fun A W hx hf => ?_) ?_
  rfl
  exact gd_t (q0 ?b5_28 A W 32 hf) (fun hc => ok_call3 body13 (c_Change (show Is (.int .u16 8717) (A.eval (.const (.int .u16 8717))) _ from rfl) (show Is (.int .u16 1) (A.eval (.const (.int .u16 1))) _ from rfl) (show Is (.int .u16 1) (A.eval (.const (.int .u16 1))) _ from rfl) (by omega) (by omega) (by omega)))
  refine ocg 32 ?_ (fun A W hx hf => ?_) ?_
  rfl
  exact gd_t (q1 ?b5_28 A W 32 hf) (fun hc => ok_eql (G.get (q0 ?b5_30 A W 33 hf) hc) (ec A (.int .u16 8717)))
  refine oc0 (fun A W hx hf => ?_) ?_
  exact ok_and (q0 ?b5_28 A W 32 hf) (q1 ?b5_31 A W 34 hf)
  refine oc0 (fun A W hx hf => ?_) ?_
  exact ok_move (q0 ?b5_32 A W 35 hf)
  refine ocg 36 ?_ (fun A W hx hf => ?_) ?_
  rfl
  exact gd_t (q0 ?b5_32 A W 36 hf) (fun hc => ok_build0 built35)
  refine ocg 36 ?_ (fun A W hx hf => ?_) ?_
  rfl
  exact gd_t (q0 ?b5_32 A W 36 hf) (fun hc => ok_build0 built35)
  refine ocg 36 ?_ (fun A W hx hf => ?_) ?_
  rfl
  exact gd_t (q2 ?b5_32 A W 36 hf) (fun hc => ok_call4 body14 (c_Pseudo (G.get (q0 ?b5_34 A W 37 hf) hc) (G.get (q1 ?b5_35 A W 38 hf) hc) (show Is (.int .i64 6) (A.eval (.const (.int .i64 6))) _ from rfl) (show Is (.int .i64 258) (A.eval (.const (.int .i64 258))) _ from rfl) (by rfl) (by rfl) hx.size))
  refine ocg 36 ?_ (fun A W hx hf => ?_) ?_
  rfl
  exact gd_t (q1 ?b5_32 A W 36 hf) (fun hc => ok_len_bs Try.underlying22 (OwnB.bs (G.get (q0 ?b5_36 A W 39 hf) hc)))
  refine ocg 36 ?_ (fun A W hx hf => ?_) ?_
  rfl
  exact gd_t (q1 ?b5_32 A W 36 hf) (fun hc => ok_eql (G.get (q0 ?b5_37 A W 40 hf) hc) (ec A (.int .i64 12)))
  refine oc0 (fun A W hx hf => ?_) ?_
  exact ok_and (q0 ?b5_32 A W 36 hf) (q1 ?b5_38 A W 41 hf)
  refine oc0 (fun A W hx hf => ?_) ?_
  exact ok_assign (q0 ?b5_39 A W 42 hf)
  exact OpsOk.nil
 case t5 => exact inferInstance
 clear hr; intro a6 w6 x hr hd hs
 have z_w_w4 := e_w.size
 clear s1
 have s0 := fa ?b5_39 a6 w6 0 (hd 40 0 rfl)
 replace e_w := e_w.trans x
 clear hd hs x
 refine exit_then ?_
 refine wp_ret ?_
 refine ret_tmp Try.results9 hr e_w ?_
 exact Is.bool s0 (by decide)

end Go.Proofs.Ytaalllmkjobajaa
