import Derived.Test.YtdohlcakoamdhaaA09
import Derived.Test.YtdohlcakoamdhaaC09e
namespace Go.Proofs.Ytdohlcakoamdhaa
open Go.RowKit
set_option linter.unusedVariables false
set_option maxRecDepth 4000
theorem law_SixReads {x0 : Value} {w : World} {l : List UInt8} (h0 : (Bs l) x0 w)  :
    Calls Try.prog 3 #[x0] w (Ret (Is (.bool true)) w) := by
 have hlen := Bs.len_le h0
 refine enter Try.func3 rfl Try.ntmps3 (k := 1) rfl (by decide) (fun a0 hr hargs => ?_)
 have s0 := sarg h0 (hargs 0 (by decide))
 clear hargs
 refine wp_seq ?_
 refine wp_reg 33 [[]] [?b1_0] mixed (by kernel_rfl) (by kernel_rfl) hr ?t1 ?o1 ?_
 case o1 =>
  refine oc0 (fun A W hx hf => ?_) ?_
  exact ok_assignc
  exact OpsOk.nil
 case t1 => exact inferInstance
 clear hr; intro a2 w2 x hr hd hs
 revert s0; refine kp1 hs rfl ?_; intro s0
 have e_w := x
 clear hd hs x
 refine exit_then ?_
 refine wp_seq ?_
 refine wp_seq ?_
 refine wp_reg 33 [[], [(7, some 0)], [(8, some 1)], [(0, none), (9, some 2)], [(10, some 3), (9, some 2)], [(11, some 4), (9, some 2)], [(9, some 2), (12, some 5)]] [?b3_0, ?b3_1, ?b3_1, ?b3_3, ?b3_4, ?b3_5, ?b3_6] mixed (by kernel_rfl) (by kernel_rfl) hr ?t3 ?o3 ?_
 case o3 =>
  refine oc0 (fun A W hx hf => ?_) ?_
  exact ok_call0 body9 (c_awake09 )
  refine oc0 (fun A W hx hf => ?_) ?_
  exact ok_not (q0 ?b3_0 A W 7 hf)
  refine oc0 (fun A W hx hf => ?_) ?_
  exact ok_move (q0 ?b3_1 A W 8 hf)
  refine ocg 9 ?_ (fun A W hx hf => ?_) ?_
  rfl
  exact gd_f (q1 ?b3_1 A W 9 hf) (fun hc => ok_movE (a0 := a2) (r0 hf))
  refine ocg 9 ?_ (fun A W hx hf => ?_) ?_
  rfl
  exact gd_f (q1 ?b3_1 A W 9 hf) (fun hc => ok_len_bs Try.underlying22 (p2 s0 e_w hx (G.get (q0 ?b3_3 A W 10 hf) hc)))
  refine ocg 9 ?_ (fun A W hx hf => ?_) ?_
  rfl
  exact gd_f (q1 ?b3_1 A W 9 hf) (fun hc => ok_gtr (G.get (q0 ?b3_4 A W 11 hf) hc) (ec A (.int .i64 3000)))
  refine oc0 (fun A W hx hf => ?_) ?_
  exact ok_or (q0 ?b3_1 A W 9 hf) (q1 ?b3_5 A W 12 hf)
  exact OpsOk.nil
 case t3 => exact inferInstance
 clear hr; intro a4 w4 x hr hd hs
 revert s0; refine kp1 hs rfl ?_; intro s0
 have s13 := fa ?b3_6 a4 w4 13 (hd 6 13 rfl)
 replace e_w := e_w.trans x
 clear hd hs x
 refine exit_then ?_
 refine wp_cond_split (show _ = _ from s13) (fun hl => ?_) (fun hl => ?_)
 · skip
   skip
   refine wp_seq ?_
   refine wp_reg 33 [[], [(14, some 0)]] [?b6_0, ?b6_0] mixed (by kernel_rfl) (by kernel_rfl) hr ?t6 ?o6 ?_
   case o6 =>
    refine oc0 (fun A W hx hf => ?_) ?_
    exact ok_call0 body9 (c_awake09 )
    refine oc0 (fun A W hx hf => ?_) ?_
    exact ok_assign (q0 ?b6_0 A W 14 hf)
    exact OpsOk.nil
   case t6 => exact inferInstance
   clear hr; intro a7 w7 x hr hd hs
   clear s0 s13
   have s2 := fa ?b6_0 a7 w7 2 (hd 1 2 rfl)
   replace e_w := e_w.trans x
   clear hd hs x
   refine exit_then ?_
   refine wp_ret ?_
   refine then_ret ?_
   refine ret_tmp Try.results3 hr e_w ?_
   first | with_reducible exact s2 | exact Is.bool s2 (by simp)
 · skip
   skip
   refine wp_skip ?_
   refine exit_then ?_
   refine wp_seq ?_
   refine wp_reg_pre (l := [_, _, _, _, _, _]) (rest := [_, _]) 33 [[(0, none)], [(16, some 0)], [(17, some 1)], [(15, some 2)], [(15, some 2)], []] [?b8_0, ?b8_1, ?b8_1, ?b8_3, ?b8_4, ?b8_5] (by kernel_rfl) (by kernel_rfl) hr ?t8 ?o8 ?_
   case o8 =>
    refine oc0 (fun A W hx hf => ?_) ?_
    exact ok_movE (a0 := a4) (r0 hf)
    refine oc0 (fun A W hx hf => ?_) ?_
    exact ok_call1 body10 (c_xRead (p2 s0 e_w hx (q0 ?b8_0 A W 16 hf)))
    refine oc0 (fun A W hx hf => ?_) ?_
    exact ok_move (q0 ?b8_1 A W 17 hf)
    refine oc0 (fun A W hx hf => ?_) ?_
    exact ok_ext0 (q0 ?b8_1 A W 15 hf)
    refine oc0 (fun A W hx hf => ?_) ?_
    exact ok_ext1 (q0 ?b8_1 A W 15 hf)
    refine oc0 (fun A W hx hf => ?_) ?_
    exact ok_allocS [(sixS six0).flatten] [40] zerov28 (by rfl) (by rfl) hx.size
    exact OpsOk.nil
   case t8 => exact inferInstance
   clear hr; intro a9 w9 x hr hd hs
   have z_w_w4 := e_w.size
   revert s0; refine kp1 hs rfl ?_; intro s0
   clear s13
   have s18 := fa ?b8_3 a9 w9 18 (hd 3 18 rfl)
   have s19 := fa ?b8_4 a9 w9 19 (hd 4 19 rfl)
   have s3 := fa ?b8_5 a9 w9 3 (hd 5 3 rfl)
   obtain ⟨g9_3, q9_3⟩ := PxN.at s3; clear s3; have n9_3 := PxS.lt q9_3
   replace q9_3 := PxS.mono q9_3 e_w.size
   have s3 := q9_3; clear q9_3
   replace e_w := e_w.trans x
   clear hd hs x
   have z10 := PxS.lt s3
   have l10 := (show (g9_3 = 0 ∨ w.heap.size < g9_3) ∧ True from ⟨by omega, trivial⟩)
   refine wl_storeSn hr size28 s3 s18 (by exact six_len (sixRead_ok _)) (by exact six_one) rfl ?_; clear hr; intro a10 w10 hc hu hr hs
   have hb : Below w.heap.size w9 w10 := hc.below e_w.size l10.1
   revert s0 s19 s3; refine kp3 hs rfl ?_; intro s0 s19 s3
   clear s18
   replace s3 := hu _ _ _ s3
   try simp only [List.set_cons_zero, List.set_cons_succ] at s3
   replace e_w := e_w.below (Nat.le_refl _) hb
   replace s19 := anyw (w2 := w10) s19
   clear hu hs hc hb
   refine wl_op hr (ok_assign s19) inferInstance ?_; clear hr; intro a11 w11 x hr hd hs
   revert s0 s3; refine kp2 hs rfl ?_; intro s0 s3
   clear s19
   have s4 := hd 4 rfl (by decide)
   replace e_w := e_w.trans x
   have e_w10 := x
   clear hd hs x
   refine wpList_nil ?_
   refine exit_then ?_
   refine wp_seq ?_
   refine wp_reg_pre (l := [_, _, _, _, _, _]) (rest := [_, _]) 33 [[(0, none)], [(21, some 0)], [(22, some 1)], [(20, some 2)], [(20, some 2)], []] [?b12_0, ?b12_1, ?b12_1, ?b12_3, ?b12_4, ?b12_5] (by kernel_rfl) (by kernel_rfl) hr ?t12 ?o12 ?_
   case o12 =>
    refine oc0 (fun A W hx hf => ?_) ?_
    exact ok_movE (a0 := a11) (r0 hf)
    refine oc0 (fun A W hx hf => ?_) ?_
    exact ok_call1 body11 (c_r9Read (p2 s0 e_w hx (q0 ?b12_0 A W 21 hf)))
    refine oc0 (fun A W hx hf => ?_) ?_
    exact ok_move (q0 ?b12_1 A W 22 hf)
    refine oc0 (fun A W hx hf => ?_) ?_
    exact ok_ext0 (q0 ?b12_1 A W 20 hf)
    refine oc0 (fun A W hx hf => ?_) ?_
    exact ok_ext1 (q0 ?b12_1 A W 20 hf)
    refine oc0 (fun A W hx hf => ?_) ?_
    exact ok_allocS [(sixS six0).flatten] [40] zerov28 (by rfl) (by rfl) hx.size
    exact OpsOk.nil
   case t12 => exact inferInstance
   clear hr; intro a13 w13 x hr hd hs
   have z_w_w11 := e_w.size
   have z_w10_w11 := e_w10.size
   have l13_3 := PxS.lt (later e_w10 s3)
   revert s3 s4; refine kp2 hs rfl ?_; intro s3 s4
   clear s0
   have s23 := fa ?b12_3 a13 w13 23 (hd 3 23 rfl)
   have s24 := fa ?b12_4 a13 w13 24 (hd 4 24 rfl)
   have s5 := fa ?b12_5 a13 w13 5 (hd 5 5 rfl)
   obtain ⟨g13_5, q13_5⟩ := PxN.at s5; clear s5; have n13_5 := PxS.lt q13_5
   replace q13_5 := PxS.mono q13_5 e_w.size
   have s5 := q13_5; clear q13_5
   replace e_w := e_w.trans x
   replace e_w10 := e_w10.trans x
   have e_w11 := x
   clear hd hs x
   have z14 := PxS.lt s5
   have l14 := (show (g13_5 = 0 ∨ w.heap.size < g13_5) ∧ True from ⟨by omega, trivial⟩)
   have l14_3 := PxS.lt (later e_w10 s3)
   refine wl_storeSn hr size28 s5 s23 (by exact six_len (sixRead_ok _)) (by exact six_one) rfl ?_; clear hr; intro a14 w14 hc hu hr hs
   have hb : Below w.heap.size w13 w14 := hc.below e_w.size l14.1
   revert s3 s4 s24 s5; refine kp4 hs rfl ?_; intro s3 s4 s24 s5
   clear s23
   replace s3 := PxS.other (later e_w10 s3) hc (by omega)
   replace s5 := hu _ _ _ s5
   try simp only [List.set_cons_zero, List.set_cons_succ] at s5
   replace e_w := e_w.below (Nat.le_refl _) hb
   clear e_w10
   clear e_w11
   replace s4 := anyw (w2 := w14) s4
   replace s24 := anyw (w2 := w14) s24
   clear hu hs hc hb
   refine wl_op hr (ok_assign s24) inferInstance ?_; clear hr; intro a15 w15 x hr hd hs
   revert s3 s5 s4; refine kp3 hs rfl ?_; intro s3 s5 s4
   clear s24
   have s6 := hd 6 rfl (by decide)
   replace e_w := e_w.trans x
   have e_w14 := x
   clear hd hs x
   refine wpList_nil ?_
   refine exit_then ?_
   refine wp_seq ?_
   refine wp_reg 33 [[(4, none)], [(6, none)], [(25, some 0), (26, some 1)], [(27, some 2)], [(3, none), (28, some 3)], [(5, none), (28, some 3)], [(29, some 4), (30, some 5), (28, some 3)], [(28, some 3), (31, some 6)], [(32, some 7)]] [?b16_0, ?b16_1, ?b16_2, ?b16_2, ?b16_4, ?b16_5, ?b16_6, ?b16_7, ?b16_7] mixed (by kernel_rfl) (by kernel_rfl) hr ?t16 ?o16 ?_
   case o16 =>
    refine oc0 (fun A W hx hf => ?_) ?_
    exact ok_movE (a0 := a15) (r0 hf)
    refine oc0 (fun A W hx hf => ?_) ?_
    exact ok_movE (a0 := a15) (r0 hf)
    refine oc0 (fun A W hx hf => ?_) ?_
    exact ok_eql (p2 s4 e_w14 hx (q0 ?b16_0 A W 25 hf)) (p1 s6 hx (q1 ?b16_1 A W 26 hf))
    refine oc0 (fun A W hx hf => ?_) ?_
    exact ok_move (q0 ?b16_2 A W 27 hf)
    refine ocg 28 ?_ (fun A W hx hf => ?_) ?_
    rfl
    exact gd_t (q1 ?b16_2 A W 28 hf) (fun hc => ok_loadSeg Try.underlying28 rfl size28 (o2 s3 e_w14 hx (r0 hf)) rfl rfl)
    refine ocg 28 ?_ (fun A W hx hf => ?_) ?_
    rfl
    exact gd_t (q1 ?b16_2 A W 28 hf) (fun hc => ok_loadSeg Try.underlying28 rfl size28 (o2 s5 e_w14 hx (r0 hf)) rfl rfl)
    refine ocg 28 ?_ (fun A W hx hf => ?_) ?_
    rfl
    exact gd_t (q2 ?b16_2 A W 28 hf) (fun hc => ok_eqself eqg28 (eq_six (sixRead_ok _)) (G.get (q0 ?b16_4 A W 29 hf) hc) (G.get (q1 ?b16_5 A W 30 hf) hc))
    refine oc0 (fun A W hx hf => ?_) ?_
    exact ok_and (q0 ?b16_2 A W 28 hf) (q1 ?b16_6 A W 31 hf)
    refine oc0 (fun A W hx hf => ?_) ?_
    exact ok_assign (q0 ?b16_7 A W 32 hf)
    exact OpsOk.nil
   case t16 => exact inferInstance
   clear hr; intro a17 w17 x hr hd hs
   clear s3 s5 s4 s6
   have s2 := fa ?b16_7 a17 w17 2 (hd 8 2 rfl)
   replace e_w := e_w.trans x
   clear e_w14
   clear hd hs x
   refine exit_then ?_
   refine wp_ret ?_
   refine ret_tmp Try.results3 hr e_w ?_
   first | with_reducible exact s2 | exact Is.bool s2 (by simp)

end Go.Proofs.Ytdohlcakoamdhaa
