import Derived.Test.YteccaejdgefdpaaA10
namespace Go.Proofs.Yteccaejdgefdpaa
open Go.RowKit
set_option linter.unusedVariables false
set_option maxRecDepth 4000
theorem law_PortReads {x0 x1 : Value} {w : World} {q : Int} {l : List UInt8} (h0 : (Is (.int .i64 q)) x0 w) (h1 : (Bs l) x1 w) (hq : -9223372036854775808 ≤ q ∧ q ≤ 9223372036854775807) :
    Calls Try.prog 3 #[x0, x1] w (Ret (Is (.bool true)) w) := by
 refine enter Try.func3 rfl Try.ntmps3 (k := 2) rfl (by decide) (fun a0 hr hargs => ?_)
 have s0 := sarg h0 (hargs 0 (by decide))
 have s1 := sarg h1 (hargs 1 (by decide))
 clear hargs
 refine wp_seq ?_
 refine wp_reg 44 [[]] [?b1_0] mixed (by kernel_rfl) (by kernel_rfl) hr ?t1 ?o1 ?_
 case o1 =>
  refine oc0 (fun A W hx hf => ?_) ?_
  exact ok_assignc
  exact OpsOk.nil
 case t1 => exact inferInstance
 clear hr; intro a2 w2 x hr hd hs
 revert s0 s1; refine kp2 hs rfl ?_; intro s0 s1
 have e_w := x
 clear hd hs x
 refine exit_then ?_
 refine wp_seq ?_
 refine wp_seq ?_
 refine wp_reg 44 [[], [(9, some 0)], [(10, some 1)], [(1, none), (11, some 2)], [(12, some 3), (11, some 2)], [(13, some 4), (11, some 2)], [(11, some 2), (14, some 5)]] [?b3_0, ?b3_1, ?b3_1, ?b3_3, ?b3_4, ?b3_5, ?b3_6] mixed (by kernel_rfl) (by kernel_rfl) hr ?t3 ?o3 ?_
 case o3 =>
  refine oc0 (fun A W hx hf => ?_) ?_
  exact ok_call0 body9 (c_awake10 )
  refine oc0 (fun A W hx hf => ?_) ?_
  exact ok_not (q0 ?b3_0 A W 9 hf)
  refine oc0 (fun A W hx hf => ?_) ?_
  exact ok_move (q0 ?b3_1 A W 10 hf)
  refine ocg 11 ?_ (fun A W hx hf => ?_) ?_
  rfl
  exact gd_f (q1 ?b3_1 A W 11 hf) (fun hc => ok_movE (a0 := a2) (r0 hf))
  refine ocg 11 ?_ (fun A W hx hf => ?_) ?_
  rfl
  exact gd_f (q1 ?b3_1 A W 11 hf) (fun hc => ok_len_bs Try.underlying22 (p2 s1 e_w hx (G.get (q0 ?b3_3 A W 12 hf) hc)))
  refine ocg 11 ?_ (fun A W hx hf => ?_) ?_
  rfl
  exact gd_f (q1 ?b3_1 A W 11 hf) (fun hc => ok_gtr (G.get (q0 ?b3_4 A W 13 hf) hc) (ec A (.int .i64 1000)))
  refine oc0 (fun A W hx hf => ?_) ?_
  exact ok_or (q0 ?b3_1 A W 11 hf) (q1 ?b3_5 A W 14 hf)
  exact OpsOk.nil
 case t3 => exact inferInstance
 clear hr; intro a4 w4 x hr hd hs
 revert s0 s1; refine kp2 hs rfl ?_; intro s0 s1
 have s15 := fa ?b3_6 a4 w4 15 (hd 6 15 rfl)
 replace e_w := e_w.trans x
 clear hd hs x
 refine exit_then ?_
 refine wp_cond_split (show _ = _ from s15) (fun hl => ?_) (fun hl => ?_)
 · skip
   skip
   refine wp_seq ?_
   refine wp_reg 44 [[], [(16, some 0)]] [?b6_0, ?b6_0] mixed (by kernel_rfl) (by kernel_rfl) hr ?t6 ?o6 ?_
   case o6 =>
    refine oc0 (fun A W hx hf => ?_) ?_
    exact ok_call0 body9 (c_awake10 )
    refine oc0 (fun A W hx hf => ?_) ?_
    exact ok_assign (q0 ?b6_0 A W 16 hf)
    exact OpsOk.nil
   case t6 => exact inferInstance
   clear hr; intro a7 w7 x hr hd hs
   clear s0 s1 s15
   have s4 := fa ?b6_0 a7 w7 4 (hd 1 4 rfl)
   replace e_w := e_w.trans x
   clear hd hs x
   refine exit_then ?_
   refine wp_ret ?_
   refine then_ret ?_
   refine ret_tmp Try.results3 hr e_w ?_
   first | with_reducible exact s4 | exact Is.bool s4 (by simp)
 · skip
   skip
   refine wp_skip ?_
   refine exit_then ?_
   refine wp_seq ?_
   refine wp_reg_pre (l := [_, _, _, _, _, _, _]) (rest := [_, _]) 44 [[(0, none)], [(1, none)], [(18, some 0), (19, some 1)], [(20, some 2)], [(17, some 3)], [(17, some 3)], []] [?b8_0, ?b8_1, ?b8_2, ?b8_2, ?b8_4, ?b8_5, ?b8_6] (by kernel_rfl) (by kernel_rfl) hr ?t8 ?o8 ?_
   case o8 =>
    refine oc0 (fun A W hx hf => ?_) ?_
    exact ok_movE (a0 := a4) (r0 hf)
    refine oc0 (fun A W hx hf => ?_) ?_
    exact ok_movE (a0 := a4) (r0 hf)
    refine oc0 (fun A W hx hf => ?_) ?_
    exact ok_call2 body10 (c_pRead (p2 s0 e_w hx (q0 ?b8_0 A W 18 hf)) (p2 s1 e_w hx (q1 ?b8_1 A W 19 hf)))
    refine oc0 (fun A W hx hf => ?_) ?_
    exact ok_move (q0 ?b8_2 A W 20 hf)
    refine oc0 (fun A W hx hf => ?_) ?_
    exact ok_ext0 (q0 ?b8_2 A W 17 hf)
    refine oc0 (fun A W hx hf => ?_) ?_
    exact ok_ext1 (q0 ?b8_2 A W 17 hf)
    refine oc0 (fun A W hx hf => ?_) ?_
    exact ok_allocS [(portS port0).flatten] [5] zerov25 (by rfl) (by rfl) hx.size
    exact OpsOk.nil
   case t8 => exact inferInstance
   clear hr; intro a9 w9 x hr hd hs
   have z_w_w4 := e_w.size
   revert s0 s1; refine kp2 hs rfl ?_; intro s0 s1
   clear s15
   have s21 := fa ?b8_4 a9 w9 21 (hd 4 21 rfl)
   have s22 := fa ?b8_5 a9 w9 22 (hd 5 22 rfl)
   have s5 := fa ?b8_6 a9 w9 5 (hd 6 5 rfl)
   obtain ⟨g9_5, q9_5⟩ := PxN.at s5; clear s5; have n9_5 := PxS.lt q9_5
   replace q9_5 := PxS.mono q9_5 e_w.size
   have s5 := q9_5; clear q9_5
   replace e_w := e_w.trans x
   clear hd hs x
   have z10 := PxS.lt s5
   have l10 := (show (g9_5 = 0 ∨ w.heap.size < g9_5) ∧ True from ⟨by omega, trivial⟩)
   refine wl_storeSn hr size25 s5 s21 (by exact port_len _) (by exact port_one) rfl ?_; clear hr; intro a10 w10 hc hu hr hs
   have hb : Below w.heap.size w9 w10 := hc.below e_w.size l10.1
   revert s0 s1 s22 s5; refine kp4 hs rfl ?_; intro s0 s1 s22 s5
   clear s21
   replace s5 := hu _ _ _ s5
   try simp only [List.set_cons_zero, List.set_cons_succ] at s5
   replace e_w := e_w.below (Nat.le_refl _) hb
   replace s22 := anyw (w2 := w10) s22
   clear hu hs hc hb
   refine wl_op hr (ok_assign s22) inferInstance ?_; clear hr; intro a11 w11 x hr hd hs
   revert s0 s1 s5; refine kp3 hs rfl ?_; intro s0 s1 s5
   clear s22
   have s6 := hd 6 rfl (by decide)
   replace e_w := e_w.trans x
   have e_w10 := x
   clear hd hs x
   refine wpList_nil ?_
   refine exit_then ?_
   refine wp_seq ?_
   refine wp_reg_pre (l := [_, _, _, _, _, _, _]) (rest := [_, _]) 44 [[(0, none)], [(1, none)], [(24, some 0), (25, some 1)], [(26, some 2)], [(23, some 3)], [(23, some 3)], []] [?b12_0, ?b12_1, ?b12_2, ?b12_2, ?b12_4, ?b12_5, ?b12_6] (by kernel_rfl) (by kernel_rfl) hr ?t12 ?o12 ?_
   case o12 =>
    refine oc0 (fun A W hx hf => ?_) ?_
    exact ok_movE (a0 := a11) (r0 hf)
    refine oc0 (fun A W hx hf => ?_) ?_
    exact ok_movE (a0 := a11) (r0 hf)
    refine oc0 (fun A W hx hf => ?_) ?_
    exact ok_call2 body11 (c_r10Read (p2 s0 e_w hx (q0 ?b12_0 A W 24 hf)) (p2 s1 e_w hx (q1 ?b12_1 A W 25 hf)))
    refine oc0 (fun A W hx hf => ?_) ?_
    exact ok_move (q0 ?b12_2 A W 26 hf)
    refine oc0 (fun A W hx hf => ?_) ?_
    exact ok_ext0 (q0 ?b12_2 A W 23 hf)
    refine oc0 (fun A W hx hf => ?_) ?_
    exact ok_ext1 (q0 ?b12_2 A W 23 hf)
    refine oc0 (fun A W hx hf => ?_) ?_
    exact ok_allocS [(portS port0).flatten] [5] zerov25 (by rfl) (by rfl) hx.size
    exact OpsOk.nil
   case t12 => exact inferInstance
   clear hr; intro a13 w13 x hr hd hs
   have z_w_w11 := e_w.size
   have z_w10_w11 := e_w10.size
   have l13_5 := PxS.lt (later e_w10 s5)
   revert s0 s5 s6; refine kp3 hs rfl ?_; intro s0 s5 s6
   clear s1
   have s27 := fa ?b12_4 a13 w13 27 (hd 4 27 rfl)
   have s28 := fa ?b12_5 a13 w13 28 (hd 5 28 rfl)
   have s7 := fa ?b12_6 a13 w13 7 (hd 6 7 rfl)
   obtain ⟨g13_7, q13_7⟩ := PxN.at s7; clear s7; have n13_7 := PxS.lt q13_7
   replace q13_7 := PxS.mono q13_7 e_w.size
   have s7 := q13_7; clear q13_7
   replace e_w := e_w.trans x
   replace e_w10 := e_w10.trans x
   have e_w11 := x
   clear hd hs x
   have z14 := PxS.lt s7
   have l14 := (show (g13_7 = 0 ∨ w.heap.size < g13_7) ∧ True from ⟨by omega, trivial⟩)
   have l14_5 := PxS.lt (later e_w10 s5)
   refine wl_storeSn hr size25 s7 s27 (by exact port_len _) (by exact port_one) rfl ?_; clear hr; intro a14 w14 hc hu hr hs
   have hb : Below w.heap.size w13 w14 := hc.below e_w.size l14.1
   revert s0 s5 s6 s28 s7; refine kp5 hs rfl ?_; intro s0 s5 s6 s28 s7
   clear s27
   replace s5 := PxS.other (later e_w10 s5) hc (by omega)
   replace s7 := hu _ _ _ s7
   try simp only [List.set_cons_zero, List.set_cons_succ] at s7
   replace e_w := e_w.below (Nat.le_refl _) hb
   clear e_w10
   clear e_w11
   replace s6 := anyw (w2 := w14) s6
   replace s28 := anyw (w2 := w14) s28
   clear hu hs hc hb
   refine wl_op hr (ok_assign s28) inferInstance ?_; clear hr; intro a15 w15 x hr hd hs
   revert s0 s5 s7 s6; refine kp4 hs rfl ?_; intro s0 s5 s7 s6
   clear s28
   have s8 := hd 8 rfl (by decide)
   replace e_w := e_w.trans x
   have e_w14 := x
   clear hd hs x
   refine wpList_nil ?_
   refine exit_then ?_
   refine wp_seq ?_
   refine wp_reg 44 [[(6, none)], [(8, none)], [(29, some 0), (30, some 1)], [(31, some 2)], [(5, none), (32, some 3)], [(7, none), (32, some 3)], [(33, some 4), (34, some 5), (32, some 3)], [(32, some 3), (35, some 6)], [(36, some 7)], [(0, none), (37, some 8)], [(38, some 9), (37, some 8)], [(0, none), (37, some 8)], [(40, some 11), (37, some 8)], [(39, some 10), (41, some 12), (37, some 8)], [(37, some 8), (42, some 13)], [(43, some 14)]] [?b16_0, ?b16_1, ?b16_2, ?b16_2, ?b16_4, ?b16_5, ?b16_6, ?b16_7, ?b16_7, ?b16_9, ?b16_10, ?b16_11, ?b16_12, ?b16_13, ?b16_14, ?b16_14] mixed (by kernel_rfl) (by kernel_rfl) hr ?t16 ?o16 ?_
   case o16 =>
    refine oc0 (fun A W hx hf => ?_) ?_
    exact ok_movE (a0 := a15) (r0 hf)
    refine oc0 (fun A W hx hf => ?_) ?_
    exact ok_movE (a0 := a15) (r0 hf)
    refine oc0 (fun A W hx hf => ?_) ?_
    exact ok_eql (p2 s6 e_w14 hx (q0 ?b16_0 A W 29 hf)) (p1 s8 hx (q1 ?b16_1 A W 30 hf))
    refine oc0 (fun A W hx hf => ?_) ?_
    exact ok_move (q0 ?b16_2 A W 31 hf)
    refine ocg 32 ?_ (fun A W hx hf => ?_) ?_
    rfl
    exact gd_t (q1 ?b16_2 A W 32 hf) (fun hc => ok_loadSeg Try.underlying25 rfl size25 (o2 s5 e_w14 hx (r0 hf)) rfl rfl)
    refine ocg 32 ?_ (fun A W hx hf => ?_) ?_
    rfl
    exact gd_t (q1 ?b16_2 A W 32 hf) (fun hc => ok_loadSeg Try.underlying25 rfl size25 (o2 s7 e_w14 hx (r0 hf)) rfl rfl)
    refine ocg 32 ?_ (fun A W hx hf => ?_) ?_
    rfl
    exact gd_t (q2 ?b16_2 A W 32 hf) (fun hc => ok_eqself eqg25 eq_port (G.get (q0 ?b16_4 A W 33 hf) hc) (G.get (q1 ?b16_5 A W 34 hf) hc))
    refine oc0 (fun A W hx hf => ?_) ?_
    exact ok_and (q0 ?b16_2 A W 32 hf) (q1 ?b16_6 A W 35 hf)
    refine oc0 (fun A W hx hf => ?_) ?_
    exact ok_move (q0 ?b16_7 A W 36 hf)
    refine ocg 37 ?_ (fun A W hx hf => ?_) ?_
    rfl
    exact gd_t (q1 ?b16_7 A W 37 hf) (fun hc => ok_movE (a0 := a15) (r0 hf))
    refine ocg 37 ?_ (fun A W hx hf => ?_) ?_
    rfl
    exact gd_t (q1 ?b16_7 A W 37 hf) (fun hc => ok_call1 body12 (c_pPlace (p2 s0 e_w hx (G.get (q0 ?b16_9 A W 38 hf) hc))))
    refine ocg 37 ?_ (fun A W hx hf => ?_) ?_
    rfl
    exact gd_t (q1 ?b16_7 A W 37 hf) (fun hc => ok_movE (a0 := a15) (r0 hf))
    refine ocg 37 ?_ (fun A W hx hf => ?_) ?_
    rfl
    exact gd_t (q1 ?b16_7 A W 37 hf) (fun hc => ok_call1 body13 (c_r10Place (p2 s0 e_w hx (G.get (q0 ?b16_11 A W 40 hf) hc))))
    refine ocg 37 ?_ (fun A W hx hf => ?_) ?_
    rfl
    exact gd_t (q2 ?b16_7 A W 37 hf) (fun hc => ok_eql (G.get (q0 ?b16_10 A W 39 hf) hc) (G.get (q1 ?b16_12 A W 41 hf) hc))
    refine oc0 (fun A W hx hf => ?_) ?_
    exact ok_and (q0 ?b16_7 A W 37 hf) (q1 ?b16_13 A W 42 hf)
    refine oc0 (fun A W hx hf => ?_) ?_
    exact ok_assign (q0 ?b16_14 A W 43 hf)
    exact OpsOk.nil
   case t16 => exact inferInstance
   clear hr; intro a17 w17 x hr hd hs
   clear s0 s5 s7 s6 s8
   have s4 := fa ?b16_14 a17 w17 4 (hd 15 4 rfl)
   replace e_w := e_w.trans x
   clear e_w14
   clear hd hs x
   refine exit_then ?_
   refine wp_ret ?_
   refine ret_tmp Try.results3 hr e_w ?_
   first | with_reducible exact s4 | exact Is.bool s4 (by simp)

end Go.Proofs.Yteccaejdgefdpaa
