import Derived.Test.YtpjpfmnnefgnbaaZ
import Derived.Test.YtpjpfmnnefgnbaaC11n
import Derived.Test.YtpjpfmnnefgnbaaC11q
import Derived.Test.YtpjpfmnnefgnbaaC11x
import Derived.Test.YtpjpfmnnefgnbaaE11K
import Derived.Test.YtpjpfmnnefgnbaaE11Q
namespace Go.Proofs.Ytpjpfmnnefgnbaa
open Go.RowKit
set_option linter.unusedVariables false
set_option linter.unusedSimpArgs false
set_option maxRecDepth 4000
theorem c_some11 {w : World}    :
    Calls Try.prog 20 #[] w (Ret (Is (TupV some11)) w) := by
 refine enter Try.func20 rfl Try.ntmps20 (k := 0) rfl (by decide) (fun a0 hr hargs => ?_)
 clear hargs
 refine sq ?_
 refine wp_reg 6 [[]] [?b1_0] mixed hr ?t1 ?o1 ?_
 case o1 =>
  apply oc0; intro A W hx hf
  exact ok_allocS [(tupS tup0).flatten] [37] zerov28 (by rfl) (by rfl) hx.size
  exact onn
 case t1 => exact inferInstance
 clear hr; intro a2 w2 x hr hd hs
 have s0 := fa ?b1_0 a2 w2 0 (hd 0 0 rfl)
 obtain ⟨g2_0, q2_0⟩ := PxN.at s0; clear s0; have n2_0 := PxS.lt q2_0
 have s0 := q2_0; clear q2_0
 have e_w := x; clear hd hs x
 refine es ?_
 refine wp_reg_pre (l := [_, _, _, _, _]) (rest := [_]) 6 [[], [(1, some 0)], [], [(3, some 2)], [(2, some 1), (4, some 3)]] [?b3_0, ?b3_1, ?b3_2, ?b3_3, ?b3_4] hr ?t3 ?o3 ?_
 case o3 =>
  apply oc0; intro A W hx hf
  exact ok_buildArr [1, 2, 3, 4, 0, 0, 0, 0, 0, 0, 0, 0, 0, 0, 0, 0] [(0, (.int .u8 1)), (1, (.int .u8 2)), (2, (.int .u8 3)), (3, (.int .u8 4))] rfl (by kernel_rfl)
  apply oc0; intro A W hx hf
  exact ok_buildS [(1, (.tmp 1))] [(1, _)] lay26 rfl (PartsC.agg (q0 ?b3_0 A W 1 hf) (PartsC.nil)) (by rfl)
  apply oc0; intro A W hx hf
  exact ok_buildArr [5, 6, 7, 8, 0, 0, 0, 0, 0, 0, 0, 0, 0, 0, 0, 0] [(0, (.int .u8 5)), (1, (.int .u8 6)), (2, (.int .u8 7)), (3, (.int .u8 8))] rfl (by kernel_rfl)
  apply oc0; intro A W hx hf
  exact ok_buildS [(1, (.tmp 3))] [(1, _)] lay26 rfl (PartsC.agg (q0 ?b3_2 A W 3 hf) (PartsC.nil)) (by rfl)
  apply oc0; intro A W hx hf
  exact ok_buildS [(0, (.tmp 2)), (1, (.tmp 4)), (2, (.const (.int .i64 6))), (3, (.const (.int .i64 1000))), (4, (.const (.int .i64 80)))] [(0, _), (1, _), (2, _), (3, _), (4, _)] lay28 rfl (PartsC.agg (q0 ?b3_1 A W 2 hf) (PartsC.agg (q1 ?b3_3 A W 4 hf) (PartsC.one (ec A (.int .i64 6)) rfl (PartsC.one (ec A (.int .i64 1000)) rfl (PartsC.one (ec A (.int .i64 80)) rfl (PartsC.nil)))))) (by rfl)
  exact onn
 case t3 => exact inferInstance
 clear hr; intro a4 w4 x hr hd hs
 revert s0; refine kp1 hs rfl ?_; intro s0
 have s5 := fa ?b3_4 a4 w4 5 (hd 4 5 rfl)
 replace e_w := e_w.trans x
 have e_w2 := x; clear hd hs x
 have z5 := PxS.lt (later e_w2 s0)
 have l5 := (show (g2_0 = 0 ∨ w.heap.size < g2_0) ∧ True from ⟨by omega, trivial⟩)
 refine wl_storeSn hr size28 (later e_w2 s0) (Is.conv s5 (show _ = TupV some11 from rfl)) (by rfl) (by exact tup_one) rfl ?_; clear hr; intro a5 w5 hc hu hr hs
 have hb : Below w.heap.size w4 w5 := hc.below e_w.size l5.1
 revert s0; refine kp1 hs rfl ?_; intro s0
 clear s5
 replace s0 := hu _ _ _ (later e_w2 s0)
 try simp only [List.set_cons_zero, List.set_cons_succ] at s0
 replace e_w := e_w.below (Nat.le_refl _) hb
 clear e_w2
 clear hu hs hc hb
 refine wpList_nil ?_
 refine et ?_
 refine wp_ret ?_
 refine ret_cell Try.results20 hr tu28 rfl size28 s0 e_w ?_
 exact rfl

set_option maxHeartbeats 1000000 in
theorem c_awake11 {w : World}    :
    Calls Try.prog 9 #[] w (Ret (Is (.bool true)) w) := by
 have hml := mk11_len
 refine enter Try.func9 rfl Try.ntmps9 (k := 0) rfl (by decide) (fun a0 hr hargs => ?_)
 clear hargs
 refine sq ?_
 refine wp_reg 57 [[]] [?b1_0] mixed hr ?t1 ?o1 ?_
 case o1 =>
  apply oc0; intro A W hx hf
  exact ok_assignc
  exact onn
 case t1 => exact inferInstance
 clear hr; intro a2 w2 x hr hd hs
 have e_w := x; clear hd hs x
 refine es ?_
 refine wp_reg_pre (l := [_, _, _]) (rest := [_, _, _, _, _, _, _]) 57 [[], [], []] [?b3_0, ?b3_1, ?b3_2] hr ?t3 ?o3 ?_
 case o3 =>
  apply oc0; intro A W hx hf
  exact ok_build0 built36
  apply oc0; intro A W hx hf
  exact ok_call0 body20 (c_some11 )
  apply oc0; intro A W hx hf
  exact ok_ownBs [(.const (.int .u8 104)), (.const (.int .u8 105))] [_, _] tu22 size5 zero5 rfl rfl (by decide) hx.size (PartsOk.cons (show ByteIs 104 _ _ from rfl) (PartsOk.cons (show ByteIs 105 _ _ from rfl) (PartsOk.nil)))
  exact onn
 case t3 => exact inferInstance
 clear hr; intro a4 w4 x hr hd hs
 have z_w_w2 := e_w.size
 have s7 := fa ?b3_0 a4 w4 7 (hd 0 7 rfl)
 have s8 := fa ?b3_1 a4 w4 8 (hd 1 8 rfl)
 have s9 := fa ?b3_2 a4 w4 9 (hd 2 9 rfl)
 obtain ⟨g4_9, q4_9⟩ := OwnB.at s9; clear s9; have n4_9 := OwnBA.lt q4_9
 replace q4_9 := OwnBA.mono q4_9 e_w.size
 have s9 := q4_9; clear q4_9
 replace e_w := e_w.trans x; clear hd hs x
 have l5 := OwnBA.lt s9
 refine wl_convS hr (by decide) tu22 tu5 s9 rfl ?_; clear hr; intro g5 a5 w5 hg5 hc hr hd hs
 have hb := hc.below e_w.size l5.1
 revert s8; revert s7; refine kp2 hs rfl ?_; intro s7 s8
 clear s9
 have s10 := hd
 replace e_w := e_w.below (Nat.le_refl _) hb
 replace s7 := anyw (w2 := w5) s7
 replace s8 := anyw (w2 := w5) s8
 clear hd hs hb hc
 have z_w_w5 := e_w.size
 refine wl_op hr (ok_call4 body12 (c_pkMake (LinkV.of (show Is (LnkA link0 (.slice none 0 0)) _ _ from Is.conv s7 rfl) rw_nil) s8 (show Is (.int .i64 2) (a5.eval (.const (.int .i64 2))) _ from rfl) s10 (by exact ⟨rfl, rfl⟩) (by exact some11_ok) (by decide) (Nat.le_refl _))) inferInstance ?_; clear hr; intro a6 w6 x hr hd hs
 clear s10 s7 s8
 have s11 := hd 11 rfl (by decide)
 replace e_w := e_w.trans x; clear hd hs x
 refine wl_op hr (ok_move s11) inferInstance ?_; clear hr; intro a7 w7 x hr hd hs
 clear s11
 have s6 := hd 6 rfl (by decide)
 replace e_w := e_w.trans x; clear hd hs x
 refine wl_op hr (ok_ext0 s6) inferInstance ?_; clear hr; intro a8 w8 x hr hd hs
 revert s6; refine kp1 hs rfl ?_; intro s6
 have s12 := hd 12 rfl (by decide)
 replace e_w := e_w.trans x
 have e_w7 := x; clear hd hs x
 refine wl_op hr (ok_ext1 (later e_w7 s6)) inferInstance ?_; clear hr; intro a9 w9 x hr hd hs
 revert s12; refine kp1 hs rfl ?_; intro s12
 clear s6
 have s13 := hd 13 rfl (by decide)
 replace e_w := e_w.trans x
 clear e_w7
 have e_w8 := x; clear hd hs x
 refine wl_op hr (ok_assign (later e_w8 s12)) inferInstance ?_; clear hr; intro a10 w10 x hr hd hs
 revert s13; refine kp1 hs rfl ?_; intro s13
 clear s12
 have s1 := hd 1 rfl (by decide)
 replace e_w := e_w.trans x
 clear e_w8
 have e_w9 := x; clear hd hs x
 refine wl_op hr (ok_assign (later e_w9 s13)) inferInstance ?_; clear hr; intro a11 w11 x hr hd hs
 revert s1; refine kp1 hs rfl ?_; intro s1
 clear s13
 have s2 := hd 2 rfl (by decide)
 replace e_w := e_w.trans x
 clear e_w9
 have e_w10 := x; clear hd hs x
 refine wpList_nil ?_
 obtain ⟨g12_1, q12_1⟩ := OwnB.at s1; clear s1; have n12_1 := OwnBA.lt q12_1; replace q12_1 := OwnBA.mono q12_1 z_w_w5; have s1 := q12_1; clear q12_1
 replace s1 := OwnBA.cast s1 (show _ = mk11 from congrArg Prod.fst (makeR_0 some11_why))
 replace s2 := Is.int s2 (show _ = (0 : Int) from congrArg Prod.snd (makeR_0 some11_why))
 refine es ?_
 refine wp_reg_pre (l := [_, _, _]) (rest := [_]) 57 [[(1, none)], [(14, some 0)], []] [?b13_0, ?b13_1, ?b13_2] hr ?t13 ?o13 ?_
 case o13 =>
  apply oc0; intro A W hx hf
  exact ok_movE (a0 := a11) (r0 hf)
  apply oc0; intro A W hx hf
  exact ok_call1 body10 (c_pkRead (OwnBA.bs (p2 s1 e_w10 hx (q0 ?b13_0 A W 14 hf))))
  apply oc0; intro A W hx hf
  exact ok_allocS [(pktS (give 0)).flatten] [42] zerov30 (by rfl) (by rfl) hx.size
  exact onn
 case t13 => exact inferInstance
 clear hr; intro a14 w14 x hr hd hs
 have z_w_w11 := e_w.size
 have z_w10_w11 := e_w10.size
 have l14_1 := OwnBA.lt (later e_w10 s1)
 revert s2; revert s1; refine kp2 hs rfl ?_; intro s1 s2
 have s15 := fa ?b13_1 a14 w14 15 (hd 1 15 rfl)
 have s3 := fa ?b13_2 a14 w14 3 (hd 2 3 rfl)
 obtain ⟨g14_3, q14_3⟩ := PxN.at s3; clear s3; have n14_3 := PxS.lt q14_3
 replace q14_3 := PxS.mono q14_3 e_w.size
 have s3 := q14_3; clear q14_3
 replace e_w := e_w.trans x
 replace e_w10 := e_w10.trans x
 have e_w11 := x; clear hd hs x
 have z15 := PxS.lt s3
 have l15 := (show (g14_3 = 0 ∨ w.heap.size < g14_3) ∧ True from ⟨by omega, trivial⟩)
 have l15_1 := OwnBA.lt (later e_w10 s1)
 refine wl_storeSn hr size30 s3 s15 (by exact pkt_len (pktRead_ok _)) (by exact pkt_one) rfl ?_; clear hr; intro a15 w15 hc hu hr hs
 have hb : Below w.heap.size w14 w15 := hc.below e_w.size l15.1
 revert s3; revert s2; revert s1; refine kp3 hs rfl ?_; intro s1 s2 s3
 clear s15
 replace s1 := OwnBA.other (later e_w10 s1) hc (by omega)
 replace s3 := hu _ _ _ s3
 try simp only [List.set_cons_zero, List.set_cons_succ] at s3
 replace e_w := e_w.below (Nat.le_refl _) hb
 clear e_w10
 clear e_w11
 replace s2 := anyw (w2 := w15) s2
 clear hu hs hc hb
 refine wpList_nil ?_
 refine es ?_
 refine wp_reg 57 [[], [], [(17, some 0), (18, some 1)], [(19, some 2)], [(16, some 3)], [(16, some 3)], [(20, some 4)], [(21, some 5)]] [?b16_0, ?b16_1, ?b16_2, ?b16_2, ?b16_4, ?b16_5, ?b16_4, ?b16_5] mixed hr ?t16 ?o16 ?_
 case o16 =>
  apply oc0; intro A W hx hf
  exact ok_build0 built36
  apply oc0; intro A W hx hf
  exact ok_build0 built28
  apply oc0; intro A W hx hf
  exact ok_call4 body12 (c_pkMake (LinkV.of (show Is (LnkA link0 (.slice none 0 0)) _ _ from Is.conv (q0 ?b16_0 A W 17 hf) rfl) rw_nil) (show Is (TupV tup0) _ _ from Is.conv (q1 ?b16_1 A W 18 hf) rfl) (show Is (.int .i64 0) (A.eval (.const (.int .i64 0))) _ from rfl) (show Bs [] (A.eval (.const (.slice none 0 0))) _ from bs_nil) (by exact ⟨rfl, rfl⟩) (by exact tup0_ok) (by decide) hx.size)
  apply oc0; intro A W hx hf
  exact ok_move (q0 ?b16_2 A W 19 hf)
  apply oc0; intro A W hx hf
  exact ok_ext0 (q0 ?b16_2 A W 16 hf)
  apply oc0; intro A W hx hf
  exact ok_ext1 (q0 ?b16_2 A W 16 hf)
  apply oc0; intro A W hx hf
  exact ok_assign (q0 ?b16_4 A W 20 hf)
  apply oc0; intro A W hx hf
  exact ok_assign (q0 ?b16_5 A W 21 hf)
  exact onn
 case t16 => exact inferInstance
 clear hr; intro a17 w17 x hr hd hs
 have z_w_w15 := e_w.size
 revert s2; revert s3; revert s1; refine kp3 hs rfl ?_; intro s1 s3 s2
 have s5 := fa ?b16_5 a17 w17 5 (hd 7 5 rfl)
 replace e_w := e_w.trans x
 have e_w15 := x; clear hd hs x
 replace s5 := Is.int s5 (show _ = (1 : Int) from congrArg Prod.snd (makeR_no tup0_why (by decide)))
 refine es ?_
 refine wp_reg 57 ([] :: [(22, some 0)] :: [] :: [(23, some 1), (24, some 2)] :: [(25, some 3)] :: [(26, some 4)] :: [(27, some 5), (26, some 4)] :: [(26, some 4)] :: [(28, some 6), (29, some 7), (26, some 4)] :: [(26, some 4), (30, some 8)] :: [(31, some 9)] :: [(2, none), (32, some 10)] :: [(33, some 11), (32, some 10)] :: [(32, some 10), (34, some 12)] :: [(35, some 13)] :: [(1, none), (36, some 14)] :: [(37, some 15), (36, some 14)] :: [(38, some 16), (36, some 14)] :: [(36, some 14), (39, some 17)] :: [(40, some 18)] :: [(3, none), (41, some 19)] :: [(41, some 19)] :: [(43, some 21), (41, some 19)] :: [(42, some 20), (44, some 22), (41, some 19)] :: [(41, some 19), (45, some 23)] :: [(46, some 24)] :: [(5, none), (47, some 25)] :: [(48, some 26), (47, some 25)] :: [(47, some 25), (49, some 27)] :: [(50, some 28)] :: [(51, some 29)] :: [(52, some 30), (51, some 29)] :: [(53, some 31), (51, some 29)] :: [(54, some 32), (51, some 29)] :: [(51, some 29), (55, some 33)] :: [(56, some 34)] :: []) (?b18_0 :: ?b18_1 :: ?b18_2 :: ?b18_3 :: ?b18_3 :: ?b18_5 :: ?b18_6 :: ?b18_7 :: ?b18_8 :: ?b18_9 :: ?b18_9 :: ?b18_11 :: ?b18_12 :: ?b18_13 :: ?b18_13 :: ?b18_15 :: ?b18_16 :: ?b18_17 :: ?b18_18 :: ?b18_18 :: ?b18_20 :: ?b18_21 :: ?b18_22 :: ?b18_23 :: ?b18_24 :: ?b18_24 :: ?b18_26 :: ?b18_27 :: ?b18_28 :: ?b18_28 :: ?b18_30 :: ?b18_31 :: ?b18_32 :: ?b18_33 :: ?b18_34 :: ?b18_34 :: []) mixed hr ?t18 ?o18 ?_
 case o18 =>
  apply oc0; intro A W hx hf
  exact ok_makeBs (n := 13) tu22 info5 (ec A (.int .i64 13)) (ec A (.int .i64 13)) (by omega) hx.size
  apply oc0; intro A W hx hf
  exact ok_call1 body10 (c_pkRead (OwnB.bs (q0 ?b18_0 A W 22 hf)))
  apply oc0; intro A W hx hf
  exact ok_buildS [(0, (.const (.int .i64 1)))] [(0, _)] lay30 rfl (PartsC.one (ec A (.int .i64 1)) rfl (PartsC.nil)) (by rfl)
  apply oc0; intro A W hx hf
  exact ok_eqself eqg30 (eq_pkt (give_ok 1)) (Is.conv (q0 ?b18_1 A W 23 hf) (show _ = PktV (give 1) from congrArg PktV z13_read)) (Is.conv (q1 ?b18_2 A W 24 hf) (show _ = PktV (give 1) from rfl))
  apply oc0; intro A W hx hf
  exact ok_move (q0 ?b18_3 A W 25 hf)
  refine ocg 26 ?_ (fun A W hx hf => ?_) ?_
  rfl
  exact gd_t (q0 ?b18_3 A W 26 hf) (fun hc => ok_makeBs (n := 14) tu22 info5 (ec A (.int .i64 14)) (ec A (.int .i64 14)) (by omega) hx.size)
  refine ocg 26 ?_ (fun A W hx hf => ?_) ?_
  rfl
  exact gd_t (q1 ?b18_3 A W 26 hf) (fun hc => ok_call1 body10 (c_pkRead (OwnB.bs (G.get (q0 ?b18_5 A W 27 hf) hc))))
  refine ocg 26 ?_ (fun A W hx hf => ?_) ?_
  rfl
  exact gd_t (q0 ?b18_3 A W 26 hf) (fun hc => ok_buildS [(0, (.const (.int .i64 2)))] [(0, _)] lay30 rfl (PartsC.one (ec A (.int .i64 2)) rfl (PartsC.nil)) (by rfl))
  refine ocg 26 ?_ (fun A W hx hf => ?_) ?_
  rfl
  exact gd_t (q2 ?b18_3 A W 26 hf) (fun hc => ok_eqself eqg30 (eq_pkt (give_ok 2)) (Is.conv (G.get (q0 ?b18_6 A W 28 hf) hc) (show _ = PktV (give 2) from congrArg PktV z14_read)) (Is.conv (G.get (q1 ?b18_7 A W 29 hf) hc) (show _ = PktV (give 2) from rfl)))
  apply oc0; intro A W hx hf
  exact ok_and (q0 ?b18_3 A W 26 hf) (q1 ?b18_8 A W 30 hf)
  apply oc0; intro A W hx hf
  exact ok_move (q0 ?b18_9 A W 31 hf)
  refine ocg 32 ?_ (fun A W hx hf => ?_) ?_
  rfl
  exact gd_t (q1 ?b18_9 A W 32 hf) (fun hc => ok_movE (a0 := a17) (r0 hf))
  refine ocg 32 ?_ (fun A W hx hf => ?_) ?_
  rfl
  exact gd_t (q1 ?b18_9 A W 32 hf) (fun hc => ok_eql (p2 s2 e_w15 hx (G.get (q0 ?b18_11 A W 33 hf) hc)) (ec A (.int .i64 0)))
  apply oc0; intro A W hx hf
  exact ok_and (q0 ?b18_9 A W 32 hf) (q1 ?b18_12 A W 34 hf)
  apply oc0; intro A W hx hf
  exact ok_move (q0 ?b18_13 A W 35 hf)
  refine ocg 36 ?_ (fun A W hx hf => ?_) ?_
  rfl
  exact gd_t (q1 ?b18_13 A W 36 hf) (fun hc => ok_movE (a0 := a17) (r0 hf))
  refine ocg 36 ?_ (fun A W hx hf => ?_) ?_
  rfl
  exact gd_t (q1 ?b18_13 A W 36 hf) (fun hc => ok_len_bs tu22 (OwnBA.bs (p2 s1 e_w15 hx (G.get (q0 ?b18_15 A W 37 hf) hc))))
  refine ocg 36 ?_ (fun A W hx hf => ?_) ?_
  rfl
  exact gd_t (q1 ?b18_13 A W 36 hf) (fun hc => ok_eql (G.get (q0 ?b18_16 A W 38 hf) hc) (ec A (.int .i64 56)))
  apply oc0; intro A W hx hf
  exact ok_and (q0 ?b18_13 A W 36 hf) (q1 ?b18_17 A W 39 hf)
  apply oc0; intro A W hx hf
  exact ok_move (q0 ?b18_18 A W 40 hf)
  refine ocg 41 ?_ (fun A W hx hf => ?_) ?_
  rfl
  exact gd_t (q1 ?b18_18 A W 41 hf) (fun hc => ok_loadSeg tu30 rfl size30 (o2 s3 e_w15 hx (r0 hf)) rfl rfl)
  refine ocg 41 ?_ (fun A W hx hf => ?_) ?_
  rfl
  exact gd_t (q0 ?b18_18 A W 41 hf) (fun hc => ok_call0 body20 (c_some11 ))
  refine ocg 41 ?_ (fun A W hx hf => ?_) ?_
  rfl
  exact gd_t (q1 ?b18_18 A W 41 hf) (fun hc => ok_buildS [(1, (.tmp 43)), (2, (.const (.int .i64 2))), (3, (.const (.int .i64 14))), (4, (.const (.int .i64 34))), (5, (.const (.int .i64 56)))] [(1, _), (2, _), (3, _), (4, _), (5, _)] lay30 rfl (PartsC.agg (G.get (q0 ?b18_21 A W 43 hf) hc) (PartsC.one (ec A (.int .i64 2)) rfl (PartsC.one (ec A (.int .i64 14)) rfl (PartsC.one (ec A (.int .i64 34)) rfl (PartsC.one (ec A (.int .i64 56)) rfl (PartsC.nil)))))) (by rfl))
  refine ocg 41 ?_ (fun A W hx hf => ?_) ?_
  rfl
  exact gd_t (q2 ?b18_18 A W 41 hf) (fun hc => ok_eqself eqg30 (eq_pkt (p := ⟨0, some11, 2, 14, 34, 56⟩) some11_ok) (Is.conv (G.get (q0 ?b18_20 A W 42 hf) hc) (show _ = PktV ⟨0, some11, 2, 14, 34, 56⟩ from by rw [← mk11_read]; rfl)) (Is.conv (G.get (q1 ?b18_22 A W 44 hf) hc) (show _ = PktV ⟨0, some11, 2, 14, 34, 56⟩ from rfl)))
  apply oc0; intro A W hx hf
  exact ok_and (q0 ?b18_18 A W 41 hf) (q1 ?b18_23 A W 45 hf)
  apply oc0; intro A W hx hf
  exact ok_move (q0 ?b18_24 A W 46 hf)
  refine ocg 47 ?_ (fun A W hx hf => ?_) ?_
  rfl
  exact gd_t (q1 ?b18_24 A W 47 hf) (fun hc => ok_movE (a0 := a17) (r0 hf))
  refine ocg 47 ?_ (fun A W hx hf => ?_) ?_
  rfl
  exact gd_t (q1 ?b18_24 A W 47 hf) (fun hc => ok_eql (p1 s5 hx (G.get (q0 ?b18_26 A W 48 hf) hc)) (ec A (.int .i64 1)))
  apply oc0; intro A W hx hf
  exact ok_and (q0 ?b18_24 A W 47 hf) (q1 ?b18_27 A W 49 hf)
  apply oc0; intro A W hx hf
  exact ok_move (q0 ?b18_28 A W 50 hf)
  refine ocg 51 ?_ (fun A W hx hf => ?_) ?_
  rfl
  exact gd_t (q0 ?b18_28 A W 51 hf) (fun hc => ok_call0 body20 (c_some11 ))
  refine ocg 51 ?_ (fun A W hx hf => ?_) ?_
  rfl
  exact gd_t (q1 ?b18_28 A W 51 hf) (fun hc => ok_call1 body18 (c_turn (G.get (q0 ?b18_30 A W 52 hf) hc) (by exact some11_ok)))
  refine ocg 51 ?_ (fun A W hx hf => ?_) ?_
  rfl
  exact gd_t (q1 ?b18_28 A W 51 hf) (fun hc => ok_fieldC (k := 3) 35 3 _ tu28 ⟨_, rfl, rfl, rfl⟩ tu3 rfl (G.get (q0 ?b18_31 A W 53 hf) hc) (by rfl))
  refine ocg 51 ?_ (fun A W hx hf => ?_) ?_
  rfl
  exact gd_t (q1 ?b18_28 A W 51 hf) (fun hc => ok_eql (G.get (q0 ?b18_32 A W 54 hf) hc) (ec A (.int .i64 80)))
  apply oc0; intro A W hx hf
  exact ok_and (q0 ?b18_28 A W 51 hf) (q1 ?b18_33 A W 55 hf)
  apply oc0; intro A W hx hf
  exact ok_assign (q0 ?b18_34 A W 56 hf)
  exact onn
 case t18 => repeat (first | exact stb_nil | refine stb_cons ?_)
 clear hr; intro a19 w19 x hr hd hs
 have z_w_w17 := e_w.size
 have z_w15_w17 := e_w15.size
 clear s1 s3 s2 s5
 have s0 := fa ?b18_34 a19 w19 0 (hd 35 0 rfl)
 replace e_w := e_w.trans x
 clear e_w15; clear hd hs x
 refine et ?_
 refine wp_ret ?_
 refine ret_tmp Try.results9 hr e_w ?_
 exact Is.bool s0 (by rw [hml]; rfl)

end Go.Proofs.Ytpjpfmnnefgnbaa
