import Derived.Test.YtlmdboaghojgiaaA12
namespace Go.Proofs.Ytlmdboaghojgiaa
open Go.RowKit
set_option linter.unusedVariables false
set_option linter.unusedSimpArgs false
set_option maxRecDepth 4000
set_option maxHeartbeats 1000000 in
theorem law_NatRewrites {x0 x1 x2 : Value} {w : World} {l : List UInt8} {Sa : Adr} {n : Int} (h0 : (Bs l) x0 w) (h1 : (Is (AdrV Sa)) x1 w) (h2 : (Is (.int .i64 n)) x2 w) (hA : Sa.b.length = 16) :
    Calls Try.prog 3 #[x0, x1, x2] w (Ret (Is (.bool true)) w) := by
 have hlen := Bs.len_le h0
 refine enter Try.func3 rfl Try.ntmps3 (k := 3) rfl (by decide) (fun a0 hr hargs => ?_)
 have s0 := sarg h0 (hargs 0 (by decide))
 have s1 := sarg h1 (hargs 1 (by decide))
 have s2 := sarg h2 (hargs 2 (by decide))
 clear hargs
 refine sq ?_
 refine wp_reg 85 [[(1, none)], []] [?b1_0, ?b1_1] mixed hr ?t1 ?o1 ?_
 case o1 =>
  apply oc0; intro A W hx hf
  exact ok_boxS [[.bool Sa.six], Sa.b.map byteV] [1, 16] (Is.conv (o1 s1 hx (r0 hf)) (adr_seg Sa).symm) (by simp [*]) hx.size
  apply oc0; intro A W hx hf
  exact ok_assignc
  exact onn
 case t1 => exact inferInstance
 clear hr; intro a2 w2 x hr hd hs
 revert s2; revert s0; refine kp2 hs rfl ?_; intro s0 s2
 clear s1
 have s4 := fa ?b1_0 a2 w2 4 (hd 0 4 rfl)
 obtain ⟨g2_4, q2_4⟩ := PxN.at s4; clear s4; have n2_4 := PxS.lt q2_4
 have s4 := q2_4; clear q2_4
 have e_w := x; clear hd hs x
 refine es ?_
 refine sq ?_
 refine wp_reg 85 [[], [(15, some 0)], [(16, some 1)], [(0, none), (17, some 2)], [(18, some 3), (17, some 2)], [(19, some 4), (17, some 2)], [(17, some 2), (20, some 5)]] [?b3_0, ?b3_1, ?b3_1, ?b3_3, ?b3_4, ?b3_5, ?b3_6] mixed hr ?t3 ?o3 ?_
 case o3 =>
  apply oc0; intro A W hx hf
  exact ok_call0 body9 (c_awake12 )
  apply oc0; intro A W hx hf
  exact ok_not (q0 ?b3_0 A W 15 hf)
  apply oc0; intro A W hx hf
  exact ok_move (q0 ?b3_1 A W 16 hf)
  refine ocg 17 ?_ (fun A W hx hf => ?_) ?_
  rfl
  exact gd_f (q1 ?b3_1 A W 17 hf) (fun hc => ok_movE (a0 := a2) (r0 hf))
  refine ocg 17 ?_ (fun A W hx hf => ?_) ?_
  rfl
  exact gd_f (q1 ?b3_1 A W 17 hf) (fun hc => ok_len_bs tu22 (p2 s0 e_w hx (G.get (q0 ?b3_3 A W 18 hf) hc)))
  refine ocg 17 ?_ (fun A W hx hf => ?_) ?_
  rfl
  exact gd_f (q1 ?b3_1 A W 17 hf) (fun hc => ok_gtr (G.get (q0 ?b3_4 A W 19 hf) hc) (ec A (.int .i64 3000)))
  apply oc0; intro A W hx hf
  exact ok_or (q0 ?b3_1 A W 17 hf) (q1 ?b3_5 A W 20 hf)
  exact onn
 case t3 => exact inferInstance
 clear hr; intro a4 w4 x hr hd hs
 revert s4; revert s2; revert s0; refine kp3 hs rfl ?_; intro s0 s2 s4
 have s21 := fa ?b3_6 a4 w4 21 (hd 6 21 rfl)
 replace e_w := e_w.trans x
 have e_w2 := x; clear hd hs x
 refine et ?_
 refine wp_cond_split (show _ = _ from s21) (fun hg => ?_) (fun hg => ?_)
 ·
  skip
  refine sq ?_
  refine wp_reg 85 [[], [(22, some 0)]] [?b6_0, ?b6_0] mixed hr ?t6 ?o6 ?_
  case o6 =>
   apply oc0; intro A W hx hf
   exact ok_call0 body9 (c_awake12 )
   apply oc0; intro A W hx hf
   exact ok_assign (q0 ?b6_0 A W 22 hf)
   exact onn
  case t6 => exact inferInstance
  clear hr; intro a7 w7 x hr hd hs
  clear s0 s2 s4 s21
  have s6 := fa ?b6_0 a7 w7 6 (hd 1 6 rfl)
  replace e_w := e_w.trans x
  clear e_w2; clear hd hs x
  refine et ?_
  refine wp_ret ?_
  refine then_ret ?_
  refine ret_tmp Try.results3 hr e_w ?_
  first | with_reducible exact s6 | exact Is.bool s6 (by rw [natR_same, natR_same]; simp)
 have hg9 : l.length ≤ 3000 := by simp at hg; omega
 refine wp_skip ?_
 refine es ?_
 refine wp_reg 85 [[(0, none)], [(4, none)], [(2, none)], [(24, some 0), (25, some 1), (26, some 2)], [(27, some 3)], [(23, some 4)], [(23, some 4)], [(28, some 5)], [(29, some 6)]] [?b8_0, ?b8_1, ?b8_2, ?b8_3, ?b8_3, ?b8_5, ?b8_6, ?b8_5, ?b8_6] mixed hr ?t8 ?o8 ?_
 case o8 =>
  apply oc0; intro A W hx hf
  exact ok_movE (a0 := a4) (r0 hf)
  apply oc0; intro A W hx hf
  exact ok_loadAggS 2 tu25 rfl size25 (o2 s4 e_w2 hx (r0 hf)) rfl
  apply oc0; intro A W hx hf
  exact ok_movE (a0 := a4) (r0 hf)
  apply oc0; intro A W hx hf
  exact ok_call3 body10 (c_nTo (p2 s0 e_w hx (q0 ?b8_0 A W 24 hf)) (Is.conv (q1 ?b8_1 A W 25 hf) (adr_seg Sa)) (p2 s2 e_w hx (q2 ?b8_2 A W 26 hf)) (by exact hA) (by omega) hx.size)
  apply oc0; intro A W hx hf
  exact ok_move (q0 ?b8_3 A W 27 hf)
  apply oc0; intro A W hx hf
  exact ok_ext0 (q0 ?b8_3 A W 23 hf)
  apply oc0; intro A W hx hf
  exact ok_ext1 (q0 ?b8_3 A W 23 hf)
  apply oc0; intro A W hx hf
  exact ok_assign (q0 ?b8_5 A W 28 hf)
  apply oc0; intro A W hx hf
  exact ok_assign (q0 ?b8_6 A W 29 hf)
  exact onn
 case t8 => exact inferInstance
 clear hr; intro a9 w9 x hr hd hs
 have z_w_w4 := e_w.size
 have z_w2_w4 := e_w2.size
 have l9_4 := PxS.lt (later e_w2 s4)
 revert s4; revert s2; revert s0; refine kp3 hs rfl ?_; intro s0 s2 s4
 clear s21
 have s7 := fa ?b8_5 a9 w9 7 (hd 7 7 rfl)
 have s8 := fa ?b8_6 a9 w9 8 (hd 8 8 rfl)
 obtain ⟨g9_7, q9_7⟩ := OwnB.at s7; clear s7; have n9_7 := OwnBA.lt q9_7
 replace q9_7 := OwnBA.mono q9_7 e_w.size
 have s7 := q9_7; clear q9_7
 replace e_w := e_w.trans x
 replace e_w2 := e_w2.trans x; clear hd hs x
 refine es ?_
 refine wp_reg 85 [[(0, none)], [(4, none)], [(2, none)], [(31, some 0), (32, some 1), (33, some 2)], [(34, some 3)], [(30, some 4)], [(30, some 4)], [(35, some 5)], [(36, some 6)]] [?b10_0, ?b10_1, ?b10_2, ?b10_3, ?b10_3, ?b10_5, ?b10_6, ?b10_5, ?b10_6] mixed hr ?t10 ?o10 ?_
 case o10 =>
  apply oc0; intro A W hx hf
  exact ok_movE (a0 := a9) (r0 hf)
  apply oc0; intro A W hx hf
  exact ok_loadAggS 2 tu25 rfl size25 (o2 s4 e_w2 hx (r0 hf)) rfl
  apply oc0; intro A W hx hf
  exact ok_movE (a0 := a9) (r0 hf)
  apply oc0; intro A W hx hf
  exact ok_call3 body11 (c_nFrom (p2 s0 e_w hx (q0 ?b10_0 A W 31 hf)) (Is.conv (q1 ?b10_1 A W 32 hf) (adr_seg Sa)) (p2 s2 e_w hx (q2 ?b10_2 A W 33 hf)) (by exact hA) (by omega) hx.size)
  apply oc0; intro A W hx hf
  exact ok_move (q0 ?b10_3 A W 34 hf)
  apply oc0; intro A W hx hf
  exact ok_ext0 (q0 ?b10_3 A W 30 hf)
  apply oc0; intro A W hx hf
  exact ok_ext1 (q0 ?b10_3 A W 30 hf)
  apply oc0; intro A W hx hf
  exact ok_assign (q0 ?b10_5 A W 35 hf)
  apply oc0; intro A W hx hf
  exact ok_assign (q0 ?b10_6 A W 36 hf)
  exact onn
 case t10 => exact inferInstance
 clear hr; intro a11 w11 x hr hd hs
 have z_w_w9 := e_w.size
 have z_w2_w9 := e_w2.size
 have l11_4 := PxS.lt (later e_w2 s4)
 have l11_7 := OwnBA.lt s7
 revert s7; revert s8; revert s4; revert s2; revert s0; refine kp5 hs rfl ?_; intro s0 s2 s4 s8 s7
 have s9 := fa ?b10_5 a11 w11 9 (hd 7 9 rfl)
 have s10 := fa ?b10_6 a11 w11 10 (hd 8 10 rfl)
 obtain ⟨g11_9, q11_9⟩ := OwnB.at s9; clear s9; have n11_9 := OwnBA.lt q11_9
 replace q11_9 := OwnBA.mono q11_9 e_w.size
 have s9 := q11_9; clear q11_9
 replace e_w := e_w.trans x
 replace e_w2 := e_w2.trans x
 have e_w9 := x; clear hd hs x
 refine es ?_
 refine wp_reg 85 [[(0, none)], [(4, none)], [(2, none)], [(38, some 0), (39, some 1), (40, some 2)], [(41, some 3)], [(37, some 4)], [(37, some 4)], [(42, some 5)], [(43, some 6)]] [?b12_0, ?b12_1, ?b12_2, ?b12_3, ?b12_3, ?b12_5, ?b12_6, ?b12_5, ?b12_6] mixed hr ?t12 ?o12 ?_
 case o12 =>
  apply oc0; intro A W hx hf
  exact ok_movE (a0 := a11) (r0 hf)
  apply oc0; intro A W hx hf
  exact ok_loadAggS 2 tu25 rfl size25 (o2 s4 e_w2 hx (r0 hf)) rfl
  apply oc0; intro A W hx hf
  exact ok_movE (a0 := a11) (r0 hf)
  apply oc0; intro A W hx hf
  exact ok_call4 body12 (c_r12Rewrite (p2 s0 e_w hx (q0 ?b12_0 A W 38 hf)) (Is.conv (q1 ?b12_1 A W 39 hf) (adr_seg Sa)) (p2 s2 e_w hx (q2 ?b12_2 A W 40 hf)) (show Is (.bool true) (A.eval (.const (.bool true))) _ from rfl) (by exact hA) (by omega) hx.size)
  apply oc0; intro A W hx hf
  exact ok_move (q0 ?b12_3 A W 41 hf)
  apply oc0; intro A W hx hf
  exact ok_ext0 (q0 ?b12_3 A W 37 hf)
  apply oc0; intro A W hx hf
  exact ok_ext1 (q0 ?b12_3 A W 37 hf)
  apply oc0; intro A W hx hf
  exact ok_assign (q0 ?b12_5 A W 42 hf)
  apply oc0; intro A W hx hf
  exact ok_assign (q0 ?b12_6 A W 43 hf)
  exact onn
 case t12 => exact inferInstance
 clear hr; intro a13 w13 x hr hd hs
 have z_w_w11 := e_w.size
 have z_w2_w11 := e_w2.size
 have z_w9_w11 := e_w9.size
 have l13_4 := PxS.lt (later e_w2 s4)
 have l13_7 := OwnBA.lt (later e_w9 s7)
 have l13_9 := OwnBA.lt s9
 revert s10; revert s7; revert s8; revert s4; revert s2; revert s0; refine kp6 hs rfl ?_; intro s0 s2 s4 s8 s7 s10
 revert s9; refine kp1 hs rfl ?_; intro s9
 have s11 := fa ?b12_5 a13 w13 11 (hd 7 11 rfl)
 have s12 := fa ?b12_6 a13 w13 12 (hd 8 12 rfl)
 obtain ⟨g13_11, q13_11⟩ := OwnB.at s11; clear s11; have n13_11 := OwnBA.lt q13_11
 replace q13_11 := OwnBA.mono q13_11 e_w.size
 have s11 := q13_11; clear q13_11
 replace e_w := e_w.trans x
 replace e_w2 := e_w2.trans x
 replace e_w9 := e_w9.trans x
 have e_w11 := x; clear hd hs x
 refine es ?_
 refine wp_reg 85 [[(0, none)], [(4, none)], [(2, none)], [(45, some 0), (46, some 1), (47, some 2)], [(48, some 3)], [(44, some 4)], [(44, some 4)], [(49, some 5)], [(50, some 6)]] [?b14_0, ?b14_1, ?b14_2, ?b14_3, ?b14_3, ?b14_5, ?b14_6, ?b14_5, ?b14_6] mixed hr ?t14 ?o14 ?_
 case o14 =>
  apply oc0; intro A W hx hf
  exact ok_movE (a0 := a13) (r0 hf)
  apply oc0; intro A W hx hf
  exact ok_loadAggS 2 tu25 rfl size25 (o2 s4 e_w2 hx (r0 hf)) rfl
  apply oc0; intro A W hx hf
  exact ok_movE (a0 := a13) (r0 hf)
  apply oc0; intro A W hx hf
  exact ok_call4 body12 (c_r12Rewrite (p2 s0 e_w hx (q0 ?b14_0 A W 45 hf)) (Is.conv (q1 ?b14_1 A W 46 hf) (adr_seg Sa)) (p2 s2 e_w hx (q2 ?b14_2 A W 47 hf)) (show Is (.bool false) (A.eval (.const (.bool false))) _ from rfl) (by exact hA) (by omega) hx.size)
  apply oc0; intro A W hx hf
  exact ok_move (q0 ?b14_3 A W 48 hf)
  apply oc0; intro A W hx hf
  exact ok_ext0 (q0 ?b14_3 A W 44 hf)
  apply oc0; intro A W hx hf
  exact ok_ext1 (q0 ?b14_3 A W 44 hf)
  apply oc0; intro A W hx hf
  exact ok_assign (q0 ?b14_5 A W 49 hf)
  apply oc0; intro A W hx hf
  exact ok_assign (q0 ?b14_6 A W 50 hf)
  exact onn
 case t14 => exact inferInstance
 clear hr; intro a15 w15 x hr hd hs
 have z_w_w13 := e_w.size
 have z_w2_w13 := e_w2.size
 have z_w9_w13 := e_w9.size
 have z_w11_w13 := e_w11.size
 have l15_4 := PxS.lt (later e_w2 s4)
 have l15_7 := OwnBA.lt (later e_w9 s7)
 have l15_9 := OwnBA.lt (later e_w11 s9)
 have l15_11 := OwnBA.lt s11
 revert s11; revert s12; revert s9; revert s10; revert s7; revert s8; refine kp6 hs rfl ?_; intro s8 s7 s10 s9 s12 s11
 clear s0 s2 s4
 have s13 := fa ?b14_5 a15 w15 13 (hd 7 13 rfl)
 have s14 := fa ?b14_6 a15 w15 14 (hd 8 14 rfl)
 obtain ⟨g15_13, q15_13⟩ := OwnB.at s13; clear s13; have n15_13 := OwnBA.lt q15_13
 replace q15_13 := OwnBA.mono q15_13 e_w.size
 have s13 := q15_13; clear q15_13
 replace e_w := e_w.trans x
 clear e_w2
 replace e_w9 := e_w9.trans x
 replace e_w11 := e_w11.trans x
 have e_w13 := x; clear hd hs x
 refine es ?_
 refine sq ?_
 refine wp_reg 85 [[(12, none)], [(8, none)], [(52, some 1)], [(51, some 0), (53, some 2)], [(54, some 3)], [(14, none), (55, some 4)], [(10, none), (55, some 4)], [(57, some 6), (55, some 4)], [(56, some 5), (58, some 7), (55, some 4)], [(55, some 4), (59, some 8)], [(60, some 9)], [(12, none), (61, some 10)], [(62, some 11), (61, some 10)], [(63, some 12), (61, some 10)], [(8, none), (64, some 13)], [(65, some 14), (64, some 13)], [(64, some 13), (66, some 15), (61, some 10)], [(61, some 10), (67, some 16)], [(68, some 17)], [(14, none), (69, some 18)], [(70, some 19), (69, some 18)], [(71, some 20), (69, some 18)], [(10, none), (72, some 21)], [(73, some 22), (72, some 21)], [(72, some 21), (74, some 23), (69, some 18)], [(69, some 18), (75, some 24)]] [?b16_0, ?b16_1, ?b16_2, ?b16_3, ?b16_3, ?b16_5, ?b16_6, ?b16_7, ?b16_8, ?b16_9, ?b16_9, ?b16_11, ?b16_12, ?b16_12, ?b16_14, ?b16_15, ?b16_16, ?b16_17, ?b16_17, ?b16_19, ?b16_20, ?b16_20, ?b16_22, ?b16_23, ?b16_24, ?b16_25] mixed hr ?t16 ?o16 ?_
 case o16 =>
  apply oc0; intro A W hx hf
  exact ok_movE (a0 := a15) (r0 hf)
  apply oc0; intro A W hx hf
  exact ok_movE (a0 := a15) (r0 hf)
  apply oc0; intro A W hx hf
  exact ok_eql (p2 s8 e_w9 hx (q0 ?b16_1 A W 52 hf)) (ec A (.int .i64 0))
  apply oc0; intro A W hx hf
  exact ok_neb tu4 (p2 s12 e_w13 hx (q0 ?b16_0 A W 51 hf)) (q1 ?b16_2 A W 53 hf)
  apply oc0; intro A W hx hf
  exact ok_move (q0 ?b16_3 A W 54 hf)
  refine ocg 55 ?_ (fun A W hx hf => ?_) ?_
  rfl
  exact gd_f (q1 ?b16_3 A W 55 hf) (fun hc => ok_movE (a0 := a15) (r0 hf))
  refine ocg 55 ?_ (fun A W hx hf => ?_) ?_
  rfl
  exact gd_f (q1 ?b16_3 A W 55 hf) (fun hc => ok_movE (a0 := a15) (r0 hf))
  refine ocg 55 ?_ (fun A W hx hf => ?_) ?_
  rfl
  exact gd_f (q1 ?b16_3 A W 55 hf) (fun hc => ok_eql (p2 s10 e_w11 hx (G.get (q0 ?b16_6 A W 57 hf) hc)) (ec A (.int .i64 0)))
  refine ocg 55 ?_ (fun A W hx hf => ?_) ?_
  rfl
  exact gd_f (q2 ?b16_3 A W 55 hf) (fun hc => ok_neb tu4 (p1 s14 hx (G.get (q0 ?b16_5 A W 56 hf) hc)) (G.get (q1 ?b16_7 A W 58 hf) hc))
  apply oc0; intro A W hx hf
  exact ok_or (q0 ?b16_3 A W 55 hf) (q1 ?b16_8 A W 59 hf)
  apply oc0; intro A W hx hf
  exact ok_move (q0 ?b16_9 A W 60 hf)
  refine ocg 61 ?_ (fun A W hx hf => ?_) ?_
  rfl
  exact gd_f (q1 ?b16_9 A W 61 hf) (fun hc => ok_movE (a0 := a15) (r0 hf))
  refine ocg 61 ?_ (fun A W hx hf => ?_) ?_
  rfl
  exact gd_f (q1 ?b16_9 A W 61 hf) (fun hc => ok_not (p2 s12 e_w13 hx (G.get (q0 ?b16_11 A W 62 hf) hc)))
  refine ocg 61 ?_ (fun A W hx hf => ?_) ?_
  rfl
  exact gd_f (q1 ?b16_9 A W 61 hf) (fun hc => ok_move (G.get (q0 ?b16_12 A W 63 hf) hc))
  refine ocg 64 ?_ (fun A W hx hf => ?_) ?_
  rfl
  exact gd_gt (q1 ?b16_12 A W 64 hf) (fun hc => ok_movE (a0 := a15) (r0 hf))
  refine ocg 64 ?_ (fun A W hx hf => ?_) ?_
  rfl
  exact gd_gt (q1 ?b16_12 A W 64 hf) (fun hc => ok_neq (p2 s8 e_w9 hx (G.get (q0 ?b16_14 A W 65 hf) hc)) (ec A (.int .i64 1)))
  refine ocg 61 ?_ (fun A W hx hf => ?_) ?_
  rfl
  exact gd_f (q2 ?b16_9 A W 61 hf) (fun hc => ok_and (G.get (q0 ?b16_12 A W 64 hf) hc) (G.strip hc (q1 ?b16_15 A W 66 hf)))
  apply oc0; intro A W hx hf
  exact ok_or (q0 ?b16_9 A W 61 hf) (q1 ?b16_16 A W 67 hf)
  apply oc0; intro A W hx hf
  exact ok_move (q0 ?b16_17 A W 68 hf)
  refine ocg 69 ?_ (fun A W hx hf => ?_) ?_
  rfl
  exact gd_f (q1 ?b16_17 A W 69 hf) (fun hc => ok_movE (a0 := a15) (r0 hf))
  refine ocg 69 ?_ (fun A W hx hf => ?_) ?_
  rfl
  exact gd_f (q1 ?b16_17 A W 69 hf) (fun hc => ok_not (p1 s14 hx (G.get (q0 ?b16_19 A W 70 hf) hc)))
  refine ocg 69 ?_ (fun A W hx hf => ?_) ?_
  rfl
  exact gd_f (q1 ?b16_17 A W 69 hf) (fun hc => ok_move (G.get (q0 ?b16_20 A W 71 hf) hc))
  refine ocg 72 ?_ (fun A W hx hf => ?_) ?_
  rfl
  exact gd_gt (q1 ?b16_20 A W 72 hf) (fun hc => ok_movE (a0 := a15) (r0 hf))
  refine ocg 72 ?_ (fun A W hx hf => ?_) ?_
  rfl
  exact gd_gt (q1 ?b16_20 A W 72 hf) (fun hc => ok_neq (p2 s10 e_w11 hx (G.get (q0 ?b16_22 A W 73 hf) hc)) (ec A (.int .i64 1)))
  refine ocg 69 ?_ (fun A W hx hf => ?_) ?_
  rfl
  exact gd_f (q2 ?b16_17 A W 69 hf) (fun hc => ok_and (G.get (q0 ?b16_20 A W 72 hf) hc) (G.strip hc (q1 ?b16_23 A W 74 hf)))
  apply oc0; intro A W hx hf
  exact ok_or (q0 ?b16_17 A W 69 hf) (q1 ?b16_24 A W 75 hf)
  exact onn
 case t16 => repeat (first | exact stb_nil | refine stb_cons ?_)
 clear hr; intro a17 w17 x hr hd hs
 revert s13; revert s11; revert s9; revert s7; refine kp4 hs rfl ?_; intro s7 s9 s11 s13
 clear s8 s10 s12 s14
 have s76 := fa ?b16_25 a17 w17 76 (hd 25 76 rfl)
 replace e_w := e_w.trans x
 replace e_w9 := e_w9.trans x
 replace e_w11 := e_w11.trans x
 replace e_w13 := e_w13.trans x
 have e_w15 := x; clear hd hs x
 refine et ?_
 refine wp_cond_split (show _ = _ from s76) (fun hd9 => ?_) (fun hd9 => ?_)
 ·
  exfalso; exact absurd (hd9.symm.trans natR_dead) (by decide)
 try simp only [decide_eq_true_eq, decide_eq_false_iff_not, Bool.not_eq_true', Bool.not_eq_false', Bool.not_true, Bool.not_false, Bool.and_eq_true, Bool.and_eq_false_iff, Bool.or_eq_true, Bool.or_eq_false_iff, bne_iff_ne, beq_iff_eq, ne_eq, beq_eq_false_iff_ne, bne_eq_false_iff_eq] at hd9
 refine wp_skip ?_
 refine es ?_
 refine wp_reg 85 [[(7, none)], [(11, none)], [(77, some 0), (78, some 1)], [(79, some 2)], [(9, none), (80, some 3)], [(13, none), (80, some 3)], [(81, some 4), (82, some 5), (80, some 3)], [(80, some 3), (83, some 6)], [(84, some 7)]] [?b19_0, ?b19_1, ?b19_2, ?b19_2, ?b19_4, ?b19_5, ?b19_6, ?b19_7, ?b19_7] mixed hr ?t19 ?o19 ?_
 case o19 =>
  apply oc0; intro A W hx hf
  exact ok_movE (a0 := a17) (r0 hf)
  apply oc0; intro A W hx hf
  exact ok_movE (a0 := a17) (r0 hf)
  apply oc0; intro A W hx hf
  exact ok_call2 body13 (c_Same (OwnBA.bs (p2 s7 e_w9 hx (q0 ?b19_0 A W 77 hf))) (OwnBA.bs (p2 s11 e_w13 hx (q1 ?b19_1 A W 78 hf))))
  apply oc0; intro A W hx hf
  exact ok_move (q0 ?b19_2 A W 79 hf)
  refine ocg 80 ?_ (fun A W hx hf => ?_) ?_
  rfl
  exact gd_t (q1 ?b19_2 A W 80 hf) (fun hc => ok_movE (a0 := a17) (r0 hf))
  refine ocg 80 ?_ (fun A W hx hf => ?_) ?_
  rfl
  exact gd_t (q1 ?b19_2 A W 80 hf) (fun hc => ok_movE (a0 := a17) (r0 hf))
  refine ocg 80 ?_ (fun A W hx hf => ?_) ?_
  rfl
  exact gd_t (q2 ?b19_2 A W 80 hf) (fun hc => ok_call2 body13 (c_Same (OwnBA.bs (p2 s9 e_w11 hx (G.get (q0 ?b19_4 A W 81 hf) hc))) (OwnBA.bs (p2 s13 e_w15 hx (G.get (q1 ?b19_5 A W 82 hf) hc)))))
  apply oc0; intro A W hx hf
  exact ok_and (q0 ?b19_2 A W 80 hf) (q1 ?b19_6 A W 83 hf)
  apply oc0; intro A W hx hf
  exact ok_assign (q0 ?b19_7 A W 84 hf)
  exact onn
 case t19 => exact inferInstance
 clear hr; intro a20 w20 x hr hd hs
 clear s7 s9 s11 s13 s76
 have s6 := fa ?b19_7 a20 w20 6 (hd 8 6 rfl)
 replace e_w := e_w.trans x
 clear e_w9
 clear e_w11
 clear e_w13
 clear e_w15; clear hd hs x
 refine et ?_
 refine wp_ret ?_
 refine ret_tmp Try.results3 hr e_w ?_
 first | with_reducible exact s6 | exact Is.bool s6 (by rw [natR_same, natR_same]; simp)

end Go.Proofs.Ytlmdboaghojgiaa
