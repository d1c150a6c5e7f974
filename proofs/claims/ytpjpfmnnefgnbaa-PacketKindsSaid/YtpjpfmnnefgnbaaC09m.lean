import Derived.Test.YtpjpfmnnefgnbaaC09
namespace Go.Proofs.Ytpjpfmnnefgnbaa
open Go.RowKit
set_option linter.unusedVariables false
set_option linter.unusedSimpArgs false
set_option maxRecDepth 4000
theorem c_xPut {x0 : Value} {w : World} {H : SixL} {B : Nat} (h0 : (Is (SixV H)) x0 w) (hH : SixOk H) (hB : B ≤ w.heap.size) :
    Calls Try.prog 33 #[x0] w (Ret (Tup2 (OwnB B 5 (sixPutR H).1) (Is (.int .i64 (sixPutR H).2))) w) := by
 have hs16 := hH.1
 have hd16 := hH.2
 refine enter Try.func33 rfl Try.ntmps33 (k := 1) rfl (by decide) (fun a0 hr hargs => ?_)
 have s0 := sarg h0 (hargs 0 (by decide))
 clear hargs
 refine sq ?_
 refine wp_reg 82 [[(0, none)], [], []] [?b1_0, ?b1_1, ?b1_2] mixed hr ?t1 ?o1 ?_
 case o1 =>
  apply oc0; intro A W hx hf
  exact ok_boxS (sixS2 H) [1, 1, 1, 1, 1, 1, 1, 16, 1, 16] (Is.conv (o1 s0 hx (r0 hf)) (show _ = Value.agg (sixS2 H).flatten.toArray from by rw [six_seg]; rfl)) (by exact sixS2_lens hH) hx.size
  apply oc0; intro A W hx hf
  exact ok_assignv (OwnBA 0 w.heap.size 5 []) (fun _ => ownBA_nil)
  apply oc0; intro A W hx hf
  exact ok_assignc
  exact onn
 case t1 => exact inferInstance
 clear hr; intro a2 w2 x hr hd hs
 clear s0
 have s1 := fa ?b1_0 a2 w2 1 (hd 0 1 rfl)
 obtain ⟨g2_1, q2_1⟩ := PxN.at s1; clear s1; have n2_1 := PxS.lt q2_1
 have s1 := q2_1; clear q2_1
 have e_w := x; clear hd hs x
 refine es ?_
 refine sq ?_
 refine wp_reg 82 ([(1, none)] :: [(5, some 0)] :: [(6, some 1)] :: [(7, some 2)] :: [(1, none), (8, some 3)] :: [(9, some 4), (8, some 3)] :: [(10, some 5), (8, some 3)] :: [(8, some 3), (11, some 6)] :: [(12, some 7)] :: [(1, none), (13, some 8)] :: [(14, some 9), (13, some 8)] :: [(15, some 10), (13, some 8)] :: [(13, some 8), (16, some 11)] :: [(17, some 12)] :: [(1, none), (18, some 13)] :: [(19, some 14), (18, some 13)] :: [(20, some 15), (18, some 13)] :: [(21, some 16), (18, some 13)] :: [(18, some 13), (22, some 17)] :: [(23, some 18)] :: [(1, none), (24, some 19)] :: [(25, some 20), (24, some 19)] :: [(26, some 21), (24, some 19)] :: [(27, some 22), (24, some 19)] :: [(24, some 19), (28, some 23)] :: [(29, some 24)] :: [(1, none), (30, some 25)] :: [(31, some 26), (30, some 25)] :: [(30, some 25), (32, some 27)] :: [(33, some 28)] :: [(1, none), (34, some 29)] :: [(35, some 30), (34, some 29)] :: [(36, some 31), (34, some 29)] :: [(34, some 29), (37, some 32)] :: [(38, some 33)] :: [(1, none), (39, some 34)] :: [(40, some 35), (39, some 34)] :: [(41, some 36), (39, some 34)] :: [(39, some 34), (42, some 37)] :: [(43, some 38)] :: [(1, none), (44, some 39)] :: [(45, some 40), (44, some 39)] :: [(46, some 41), (44, some 39)] :: [(47, some 42), (44, some 39)] :: [(44, some 39), (48, some 43)] :: [(49, some 44)] :: [(1, none), (50, some 45)] :: [(51, some 46), (50, some 45)] :: [(52, some 47), (50, some 45)] :: [(53, some 48), (50, some 45)] :: [(50, some 45), (54, some 49)] :: []) (?b3_0 :: ?b3_1 :: ?b3_2 :: ?b3_2 :: ?b3_4 :: ?b3_5 :: ?b3_6 :: ?b3_7 :: ?b3_7 :: ?b3_9 :: ?b3_10 :: ?b3_11 :: ?b3_12 :: ?b3_12 :: ?b3_14 :: ?b3_15 :: ?b3_16 :: ?b3_17 :: ?b3_18 :: ?b3_18 :: ?b3_20 :: ?b3_21 :: ?b3_22 :: ?b3_23 :: ?b3_24 :: ?b3_24 :: ?b3_26 :: ?b3_27 :: ?b3_28 :: ?b3_28 :: ?b3_30 :: ?b3_31 :: ?b3_32 :: ?b3_33 :: ?b3_33 :: ?b3_35 :: ?b3_36 :: ?b3_37 :: ?b3_38 :: ?b3_38 :: ?b3_40 :: ?b3_41 :: ?b3_42 :: ?b3_43 :: ?b3_44 :: ?b3_44 :: ?b3_46 :: ?b3_47 :: ?b3_48 :: ?b3_49 :: ?b3_50 :: []) mixed hr ?t3 ?o3 ?_
 case o3 =>
  apply oc0; intro A W hx hf
  exact ok_fieldS 0 tu75 (k := 0) rfl size3 rfl (o1 s1 hx (r0 hf)) rfl
  apply oc0; intro A W hx hf
  exact ok_loadS tu3 rfl (q0 ?b3_0 A W 5 hf) rfl
  apply oc0; intro A W hx hf
  exact ok_neq (q0 ?b3_1 A W 6 hf) (ec A (.int .i64 40))
  apply oc0; intro A W hx hf
  exact ok_move (q0 ?b3_2 A W 7 hf)
  refine ocg 8 ?_ (fun A W hx hf => ?_) ?_
  rfl
  exact gd_f (q1 ?b3_2 A W 8 hf) (fun hc => ok_fieldS 1 tu75 (k := 1) rfl size3 rfl (o1 s1 hx (r0 hf)) rfl)
  refine ocg 8 ?_ (fun A W hx hf => ?_) ?_
  rfl
  exact gd_f (q1 ?b3_2 A W 8 hf) (fun hc => ok_loadS tu3 rfl (G.get (q0 ?b3_4 A W 9 hf) hc) rfl)
  refine ocg 8 ?_ (fun A W hx hf => ?_) ?_
  rfl
  exact gd_f (q1 ?b3_2 A W 8 hf) (fun hc => ok_lss (G.get (q0 ?b3_5 A W 10 hf) hc) (ec A (.int .i64 40)))
  apply oc0; intro A W hx hf
  exact ok_or (q0 ?b3_2 A W 8 hf) (q1 ?b3_6 A W 11 hf)
  apply oc0; intro A W hx hf
  exact ok_move (q0 ?b3_7 A W 12 hf)
  refine ocg 13 ?_ (fun A W hx hf => ?_) ?_
  rfl
  exact gd_f (q1 ?b3_7 A W 13 hf) (fun hc => ok_fieldS 1 tu75 (k := 1) rfl size3 rfl (o1 s1 hx (r0 hf)) rfl)
  refine ocg 13 ?_ (fun A W hx hf => ?_) ?_
  rfl
  exact gd_f (q1 ?b3_7 A W 13 hf) (fun hc => ok_loadS tu3 rfl (G.get (q0 ?b3_9 A W 14 hf) hc) rfl)
  refine ocg 13 ?_ (fun A W hx hf => ?_) ?_
  rfl
  exact gd_f (q1 ?b3_7 A W 13 hf) (fun hc => ok_gtr (G.get (q0 ?b3_10 A W 15 hf) hc) (ec A (.int .i64 65575)))
  apply oc0; intro A W hx hf
  exact ok_or (q0 ?b3_7 A W 13 hf) (q1 ?b3_11 A W 16 hf)
  apply oc0; intro A W hx hf
  exact ok_move (q0 ?b3_12 A W 17 hf)
  refine ocg 18 ?_ (fun A W hx hf => ?_) ?_
  rfl
  exact gd_f (q1 ?b3_12 A W 18 hf) (fun hc => ok_fieldS 2 tu75 (k := 2) rfl size3 rfl (o1 s1 hx (r0 hf)) rfl)
  refine ocg 18 ?_ (fun A W hx hf => ?_) ?_
  rfl
  exact gd_f (q1 ?b3_12 A W 18 hf) (fun hc => ok_loadS tu3 rfl (G.get (q0 ?b3_14 A W 19 hf) hc) rfl)
  refine ocg 18 ?_ (fun A W hx hf => ?_) ?_
  rfl
  exact gd_f (q1 ?b3_12 A W 18 hf) (fun hc => ok_call1 body62 (c_xin (G.get (q0 ?b3_15 A W 20 hf) hc)))
  refine ocg 18 ?_ (fun A W hx hf => ?_) ?_
  rfl
  exact gd_f (q1 ?b3_12 A W 18 hf) (fun hc => ok_not (G.get (q0 ?b3_16 A W 21 hf) hc))
  apply oc0; intro A W hx hf
  exact ok_or (q0 ?b3_12 A W 18 hf) (q1 ?b3_17 A W 22 hf)
  apply oc0; intro A W hx hf
  exact ok_move (q0 ?b3_18 A W 23 hf)
  refine ocg 24 ?_ (fun A W hx hf => ?_) ?_
  rfl
  exact gd_f (q1 ?b3_18 A W 24 hf) (fun hc => ok_fieldS 5 tu75 (k := 5) rfl size3 rfl (o1 s1 hx (r0 hf)) rfl)
  refine ocg 24 ?_ (fun A W hx hf => ?_) ?_
  rfl
  exact gd_f (q1 ?b3_18 A W 24 hf) (fun hc => ok_loadS tu3 rfl (G.get (q0 ?b3_20 A W 25 hf) hc) rfl)
  refine ocg 24 ?_ (fun A W hx hf => ?_) ?_
  rfl
  exact gd_f (q1 ?b3_18 A W 24 hf) (fun hc => ok_call1 body62 (c_xin (G.get (q0 ?b3_21 A W 26 hf) hc)))
  refine ocg 24 ?_ (fun A W hx hf => ?_) ?_
  rfl
  exact gd_f (q1 ?b3_18 A W 24 hf) (fun hc => ok_not (G.get (q0 ?b3_22 A W 27 hf) hc))
  apply oc0; intro A W hx hf
  exact ok_or (q0 ?b3_18 A W 24 hf) (q1 ?b3_23 A W 28 hf)
  apply oc0; intro A W hx hf
  exact ok_move (q0 ?b3_24 A W 29 hf)
  refine ocg 30 ?_ (fun A W hx hf => ?_) ?_
  rfl
  exact gd_f (q1 ?b3_24 A W 30 hf) (fun hc => ok_fieldS 3 tu75 (k := 3) rfl size4 rfl (o1 s1 hx (r0 hf)) rfl)
  refine ocg 30 ?_ (fun A W hx hf => ?_) ?_
  rfl
  exact gd_f (q1 ?b3_24 A W 30 hf) (fun hc => ok_loadS tu4 rfl (G.get (q0 ?b3_26 A W 31 hf) hc) rfl)
  apply oc0; intro A W hx hf
  exact ok_or (q0 ?b3_24 A W 30 hf) (q1 ?b3_27 A W 32 hf)
  apply oc0; intro A W hx hf
  exact ok_move (q0 ?b3_28 A W 33 hf)
  refine ocg 34 ?_ (fun A W hx hf => ?_) ?_
  rfl
  exact gd_f (q1 ?b3_28 A W 34 hf) (fun hc => ok_fieldS 4 tu75 (k := 4) rfl size3 rfl (o1 s1 hx (r0 hf)) rfl)
  refine ocg 34 ?_ (fun A W hx hf => ?_) ?_
  rfl
  exact gd_f (q1 ?b3_28 A W 34 hf) (fun hc => ok_loadS tu3 rfl (G.get (q0 ?b3_30 A W 35 hf) hc) rfl)
  refine ocg 34 ?_ (fun A W hx hf => ?_) ?_
  rfl
  exact gd_f (q1 ?b3_28 A W 34 hf) (fun hc => ok_neq (G.get (q0 ?b3_31 A W 36 hf) hc) (ec A (.int .i64 0)))
  apply oc0; intro A W hx hf
  exact ok_or (q0 ?b3_28 A W 34 hf) (q1 ?b3_32 A W 37 hf)
  apply oc0; intro A W hx hf
  exact ok_move (q0 ?b3_33 A W 38 hf)
  refine ocg 39 ?_ (fun A W hx hf => ?_) ?_
  rfl
  exact gd_f (q1 ?b3_33 A W 39 hf) (fun hc => ok_fieldS 5 tu75 (k := 5) rfl size3 rfl (o1 s1 hx (r0 hf)) rfl)
  refine ocg 39 ?_ (fun A W hx hf => ?_) ?_
  rfl
  exact gd_f (q1 ?b3_33 A W 39 hf) (fun hc => ok_loadS tu3 rfl (G.get (q0 ?b3_35 A W 40 hf) hc) rfl)
  refine ocg 39 ?_ (fun A W hx hf => ?_) ?_
  rfl
  exact gd_f (q1 ?b3_33 A W 39 hf) (fun hc => ok_call1 body63 (c_xext (G.get (q0 ?b3_36 A W 41 hf) hc)))
  apply oc0; intro A W hx hf
  exact ok_or (q0 ?b3_33 A W 39 hf) (q1 ?b3_37 A W 42 hf)
  apply oc0; intro A W hx hf
  exact ok_move (q0 ?b3_38 A W 43 hf)
  refine ocg 44 ?_ (fun A W hx hf => ?_) ?_
  rfl
  exact gd_f (q1 ?b3_38 A W 44 hf) (fun hc => ok_fieldS 6 tu75 (k := 6) rfl size26 rfl (o1 s1 hx (r0 hf)) rfl)
  refine ocg 44 ?_ (fun A W hx hf => ?_) ?_
  rfl
  exact gd_f (q1 ?b3_38 A W 44 hf) (fun hc => ok_fieldS 6 tu26 (k := 0) rfl size4 rfl (G.get (q0 ?b3_40 A W 45 hf) hc) rfl)
  refine ocg 44 ?_ (fun A W hx hf => ?_) ?_
  rfl
  exact gd_f (q1 ?b3_38 A W 44 hf) (fun hc => ok_loadS tu4 rfl (G.get (q0 ?b3_41 A W 46 hf) hc) rfl)
  refine ocg 44 ?_ (fun A W hx hf => ?_) ?_
  rfl
  exact gd_f (q1 ?b3_38 A W 44 hf) (fun hc => ok_not (G.get (q0 ?b3_42 A W 47 hf) hc))
  apply oc0; intro A W hx hf
  exact ok_or (q0 ?b3_38 A W 44 hf) (q1 ?b3_43 A W 48 hf)
  apply oc0; intro A W hx hf
  exact ok_move (q0 ?b3_44 A W 49 hf)
  refine ocg 50 ?_ (fun A W hx hf => ?_) ?_
  rfl
  exact gd_f (q1 ?b3_44 A W 50 hf) (fun hc => ok_fieldS 8 tu75 (k := 7) rfl size26 rfl (o1 s1 hx (r0 hf)) rfl)
  refine ocg 50 ?_ (fun A W hx hf => ?_) ?_
  rfl
  exact gd_f (q1 ?b3_44 A W 50 hf) (fun hc => ok_fieldS 8 tu26 (k := 0) rfl size4 rfl (G.get (q0 ?b3_46 A W 51 hf) hc) rfl)
  refine ocg 50 ?_ (fun A W hx hf => ?_) ?_
  rfl
  exact gd_f (q1 ?b3_44 A W 50 hf) (fun hc => ok_loadS tu4 rfl (G.get (q0 ?b3_47 A W 52 hf) hc) rfl)
  refine ocg 50 ?_ (fun A W hx hf => ?_) ?_
  rfl
  exact gd_f (q1 ?b3_44 A W 50 hf) (fun hc => ok_not (G.get (q0 ?b3_48 A W 53 hf) hc))
  apply oc0; intro A W hx hf
  exact ok_or (q0 ?b3_44 A W 50 hf) (q1 ?b3_49 A W 54 hf)
  exact onn
 case t3 => repeat (first | exact stb_nil | refine stb_cons ?_)
 clear hr; intro a4 w4 x hr hd hs
 revert s1; refine kp1 hs rfl ?_; intro s1
 have s55 := fa ?b3_50 a4 w4 55 (hd 50 55 rfl)
 replace e_w := e_w.trans x
 have e_w2 := x; clear hd hs x
 refine et ?_
 refine wp_cond_split (show _ = _ from s55) (fun hr9 => ?_) (fun hr9 => ?_)
 ·
  have hr9 : sixRight H = false := by have q9 := six_right H; rw [hr9] at q9; simpa using q9.symm
  refine sq ?_
  refine wp_reg 82 [[], []] [?b6_0, ?b6_1] mixed hr ?t6 ?o6 ?_
  case o6 =>
   apply oc0; intro A W hx hf
   exact ok_assignv (OwnBA 0 w.heap.size 5 []) (fun _ => ownBA_nil)
   apply oc0; intro A W hx hf
   exact ok_assignc
   exact onn
  case t6 => exact inferInstance
  clear hr; intro a7 w7 x hr hd hs
  clear s1 s55
  have s2 := fa ?b6_0 a7 w7 2 (hd 0 2 rfl)
  have s3 := fa ?b6_1 a7 w7 3 (hd 1 3 rfl)
  replace e_w := e_w.trans x
  clear e_w2; clear hd hs x
  refine et ?_
  refine wp_ret ?_
  refine then_ret ?_
  refine ret_tmp2 Try.results33 hr e_w ?_
  first | exact ⟨_, _, rfl, OwnB.cast (OwnB.mono s2.own hB) (by unfold sixPutR; rw [if_neg (by rw [hr9]; decide)]), Is.int s3 (by unfold sixPutR; rw [if_neg (by rw [hr9]; decide)])⟩ | exact ⟨_, _, rfl, OwnB.cast (OwnB.mono s2.own hB) (by unfold sixPutR; rw [if_pos hr9]; simp [sixPut]), Is.int s3 (by unfold sixPutR; rw [if_pos hr9])⟩
 have hr9 : sixRight H = true := by have q9 := six_right H; rw [hr9] at q9; simpa using q9.symm
 obtain ⟨k1, k2, k3, k4, k5, k6, k7, k8, k9⟩ := sixRight_bd hr9
 refine wp_skip ?_
 refine es ?_
 refine wp_reg 82 [[], [(56, some 0)]] [?b8_0, ?b8_0] mixed hr ?t8 ?o8 ?_
 case o8 =>
  apply oc0; intro A W hx hf
  exact ok_ownBs [(.const (.int .u8 96)), (.const (.int .u8 0)), (.const (.int .u8 0)), (.const (.int .u8 0))] [_, _, _, _] tu22 size5 zero5 rfl rfl (by decide) hx.size (PartsOk.cons (show ByteIs 96 _ _ from rfl) (PartsOk.cons (show ByteIs 0 _ _ from rfl) (PartsOk.cons (show ByteIs 0 _ _ from rfl) (PartsOk.cons (show ByteIs 0 _ _ from rfl) (PartsOk.nil)))))
  apply oc0; intro A W hx hf
  exact ok_assign (q0 ?b8_0 A W 56 hf)
  exact onn
 case t8 => exact inferInstance
 clear hr; intro a9 w9 x hr hd hs
 have z_w_w4 := e_w.size
 have z_w2_w4 := e_w2.size
 have l9_1 := PxS.lt (later e_w2 s1)
 revert s1; refine kp1 hs rfl ?_; intro s1
 clear s55
 have s4 := fa ?b8_0 a9 w9 4 (hd 1 4 rfl)
 obtain ⟨g9_4, q9_4⟩ := OwnB.at s4; clear s4; have n9_4 := OwnBA.lt q9_4
 replace q9_4 := OwnBA.mono q9_4 e_w.size
 have s4 := q9_4; clear q9_4
 replace e_w := e_w.trans x
 replace e_w2 := e_w2.trans x; clear hd hs x
 refine es ?_
 refine wp_reg_pre (l := [_, _, _, _, _, _]) (rest := [_, _]) 82 [[(4, none)], [(1, none)], [(58, some 1)], [(59, some 2)], [(60, some 3)], [(61, some 4)]] [?b10_0, ?b10_1, ?b10_2, ?b10_3, ?b10_4, ?b10_5] hr ?t10 ?o10 ?_
 case o10 =>
  apply oc0; intro A W hx hf
  exact ok_movE (a0 := a9) (r0 hf)
  apply oc0; intro A W hx hf
  exact ok_fieldS 1 tu75 (k := 1) rfl size3 rfl (o2 s1 e_w2 hx (r0 hf)) rfl
  apply oc0; intro A W hx hf
  exact ok_loadS tu3 rfl (q0 ?b10_1 A W 58 hf) rfl
  apply oc0; intro A W hx hf
  exact ok_subI (q0 ?b10_2 A W 59 hf) (ec A (.int .i64 40)) (by omega)
  apply oc0; intro A W hx hf
  exact ok_convI tu3 tu105 (by exact IntWalk.u64_in _ (by omega)) (q0 ?b10_3 A W 60 hf)
  apply oc0; intro A W hx hf
  exact ok_call3 body59 (c_Put (q0 ?b10_4 A W 61 hf) (show Is (.int .i64 2) (A.eval (.const (.int .i64 2))) _ from rfl) (show Is (.bool true) (A.eval (.const (.bool true))) _ from rfl) (by omega) hx.size)
  exact onn
 case t10 => exact inferInstance
 clear hr; intro a11 w11 x hr hd hs
 have z_w_w9 := e_w.size
 have z_w2_w9 := e_w2.size
 have l11_1 := PxS.lt (later e_w2 s1)
 have l11_4 := OwnBA.lt s4
 have u57 := mv s4 (fa ?b10_0 a11 w11 57 (hd 0 57 rfl))
 revert s4; revert s1; refine kp2 hs rfl ?_; intro s1 s4
 have s57 := u57; clear u57
 have s62 := fa ?b10_5 a11 w11 62 (hd 5 62 rfl)
 obtain ⟨g11_62, q11_62⟩ := OwnB.at s62; clear s62; have n11_62 := OwnBA.lt q11_62
 replace q11_62 := OwnBA.mono q11_62 e_w.size
 have s62 := q11_62; clear q11_62
 replace e_w := e_w.trans x
 replace e_w2 := e_w2.trans x
 have e_w9 := x; clear hd hs x
 have l12 := OwnBA.lt (later e_w9 s57)
 have l12_1 := PxS.lt (later e_w2 s1)
 refine wl_append_bsA hr (by decide) tu22 info5 rfl (later e_w9 s57) (OwnBA.bs s62) e_w.size (by first | (simp [put2_len]; done) | (simp [put2_len]; omega)) ?_; clear hr; intro g12 a12 w12 hg12 hc hr hd hs
 have hb := hc.below e_w.size l12.1
 revert s1; refine kp1 hs rfl ?_; intro s1
 clear s4 s57 s62
 replace s1 := PxS.other (later e_w2 s1) hc (by omega)
 have s63 := hd
 replace e_w := e_w.below (Nat.le_refl _) hb
 clear e_w2
 clear e_w9
 clear hd hs hb hc
 refine wl_op hr (ok_assign s63) inferInstance ?_; clear hr; intro a13 w13 x hr hd hs
 revert s1; refine kp1 hs rfl ?_; intro s1
 clear s63
 have s4 := hd 4 rfl (by decide)
 replace e_w := e_w.trans x
 have e_w12 := x; clear hd hs x
 refine wpList_nil ?_
 refine es ?_
 refine wp_reg_pre (l := [_, _, _, _, _, _, _, _]) (rest := [_, _]) 82 [[(4, none)], [(1, none)], [(65, some 1)], [(66, some 2)], [(1, none)], [(68, some 4)], [(69, some 5)], [(67, some 3), (70, some 6)]] [?b14_0, ?b14_1, ?b14_2, ?b14_3, ?b14_4, ?b14_5, ?b14_6, ?b14_7] hr ?t14 ?o14 ?_
 case o14 =>
  apply oc0; intro A W hx hf
  exact ok_movE (a0 := a13) (r0 hf)
  apply oc0; intro A W hx hf
  exact ok_fieldS 5 tu75 (k := 5) rfl size3 rfl (o2 s1 e_w12 hx (r0 hf)) rfl
  apply oc0; intro A W hx hf
  exact ok_loadS tu3 rfl (q0 ?b14_1 A W 65 hf) rfl
  apply oc0; intro A W hx hf
  exact ok_conv8 tu3 tu5 (q0 ?b14_2 A W 66 hf)
  apply oc0; intro A W hx hf
  exact ok_fieldS 2 tu75 (k := 2) rfl size3 rfl (o2 s1 e_w12 hx (r0 hf)) rfl
  apply oc0; intro A W hx hf
  exact ok_loadS tu3 rfl (q0 ?b14_4 A W 68 hf) rfl
  apply oc0; intro A W hx hf
  exact ok_conv8 tu3 tu5 (q0 ?b14_5 A W 69 hf)
  apply oc0; intro A W hx hf
  exact ok_buildBs [(.tmp 67), (.tmp 70)] [_, _] tu22 size5 zero5 rfl rfl (by decide) (PartsOk.cons (q0 ?b14_3 A W 67 hf) (PartsOk.cons (q1 ?b14_6 A W 70 hf) (PartsOk.nil)))
  exact onn
 case t14 => exact inferInstance
 clear hr; intro a15 w15 x hr hd hs
 have u64 := mv s4 (fa ?b14_0 a15 w15 64 (hd 0 64 rfl))
 revert s4; revert s1; refine kp2 hs rfl ?_; intro s1 s4
 have s64 := u64; clear u64
 have s71 := fa ?b14_7 a15 w15 71 (hd 7 71 rfl)
 replace e_w := e_w.trans x
 replace e_w12 := e_w12.trans x
 have e_w13 := x; clear hd hs x
 have l16 := OwnBA.lt (later e_w13 s64)
 have l16_1 := PxS.lt (later e_w12 s1)
 refine wl_append_bsA hr (by decide) tu22 info5 rfl (later e_w13 s64) s71 e_w.size (by first | (simp [put2_len]; done) | (simp [put2_len]; omega)) ?_; clear hr; intro g16 a16 w16 hg16 hc hr hd hs
 have hb := hc.below e_w.size l16.1
 revert s1; refine kp1 hs rfl ?_; intro s1
 clear s4 s64 s71
 replace s1 := PxS.other (later e_w12 s1) hc (by omega)
 have s72 := hd
 replace e_w := e_w.below (Nat.le_refl _) hb
 clear e_w12
 clear e_w13
 clear hd hs hb hc
 refine wl_op hr (ok_assign s72) inferInstance ?_; clear hr; intro a17 w17 x hr hd hs
 revert s1; refine kp1 hs rfl ?_; intro s1
 clear s72
 have s4 := hd 4 rfl (by decide)
 replace e_w := e_w.trans x
 have e_w16 := x; clear hd hs x
 refine wpList_nil ?_
 refine es ?_
 refine wp_reg 82 [[(4, none)], [(1, none)], [(74, some 1)], [(75, some 2)], [(1, none)], [(77, some 4)], [(78, some 5)], [(73, some 0), (76, some 3), (79, some 6)], [(80, some 7)], [(81, some 8)], []] [?b18_0, ?b18_1, ?b18_2, ?b18_3, ?b18_4, ?b18_5, ?b18_6, ?b18_7, ?b18_8, ?b18_8, ?b18_10] mixed hr ?t18 ?o18 ?_
 case o18 =>
  apply oc0; intro A W hx hf
  exact ok_movE (a0 := a17) (r0 hf)
  apply oc0; intro A W hx hf
  exact ok_fieldS 6 tu75 (k := 6) rfl size26 rfl (o2 s1 e_w16 hx (r0 hf)) rfl
  apply oc0; intro A W hx hf
  exact ok_fieldS 7 tu26 (k := 1) rfl size24 rfl (q0 ?b18_1 A W 74 hf) rfl
  apply oc0; intro A W hx hf
  exact ok_sliceS tu24 size5 (q0 ?b18_2 A W 75 hf) rfl
  apply oc0; intro A W hx hf
  exact ok_fieldS 8 tu75 (k := 7) rfl size26 rfl (o2 s1 e_w16 hx (r0 hf)) rfl
  apply oc0; intro A W hx hf
  exact ok_fieldS 9 tu26 (k := 1) rfl size24 rfl (q0 ?b18_4 A W 77 hf) rfl
  apply oc0; intro A W hx hf
  exact ok_sliceS tu24 size5 (q0 ?b18_5 A W 78 hf) rfl
  apply oc0; intro A W hx hf
  exact ok_buildBss [(.tmp 73), (.tmp 76), (.tmp 79)] [_, _, _] tu107 size22 zero22 rfl rfl (by decide) (PartsOk.cons (OwnBA.bs (p1 s4 hx (q0 ?b18_0 A W 73 hf))) (PartsOk.cons (SxS.all (q1 ?b18_3 A W 76 hf) rfl (by decide)) (PartsOk.cons (SxS.all (q2 ?b18_6 A W 79 hf) rfl (by decide)) (PartsOk.nil))))
  apply oc0; intro A W hx hf
  exact ok_call1 body34 (c_concat (q0 ?b18_7 A W 80 hf) hx.size (by simp [put2_len, hs16, hd16]))
  apply oc0; intro A W hx hf
  exact ok_assign (q0 ?b18_8 A W 81 hf)
  apply oc0; intro A W hx hf
  exact ok_assignc
  exact onn
 case t18 => exact inferInstance
 clear hr; intro a19 w19 x hr hd hs
 have z_w_w17 := e_w.size
 have z_w16_w17 := e_w16.size
 have l19_1 := PxS.lt (later e_w16 s1)
 have l19_4 := OwnBA.lt s4
 clear s1 s4
 have s2 := fa ?b18_8 a19 w19 2 (hd 9 2 rfl)
 have s3 := fa ?b18_10 a19 w19 3 (hd 10 3 rfl)
 obtain ⟨g19_2, q19_2⟩ := OwnB.at s2; clear s2; have n19_2 := OwnBA.lt q19_2
 replace q19_2 := OwnBA.mono q19_2 e_w.size
 have s2 := q19_2; clear q19_2
 replace e_w := e_w.trans x
 clear e_w16; clear hd hs x
 refine et ?_
 refine wp_ret ?_
 refine ret_tmp2 Try.results33 hr e_w ?_
 first | exact ⟨_, _, rfl, OwnB.cast (OwnB.mono s2.own hB) (by unfold sixPutR; rw [if_neg (by rw [hr9]; decide)]), Is.int s3 (by unfold sixPutR; rw [if_neg (by rw [hr9]; decide)])⟩ | exact ⟨_, _, rfl, OwnB.cast (OwnB.mono s2.own hB) (by unfold sixPutR; rw [if_pos hr9]; simp [sixPut]), Is.int s3 (by unfold sixPutR; rw [if_pos hr9])⟩

end Go.Proofs.Ytpjpfmnnefgnbaa
