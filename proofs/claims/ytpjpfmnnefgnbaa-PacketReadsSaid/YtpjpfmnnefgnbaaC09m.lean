import Derived.Test.YtpjpfmnnefgnbaaC09
namespace Go.Proofs.Ytpjpfmnnefgnbaa
open Go.RowKit
set_option linter.unusedVariables false
set_option linter.unusedSimpArgs false
set_option maxRecDepth 4000
theorem c_xPut {x0 : Value} {w : World} {H : SixL} {B : Nat} (h0 : (Is (SixV H)) x0 w) (hH : SixOk H) (hB : B ≤ w.heap.size) :
    Calls Try.prog 33 #[x0] w (Ret (Tup2 (OwnB B 5 (sixPutR H).1) (Is (.int .i64 (sixPutR H).2))) w) := by
 have hs16 := hH.1
 have hd16 := hH.2
 refine enter Try.func33 rfl Try.ntmps33 (k := 1) rfl (by decide) (fun a0 hr hargs => ?_)
 have s0 := sarg h0 (hargs 0 (by decide))
 clear hargs
 refine wp_seq ?_
 refine wp_reg 82 [[(0, none)], [], []] [?b1_0, ?b1_1, ?b1_2] mixed hr ?t1 ?o1 ?_
 case o1 =>
  refine oc0 (fun A W hx hf => ?_) ?_
  exact ok_boxS (sixS2 H) [1, 1, 1, 1, 1, 1, 1, 16, 1, 16] (Is.conv (o1 s0 hx (r0 hf)) (show _ = Value.agg (sixS2 H).flatten.toArray from by rw [six_seg]; rfl)) (by exact sixS2_lens hH) hx.size
  refine oc0 (fun A W hx hf => ?_) ?_
  exact ok_assignv (OwnBA 0 w.heap.size 5 []) (fun _ => ownBA_nil)
  refine oc0 (fun A W hx hf => ?_) ?_
  exact ok_assignc
  exact OpsOk.nil
 case t1 => exact inferInstance
 clear hr; intro a2 w2 x hr hd hs
 clear s0
 have s1 := fa ?b1_0 a2 w2 1 (hd 0 1 rfl)
 obtain ⟨g2_1, q2_1⟩ := PxN.at s1; clear s1; have n2_1 := PxS.lt q2_1
 have s1 := q2_1; clear q2_1
 have e_w := x
 clear hd hs x
 refine exit_then ?_
 refine wp_seq ?_
 refine wp_seq ?_
 refine wp_reg 82 ([(1, none)] :: [(5, some 0)] :: [(6, some 1)] :: [(7, some 2)] :: [(1, none), (8, some 3)] :: [(9, some 4), (8, some 3)] :: [(10, some 5), (8, some 3)] :: [(8, some 3), (11, some 6)] :: [(12, some 7)] :: [(1, none), (13, some 8)] :: [(14, some 9), (13, some 8)] :: [(15, some 10), (13, some 8)] :: [(13, some 8), (16, some 11)] :: [(17, some 12)] :: [(1, none), (18, some 13)] :: [(19, some 14), (18, some 13)] :: [(20, some 15), (18, some 13)] :: [(21, some 16), (18, some 13)] :: [(18, some 13), (22, some 17)] :: [(23, some 18)] :: [(1, none), (24, some 19)] :: [(25, some 20), (24, some 19)] :: [(26, some 21), (24, some 19)] :: [(27, some 22), (24, some 19)] :: [(24, some 19), (28, some 23)] :: [(29, some 24)] :: [(1, none), (30, some 25)] :: [(31, some 26), (30, some 25)] :: [(30, some 25), (32, some 27)] :: [(33, some 28)] :: [(1, none), (34, some 29)] :: [(35, some 30), (34, some 29)] :: [(36, some 31), (34, some 29)] :: [(34, some 29), (37, some 32)] :: [(38, some 33)] :: [(1, none), (39, some 34)] :: [(40, some 35), (39, some 34)] :: [(41, some 36), (39, some 34)] :: [(39, some 34), (42, some 37)] :: [(43, some 38)] :: [(1, none), (44, some 39)] :: [(45, some 40), (44, some 39)] :: [(46, some 41), (44, some 39)] :: [(47, some 42), (44, some 39)] :: [(44, some 39), (48, some 43)] :: [(49, some 44)] :: [(1, none), (50, some 45)] :: [(51, some 46), (50, some 45)] :: [(52, some 47), (50, some 45)] :: [(53, some 48), (50, some 45)] :: [(50, some 45), (54, some 49)] :: []) (?b3_0 :: ?b3_1 :: ?b3_2 :: ?b3_2 :: ?b3_4 :: ?b3_5 :: ?b3_6 :: ?b3_7 :: ?b3_7 :: ?b3_9 :: ?b3_10 :: ?b3_11 :: ?b3_12 :: ?b3_12 :: ?b3_14 :: ?b3_15 :: ?b3_16 :: ?b3_17 :: ?b3_18 :: ?b3_18 :: ?b3_20 :: ?b3_21 :: ?b3_22 :: ?b3_23 :: ?b3_24 :: ?b3_24 :: ?b3_26 :: ?b3_27 :: ?b3_28 :: ?b3_28 :: ?b3_30 :: ?b3_31 :: ?b3_32 :: ?b3_33 :: ?b3_33 :: ?b3_35 :: ?b3_36 :: ?b3_37 :: ?b3_38 :: ?b3_38 :: ?b3_40 :: ?b3_41 :: ?b3_42 :: ?b3_43 :: ?b3_44 :: ?b3_44 :: ?b3_46 :: ?b3_47 :: ?b3_48 :: ?b3_49 :: ?b3_50 :: []) mixed hr ?t3 ?o3 ?_
 case o3 =>
  refine oc0 (fun A W hx hf => ?_) ?_
  exact ok_fieldS 0 Try.underlying75 (k := 0) rfl size3 rfl (o1 s1 hx (r0 hf)) rfl
  refine oc0 (fun A W hx hf => ?_) ?_
  exact ok_loadS Try.underlying3 rfl (q0 ?b3_0 A W 5 hf) rfl
  refine oc0 (fun A W hx hf => ?_) ?_
  exact ok_neq (q0 ?b3_1 A W 6 hf) (ec A (.int .i64 40))
  refine oc0 (fun A W hx hf => ?_) ?_
  exact ok_move (q0 ?b3_2 A W 7 hf)
  refine ocg 8 ?_ (fun A W hx hf => ?_) ?_
  rfl
  exact gd_f (q1 ?b3_2 A W 8 hf) (fun hc => ok_fieldS 1 Try.underlying75 (k := 1) rfl size3 rfl (o1 s1 hx (r0 hf)) rfl)
  refine ocg 8 ?_ (fun A W hx hf => ?_) ?_
  rfl
  exact gd_f (q1 ?b3_2 A W 8 hf) (fun hc => ok_loadS Try.underlying3 rfl (G.get (q0 ?b3_4 A W 9 hf) hc) rfl)
  refine ocg 8 ?_ (fun A W hx hf => ?_) ?_
  rfl
  exact gd_f (q1 ?b3_2 A W 8 hf) (fun hc => ok_lss (G.get (q0 ?b3_5 A W 10 hf) hc) (ec A (.int .i64 40)))
  refine oc0 (fun A W hx hf => ?_) ?_
  exact ok_or (q0 ?b3_2 A W 8 hf) (q1 ?b3_6 A W 11 hf)
  refine oc0 (fun A W hx hf => ?_) ?_
  exact ok_move (q0 ?b3_7 A W 12 hf)
  refine ocg 13 ?_ (fun A W hx hf => ?_) ?_
  rfl
  exact gd_f (q1 ?b3_7 A W 13 hf) (fun hc => ok_fieldS 1 Try.underlying75 (k := 1) rfl size3 rfl (o1 s1 hx (r0 hf)) rfl)
  refine ocg 13 ?_ (fun A W hx hf => ?_) ?_
  rfl
  exact gd_f (q1 ?b3_7 A W 13 hf) (fun hc => ok_loadS Try.underlying3 rfl (G.get (q0 ?b3_9 A W 14 hf) hc) rfl)
  refine ocg 13 ?_ (fun A W hx hf => ?_) ?_
  rfl
  exact gd_f (q1 ?b3_7 A W 13 hf) (fun hc => ok_gtr (G.get (q0 ?b3_10 A W 15 hf) hc) (ec A (.int .i64 65575)))
  refine oc0 (fun A W hx hf => ?_) ?_
  exact ok_or (q0 ?b3_7 A W 13 hf) (q1 ?b3_11 A W 16 hf)
  refine oc0 (fun A W hx hf => ?_) ?_
  exact ok_move (q0 ?b3_12 A W 17 hf)
  refine ocg 18 ?_ (fun A W hx hf => ?_) ?_
  rfl
  exact gd_f (q1 ?b3_12 A W 18 hf) (fun hc => ok_fieldS 2 Try.underlying75 (k := 2) rfl size3 rfl (o1 s1 hx (r0 hf)) rfl)
  refine ocg 18 ?_ (fun A W hx hf => ?_) ?_
  rfl
  exact gd_f (q1 ?b3_12 A W 18 hf) (fun hc => ok_loadS Try.underlying3 rfl (G.get (q0 ?b3_14 A W 19 hf) hc) rfl)
  refine ocg 18 ?_ (fun A W hx hf => ?_) ?_
  rfl
  exact gd_f (q1 ?b3_12 A W 18 hf) (fun hc => ok_call1 body62 (c_xin (G.get (q0 ?b3_15 A W 20 hf) hc)))
  refine ocg 18 ?_ (fun A W hx hf => ?_) ?_
  rfl
  exact gd_f (q1 ?b3_12 A W 18 hf) (fun hc => ok_not (G.get (q0 ?b3_16 A W 21 hf) hc))
  refine oc0 (fun A W hx hf => ?_) ?_
  exact ok_or (q0 ?b3_12 A W 18 hf) (q1 ?b3_17 A W 22 hf)
  refine oc0 (fun A W hx hf => ?_) ?_
  exact ok_move (q0 ?b3_18 A W 23 hf)
  refine ocg 24 ?_ (fun A W hx hf => ?_) ?_
  rfl
  exact gd_f (q1 ?b3_18 A W 24 hf) (fun hc => ok_fieldS 5 Try.underlying75 (k := 5) rfl size3 rfl (o1 s1 hx (r0 hf)) rfl)
  refine ocg 24 ?_ (fun A W hx hf => ?_) ?_
  rfl
  exact gd_f (q1 ?b3_18 A W 24 hf) (fun hc => ok_loadS Try.underlying3 rfl (G.get (q0 ?b3_20 A W 25 hf) hc) rfl)
  refine ocg 24 ?_ (fun A W hx hf => ?_) ?_
  rfl
  exact gd_f (q1 ?b3_18 A W 24 hf) (fun hc => ok_call1 body62 (c_xin (G.get (q0 ?b3_21 A W 26 hf) hc)))
  refine ocg 24 ?_ (fun A W hx hf => ?_) ?_
  rfl
  exact gd_f (q1 ?b3_18 A W 24 hf) (fun hc => ok_not (G.get (q0 ?b3_22 A W 27 hf) hc))
  refine oc0 (fun A W hx hf => ?_) ?_
  exact ok_or (q0 ?b3_18 A W 24 hf) (q1 ?b3_23 A W 28 hf)
  refine oc0 (fun A W hx hf => ?_) ?_
  exact ok_move (q0 ?b3_24 A W 29 hf)
  refine ocg 30 ?_ (fun A W hx hf => ?_) ?_
  rfl
  exact gd_f (q1 ?b3_24 A W 30 hf) (fun hc => ok_fieldS 3 Try.underlying75 (k := 3) rfl size4 rfl (o1 s1 hx (r0 hf)) rfl)
  refine ocg 30 ?_ (fun A W hx hf => ?_) ?_
  rfl
  exact gd_f (q1 ?b3_24 A W 30 hf) (fun hc => ok_loadS Try.underlying4 rfl (G.get (q0 ?b3_26 A W 31 hf) hc) rfl)
  refine oc0 (fun A W hx hf => ?_) ?_
  exact ok_or (q0 ?b3_24 A W 30 hf) (q1 ?b3_27 A W 32 hf)
  refine oc0 (fun A W hx hf => ?_) ?_
  exact ok_move (q0 ?b3_28 A W 33 hf)
  refine ocg 34 ?_ (fun A W hx hf => ?_) ?_
  rfl
  exact gd_f (q1 ?b3_28 A W 34 hf) (fun hc => ok_fieldS 4 Try.underlying75 (k := 4) rfl size3 rfl (o1 s1 hx (r0 hf)) rfl)
  refine ocg 34 ?_ (fun A W hx hf => ?_) ?_
  rfl
  exact gd_f (q1 ?b3_28 A W 34 hf) (fun hc => ok_loadS Try.underlying3 rfl (G.get (q0 ?b3_30 A W 35 hf) hc) rfl)
  refine ocg 34 ?_ (fun A W hx hf => ?_) ?_
  rfl
  exact gd_f (q1 ?b3_28 A W 34 hf) (fun hc => ok_neq (G.get (q0 ?b3_31 A W 36 hf) hc) (ec A (.int .i64 0)))
  refine oc0 (fun A W hx hf => ?_) ?_
  exact ok_or (q0 ?b3_28 A W 34 hf) (q1 ?b3_32 A W 37 hf)
  refine oc0 (fun A W hx hf => ?_) ?_
  exact ok_move (q0 ?b3_33 A W 38 hf)
  refine ocg 39 ?_ (fun A W hx hf => ?_) ?_
  rfl
  exact gd_f (q1 ?b3_33 A W 39 hf) (fun hc => ok_fieldS 5 Try.underlying75 (k := 5) rfl size3 rfl (o1 s1 hx (r0 hf)) rfl)
  refine ocg 39 ?_ (fun A W hx hf => ?_) ?_
  rfl
  exact gd_f (q1 ?b3_33 A W 39 hf) (fun hc => ok_loadS Try.underlying3 rfl (G.get (q0 ?b3_35 A W 40 hf) hc) rfl)
  refine ocg 39 ?_ (fun A W hx hf => ?_) ?_
  rfl
  exact gd_f (q1 ?b3_33 A W 39 hf) (fun hc => ok_call1 body63 (c_xext (G.get (q0 ?b3_36 A W 41 hf) hc)))
  refine oc0 (fun A W hx hf => ?_) ?_
  exact ok_or (q0 ?b3_33 A W 39 hf) (q1 ?b3_37 A W 42 hf)
  refine oc0 (fun A W hx hf => ?_) ?_
  exact ok_move (q0 ?b3_38 A W 43 hf)
  refine ocg 44 ?_ (fun A W hx hf => ?_) ?_
  rfl
  exact gd_f (q1 ?b3_38 A W 44 hf) (fun hc => ok_fieldS 6 Try.underlying75 (k := 6) rfl size26 rfl (o1 s1 hx (r0 hf)) rfl)
  refine ocg 44 ?_ (fun A W hx hf => ?_) ?_
  rfl
  exact gd_f (q1 ?b3_38 A W 44 hf) (fun hc => ok_fieldS 6 Try.underlying26 (k := 0) rfl size4 rfl (G.get (q0 ?b3_40 A W 45 hf) hc) rfl)
  refine ocg 44 ?_ (fun A W hx hf => ?_) ?_
  rfl
  exact gd_f (q1 ?b3_38 A W 44 hf) (fun hc => ok_loadS Try.underlying4 rfl (G.get (q0 ?b3_41 A W 46 hf) hc) rfl)
  refine ocg 44 ?_ (fun A W hx hf => ?_) ?_
  rfl
  exact gd_f (q1 ?b3_38 A W 44 hf) (fun hc => ok_not (G.get (q0 ?b3_42 A W 47 hf) hc))
  refine oc0 (fun A W hx hf => ?_) ?_
  exact ok_or (q0 ?b3_38 A W 44 hf) (q1 ?b3_43 A W 48 hf)
  refine oc0 (fun A W hx hf => ?_) ?_
  exact ok_move (q0 ?b3_44 A W 49 hf)
  refine ocg 50 ?_ (fun A W hx hf => ?_) ?_
  rfl
  exact gd_f (q1 ?b3_44 A W 50 hf) (fun hc => ok_fieldS 8 Try.underlying75 (k := 7) rfl size26 rfl (o1 s1 hx (r0 hf)) rfl)
  refine ocg 50 ?_ (fun A W hx hf => ?_) ?_
  rfl
  exact gd_f (q1 ?b3_44 A W 50 hf) (fun hc => ok_fieldS 8 Try.underlying26 (k := 0) rfl size4 rfl (G.get (q0 ?b3_46 A W 51 hf) hc) rfl)
  refine ocg 50 ?_ (fun A W hx hf => ?_) ?_
  rfl
  exact gd_f (q1 ?b3_44 A W 50 hf) (fun hc => ok_loadS Try.underlying4 rfl (G.get (q0 ?b3_47 A W 52 hf) hc) rfl)
  refine ocg 50 ?_ (fun A W hx hf => ?_) ?_
  rfl
  exact gd_f (q1 ?b3_44 A W 50 hf) (fun hc => ok_not (G.get (q0 ?b3_48 A W 53 hf) hc))
  refine oc0 (fun A W hx hf => ?_) ?_
  exact ok_or (q0 ?b3_44 A W 50 hf) (q1 ?b3_49 A W 54 hf)
  exact OpsOk.nil
 case t3 => repeat (first | exact stb_nil | refine stb_cons ?_)
 clear hr; intro a4 w4 x hr hd hs
 revert s1; refine kp1 hs rfl ?_; intro s1
 have s55 := fa ?b3_50 a4 w4 55 (hd 50 55 rfl)
 replace e_w := e_w.trans x
 have e_w2 := x
 clear hd hs x
 refine exit_then ?_
 refine wp_cond_split (show _ = _ from s55) (fun hr9 => ?_) (fun hr9 => ?_)
 ·
  have hr9 : sixRight H = false := by have q9 := six_right H; rw [hr9] at q9; simpa using q9.symm
  refine wp_seq ?_
  refine wp_reg 82 [[], []] [?b6_0, ?b6_1] mixed hr ?t6 ?o6 ?_
  case o6 =>
   refine oc0 (fun A W hx hf => ?_) ?_
   exact ok_assignv (OwnBA 0 w.heap.size 5 []) (fun _ => ownBA_nil)
   refine oc0 (fun A W hx hf => ?_) ?_
   exact ok_assignc
   exact OpsOk.nil
  case t6 => exact inferInstance
  clear hr; intro a7 w7 x hr hd hs
  clear s1 s55
  have s2 := fa ?b6_0 a7 w7 2 (hd 0 2 rfl)
  have s3 := fa ?b6_1 a7 w7 3 (hd 1 3 rfl)
  replace e_w := e_w.trans x
  clear e_w2
  clear hd hs x
  refine exit_then ?_
  refine wp_ret ?_
  refine then_ret ?_
  refine ret_tmp2 Try.results33 hr e_w ?_
  first | exact ⟨_, _, rfl, OwnB.cast (OwnB.mono s2.own hB) (by unfold sixPutR; rw [if_neg (by rw [hr9]; decide)]), Is.int s3 (by unfold sixPutR; rw [if_neg (by rw [hr9]; decide)])⟩ | exact ⟨_, _, rfl, OwnB.cast (OwnB.mono s2.own hB) (by unfold sixPutR; rw [if_pos hr9]; simp [sixPut]), Is.int s3 (by unfold sixPutR; rw [if_pos hr9])⟩
 ·
  have hr9 : sixRight H = true := by have q9 := six_right H; rw [hr9] at q9; simpa using q9.symm
  obtain ⟨k1, k2, k3, k4, k5, k6, k7, k8, k9⟩ := sixRight_bd hr9
  refine wp_skip ?_
  refine exit_then ?_
  refine wp_seq ?_
  refine wp_reg 82 [[], [(56, some 0)]] [?b8_0, ?b8_0] mixed hr ?t8 ?o8 ?_
  case o8 =>
   refine oc0 (fun A W hx hf => ?_) ?_
   exact ok_ownBs [(.const (.int .u8 96)), (.const (.int .u8 0)), (.const (.int .u8 0)), (.const (.int .u8 0))] [_, _, _, _] Try.underlying22 size5 zero5 rfl rfl (by decide) hx.size (PartsOk.cons (show ByteIs 96 _ _ from rfl) (PartsOk.cons (show ByteIs 0 _ _ from rfl) (PartsOk.cons (show ByteIs 0 _ _ from rfl) (PartsOk.cons (show ByteIs 0 _ _ from rfl) (PartsOk.nil)))))
   refine oc0 (fun A W hx hf => ?_) ?_
   exact ok_assign (q0 ?b8_0 A W 56 hf)
   exact OpsOk.nil
  case t8 => exact inferInstance
  clear hr; intro a9 w9 x hr hd hs
  have z_w_w4 := e_w.size
  have z_w2_w4 := e_w2.size
  have l9_1 := PxS.lt (later e_w2 s1)
  revert s1; refine kp1 hs rfl ?_; intro s1
  clear s55
  have s4 := fa ?b8_0 a9 w9 4 (hd 1 4 rfl)
  obtain ⟨g9_4, q9_4⟩ := OwnB.at s4; clear s4; have n9_4 := OwnBA.lt q9_4
  replace q9_4 := OwnBA.mono q9_4 e_w.size
  have s4 := q9_4; clear q9_4
  replace e_w := e_w.trans x
  replace e_w2 := e_w2.trans x
  clear hd hs x
  refine exit_then ?_
  refine wp_seq ?_
  refine wp_reg_pre (l := [_, _, _, _, _, _]) (rest := [_, _]) 82 [[(4, none)], [(1, none)], [(58, some 1)], [(59, some 2)], [(60, some 3)], [(61, some 4)]] [?b10_0, ?b10_1, ?b10_2, ?b10_3, ?b10_4, ?b10_5] hr ?t10 ?o10 ?_
  case o10 =>
   refine oc0 (fun A W hx hf => ?_) ?_
   exact ok_movE (a0 := a9) (r0 hf)
   refine oc0 (fun A W hx hf => ?_) ?_
   exact ok_fieldS 1 Try.underlying75 (k := 1) rfl size3 rfl (o2 s1 e_w2 hx (r0 hf)) rfl
   refine oc0 (fun A W hx hf => ?_) ?_
   exact ok_loadS Try.underlying3 rfl (q0 ?b10_1 A W 58 hf) rfl
   refine oc0 (fun A W hx hf => ?_) ?_
   exact ok_subI (q0 ?b10_2 A W 59 hf) (ec A (.int .i64 40)) (by omega)
   refine oc0 (fun A W hx hf => ?_) ?_
   exact ok_convI Try.underlying3 Try.underlying105 (by exact IntWalk.u64_in _ (by omega)) (q0 ?b10_3 A W 60 hf)
   refine oc0 (fun A W hx hf => ?_) ?_
   exact ok_call3 body59 (c_Put (q0 ?b10_4 A W 61 hf) (show Is (.int .i64 2) (A.eval (.const (.int .i64 2))) _ from rfl) (show Is (.bool true) (A.eval (.const (.bool true))) _ from rfl) (by omega) hx.size)
   exact OpsOk.nil
  case t10 => exact inferInstance
  clear hr; intro a11 w11 x hr hd hs
  have z_w_w9 := e_w.size
  have z_w2_w9 := e_w2.size
  have l11_1 := PxS.lt (later e_w2 s1)
  have l11_4 := OwnBA.lt s4
  have u57 := mv s4 (fa ?b10_0 a11 w11 57 (hd 0 57 rfl))
  revert s4; revert s1; refine kp2 hs rfl ?_; intro s1 s4
  have s57 := u57; clear u57
  have s62 := fa ?b10_5 a11 w11 62 (hd 5 62 rfl)
  obtain ⟨g11_62, q11_62⟩ := OwnB.at s62; clear s62; have n11_62 := OwnBA.lt q11_62
  replace q11_62 := OwnBA.mono q11_62 e_w.size
  have s62 := q11_62; clear q11_62
  replace e_w := e_w.trans x
  replace e_w2 := e_w2.trans x
  have e_w9 := x
  clear hd hs x
  have l12 := OwnBA.lt (later e_w9 s57)
  have l12_1 := PxS.lt (later e_w2 s1)
  refine wl_append_bsA hr (by decide) Try.underlying22 info5 rfl (later e_w9 s57) (OwnBA.bs s62) e_w.size (by first | (simp [put2_len]; done) | (simp [put2_len]; omega)) ?_; clear hr; intro g12 a12 w12 hg12 hc hr hd hs
  have hb := hc.below e_w.size l12.1
  revert s1; refine kp1 hs rfl ?_; intro s1
  clear s4 s57 s62
  replace s1 := PxS.other (later e_w2 s1) hc (by omega)
  have s63 := hd
  replace e_w := e_w.below (Nat.le_refl _) hb
  clear e_w2
  clear e_w9
  clear hd hs hb hc
  refine wl_op hr (ok_assign s63) inferInstance ?_; clear hr; intro a13 w13 x hr hd hs
  revert s1; refine kp1 hs rfl ?_; intro s1
  clear s63
  have s4 := hd 4 rfl (by decide)
  replace e_w := e_w.trans x
  have e_w12 := x
  clear hd hs x
  refine wpList_nil ?_
  refine exit_then ?_
  refine wp_seq ?_
  refine wp_reg_pre (l := [_, _, _, _, _, _, _, _]) (rest := [_, _]) 82 [[(4, none)], [(1, none)], [(65, some 1)], [(66, some 2)], [(1, none)], [(68, some 4)], [(69, some 5)], [(67, some 3), (70, some 6)]] [?b14_0, ?b14_1, ?b14_2, ?b14_3, ?b14_4, ?b14_5, ?b14_6, ?b14_7] hr ?t14 ?o14 ?_
  case o14 =>
   refine oc0 (fun A W hx hf => ?_) ?_
   exact ok_movE (a0 := a13) (r0 hf)
   refine oc0 (fun A W hx hf => ?_) ?_
   exact ok_fieldS 5 Try.underlying75 (k := 5) rfl size3 rfl (o2 s1 e_w12 hx (r0 hf)) rfl
   refine oc0 (fun A W hx hf => ?_) ?_
   exact ok_loadS Try.underlying3 rfl (q0 ?b14_1 A W 65 hf) rfl
   refine oc0 (fun A W hx hf => ?_) ?_
   exact ok_conv8 Try.underlying3 Try.underlying5 (q0 ?b14_2 A W 66 hf)
   refine oc0 (fun A W hx hf => ?_) ?_
   exact ok_fieldS 2 Try.underlying75 (k := 2) rfl size3 rfl (o2 s1 e_w12 hx (r0 hf)) rfl
   refine oc0 (fun A W hx hf => ?_) ?_
   exact ok_loadS Try.underlying3 rfl (q0 ?b14_4 A W 68 hf) rfl
   refine oc0 (fun A W hx hf => ?_) ?_
   exact ok_conv8 Try.underlying3 Try.underlying5 (q0 ?b14_5 A W 69 hf)
   refine oc0 (fun A W hx hf => ?_) ?_
   exact ok_buildBs [(.tmp 67), (.tmp 70)] [_, _] Try.underlying22 size5 zero5 rfl rfl (by decide) (PartsOk.cons (q0 ?b14_3 A W 67 hf) (PartsOk.cons (q1 ?b14_6 A W 70 hf) (PartsOk.nil)))
   exact OpsOk.nil
  case t14 => exact inferInstance
  clear hr; intro a15 w15 x hr hd hs
  have u64 := mv s4 (fa ?b14_0 a15 w15 64 (hd 0 64 rfl))
  revert s4; revert s1; refine kp2 hs rfl ?_; intro s1 s4
  have s64 := u64; clear u64
  have s71 := fa ?b14_7 a15 w15 71 (hd 7 71 rfl)
  replace e_w := e_w.trans x
  replace e_w12 := e_w12.trans x
  have e_w13 := x
  clear hd hs x
  have l16 := OwnBA.lt (later e_w13 s64)
  have l16_1 := PxS.lt (later e_w12 s1)
  refine wl_append_bsA hr (by decide) Try.underlying22 info5 rfl (later e_w13 s64) s71 e_w.size (by first | (simp [put2_len]; done) | (simp [put2_len]; omega)) ?_; clear hr; intro g16 a16 w16 hg16 hc hr hd hs
  have hb := hc.below e_w.size l16.1
  revert s1; refine kp1 hs rfl ?_; intro s1
  clear s4 s64 s71
  replace s1 := PxS.other (later e_w12 s1) hc (by omega)
  have s72 := hd
  replace e_w := e_w.below (Nat.le_refl _) hb
  clear e_w12
  clear e_w13
  clear hd hs hb hc
  refine wl_op hr (ok_assign s72) inferInstance ?_; clear hr; intro a17 w17 x hr hd hs
  revert s1; refine kp1 hs rfl ?_; intro s1
  clear s72
  have s4 := hd 4 rfl (by decide)
  replace e_w := e_w.trans x
  have e_w16 := x
  clear hd hs x
  refine wpList_nil ?_
  refine exit_then ?_
  refine wp_seq ?_
  refine wp_reg 82 [[(4, none)], [(1, none)], [(74, some 1)], [(75, some 2)], [(1, none)], [(77, some 4)], [(78, some 5)], [(73, some 0), (76, some 3), (79, some 6)], [(80, some 7)], [(81, some 8)], []] [?b18_0, ?b18_1, ?b18_2, ?b18_3, ?b18_4, ?b18_5, ?b18_6, ?b18_7, ?b18_8, ?b18_8, ?b18_10] mixed hr ?t18 ?o18 ?_
  case o18 =>
   refine oc0 (fun A W hx hf => ?_) ?_
   exact ok_movE (a0 := a17) (r0 hf)
   refine oc0 (fun A W hx hf => ?_) ?_
   exact ok_fieldS 6 Try.underlying75 (k := 6) rfl size26 rfl (o2 s1 e_w16 hx (r0 hf)) rfl
   refine oc0 (fun A W hx hf => ?_) ?_
   exact ok_fieldS 7 Try.underlying26 (k := 1) rfl size24 rfl (q0 ?b18_1 A W 74 hf) rfl
   refine oc0 (fun A W hx hf => ?_) ?_
   exact ok_sliceS Try.underlying24 size5 (q0 ?b18_2 A W 75 hf) rfl
   refine oc0 (fun A W hx hf => ?_) ?_
   exact ok_fieldS 8 Try.underlying75 (k := 7) rfl size26 rfl (o2 s1 e_w16 hx (r0 hf)) rfl
   refine oc0 (fun A W hx hf => ?_) ?_
   exact ok_fieldS 9 Try.underlying26 (k := 1) rfl size24 rfl (q0 ?b18_4 A W 77 hf) rfl
   refine oc0 (fun A W hx hf => ?_) ?_
   exact ok_sliceS Try.underlying24 size5 (q0 ?b18_5 A W 78 hf) rfl
   refine oc0 (fun A W hx hf => ?_) ?_
   exact ok_buildBss [(.tmp 73), (.tmp 76), (.tmp 79)] [_, _, _] Try.underlying107 size22 zero22 rfl rfl (by decide) (PartsOk.cons (OwnBA.bs (p1 s4 hx (q0 ?b18_0 A W 73 hf))) (PartsOk.cons (SxS.all (q1 ?b18_3 A W 76 hf) rfl (by decide)) (PartsOk.cons (SxS.all (q2 ?b18_6 A W 79 hf) rfl (by decide)) (PartsOk.nil))))
   refine oc0 (fun A W hx hf => ?_) ?_
   exact ok_call1 body34 (c_concat (q0 ?b18_7 A W 80 hf) hx.size (by simp [put2_len, hs16, hd16]))
   refine oc0 (fun A W hx hf => ?_) ?_
   exact ok_assign (q0 ?b18_8 A W 81 hf)
   refine oc0 (fun A W hx hf => ?_) ?_
   exact ok_assignc
   exact OpsOk.nil
  case t18 => exact inferInstance
  clear hr; intro a19 w19 x hr hd hs
  have z_w_w17 := e_w.size
  have z_w16_w17 := e_w16.size
  have l19_1 := PxS.lt (later e_w16 s1)
  have l19_4 := OwnBA.lt s4
  clear s1 s4
  have s2 := fa ?b18_8 a19 w19 2 (hd 9 2 rfl)
  have s3 := fa ?b18_10 a19 w19 3 (hd 10 3 rfl)
  obtain ⟨g19_2, q19_2⟩ := OwnB.at s2; clear s2; have n19_2 := OwnBA.lt q19_2
  replace q19_2 := OwnBA.mono q19_2 e_w.size
  have s2 := q19_2; clear q19_2
  replace e_w := e_w.trans x
  clear e_w16
  clear hd hs x
  refine exit_then ?_
  refine wp_ret ?_
  refine ret_tmp2 Try.results33 hr e_w ?_
  first | exact ⟨_, _, rfl, OwnB.cast (OwnB.mono s2.own hB) (by unfold sixPutR; rw [if_neg (by rw [hr9]; decide)]), Is.int s3 (by unfold sixPutR; rw [if_neg (by rw [hr9]; decide)])⟩ | exact ⟨_, _, rfl, OwnB.cast (OwnB.mono s2.own hB) (by unfold sixPutR; rw [if_pos hr9]; simp [sixPut]), Is.int s3 (by unfold sixPutR; rw [if_pos hr9])⟩

theorem c_r9Ext {x0 : Value} {w : World} {p : Int} (h0 : (Is (.int .i64 p)) x0 w)  :
    Calls Try.prog 56 #[x0] w (Ret (Is (.bool (extB p))) w) := by
 refine enter Try.func56 rfl Try.ntmps56 (k := 1) rfl (by decide) (fun a0 hr hargs => ?_)
 have s0 := sarg h0 (hargs 0 (by decide))
 clear hargs
 refine wp_seq ?_
 refine wp_reg 21 [[]] [?b1_0] mixed hr ?t1 ?o1 ?_
 case o1 =>
  refine oc0 (fun A W hx hf => ?_) ?_
  exact ok_assignc
  exact OpsOk.nil
 case t1 => exact inferInstance
 clear hr; intro a2 w2 x hr hd hs
 revert s0; refine kp1 hs rfl ?_; intro s0
 have e_w := x
 clear hd hs x
 refine exit_then ?_
 refine wp_seq ?_
 refine wp_reg 21 [[(0, none)], [(3, some 0)], [(4, some 1)], [(0, none), (5, some 2)], [(6, some 3), (5, some 2)], [(5, some 2), (7, some 4)], [(8, some 5)], [(0, none), (9, some 6)], [(10, some 7), (9, some 6)], [(9, some 6), (11, some 8)], [(12, some 9)], [(0, none), (13, some 10)], [(14, some 11), (13, some 10)], [(13, some 10), (15, some 12)], [(16, some 13)], [(0, none), (17, some 14)], [(18, some 15), (17, some 14)], [(17, some 14), (19, some 16)], [(20, some 17)]] [?b3_0, ?b3_1, ?b3_1, ?b3_3, ?b3_4, ?b3_5, ?b3_5, ?b3_7, ?b3_8, ?b3_9, ?b3_9, ?b3_11, ?b3_12, ?b3_13, ?b3_13, ?b3_15, ?b3_16, ?b3_17, ?b3_17] mixed hr ?t3 ?o3 ?_
 case o3 =>
  refine oc0 (fun A W hx hf => ?_) ?_
  exact ok_movE (a0 := a2) (r0 hf)
  refine oc0 (fun A W hx hf => ?_) ?_
  exact ok_eql (p2 s0 e_w hx (q0 ?b3_0 A W 3 hf)) (ec A (.int .i64 0))
  refine oc0 (fun A W hx hf => ?_) ?_
  exact ok_move (q0 ?b3_1 A W 4 hf)
  refine ocg 5 ?_ (fun A W hx hf => ?_) ?_
  rfl
  exact gd_f (q1 ?b3_1 A W 5 hf) (fun hc => ok_movE (a0 := a2) (r0 hf))
  refine ocg 5 ?_ (fun A W hx hf => ?_) ?_
  rfl
  exact gd_f (q1 ?b3_1 A W 5 hf) (fun hc => ok_eql (p2 s0 e_w hx (G.get (q0 ?b3_3 A W 6 hf) hc)) (ec A (.int .i64 43)))
  refine oc0 (fun A W hx hf => ?_) ?_
  exact ok_or (q0 ?b3_1 A W 5 hf) (q1 ?b3_4 A W 7 hf)
  refine oc0 (fun A W hx hf => ?_) ?_
  exact ok_move (q0 ?b3_5 A W 8 hf)
  refine ocg 9 ?_ (fun A W hx hf => ?_) ?_
  rfl
  exact gd_f (q1 ?b3_5 A W 9 hf) (fun hc => ok_movE (a0 := a2) (r0 hf))
  refine ocg 9 ?_ (fun A W hx hf => ?_) ?_
  rfl
  exact gd_f (q1 ?b3_5 A W 9 hf) (fun hc => ok_eql (p2 s0 e_w hx (G.get (q0 ?b3_7 A W 10 hf) hc)) (ec A (.int .i64 60)))
  refine oc0 (fun A W hx hf => ?_) ?_
  exact ok_or (q0 ?b3_5 A W 9 hf) (q1 ?b3_8 A W 11 hf)
  refine oc0 (fun A W hx hf => ?_) ?_
  exact ok_move (q0 ?b3_9 A W 12 hf)
  refine ocg 13 ?_ (fun A W hx hf => ?_) ?_
  rfl
  exact gd_f (q1 ?b3_9 A W 13 hf) (fun hc => ok_movE (a0 := a2) (r0 hf))
  refine ocg 13 ?_ (fun A W hx hf => ?_) ?_
  rfl
  exact gd_f (q1 ?b3_9 A W 13 hf) (fun hc => ok_eql (p2 s0 e_w hx (G.get (q0 ?b3_11 A W 14 hf) hc)) (ec A (.int .i64 51)))
  refine oc0 (fun A W hx hf => ?_) ?_
  exact ok_or (q0 ?b3_9 A W 13 hf) (q1 ?b3_12 A W 15 hf)
  refine oc0 (fun A W hx hf => ?_) ?_
  exact ok_move (q0 ?b3_13 A W 16 hf)
  refine ocg 17 ?_ (fun A W hx hf => ?_) ?_
  rfl
  exact gd_f (q1 ?b3_13 A W 17 hf) (fun hc => ok_movE (a0 := a2) (r0 hf))
  refine ocg 17 ?_ (fun A W hx hf => ?_) ?_
  rfl
  exact gd_f (q1 ?b3_13 A W 17 hf) (fun hc => ok_eql (p2 s0 e_w hx (G.get (q0 ?b3_15 A W 18 hf) hc)) (ec A (.int .i64 44)))
  refine oc0 (fun A W hx hf => ?_) ?_
  exact ok_or (q0 ?b3_13 A W 17 hf) (q1 ?b3_16 A W 19 hf)
  refine oc0 (fun A W hx hf => ?_) ?_
  exact ok_assign (q0 ?b3_17 A W 20 hf)
  exact OpsOk.nil
 case t3 => exact inferInstance
 clear hr; intro a4 w4 x hr hd hs
 clear s0
 have s2 := fa ?b3_17 a4 w4 2 (hd 18 2 rfl)
 replace e_w := e_w.trans x
 clear hd hs x
 refine exit_then ?_
 refine wp_ret ?_
 refine ret_tmp Try.results56 hr e_w ?_
 exact Is.bool s2 rfl

theorem c_r9size {x0 x1 x2 : Value} {w : World} {p z : Int} {l : List UInt8} (h0 : (Is (.int .i64 p)) x0 w) (h1 : (Bs l) x1 w) (h2 : (Is (.int .i64 z)) x2 w) (he : extB p = true) (hz0 : 0 ≤ z) (hz1 : z.toNat + 1 < l.length) :
    Calls Try.prog 57 #[x0, x1, x2] w (Ret (Is (.int .i64 (sizeE p (byteAt l (z.toNat + 1))))) w) := by
 have hlen := Bs.len_le h1
 obtain ⟨q, rfl⟩ : ∃ q : Nat, z = (q : Int) := ⟨z.toNat, by omega⟩
 simp only [Int.toNat_natCast] at hz1 ⊢
 have e1 : (l[q + 1]'(by omega)).toNat = byteAt l (q + 1) := (byteAt_get (by omega)).symm
 have b1 := byteAt_bd l (q + 1)
 refine enter Try.func57 rfl Try.ntmps57 (k := 3) rfl (by decide) (fun a0 hr hargs => ?_)
 have s0 := sarg h0 (hargs 0 (by decide))
 have s1 := sarg h1 (hargs 1 (by decide))
 have s2 := sarg h2 (hargs 2 (by decide))
 clear hargs
 refine wp_seq ?_
 refine wp_reg 27 [[]] [?b1_0] mixed hr ?t1 ?o1 ?_
 case o1 =>
  refine oc0 (fun A W hx hf => ?_) ?_
  exact ok_assignc
  exact OpsOk.nil
 case t1 => exact inferInstance
 clear hr; intro a2 w2 x hr hd hs
 revert s2; revert s1; revert s0; refine kp3 hs rfl ?_; intro s0 s1 s2
 have e_w := x
 clear hd hs x
 refine exit_then ?_
 refine wp_seq ?_
 refine wp_seq ?_
 refine wp_reg 27 [[(0, none)], [(7, some 0)]] [?b3_0, ?b3_1] mixed hr ?t3 ?o3 ?_
 case o3 =>
  refine oc0 (fun A W hx hf => ?_) ?_
  exact ok_movE (a0 := a2) (r0 hf)
  refine oc0 (fun A W hx hf => ?_) ?_
  exact ok_eql (p2 s0 e_w hx (q0 ?b3_0 A W 7 hf)) (ec A (.int .i64 44))
  exact OpsOk.nil
 case t3 => exact inferInstance
 clear hr; intro a4 w4 x hr hd hs
 revert s2; revert s1; revert s0; refine kp3 hs rfl ?_; intro s0 s1 s2
 have s8 := fa ?b3_1 a4 w4 8 (hd 1 8 rfl)
 replace e_w := e_w.trans x
 clear hd hs x
 refine exit_then ?_
 refine wp_cond_split (show _ = _ from s8) (fun h44 => ?_) (fun h44 => ?_)
 ·
  have h44 : p = 44 := by simpa using h44
  refine wp_seq ?_
  refine wp_reg 27 [[]] [?b6_0] mixed hr ?t6 ?o6 ?_
  case o6 =>
   refine oc0 (fun A W hx hf => ?_) ?_
   exact ok_assignc
   exact OpsOk.nil
  case t6 => exact inferInstance
  clear hr; intro a7 w7 x hr hd hs
  clear s0 s1 s2 s8
  have s6 := fa ?b6_0 a7 w7 6 (hd 0 6 rfl)
  replace e_w := e_w.trans x
  clear hd hs x
  refine exit_then ?_
  refine wp_ret ?_
  refine then_ret ?_
  refine ret_tmp Try.results57 hr e_w ?_
  first | exact Is.int s6 (size_44 h44).symm | exact Is.int s6 (by rw [size_51 h51]; omega) | exact Is.int s6 (by rw [size_8 he h51 h44]; omega)
 ·
  have h44 : p ≠ 44 := by simpa using h44
  refine wp_skip ?_
  refine exit_then ?_
  refine wp_seq ?_
  refine wp_seq ?_
  refine wp_reg 27 [[(0, none)], [(9, some 0)]] [?b8_0, ?b8_1] mixed hr ?t8 ?o8 ?_
  case o8 =>
   refine oc0 (fun A W hx hf => ?_) ?_
   exact ok_movE (a0 := a4) (r0 hf)
   refine oc0 (fun A W hx hf => ?_) ?_
   exact ok_eql (p2 s0 e_w hx (q0 ?b8_0 A W 9 hf)) (ec A (.int .i64 51))
   exact OpsOk.nil
  case t8 => exact inferInstance
  clear hr; intro a9 w9 x hr hd hs
  revert s2; revert s1; refine kp2 hs rfl ?_; intro s1 s2
  clear s0 s8
  have s10 := fa ?b8_1 a9 w9 10 (hd 1 10 rfl)
  replace e_w := e_w.trans x
  clear hd hs x
  refine exit_then ?_
  refine wp_cond_split (show _ = _ from s10) (fun h51 => ?_) (fun h51 => ?_)
  ·
   have h51 : p = 51 := by simpa using h51
   refine wp_seq ?_
   refine wp_reg 27 [[(1, none)], [(2, none)], [(12, some 1)], [(11, some 0), (13, some 2)], [(14, some 3)], [(15, some 4)], [(16, some 5)], [(17, some 6)], [(18, some 7)]] [?b11_0, ?b11_1, ?b11_2, ?b11_3, ?b11_4, ?b11_5, ?b11_6, ?b11_7, ?b11_7] mixed hr ?t11 ?o11 ?_
   case o11 =>
    refine oc0 (fun A W hx hf => ?_) ?_
    exact ok_movE (a0 := a9) (r0 hf)
    refine oc0 (fun A W hx hf => ?_) ?_
    exact ok_movE (a0 := a9) (r0 hf)
    refine oc0 (fun A W hx hf => ?_) ?_
    exact ok_addI (p2 s2 e_w hx (q0 ?b11_1 A W 12 hf)) (ec A (.int .i64 1)) (by omega)
    refine oc0 (fun A W hx hf => ?_) ?_
    exact ok_index_bs (q + 1) Try.underlying22 size5 (p2 s1 e_w hx (q0 ?b11_0 A W 11 hf)) (Is.int (q1 ?b11_2 A W 13 hf) (by omega)) (by omega)
    refine oc0 (fun A W hx hf => ?_) ?_
    exact ok_loadp Try.underlying5 rfl (q0 ?b11_3 A W 14 hf)
    refine oc0 (fun A W hx hf => ?_) ?_
    exact ok_convB Try.underlying5 Try.underlying3 (by decide) (q0 ?b11_4 A W 15 hf)
    refine oc0 (fun A W hx hf => ?_) ?_
    exact ok_mulI (ec A (.int .i64 4)) (q0 ?b11_5 A W 16 hf) (by omega)
    refine oc0 (fun A W hx hf => ?_) ?_
    exact ok_addI (ec A (.int .i64 8)) (q0 ?b11_6 A W 17 hf) (by omega)
    refine oc0 (fun A W hx hf => ?_) ?_
    exact ok_assign (q0 ?b11_7 A W 18 hf)
    exact OpsOk.nil
   case t11 => exact inferInstance
   clear hr; intro a12 w12 x hr hd hs
   clear s1 s2 s10
   have s6 := fa ?b11_7 a12 w12 6 (hd 8 6 rfl)
   replace e_w := e_w.trans x
   clear hd hs x
   refine exit_then ?_
   refine wp_ret ?_
   refine then_ret ?_
   refine ret_tmp Try.results57 hr e_w ?_
   first | exact Is.int s6 (size_44 h44).symm | exact Is.int s6 (by rw [size_51 h51]; omega) | exact Is.int s6 (by rw [size_8 he h51 h44]; omega)
  ·
   have h51 : p ≠ 51 := by simpa using h51
   refine wp_skip ?_
   refine exit_then ?_
   refine wp_seq ?_
   refine wp_reg 27 [[(1, none)], [(2, none)], [(20, some 1)], [(19, some 0), (21, some 2)], [(22, some 3)], [(23, some 4)], [(24, some 5)], [(25, some 6)], [(26, some 7)]] [?b13_0, ?b13_1, ?b13_2, ?b13_3, ?b13_4, ?b13_5, ?b13_6, ?b13_7, ?b13_7] mixed hr ?t13 ?o13 ?_
   case o13 =>
    refine oc0 (fun A W hx hf => ?_) ?_
    exact ok_movE (a0 := a9) (r0 hf)
    refine oc0 (fun A W hx hf => ?_) ?_
    exact ok_movE (a0 := a9) (r0 hf)
    refine oc0 (fun A W hx hf => ?_) ?_
    exact ok_addI (p2 s2 e_w hx (q0 ?b13_1 A W 20 hf)) (ec A (.int .i64 1)) (by omega)
    refine oc0 (fun A W hx hf => ?_) ?_
    exact ok_index_bs (q + 1) Try.underlying22 size5 (p2 s1 e_w hx (q0 ?b13_0 A W 19 hf)) (Is.int (q1 ?b13_2 A W 21 hf) (by omega)) (by omega)
    refine oc0 (fun A W hx hf => ?_) ?_
    exact ok_loadp Try.underlying5 rfl (q0 ?b13_3 A W 22 hf)
    refine oc0 (fun A W hx hf => ?_) ?_
    exact ok_convB Try.underlying5 Try.underlying3 (by decide) (q0 ?b13_4 A W 23 hf)
    refine oc0 (fun A W hx hf => ?_) ?_
    exact ok_mulI (ec A (.int .i64 8)) (q0 ?b13_5 A W 24 hf) (by omega)
    refine oc0 (fun A W hx hf => ?_) ?_
    exact ok_addI (ec A (.int .i64 8)) (q0 ?b13_6 A W 25 hf) (by omega)
    refine oc0 (fun A W hx hf => ?_) ?_
    exact ok_assign (q0 ?b13_7 A W 26 hf)
    exact OpsOk.nil
   case t13 => exact inferInstance
   clear hr; intro a14 w14 x hr hd hs
   clear s1 s2 s10
   have s6 := fa ?b13_7 a14 w14 6 (hd 8 6 rfl)
   replace e_w := e_w.trans x
   clear hd hs x
   refine exit_then ?_
   refine wp_ret ?_
   refine ret_tmp Try.results57 hr e_w ?_
   first | exact Is.int s6 (size_44 h44).symm | exact Is.int s6 (by rw [size_51 h51]; omega) | exact Is.int s6 (by rw [size_8 he h51 h44]; omega)

def D_c_r9addr_0 : List Tmp := [6, 8, 9, 10, 11, 12, 13, 14, 15, 16, 17, 18, 19, 20]
theorem c_r9addr {x0 x1 : Value} {w : World} {l : List UInt8} {z : Int} (h0 : (Bs l) x0 w) (h1 : (Is (.int .i64 z)) x1 w) (hz0 : 0 ≤ z) (hz1 : z.toNat + 16 ≤ l.length) :
    Calls Try.prog 55 #[x0, x1] w (Ret (Is (AdrV (adr6 l z.toNat))) w) := by
 have hlen := Bs.len_le h0
 obtain ⟨q, rfl⟩ : ∃ q : Nat, z = (q : Int) := ⟨z.toNat, by omega⟩
 simp only [Int.toNat_natCast] at hz1 ⊢
 refine enter Try.func55 rfl Try.ntmps55 (k := 2) rfl (by decide) (fun a0 hr hargs => ?_)
 have s0 := sarg h0 (hargs 0 (by decide))
 have s1 := sarg h1 (hargs 1 (by decide))
 clear hargs
 refine wp_seq ?_
 refine wp_reg 22 [[]] [?b1_0] mixed hr ?t1 ?o1 ?_
 case o1 =>
  refine oc0 (fun A W hx hf => ?_) ?_
  exact ok_allocS [adrCells adr0] [17] zerov26 (by rfl) (by rfl) hx.size
  exact OpsOk.nil
 case t1 => exact inferInstance
 clear hr; intro a2 w2 x hr hd hs
 revert s1; revert s0; refine kp2 hs rfl ?_; intro s0 s1
 have s4 := fa ?b1_0 a2 w2 4 (hd 0 4 rfl)
 obtain ⟨g2_4, q2_4⟩ := PxN.at s4; clear s4; have n2_4 := PxS.lt q2_4
 have s4 := q2_4; clear q2_4
 have e_w := x
 clear hd hs x
 refine exit_then ?_
 refine wp_seq ?_
 refine wp_reg_pre (l := [_, _]) (rest := [_]) 22 [[], []] [?b3_0, ?b3_1] hr ?t3 ?o3 ?_
 case o3 =>
  refine oc0 (fun A W hx hf => ?_) ?_
  exact ok_buildS [(0, (.const (.bool true)))] [(0, _)] lay26 rfl (PartsC.one (ec A (.bool true)) rfl (PartsC.nil)) (by first | rfl | simp [adrCells, *])
  refine oc0 (fun A W hx hf => ?_) ?_
  exact ok_allocS [[.bool false], (List.replicate 16 0).map byteV] [1, 16] zerov26 (by rfl) (by rfl) hx.size
  exact OpsOk.nil
 case t3 => exact inferInstance
 clear hr; intro a4 w4 x hr hd hs
 have z_w_w2 := e_w.size
 have l4_4 := PxS.lt s4
 revert s4; revert s1; revert s0; refine kp3 hs rfl ?_; intro s0 s1 s4
 have s7 := fa ?b3_0 a4 w4 7 (hd 0 7 rfl)
 have s5 := fa ?b3_1 a4 w4 5 (hd 1 5 rfl)
 obtain ⟨g4_5, q4_5⟩ := PxN.at s5; clear s5; have n4_5 := PxS.lt q4_5
 replace q4_5 := PxS.mono q4_5 e_w.size
 have s5 := q4_5; clear q4_5
 replace e_w := e_w.trans x
 have e_w2 := x
 clear hd hs x
 have z5 := PxS.lt s5
 have l5 := (show (g4_5 = 0 ∨ w.heap.size < g4_5) ∧ True from ⟨by omega, trivial⟩)
 have l5_4 := PxS.lt (later e_w2 s4)
 refine wl_storeSm [[.bool true], (List.replicate 16 0).map byteV] hr size26 s5 s7 (by rfl) (by intro u hu; simp at hu; rcases hu with rfl | rfl <;> rfl) rfl ?_; clear hr; intro a5 w5 hc hu hr hs
 have hb : Below w.heap.size w4 w5 := hc.below e_w.size l5.1
 revert s5; revert s4; revert s1; revert s0; refine kp4 hs rfl ?_; intro s0 s1 s4 s5
 clear s7
 replace s4 := PxS.other (later e_w2 s4) hc (by omega)
 replace s5 := hu _ _ _ s5
 try simp only [List.set_cons_zero, List.set_cons_succ] at s5
 replace e_w := e_w.below (Nat.le_refl _) hb
 clear e_w2
 clear hu hs hc hb
 refine wpList_nil ?_
 refine exit_then ?_
 refine wp_seq ?_
 refine wp_seq ?_
 refine wp_reg 22 [[]] [?b6_0] mixed hr ?t6 ?o6 ?_
 case o6 =>
  refine oc0 (fun A W hx hf => ?_) ?_
  exact ok_assignc
  exact OpsOk.nil
 case t6 => exact inferInstance
 clear hr; intro a7 w7 x hr hd hs
 revert s5; revert s4; revert s1; revert s0; refine kp4 hs rfl ?_; intro s0 s1 s4 s5
 have s6 := fa ?b6_0 a7 w7 6 (hd 0 6 rfl)
 replace e_w := e_w.trans x
 have e_w5 := x
 clear hd hs x
 refine exit_then ?_
 refine wp_block ?_
 refine wp_loop_inv (fun n A W => ∃ (i : Nat), n = 16 - i ∧ Fr 22 A ∧ Same D_c_r9addr_0 a7 A ∧ Ext w W ∧ (i ≤ 16) ∧ (PxS g2_4 w.heap.size [17] [adrCells adr0] 0) (A.eval (.tmp 4)) W ∧ (PxS g4_5 w.heap.size [1, 16] [[.bool true], (adr6p l q i).map byteV] 0) (A.eval (.tmp 5)) W ∧ (Is (.int .i64 (i : Int))) (A.eval (.tmp 6)) W) ?start8 ?_
 case start8 =>
  refine ⟨_, 0, rfl, hr, Same.rfl, e_w, (by first | assumption | omega), ?_, ?_, ?_⟩
  · first | exact (later e_w5 s4) | exact Is.int (later e_w5 s4) (by first | omega | simp) | exact Is.bool (later e_w5 s4) (by first | omega | simp)
  · exact (later e_w5 s5)
  · first | exact s6 | exact Is.int s6 (by first | omega | simp) | exact Is.bool s6 (by first | omega | simp)
 intro n8 a8 w8 hI
 clear e_w
 clear e_w5
 clear hr; obtain ⟨i, hn8, hr, hs, e_w, hi, u4, u5, u6⟩ := hI
 revert s1; revert s0; refine kp2 hs rfl ?_; intro s0 s1
 clear s4 s5 s6
 have s4 := u4; clear u4
 have s5 := u5; clear u5
 have s6 := u6; clear u6
 have m8 := hs; clear hs
 refine wp_seq ?_
 refine wp_seq ?_
 refine wp_reg 22 [[(6, none)], [(8, some 0)]] [?b9_0, ?b9_1] mixed hr ?t9 ?o9 ?_
 case o9 =>
  refine oc0 (fun A W hx hf => ?_) ?_
  exact ok_movE (a0 := a8) (r0 hf)
  refine oc0 (fun A W hx hf => ?_) ?_
  exact ok_lss (p1 s6 hx (q0 ?b9_0 A W 8 hf)) (ec A (.int .i64 16))
  exact OpsOk.nil
 case t9 => exact inferInstance
 clear hr; intro a10 w10 x hr hd hs
 revert s6; revert s5; revert s4; revert s1; revert s0; refine kp5 hs rfl ?_; intro s0 s1 s4 s5 s6
 have s9 := fa ?b9_1 a10 w10 9 (hd 1 9 rfl)
 replace e_w := e_w.trans x
 have e_w8 := x
 replace m8 := m8.tr hs rfl
 clear hd hs x
 refine exit_then ?_
 refine wp_cond_split (show _ = _ from s9) (fun hlt => ?_) (fun hlt => ?_)
 ·
  have hlt : i < 16 := by simp at hlt; omega
  refine wp_skip ?_
  refine exit_then ?_
  refine wp_seq ?_
  refine wp_block ?_
  refine wp_reg_pre (l := [_, _, _, _, _, _, _, _, _]) (rest := [_]) 22 [[(6, none)], [(0, none)], [(1, none)], [(6, none)], [(14, some 2), (15, some 3)], [(13, some 1), (16, some 4)], [(17, some 5)], [(5, none)], [(19, some 7), (12, some 0)]] [?b12_0, ?b12_1, ?b12_2, ?b12_3, ?b12_4, ?b12_5, ?b12_6, ?b12_7, ?b12_8] hr ?t12 ?o12 ?_
  case o12 =>
   refine oc0 (fun A W hx hf => ?_) ?_
   exact ok_movE (a0 := a10) (r0 hf)
   refine oc0 (fun A W hx hf => ?_) ?_
   exact ok_movE (a0 := a10) (r0 hf)
   refine oc0 (fun A W hx hf => ?_) ?_
   exact ok_movE (a0 := a10) (r0 hf)
   refine oc0 (fun A W hx hf => ?_) ?_
   exact ok_movE (a0 := a10) (r0 hf)
   refine oc0 (fun A W hx hf => ?_) ?_
   exact ok_addI (p2 s1 e_w hx (q0 ?b12_2 A W 14 hf)) (p2 s6 e_w8 hx (q1 ?b12_3 A W 15 hf)) (by omega)
   refine oc0 (fun A W hx hf => ?_) ?_
   exact ok_index_bs (q + i) Try.underlying22 size5 (p2 s0 e_w hx (q0 ?b12_1 A W 13 hf)) (Is.int (q1 ?b12_4 A W 16 hf) (by omega)) (by first | omega | decide | (simp; done) | (simp; omega))
   refine oc0 (fun A W hx hf => ?_) ?_
   exact ok_loadp Try.underlying5 rfl (q0 ?b12_5 A W 17 hf)
   refine oc0 (fun A W hx hf => ?_) ?_
   exact ok_fieldS 1 Try.underlying26 (k := 1) rfl size24 rfl (o2 s5 e_w8 hx (r0 hf)) rfl
   refine oc0 (fun A W hx hf => ?_) ?_
   exact ok_indexS (_) Try.underlying24 size5 (q0 ?b12_7 A W 19 hf) (p2 s6 e_w8 hx (q1 ?b12_0 A W 12 hf)) rfl (by first | omega | decide | (simp; done) | (simp; omega))
   exact OpsOk.nil
  case t12 => exact inferInstance
  clear hr; intro a13 w13 x hr hd hs
  revert s6; revert s5; revert s4; revert s1; revert s0; refine kp5 hs rfl ?_; intro s0 s1 s4 s5 s6
  clear s9
  have s18 := fa ?b12_6 a13 w13 18 (hd 6 18 rfl)
  have s20 := fa ?b12_8 a13 w13 20 (hd 8 20 rfl)
  replace e_w := e_w.trans x
  replace e_w8 := e_w8.trans x
  replace m8 := m8.tr hs rfl
  clear hd hs x
  have z14 := PxE.lt s20
  have l14 := (show (g4_5 = 0 ∨ w.heap.size < g4_5) ∧ True from ⟨by omega, trivial⟩)
  have l14_4 := PxS.lt (later e_w8 s4)
  refine wl_storeE hr size5 s20 rfl s18 ?_; clear hr; intro a14 w14 hc hu hr hs
  have hb : Below w.heap.size w13 w14 := hc.below e_w.size l14.1
  revert s6; revert s5; revert s4; revert s1; revert s0; refine kp5 hs rfl ?_; intro s0 s1 s4 s5 s6
  clear s18 s20
  replace s4 := PxS.other (later e_w8 s4) hc (by omega)
  replace s5 := hu _ _ _ (later e_w8 s5)
  try simp only [List.set_cons_zero, List.set_cons_succ] at s5
  replace e_w := e_w.below (Nat.le_refl _) hb
  clear e_w8
  replace s6 := anyw (w2 := w14) s6
  replace m8 := m8.tr hs rfl
  clear hu hs hc hb
  refine wpList_nil ?_
  refine blk_normal ?_
  refine exit_then ?_
  refine wp_reg 22 [[(6, none)], [(10, some 0)], [(11, some 1)]] [?b15_0, ?b15_1, ?b15_1] mixed hr ?t15 ?o15 ?_
  case o15 =>
   refine oc0 (fun A W hx hf => ?_) ?_
   exact ok_movE (a0 := a14) (r0 hf)
   refine oc0 (fun A W hx hf => ?_) ?_
   exact ok_addI (p1 s6 hx (q0 ?b15_0 A W 10 hf)) (ec A (.int .i64 1)) (by omega)
   refine oc0 (fun A W hx hf => ?_) ?_
   exact ok_assign (q0 ?b15_1 A W 11 hf)
   exact OpsOk.nil
  case t15 => exact inferInstance
  clear hr; intro a16 w16 x hr hd hs
  revert s5; revert s4; revert s1; revert s0; refine kp4 hs rfl ?_; intro s0 s1 s4 s5
  clear s6
  have s6 := fa ?b15_1 a16 w16 6 (hd 2 6 rfl)
  replace e_w := e_w.trans x
  have e_w14 := x
  replace m8 := m8.tr hs rfl
  clear hd hs x
  refine exit_then ?_
  refine ⟨(fun (i : Nat) => 16 - i) (i + 1), ?_, ?_⟩
  · (try dsimp only); omega
  refine ⟨i + 1, rfl, hr, m8, e_w, (by first | assumption | omega), ?_, ?_, ?_⟩
  · first | exact (later e_w14 s4) | exact Is.int (later e_w14 s4) (by first | omega | simp) | exact Is.bool (later e_w14 s4) (by first | omega | simp)
  · exact PxS.cast (later e_w14 s5) (by rw [adr6p_step (by omega) (by omega)])
  · first | exact s6 | exact Is.int s6 (by first | omega | simp) | exact Is.bool s6 (by first | omega | simp)
 ·
  have hlt : i = 16 := by simp at hlt; omega
  subst hlt
  refine wp_exit ?_
  refine then_exit ?_
  refine then_exit ?_
  refine blk_exit ?_
  refine exit_then ?_
  refine wp_seq ?_
  refine wp_reg_pre (l := [_]) (rest := [_]) 22 [[(5, none)]] [?b17_0] hr ?t17 ?o17 ?_
  case o17 =>
   refine oc0 (fun A W hx hf => ?_) ?_
   exact ok_loadAggS 2 Try.underlying26 rfl size26 (o2 s5 e_w8 hx (r0 hf)) rfl
   exact OpsOk.nil
  case t17 => exact inferInstance
  clear hr; intro a18 w18 x hr hd hs
  revert s4; refine kp1 hs rfl ?_; intro s4
  clear s0 s1 s5 s6 s9
  have s21 := fa ?b17_0 a18 w18 21 (hd 0 21 rfl)
  replace e_w := e_w.trans x
  replace e_w8 := e_w8.trans x
  clear hd hs x
  have z19 := PxS.lt (later e_w8 s4)
  have l19 := (show (g2_4 = 0 ∨ w.heap.size < g2_4) ∧ True from ⟨by omega, trivial⟩)
  refine wl_storeSn hr size26 (later e_w8 s4) s21 (by simp [adr6p]; omega) (by intro u hu; simp at hu; rcases hu with rfl | ⟨c, _, rfl⟩ <;> rfl) rfl ?_; clear hr; intro a19 w19 hc hu hr hs
  have hb : Below w.heap.size w18 w19 := hc.below e_w.size l19.1
  revert s4; refine kp1 hs rfl ?_; intro s4
  clear s21
  replace s4 := hu _ _ _ (later e_w8 s4)
  try simp only [List.set_cons_zero, List.set_cons_succ] at s4
  replace e_w := e_w.below (Nat.le_refl _) hb
  clear e_w8
  clear hu hs hc hb
  refine wpList_nil ?_
  refine exit_then ?_
  refine wp_ret ?_
  refine ret_cell Try.results55 hr Try.underlying26 rfl size26 s4 e_w ?_
  exact (show Value.agg _ = _ from by rw [adr6p_end]; simp [AdrV, adrCells, adr6])

end Go.Proofs.Ytpjpfmnnefgnbaa
