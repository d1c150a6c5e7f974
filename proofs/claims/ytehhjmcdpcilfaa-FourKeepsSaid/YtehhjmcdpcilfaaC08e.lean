import Derived.Test.YtehhjmcdpcilfaaC08a
namespace Go.Proofs.Ytehhjmcdpcilfaa
open Go.RowKit
set_option linter.unusedVariables false
set_option maxRecDepth 4000
def D_c_r8Short_0 : List Tmp := [2, 3, 4, 5, 6, 7, 8, 9, 10, 11, 12]
theorem c_r8Short {x0 : Value} {w : World} {Sa : Adr} (h0 : (Is (AdrV Sa)) x0 w) (hA : Sa.b.length = 16) :
    Calls Try.prog 26 #[x0] w (Ret (Is (.bool (shortA Sa))) w) := by
 refine enter Try.func26 rfl Try.ntmps26 (k := 1) rfl (by decide) (fun a0 hr hargs => ?_)
 have s0 := sarg h0 (hargs 0 (by decide))
 clear hargs
 refine wp_seq ?_
 refine wp_reg 16 [[(0, none)], []] [?b1_0, ?b1_1] mixed (by kernel_rfl) (by kernel_rfl) hr ?t1 ?o1 ?_
 case o1 =>
  refine oc0 (fun A W hx hf => ?_) ?_
  exact ok_boxS [[.bool Sa.six], Sa.b.map byteV] [1, 16] (Is.conv (o1 s0 hx (r0 hf)) (adr_seg Sa).symm) (by simp [*]) hx.size
  refine oc0 (fun A W hx hf => ?_) ?_
  exact ok_assignc
  exact OpsOk.nil
 case t1 => exact inferInstance
 clear hr; intro a2 w2 x hr hd hs
 clear s0
 have s1 := fa ?b1_0 a2 w2 1 (hd 0 1 rfl)
 obtain ⟨g2_1, q2_1⟩ := PxN.at s1; clear s1; have n2_1 := PxS.lt q2_1
 have s1 := q2_1; clear q2_1
 have e_w := x
 clear hd hs x
 refine exit_then ?_
 refine wp_seq ?_
 refine wp_seq ?_
 refine wp_reg 16 [[]] [?b3_0] mixed (by kernel_rfl) (by kernel_rfl) hr ?t3 ?o3 ?_
 case o3 =>
  refine oc0 (fun A W hx hf => ?_) ?_
  exact ok_assignc
  exact OpsOk.nil
 case t3 => exact inferInstance
 clear hr; intro a4 w4 x hr hd hs
 revert s1; refine kp1 hs rfl ?_; intro s1
 have s3 := fa ?b3_0 a4 w4 3 (hd 0 3 rfl)
 replace e_w := e_w.trans x
 have e_w2 := x
 clear hd hs x
 refine exit_then ?_
 refine wp_block ?_
 refine wp_loop_inv (fun n A W => ∃ (i : Nat), n = 16 - i ∧ Fr 16 A ∧ Same D_c_r8Short_0 a4 A ∧ Ext w W ∧ (4 ≤ i) ∧ (i ≤ 16) ∧ (((Sa.b.drop 4).take (i - 4)).any (fun c => c != 0) = false) ∧ (PxS g2_1 w.heap.size [1, 16] [[.bool Sa.six], Sa.b.map byteV] 0) (A.eval (.tmp 1)) W ∧ (Is (.int .i64 (i : Int))) (A.eval (.tmp 3)) W) ?start5 ?_
 case start5 =>
  refine ⟨_, 4, rfl, hr, Same.rfl, e_w, (by omega), (by omega), (by simp), ?_, ?_⟩
  · exact (later e_w2 s1)
  · first | exact s3 | exact Is.int s3 (by first | omega | simp) | exact Is.bool s3 (by first | omega | simp)
 intro n5 a5 w5 hI
 clear e_w
 clear e_w2
 clear hr; obtain ⟨i, hn5, hr, hs, e_w, hi4, hi, hz, u1, u3⟩ := hI
 clear s1 s3
 have s1 := u1; clear u1
 have s3 := u3; clear u3
 have m5 := hs; clear hs
 refine wp_seq ?_
 refine wp_seq ?_
 refine wp_reg 16 [[(3, none)], [(4, some 0)]] [?b6_0, ?b6_1] mixed (by kernel_rfl) (by kernel_rfl) hr ?t6 ?o6 ?_
 case o6 =>
  refine oc0 (fun A W hx hf => ?_) ?_
  exact ok_movE (a0 := a5) (r0 hf)
  refine oc0 (fun A W hx hf => ?_) ?_
  exact ok_lss (p1 s3 hx (q0 ?b6_0 A W 4 hf)) (ec A (.int .i64 16))
  exact OpsOk.nil
 case t6 => exact inferInstance
 clear hr; intro a7 w7 x hr hd hs
 revert s1 s3; refine kp2 hs rfl ?_; intro s1 s3
 have s5 := fa ?b6_1 a7 w7 5 (hd 1 5 rfl)
 replace e_w := e_w.trans x
 have e_w5 := x
 replace m5 := m5.tr hs rfl
 clear hd hs x
 refine exit_then ?_
 refine wp_cond_split (show _ = _ from s5) (fun hlt => ?_) (fun hlt => ?_)
 · skip
   have hlt : i < 16 := by simp at hlt; omega
   refine wp_skip ?_
   refine exit_then ?_
   refine wp_seq ?_
   refine wp_block ?_
   refine wp_seq ?_
   refine wp_reg 16 [[(3, none)], [(1, none)], [(9, some 1), (8, some 0)], [(10, some 2)], [(11, some 3)]] [?b9_0, ?b9_1, ?b9_2, ?b9_3, ?b9_4] mixed (by kernel_rfl) (by kernel_rfl) hr ?t9 ?o9 ?_
   case o9 =>
    refine oc0 (fun A W hx hf => ?_) ?_
    exact ok_movE (a0 := a7) (r0 hf)
    refine oc0 (fun A W hx hf => ?_) ?_
    exact ok_fieldS 1 Try.underlying26 (k := 1) rfl size24 rfl (o2 s1 e_w5 hx (r0 hf)) rfl
    refine oc0 (fun A W hx hf => ?_) ?_
    exact ok_indexS (_) Try.underlying24 size5 (q0 ?b9_1 A W 9 hf) (p2 s3 e_w5 hx (q1 ?b9_0 A W 8 hf)) rfl (by first | omega | decide | (simp; done) | (simp; omega))
    refine oc0 (fun A W hx hf => ?_) ?_
    exact ok_loadE Try.underlying5 rfl (q0 ?b9_2 A W 10 hf) rfl (by first | omega | (simp; omega) | (simp [*]; omega))
    refine oc0 (fun A W hx hf => ?_) ?_
    exact ok_neq (q0 ?b9_3 A W 11 hf) (ec A (.int .u8 0))
    exact OpsOk.nil
   case t9 => exact inferInstance
   clear hr; intro a10 w10 x hr hd hs
   revert s1 s3; refine kp2 hs rfl ?_; intro s1 s3
   clear s5
   have s12 := fa ?b9_4 a10 w10 12 (hd 4 12 rfl)
   replace e_w := e_w.trans x
   replace e_w5 := e_w5.trans x
   replace m5 := m5.tr hs rfl
   clear hd hs x
   refine exit_then ?_
   refine wp_cond_split (show _ = _ from s12) (fun hc9 => ?_) (fun hc9 => ?_)
   · skip
     skip
     refine wp_seq ?_
     refine wp_reg 16 [[]] [?b12_0] mixed (by kernel_rfl) (by kernel_rfl) hr ?t12 ?o12 ?_
     case o12 =>
      refine oc0 (fun A W hx hf => ?_) ?_
      exact ok_assignc
      exact OpsOk.nil
     case t12 => exact inferInstance
     clear hr; intro a13 w13 x hr hd hs
     clear s1 s3 s12
     have s2 := fa ?b12_0 a13 w13 2 (hd 0 2 rfl)
     replace e_w := e_w.trans x
     clear e_w5
     replace m5 := m5.tr hs rfl
     clear hd hs x
     refine exit_then ?_
     refine wp_ret ?_
     refine blk_ret ?_
     refine then_ret ?_
     refine then_ret ?_
     refine blk_ret ?_
     refine then_ret ?_
     refine ret_tmp Try.results26 hr e_w ?_
     first | exact Is.bool s2 (short_no hi4 (by omega) hc9).symm | exact Is.bool s2 (short_end hA hz)
   · skip
     skip
     refine wp_skip ?_
     refine blk_normal ?_
     refine exit_then ?_
     refine wp_reg 16 [[(3, none)], [(6, some 0)], [(7, some 1)]] [?b14_0, ?b14_1, ?b14_1] mixed (by kernel_rfl) (by kernel_rfl) hr ?t14 ?o14 ?_
     case o14 =>
      refine oc0 (fun A W hx hf => ?_) ?_
      exact ok_movE (a0 := a10) (r0 hf)
      refine oc0 (fun A W hx hf => ?_) ?_
      exact ok_addI (p2 s3 e_w5 hx (q0 ?b14_0 A W 6 hf)) (ec A (.int .i64 1)) (by omega)
      refine oc0 (fun A W hx hf => ?_) ?_
      exact ok_assign (q0 ?b14_1 A W 7 hf)
      exact OpsOk.nil
     case t14 => exact inferInstance
     clear hr; intro a15 w15 x hr hd hs
     revert s1; refine kp1 hs rfl ?_; intro s1
     clear s3 s12
     have s3 := fa ?b14_1 a15 w15 3 (hd 2 3 rfl)
     replace e_w := e_w.trans x
     replace e_w5 := e_w5.trans x
     replace m5 := m5.tr hs rfl
     clear hd hs x
     refine exit_then ?_
     refine ⟨(fun (i : Nat) => 16 - i) (i + 1), ?_, ?_⟩
     · (try dsimp only); omega
     refine ⟨i + 1, rfl, hr, m5, e_w, (by omega), (by omega), (by exact short_step hi4 (by omega) hz hc9), ?_, ?_⟩
     · exact (later e_w5 s1)
     · first | exact s3 | exact Is.int s3 (by first | omega | simp) | exact Is.bool s3 (by first | omega | simp)
 · skip
   have hlt : i = 16 := by simp at hlt; omega
   subst hlt
   refine wp_exit ?_
   refine then_exit ?_
   refine then_exit ?_
   refine blk_exit ?_
   refine exit_then ?_
   refine wp_seq ?_
   refine wp_reg 16 [[(1, none)], [(13, some 0)], [(14, some 1)], [(15, some 2)]] [?b16_0, ?b16_1, ?b16_2, ?b16_2] mixed (by kernel_rfl) (by kernel_rfl) hr ?t16 ?o16 ?_
   case o16 =>
    refine oc0 (fun A W hx hf => ?_) ?_
    exact ok_fieldS 0 Try.underlying26 (k := 0) rfl size4 rfl (o2 s1 e_w5 hx (r0 hf)) rfl
    refine oc0 (fun A W hx hf => ?_) ?_
    exact ok_loadS Try.underlying4 rfl (q0 ?b16_0 A W 13 hf) rfl
    refine oc0 (fun A W hx hf => ?_) ?_
    exact ok_not (q0 ?b16_1 A W 14 hf)
    refine oc0 (fun A W hx hf => ?_) ?_
    exact ok_assign (q0 ?b16_2 A W 15 hf)
    exact OpsOk.nil
   case t16 => exact inferInstance
   clear hr; intro a17 w17 x hr hd hs
   clear s1 s3 s5
   have s2 := fa ?b16_2 a17 w17 2 (hd 3 2 rfl)
   replace e_w := e_w.trans x
   clear e_w5
   clear hd hs x
   refine exit_then ?_
   refine wp_ret ?_
   refine ret_tmp Try.results26 hr e_w ?_
   first | exact Is.bool s2 (short_no hi4 (by omega) hc9).symm | exact Is.bool s2 (short_end hA hz)

theorem c_r8Right {x0 : Value} {w : World} {H : FourL} (h0 : (Is (FourV H)) x0 w) (hH : FourOk H) :
    Calls Try.prog 13 #[x0] w (Ret (Is (.bool (fourRight H))) w) := by
 have hs16 := hH.1
 have hd16 := hH.2
 refine enter Try.func13 rfl Try.ntmps13 (k := 1) rfl (by decide) (fun a0 hr hargs => ?_)
 have s0 := sarg h0 (hargs 0 (by decide))
 clear hargs
 refine wp_seq ?_
 refine wp_reg 71 [[(0, none)], []] [?b1_0, ?b1_1] mixed (by kernel_rfl) (by kernel_rfl) hr ?t1 ?o1 ?_
 case o1 =>
  refine oc0 (fun A W hx hf => ?_) ?_
  exact ok_boxS (fourS2 H) [1, 1, 1, 1, 1, 1, 1, 1, 1, 16, 1, 16] (o1 s0 hx (r0 hf)) (by exact fourS2_lens hH) hx.size
  refine oc0 (fun A W hx hf => ?_) ?_
  exact ok_assignc
  exact OpsOk.nil
 case t1 => exact inferInstance
 clear hr; intro a2 w2 x hr hd hs
 clear s0
 have s1 := fa ?b1_0 a2 w2 1 (hd 0 1 rfl)
 obtain ⟨g2_1, q2_1⟩ := PxN.at s1; clear s1; have n2_1 := PxS.lt q2_1
 have s1 := q2_1; clear q2_1
 have e_w := x
 clear hd hs x
 refine exit_then ?_
 refine wp_seq ?_
 refine wp_reg 71 ([(1, none)] :: [(3, some 0)] :: [(4, some 1)] :: [(5, some 2)] :: [(1, none), (6, some 3)] :: [(7, some 4), (6, some 3)] :: [(8, some 5), (6, some 3)] :: [(6, some 3), (9, some 6)] :: [(10, some 7)] :: [(1, none), (11, some 8)] :: [(12, some 9), (11, some 8)] :: [(13, some 10), (11, some 8)] :: [(11, some 8), (14, some 11)] :: [(15, some 12)] :: [(1, none), (16, some 13)] :: [(17, some 14), (16, some 13)] :: [(18, some 15), (16, some 13)] :: [(16, some 13), (19, some 16)] :: [(20, some 17)] :: [(1, none), (21, some 18)] :: [(22, some 19), (21, some 18)] :: [(23, some 20), (21, some 18)] :: [(21, some 18), (24, some 21)] :: [(25, some 22)] :: [(1, none), (26, some 23)] :: [(27, some 24), (26, some 23)] :: [(28, some 25), (26, some 23)] :: [(26, some 23), (29, some 26)] :: [(30, some 27)] :: [(1, none), (31, some 28)] :: [(32, some 29), (31, some 28)] :: [(33, some 30), (31, some 28)] :: [(31, some 28), (34, some 31)] :: [(35, some 32)] :: [(1, none), (36, some 33)] :: [(37, some 34), (36, some 33)] :: [(38, some 35), (36, some 33)] :: [(36, some 33), (39, some 36)] :: [(40, some 37)] :: [(1, none), (41, some 38)] :: [(42, some 39), (41, some 38)] :: [(43, some 40), (41, some 38)] :: [(41, some 38), (44, some 41)] :: [(45, some 42)] :: [(1, none), (46, some 43)] :: [(47, some 44), (46, some 43)] :: [(48, some 45), (46, some 43)] :: [(46, some 43), (49, some 46)] :: [(50, some 47)] :: [(1, none), (51, some 48)] :: [(52, some 49), (51, some 48)] :: [(53, some 50), (51, some 48)] :: [(51, some 48), (54, some 51)] :: [(55, some 52)] :: [(1, none), (56, some 53)] :: [(57, some 54), (56, some 53)] :: [(58, some 55), (56, some 53)] :: [(56, some 53), (59, some 56)] :: [(60, some 57)] :: [(1, none), (61, some 58)] :: [(62, some 59), (61, some 58)] :: [(63, some 60), (61, some 58)] :: [(61, some 58), (64, some 61)] :: [(65, some 62)] :: [(1, none), (66, some 63)] :: [(67, some 64), (66, some 63)] :: [(68, some 65), (66, some 63)] :: [(66, some 63), (69, some 66)] :: [(70, some 67)] :: []) (?b3_0 :: ?b3_1 :: ?b3_2 :: ?b3_2 :: ?b3_4 :: ?b3_5 :: ?b3_6 :: ?b3_7 :: ?b3_7 :: ?b3_9 :: ?b3_10 :: ?b3_11 :: ?b3_12 :: ?b3_12 :: ?b3_14 :: ?b3_15 :: ?b3_16 :: ?b3_17 :: ?b3_17 :: ?b3_19 :: ?b3_20 :: ?b3_21 :: ?b3_22 :: ?b3_22 :: ?b3_24 :: ?b3_25 :: ?b3_26 :: ?b3_27 :: ?b3_27 :: ?b3_29 :: ?b3_30 :: ?b3_31 :: ?b3_32 :: ?b3_32 :: ?b3_34 :: ?b3_35 :: ?b3_36 :: ?b3_37 :: ?b3_37 :: ?b3_39 :: ?b3_40 :: ?b3_41 :: ?b3_42 :: ?b3_42 :: ?b3_44 :: ?b3_45 :: ?b3_46 :: ?b3_47 :: ?b3_47 :: ?b3_49 :: ?b3_50 :: ?b3_51 :: ?b3_52 :: ?b3_52 :: ?b3_54 :: ?b3_55 :: ?b3_56 :: ?b3_57 :: ?b3_57 :: ?b3_59 :: ?b3_60 :: ?b3_61 :: ?b3_62 :: ?b3_62 :: ?b3_64 :: ?b3_65 :: ?b3_66 :: ?b3_67 :: ?b3_67 :: []) mixed (by kernel_rfl) (by kernel_rfl) hr ?t3 ?o3 ?_
 case o3 =>
  refine oc0 (fun A W hx hf => ?_) ?_
  exact ok_fieldS 0 Try.underlying28 (k := 0) rfl size3 rfl (o1 s1 hx (r0 hf)) rfl
  refine oc0 (fun A W hx hf => ?_) ?_
  exact ok_loadS Try.underlying3 rfl (q0 ?b3_0 A W 3 hf) rfl
  refine oc0 (fun A W hx hf => ?_) ?_
  exact ok_eql (q0 ?b3_1 A W 4 hf) (ec A (.int .i64 20))
  refine oc0 (fun A W hx hf => ?_) ?_
  exact ok_move (q0 ?b3_2 A W 5 hf)
  refine ocg 6 ?_ (fun A W hx hf => ?_) ?_
  rfl
  exact gd_t (q1 ?b3_2 A W 6 hf) (fun hc => ok_fieldS 1 Try.underlying28 (k := 1) rfl size3 rfl (o1 s1 hx (r0 hf)) rfl)
  refine ocg 6 ?_ (fun A W hx hf => ?_) ?_
  rfl
  exact gd_t (q1 ?b3_2 A W 6 hf) (fun hc => ok_loadS Try.underlying3 rfl (G.get (q0 ?b3_4 A W 7 hf) hc) rfl)
  refine ocg 6 ?_ (fun A W hx hf => ?_) ?_
  rfl
  exact gd_t (q1 ?b3_2 A W 6 hf) (fun hc => ok_geq (G.get (q0 ?b3_5 A W 8 hf) hc) (ec A (.int .i64 20)))
  refine oc0 (fun A W hx hf => ?_) ?_
  exact ok_and (q0 ?b3_2 A W 6 hf) (q1 ?b3_6 A W 9 hf)
  refine oc0 (fun A W hx hf => ?_) ?_
  exact ok_move (q0 ?b3_7 A W 10 hf)
  refine ocg 11 ?_ (fun A W hx hf => ?_) ?_
  rfl
  exact gd_t (q1 ?b3_7 A W 11 hf) (fun hc => ok_fieldS 1 Try.underlying28 (k := 1) rfl size3 rfl (o1 s1 hx (r0 hf)) rfl)
  refine ocg 11 ?_ (fun A W hx hf => ?_) ?_
  rfl
  exact gd_t (q1 ?b3_7 A W 11 hf) (fun hc => ok_loadS Try.underlying3 rfl (G.get (q0 ?b3_9 A W 12 hf) hc) rfl)
  refine ocg 11 ?_ (fun A W hx hf => ?_) ?_
  rfl
  exact gd_t (q1 ?b3_7 A W 11 hf) (fun hc => ok_leq (G.get (q0 ?b3_10 A W 13 hf) hc) (ec A (.int .i64 65535)))
  refine oc0 (fun A W hx hf => ?_) ?_
  exact ok_and (q0 ?b3_7 A W 11 hf) (q1 ?b3_11 A W 14 hf)
  refine oc0 (fun A W hx hf => ?_) ?_
  exact ok_move (q0 ?b3_12 A W 15 hf)
  refine ocg 16 ?_ (fun A W hx hf => ?_) ?_
  rfl
  exact gd_t (q1 ?b3_12 A W 16 hf) (fun hc => ok_fieldS 2 Try.underlying28 (k := 2) rfl size3 rfl (o1 s1 hx (r0 hf)) rfl)
  refine ocg 16 ?_ (fun A W hx hf => ?_) ?_
  rfl
  exact gd_t (q1 ?b3_12 A W 16 hf) (fun hc => ok_loadS Try.underlying3 rfl (G.get (q0 ?b3_14 A W 17 hf) hc) rfl)
  refine ocg 16 ?_ (fun A W hx hf => ?_) ?_
  rfl
  exact gd_t (q1 ?b3_12 A W 16 hf) (fun hc => ok_geq (G.get (q0 ?b3_15 A W 18 hf) hc) (ec A (.int .i64 0)))
  refine oc0 (fun A W hx hf => ?_) ?_
  exact ok_and (q0 ?b3_12 A W 16 hf) (q1 ?b3_16 A W 19 hf)
  refine oc0 (fun A W hx hf => ?_) ?_
  exact ok_move (q0 ?b3_17 A W 20 hf)
  refine ocg 21 ?_ (fun A W hx hf => ?_) ?_
  rfl
  exact gd_t (q1 ?b3_17 A W 21 hf) (fun hc => ok_fieldS 2 Try.underlying28 (k := 2) rfl size3 rfl (o1 s1 hx (r0 hf)) rfl)
  refine ocg 21 ?_ (fun A W hx hf => ?_) ?_
  rfl
  exact gd_t (q1 ?b3_17 A W 21 hf) (fun hc => ok_loadS Try.underlying3 rfl (G.get (q0 ?b3_19 A W 22 hf) hc) rfl)
  refine ocg 21 ?_ (fun A W hx hf => ?_) ?_
  rfl
  exact gd_t (q1 ?b3_17 A W 21 hf) (fun hc => ok_leq (G.get (q0 ?b3_20 A W 23 hf) hc) (ec A (.int .i64 255)))
  refine oc0 (fun A W hx hf => ?_) ?_
  exact ok_and (q0 ?b3_17 A W 21 hf) (q1 ?b3_21 A W 24 hf)
  refine oc0 (fun A W hx hf => ?_) ?_
  exact ok_move (q0 ?b3_22 A W 25 hf)
  refine ocg 26 ?_ (fun A W hx hf => ?_) ?_
  rfl
  exact gd_t (q1 ?b3_22 A W 26 hf) (fun hc => ok_fieldS 6 Try.underlying28 (k := 6) rfl size3 rfl (o1 s1 hx (r0 hf)) rfl)
  refine ocg 26 ?_ (fun A W hx hf => ?_) ?_
  rfl
  exact gd_t (q1 ?b3_22 A W 26 hf) (fun hc => ok_loadS Try.underlying3 rfl (G.get (q0 ?b3_24 A W 27 hf) hc) rfl)
  refine ocg 26 ?_ (fun A W hx hf => ?_) ?_
  rfl
  exact gd_t (q1 ?b3_22 A W 26 hf) (fun hc => ok_geq (G.get (q0 ?b3_25 A W 28 hf) hc) (ec A (.int .i64 0)))
  refine oc0 (fun A W hx hf => ?_) ?_
  exact ok_and (q0 ?b3_22 A W 26 hf) (q1 ?b3_26 A W 29 hf)
  refine oc0 (fun A W hx hf => ?_) ?_
  exact ok_move (q0 ?b3_27 A W 30 hf)
  refine ocg 31 ?_ (fun A W hx hf => ?_) ?_
  rfl
  exact gd_t (q1 ?b3_27 A W 31 hf) (fun hc => ok_fieldS 6 Try.underlying28 (k := 6) rfl size3 rfl (o1 s1 hx (r0 hf)) rfl)
  refine ocg 31 ?_ (fun A W hx hf => ?_) ?_
  rfl
  exact gd_t (q1 ?b3_27 A W 31 hf) (fun hc => ok_loadS Try.underlying3 rfl (G.get (q0 ?b3_29 A W 32 hf) hc) rfl)
  refine ocg 31 ?_ (fun A W hx hf => ?_) ?_
  rfl
  exact gd_t (q1 ?b3_27 A W 31 hf) (fun hc => ok_leq (G.get (q0 ?b3_30 A W 33 hf) hc) (ec A (.int .i64 255)))
  refine oc0 (fun A W hx hf => ?_) ?_
  exact ok_and (q0 ?b3_27 A W 31 hf) (q1 ?b3_31 A W 34 hf)
  refine oc0 (fun A W hx hf => ?_) ?_
  exact ok_move (q0 ?b3_32 A W 35 hf)
  refine ocg 36 ?_ (fun A W hx hf => ?_) ?_
  rfl
  exact gd_t (q1 ?b3_32 A W 36 hf) (fun hc => ok_fieldS 7 Try.underlying28 (k := 7) rfl size3 rfl (o1 s1 hx (r0 hf)) rfl)
  refine ocg 36 ?_ (fun A W hx hf => ?_) ?_
  rfl
  exact gd_t (q1 ?b3_32 A W 36 hf) (fun hc => ok_loadS Try.underlying3 rfl (G.get (q0 ?b3_34 A W 37 hf) hc) rfl)
  refine ocg 36 ?_ (fun A W hx hf => ?_) ?_
  rfl
  exact gd_t (q1 ?b3_32 A W 36 hf) (fun hc => ok_geq (G.get (q0 ?b3_35 A W 38 hf) hc) (ec A (.int .i64 0)))
  refine oc0 (fun A W hx hf => ?_) ?_
  exact ok_and (q0 ?b3_32 A W 36 hf) (q1 ?b3_36 A W 39 hf)
  refine oc0 (fun A W hx hf => ?_) ?_
  exact ok_move (q0 ?b3_37 A W 40 hf)
  refine ocg 41 ?_ (fun A W hx hf => ?_) ?_
  rfl
  exact gd_t (q1 ?b3_37 A W 41 hf) (fun hc => ok_fieldS 7 Try.underlying28 (k := 7) rfl size3 rfl (o1 s1 hx (r0 hf)) rfl)
  refine ocg 41 ?_ (fun A W hx hf => ?_) ?_
  rfl
  exact gd_t (q1 ?b3_37 A W 41 hf) (fun hc => ok_loadS Try.underlying3 rfl (G.get (q0 ?b3_39 A W 42 hf) hc) rfl)
  refine ocg 41 ?_ (fun A W hx hf => ?_) ?_
  rfl
  exact gd_t (q1 ?b3_37 A W 41 hf) (fun hc => ok_leq (G.get (q0 ?b3_40 A W 43 hf) hc) (ec A (.int .i64 255)))
  refine oc0 (fun A W hx hf => ?_) ?_
  exact ok_and (q0 ?b3_37 A W 41 hf) (q1 ?b3_41 A W 44 hf)
  refine oc0 (fun A W hx hf => ?_) ?_
  exact ok_move (q0 ?b3_42 A W 45 hf)
  refine ocg 46 ?_ (fun A W hx hf => ?_) ?_
  rfl
  exact gd_t (q1 ?b3_42 A W 46 hf) (fun hc => ok_fieldS 3 Try.underlying28 (k := 3) rfl size3 rfl (o1 s1 hx (r0 hf)) rfl)
  refine ocg 46 ?_ (fun A W hx hf => ?_) ?_
  rfl
  exact gd_t (q1 ?b3_42 A W 46 hf) (fun hc => ok_loadS Try.underlying3 rfl (G.get (q0 ?b3_44 A W 47 hf) hc) rfl)
  refine ocg 46 ?_ (fun A W hx hf => ?_) ?_
  rfl
  exact gd_t (q1 ?b3_42 A W 46 hf) (fun hc => ok_geq (G.get (q0 ?b3_45 A W 48 hf) hc) (ec A (.int .i64 0)))
  refine oc0 (fun A W hx hf => ?_) ?_
  exact ok_and (q0 ?b3_42 A W 46 hf) (q1 ?b3_46 A W 49 hf)
  refine oc0 (fun A W hx hf => ?_) ?_
  exact ok_move (q0 ?b3_47 A W 50 hf)
  refine ocg 51 ?_ (fun A W hx hf => ?_) ?_
  rfl
  exact gd_t (q1 ?b3_47 A W 51 hf) (fun hc => ok_fieldS 3 Try.underlying28 (k := 3) rfl size3 rfl (o1 s1 hx (r0 hf)) rfl)
  refine ocg 51 ?_ (fun A W hx hf => ?_) ?_
  rfl
  exact gd_t (q1 ?b3_47 A W 51 hf) (fun hc => ok_loadS Try.underlying3 rfl (G.get (q0 ?b3_49 A W 52 hf) hc) rfl)
  refine ocg 51 ?_ (fun A W hx hf => ?_) ?_
  rfl
  exact gd_t (q1 ?b3_47 A W 51 hf) (fun hc => ok_leq (G.get (q0 ?b3_50 A W 53 hf) hc) (ec A (.int .i64 65535)))
  refine oc0 (fun A W hx hf => ?_) ?_
  exact ok_and (q0 ?b3_47 A W 51 hf) (q1 ?b3_51 A W 54 hf)
  refine oc0 (fun A W hx hf => ?_) ?_
  exact ok_move (q0 ?b3_52 A W 55 hf)
  refine ocg 56 ?_ (fun A W hx hf => ?_) ?_
  rfl
  exact gd_t (q1 ?b3_52 A W 56 hf) (fun hc => ok_fieldS 4 Try.underlying28 (k := 4) rfl size4 rfl (o1 s1 hx (r0 hf)) rfl)
  refine ocg 56 ?_ (fun A W hx hf => ?_) ?_
  rfl
  exact gd_t (q1 ?b3_52 A W 56 hf) (fun hc => ok_loadS Try.underlying4 rfl (G.get (q0 ?b3_54 A W 57 hf) hc) rfl)
  refine ocg 56 ?_ (fun A W hx hf => ?_) ?_
  rfl
  exact gd_t (q1 ?b3_52 A W 56 hf) (fun hc => ok_not (G.get (q0 ?b3_55 A W 58 hf) hc))
  refine oc0 (fun A W hx hf => ?_) ?_
  exact ok_and (q0 ?b3_52 A W 56 hf) (q1 ?b3_56 A W 59 hf)
  refine oc0 (fun A W hx hf => ?_) ?_
  exact ok_move (q0 ?b3_57 A W 60 hf)
  refine ocg 61 ?_ (fun A W hx hf => ?_) ?_
  rfl
  exact gd_t (q1 ?b3_57 A W 61 hf) (fun hc => ok_fieldS 8 Try.underlying28 (k := 8) rfl size26 rfl (o1 s1 hx (r0 hf)) rfl)
  refine ocg 61 ?_ (fun A W hx hf => ?_) ?_
  rfl
  exact gd_t (q1 ?b3_57 A W 61 hf) (fun hc => ok_loadAggS 10 Try.underlying26 rfl size26 (G.get (q0 ?b3_59 A W 62 hf) hc) rfl)
  refine ocg 61 ?_ (fun A W hx hf => ?_) ?_
  rfl
  exact gd_t (q1 ?b3_57 A W 61 hf) (fun hc => ok_call1 body26 (c_r8Short (Is.conv (G.get (q0 ?b3_60 A W 63 hf) hc) (adr_seg H.src)) (by exact hH.1)))
  refine oc0 (fun A W hx hf => ?_) ?_
  exact ok_and (q0 ?b3_57 A W 61 hf) (q1 ?b3_61 A W 64 hf)
  refine oc0 (fun A W hx hf => ?_) ?_
  exact ok_move (q0 ?b3_62 A W 65 hf)
  refine ocg 66 ?_ (fun A W hx hf => ?_) ?_
  rfl
  exact gd_t (q1 ?b3_62 A W 66 hf) (fun hc => ok_fieldS 10 Try.underlying28 (k := 9) rfl size26 rfl (o1 s1 hx (r0 hf)) rfl)
  refine ocg 66 ?_ (fun A W hx hf => ?_) ?_
  rfl
  exact gd_t (q1 ?b3_62 A W 66 hf) (fun hc => ok_loadAggS 12 Try.underlying26 rfl size26 (G.get (q0 ?b3_64 A W 67 hf) hc) rfl)
  refine ocg 66 ?_ (fun A W hx hf => ?_) ?_
  rfl
  exact gd_t (q1 ?b3_62 A W 66 hf) (fun hc => ok_call1 body26 (c_r8Short (Is.conv (G.get (q0 ?b3_65 A W 68 hf) hc) (adr_seg H.dst)) (by exact hH.2)))
  refine oc0 (fun A W hx hf => ?_) ?_
  exact ok_and (q0 ?b3_62 A W 66 hf) (q1 ?b3_66 A W 69 hf)
  refine oc0 (fun A W hx hf => ?_) ?_
  exact ok_assign (q0 ?b3_67 A W 70 hf)
  exact OpsOk.nil
 case t3 => repeat (first | exact stb_nil | refine stb_cons ?_)
 clear hr; intro a4 w4 x hr hd hs
 clear s1
 have s2 := fa ?b3_67 a4 w4 2 (hd 68 2 rfl)
 replace e_w := e_w.trans x
 clear hd hs x
 refine exit_then ?_
 refine wp_ret ?_
 refine ret_tmp Try.results13 hr e_w ?_
 exact Is.bool s2 (rfour_right H)

def D_c_r8Put_0 : List Tmp := [35, 36]
def D_c_r8Put_1 : List Tmp := [3, 4, 37, 38, 39, 40, 41, 42, 43, 44, 45, 46, 47, 48]
def D_c_r8Put_2 : List Tmp := [3, 5, 49, 50, 51, 52, 53, 54, 55, 56, 57, 58, 59, 60]
theorem c_r8Put {x0 : Value} {w : World} {H : FourL} {B : Nat} (h0 : (Is (FourV H)) x0 w) (hH : FourOk H) (hr9 : fourRight H = true) (hB : B ≤ w.heap.size) :
    Calls Try.prog 15 #[x0] w (Ret (OwnB B 5 (fourPut H)) w) := by
 have hs16 := hH.1
 have hd16 := hH.2
 obtain ⟨k1, k2, k3, k4, k5, k6, k7⟩ := fourRight_bd hr9
 refine enter Try.func15 rfl Try.ntmps15 (k := 1) rfl (by decide) (fun a0 hr hargs => ?_)
 have s0 := sarg h0 (hargs 0 (by decide))
 clear hargs
 refine wp_seq ?_
 refine wp_reg 74 [[(0, none)], []] [?b1_0, ?b1_1] mixed (by kernel_rfl) (by kernel_rfl) hr ?t1 ?o1 ?_
 case o1 =>
  refine oc0 (fun A W hx hf => ?_) ?_
  exact ok_boxS (fourS2 H) [1, 1, 1, 1, 1, 1, 1, 1, 1, 16, 1, 16] (o1 s0 hx (r0 hf)) (by exact fourS2_lens hH) hx.size
  refine oc0 (fun A W hx hf => ?_) ?_
  exact ok_assignv (OwnBA 0 w.heap.size 5 []) (fun _ => ownBA_nil)
  exact OpsOk.nil
 case t1 => exact inferInstance
 clear hr; intro a2 w2 x hr hd hs
 clear s0
 have s1 := fa ?b1_0 a2 w2 1 (hd 0 1 rfl)
 obtain ⟨g2_1, q2_1⟩ := PxN.at s1; clear s1; have n2_1 := PxS.lt q2_1
 have s1 := q2_1; clear q2_1
 have e_w := x
 clear hd hs x
 refine exit_then ?_
 refine wp_seq ?_
 refine wp_reg 74 [[(1, none)], [(7, some 0)], [(8, some 1)], [(1, none)], [(10, some 3)], [(11, some 4)], [(12, some 5)], [(1, none)], [(14, some 7)], [(15, some 8)], [(16, some 9)], [(1, none)], [(18, some 11)], [(19, some 12)], [(20, some 13)], [(1, none)], [(22, some 15)], [(23, some 16)], [(24, some 17)], [(1, none)], [(26, some 19)], [(27, some 20)], [(1, none)], [(29, some 22)], [(30, some 23)], [(9, some 2), (13, some 6), (17, some 10), (21, some 14), (25, some 18), (28, some 21), (31, some 24)], [(32, some 25)]] [?b3_0, ?b3_1, ?b3_2, ?b3_3, ?b3_4, ?b3_5, ?b3_6, ?b3_7, ?b3_8, ?b3_9, ?b3_10, ?b3_11, ?b3_12, ?b3_13, ?b3_14, ?b3_15, ?b3_16, ?b3_17, ?b3_18, ?b3_19, ?b3_20, ?b3_21, ?b3_22, ?b3_23, ?b3_24, ?b3_25, ?b3_25] mixed (by kernel_rfl) (by kernel_rfl) hr ?t3 ?o3 ?_
 case o3 =>
  refine oc0 (fun A W hx hf => ?_) ?_
  exact ok_fieldS 2 Try.underlying28 (k := 2) rfl size3 rfl (o1 s1 hx (r0 hf)) rfl
  refine oc0 (fun A W hx hf => ?_) ?_
  exact ok_loadS Try.underlying3 rfl (q0 ?b3_0 A W 7 hf) rfl
  refine oc0 (fun A W hx hf => ?_) ?_
  exact ok_conv8 Try.underlying3 Try.underlying5 (q0 ?b3_1 A W 8 hf)
  refine oc0 (fun A W hx hf => ?_) ?_
  exact ok_fieldS 1 Try.underlying28 (k := 1) rfl size3 rfl (o1 s1 hx (r0 hf)) rfl
  refine oc0 (fun A W hx hf => ?_) ?_
  exact ok_loadS Try.underlying3 rfl (q0 ?b3_3 A W 10 hf) rfl
  refine oc0 (fun A W hx hf => ?_) ?_
  exact ok_quo (by decide) (q0 ?b3_4 A W 11 hf) (ec A (.int .i64 256))
  refine oc0 (fun A W hx hf => ?_) ?_
  exact ok_conv8 Try.underlying3 Try.underlying5 (q0 ?b3_5 A W 12 hf)
  refine oc0 (fun A W hx hf => ?_) ?_
  exact ok_fieldS 1 Try.underlying28 (k := 1) rfl size3 rfl (o1 s1 hx (r0 hf)) rfl
  refine oc0 (fun A W hx hf => ?_) ?_
  exact ok_loadS Try.underlying3 rfl (q0 ?b3_7 A W 14 hf) rfl
  refine oc0 (fun A W hx hf => ?_) ?_
  exact ok_rem (by decide) (q0 ?b3_8 A W 15 hf) (ec A (.int .i64 256))
  refine oc0 (fun A W hx hf => ?_) ?_
  exact ok_conv8 Try.underlying3 Try.underlying5 (q0 ?b3_9 A W 16 hf)
  refine oc0 (fun A W hx hf => ?_) ?_
  exact ok_fieldS 3 Try.underlying28 (k := 3) rfl size3 rfl (o1 s1 hx (r0 hf)) rfl
  refine oc0 (fun A W hx hf => ?_) ?_
  exact ok_loadS Try.underlying3 rfl (q0 ?b3_11 A W 18 hf) rfl
  refine oc0 (fun A W hx hf => ?_) ?_
  exact ok_quo (by decide) (q0 ?b3_12 A W 19 hf) (ec A (.int .i64 256))
  refine oc0 (fun A W hx hf => ?_) ?_
  exact ok_conv8 Try.underlying3 Try.underlying5 (q0 ?b3_13 A W 20 hf)
  refine oc0 (fun A W hx hf => ?_) ?_
  exact ok_fieldS 3 Try.underlying28 (k := 3) rfl size3 rfl (o1 s1 hx (r0 hf)) rfl
  refine oc0 (fun A W hx hf => ?_) ?_
  exact ok_loadS Try.underlying3 rfl (q0 ?b3_15 A W 22 hf) rfl
  refine oc0 (fun A W hx hf => ?_) ?_
  exact ok_rem (by decide) (q0 ?b3_16 A W 23 hf) (ec A (.int .i64 256))
  refine oc0 (fun A W hx hf => ?_) ?_
  exact ok_conv8 Try.underlying3 Try.underlying5 (q0 ?b3_17 A W 24 hf)
  refine oc0 (fun A W hx hf => ?_) ?_
  exact ok_fieldS 6 Try.underlying28 (k := 6) rfl size3 rfl (o1 s1 hx (r0 hf)) rfl
  refine oc0 (fun A W hx hf => ?_) ?_
  exact ok_loadS Try.underlying3 rfl (q0 ?b3_19 A W 26 hf) rfl
  refine oc0 (fun A W hx hf => ?_) ?_
  exact ok_conv8 Try.underlying3 Try.underlying5 (q0 ?b3_20 A W 27 hf)
  refine oc0 (fun A W hx hf => ?_) ?_
  exact ok_fieldS 7 Try.underlying28 (k := 7) rfl size3 rfl (o1 s1 hx (r0 hf)) rfl
  refine oc0 (fun A W hx hf => ?_) ?_
  exact ok_loadS Try.underlying3 rfl (q0 ?b3_22 A W 29 hf) rfl
  refine oc0 (fun A W hx hf => ?_) ?_
  exact ok_conv8 Try.underlying3 Try.underlying5 (q0 ?b3_23 A W 30 hf)
  refine oc0 (fun A W hx hf => ?_) ?_
  exact ok_ownBs [(.const (.int .u8 69)), (.tmp 9), (.tmp 13), (.tmp 17), (.tmp 21), (.tmp 25), (.const (.int .u8 0)), (.const (.int .u8 0)), (.tmp 28), (.tmp 31), (.const (.int .u8 0)), (.const (.int .u8 0))] [_, _, _, _, _, _, _, _, _, _, _, _] Try.underlying22 size5 zero5 rfl rfl (by decide) hx.size (PartsOk.cons (show ByteIs 69 _ _ from rfl) (PartsOk.cons (q0 ?b3_2 A W 9 hf) (PartsOk.cons (q1 ?b3_6 A W 13 hf) (PartsOk.cons (q2 ?b3_10 A W 17 hf) (PartsOk.cons (q3 ?b3_14 A W 21 hf) (PartsOk.cons (q4 ?b3_18 A W 25 hf) (PartsOk.cons (show ByteIs 0 _ _ from rfl) (PartsOk.cons (show ByteIs 0 _ _ from rfl) (PartsOk.cons (q5 ?b3_21 A W 28 hf) (PartsOk.cons (q6 ?b3_24 A W 31 hf) (PartsOk.cons (show ByteIs 0 _ _ from rfl) (PartsOk.cons (show ByteIs 0 _ _ from rfl) (PartsOk.nil)))))))))))))
  refine oc0 (fun A W hx hf => ?_) ?_
  exact ok_assign (q0 ?b3_25 A W 32 hf)
  exact OpsOk.nil
 case t3 => repeat (first | exact stb_nil | refine stb_cons ?_)
 clear hr; intro a4 w4 x hr hd hs
 have z_w_w2 := e_w.size
 have l4_1 := PxS.lt s1
 revert s1; refine kp1 hs rfl ?_; intro s1
 have s3 := fa ?b3_25 a4 w4 3 (hd 26 3 rfl)
 obtain ⟨g4_3, q4_3⟩ := OwnB.at s3; clear s3; have n4_3 := OwnBA.lt q4_3
 replace q4_3 := OwnBA.mono q4_3 e_w.size
 have s3 := q4_3; clear q4_3
 replace e_w := e_w.trans x
 have e_w2 := x
 clear hd hs x
 replace s3 := OwnBA.cast s3 (show _ = rB12 H from by unfold rB12; rw [b8_quo (n := H.total) (by omega), b8_rem (n := H.total) (by omega), b8_quo (n := H.id) (by omega), b8_rem (n := H.id) (by omega)])
 refine exit_then ?_
 refine wp_seq ?_
 refine wp_seq ?_
 refine wp_reg 74 [[(1, none)], [(33, some 0)]] [?b5_0, ?b5_1] mixed (by kernel_rfl) (by kernel_rfl) hr ?t5 ?o5 ?_
 case o5 =>
  refine oc0 (fun A W hx hf => ?_) ?_
  exact ok_fieldS 5 Try.underlying28 (k := 5) rfl size4 rfl (o2 s1 e_w2 hx (r0 hf)) rfl
  refine oc0 (fun A W hx hf => ?_) ?_
  exact ok_loadS Try.underlying4 rfl (q0 ?b5_0 A W 33 hf) rfl
  exact OpsOk.nil
 case t5 => exact inferInstance
 clear hr; intro a6 w6 x hr hd hs
 revert s1 s3; refine kp2 hs rfl ?_; intro s1 s3
 have s34 := fa ?b5_1 a6 w6 34 (hd 1 34 rfl)
 replace e_w := e_w.trans x
 replace e_w2 := e_w2.trans x
 have e_w4 := x
 clear hd hs x
 refine exit_then ?_
 refine wp_cut (fun A W => ∃ (β : Nat), Fr 74 A ∧ Same D_c_r8Put_0 a6 A ∧ Ext w W ∧ (g2_1 ≠ β) ∧ (PxS g2_1 w.heap.size [1, 1, 1, 1, 1, 1, 1, 1, 1, 16, 1, 16] (fourS2 H) 0) (A.eval (.tmp 1)) W ∧ (OwnBA β w.heap.size 5 (rB12k H)) (A.eval (.tmp 3)) W) ?cut7 ?_
 case cut7 =>
  have m7 : Same D_c_r8Put_0 a6 a6 := Same.rfl
  refine wp_cond_split (show _ = _ from s34) (fun hk => ?_) (fun hk => ?_)
  · skip
    skip
    refine wp_reg_pre (l := [_, _]) (rest := [_]) 74 [[(3, none)], [(35, some 0)]] [?b9_0, ?b9_1] (by kernel_rfl) (by kernel_rfl) hr ?t9 ?o9 ?_
    case o9 =>
     refine oc0 (fun A W hx hf => ?_) ?_
     exact ok_movE (a0 := a6) (r0 hf)
     refine oc0 (fun A W hx hf => ?_) ?_
     exact ok_indexA (6) Try.underlying22 size5 (p2 s3 e_w4 hx (q0 ?b9_0 A W 35 hf)) (ec A (.int .i64 6)) (by rw [rB12_len]; omega)
     exact OpsOk.nil
    case t9 => exact inferInstance
    clear hr; intro a10 w10 x hr hd hs
    revert s1 s3; refine kp2 hs rfl ?_; intro s1 s3
    clear s34
    have s36 := fa ?b9_1 a10 w10 36 (hd 1 36 rfl)
    replace e_w := e_w.trans x
    replace e_w2 := e_w2.trans x
    replace e_w4 := e_w4.trans x
    replace m7 := m7.tr hs rfl
    clear hd hs x
    have z11 := EpA.lt s36
    have l11 := (show (g4_3 = 0 ∨ w.heap.size < g4_3) ∧ True from ⟨by omega, trivial⟩)
    have l11_1 := PxS.lt (later e_w2 s1)
    refine wl_storeA hr size5 s36 (show ByteIs 64 _ _ from rfl) ?_; clear hr; intro a11 w11 hc hu hr hs
    have hb : Below w.heap.size w10 w11 := hc.below e_w.size l11.1
    revert s1 s3; refine kp2 hs rfl ?_; intro s1 s3
    clear s36
    replace s1 := PxS.other (later e_w2 s1) hc (by omega)
    replace s3 := hu _ _ _ (later e_w4 s3)
    replace e_w := e_w.below (Nat.le_refl _) hb
    clear e_w2
    clear e_w4
    replace m7 := m7.tr hs rfl
    clear hu hs hc hb
    refine wpList_nil ?_
    refine exit_then ?_
    refine ⟨g4_3, hr, m7, e_w, (by first | assumption | omega), ?_, ?_⟩
    · exact s1
    · first | exact OwnBA.cast s3 (rB12_keep hk) | exact OwnBA.cast s3 (rB12_not hk)
  · skip
    skip
    refine wp_skip ?_
    refine exit_then ?_
    refine ⟨g4_3, hr, m7, e_w, (by first | assumption | omega), ?_, ?_⟩
    · exact (later e_w2 s1)
    · first | exact OwnBA.cast (later e_w4 s3) (rB12_keep hk) | exact OwnBA.cast (later e_w4 s3) (rB12_not hk)
 intro a7 w7 hI
 clear e_w
 clear e_w2
 clear e_w4
 clear hr; obtain ⟨β, hr, hs, e_w, ne1, u1, u3⟩ := hI
 clear s1 s3 s34
 have s1 := u1; clear u1
 have s3 := u3; clear u3
 clear hs
 refine wp_seq ?_
 refine wp_seq ?_
 refine wp_reg 74 [[]] [?b12_0] mixed (by kernel_rfl) (by kernel_rfl) hr ?t12 ?o12 ?_
 case o12 =>
  refine oc0 (fun A W hx hf => ?_) ?_
  exact ok_assignc
  exact OpsOk.nil
 case t12 => exact inferInstance
 clear hr; intro a13 w13 x hr hd hs
 revert s1 s3; refine kp2 hs rfl ?_; intro s1 s3
 have s4 := fa ?b12_0 a13 w13 4 (hd 0 4 rfl)
 replace e_w := e_w.trans x
 have e_w7 := x
 clear hd hs x
 refine exit_then ?_
 refine wp_block ?_
 refine wp_loop_inv (fun n A W => ∃ (i β : Nat), n = 4 - i ∧ Fr 74 A ∧ Same D_c_r8Put_1 a13 A ∧ Ext w W ∧ (i ≤ 4) ∧ (g2_1 ≠ β) ∧ (PxS g2_1 w.heap.size [1, 1, 1, 1, 1, 1, 1, 1, 1, 16, 1, 16] (fourS2 H) 0) (A.eval (.tmp 1)) W ∧ (OwnBA β w.heap.size 5 (rB12k H ++ H.src.b.take i)) (A.eval (.tmp 3)) W ∧ (Is (.int .i64 (i : Int))) (A.eval (.tmp 4)) W) ?start14 ?_
 case start14 =>
  refine ⟨_, 0, β, rfl, hr, Same.rfl, e_w, (by first | assumption | omega), (by first | assumption | omega), ?_, ?_, ?_⟩
  · exact (later e_w7 s1)
  · exact OwnBA.cast (later e_w7 s3) (by simp)
  · first | exact s4 | exact Is.int s4 (by first | omega | simp) | exact Is.bool s4 (by first | omega | simp)
 intro n14 a14 w14 hI
 clear e_w
 clear e_w7
 clear hr; obtain ⟨i, β, hn14, hr, hs, e_w, hi, ne2, u1, u3, u4⟩ := hI
 clear s1 s3 s4
 have s1 := u1; clear u1
 have s3 := u3; clear u3
 have s4 := u4; clear u4
 have m14 := hs; clear hs
 refine wp_seq ?_
 refine wp_seq ?_
 refine wp_reg 74 [[(4, none)], [(37, some 0)]] [?b15_0, ?b15_1] mixed (by kernel_rfl) (by kernel_rfl) hr ?t15 ?o15 ?_
 case o15 =>
  refine oc0 (fun A W hx hf => ?_) ?_
  exact ok_movE (a0 := a14) (r0 hf)
  refine oc0 (fun A W hx hf => ?_) ?_
  exact ok_lss (p1 s4 hx (q0 ?b15_0 A W 37 hf)) (ec A (.int .i64 4))
  exact OpsOk.nil
 case t15 => exact inferInstance
 clear hr; intro a16 w16 x hr hd hs
 revert s1 s3 s4; refine kp3 hs rfl ?_; intro s1 s3 s4
 have s38 := fa ?b15_1 a16 w16 38 (hd 1 38 rfl)
 replace e_w := e_w.trans x
 have e_w14 := x
 replace m14 := m14.tr hs rfl
 clear hd hs x
 refine exit_then ?_
 refine wp_cond_split (show _ = _ from s38) (fun hlt => ?_) (fun hlt => ?_)
 · skip
   have hlt : i < 4 := by simp at hlt; omega
   refine wp_skip ?_
   refine exit_then ?_
   refine wp_seq ?_
   refine wp_block ?_
   refine wp_reg_pre (l := [_, _, _, _, _, _, _]) (rest := [_, _]) 74 [[(3, none)], [(4, none)], [(1, none)], [(43, some 2)], [(44, some 3), (42, some 1)], [(45, some 4)], [(46, some 5)]] [?b18_0, ?b18_1, ?b18_2, ?b18_3, ?b18_4, ?b18_5, ?b18_6] (by kernel_rfl) (by kernel_rfl) hr ?t18 ?o18 ?_
   case o18 =>
    refine oc0 (fun A W hx hf => ?_) ?_
    exact ok_movE (a0 := a16) (r0 hf)
    refine oc0 (fun A W hx hf => ?_) ?_
    exact ok_movE (a0 := a16) (r0 hf)
    refine oc0 (fun A W hx hf => ?_) ?_
    exact ok_fieldS 8 Try.underlying28 (k := 8) rfl size26 rfl (o2 s1 e_w14 hx (r0 hf)) rfl
    refine oc0 (fun A W hx hf => ?_) ?_
    exact ok_fieldS 9 Try.underlying26 (k := 1) rfl size24 rfl (q0 ?b18_2 A W 43 hf) rfl
    refine oc0 (fun A W hx hf => ?_) ?_
    exact ok_indexS (_) Try.underlying24 size5 (q0 ?b18_3 A W 44 hf) (p2 s4 e_w14 hx (q1 ?b18_1 A W 42 hf)) rfl (by first | omega | decide | (simp; done) | (simp; omega))
    refine oc0 (fun A W hx hf => ?_) ?_
    exact ok_loadE Try.underlying5 rfl (q0 ?b18_4 A W 45 hf) rfl (by omega)
    refine oc0 (fun A W hx hf => ?_) ?_
    exact ok_buildBs [(.tmp 46)] [_] Try.underlying22 size5 zero5 rfl rfl (by decide) (PartsOk.cons (q0 ?b18_5 A W 46 hf) (PartsOk.nil))
    exact OpsOk.nil
   case t18 => exact inferInstance
   clear hr; intro a19 w19 x hr hd hs
   have u41 := mv s3 (fa ?b18_0 a19 w19 41 (hd 0 41 rfl))
   revert s1 s3 s4; refine kp3 hs rfl ?_; intro s1 s3 s4
   clear s38
   have s41 := u41; clear u41
   have s47 := fa ?b18_6 a19 w19 47 (hd 6 47 rfl)
   replace e_w := e_w.trans x
   replace e_w14 := e_w14.trans x
   replace m14 := m14.tr hs rfl
   clear hd hs x
   have l20 := OwnBA.lt (later e_w14 s41)
   have l20_1 := PxS.lt (later e_w14 s1)
   refine wl_append_bsA hr (by decide) Try.underlying22 info5 rfl (later e_w14 s41) s47 e_w.size (by simp [rB12k_len]; omega) ?_; clear hr; intro g20 a20 w20 hg20 hc hr hd hs
   have hb := hc.below e_w.size l20.1
   revert s1 s4; refine kp2 hs rfl ?_; intro s1 s4
   clear s3 s41 s47
   replace s1 := PxS.other (later e_w14 s1) hc (by omega)
   have s48 := hd
   replace e_w := e_w.below (Nat.le_refl _) hb
   clear e_w14
   replace s4 := anyw (w2 := w20) s4
   replace m14 := m14.tr hs rfl
   clear hd hs hb hc
   refine wl_op hr (ok_assign s48) inferInstance ?_; clear hr; intro a21 w21 x hr hd hs
   revert s1 s4; refine kp2 hs rfl ?_; intro s1 s4
   clear s48
   have s3 := hd 3 rfl (by decide)
   replace e_w := e_w.trans x
   have e_w20 := x
   replace m14 := m14.tr hs rfl
   clear hd hs x
   refine wpList_nil ?_
   refine blk_normal ?_
   refine exit_then ?_
   refine wp_reg 74 [[(4, none)], [(39, some 0)], [(40, some 1)]] [?b22_0, ?b22_1, ?b22_1] mixed (by kernel_rfl) (by kernel_rfl) hr ?t22 ?o22 ?_
   case o22 =>
    refine oc0 (fun A W hx hf => ?_) ?_
    exact ok_movE (a0 := a21) (r0 hf)
    refine oc0 (fun A W hx hf => ?_) ?_
    exact ok_addI (p2 s4 e_w20 hx (q0 ?b22_0 A W 39 hf)) (ec A (.int .i64 1)) (by omega)
    refine oc0 (fun A W hx hf => ?_) ?_
    exact ok_assign (q0 ?b22_1 A W 40 hf)
    exact OpsOk.nil
   case t22 => exact inferInstance
   clear hr; intro a23 w23 x hr hd hs
   revert s1 s3; refine kp2 hs rfl ?_; intro s1 s3
   clear s4
   have s4 := fa ?b22_1 a23 w23 4 (hd 2 4 rfl)
   replace e_w := e_w.trans x
   replace e_w20 := e_w20.trans x
   have e_w21 := x
   replace m14 := m14.tr hs rfl
   clear hd hs x
   refine exit_then ?_
   refine ⟨(fun (i β : Nat) => 4 - i) (i + 1) (0), ?_, ?_⟩
   · (try dsimp only); omega
   refine ⟨i + 1, g20, rfl, hr, m14, e_w, (by first | assumption | omega), (by first | assumption | omega), ?_, ?_, ?_⟩
   · exact (later e_w20 s1)
   · exact OwnBA.cast (later e_w21 s3) (by rw [take_snocB (l := H.src.b) (by omega), List.append_assoc])
   · first | exact s4 | exact Is.int s4 (by first | omega | simp) | exact Is.bool s4 (by first | omega | simp)
 · skip
   have hlt : i = 4 := by simp at hlt; omega
   subst hlt
   refine wp_exit ?_
   refine then_exit ?_
   refine then_exit ?_
   refine blk_exit ?_
   refine exit_then ?_
   refine wp_seq ?_
   refine wp_seq ?_
   refine wp_reg 74 [[]] [?b24_0] mixed (by kernel_rfl) (by kernel_rfl) hr ?t24 ?o24 ?_
   case o24 =>
    refine oc0 (fun A W hx hf => ?_) ?_
    exact ok_assignc
    exact OpsOk.nil
   case t24 => exact inferInstance
   clear hr; intro a25 w25 x hr hd hs
   revert s1 s3; refine kp2 hs rfl ?_; intro s1 s3
   clear s4 s38
   have s5 := fa ?b24_0 a25 w25 5 (hd 0 5 rfl)
   replace e_w := e_w.trans x
   replace e_w14 := e_w14.trans x
   clear hd hs x
   refine exit_then ?_
   refine wp_block ?_
   refine wp_loop_inv (fun n A W => ∃ (j β : Nat), n = 4 - j ∧ Fr 74 A ∧ Same D_c_r8Put_2 a25 A ∧ Ext w W ∧ (j ≤ 4) ∧ (g2_1 ≠ β) ∧ (PxS g2_1 w.heap.size [1, 1, 1, 1, 1, 1, 1, 1, 1, 16, 1, 16] (fourS2 H) 0) (A.eval (.tmp 1)) W ∧ (OwnBA β w.heap.size 5 (rB12k H ++ H.src.b.take 4 ++ H.dst.b.take j)) (A.eval (.tmp 3)) W ∧ (Is (.int .i64 (j : Int))) (A.eval (.tmp 5)) W) ?start26 ?_
   case start26 =>
    refine ⟨_, 0, β, rfl, hr, Same.rfl, e_w, (by first | assumption | omega), (by first | assumption | omega), ?_, ?_, ?_⟩
    · exact (later e_w14 s1)
    · exact OwnBA.cast (later e_w14 s3) (by simp)
    · first | exact s5 | exact Is.int s5 (by first | omega | simp) | exact Is.bool s5 (by first | omega | simp)
   intro n26 a26 w26 hI
   clear e_w
   clear e_w14
   clear hr; obtain ⟨j, β, hn26, hr, hs, e_w, hj, ne3, u1, u3, u5⟩ := hI
   clear s1 s3 s5
   have s1 := u1; clear u1
   have s3 := u3; clear u3
   have s5 := u5; clear u5
   have m26 := hs; clear hs
   refine wp_seq ?_
   refine wp_seq ?_
   refine wp_reg 74 [[(5, none)], [(49, some 0)]] [?b27_0, ?b27_1] mixed (by kernel_rfl) (by kernel_rfl) hr ?t27 ?o27 ?_
   case o27 =>
    refine oc0 (fun A W hx hf => ?_) ?_
    exact ok_movE (a0 := a26) (r0 hf)
    refine oc0 (fun A W hx hf => ?_) ?_
    exact ok_lss (p1 s5 hx (q0 ?b27_0 A W 49 hf)) (ec A (.int .i64 4))
    exact OpsOk.nil
   case t27 => exact inferInstance
   clear hr; intro a28 w28 x hr hd hs
   revert s1 s3 s5; refine kp3 hs rfl ?_; intro s1 s3 s5
   have s50 := fa ?b27_1 a28 w28 50 (hd 1 50 rfl)
   replace e_w := e_w.trans x
   have e_w26 := x
   replace m26 := m26.tr hs rfl
   clear hd hs x
   refine exit_then ?_
   refine wp_cond_split (show _ = _ from s50) (fun hlt => ?_) (fun hlt => ?_)
   · skip
     have hlt : j < 4 := by simp at hlt; omega
     refine wp_skip ?_
     refine exit_then ?_
     refine wp_seq ?_
     refine wp_block ?_
     refine wp_reg_pre (l := [_, _, _, _, _, _, _]) (rest := [_, _]) 74 [[(3, none)], [(5, none)], [(1, none)], [(55, some 2)], [(56, some 3), (54, some 1)], [(57, some 4)], [(58, some 5)]] [?b30_0, ?b30_1, ?b30_2, ?b30_3, ?b30_4, ?b30_5, ?b30_6] (by kernel_rfl) (by kernel_rfl) hr ?t30 ?o30 ?_
     case o30 =>
      refine oc0 (fun A W hx hf => ?_) ?_
      exact ok_movE (a0 := a28) (r0 hf)
      refine oc0 (fun A W hx hf => ?_) ?_
      exact ok_movE (a0 := a28) (r0 hf)
      refine oc0 (fun A W hx hf => ?_) ?_
      exact ok_fieldS 10 Try.underlying28 (k := 9) rfl size26 rfl (o2 s1 e_w26 hx (r0 hf)) rfl
      refine oc0 (fun A W hx hf => ?_) ?_
      exact ok_fieldS 11 Try.underlying26 (k := 1) rfl size24 rfl (q0 ?b30_2 A W 55 hf) rfl
      refine oc0 (fun A W hx hf => ?_) ?_
      exact ok_indexS (_) Try.underlying24 size5 (q0 ?b30_3 A W 56 hf) (p2 s5 e_w26 hx (q1 ?b30_1 A W 54 hf)) rfl (by first | omega | decide | (simp; done) | (simp; omega))
      refine oc0 (fun A W hx hf => ?_) ?_
      exact ok_loadE Try.underlying5 rfl (q0 ?b30_4 A W 57 hf) rfl (by omega)
      refine oc0 (fun A W hx hf => ?_) ?_
      exact ok_buildBs [(.tmp 58)] [_] Try.underlying22 size5 zero5 rfl rfl (by decide) (PartsOk.cons (q0 ?b30_5 A W 58 hf) (PartsOk.nil))
      exact OpsOk.nil
     case t30 => exact inferInstance
     clear hr; intro a31 w31 x hr hd hs
     have u53 := mv s3 (fa ?b30_0 a31 w31 53 (hd 0 53 rfl))
     revert s1 s3 s5; refine kp3 hs rfl ?_; intro s1 s3 s5
     clear s50
     have s53 := u53; clear u53
     have s59 := fa ?b30_6 a31 w31 59 (hd 6 59 rfl)
     replace e_w := e_w.trans x
     replace e_w26 := e_w26.trans x
     replace m26 := m26.tr hs rfl
     clear hd hs x
     have l32 := OwnBA.lt (later e_w26 s53)
     have l32_1 := PxS.lt (later e_w26 s1)
     refine wl_append_bsA hr (by decide) Try.underlying22 info5 rfl (later e_w26 s53) s59 e_w.size (by simp [rB12k_len]; omega) ?_; clear hr; intro g32 a32 w32 hg32 hc hr hd hs
     have hb := hc.below e_w.size l32.1
     revert s1 s5; refine kp2 hs rfl ?_; intro s1 s5
     clear s3 s53 s59
     replace s1 := PxS.other (later e_w26 s1) hc (by omega)
     have s60 := hd
     replace e_w := e_w.below (Nat.le_refl _) hb
     clear e_w26
     replace s5 := anyw (w2 := w32) s5
     replace m26 := m26.tr hs rfl
     clear hd hs hb hc
     refine wl_op hr (ok_assign s60) inferInstance ?_; clear hr; intro a33 w33 x hr hd hs
     revert s1 s5; refine kp2 hs rfl ?_; intro s1 s5
     clear s60
     have s3 := hd 3 rfl (by decide)
     replace e_w := e_w.trans x
     have e_w32 := x
     replace m26 := m26.tr hs rfl
     clear hd hs x
     refine wpList_nil ?_
     refine blk_normal ?_
     refine exit_then ?_
     refine wp_reg 74 [[(5, none)], [(51, some 0)], [(52, some 1)]] [?b34_0, ?b34_1, ?b34_1] mixed (by kernel_rfl) (by kernel_rfl) hr ?t34 ?o34 ?_
     case o34 =>
      refine oc0 (fun A W hx hf => ?_) ?_
      exact ok_movE (a0 := a33) (r0 hf)
      refine oc0 (fun A W hx hf => ?_) ?_
      exact ok_addI (p2 s5 e_w32 hx (q0 ?b34_0 A W 51 hf)) (ec A (.int .i64 1)) (by omega)
      refine oc0 (fun A W hx hf => ?_) ?_
      exact ok_assign (q0 ?b34_1 A W 52 hf)
      exact OpsOk.nil
     case t34 => exact inferInstance
     clear hr; intro a35 w35 x hr hd hs
     revert s1 s3; refine kp2 hs rfl ?_; intro s1 s3
     clear s5
     have s5 := fa ?b34_1 a35 w35 5 (hd 2 5 rfl)
     replace e_w := e_w.trans x
     replace e_w32 := e_w32.trans x
     have e_w33 := x
     replace m26 := m26.tr hs rfl
     clear hd hs x
     refine exit_then ?_
     refine ⟨(fun (j β : Nat) => 4 - j) (j + 1) (0), ?_, ?_⟩
     · (try dsimp only); omega
     refine ⟨j + 1, g32, rfl, hr, m26, e_w, (by first | assumption | omega), (by first | assumption | omega), ?_, ?_, ?_⟩
     · exact (later e_w32 s1)
     · exact OwnBA.cast (later e_w33 s3) (by rw [take_snocB (l := H.dst.b) (by omega), ← List.append_assoc])
     · first | exact s5 | exact Is.int s5 (by first | omega | simp) | exact Is.bool s5 (by first | omega | simp)
   · skip
     have hlt : j = 4 := by simp at hlt; omega
     subst hlt
     replace s3 := OwnBA.cast s3 (rB20 H)
     have hcb := ck_bd (fourB H)
     have hbl := fourB_len hH
     refine wp_exit ?_
     refine then_exit ?_
     refine then_exit ?_
     refine blk_exit ?_
     refine exit_then ?_
     refine wp_seq ?_
     refine wp_reg 74 [[(3, none)], [(61, some 0)], [(62, some 1)]] [?b36_0, ?b36_1, ?b36_1] mixed (by kernel_rfl) (by kernel_rfl) hr ?t36 ?o36 ?_
     case o36 =>
      refine oc0 (fun A W hx hf => ?_) ?_
      exact ok_movE (a0 := a28) (r0 hf)
      refine oc0 (fun A W hx hf => ?_) ?_
      exact ok_call1 body16 (c_rSum (OwnBA.bs (p2 s3 e_w26 hx (q0 ?b36_0 A W 61 hf))) (by omega))
      refine oc0 (fun A W hx hf => ?_) ?_
      exact ok_assign (q0 ?b36_1 A W 62 hf)
      exact OpsOk.nil
     case t36 => exact inferInstance
     clear hr; intro a37 w37 x hr hd hs
     revert s3; refine kp1 hs rfl ?_; intro s3
     clear s1 s5 s50
     have s6 := fa ?b36_1 a37 w37 6 (hd 2 6 rfl)
     replace e_w := e_w.trans x
     replace e_w26 := e_w26.trans x
     clear hd hs x
     refine exit_then ?_
     refine wp_seq ?_
     refine wp_reg_pre (l := [_, _, _, _, _]) (rest := [_]) 74 [[(3, none)], [(6, none)], [(64, some 1)], [(65, some 2)], [(63, some 0)]] [?b38_0, ?b38_1, ?b38_2, ?b38_3, ?b38_4] (by kernel_rfl) (by kernel_rfl) hr ?t38 ?o38 ?_
     case o38 =>
      refine oc0 (fun A W hx hf => ?_) ?_
      exact ok_movE (a0 := a37) (r0 hf)
      refine oc0 (fun A W hx hf => ?_) ?_
      exact ok_movE (a0 := a37) (r0 hf)
      refine oc0 (fun A W hx hf => ?_) ?_
      exact ok_quo (by decide) (p1 s6 hx (q0 ?b38_1 A W 64 hf)) (ec A (.int .i64 256))
      refine oc0 (fun A W hx hf => ?_) ?_
      exact ok_conv8 Try.underlying3 Try.underlying5 (q0 ?b38_2 A W 65 hf)
      refine oc0 (fun A W hx hf => ?_) ?_
      exact ok_indexA (10) Try.underlying22 size5 (p2 s3 e_w26 hx (q0 ?b38_0 A W 63 hf)) (ec A (.int .i64 10)) (by omega)
      exact OpsOk.nil
     case t38 => exact inferInstance
     clear hr; intro a39 w39 x hr hd hs
     revert s3 s6; refine kp2 hs rfl ?_; intro s3 s6
     have s66 := fa ?b38_3 a39 w39 66 (hd 3 66 rfl)
     have s67 := fa ?b38_4 a39 w39 67 (hd 4 67 rfl)
     replace e_w := e_w.trans x
     replace e_w26 := e_w26.trans x
     have e_w37 := x
     clear hd hs x
     have z40 := EpA.lt s67
     have l40 := (show (β = 0 ∨ w.heap.size < β) ∧ True from ⟨by omega, trivial⟩)
     refine wl_storeA hr size5 s67 s66 ?_; clear hr; intro a40 w40 hc hu hr hs
     have hb : Below w.heap.size w39 w40 := hc.below e_w.size l40.1
     revert s3 s6; refine kp2 hs rfl ?_; intro s3 s6
     clear s66 s67
     replace s3 := hu _ _ _ (later e_w26 s3)
     replace e_w := e_w.below (Nat.le_refl _) hb
     clear e_w26
     clear e_w37
     replace s6 := anyw (w2 := w40) s6
     clear hu hs hc hb
     refine wpList_nil ?_
     refine exit_then ?_
     refine wp_seq ?_
     refine wp_reg_pre (l := [_, _, _, _, _]) (rest := [_]) 74 [[(3, none)], [(6, none)], [(69, some 1)], [(70, some 2)], [(68, some 0)]] [?b41_0, ?b41_1, ?b41_2, ?b41_3, ?b41_4] (by kernel_rfl) (by kernel_rfl) hr ?t41 ?o41 ?_
     case o41 =>
      refine oc0 (fun A W hx hf => ?_) ?_
      exact ok_movE (a0 := a40) (r0 hf)
      refine oc0 (fun A W hx hf => ?_) ?_
      exact ok_movE (a0 := a40) (r0 hf)
      refine oc0 (fun A W hx hf => ?_) ?_
      exact ok_rem (by decide) (p1 s6 hx (q0 ?b41_1 A W 69 hf)) (ec A (.int .i64 256))
      refine oc0 (fun A W hx hf => ?_) ?_
      exact ok_conv8 Try.underlying3 Try.underlying5 (q0 ?b41_2 A W 70 hf)
      refine oc0 (fun A W hx hf => ?_) ?_
      exact ok_indexA (11) Try.underlying22 size5 (p1 s3 hx (q0 ?b41_0 A W 68 hf)) (ec A (.int .i64 11)) (by simp; omega)
      exact OpsOk.nil
     case t41 => exact inferInstance
     clear hr; intro a42 w42 x hr hd hs
     revert s3; refine kp1 hs rfl ?_; intro s3
     clear s6
     have s71 := fa ?b41_3 a42 w42 71 (hd 3 71 rfl)
     have s72 := fa ?b41_4 a42 w42 72 (hd 4 72 rfl)
     replace e_w := e_w.trans x
     have e_w40 := x
     clear hd hs x
     have z43 := EpA.lt s72
     have l43 := (show (β = 0 ∨ w.heap.size < β) ∧ True from ⟨by omega, trivial⟩)
     refine wl_storeA hr size5 s72 s71 ?_; clear hr; intro a43 w43 hc hu hr hs
     have hb : Below w.heap.size w42 w43 := hc.below e_w.size l43.1
     revert s3; refine kp1 hs rfl ?_; intro s3
     clear s71 s72
     replace s3 := hu _ _ _ (later e_w40 s3)
     replace e_w := e_w.below (Nat.le_refl _) hb
     clear e_w40
     clear hu hs hc hb
     refine wpList_nil ?_
     refine exit_then ?_
     refine wp_seq ?_
     refine wp_reg 74 [[(3, none)], [(73, some 0)]] [?b44_0, ?b44_0] mixed (by kernel_rfl) (by kernel_rfl) hr ?t44 ?o44 ?_
     case o44 =>
      refine oc0 (fun A W hx hf => ?_) ?_
      exact ok_movE (a0 := a43) (r0 hf)
      refine oc0 (fun A W hx hf => ?_) ?_
      exact ok_assign (q0 ?b44_0 A W 73 hf)
      exact OpsOk.nil
     case t44 => exact inferInstance
     clear hr; intro a45 w45 x hr hd hs
     have u2 := mv s3 (fa ?b44_0 a45 w45 2 (hd 1 2 rfl))
     clear s3
     have s2 := u2; clear u2
     replace e_w := e_w.trans x
     have e_w43 := x
     clear hd hs x
     refine exit_then ?_
     refine wp_ret ?_
     refine ret_tmp Try.results15 hr e_w ?_
     exact OwnB.cast (OwnB.mono (later e_w43 s2).own hB) (rfour_put hbl hcb)

end Go.Proofs.Ytehhjmcdpcilfaa
