import Derived.Test.YteccaejdgefdpaaA10
namespace Go.Proofs.Yteccaejdgefdpaa
open Go.RowKit
set_option linter.unusedVariables false
set_option maxRecDepth 4000
def D_law_PortFill_0 : List Tmp := [8, 12, 56, 57, 58, 59, 60, 61, 62, 63, 64, 65, 66, 67, 68, 69, 70, 71, 72, 73, 74, 75, 76, 77, 78, 79, 80, 81]
theorem law_PortFill {x0 x1 x2 x3 : Value} {w : World} {Sa Da : Adr} {u : Bool} {l : List UInt8} (h0 : (Is (AdrV Sa)) x0 w) (h1 : (Is (AdrV Da)) x1 w) (h2 : (Is (.bool u)) x2 w) (h3 : (Bs l) x3 w) (hA : Sa.b.length = 16) (hD : Da.b.length = 16) :
    Calls Try.prog 5 #[x0, x1, x2, x3] w (Ret (Is (.bool true)) w) := by
 refine enter Try.func5 rfl Try.ntmps5 (k := 4) rfl (by decide) (fun a0 hr hargs => ?_)
 have s0 := sarg h0 (hargs 0 (by decide))
 have s1 := sarg h1 (hargs 1 (by decide))
 have s2 := sarg h2 (hargs 2 (by decide))
 have s3 := sarg h3 (hargs 3 (by decide))
 clear hargs
 refine wp_seq ?_
 refine wp_reg 99 [[(0, none)], [(1, none)], []] [?b1_0, ?b1_1, ?b1_2] mixed (by kernel_rfl) (by kernel_rfl) hr ?t1 ?o1 ?_
 case o1 =>
  refine oc0 (fun A W hx hf => ?_) ?_
  exact ok_boxS [[.bool Sa.six], Sa.b.map byteV] [1, 16] (Is.conv (o1 s0 hx (r0 hf)) (adr_seg Sa).symm) (by simp [*]) hx.size
  refine oc0 (fun A W hx hf => ?_) ?_
  exact ok_boxS [[.bool Da.six], Da.b.map byteV] [1, 16] (Is.conv (o1 s1 hx (r0 hf)) (adr_seg Da).symm) (by simp [*]) hx.size
  refine oc0 (fun A W hx hf => ?_) ?_
  exact ok_assignc
  exact OpsOk.nil
 case t1 => exact inferInstance
 clear hr; intro a2 w2 x hr hd hs
 revert s2 s3; refine kp2 hs rfl ?_; intro s2 s3
 clear s0 s1
 have s4 := fa ?b1_0 a2 w2 4 (hd 0 4 rfl)
 have s5 := fa ?b1_1 a2 w2 5 (hd 1 5 rfl)
 obtain ⟨g2_4, q2_4⟩ := PxN.at s4; clear s4; have n2_4 := PxS.lt q2_4
 have s4 := q2_4; clear q2_4
 obtain ⟨g2_5, q2_5⟩ := PxN.at s5; clear s5; have n2_5 := PxS.lt q2_5
 have s5 := q2_5; clear q2_5
 have e_w := x
 clear hd hs x
 refine exit_then ?_
 refine wp_seq ?_
 refine wp_seq ?_
 refine wp_reg 99 [[], [(13, some 0)], [(14, some 1)], [(4, none), (15, some 2)], [(5, none), (15, some 2)], [(2, none), (15, some 2)], [(3, none), (15, some 2)], [(16, some 3), (17, some 4), (18, some 5), (19, some 6), (15, some 2)], [(20, some 7), (15, some 2)], [(15, some 2), (21, some 8)]] [?b3_0, ?b3_1, ?b3_1, ?b3_3, ?b3_4, ?b3_5, ?b3_6, ?b3_7, ?b3_8, ?b3_9] mixed (by kernel_rfl) (by kernel_rfl) hr ?t3 ?o3 ?_
 case o3 =>
  refine oc0 (fun A W hx hf => ?_) ?_
  exact ok_call0 body9 (c_awake10 )
  refine oc0 (fun A W hx hf => ?_) ?_
  exact ok_not (q0 ?b3_0 A W 13 hf)
  refine oc0 (fun A W hx hf => ?_) ?_
  exact ok_move (q0 ?b3_1 A W 14 hf)
  refine ocg 15 ?_ (fun A W hx hf => ?_) ?_
  rfl
  exact gd_f (q1 ?b3_1 A W 15 hf) (fun hc => ok_loadAggS 2 Try.underlying35 rfl size35 (o1 s4 hx (r0 hf)) rfl)
  refine ocg 15 ?_ (fun A W hx hf => ?_) ?_
  rfl
  exact gd_f (q1 ?b3_1 A W 15 hf) (fun hc => ok_loadAggS 2 Try.underlying35 rfl size35 (o1 s5 hx (r0 hf)) rfl)
  refine ocg 15 ?_ (fun A W hx hf => ?_) ?_
  rfl
  exact gd_f (q1 ?b3_1 A W 15 hf) (fun hc => ok_movE (a0 := a2) (r0 hf))
  refine ocg 15 ?_ (fun A W hx hf => ?_) ?_
  rfl
  exact gd_f (q1 ?b3_1 A W 15 hf) (fun hc => ok_movE (a0 := a2) (r0 hf))
  refine ocg 15 ?_ (fun A W hx hf => ?_) ?_
  rfl
  exact gd_f (q4 ?b3_1 A W 15 hf) (fun hc => ok_call4 body14 (c_fit (Is.conv (G.get (q0 ?b3_3 A W 16 hf) hc) (adr_seg Sa)) (Is.conv (G.get (q1 ?b3_4 A W 17 hf) hc) (adr_seg Da)) (p2 s2 e_w hx (G.get (q2 ?b3_5 A W 18 hf) hc)) (p2 s3 e_w hx (G.get (q3 ?b3_6 A W 19 hf) hc)) (by assumption) (by assumption)))
  refine ocg 15 ?_ (fun A W hx hf => ?_) ?_
  rfl
  exact gd_f (q1 ?b3_1 A W 15 hf) (fun hc => ok_not (G.get (q0 ?b3_7 A W 20 hf) hc))
  refine oc0 (fun A W hx hf => ?_) ?_
  exact ok_or (q0 ?b3_1 A W 15 hf) (q1 ?b3_8 A W 21 hf)
  exact OpsOk.nil
 case t3 => exact inferInstance
 clear hr; intro a4 w4 x hr hd hs
 revert s2 s3 s4 s5; refine kp4 hs rfl ?_; intro s2 s3 s4 s5
 have s22 := fa ?b3_9 a4 w4 22 (hd 9 22 rfl)
 replace e_w := e_w.trans x
 have e_w2 := x
 clear hd hs x
 refine exit_then ?_
 refine wp_cond_split (show _ = _ from s22) (fun hg => ?_) (fun hg => ?_)
 · skip
   skip
   refine wp_seq ?_
   refine wp_reg 99 [[], [(23, some 0)]] [?b6_0, ?b6_0] mixed (by kernel_rfl) (by kernel_rfl) hr ?t6 ?o6 ?_
   case o6 =>
    refine oc0 (fun A W hx hf => ?_) ?_
    exact ok_call0 body9 (c_awake10 )
    refine oc0 (fun A W hx hf => ?_) ?_
    exact ok_assign (q0 ?b6_0 A W 23 hf)
    exact OpsOk.nil
   case t6 => exact inferInstance
   clear hr; intro a7 w7 x hr hd hs
   clear s2 s3 s4 s5 s22
   have s8 := fa ?b6_0 a7 w7 8 (hd 1 8 rfl)
   replace e_w := e_w.trans x
   clear e_w2
   clear hd hs x
   refine exit_then ?_
   refine wp_ret ?_
   refine then_ret ?_
   refine ret_tmp Try.results5 hr e_w ?_
   first | with_reducible exact s8 | exact Is.bool s8 (fill_end hok (by omega) (by omega))
 · skip
   obtain ⟨hsix, hok, hl⟩ := fit_yes hg
   refine wp_skip ?_
   refine exit_then ?_
   refine wp_seq ?_
   refine wp_reg 99 [[(2, none)], [(24, some 0)], [(25, some 1)]] [?b8_0, ?b8_1, ?b8_1] mixed (by kernel_rfl) (by kernel_rfl) hr ?t8 ?o8 ?_
   case o8 =>
    refine oc0 (fun A W hx hf => ?_) ?_
    exact ok_movE (a0 := a4) (r0 hf)
    refine oc0 (fun A W hx hf => ?_) ?_
    exact ok_call1 body16 (c_proto (p2 s2 e_w hx (q0 ?b8_0 A W 24 hf)))
    refine oc0 (fun A W hx hf => ?_) ?_
    exact ok_assign (q0 ?b8_1 A W 25 hf)
    exact OpsOk.nil
   case t8 => exact inferInstance
   clear hr; intro a9 w9 x hr hd hs
   revert s2 s3 s4 s5; refine kp4 hs rfl ?_; intro s2 s3 s4 s5
   clear s22
   have s9 := fa ?b8_1 a9 w9 9 (hd 2 9 rfl)
   replace e_w := e_w.trans x
   replace e_w2 := e_w2.trans x
   clear hd hs x
   refine exit_then ?_
   refine wp_seq ?_
   refine wp_reg 99 [[(4, none)], [(5, none)], [(9, none)], [(3, none)], [(26, some 0), (27, some 1), (28, some 2), (29, some 3)], [(30, some 4)]] [?b10_0, ?b10_1, ?b10_2, ?b10_3, ?b10_4, ?b10_4] mixed (by kernel_rfl) (by kernel_rfl) hr ?t10 ?o10 ?_
   case o10 =>
    refine oc0 (fun A W hx hf => ?_) ?_
    exact ok_loadAggS 2 Try.underlying35 rfl size35 (o2 s4 e_w2 hx (r0 hf)) rfl
    refine oc0 (fun A W hx hf => ?_) ?_
    exact ok_loadAggS 2 Try.underlying35 rfl size35 (o2 s5 e_w2 hx (r0 hf)) rfl
    refine oc0 (fun A W hx hf => ?_) ?_
    exact ok_movE (a0 := a9) (r0 hf)
    refine oc0 (fun A W hx hf => ?_) ?_
    exact ok_movE (a0 := a9) (r0 hf)
    refine oc0 (fun A W hx hf => ?_) ?_
    exact ok_call4 body19 (c_pFill (Is.conv (q0 ?b10_0 A W 26 hf) (adr_seg Sa)) (Is.conv (q1 ?b10_1 A W 27 hf) (adr_seg Da)) (p1 s9 hx (q2 ?b10_2 A W 28 hf)) (p2 s3 e_w hx (q3 ?b10_3 A W 29 hf)) (by assumption) (by assumption) (by assumption) (by omega) hx.size)
    refine oc0 (fun A W hx hf => ?_) ?_
    exact ok_assign (q0 ?b10_4 A W 30 hf)
    exact OpsOk.nil
   case t10 => exact inferInstance
   clear hr; intro a11 w11 x hr hd hs
   have z_w_w9 := e_w.size
   have z_w2_w9 := e_w2.size
   have l11_4 := PxS.lt (later e_w2 s4)
   have l11_5 := PxS.lt (later e_w2 s5)
   revert s2 s3 s4 s5 s9; refine kp5 hs rfl ?_; intro s2 s3 s4 s5 s9
   have s10 := fa ?b10_4 a11 w11 10 (hd 5 10 rfl)
   obtain ⟨g11_10, q11_10⟩ := OwnB.at s10; clear s10; have n11_10 := OwnBA.lt q11_10
   replace q11_10 := OwnBA.mono q11_10 e_w.size
   have s10 := q11_10; clear q11_10
   replace e_w := e_w.trans x
   replace e_w2 := e_w2.trans x
   have e_w9 := x
   clear hd hs x
   refine exit_then ?_
   refine wp_seq ?_
   refine wp_seq ?_
   refine wp_reg 99 [[(10, none)], [(31, some 0)], [(3, none)], [(33, some 2)], [(32, some 1), (34, some 3)], [(35, some 4)], [(4, none), (36, some 5)], [(5, none), (36, some 5)], [(9, none), (36, some 5)], [(10, none), (36, some 5)], [(37, some 6), (38, some 7), (39, some 8), (40, some 9), (36, some 5)], [(41, some 10), (36, some 5)], [(36, some 5), (42, some 11)], [(43, some 12)], [(4, none), (44, some 13)], [(5, none), (44, some 13)], [(9, none), (44, some 13)], [(10, none), (44, some 13)], [(45, some 14), (46, some 15), (47, some 16), (48, some 17), (44, some 13)], [(10, none), (44, some 13)], [(49, some 18), (50, some 19), (44, some 13)], [(51, some 20), (44, some 13)], [(44, some 13), (52, some 21)]] [?b12_0, ?b12_1, ?b12_2, ?b12_3, ?b12_4, ?b12_4, ?b12_6, ?b12_7, ?b12_8, ?b12_9, ?b12_10, ?b12_11, ?b12_12, ?b12_12, ?b12_14, ?b12_15, ?b12_16, ?b12_17, ?b12_18, ?b12_19, ?b12_20, ?b12_21, ?b12_22] mixed (by kernel_rfl) (by kernel_rfl) hr ?t12 ?o12 ?_
   case o12 =>
    refine oc0 (fun A W hx hf => ?_) ?_
    exact ok_movE (a0 := a11) (r0 hf)
    refine oc0 (fun A W hx hf => ?_) ?_
    exact ok_len_bs Try.underlying22 (OwnBA.bs (p1 s10 hx (q0 ?b12_0 A W 31 hf)))
    refine oc0 (fun A W hx hf => ?_) ?_
    exact ok_movE (a0 := a11) (r0 hf)
    refine oc0 (fun A W hx hf => ?_) ?_
    exact ok_len_bs Try.underlying22 (p2 s3 e_w hx (q0 ?b12_2 A W 33 hf))
    refine oc0 (fun A W hx hf => ?_) ?_
    exact ok_neq (q0 ?b12_1 A W 32 hf) (q1 ?b12_3 A W 34 hf)
    refine oc0 (fun A W hx hf => ?_) ?_
    exact ok_move (q0 ?b12_4 A W 35 hf)
    refine ocg 36 ?_ (fun A W hx hf => ?_) ?_
    rfl
    exact gd_f (q1 ?b12_4 A W 36 hf) (fun hc => ok_loadAggS 2 Try.underlying35 rfl size35 (o2 s4 e_w2 hx (r0 hf)) rfl)
    refine ocg 36 ?_ (fun A W hx hf => ?_) ?_
    rfl
    exact gd_f (q1 ?b12_4 A W 36 hf) (fun hc => ok_loadAggS 2 Try.underlying35 rfl size35 (o2 s5 e_w2 hx (r0 hf)) rfl)
    refine ocg 36 ?_ (fun A W hx hf => ?_) ?_
    rfl
    exact gd_f (q1 ?b12_4 A W 36 hf) (fun hc => ok_movE (a0 := a11) (r0 hf))
    refine ocg 36 ?_ (fun A W hx hf => ?_) ?_
    rfl
    exact gd_f (q1 ?b12_4 A W 36 hf) (fun hc => ok_movE (a0 := a11) (r0 hf))
    refine ocg 36 ?_ (fun A W hx hf => ?_) ?_
    rfl
    exact gd_f (q4 ?b12_4 A W 36 hf) (fun hc => ok_call4 body15 (c_pRight (Is.conv (G.get (q0 ?b12_6 A W 37 hf) hc) (adr_seg Sa)) (Is.conv (G.get (q1 ?b12_7 A W 38 hf) hc) (adr_seg Da)) (p2 s9 e_w9 hx (G.get (q2 ?b12_8 A W 39 hf) hc)) (OwnBA.bs (p1 s10 hx (G.get (q3 ?b12_9 A W 40 hf) hc))) (by exact hA) (by exact hD) (by rw [fill_read hok]; exact hok) (by rw [fill_len hok]; omega)))
    refine ocg 36 ?_ (fun A W hx hf => ?_) ?_
    rfl
    exact gd_f (q1 ?b12_4 A W 36 hf) (fun hc => ok_not (G.get (q0 ?b12_10 A W 41 hf) hc))
    refine oc0 (fun A W hx hf => ?_) ?_
    exact ok_or (q0 ?b12_4 A W 36 hf) (q1 ?b12_11 A W 42 hf)
    refine oc0 (fun A W hx hf => ?_) ?_
    exact ok_move (q0 ?b12_12 A W 43 hf)
    refine ocg 44 ?_ (fun A W hx hf => ?_) ?_
    rfl
    exact gd_f (q1 ?b12_12 A W 44 hf) (fun hc => ok_loadAggS 2 Try.underlying35 rfl size35 (o2 s4 e_w2 hx (r0 hf)) rfl)
    refine ocg 44 ?_ (fun A W hx hf => ?_) ?_
    rfl
    exact gd_f (q1 ?b12_12 A W 44 hf) (fun hc => ok_loadAggS 2 Try.underlying35 rfl size35 (o2 s5 e_w2 hx (r0 hf)) rfl)
    refine ocg 44 ?_ (fun A W hx hf => ?_) ?_
    rfl
    exact gd_f (q1 ?b12_12 A W 44 hf) (fun hc => ok_movE (a0 := a11) (r0 hf))
    refine ocg 44 ?_ (fun A W hx hf => ?_) ?_
    rfl
    exact gd_f (q1 ?b12_12 A W 44 hf) (fun hc => ok_movE (a0 := a11) (r0 hf))
    refine ocg 44 ?_ (fun A W hx hf => ?_) ?_
    rfl
    exact gd_f (q4 ?b12_12 A W 44 hf) (fun hc => ok_call4 body19 (c_pFill (Is.conv (G.get (q0 ?b12_14 A W 45 hf) hc) (adr_seg Sa)) (Is.conv (G.get (q1 ?b12_15 A W 46 hf) hc) (adr_seg Da)) (p2 s9 e_w9 hx (G.get (q2 ?b12_16 A W 47 hf) hc)) (OwnBA.bs (p1 s10 hx (G.get (q3 ?b12_17 A W 48 hf) hc))) (by exact hA) (by exact hD) (by rw [fill_read hok]; exact hok) (by rw [fill_len hok]; omega) hx.size))
    refine ocg 44 ?_ (fun A W hx hf => ?_) ?_
    rfl
    exact gd_f (q1 ?b12_12 A W 44 hf) (fun hc => ok_movE (a0 := a11) (r0 hf))
    refine ocg 44 ?_ (fun A W hx hf => ?_) ?_
    rfl
    exact gd_f (q2 ?b12_12 A W 44 hf) (fun hc => ok_call2 body18 (c_Same (OwnB.bs (G.get (q0 ?b12_18 A W 49 hf) hc)) (OwnBA.bs (p1 s10 hx (G.get (q1 ?b12_19 A W 50 hf) hc)))))
    refine ocg 44 ?_ (fun A W hx hf => ?_) ?_
    rfl
    exact gd_f (q1 ?b12_12 A W 44 hf) (fun hc => ok_not (G.get (q0 ?b12_20 A W 51 hf) hc))
    refine oc0 (fun A W hx hf => ?_) ?_
    exact ok_or (q0 ?b12_12 A W 44 hf) (q1 ?b12_21 A W 52 hf)
    exact OpsOk.nil
   case t12 => exact inferInstance
   clear hr; intro a13 w13 x hr hd hs
   have z_w_w11 := e_w.size
   have z_w2_w11 := e_w2.size
   have z_w9_w11 := e_w9.size
   revert s2 s3 s9 s10; refine kp4 hs rfl ?_; intro s2 s3 s9 s10
   clear s4 s5
   have s53 := fa ?b12_22 a13 w13 53 (hd 22 53 rfl)
   replace e_w := e_w.trans x
   clear e_w2
   replace e_w9 := e_w9.trans x
   have e_w11 := x
   clear hd hs x
   refine exit_then ?_
   refine wp_cond_split (show _ = _ from s53) (fun hd9 => ?_) (fun hd9 => ?_)
   · skip
     exfalso; rw [fill_right hA hD hok, fill_again hok] at hd9; simp [fill_len hok] at hd9
   · skip
     clear hd9
     obtain ⟨v1, v2, v3⟩ := atN_le hok
     have hfl := fill_len (Sa := Sa) (Da := Da) hok
     refine wp_skip ?_
     refine exit_then ?_
     refine wp_seq ?_
     refine wp_reg 99 [[(9, none)], [(54, some 0)], [(55, some 1)]] [?b15_0, ?b15_1, ?b15_1] mixed (by kernel_rfl) (by kernel_rfl) hr ?t15 ?o15 ?_
     case o15 =>
      refine oc0 (fun A W hx hf => ?_) ?_
      exact ok_movE (a0 := a13) (r0 hf)
      refine oc0 (fun A W hx hf => ?_) ?_
      exact ok_call1 body12 (c_pPlace (p2 s9 e_w9 hx (q0 ?b15_0 A W 54 hf)))
      refine oc0 (fun A W hx hf => ?_) ?_
      exact ok_assign (q0 ?b15_1 A W 55 hf)
      exact OpsOk.nil
     case t15 => exact inferInstance
     clear hr; intro a16 w16 x hr hd hs
     revert s2 s3 s10; refine kp3 hs rfl ?_; intro s2 s3 s10
     clear s9 s53
     have s11 := fa ?b15_1 a16 w16 11 (hd 2 11 rfl)
     replace e_w := e_w.trans x
     clear e_w9
     replace e_w11 := e_w11.trans x
     clear hd hs x
     refine exit_then ?_
     refine wp_seq ?_
     refine wp_seq ?_
     refine wp_reg 99 [[]] [?b17_0] mixed (by kernel_rfl) (by kernel_rfl) hr ?t17 ?o17 ?_
     case o17 =>
      refine oc0 (fun A W hx hf => ?_) ?_
      exact ok_assignc
      exact OpsOk.nil
     case t17 => exact inferInstance
     clear hr; intro a18 w18 x hr hd hs
     revert s2 s3 s10 s11; refine kp4 hs rfl ?_; intro s2 s3 s10 s11
     have s12 := fa ?b17_0 a18 w18 12 (hd 0 12 rfl)
     replace e_w := e_w.trans x
     replace e_w11 := e_w11.trans x
     have e_w16 := x
     clear hd hs x
     refine exit_then ?_
     refine wp_block ?_
     refine wp_loop_inv (fun n A W => ∃ (i : Nat), n = l.length - i ∧ Fr 99 A ∧ Same D_law_PortFill_0 a18 A ∧ Ext w W ∧ Ext w11 W ∧ Ext w16 W ∧ (i ≤ l.length) ∧ (Is (.int .i64 (i : Int))) (A.eval (.tmp 12)) W) ?start19 ?_
     case start19 =>
      refine ⟨_, 0, rfl, hr, Same.rfl, e_w, e_w11, e_w16, (by first | assumption | omega), ?_⟩
      · exact s12
     intro n19 a19 w19 hI
     clear e_w
     clear e_w11
     clear e_w16
     clear hr; obtain ⟨i, hn19, hr, hs, e_w, e_w11, e_w16, hi, u12⟩ := hI
     revert s2 s3 s10 s11; refine kp4 hs rfl ?_; intro s2 s3 s10 s11
     clear s12
     have s12 := u12; clear u12
     have m19 := hs; clear hs
     refine wp_seq ?_
     refine wp_seq ?_
     refine wp_reg 99 [[(12, none)], [(3, none)], [(57, some 1)], [(56, some 0), (58, some 2)]] [?b20_0, ?b20_1, ?b20_2, ?b20_3] mixed (by kernel_rfl) (by kernel_rfl) hr ?t20 ?o20 ?_
     case o20 =>
      refine oc0 (fun A W hx hf => ?_) ?_
      exact ok_movE (a0 := a19) (r0 hf)
      refine oc0 (fun A W hx hf => ?_) ?_
      exact ok_movE (a0 := a19) (r0 hf)
      refine oc0 (fun A W hx hf => ?_) ?_
      exact ok_len_bs Try.underlying22 (p2 s3 e_w hx (q0 ?b20_1 A W 57 hf))
      refine oc0 (fun A W hx hf => ?_) ?_
      exact ok_lss (p1 s12 hx (q0 ?b20_0 A W 56 hf)) (q1 ?b20_2 A W 58 hf)
      exact OpsOk.nil
     case t20 => exact inferInstance
     clear hr; intro a21 w21 x hr hd hs
     revert s2 s3 s10 s11 s12; refine kp5 hs rfl ?_; intro s2 s3 s10 s11 s12
     have s59 := fa ?b20_3 a21 w21 59 (hd 3 59 rfl)
     replace e_w := e_w.trans x
     replace e_w11 := e_w11.trans x
     replace e_w16 := e_w16.trans x
     have e_w19 := x
     replace m19 := m19.tr hs rfl
     clear hd hs x
     refine exit_then ?_
     refine wp_cond_split (show _ = _ from s59) (fun hlt => ?_) (fun hlt => ?_)
     · skip
       have hlt : i < l.length := by simp at hlt; omega
       refine wp_skip ?_
       refine exit_then ?_
       refine wp_seq ?_
       refine wp_block ?_
       refine wp_seq ?_
       refine wp_reg 99 [[(10, none)], [(12, none)], [(62, some 0), (63, some 1)], [(64, some 2)], [(3, none)], [(12, none)], [(66, some 4), (67, some 5)], [(68, some 6)], [(65, some 3), (69, some 7)], [(70, some 8)], [(12, none), (71, some 9)], [(11, none), (71, some 9)], [(72, some 10), (73, some 11), (71, some 9)], [(71, some 9), (74, some 12)], [(75, some 13)], [(12, none), (76, some 14)], [(11, none), (76, some 14)], [(78, some 16), (76, some 14)], [(77, some 15), (79, some 17), (76, some 14)], [(76, some 14), (80, some 18)]] [?b23_0, ?b23_1, ?b23_2, ?b23_3, ?b23_4, ?b23_5, ?b23_6, ?b23_7, ?b23_8, ?b23_8, ?b23_10, ?b23_11, ?b23_12, ?b23_13, ?b23_13, ?b23_15, ?b23_16, ?b23_17, ?b23_18, ?b23_19] mixed (by kernel_rfl) (by kernel_rfl) hr ?t23 ?o23 ?_
       case o23 =>
        refine oc0 (fun A W hx hf => ?_) ?_
        exact ok_movE (a0 := a21) (r0 hf)
        refine oc0 (fun A W hx hf => ?_) ?_
        exact ok_movE (a0 := a21) (r0 hf)
        refine oc0 (fun A W hx hf => ?_) ?_
        exact ok_index_bs (_) Try.underlying22 size5 (OwnBA.bs (p2 s10 e_w11 hx (q0 ?b23_0 A W 62 hf))) (p2 s12 e_w19 hx (q1 ?b23_1 A W 63 hf)) (by omega)
        refine oc0 (fun A W hx hf => ?_) ?_
        exact ok_loadp Try.underlying5 rfl (q0 ?b23_2 A W 64 hf)
        refine oc0 (fun A W hx hf => ?_) ?_
        exact ok_movE (a0 := a21) (r0 hf)
        refine oc0 (fun A W hx hf => ?_) ?_
        exact ok_movE (a0 := a21) (r0 hf)
        refine oc0 (fun A W hx hf => ?_) ?_
        exact ok_index_bs (_) Try.underlying22 size5 (p2 s3 e_w hx (q0 ?b23_4 A W 66 hf)) (p2 s12 e_w19 hx (q1 ?b23_5 A W 67 hf)) (by omega)
        refine oc0 (fun A W hx hf => ?_) ?_
        exact ok_loadp Try.underlying5 rfl (q0 ?b23_6 A W 68 hf)
        refine oc0 (fun A W hx hf => ?_) ?_
        exact ok_neq (q0 ?b23_3 A W 65 hf) (q1 ?b23_7 A W 69 hf)
        refine oc0 (fun A W hx hf => ?_) ?_
        exact ok_move (q0 ?b23_8 A W 70 hf)
        refine ocg 71 ?_ (fun A W hx hf => ?_) ?_
        rfl
        exact gd_t (q1 ?b23_8 A W 71 hf) (fun hc => ok_movE (a0 := a21) (r0 hf))
        refine ocg 71 ?_ (fun A W hx hf => ?_) ?_
        rfl
        exact gd_t (q1 ?b23_8 A W 71 hf) (fun hc => ok_movE (a0 := a21) (r0 hf))
        refine ocg 71 ?_ (fun A W hx hf => ?_) ?_
        rfl
        exact gd_t (q2 ?b23_8 A W 71 hf) (fun hc => ok_neq (p2 s12 e_w19 hx (G.get (q0 ?b23_10 A W 72 hf) hc)) (p2 s11 e_w16 hx (G.get (q1 ?b23_11 A W 73 hf) hc)))
        refine oc0 (fun A W hx hf => ?_) ?_
        exact ok_and (q0 ?b23_8 A W 71 hf) (q1 ?b23_12 A W 74 hf)
        refine oc0 (fun A W hx hf => ?_) ?_
        exact ok_move (q0 ?b23_13 A W 75 hf)
        refine ocg 76 ?_ (fun A W hx hf => ?_) ?_
        rfl
        exact gd_t (q1 ?b23_13 A W 76 hf) (fun hc => ok_movE (a0 := a21) (r0 hf))
        refine ocg 76 ?_ (fun A W hx hf => ?_) ?_
        rfl
        exact gd_t (q1 ?b23_13 A W 76 hf) (fun hc => ok_movE (a0 := a21) (r0 hf))
        refine ocg 76 ?_ (fun A W hx hf => ?_) ?_
        rfl
        exact gd_t (q1 ?b23_13 A W 76 hf) (fun hc => ok_addI (p2 s11 e_w16 hx (G.get (q0 ?b23_16 A W 78 hf) hc)) (ec A (.int .i64 1)) (by omega))
        refine ocg 76 ?_ (fun A W hx hf => ?_) ?_
        rfl
        exact gd_t (q2 ?b23_13 A W 76 hf) (fun hc => ok_neq (p2 s12 e_w19 hx (G.get (q0 ?b23_15 A W 77 hf) hc)) (G.get (q1 ?b23_17 A W 79 hf) hc))
        refine oc0 (fun A W hx hf => ?_) ?_
        exact ok_and (q0 ?b23_13 A W 76 hf) (q1 ?b23_18 A W 80 hf)
        exact OpsOk.nil
       case t23 => exact inferInstance
       clear hr; intro a24 w24 x hr hd hs
       revert s2 s3 s10 s11 s12; refine kp5 hs rfl ?_; intro s2 s3 s10 s11 s12
       clear s59
       have s81 := fa ?b23_19 a24 w24 81 (hd 19 81 rfl)
       replace e_w := e_w.trans x
       replace e_w11 := e_w11.trans x
       replace e_w16 := e_w16.trans x
       replace e_w19 := e_w19.trans x
       replace m19 := m19.tr hs rfl
       clear hd hs x
       refine exit_then ?_
       refine wp_cond_split (show _ = _ from s81) (fun hd9 => ?_) (fun hd9 => ?_)
       · skip
         exact fill_same hok hlt (by omega) v2 hd9
       · skip
         try simp only [decide_eq_true_eq, decide_eq_false_iff_not, Bool.not_eq_true', Bool.not_eq_false', Bool.not_true, Bool.not_false, Bool.and_eq_true, Bool.and_eq_false_iff, Bool.or_eq_true, Bool.or_eq_false_iff, bne_iff_ne, beq_iff_eq, ne_eq, beq_eq_false_iff_ne, bne_eq_false_iff_eq] at hd9
         refine wp_skip ?_
         refine blk_normal ?_
         refine exit_then ?_
         refine wp_reg 99 [[(12, none)], [(60, some 0)], [(61, some 1)]] [?b26_0, ?b26_1, ?b26_1] mixed (by kernel_rfl) (by kernel_rfl) hr ?t26 ?o26 ?_
         case o26 =>
          refine oc0 (fun A W hx hf => ?_) ?_
          exact ok_movE (a0 := a24) (r0 hf)
          refine oc0 (fun A W hx hf => ?_) ?_
          exact ok_addI (p2 s12 e_w19 hx (q0 ?b26_0 A W 60 hf)) (ec A (.int .i64 1)) (by omega)
          refine oc0 (fun A W hx hf => ?_) ?_
          exact ok_assign (q0 ?b26_1 A W 61 hf)
          exact OpsOk.nil
         case t26 => exact inferInstance
         clear hr; intro a27 w27 x hr hd hs
         revert s2 s3 s10 s11; refine kp4 hs rfl ?_; intro s2 s3 s10 s11
         clear s12 s81
         have s12 := fa ?b26_1 a27 w27 12 (hd 2 12 rfl)
         replace e_w := e_w.trans x
         replace e_w11 := e_w11.trans x
         replace e_w16 := e_w16.trans x
         clear e_w19
         replace m19 := m19.tr hs rfl
         clear hd hs x
         refine exit_then ?_
         refine ⟨(fun (i : Nat) => l.length - i) (i + 1), ?_, ?_⟩
         · (try dsimp only); omega
         refine ⟨i + 1, rfl, hr, m19, e_w, e_w11, e_w16, (by first | assumption | omega), ?_⟩
         · exact s12
     · skip
       skip
       refine wp_exit ?_
       refine then_exit ?_
       refine then_exit ?_
       refine blk_exit ?_
       refine exit_then ?_
       refine wp_seq ?_
       refine wp_reg 99 [[(2, none)], [(82, some 0)], [(83, some 1)], [(10, none), (84, some 2)], [(11, none), (84, some 2)], [(85, some 3), (86, some 4), (84, some 2)], [(87, some 5), (84, some 2)], [(88, some 6), (84, some 2)], [(84, some 2), (89, some 7)], [(90, some 8)], [(10, none), (91, some 9)], [(11, none), (91, some 9)], [(93, some 11), (91, some 9)], [(92, some 10), (94, some 12), (91, some 9)], [(95, some 13), (91, some 9)], [(96, some 14), (91, some 9)], [(91, some 9), (97, some 15)], [(98, some 16)]] [?b28_0, ?b28_1, ?b28_1, ?b28_3, ?b28_4, ?b28_5, ?b28_6, ?b28_7, ?b28_8, ?b28_8, ?b28_10, ?b28_11, ?b28_12, ?b28_13, ?b28_14, ?b28_15, ?b28_16, ?b28_16] mixed (by kernel_rfl) (by kernel_rfl) hr ?t28 ?o28 ?_
       case o28 =>
        refine oc0 (fun A W hx hf => ?_) ?_
        exact ok_movE (a0 := a21) (r0 hf)
        refine oc0 (fun A W hx hf => ?_) ?_
        exact ok_not (p2 s2 e_w hx (q0 ?b28_0 A W 82 hf))
        refine oc0 (fun A W hx hf => ?_) ?_
        exact ok_move (q0 ?b28_1 A W 83 hf)
        refine ocg 84 ?_ (fun A W hx hf => ?_) ?_
        rfl
        exact gd_f (q1 ?b28_1 A W 84 hf) (fun hc => ok_movE (a0 := a21) (r0 hf))
        refine ocg 84 ?_ (fun A W hx hf => ?_) ?_
        rfl
        exact gd_f (q1 ?b28_1 A W 84 hf) (fun hc => ok_movE (a0 := a21) (r0 hf))
        refine ocg 84 ?_ (fun A W hx hf => ?_) ?_
        rfl
        exact gd_f (q2 ?b28_1 A W 84 hf) (fun hc => ok_index_bs (atN (protoI u)) Try.underlying22 size5 (OwnBA.bs (p2 s10 e_w11 hx (G.get (q0 ?b28_3 A W 85 hf) hc))) (Is.int (p2 s11 e_w16 hx (G.get (q1 ?b28_4 A W 86 hf) hc)) (by exact v2)) (by omega))
        refine ocg 84 ?_ (fun A W hx hf => ?_) ?_
        rfl
        exact gd_f (q1 ?b28_1 A W 84 hf) (fun hc => ok_loadp Try.underlying5 rfl (G.get (q0 ?b28_5 A W 87 hf) hc))
        refine ocg 84 ?_ (fun A W hx hf => ?_) ?_
        rfl
        exact gd_f (q1 ?b28_1 A W 84 hf) (fun hc => ok_neq (G.get (q0 ?b28_6 A W 88 hf) hc) (ec A (.int .u8 0)))
        refine oc0 (fun A W hx hf => ?_) ?_
        exact ok_or (q0 ?b28_1 A W 84 hf) (q1 ?b28_7 A W 89 hf)
        refine oc0 (fun A W hx hf => ?_) ?_
        exact ok_move (q0 ?b28_8 A W 90 hf)
        refine ocg 91 ?_ (fun A W hx hf => ?_) ?_
        rfl
        exact gd_f (q1 ?b28_8 A W 91 hf) (fun hc => ok_movE (a0 := a21) (r0 hf))
        refine ocg 91 ?_ (fun A W hx hf => ?_) ?_
        rfl
        exact gd_f (q1 ?b28_8 A W 91 hf) (fun hc => ok_movE (a0 := a21) (r0 hf))
        refine ocg 91 ?_ (fun A W hx hf => ?_) ?_
        rfl
        exact gd_f (q1 ?b28_8 A W 91 hf) (fun hc => ok_addI (p2 s11 e_w16 hx (G.get (q0 ?b28_11 A W 93 hf) hc)) (ec A (.int .i64 1)) (by omega))
        refine ocg 91 ?_ (fun A W hx hf => ?_) ?_
        rfl
        exact gd_f (q2 ?b28_8 A W 91 hf) (fun hc => ok_index_bs (atN (protoI u) + 1) Try.underlying22 size5 (OwnBA.bs (p2 s10 e_w11 hx (G.get (q0 ?b28_10 A W 92 hf) hc))) (Is.int (G.get (q1 ?b28_12 A W 94 hf) hc) (by omega)) (by omega))
        refine ocg 91 ?_ (fun A W hx hf => ?_) ?_
        rfl
        exact gd_f (q1 ?b28_8 A W 91 hf) (fun hc => ok_loadp Try.underlying5 rfl (G.get (q0 ?b28_13 A W 95 hf) hc))
        refine ocg 91 ?_ (fun A W hx hf => ?_) ?_
        rfl
        exact gd_f (q1 ?b28_8 A W 91 hf) (fun hc => ok_neq (G.get (q0 ?b28_14 A W 96 hf) hc) (ec A (.int .u8 0)))
        refine oc0 (fun A W hx hf => ?_) ?_
        exact ok_or (q0 ?b28_8 A W 91 hf) (q1 ?b28_15 A W 97 hf)
        refine oc0 (fun A W hx hf => ?_) ?_
        exact ok_assign (q0 ?b28_16 A W 98 hf)
        exact OpsOk.nil
       case t28 => exact inferInstance
       clear hr; intro a29 w29 x hr hd hs
       clear s2 s3 s10 s11 s12 s59
       have s8 := fa ?b28_16 a29 w29 8 (hd 17 8 rfl)
       replace e_w := e_w.trans x
       clear e_w11
       clear e_w16
       clear e_w19
       clear hd hs x
       refine exit_then ?_
       refine wp_ret ?_
       refine ret_tmp Try.results5 hr e_w ?_
       first | with_reducible exact s8 | exact Is.bool s8 (fill_end hok (by omega) (by omega))

end Go.Proofs.Yteccaejdgefdpaa
