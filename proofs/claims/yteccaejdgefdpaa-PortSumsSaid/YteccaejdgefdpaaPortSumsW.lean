import Derived.Test.YteccaejdgefdpaaA10
namespace Go.Proofs.Yteccaejdgefdpaa
open Go.RowKit
set_option linter.unusedVariables false
set_option maxRecDepth 4000
theorem law_PortSums {x0 x1 x2 x3 : Value} {w : World} {Sa Da : Adr} {u : Bool} {l : List UInt8} (h0 : (Is (AdrV Sa)) x0 w) (h1 : (Is (AdrV Da)) x1 w) (h2 : (Is (.bool u)) x2 w) (h3 : (Bs l) x3 w) (hA : Sa.b.length = 16) (hD : Da.b.length = 16) :
    Calls Try.prog 4 #[x0, x1, x2, x3] w (Ret (Is (.bool true)) w) := by
 refine enter Try.func4 rfl Try.ntmps4 (k := 4) rfl (by decide) (fun a0 hr hargs => ?_)
 have s0 := sarg h0 (hargs 0 (by decide))
 have s1 := sarg h1 (hargs 1 (by decide))
 have s2 := sarg h2 (hargs 2 (by decide))
 have s3 := sarg h3 (hargs 3 (by decide))
 clear hargs
 refine wp_seq ?_
 refine wp_reg 48 [[(0, none)], [(1, none)], []] [?b1_0, ?b1_1, ?b1_2] mixed (by kernel_rfl) (by kernel_rfl) hr ?t1 ?o1 ?_
 case o1 =>
  refine oc0 (fun A W hx hf => ?_) ?_
  exact ok_boxS [[.bool Sa.six], Sa.b.map byteV] [1, 16] (Is.conv (o1 s0 hx (r0 hf)) (adr_seg Sa).symm) (by simp [*]) hx.size
  refine oc0 (fun A W hx hf => ?_) ?_
  exact ok_boxS [[.bool Da.six], Da.b.map byteV] [1, 16] (Is.conv (o1 s1 hx (r0 hf)) (adr_seg Da).symm) (by simp [*]) hx.size
  refine oc0 (fun A W hx hf => ?_) ?_
  exact ok_assignc
  exact OpsOk.nil
 case t1 => exact inferInstance
 clear hr; intro a2 w2 x hr hd hs
 revert s2 s3; refine kp2 hs rfl ?_; intro s2 s3
 clear s0 s1
 have s4 := fa ?b1_0 a2 w2 4 (hd 0 4 rfl)
 have s5 := fa ?b1_1 a2 w2 5 (hd 1 5 rfl)
 obtain ⟨g2_4, q2_4⟩ := PxN.at s4; clear s4; have n2_4 := PxS.lt q2_4
 have s4 := q2_4; clear q2_4
 obtain ⟨g2_5, q2_5⟩ := PxN.at s5; clear s5; have n2_5 := PxS.lt q2_5
 have s5 := q2_5; clear q2_5
 have e_w := x
 clear hd hs x
 refine exit_then ?_
 refine wp_seq ?_
 refine wp_seq ?_
 refine wp_reg 48 [[], [(9, some 0)], [(10, some 1)], [(4, none), (11, some 2)], [(5, none), (11, some 2)], [(2, none), (11, some 2)], [(3, none), (11, some 2)], [(12, some 3), (13, some 4), (14, some 5), (15, some 6), (11, some 2)], [(16, some 7), (11, some 2)], [(11, some 2), (17, some 8)]] [?b3_0, ?b3_1, ?b3_1, ?b3_3, ?b3_4, ?b3_5, ?b3_6, ?b3_7, ?b3_8, ?b3_9] mixed (by kernel_rfl) (by kernel_rfl) hr ?t3 ?o3 ?_
 case o3 =>
  refine oc0 (fun A W hx hf => ?_) ?_
  exact ok_call0 body9 (c_awake10 )
  refine oc0 (fun A W hx hf => ?_) ?_
  exact ok_not (q0 ?b3_0 A W 9 hf)
  refine oc0 (fun A W hx hf => ?_) ?_
  exact ok_move (q0 ?b3_1 A W 10 hf)
  refine ocg 11 ?_ (fun A W hx hf => ?_) ?_
  rfl
  exact gd_f (q1 ?b3_1 A W 11 hf) (fun hc => ok_loadAggS 2 Try.underlying35 rfl size35 (o1 s4 hx (r0 hf)) rfl)
  refine ocg 11 ?_ (fun A W hx hf => ?_) ?_
  rfl
  exact gd_f (q1 ?b3_1 A W 11 hf) (fun hc => ok_loadAggS 2 Try.underlying35 rfl size35 (o1 s5 hx (r0 hf)) rfl)
  refine ocg 11 ?_ (fun A W hx hf => ?_) ?_
  rfl
  exact gd_f (q1 ?b3_1 A W 11 hf) (fun hc => ok_movE (a0 := a2) (r0 hf))
  refine ocg 11 ?_ (fun A W hx hf => ?_) ?_
  rfl
  exact gd_f (q1 ?b3_1 A W 11 hf) (fun hc => ok_movE (a0 := a2) (r0 hf))
  refine ocg 11 ?_ (fun A W hx hf => ?_) ?_
  rfl
  exact gd_f (q4 ?b3_1 A W 11 hf) (fun hc => ok_call4 body14 (c_fit (Is.conv (G.get (q0 ?b3_3 A W 12 hf) hc) (adr_seg Sa)) (Is.conv (G.get (q1 ?b3_4 A W 13 hf) hc) (adr_seg Da)) (p2 s2 e_w hx (G.get (q2 ?b3_5 A W 14 hf) hc)) (p2 s3 e_w hx (G.get (q3 ?b3_6 A W 15 hf) hc)) (by assumption) (by assumption)))
  refine ocg 11 ?_ (fun A W hx hf => ?_) ?_
  rfl
  exact gd_f (q1 ?b3_1 A W 11 hf) (fun hc => ok_not (G.get (q0 ?b3_7 A W 16 hf) hc))
  refine oc0 (fun A W hx hf => ?_) ?_
  exact ok_or (q0 ?b3_1 A W 11 hf) (q1 ?b3_8 A W 17 hf)
  exact OpsOk.nil
 case t3 => exact inferInstance
 clear hr; intro a4 w4 x hr hd hs
 revert s2 s3 s4 s5; refine kp4 hs rfl ?_; intro s2 s3 s4 s5
 have s18 := fa ?b3_9 a4 w4 18 (hd 9 18 rfl)
 replace e_w := e_w.trans x
 have e_w2 := x
 clear hd hs x
 refine exit_then ?_
 refine wp_cond_split (show _ = _ from s18) (fun hg => ?_) (fun hg => ?_)
 · skip
   skip
   refine wp_seq ?_
   refine wp_reg 48 [[], [(19, some 0)]] [?b6_0, ?b6_0] mixed (by kernel_rfl) (by kernel_rfl) hr ?t6 ?o6 ?_
   case o6 =>
    refine oc0 (fun A W hx hf => ?_) ?_
    exact ok_call0 body9 (c_awake10 )
    refine oc0 (fun A W hx hf => ?_) ?_
    exact ok_assign (q0 ?b6_0 A W 19 hf)
    exact OpsOk.nil
   case t6 => exact inferInstance
   clear hr; intro a7 w7 x hr hd hs
   clear s2 s3 s4 s5 s18
   have s8 := fa ?b6_0 a7 w7 8 (hd 1 8 rfl)
   replace e_w := e_w.trans x
   clear e_w2
   clear hd hs x
   refine exit_then ?_
   refine wp_ret ?_
   refine then_ret ?_
   refine ret_tmp Try.results4 hr e_w ?_
   first | with_reducible exact s8 | exact Is.bool s8 (by simp)
 · skip
   obtain ⟨hsix, hok, hl⟩ := fit_yes hg
   refine wp_skip ?_
   refine exit_then ?_
   refine wp_seq ?_
   refine wp_reg 48 [[(4, none)], [(5, none)], [(2, none)], [(22, some 2)], [(3, none)], [(20, some 0), (21, some 1), (23, some 3), (24, some 4)], [(4, none)], [(5, none)], [(2, none)], [(28, some 8)], [(3, none)], [(26, some 6), (27, some 7), (29, some 9), (30, some 10)], [(25, some 5), (31, some 11)], [(32, some 12)], [(4, none), (33, some 13)], [(5, none), (33, some 13)], [(2, none), (33, some 13)], [(36, some 16), (33, some 13)], [(3, none), (33, some 13)], [(34, some 14), (35, some 15), (37, some 17), (38, some 18), (33, some 13)], [(4, none), (33, some 13)], [(5, none), (33, some 13)], [(2, none), (33, some 13)], [(42, some 22), (33, some 13)], [(3, none), (33, some 13)], [(40, some 20), (41, some 21), (43, some 23), (44, some 24), (33, some 13)], [(39, some 19), (45, some 25), (33, some 13)], [(33, some 13), (46, some 26)], [(47, some 27)]] [?b8_0, ?b8_1, ?b8_2, ?b8_3, ?b8_4, ?b8_5, ?b8_6, ?b8_7, ?b8_8, ?b8_9, ?b8_10, ?b8_11, ?b8_12, ?b8_12, ?b8_14, ?b8_15, ?b8_16, ?b8_17, ?b8_18, ?b8_19, ?b8_20, ?b8_21, ?b8_22, ?b8_23, ?b8_24, ?b8_25, ?b8_26, ?b8_27, ?b8_27] mixed (by kernel_rfl) (by kernel_rfl) hr ?t8 ?o8 ?_
   case o8 =>
    refine oc0 (fun A W hx hf => ?_) ?_
    exact ok_loadAggS 2 Try.underlying35 rfl size35 (o2 s4 e_w2 hx (r0 hf)) rfl
    refine oc0 (fun A W hx hf => ?_) ?_
    exact ok_loadAggS 2 Try.underlying35 rfl size35 (o2 s5 e_w2 hx (r0 hf)) rfl
    refine oc0 (fun A W hx hf => ?_) ?_
    exact ok_movE (a0 := a4) (r0 hf)
    refine oc0 (fun A W hx hf => ?_) ?_
    exact ok_call1 body16 (c_proto (p2 s2 e_w hx (q0 ?b8_2 A W 22 hf)))
    refine oc0 (fun A W hx hf => ?_) ?_
    exact ok_movE (a0 := a4) (r0 hf)
    refine oc0 (fun A W hx hf => ?_) ?_
    exact ok_call4 body15 (c_pRight (Is.conv (q0 ?b8_0 A W 20 hf) (adr_seg Sa)) (Is.conv (q1 ?b8_1 A W 21 hf) (adr_seg Da)) (q2 ?b8_3 A W 23 hf) (p2 s3 e_w hx (q3 ?b8_4 A W 24 hf)) (by assumption) (by assumption) (by assumption) (by omega))
    refine oc0 (fun A W hx hf => ?_) ?_
    exact ok_loadAggS 2 Try.underlying35 rfl size35 (o2 s4 e_w2 hx (r0 hf)) rfl
    refine oc0 (fun A W hx hf => ?_) ?_
    exact ok_loadAggS 2 Try.underlying35 rfl size35 (o2 s5 e_w2 hx (r0 hf)) rfl
    refine oc0 (fun A W hx hf => ?_) ?_
    exact ok_movE (a0 := a4) (r0 hf)
    refine oc0 (fun A W hx hf => ?_) ?_
    exact ok_call1 body16 (c_proto (p2 s2 e_w hx (q0 ?b8_8 A W 28 hf)))
    refine oc0 (fun A W hx hf => ?_) ?_
    exact ok_movE (a0 := a4) (r0 hf)
    refine oc0 (fun A W hx hf => ?_) ?_
    exact ok_call4 body17 (c_r10Right (Is.conv (q0 ?b8_6 A W 26 hf) (adr_seg Sa)) (Is.conv (q1 ?b8_7 A W 27 hf) (adr_seg Da)) (q2 ?b8_9 A W 29 hf) (p2 s3 e_w hx (q3 ?b8_10 A W 30 hf)) (by assumption) (by assumption) (by assumption) (by omega))
    refine oc0 (fun A W hx hf => ?_) ?_
    exact ok_eqb Try.underlying4 (q0 ?b8_5 A W 25 hf) (q1 ?b8_11 A W 31 hf)
    refine oc0 (fun A W hx hf => ?_) ?_
    exact ok_move (q0 ?b8_12 A W 32 hf)
    refine ocg 33 ?_ (fun A W hx hf => ?_) ?_
    rfl
    exact gd_t (q1 ?b8_12 A W 33 hf) (fun hc => ok_loadAggS 2 Try.underlying35 rfl size35 (o2 s4 e_w2 hx (r0 hf)) rfl)
    refine ocg 33 ?_ (fun A W hx hf => ?_) ?_
    rfl
    exact gd_t (q1 ?b8_12 A W 33 hf) (fun hc => ok_loadAggS 2 Try.underlying35 rfl size35 (o2 s5 e_w2 hx (r0 hf)) rfl)
    refine ocg 33 ?_ (fun A W hx hf => ?_) ?_
    rfl
    exact gd_t (q1 ?b8_12 A W 33 hf) (fun hc => ok_movE (a0 := a4) (r0 hf))
    refine ocg 33 ?_ (fun A W hx hf => ?_) ?_
    rfl
    exact gd_t (q1 ?b8_12 A W 33 hf) (fun hc => ok_call1 body16 (c_proto (p2 s2 e_w hx (G.get (q0 ?b8_16 A W 36 hf) hc))))
    refine ocg 33 ?_ (fun A W hx hf => ?_) ?_
    rfl
    exact gd_t (q1 ?b8_12 A W 33 hf) (fun hc => ok_movE (a0 := a4) (r0 hf))
    refine ocg 33 ?_ (fun A W hx hf => ?_) ?_
    rfl
    exact gd_t (q4 ?b8_12 A W 33 hf) (fun hc => ok_call4 body19 (c_pFill (Is.conv (G.get (q0 ?b8_14 A W 34 hf) hc) (adr_seg Sa)) (Is.conv (G.get (q1 ?b8_15 A W 35 hf) hc) (adr_seg Da)) (G.get (q2 ?b8_17 A W 37 hf) hc) (p2 s3 e_w hx (G.get (q3 ?b8_18 A W 38 hf) hc)) (by assumption) (by assumption) (by assumption) (by omega) hx.size))
    refine ocg 33 ?_ (fun A W hx hf => ?_) ?_
    rfl
    exact gd_t (q1 ?b8_12 A W 33 hf) (fun hc => ok_loadAggS 2 Try.underlying35 rfl size35 (o2 s4 e_w2 hx (r0 hf)) rfl)
    refine ocg 33 ?_ (fun A W hx hf => ?_) ?_
    rfl
    exact gd_t (q1 ?b8_12 A W 33 hf) (fun hc => ok_loadAggS 2 Try.underlying35 rfl size35 (o2 s5 e_w2 hx (r0 hf)) rfl)
    refine ocg 33 ?_ (fun A W hx hf => ?_) ?_
    rfl
    exact gd_t (q1 ?b8_12 A W 33 hf) (fun hc => ok_movE (a0 := a4) (r0 hf))
    refine ocg 33 ?_ (fun A W hx hf => ?_) ?_
    rfl
    exact gd_t (q1 ?b8_12 A W 33 hf) (fun hc => ok_call1 body16 (c_proto (p2 s2 e_w hx (G.get (q0 ?b8_22 A W 42 hf) hc))))
    refine ocg 33 ?_ (fun A W hx hf => ?_) ?_
    rfl
    exact gd_t (q1 ?b8_12 A W 33 hf) (fun hc => ok_movE (a0 := a4) (r0 hf))
    refine ocg 33 ?_ (fun A W hx hf => ?_) ?_
    rfl
    exact gd_t (q4 ?b8_12 A W 33 hf) (fun hc => ok_call4 body20 (c_r10Fill (Is.conv (G.get (q0 ?b8_20 A W 40 hf) hc) (adr_seg Sa)) (Is.conv (G.get (q1 ?b8_21 A W 41 hf) hc) (adr_seg Da)) (G.get (q2 ?b8_23 A W 43 hf) hc) (p2 s3 e_w hx (G.get (q3 ?b8_24 A W 44 hf) hc)) (by assumption) (by assumption) (by assumption) (by omega) hx.size))
    refine ocg 33 ?_ (fun A W hx hf => ?_) ?_
    rfl
    exact gd_t (q2 ?b8_12 A W 33 hf) (fun hc => ok_call2 body18 (c_Same (OwnB.bs (G.get (q0 ?b8_19 A W 39 hf) hc)) (OwnB.bs (G.get (q1 ?b8_25 A W 45 hf) hc))))
    refine oc0 (fun A W hx hf => ?_) ?_
    exact ok_and (q0 ?b8_12 A W 33 hf) (q1 ?b8_26 A W 46 hf)
    refine oc0 (fun A W hx hf => ?_) ?_
    exact ok_assign (q0 ?b8_27 A W 47 hf)
    exact OpsOk.nil
   case t8 => repeat (first | exact stb_nil | refine stb_cons ?_)
   clear hr; intro a9 w9 x hr hd hs
   have z_w_w4 := e_w.size
   have z_w2_w4 := e_w2.size
   clear s2 s3 s4 s5 s18
   have s8 := fa ?b8_27 a9 w9 8 (hd 28 8 rfl)
   replace e_w := e_w.trans x
   clear e_w2
   clear hd hs x
   refine exit_then ?_
   refine wp_ret ?_
   refine ret_tmp Try.results4 hr e_w ?_
   first | with_reducible exact s8 | exact Is.bool s8 (by simp)

end Go.Proofs.Yteccaejdgefdpaa
