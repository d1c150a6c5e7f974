import Derived.Test.YtpjpfmnnefgnbaaA11
import Derived.Test.YtpjpfmnnefgnbaaC11
namespace Go.Proofs.Ytpjpfmnnefgnbaa
open Go.RowKit
set_option linter.unusedVariables false
set_option linter.unusedSimpArgs false
set_option maxRecDepth 4000
set_option maxHeartbeats 1000000 in
theorem law_PacketMakes {x0 x1 x2 x3 : Value} {w : World} {L : LinkL} {T : TupL} {f : Int} {load : List UInt8} (h0 : (LinkV L) x0 w) (h1 : (Is (TupV T)) x1 w) (h2 : (Is (.int .i64 f)) x2 w) (h3 : (Bs load) x3 w) (hL : LinkOk L) (hT9 : TupOk T) :
    Calls Try.prog 4 #[x0, x1, x2, x3] w (Ret (Is (.bool true)) w) := by
 obtain ⟨v, eh0, hT, hvh0⟩ := h0
 replace h0 : Is (LnkA L v) x0 w := eh0
 have hll := Bs.len_le h3
 refine enter Try.func4 rfl Try.ntmps4 (k := 4) rfl (by decide) (fun a0 hr hargs => ?_)
 have s0 := sarg h0 (hargs 0 (by decide))
 have s1 := sarg h1 (hargs 1 (by decide))
 have s2 := sarg h2 (hargs 2 (by decide))
 have s3 := sarg h3 (hargs 3 (by decide))
 clear hargs
 refine wp_seq ?_
 refine wp_reg_pre (l := [_]) (rest := [_, _]) 61 [[(0, none)]] [?b1_0] hr ?t1 ?o1 ?_
 case o1 =>
  refine oc0 (fun A W hx hf => ?_) ?_
  exact ok_boxS (lnkS L v) [6, 6, 1, 1, 1] (o1 s0 hx (r0 hf)) (by exact lnkS_lens hL) hx.size
  exact OpsOk.nil
 case t1 => exact inferInstance
 clear hr; intro a2 w2 x hr hd hs
 revert s3; revert s2; revert s1; refine kp3 hs rfl ?_; intro s1 s2 s3
 clear s0
 have s4 := fa ?b1_0 a2 w2 4 (hd 0 4 rfl)
 obtain ⟨g2_4, q2_4⟩ := PxN.at s4; clear s4; have n2_4 := PxS.lt q2_4
 have s4 := q2_4; clear q2_4
 have e_w := x
 clear hd hs x
 have l3_4 := PxS.lt s4
 refine wl_op hr (ok_boxS (tupS T) [1, 16, 1, 16, 1, 1, 1] (later e_w s1) (by exact tupS_lens hT9) (Nat.le_refl _)) inferInstance ?_; clear hr; intro a3 w3 x hr hd hs
 revert s4; revert s3; revert s2; refine kp3 hs rfl ?_; intro s2 s3 s4
 clear s1
 have s5 := hd 5 rfl (by decide)
 obtain ⟨g3_5, q3_5⟩ := PxN.at s5; clear s5; have n3_5 := PxS.lt q3_5
 replace q3_5 := PxS.mono q3_5 e_w.size
 have s5 := q3_5; clear q3_5
 replace e_w := e_w.trans x
 have e_w2 := x
 clear hd hs x
 refine wl_op hr (ok_assignc) inferInstance ?_; clear hr; intro a4 w4 x hr hd hs
 revert s5; revert s4; revert s3; revert s2; refine kp4 hs rfl ?_; intro s2 s3 s4 s5
 replace e_w := e_w.trans x
 replace e_w2 := e_w2.trans x
 have e_w3 := x
 clear hd hs x
 refine wpList_nil ?_
 refine exit_then ?_
 refine wp_seq ?_
 refine wp_seq ?_
 refine wp_reg 61 [[], [(12, some 0)], [(13, some 1)], [(4, none), (14, some 2)], [(15, some 3), (14, some 2)], [(16, some 4), (14, some 2)], [(17, some 5), (14, some 2)], [(14, some 2), (18, some 6)], [(19, some 7)], [(3, none), (20, some 8)], [(21, some 9), (20, some 8)], [(22, some 10), (20, some 8)], [(20, some 8), (23, some 11)]] [?b5_0, ?b5_1, ?b5_1, ?b5_3, ?b5_4, ?b5_5, ?b5_6, ?b5_7, ?b5_7, ?b5_9, ?b5_10, ?b5_11, ?b5_12] mixed hr ?t5 ?o5 ?_
 case o5 =>
  refine oc0 (fun A W hx hf => ?_) ?_
  exact ok_call0 body9 (c_awake11 )
  refine oc0 (fun A W hx hf => ?_) ?_
  exact ok_not (q0 ?b5_0 A W 12 hf)
  refine oc0 (fun A W hx hf => ?_) ?_
  exact ok_move (q0 ?b5_1 A W 13 hf)
  refine ocg 14 ?_ (fun A W hx hf => ?_) ?_
  rfl
  exact gd_f (q1 ?b5_1 A W 14 hf) (fun hc => ok_fieldS 2 Try.underlying36 (k := 2) rfl size34 rfl (o2 s4 e_w2 hx (r0 hf)) rfl)
  refine ocg 14 ?_ (fun A W hx hf => ?_) ?_
  rfl
  exact gd_f (q1 ?b5_1 A W 14 hf) (fun hc => ok_is (ok_loadS Try.underlying34 rfl (G.get (q0 ?b5_3 A W 15 hf) hc) rfl) (later (e_w.trans hx) hT))
  refine ocg 14 ?_ (fun A W hx hf => ?_) ?_
  rfl
  exact gd_f (q1 ?b5_1 A W 14 hf) (fun hc => ok_len_rw Try.underlying34 (G.get (q0 ?b5_4 A W 16 hf) hc))
  refine ocg 14 ?_ (fun A W hx hf => ?_) ?_
  rfl
  exact gd_f (q1 ?b5_1 A W 14 hf) (fun hc => ok_gtr (G.get (q0 ?b5_5 A W 17 hf) hc) (ec A (.int .i64 100)))
  refine oc0 (fun A W hx hf => ?_) ?_
  exact ok_or (q0 ?b5_1 A W 14 hf) (q1 ?b5_6 A W 18 hf)
  refine oc0 (fun A W hx hf => ?_) ?_
  exact ok_move (q0 ?b5_7 A W 19 hf)
  refine ocg 20 ?_ (fun A W hx hf => ?_) ?_
  rfl
  exact gd_f (q1 ?b5_7 A W 20 hf) (fun hc => ok_movE (a0 := a4) (r0 hf))
  refine ocg 20 ?_ (fun A W hx hf => ?_) ?_
  rfl
  exact gd_f (q1 ?b5_7 A W 20 hf) (fun hc => ok_len_bs Try.underlying22 (p2 s3 e_w hx (G.get (q0 ?b5_9 A W 21 hf) hc)))
  refine ocg 20 ?_ (fun A W hx hf => ?_) ?_
  rfl
  exact gd_f (q1 ?b5_7 A W 20 hf) (fun hc => ok_gtr (G.get (q0 ?b5_10 A W 22 hf) hc) (ec A (.int .i64 70000)))
  refine oc0 (fun A W hx hf => ?_) ?_
  exact ok_or (q0 ?b5_7 A W 20 hf) (q1 ?b5_11 A W 23 hf)
  exact OpsOk.nil
 case t5 => exact inferInstance
 clear hr; intro a6 w6 x hr hd hs
 revert s5; revert s4; revert s3; revert s2; refine kp4 hs rfl ?_; intro s2 s3 s4 s5
 have s24 := fa ?b5_12 a6 w6 24 (hd 12 24 rfl)
 replace e_w := e_w.trans x
 replace e_w2 := e_w2.trans x
 replace e_w3 := e_w3.trans x
 clear hd hs x
 refine exit_then ?_
 refine wp_cond_split (show _ = _ from s24) (fun hg => ?_) (fun hg => ?_)
 ·
  skip
  refine wp_seq ?_
  refine wp_reg 61 [[], [(25, some 0)]] [?b8_0, ?b8_0] mixed hr ?t8 ?o8 ?_
  case o8 =>
   refine oc0 (fun A W hx hf => ?_) ?_
   exact ok_call0 body9 (c_awake11 )
   refine oc0 (fun A W hx hf => ?_) ?_
   exact ok_assign (q0 ?b8_0 A W 25 hf)
   exact OpsOk.nil
  case t8 => exact inferInstance
  clear hr; intro a9 w9 x hr hd hs
  clear s2 s3 s4 s5 s24
  have s8 := fa ?b8_0 a9 w9 8 (hd 1 8 rfl)
  replace e_w := e_w.trans x
  clear e_w2
  clear e_w3
  clear hd hs x
  refine exit_then ?_
  refine wp_ret ?_
  refine then_ret ?_
  refine ret_tmp Try.results4 hr e_w ?_
  first | with_reducible exact s8 | exact Is.bool s8 (by rw [hmk]; simp)
 ·
  have hg9 : L.tags.length ≤ 100 ∧ load.length ≤ 70000 := by simp at hg; omega
  refine wp_skip ?_
  refine exit_then ?_
  refine wp_seq ?_
  refine wp_reg 61 [[(4, none)], [(5, none)], [(2, none)], [(3, none)], [(27, some 0), (28, some 1), (29, some 2), (30, some 3)], [(31, some 4)], [(26, some 5)], [(26, some 5)], [(32, some 6)], [(33, some 7)]] [?b10_0, ?b10_1, ?b10_2, ?b10_3, ?b10_4, ?b10_4, ?b10_6, ?b10_7, ?b10_6, ?b10_7] mixed hr ?t10 ?o10 ?_
  case o10 =>
   refine oc0 (fun A W hx hf => ?_) ?_
   exact ok_loadAggS 5 Try.underlying36 rfl size36 (o2 s4 e_w2 hx (r0 hf)) rfl
   refine oc0 (fun A W hx hf => ?_) ?_
   exact ok_loadAggS 7 Try.underlying28 rfl size28 (o2 s5 e_w3 hx (r0 hf)) rfl
   refine oc0 (fun A W hx hf => ?_) ?_
   exact ok_movE (a0 := a6) (r0 hf)
   refine oc0 (fun A W hx hf => ?_) ?_
   exact ok_movE (a0 := a6) (r0 hf)
   refine oc0 (fun A W hx hf => ?_) ?_
   exact ok_call4 body12 (c_pkMake (LinkV.of (show Is (LnkA L v) _ _ from (q0 ?b10_0 A W 27 hf)) (later (e_w.trans hx) hT)) (show Is (TupV T) _ _ from (q1 ?b10_1 A W 28 hf)) (p2 s2 e_w hx (q2 ?b10_2 A W 29 hf)) (p2 s3 e_w hx (q3 ?b10_3 A W 30 hf)) (by exact hL) (by exact hT9) (by omega) hx.size)
   refine oc0 (fun A W hx hf => ?_) ?_
   exact ok_move (q0 ?b10_4 A W 31 hf)
   refine oc0 (fun A W hx hf => ?_) ?_
   exact ok_ext0 (q0 ?b10_4 A W 26 hf)
   refine oc0 (fun A W hx hf => ?_) ?_
   exact ok_ext1 (q0 ?b10_4 A W 26 hf)
   refine oc0 (fun A W hx hf => ?_) ?_
   exact ok_assign (q0 ?b10_6 A W 32 hf)
   refine oc0 (fun A W hx hf => ?_) ?_
   exact ok_assign (q0 ?b10_7 A W 33 hf)
   exact OpsOk.nil
  case t10 => exact inferInstance
  clear hr; intro a11 w11 x hr hd hs
  have z_w_w6 := e_w.size
  have z_w2_w6 := e_w2.size
  have z_w3_w6 := e_w3.size
  have l11_4 := PxS.lt (later e_w2 s4)
  have l11_5 := PxS.lt (later e_w3 s5)
  revert s5; revert s4; revert s3; revert s2; refine kp4 hs rfl ?_; intro s2 s3 s4 s5
  clear s24
  have s9 := fa ?b10_6 a11 w11 9 (hd 8 9 rfl)
  have s10 := fa ?b10_7 a11 w11 10 (hd 9 10 rfl)
  obtain ⟨g11_9, q11_9⟩ := OwnB.at s9; clear s9; have n11_9 := OwnBA.lt q11_9
  replace q11_9 := OwnBA.mono q11_9 e_w.size
  have s9 := q11_9; clear q11_9
  replace e_w := e_w.trans x
  replace e_w2 := e_w2.trans x
  replace e_w3 := e_w3.trans x
  clear hd hs x
  refine exit_then ?_
  refine wp_seq ?_
  refine wp_reg 61 [[(4, none)], [(5, none)], [(2, none)], [(3, none)], [(37, some 3)], [(34, some 0), (35, some 1), (36, some 2), (38, some 4)], [(39, some 5)]] [?b12_0, ?b12_1, ?b12_2, ?b12_3, ?b12_4, ?b12_5, ?b12_5] mixed hr ?t12 ?o12 ?_
  case o12 =>
   refine oc0 (fun A W hx hf => ?_) ?_
   exact ok_loadAggS 5 Try.underlying36 rfl size36 (o2 s4 e_w2 hx (r0 hf)) rfl
   refine oc0 (fun A W hx hf => ?_) ?_
   exact ok_loadAggS 7 Try.underlying28 rfl size28 (o2 s5 e_w3 hx (r0 hf)) rfl
   refine oc0 (fun A W hx hf => ?_) ?_
   exact ok_movE (a0 := a11) (r0 hf)
   refine oc0 (fun A W hx hf => ?_) ?_
   exact ok_movE (a0 := a11) (r0 hf)
   refine oc0 (fun A W hx hf => ?_) ?_
   exact ok_len_bs Try.underlying22 (p2 s3 e_w hx (q0 ?b12_3 A W 37 hf))
   refine oc0 (fun A W hx hf => ?_) ?_
   exact ok_call4 body13 (c_r11Why (LinkV.of (show Is (LnkA L v) _ _ from (q0 ?b12_0 A W 34 hf)) (later (e_w.trans hx) hT)) (show Is (TupV T) _ _ from (q1 ?b12_1 A W 35 hf)) (p2 s2 e_w hx (q2 ?b12_2 A W 36 hf)) (q3 ?b12_4 A W 38 hf) (by exact hL) (by exact hT9) (by omega))
   refine oc0 (fun A W hx hf => ?_) ?_
   exact ok_assign (q0 ?b12_5 A W 39 hf)
   exact OpsOk.nil
  case t12 => exact inferInstance
  clear hr; intro a13 w13 x hr hd hs
  revert s9; revert s10; revert s5; revert s4; revert s3; revert s2; refine kp6 hs rfl ?_; intro s2 s3 s4 s5 s10 s9
  have s11 := fa ?b12_5 a13 w13 11 (hd 6 11 rfl)
  replace e_w := e_w.trans x
  replace e_w2 := e_w2.trans x
  replace e_w3 := e_w3.trans x
  have e_w11 := x
  clear hd hs x
  refine exit_then ?_
  refine wp_seq ?_
  refine wp_seq ?_
  refine wp_reg 61 [[(11, none)], [(40, some 0)]] [?b14_0, ?b14_1] mixed hr ?t14 ?o14 ?_
  case o14 =>
   refine oc0 (fun A W hx hf => ?_) ?_
   exact ok_movE (a0 := a13) (r0 hf)
   refine oc0 (fun A W hx hf => ?_) ?_
   exact ok_neq (p1 s11 hx (q0 ?b14_0 A W 40 hf)) (ec A (.int .i64 0))
   exact OpsOk.nil
  case t14 => exact inferInstance
  clear hr; intro a15 w15 x hr hd hs
  revert s9; revert s10; revert s5; revert s4; revert s3; revert s2; refine kp6 hs rfl ?_; intro s2 s3 s4 s5 s10 s9
  revert s11; refine kp1 hs rfl ?_; intro s11
  have s41 := fa ?b14_1 a15 w15 41 (hd 1 41 rfl)
  replace e_w := e_w.trans x
  replace e_w2 := e_w2.trans x
  replace e_w3 := e_w3.trans x
  replace e_w11 := e_w11.trans x
  have e_w13 := x
  clear hd hs x
  refine exit_then ?_
  refine wp_cond_split (show _ = _ from s41) (fun hw => ?_) (fun hw => ?_)
  ·
   have hw : whyL L T f load.length ≠ 0 := by simpa using hw
   have hmk := makeR_no (load := load) rfl hw
   refine wp_seq ?_
   refine wp_reg 61 [[(10, none)], [(11, none)], [(42, some 0), (43, some 1)], [(44, some 2)], [(9, none), (45, some 3)], [(46, some 4), (45, some 3)], [(47, some 5), (45, some 3)], [(45, some 3), (48, some 6)], [(49, some 7)]] [?b17_0, ?b17_1, ?b17_2, ?b17_2, ?b17_4, ?b17_5, ?b17_6, ?b17_7, ?b17_7] mixed hr ?t17 ?o17 ?_
   case o17 =>
    refine oc0 (fun A W hx hf => ?_) ?_
    exact ok_movE (a0 := a15) (r0 hf)
    refine oc0 (fun A W hx hf => ?_) ?_
    exact ok_movE (a0 := a15) (r0 hf)
    refine oc0 (fun A W hx hf => ?_) ?_
    exact ok_eql (p2 s10 e_w11 hx (q0 ?b17_0 A W 42 hf)) (p2 s11 e_w13 hx (q1 ?b17_1 A W 43 hf))
    refine oc0 (fun A W hx hf => ?_) ?_
    exact ok_move (q0 ?b17_2 A W 44 hf)
    refine ocg 45 ?_ (fun A W hx hf => ?_) ?_
    rfl
    exact gd_t (q1 ?b17_2 A W 45 hf) (fun hc => ok_movE (a0 := a15) (r0 hf))
    refine ocg 45 ?_ (fun A W hx hf => ?_) ?_
    rfl
    exact gd_t (q1 ?b17_2 A W 45 hf) (fun hc => ok_len_bs Try.underlying22 (OwnBA.bs (p2 s9 e_w11 hx (G.get (q0 ?b17_4 A W 46 hf) hc))))
    refine ocg 45 ?_ (fun A W hx hf => ?_) ?_
    rfl
    exact gd_t (q1 ?b17_2 A W 45 hf) (fun hc => ok_eql (G.get (q0 ?b17_5 A W 47 hf) hc) (ec A (.int .i64 0)))
    refine oc0 (fun A W hx hf => ?_) ?_
    exact ok_and (q0 ?b17_2 A W 45 hf) (q1 ?b17_6 A W 48 hf)
    refine oc0 (fun A W hx hf => ?_) ?_
    exact ok_assign (q0 ?b17_7 A W 49 hf)
    exact OpsOk.nil
   case t17 => exact inferInstance
   clear hr; intro a18 w18 x hr hd hs
   clear s2 s3 s4 s5 s10 s9 s11 s41
   have s8 := fa ?b17_7 a18 w18 8 (hd 8 8 rfl)
   replace e_w := e_w.trans x
   clear e_w2
   clear e_w3
   clear e_w11
   clear e_w13
   clear hd hs x
   refine exit_then ?_
   refine wp_ret ?_
   refine then_ret ?_
   refine ret_tmp Try.results4 hr e_w ?_
   first | with_reducible exact s8 | exact Is.bool s8 (by rw [hmk]; simp)
  ·
   have hw : whyL L T f load.length = 0 := by simpa using hw
   have hmk := makeR_0 hw
   obtain ⟨k1, k2, k3⟩ := why_ok hw
   obtain ⟨k4, k5⟩ := why_seg hw
   have hml := makeL_len hL hT9 hw
   have hhl := headL_bd T
   have hml2 : (makeL L T f load).length ≤ 100000 := by split at hml <;> omega
   refine wp_skip ?_
   refine exit_then ?_
   refine wp_seq ?_
   refine wp_reg 61 [[(10, none)], [(50, some 0)], [(51, some 1)], [(9, none), (52, some 2)], [(4, none), (52, some 2)], [(5, none), (52, some 2)], [(2, none), (52, some 2)], [(3, none), (52, some 2)], [(54, some 4), (55, some 5), (56, some 6), (57, some 7), (52, some 2)], [(53, some 3), (58, some 8), (52, some 2)], [(52, some 2), (59, some 9)], [(60, some 10)]] [?b19_0, ?b19_1, ?b19_1, ?b19_3, ?b19_4, ?b19_5, ?b19_6, ?b19_7, ?b19_8, ?b19_9, ?b19_10, ?b19_10] mixed hr ?t19 ?o19 ?_
   case o19 =>
    refine oc0 (fun A W hx hf => ?_) ?_
    exact ok_movE (a0 := a15) (r0 hf)
    refine oc0 (fun A W hx hf => ?_) ?_
    exact ok_eql (p2 s10 e_w11 hx (q0 ?b19_0 A W 50 hf)) (ec A (.int .i64 0))
    refine oc0 (fun A W hx hf => ?_) ?_
    exact ok_move (q0 ?b19_1 A W 51 hf)
    refine ocg 52 ?_ (fun A W hx hf => ?_) ?_
    rfl
    exact gd_t (q1 ?b19_1 A W 52 hf) (fun hc => ok_movE (a0 := a15) (r0 hf))
    refine ocg 52 ?_ (fun A W hx hf => ?_) ?_
    rfl
    exact gd_t (q1 ?b19_1 A W 52 hf) (fun hc => ok_loadAggS 5 Try.underlying36 rfl size36 (o2 s4 e_w2 hx (r0 hf)) rfl)
    refine ocg 52 ?_ (fun A W hx hf => ?_) ?_
    rfl
    exact gd_t (q1 ?b19_1 A W 52 hf) (fun hc => ok_loadAggS 7 Try.underlying28 rfl size28 (o2 s5 e_w3 hx (r0 hf)) rfl)
    refine ocg 52 ?_ (fun A W hx hf => ?_) ?_
    rfl
    exact gd_t (q1 ?b19_1 A W 52 hf) (fun hc => ok_movE (a0 := a15) (r0 hf))
    refine ocg 52 ?_ (fun A W hx hf => ?_) ?_
    rfl
    exact gd_t (q1 ?b19_1 A W 52 hf) (fun hc => ok_movE (a0 := a15) (r0 hf))
    refine ocg 52 ?_ (fun A W hx hf => ?_) ?_
    rfl
    exact gd_t (q4 ?b19_1 A W 52 hf) (fun hc => ok_call4 body15 (c_r11Make (LinkV.of (show Is (LnkA L v) _ _ from (G.get (q0 ?b19_4 A W 54 hf) hc)) (later (e_w.trans hx) hT)) (show Is (TupV T) _ _ from (G.get (q1 ?b19_5 A W 55 hf) hc)) (p2 s2 e_w hx (G.get (q2 ?b19_6 A W 56 hf) hc)) (p2 s3 e_w hx (G.get (q3 ?b19_7 A W 57 hf) hc)) (by exact hL) (by exact hT9) (by exact k1) (by exact k2) (by exact k4) hx.size))
    refine ocg 52 ?_ (fun A W hx hf => ?_) ?_
    rfl
    exact gd_t (q2 ?b19_1 A W 52 hf) (fun hc => ok_call2 body14 (c_Same (OwnBA.bs (p2 s9 e_w11 hx (G.get (q0 ?b19_3 A W 53 hf) hc))) (OwnB.bs (G.get (q1 ?b19_8 A W 58 hf) hc))))
    refine oc0 (fun A W hx hf => ?_) ?_
    exact ok_and (q0 ?b19_1 A W 52 hf) (q1 ?b19_9 A W 59 hf)
    refine oc0 (fun A W hx hf => ?_) ?_
    exact ok_assign (q0 ?b19_10 A W 60 hf)
    exact OpsOk.nil
   case t19 => exact inferInstance
   clear hr; intro a20 w20 x hr hd hs
   have z_w_w15 := e_w.size
   have z_w2_w15 := e_w2.size
   have z_w3_w15 := e_w3.size
   have z_w11_w15 := e_w11.size
   have z_w13_w15 := e_w13.size
   clear s2 s3 s4 s5 s10 s9 s11 s41
   have s8 := fa ?b19_10 a20 w20 8 (hd 11 8 rfl)
   replace e_w := e_w.trans x
   clear e_w2
   clear e_w3
   clear e_w11
   clear e_w13
   clear hd hs x
   refine exit_then ?_
   refine wp_ret ?_
   refine ret_tmp Try.results4 hr e_w ?_
   first | with_reducible exact s8 | exact Is.bool s8 (by rw [hmk]; simp)

end Go.Proofs.Ytpjpfmnnefgnbaa
