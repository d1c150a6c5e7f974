import Derived.Test.YtpjpfmnnefgnbaaA11
import Derived.Test.YtpjpfmnnefgnbaaC11n
namespace Go.Proofs.Ytpjpfmnnefgnbaa
open Go.RowKit
set_option linter.unusedVariables false
set_option linter.unusedSimpArgs false
set_option maxRecDepth 4000
set_option maxHeartbeats 1000000 in
theorem law_PacketTurns {x0 x1 : Value} {w : World} {T : TupL} {load : List UInt8} (h0 : (Is (TupV T)) x0 w) (h1 : (Bs load) x1 w) (hT9 : TupOk T) :
    Calls Try.prog 8 #[x0, x1] w (Ret (Is (.bool true)) w) := by
 have hll := Bs.len_le h1
 have hu9 := turnT_ok hT9
 refine enter Try.func8 rfl Try.ntmps8 (k := 2) rfl (by decide) (fun a0 hr hargs => ?_)
 have s0 := sarg h0 (hargs 0 (by decide))
 have s1 := sarg h1 (hargs 1 (by decide))
 clear hargs
 refine wp_seq ?_
 refine wp_reg 65 [[(0, none)], []] [?b1_0, ?b1_1] mixed hr ?t1 ?o1 ?_
 case o1 =>
  refine oc0 (fun A W hx hf => ?_) ?_
  exact ok_boxS (tupS T) [1, 16, 1, 16, 1, 1, 1] (o1 s0 hx (r0 hf)) (by exact tupS_lens hT9) hx.size
  refine oc0 (fun A W hx hf => ?_) ?_
  exact ok_assignc
  exact OpsOk.nil
 case t1 => exact inferInstance
 clear hr; intro a2 w2 x hr hd hs
 revert s1; refine kp1 hs rfl ?_; intro s1
 clear s0
 have s2 := fa ?b1_0 a2 w2 2 (hd 0 2 rfl)
 obtain ⟨g2_2, q2_2⟩ := PxN.at s2; clear s2; have n2_2 := PxS.lt q2_2
 have s2 := q2_2; clear q2_2
 have e_w := x
 clear hd hs x
 refine exit_then ?_
 refine wp_seq ?_
 refine wp_seq ?_
 refine wp_reg 65 [[], [(10, some 0)], [(11, some 1)], [(1, none), (12, some 2)], [(13, some 3), (12, some 2)], [(14, some 4), (12, some 2)], [(12, some 2), (15, some 5)]] [?b3_0, ?b3_1, ?b3_1, ?b3_3, ?b3_4, ?b3_5, ?b3_6] mixed hr ?t3 ?o3 ?_
 case o3 =>
  refine oc0 (fun A W hx hf => ?_) ?_
  exact ok_call0 body9 (c_awake11 )
  refine oc0 (fun A W hx hf => ?_) ?_
  exact ok_not (q0 ?b3_0 A W 10 hf)
  refine oc0 (fun A W hx hf => ?_) ?_
  exact ok_move (q0 ?b3_1 A W 11 hf)
  refine ocg 12 ?_ (fun A W hx hf => ?_) ?_
  rfl
  exact gd_f (q1 ?b3_1 A W 12 hf) (fun hc => ok_movE (a0 := a2) (r0 hf))
  refine ocg 12 ?_ (fun A W hx hf => ?_) ?_
  rfl
  exact gd_f (q1 ?b3_1 A W 12 hf) (fun hc => ok_len_bs Try.underlying22 (p2 s1 e_w hx (G.get (q0 ?b3_3 A W 13 hf) hc)))
  refine ocg 12 ?_ (fun A W hx hf => ?_) ?_
  rfl
  exact gd_f (q1 ?b3_1 A W 12 hf) (fun hc => ok_gtr (G.get (q0 ?b3_4 A W 14 hf) hc) (ec A (.int .i64 300)))
  refine oc0 (fun A W hx hf => ?_) ?_
  exact ok_or (q0 ?b3_1 A W 12 hf) (q1 ?b3_5 A W 15 hf)
  exact OpsOk.nil
 case t3 => exact inferInstance
 clear hr; intro a4 w4 x hr hd hs
 revert s2; revert s1; refine kp2 hs rfl ?_; intro s1 s2
 have s16 := fa ?b3_6 a4 w4 16 (hd 6 16 rfl)
 replace e_w := e_w.trans x
 have e_w2 := x
 clear hd hs x
 refine exit_then ?_
 refine wp_cond_split (show _ = _ from s16) (fun hg => ?_) (fun hg => ?_)
 ·
  skip
  refine wp_seq ?_
  refine wp_reg 65 [[], [(17, some 0)]] [?b6_0, ?b6_0] mixed hr ?t6 ?o6 ?_
  case o6 =>
   refine oc0 (fun A W hx hf => ?_) ?_
   exact ok_call0 body9 (c_awake11 )
   refine oc0 (fun A W hx hf => ?_) ?_
   exact ok_assign (q0 ?b6_0 A W 17 hf)
   exact OpsOk.nil
  case t6 => exact inferInstance
  clear hr; intro a7 w7 x hr hd hs
  clear s1 s2 s16
  have s4 := fa ?b6_0 a7 w7 4 (hd 1 4 rfl)
  replace e_w := e_w.trans x
  clear e_w2
  clear hd hs x
  refine exit_then ?_
  refine wp_ret ?_
  refine then_ret ?_
  refine ret_tmp Try.results8 hr e_w ?_
  first | with_reducible exact s4 | exact Is.bool s4 (by rw [te1, te2]; simp)
 ·
  have hg9 : load.length ≤ 300 := by simp at hg; omega
  refine wp_skip ?_
  refine exit_then ?_
  refine wp_seq ?_
  refine wp_reg_pre (l := [_, _, _]) (rest := [_]) 65 [[(2, none)], [(18, some 0)], []] [?b8_0, ?b8_1, ?b8_2] hr ?t8 ?o8 ?_
  case o8 =>
   refine oc0 (fun A W hx hf => ?_) ?_
   exact ok_loadAggS 7 Try.underlying28 rfl size28 (o2 s2 e_w2 hx (r0 hf)) rfl
   refine oc0 (fun A W hx hf => ?_) ?_
   exact ok_call1 body18 (c_turn (show Is (TupV T) _ _ from (q0 ?b8_0 A W 18 hf)) (by exact hT9))
   refine oc0 (fun A W hx hf => ?_) ?_
   exact ok_allocS [(tupS tup0).flatten] [37] zerov28 (by rfl) (by rfl) hx.size
   exact OpsOk.nil
  case t8 => exact inferInstance
  clear hr; intro a9 w9 x hr hd hs
  have z_w_w4 := e_w.size
  have z_w2_w4 := e_w2.size
  have l9_2 := PxS.lt (later e_w2 s2)
  revert s2; revert s1; refine kp2 hs rfl ?_; intro s1 s2
  clear s16
  have s19 := fa ?b8_1 a9 w9 19 (hd 1 19 rfl)
  have s5 := fa ?b8_2 a9 w9 5 (hd 2 5 rfl)
  obtain ⟨g9_5, q9_5⟩ := PxN.at s5; clear s5; have n9_5 := PxS.lt q9_5
  replace q9_5 := PxS.mono q9_5 e_w.size
  have s5 := q9_5; clear q9_5
  replace e_w := e_w.trans x
  replace e_w2 := e_w2.trans x
  clear hd hs x
  have z10 := PxS.lt s5
  have l10 := (show (g9_5 = 0 ∨ w.heap.size < g9_5) ∧ True from ⟨by omega, trivial⟩)
  have l10_2 := PxS.lt (later e_w2 s2)
  refine wl_storeSn hr size28 s5 (Is.conv s19 (show _ = TupV (turnT T) from rfl)) (by exact tup_len hu9) (by exact tup_one) rfl ?_; clear hr; intro a10 w10 hc hu hr hs
  have hb : Below w.heap.size w9 w10 := hc.below e_w.size l10.1
  revert s5; revert s2; revert s1; refine kp3 hs rfl ?_; intro s1 s2 s5
  clear s19
  replace s2 := PxS.other (later e_w2 s2) hc (by omega)
  replace s5 := hu _ _ _ s5
  try simp only [List.set_cons_zero, List.set_cons_succ] at s5
  replace e_w := e_w.below (Nat.le_refl _) hb
  clear e_w2
  clear hu hs hc hb
  refine wpList_nil ?_
  refine exit_then ?_
  refine wp_seq ?_
  refine wp_seq ?_
  refine wp_reg 65 [[(5, none)], [(2, none)], [(21, some 1)], [(20, some 0), (22, some 2)], [(23, some 3)], [(5, none), (24, some 4)], [(25, some 5), (24, some 4)], [(2, none), (24, some 4)], [(26, some 6), (27, some 7), (24, some 4)], [(24, some 4), (28, some 8)]] [?b11_0, ?b11_1, ?b11_2, ?b11_3, ?b11_3, ?b11_5, ?b11_6, ?b11_7, ?b11_8, ?b11_9] mixed hr ?t11 ?o11 ?_
  case o11 =>
   refine oc0 (fun A W hx hf => ?_) ?_
   exact ok_loadSeg Try.underlying28 rfl size28 (o1 s5 hx (r0 hf)) rfl rfl
   refine oc0 (fun A W hx hf => ?_) ?_
   exact ok_loadAggS 7 Try.underlying28 rfl size28 (o1 s2 hx (r0 hf)) rfl
   refine oc0 (fun A W hx hf => ?_) ?_
   exact ok_call1 body19 (c_r11Turn (show Is (TupV T) _ _ from (q0 ?b11_1 A W 21 hf)) (by exact hT9))
   refine oc0 (fun A W hx hf => ?_) ?_
   exact ok_neself eqg28 (eq_tup0 hu9) (Is.conv (q0 ?b11_0 A W 20 hf) (show _ = TupV (turnT T) from by simp [TupV])) (Is.conv (q1 ?b11_2 A W 22 hf) (show _ = TupV (turnT T) from rfl))
   refine oc0 (fun A W hx hf => ?_) ?_
   exact ok_move (q0 ?b11_3 A W 23 hf)
   refine ocg 24 ?_ (fun A W hx hf => ?_) ?_
   rfl
   exact gd_f (q1 ?b11_3 A W 24 hf) (fun hc => ok_loadSeg Try.underlying28 rfl size28 (o1 s5 hx (r0 hf)) rfl rfl)
   refine ocg 24 ?_ (fun A W hx hf => ?_) ?_
   rfl
   exact gd_f (q1 ?b11_3 A W 24 hf) (fun hc => ok_call1 body18 (c_turn (Is.conv (G.get (q0 ?b11_5 A W 25 hf) hc) (show _ = TupV (turnT T) from by simp [TupV])) (by exact hu9)))
   refine ocg 24 ?_ (fun A W hx hf => ?_) ?_
   rfl
   exact gd_f (q1 ?b11_3 A W 24 hf) (fun hc => ok_loadAggS 7 Try.underlying28 rfl size28 (o1 s2 hx (r0 hf)) rfl)
   refine ocg 24 ?_ (fun A W hx hf => ?_) ?_
   rfl
   exact gd_f (q2 ?b11_3 A W 24 hf) (fun hc => ok_neself eqg28 (eq_tup0 hT9) (Is.conv (G.get (q0 ?b11_6 A W 26 hf) hc) (show _ = TupV T from rfl)) (Is.conv (G.get (q1 ?b11_7 A W 27 hf) hc) (show _ = TupV T from rfl)))
   refine oc0 (fun A W hx hf => ?_) ?_
   exact ok_or (q0 ?b11_3 A W 24 hf) (q1 ?b11_8 A W 28 hf)
   exact OpsOk.nil
  case t11 => exact inferInstance
  clear hr; intro a12 w12 x hr hd hs
  revert s5; revert s2; revert s1; refine kp3 hs rfl ?_; intro s1 s2 s5
  have s29 := fa ?b11_9 a12 w12 29 (hd 9 29 rfl)
  replace e_w := e_w.trans x
  have e_w10 := x
  clear hd hs x
  refine exit_then ?_
  refine wp_cond_split (show _ = _ from s29) (fun hd9 => ?_) (fun hd9 => ?_)
  ·
   exfalso; exact absurd hd9 (by decide)
  ·
   try simp only [decide_eq_true_eq, decide_eq_false_iff_not, Bool.not_eq_true', Bool.not_eq_false', Bool.not_true, Bool.not_false, Bool.and_eq_true, Bool.and_eq_false_iff, Bool.or_eq_true, Bool.or_eq_false_iff, bne_iff_ne, beq_iff_eq, ne_eq, beq_eq_false_iff_ne, bne_eq_false_iff_eq] at hd9
   refine wp_skip ?_
   refine exit_then ?_
   refine wp_seq ?_
   refine wp_reg 65 [[], [(2, none)], [(1, none)], [(31, some 0), (32, some 1), (33, some 2)], [(34, some 3)], [(30, some 4)], [(30, some 4)], [(35, some 5)], [(36, some 6)]] [?b14_0, ?b14_1, ?b14_2, ?b14_3, ?b14_3, ?b14_5, ?b14_6, ?b14_5, ?b14_6] mixed hr ?t14 ?o14 ?_
   case o14 =>
    refine oc0 (fun A W hx hf => ?_) ?_
    exact ok_build0 built36
    refine oc0 (fun A W hx hf => ?_) ?_
    exact ok_loadAggS 7 Try.underlying28 rfl size28 (o2 s2 e_w10 hx (r0 hf)) rfl
    refine oc0 (fun A W hx hf => ?_) ?_
    exact ok_movE (a0 := a12) (r0 hf)
    refine oc0 (fun A W hx hf => ?_) ?_
    exact ok_call4 body12 (c_pkMake (LinkV.of (show Is (LnkA link0 (.slice none 0 0)) _ _ from Is.conv (q0 ?b14_0 A W 31 hf) rfl) rw_nil) (show Is (TupV T) _ _ from (q1 ?b14_1 A W 32 hf)) (show Is (.int .i64 0) (A.eval (.const (.int .i64 0))) _ from rfl) (p2 s1 e_w hx (q2 ?b14_2 A W 33 hf)) (by exact ⟨rfl, rfl⟩) (by exact hT9) (by omega) hx.size)
    refine oc0 (fun A W hx hf => ?_) ?_
    exact ok_move (q0 ?b14_3 A W 34 hf)
    refine oc0 (fun A W hx hf => ?_) ?_
    exact ok_ext0 (q0 ?b14_3 A W 30 hf)
    refine oc0 (fun A W hx hf => ?_) ?_
    exact ok_ext1 (q0 ?b14_3 A W 30 hf)
    refine oc0 (fun A W hx hf => ?_) ?_
    exact ok_assign (q0 ?b14_5 A W 35 hf)
    refine oc0 (fun A W hx hf => ?_) ?_
    exact ok_assign (q0 ?b14_6 A W 36 hf)
    exact OpsOk.nil
   case t14 => exact inferInstance
   clear hr; intro a15 w15 x hr hd hs
   have z_w_w12 := e_w.size
   have z_w10_w12 := e_w10.size
   have l15_2 := PxS.lt (later e_w10 s2)
   have l15_5 := PxS.lt (later e_w10 s5)
   revert s5; revert s1; refine kp2 hs rfl ?_; intro s1 s5
   clear s2 s29
   have s6 := fa ?b14_5 a15 w15 6 (hd 7 6 rfl)
   have s7 := fa ?b14_6 a15 w15 7 (hd 8 7 rfl)
   obtain ⟨g15_6, q15_6⟩ := OwnB.at s6; clear s6; have n15_6 := OwnBA.lt q15_6
   replace q15_6 := OwnBA.mono q15_6 e_w.size
   have s6 := q15_6; clear q15_6
   replace e_w := e_w.trans x
   replace e_w10 := e_w10.trans x
   clear hd hs x
   refine exit_then ?_
   refine wp_seq ?_
   refine wp_reg 65 [[], [(5, none)], [(1, none)], [(38, some 0), (39, some 1), (40, some 2)], [(41, some 3)], [(37, some 4)], [(37, some 4)], [(42, some 5)], [(43, some 6)]] [?b16_0, ?b16_1, ?b16_2, ?b16_3, ?b16_3, ?b16_5, ?b16_6, ?b16_5, ?b16_6] mixed hr ?t16 ?o16 ?_
   case o16 =>
    refine oc0 (fun A W hx hf => ?_) ?_
    exact ok_build0 built36
    refine oc0 (fun A W hx hf => ?_) ?_
    exact ok_loadSeg Try.underlying28 rfl size28 (o2 s5 e_w10 hx (r0 hf)) rfl rfl
    refine oc0 (fun A W hx hf => ?_) ?_
    exact ok_movE (a0 := a15) (r0 hf)
    refine oc0 (fun A W hx hf => ?_) ?_
    exact ok_call4 body12 (c_pkMake (LinkV.of (show Is (LnkA link0 (.slice none 0 0)) _ _ from Is.conv (q0 ?b16_0 A W 38 hf) rfl) rw_nil) (Is.conv (q1 ?b16_1 A W 39 hf) (show _ = TupV (turnT T) from by simp [TupV])) (show Is (.int .i64 0) (A.eval (.const (.int .i64 0))) _ from rfl) (p2 s1 e_w hx (q2 ?b16_2 A W 40 hf)) (by exact ⟨rfl, rfl⟩) (by exact hu9) (by omega) hx.size)
    refine oc0 (fun A W hx hf => ?_) ?_
    exact ok_move (q0 ?b16_3 A W 41 hf)
    refine oc0 (fun A W hx hf => ?_) ?_
    exact ok_ext0 (q0 ?b16_3 A W 37 hf)
    refine oc0 (fun A W hx hf => ?_) ?_
    exact ok_ext1 (q0 ?b16_3 A W 37 hf)
    refine oc0 (fun A W hx hf => ?_) ?_
    exact ok_assign (q0 ?b16_5 A W 42 hf)
    refine oc0 (fun A W hx hf => ?_) ?_
    exact ok_assign (q0 ?b16_6 A W 43 hf)
    exact OpsOk.nil
   case t16 => exact inferInstance
   clear hr; intro a17 w17 x hr hd hs
   have z_w_w15 := e_w.size
   have z_w10_w15 := e_w10.size
   have l17_5 := PxS.lt (later e_w10 s5)
   have l17_6 := OwnBA.lt s6
   revert s6; revert s7; revert s5; refine kp3 hs rfl ?_; intro s5 s7 s6
   clear s1
   have s8 := fa ?b16_5 a17 w17 8 (hd 7 8 rfl)
   have s9 := fa ?b16_6 a17 w17 9 (hd 8 9 rfl)
   obtain ⟨g17_8, q17_8⟩ := OwnB.at s8; clear s8; have n17_8 := OwnBA.lt q17_8
   replace q17_8 := OwnBA.mono q17_8 e_w.size
   have s8 := q17_8; clear q17_8
   replace e_w := e_w.trans x
   replace e_w10 := e_w10.trans x
   have e_w15 := x
   clear hd hs x
   obtain ⟨te1, te2⟩ := turn_make (load := load) hT9
   refine exit_then ?_
   refine wp_seq ?_
   refine wp_reg 65 [[(7, none)], [(9, none)], [(44, some 0), (45, some 1)], [(46, some 2)], [(6, none), (47, some 3)], [(48, some 4), (47, some 3)], [(8, none), (47, some 3)], [(50, some 6), (47, some 3)], [(49, some 5), (51, some 7), (47, some 3)], [(47, some 3), (52, some 8)], [(53, some 9)], [(7, none), (54, some 10)], [(55, some 11), (54, some 10)], [(56, some 12), (54, some 10)], [(8, none), (57, some 13)], [(58, some 14), (57, some 13)], [(59, some 15), (57, some 13)], [(5, none), (57, some 13)], [(60, some 16), (61, some 17), (57, some 13)], [(57, some 13), (62, some 18), (54, some 10)], [(54, some 10), (63, some 19)], [(64, some 20)]] [?b18_0, ?b18_1, ?b18_2, ?b18_2, ?b18_4, ?b18_5, ?b18_6, ?b18_7, ?b18_8, ?b18_9, ?b18_9, ?b18_11, ?b18_12, ?b18_12, ?b18_14, ?b18_15, ?b18_16, ?b18_17, ?b18_18, ?b18_19, ?b18_20, ?b18_20] mixed hr ?t18 ?o18 ?_
   case o18 =>
    refine oc0 (fun A W hx hf => ?_) ?_
    exact ok_movE (a0 := a17) (r0 hf)
    refine oc0 (fun A W hx hf => ?_) ?_
    exact ok_movE (a0 := a17) (r0 hf)
    refine oc0 (fun A W hx hf => ?_) ?_
    exact ok_eql (p2 s7 e_w15 hx (q0 ?b18_0 A W 44 hf)) (p1 s9 hx (q1 ?b18_1 A W 45 hf))
    refine oc0 (fun A W hx hf => ?_) ?_
    exact ok_move (q0 ?b18_2 A W 46 hf)
    refine ocg 47 ?_ (fun A W hx hf => ?_) ?_
    rfl
    exact gd_t (q1 ?b18_2 A W 47 hf) (fun hc => ok_movE (a0 := a17) (r0 hf))
    refine ocg 47 ?_ (fun A W hx hf => ?_) ?_
    rfl
    exact gd_t (q1 ?b18_2 A W 47 hf) (fun hc => ok_len_bs Try.underlying22 (OwnBA.bs (p2 s6 e_w15 hx (G.get (q0 ?b18_4 A W 48 hf) hc))))
    refine ocg 47 ?_ (fun A W hx hf => ?_) ?_
    rfl
    exact gd_t (q1 ?b18_2 A W 47 hf) (fun hc => ok_movE (a0 := a17) (r0 hf))
    refine ocg 47 ?_ (fun A W hx hf => ?_) ?_
    rfl
    exact gd_t (q1 ?b18_2 A W 47 hf) (fun hc => ok_len_bs Try.underlying22 (OwnBA.bs (p1 s8 hx (G.get (q0 ?b18_6 A W 50 hf) hc))))
    refine ocg 47 ?_ (fun A W hx hf => ?_) ?_
    rfl
    exact gd_t (q2 ?b18_2 A W 47 hf) (fun hc => ok_eql (G.get (q0 ?b18_5 A W 49 hf) hc) (G.get (q1 ?b18_7 A W 51 hf) hc))
    refine oc0 (fun A W hx hf => ?_) ?_
    exact ok_and (q0 ?b18_2 A W 47 hf) (q1 ?b18_8 A W 52 hf)
    refine oc0 (fun A W hx hf => ?_) ?_
    exact ok_move (q0 ?b18_9 A W 53 hf)
    refine ocg 54 ?_ (fun A W hx hf => ?_) ?_
    rfl
    exact gd_t (q1 ?b18_9 A W 54 hf) (fun hc => ok_movE (a0 := a17) (r0 hf))
    refine ocg 54 ?_ (fun A W hx hf => ?_) ?_
    rfl
    exact gd_t (q1 ?b18_9 A W 54 hf) (fun hc => ok_neq (p2 s7 e_w15 hx (G.get (q0 ?b18_11 A W 55 hf) hc)) (ec A (.int .i64 0)))
    refine ocg 54 ?_ (fun A W hx hf => ?_) ?_
    rfl
    exact gd_t (q1 ?b18_9 A W 54 hf) (fun hc => ok_move (G.get (q0 ?b18_12 A W 56 hf) hc))
    refine ocg 57 ?_ (fun A W hx hf => ?_) ?_
    rfl
    exact gd_gf (q1 ?b18_12 A W 57 hf) (fun hc => ok_movE (a0 := a17) (r0 hf))
    refine ocg 57 ?_ (fun A W hx hf => ?_) ?_
    rfl
    exact gd_gf (q1 ?b18_12 A W 57 hf) (fun hc => ok_call1 body10 (c_pkRead (OwnBA.bs (p1 s8 hx (G.get (q0 ?b18_14 A W 58 hf) hc)))))
    refine ocg 57 ?_ (fun A W hx hf => ?_) ?_
    rfl
    exact gd_gf (q1 ?b18_12 A W 57 hf) (fun hc => ok_fieldA (k := 1) 1 37 28 _ Try.underlying30 ⟨_, rfl, rfl, rfl⟩ Try.underlying28 rfl size28 (G.get (q0 ?b18_15 A W 59 hf) hc) (by exact pkt_tup (pktRead_ok _)))
    refine ocg 57 ?_ (fun A W hx hf => ?_) ?_
    rfl
    exact gd_gf (q1 ?b18_12 A W 57 hf) (fun hc => ok_loadSeg Try.underlying28 rfl size28 (o2 s5 e_w10 hx (r0 hf)) rfl rfl)
    refine ocg 57 ?_ (fun A W hx hf => ?_) ?_
    rfl
    exact gd_gf (q2 ?b18_12 A W 57 hf) (fun hc => ok_eqself eqg28 (eq_tup0 hu9) (Is.conv (G.get (q0 ?b18_16 A W 60 hf) hc) (show _ = TupV (turnT T) from congrArg TupV (turn_tup hT9 (and_r hc)))) (Is.conv (G.get (q1 ?b18_17 A W 61 hf) hc) (show _ = TupV (turnT T) from by simp [TupV])))
    refine ocg 54 ?_ (fun A W hx hf => ?_) ?_
    rfl
    exact gd_t (q2 ?b18_9 A W 54 hf) (fun hc => ok_or (G.get (q0 ?b18_12 A W 57 hf) hc) (G.strip hc (q1 ?b18_18 A W 62 hf)))
    refine oc0 (fun A W hx hf => ?_) ?_
    exact ok_and (q0 ?b18_9 A W 54 hf) (q1 ?b18_19 A W 63 hf)
    refine oc0 (fun A W hx hf => ?_) ?_
    exact ok_assign (q0 ?b18_20 A W 64 hf)
    exact OpsOk.nil
   case t18 => exact inferInstance
   clear hr; intro a19 w19 x hr hd hs
   clear s5 s7 s6 s9 s8
   have s4 := fa ?b18_20 a19 w19 4 (hd 21 4 rfl)
   replace e_w := e_w.trans x
   clear e_w10
   clear e_w15
   clear hd hs x
   refine exit_then ?_
   refine wp_ret ?_
   refine ret_tmp Try.results8 hr e_w ?_
   first | with_reducible exact s4 | exact Is.bool s4 (by rw [te1, te2]; simp)

end Go.Proofs.Ytpjpfmnnefgnbaa
