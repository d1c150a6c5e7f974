import Derived.Test.YtpjpfmnnefgnbaaA11
namespace Go.Proofs.Ytpjpfmnnefgnbaa
open Go.RowKit
set_option linter.unusedVariables false
set_option linter.unusedSimpArgs false
set_option maxRecDepth 4000
set_option maxHeartbeats 1000000 in
theorem law_PacketCuts {x0 x1 x2 : Value} {w : World} {l more : List UInt8} {k : Int} (h0 : (Bs l) x0 w) (h1 : (Is (.int .u16 k)) x1 w) (h2 : (Bs more) x2 w) (hk9 : 0 ≤ k ∧ k ≤ 65535) :
    Calls Try.prog 6 #[x0, x1, x2] w (Ret (Is (.bool true)) w) := by
 have hlen := Bs.len_le h0
 have hlm := Bs.len_le h2
 refine enter Try.func6 rfl Try.ntmps6 (k := 3) rfl (by decide) (fun a0 hr hargs => ?_)
 have s0 := sarg h0 (hargs 0 (by decide))
 have s1 := sarg h1 (hargs 1 (by decide))
 have s2 := sarg h2 (hargs 2 (by decide))
 clear hargs
 refine wp_seq ?_
 refine wp_reg 83 [[]] [?b1_0] mixed hr ?t1 ?o1 ?_
 case o1 =>
  refine oc0 (fun A W hx hf => ?_) ?_
  exact ok_assignc
  exact OpsOk.nil
 case t1 => exact inferInstance
 clear hr; intro a2 w2 x hr hd hs
 revert s2; revert s1; revert s0; refine kp3 hs rfl ?_; intro s0 s1 s2
 have e_w := x
 clear hd hs x
 refine exit_then ?_
 refine wp_seq ?_
 refine wp_seq ?_
 refine wp_reg 83 [[], [(10, some 0)], [(11, some 1)], [(0, none), (12, some 2)], [(13, some 3), (12, some 2)], [(14, some 4), (12, some 2)], [(12, some 2), (15, some 5)], [(16, some 6)], [(2, none), (17, some 7)], [(18, some 8), (17, some 7)], [(19, some 9), (17, some 7)], [(17, some 7), (20, some 10)]] [?b3_0, ?b3_1, ?b3_1, ?b3_3, ?b3_4, ?b3_5, ?b3_6, ?b3_6, ?b3_8, ?b3_9, ?b3_10, ?b3_11] mixed hr ?t3 ?o3 ?_
 case o3 =>
  refine oc0 (fun A W hx hf => ?_) ?_
  exact ok_call0 body9 (c_awake11 )
  refine oc0 (fun A W hx hf => ?_) ?_
  exact ok_not (q0 ?b3_0 A W 10 hf)
  refine oc0 (fun A W hx hf => ?_) ?_
  exact ok_move (q0 ?b3_1 A W 11 hf)
  refine ocg 12 ?_ (fun A W hx hf => ?_) ?_
  rfl
  exact gd_f (q1 ?b3_1 A W 12 hf) (fun hc => ok_movE (a0 := a2) (r0 hf))
  refine ocg 12 ?_ (fun A W hx hf => ?_) ?_
  rfl
  exact gd_f (q1 ?b3_1 A W 12 hf) (fun hc => ok_len_bs Try.underlying22 (p2 s0 e_w hx (G.get (q0 ?b3_3 A W 13 hf) hc)))
  refine ocg 12 ?_ (fun A W hx hf => ?_) ?_
  rfl
  exact gd_f (q1 ?b3_1 A W 12 hf) (fun hc => ok_gtr (G.get (q0 ?b3_4 A W 14 hf) hc) (ec A (.int .i64 3000)))
  refine oc0 (fun A W hx hf => ?_) ?_
  exact ok_or (q0 ?b3_1 A W 12 hf) (q1 ?b3_5 A W 15 hf)
  refine oc0 (fun A W hx hf => ?_) ?_
  exact ok_move (q0 ?b3_6 A W 16 hf)
  refine ocg 17 ?_ (fun A W hx hf => ?_) ?_
  rfl
  exact gd_f (q1 ?b3_6 A W 17 hf) (fun hc => ok_movE (a0 := a2) (r0 hf))
  refine ocg 17 ?_ (fun A W hx hf => ?_) ?_
  rfl
  exact gd_f (q1 ?b3_6 A W 17 hf) (fun hc => ok_len_bs Try.underlying22 (p2 s2 e_w hx (G.get (q0 ?b3_8 A W 18 hf) hc)))
  refine ocg 17 ?_ (fun A W hx hf => ?_) ?_
  rfl
  exact gd_f (q1 ?b3_6 A W 17 hf) (fun hc => ok_gtr (G.get (q0 ?b3_9 A W 19 hf) hc) (ec A (.int .i64 300)))
  refine oc0 (fun A W hx hf => ?_) ?_
  exact ok_or (q0 ?b3_6 A W 17 hf) (q1 ?b3_10 A W 20 hf)
  exact OpsOk.nil
 case t3 => exact inferInstance
 clear hr; intro a4 w4 x hr hd hs
 revert s2; revert s1; revert s0; refine kp3 hs rfl ?_; intro s0 s1 s2
 have s21 := fa ?b3_11 a4 w4 21 (hd 11 21 rfl)
 replace e_w := e_w.trans x
 clear hd hs x
 refine exit_then ?_
 refine wp_cond_split (show _ = _ from s21) (fun hg => ?_) (fun hg => ?_)
 ·
  skip
  refine wp_seq ?_
  refine wp_reg 83 [[], [(22, some 0)]] [?b6_0, ?b6_0] mixed hr ?t6 ?o6 ?_
  case o6 =>
   refine oc0 (fun A W hx hf => ?_) ?_
   exact ok_call0 body9 (c_awake11 )
   refine oc0 (fun A W hx hf => ?_) ?_
   exact ok_assign (q0 ?b6_0 A W 22 hf)
   exact OpsOk.nil
  case t6 => exact inferInstance
  clear hr; intro a7 w7 x hr hd hs
  clear s0 s1 s2 s21
  have s6 := fa ?b6_0 a7 w7 6 (hd 1 6 rfl)
  replace e_w := e_w.trans x
  clear hd hs x
  refine exit_then ?_
  refine wp_ret ?_
  refine then_ret ?_
  refine ret_tmp Try.results6 hr e_w ?_
  first | with_reducible exact s6 | (have h9 := hct; exact Is.bool s6 (by rcases h9 with e9 | e9 <;> simp [e9])) | exact Is.bool s6 (by simp [hn2, hn3])
 ·
  have hg9 : l.length ≤ 3000 ∧ more.length ≤ 300 := by simp at hg; omega
  refine wp_skip ?_
  refine exit_then ?_
  refine wp_seq ?_
  refine wp_reg_pre (l := [_, _, _]) (rest := [_]) 83 [[(0, none)], [(23, some 0)], []] [?b8_0, ?b8_1, ?b8_2] hr ?t8 ?o8 ?_
  case o8 =>
   refine oc0 (fun A W hx hf => ?_) ?_
   exact ok_movE (a0 := a4) (r0 hf)
   refine oc0 (fun A W hx hf => ?_) ?_
   exact ok_call1 body10 (c_pkRead (p2 s0 e_w hx (q0 ?b8_0 A W 23 hf)))
   refine oc0 (fun A W hx hf => ?_) ?_
   exact ok_allocS (pktS (give 0)) [1, 37, 1, 1, 1, 1] zerov30 (by rfl) (by rfl) hx.size
   exact OpsOk.nil
  case t8 => exact inferInstance
  clear hr; intro a9 w9 x hr hd hs
  have z_w_w4 := e_w.size
  revert s2; revert s1; revert s0; refine kp3 hs rfl ?_; intro s0 s1 s2
  clear s21
  have s24 := fa ?b8_1 a9 w9 24 (hd 1 24 rfl)
  have s7 := fa ?b8_2 a9 w9 7 (hd 2 7 rfl)
  obtain ⟨g9_7, q9_7⟩ := PxN.at s7; clear s7; have n9_7 := PxS.lt q9_7
  replace q9_7 := PxS.mono q9_7 e_w.size
  have s7 := q9_7; clear q9_7
  replace e_w := e_w.trans x
  clear hd hs x
  have z10 := PxS.lt s7
  have l10 := (show (g9_7 = 0 ∨ w.heap.size < g9_7) ∧ True from ⟨by omega, trivial⟩)
  refine wl_storeSm (pktS (pktRead l)) hr size30 s7 (Is.conv s24 (show _ = Value.agg (pktS (pktRead l)).flatten.toArray from rfl)) (by exact pktS_lens (pktRead_ok _)) (by exact pkt_one) rfl ?_; clear hr; intro a10 w10 hc hu hr hs
  have hb : Below w.heap.size w9 w10 := hc.below e_w.size l10.1
  revert s7; revert s2; revert s1; revert s0; refine kp4 hs rfl ?_; intro s0 s1 s2 s7
  clear s24
  replace s7 := hu _ _ _ s7
  try simp only [List.set_cons_zero, List.set_cons_succ] at s7
  replace e_w := e_w.below (Nat.le_refl _) hb
  clear hu hs hc hb
  refine wpList_nil ?_
  refine exit_then ?_
  refine wp_seq ?_
  refine wp_seq ?_
  refine wp_reg 83 [[(7, none)], [(25, some 0)], [(26, some 1)]] [?b11_0, ?b11_1, ?b11_2] mixed hr ?t11 ?o11 ?_
  case o11 =>
   refine oc0 (fun A W hx hf => ?_) ?_
   exact ok_fieldS 0 Try.underlying30 (k := 0) rfl size3 rfl (o1 s7 hx (r0 hf)) rfl
   refine oc0 (fun A W hx hf => ?_) ?_
   exact ok_loadS Try.underlying3 rfl (q0 ?b11_0 A W 25 hf) rfl
   refine oc0 (fun A W hx hf => ?_) ?_
   exact ok_neq (q0 ?b11_1 A W 26 hf) (ec A (.int .i64 0))
   exact OpsOk.nil
  case t11 => exact inferInstance
  clear hr; intro a12 w12 x hr hd hs
  revert s7; revert s2; revert s1; revert s0; refine kp4 hs rfl ?_; intro s0 s1 s2 s7
  have s27 := fa ?b11_2 a12 w12 27 (hd 2 27 rfl)
  replace e_w := e_w.trans x
  have e_w10 := x
  clear hd hs x
  refine exit_then ?_
  refine wp_cond_split (show _ = _ from s27) (fun hk => ?_) (fun hk => ?_)
  ·
   have hk : (pktRead l).kind ≠ 0 := by simpa using hk
   obtain ⟨hn1, hn2, hn3⟩ := fine_no hk
   refine wp_seq ?_
   refine wp_reg 83 [[(7, none)], [(7, none)], [(29, some 1)], [(30, some 2)], [(28, some 0), (31, some 3)], [(32, some 4)], [(7, none), (33, some 5)], [(34, some 6), (33, some 5)], [(35, some 7), (33, some 5)], [(33, some 5), (36, some 8)], [(37, some 9)], [(7, none), (38, some 10)], [(39, some 11), (38, some 10)], [(40, some 12), (38, some 10)], [(38, some 10), (41, some 13)], [(42, some 14)]] [?b14_0, ?b14_1, ?b14_2, ?b14_3, ?b14_4, ?b14_4, ?b14_6, ?b14_7, ?b14_8, ?b14_9, ?b14_9, ?b14_11, ?b14_12, ?b14_13, ?b14_14, ?b14_14] mixed hr ?t14 ?o14 ?_
   case o14 =>
    refine oc0 (fun A W hx hf => ?_) ?_
    exact ok_loadAggS 6 Try.underlying30 rfl size30 (o2 s7 e_w10 hx (r0 hf)) rfl
    refine oc0 (fun A W hx hf => ?_) ?_
    exact ok_fieldS 0 Try.underlying30 (k := 0) rfl size3 rfl (o2 s7 e_w10 hx (r0 hf)) rfl
    refine oc0 (fun A W hx hf => ?_) ?_
    exact ok_loadS Try.underlying3 rfl (q0 ?b14_1 A W 29 hf) rfl
    refine oc0 (fun A W hx hf => ?_) ?_
    exact ok_buildS [(0, (.tmp 30))] [(0, _)] lay30 rfl (PartsC.one (q0 ?b14_2 A W 30 hf) rfl (PartsC.nil)) (by rfl)
    refine oc0 (fun A W hx hf => ?_) ?_
    exact ok_eqself eqg30 (eq_pkt (pktRead_ok l)) (Is.conv (q0 ?b14_0 A W 28 hf) (show _ = PktV (pktRead l) from rfl)) (Is.conv (q1 ?b14_3 A W 31 hf) (show _ = PktV (pktRead l) from by rw [hn1]; rfl))
    refine oc0 (fun A W hx hf => ?_) ?_
    exact ok_move (q0 ?b14_4 A W 32 hf)
    refine ocg 33 ?_ (fun A W hx hf => ?_) ?_
    rfl
    exact gd_t (q1 ?b14_4 A W 33 hf) (fun hc => ok_fieldS 0 Try.underlying30 (k := 0) rfl size3 rfl (o2 s7 e_w10 hx (r0 hf)) rfl)
    refine ocg 33 ?_ (fun A W hx hf => ?_) ?_
    rfl
    exact gd_t (q1 ?b14_4 A W 33 hf) (fun hc => ok_loadS Try.underlying3 rfl (G.get (q0 ?b14_6 A W 34 hf) hc) rfl)
    refine ocg 33 ?_ (fun A W hx hf => ?_) ?_
    rfl
    exact gd_t (q1 ?b14_4 A W 33 hf) (fun hc => ok_geq (G.get (q0 ?b14_7 A W 35 hf) hc) (ec A (.int .i64 1)))
    refine oc0 (fun A W hx hf => ?_) ?_
    exact ok_and (q0 ?b14_4 A W 33 hf) (q1 ?b14_8 A W 36 hf)
    refine oc0 (fun A W hx hf => ?_) ?_
    exact ok_move (q0 ?b14_9 A W 37 hf)
    refine ocg 38 ?_ (fun A W hx hf => ?_) ?_
    rfl
    exact gd_t (q1 ?b14_9 A W 38 hf) (fun hc => ok_fieldS 0 Try.underlying30 (k := 0) rfl size3 rfl (o2 s7 e_w10 hx (r0 hf)) rfl)
    refine ocg 38 ?_ (fun A W hx hf => ?_) ?_
    rfl
    exact gd_t (q1 ?b14_9 A W 38 hf) (fun hc => ok_loadS Try.underlying3 rfl (G.get (q0 ?b14_11 A W 39 hf) hc) rfl)
    refine ocg 38 ?_ (fun A W hx hf => ?_) ?_
    rfl
    exact gd_t (q1 ?b14_9 A W 38 hf) (fun hc => ok_leq (G.get (q0 ?b14_12 A W 40 hf) hc) (ec A (.int .i64 6)))
    refine oc0 (fun A W hx hf => ?_) ?_
    exact ok_and (q0 ?b14_9 A W 38 hf) (q1 ?b14_13 A W 41 hf)
    refine oc0 (fun A W hx hf => ?_) ?_
    exact ok_assign (q0 ?b14_14 A W 42 hf)
    exact OpsOk.nil
   case t14 => exact inferInstance
   clear hr; intro a15 w15 x hr hd hs
   clear s0 s1 s2 s7 s27
   have s6 := fa ?b14_14 a15 w15 6 (hd 15 6 rfl)
   replace e_w := e_w.trans x
   clear e_w10
   clear hd hs x
   refine exit_then ?_
   refine wp_ret ?_
   refine then_ret ?_
   refine ret_tmp Try.results6 hr e_w ?_
   first | with_reducible exact s6 | (have h9 := hct; exact Is.bool s6 (by rcases h9 with e9 | e9 <;> simp [e9])) | exact Is.bool s6 (by simp [hn2, hn3])
  ·
   have hk : (pktRead l).kind = 0 := by simpa using hk
   obtain ⟨hf, heq⟩ := fine_of hk
   obtain ⟨b1, b2, b3, b4, b5⟩ := fine_bd hf
   have hen : (pktRead l).end' = (endP l : Int) := by rw [heq]; show (linkRead l).1.at' + (pkN l).1.total = _; unfold endP; omega
   have hep : 0 < endP l ∧ endP l ≤ l.length := by unfold endP; omega
   have htk := fine_take hf more
   obtain ⟨K, hK, hKl⟩ := tmod_lt (a := k) (n := endP l) hk9.1 hep.1
   have hct := fine_cut hf hKl
   refine wp_skip ?_
   refine exit_then ?_
   refine wp_seq ?_
   refine wp_seq ?_
   refine wp_reg 83 [[(7, none)], [(43, some 0)], [(44, some 1)], [(45, some 2)], [(7, none), (46, some 3)], [(47, some 4), (46, some 3)], [(0, none), (46, some 3)], [(49, some 6), (46, some 3)], [(48, some 5), (50, some 7), (46, some 3)], [(46, some 3), (51, some 8)]] [?b16_0, ?b16_1, ?b16_2, ?b16_2, ?b16_4, ?b16_5, ?b16_6, ?b16_7, ?b16_8, ?b16_9] mixed hr ?t16 ?o16 ?_
   case o16 =>
    refine oc0 (fun A W hx hf => ?_) ?_
    exact ok_fieldS 5 Try.underlying30 (k := 5) rfl size3 rfl (o2 s7 e_w10 hx (r0 hf)) rfl
    refine oc0 (fun A W hx hf => ?_) ?_
    exact ok_loadS Try.underlying3 rfl (q0 ?b16_0 A W 43 hf) rfl
    refine oc0 (fun A W hx hf => ?_) ?_
    exact ok_lss (q0 ?b16_1 A W 44 hf) (ec A (.int .i64 1))
    refine oc0 (fun A W hx hf => ?_) ?_
    exact ok_move (q0 ?b16_2 A W 45 hf)
    refine ocg 46 ?_ (fun A W hx hf => ?_) ?_
    rfl
    exact gd_f (q1 ?b16_2 A W 46 hf) (fun hc => ok_fieldS 5 Try.underlying30 (k := 5) rfl size3 rfl (o2 s7 e_w10 hx (r0 hf)) rfl)
    refine ocg 46 ?_ (fun A W hx hf => ?_) ?_
    rfl
    exact gd_f (q1 ?b16_2 A W 46 hf) (fun hc => ok_loadS Try.underlying3 rfl (G.get (q0 ?b16_4 A W 47 hf) hc) rfl)
    refine ocg 46 ?_ (fun A W hx hf => ?_) ?_
    rfl
    exact gd_f (q1 ?b16_2 A W 46 hf) (fun hc => ok_movE (a0 := a12) (r0 hf))
    refine ocg 46 ?_ (fun A W hx hf => ?_) ?_
    rfl
    exact gd_f (q1 ?b16_2 A W 46 hf) (fun hc => ok_len_bs Try.underlying22 (p2 s0 e_w hx (G.get (q0 ?b16_6 A W 49 hf) hc)))
    refine ocg 46 ?_ (fun A W hx hf => ?_) ?_
    rfl
    exact gd_f (q2 ?b16_2 A W 46 hf) (fun hc => ok_gtr (G.get (q0 ?b16_5 A W 48 hf) hc) (G.get (q1 ?b16_7 A W 50 hf) hc))
    refine oc0 (fun A W hx hf => ?_) ?_
    exact ok_or (q0 ?b16_2 A W 46 hf) (q1 ?b16_8 A W 51 hf)
    exact OpsOk.nil
   case t16 => exact inferInstance
   clear hr; intro a17 w17 x hr hd hs
   revert s7; revert s2; revert s1; revert s0; refine kp4 hs rfl ?_; intro s0 s1 s2 s7
   clear s27
   have s52 := fa ?b16_9 a17 w17 52 (hd 9 52 rfl)
   replace e_w := e_w.trans x
   replace e_w10 := e_w10.trans x
   clear hd hs x
   refine exit_then ?_
   refine wp_cond_split (show _ = _ from s52) (fun hd9 => ?_) (fun hd9 => ?_)
   ·
    exfalso; rw [hen] at hd9; simp at hd9; omega
   ·
    try simp only [decide_eq_true_eq, decide_eq_false_iff_not, Bool.not_eq_true', Bool.not_eq_false', Bool.not_true, Bool.not_false, Bool.and_eq_true, Bool.and_eq_false_iff, Bool.or_eq_true, Bool.or_eq_false_iff, bne_iff_ne, beq_iff_eq, ne_eq, beq_eq_false_iff_ne, bne_eq_false_iff_eq] at hd9
    refine wp_skip ?_
    refine exit_then ?_
    refine wp_seq ?_
    refine wp_reg_pre (l := [_, _, _, _, _]) (rest := [_, _, _, _, _, _]) 83 [[], [(0, none)], [(7, none)], [(55, some 2)], [(54, some 1), (56, some 3)]] [?b19_0, ?b19_1, ?b19_2, ?b19_3, ?b19_4] hr ?t19 ?o19 ?_
    case o19 =>
     refine oc0 (fun A W hx hf => ?_) ?_
     exact ok_ownBs [] [] Try.underlying22 size5 zero5 rfl rfl (by decide) hx.size (PartsOk.nil)
     refine oc0 (fun A W hx hf => ?_) ?_
     exact ok_movE (a0 := a17) (r0 hf)
     refine oc0 (fun A W hx hf => ?_) ?_
     exact ok_fieldS 5 Try.underlying30 (k := 5) rfl size3 rfl (o2 s7 e_w10 hx (r0 hf)) rfl
     refine oc0 (fun A W hx hf => ?_) ?_
     exact ok_loadS Try.underlying3 rfl (q0 ?b19_2 A W 55 hf) rfl
     refine oc0 (fun A W hx hf => ?_) ?_
     exact okW_slice_hi (endP l) Try.underlying22 size5 (sarg s0 (show _ = _ from (q0 ?b19_1 A W 54 hf))) (Is.int (q1 ?b19_3 A W 56 hf) (by exact hen)) (by omega)
     exact OpsOk.nil
    case t19 => exact inferInstance
    clear hr; intro a20 w20 x hr hd hs
    have z_w_w17 := e_w.size
    have z_w10_w17 := e_w10.size
    have l20_7 := PxS.lt (later e_w10 s7)
    revert s7; revert s2; revert s1; revert s0; refine kp4 hs rfl ?_; intro s0 s1 s2 s7
    clear s52
    have s53 := fa ?b19_0 a20 w20 53 (hd 0 53 rfl)
    have s57 := AtW.base (fa ?b19_4 a20 w20 57 (hd 4 57 rfl))
    obtain ⟨g20_53, q20_53⟩ := OwnB.at s53; clear s53; have n20_53 := OwnBA.lt q20_53
    replace q20_53 := OwnBA.mono q20_53 e_w.size
    have s53 := q20_53; clear q20_53
    replace e_w := e_w.trans x
    replace e_w10 := e_w10.trans x
    clear hd hs x
    have l21 := OwnBA.lt s53
    have l21_7 := PxS.lt (later e_w10 s7)
    refine wl_append_bsA hr (by decide) Try.underlying22 info5 rfl s53 (later e_w s57) e_w.size (by first | (simp; done) | (simp; omega)) ?_; clear hr; intro g21 a21 w21 hg21 hc hr hd hs
    have hb := hc.below e_w.size l21.1
    revert s7; revert s2; revert s1; revert s0; refine kp4 hs rfl ?_; intro s0 s1 s2 s7
    clear s57 s53
    replace s7 := PxS.other (later e_w10 s7) hc (by omega)
    have s58 := hd
    replace e_w := e_w.below (Nat.le_refl _) hb
    clear e_w10
    clear hd hs hb hc
    refine wl_op hr (ok_move (show AtW w _ _ _ from s2)) inferInstance ?_; clear hr; intro a22 w22 x hr hd hs
    revert s58; revert s7; revert s1; revert s0; refine kp4 hs rfl ?_; intro s0 s1 s7 s58
    clear s2
    have s59 := AtW.base (hd 59 rfl (by decide))
    replace e_w := e_w.trans x
    have e_w21 := x
    clear hd hs x
    have l23 := OwnBA.lt (later e_w21 s58)
    have l23_7 := PxS.lt (later e_w21 s7)
    refine wl_append_bsA hr (by decide) Try.underlying22 info5 rfl (later e_w21 s58) (later e_w s59) e_w.size (by first | (simp; done) | (simp; omega)) ?_; clear hr; intro g23 a23 w23 hg23 hc hr hd hs
    have hb := hc.below e_w.size l23.1
    revert s7; revert s1; revert s0; refine kp3 hs rfl ?_; intro s0 s1 s7
    clear s58 s59
    replace s7 := PxS.other (later e_w21 s7) hc (by omega)
    have s60 := hd
    replace e_w := e_w.below (Nat.le_refl _) hb
    clear e_w21
    clear hd hs hb hc
    refine wl_op hr (ok_call1 body10 (c_pkRead (OwnBA.bs s60))) inferInstance ?_; clear hr; intro a24 w24 x hr hd hs
    revert s7; revert s1; revert s0; refine kp3 hs rfl ?_; intro s0 s1 s7
    clear s60
    have s61 := hd 61 rfl (by decide)
    replace e_w := e_w.trans x
    have e_w23 := x
    clear hd hs x
    have l25_7 := PxS.lt (later e_w23 s7)
    refine wl_op hr (ok_allocS [(pktS (give 0)).flatten] [42] zerov30 (by rfl) (by rfl) (Nat.le_refl _)) inferInstance ?_; clear hr; intro a25 w25 x hr hd hs
    revert s61; revert s7; revert s1; revert s0; refine kp4 hs rfl ?_; intro s0 s1 s7 s61
    have s8 := hd 8 rfl (by decide)
    obtain ⟨g25_8, q25_8⟩ := PxN.at s8; clear s8; have n25_8 := PxS.lt q25_8
    replace q25_8 := PxS.mono q25_8 e_w.size
    have s8 := q25_8; clear q25_8
    replace e_w := e_w.trans x
    replace e_w23 := e_w23.trans x
    have e_w24 := x
    clear hd hs x
    have z26 := PxS.lt s8
    have l26 := (show (g25_8 = 0 ∨ w.heap.size < g25_8) ∧ True from ⟨by omega, trivial⟩)
    have l26_7 := PxS.lt (later e_w23 s7)
    refine wl_storeSn hr size30 s8 (Is.conv (later e_w24 s61) (show _ = PktV (pktRead l) from by rw [List.nil_append, htk])) (by exact pkt_len (pktRead_ok _)) (by exact pkt_one) rfl ?_; clear hr; intro a26 w26 hc hu hr hs
    have hb : Below w.heap.size w25 w26 := hc.below e_w.size l26.1
    revert s8; revert s7; revert s1; revert s0; refine kp4 hs rfl ?_; intro s0 s1 s7 s8
    clear s61
    replace s7 := PxS.other (later e_w23 s7) hc (by omega)
    replace s8 := hu _ _ _ s8
    try simp only [List.set_cons_zero, List.set_cons_succ] at s8
    replace e_w := e_w.below (Nat.le_refl _) hb
    clear e_w23
    clear e_w24
    clear hu hs hc hb
    refine wpList_nil ?_
    refine exit_then ?_
    refine wp_seq ?_
    refine wp_reg_pre (l := [_, _, _, _, _, _, _, _, _]) (rest := [_]) 83 [[(0, none)], [(1, none)], [(63, some 1)], [(7, none)], [(65, some 3)], [(64, some 2), (66, some 4)], [(62, some 0), (67, some 5)], [(68, some 6)], []] [?b27_0, ?b27_1, ?b27_2, ?b27_3, ?b27_4, ?b27_5, ?b27_6, ?b27_7, ?b27_8] hr ?t27 ?o27 ?_
    case o27 =>
     refine oc0 (fun A W hx hf => ?_) ?_
     exact ok_movE (a0 := a26) (r0 hf)
     refine oc0 (fun A W hx hf => ?_) ?_
     exact ok_movE (a0 := a26) (r0 hf)
     refine oc0 (fun A W hx hf => ?_) ?_
     exact ok_convI Try.underlying46 Try.underlying3 (by exact IntWalk.i64_in _ (by omega)) (p2 s1 e_w hx (q0 ?b27_1 A W 63 hf))
     refine oc0 (fun A W hx hf => ?_) ?_
     exact ok_fieldS 5 Try.underlying30 (k := 5) rfl size3 rfl (o1 s7 hx (r0 hf)) rfl
     refine oc0 (fun A W hx hf => ?_) ?_
     exact ok_loadS Try.underlying3 rfl (q0 ?b27_3 A W 65 hf) rfl
     refine oc0 (fun A W hx hf => ?_) ?_
     exact ok_rem (by rw [hen]; omega) (q0 ?b27_2 A W 64 hf) (q1 ?b27_4 A W 66 hf)
     refine oc0 (fun A W hx hf => ?_) ?_
     exact okW_slice_hi (K) Try.underlying22 size5 (sarg s0 (show _ = _ from (q0 ?b27_0 A W 62 hf))) (Is.int (q1 ?b27_5 A W 67 hf) (by rw [hen]; exact hK)) (by omega)
     refine oc0 (fun A W hx hf => ?_) ?_
     exact ok_call1 body10 (c_pkRead (AtW.now (q0 ?b27_6 A W 68 hf) (e_w.trans hx)))
     refine oc0 (fun A W hx hf => ?_) ?_
     exact ok_allocS (pktS (give 0)) [1, 37, 1, 1, 1, 1] zerov30 (by rfl) (by rfl) hx.size
     exact OpsOk.nil
    case t27 => exact inferInstance
    clear hr; intro a28 w28 x hr hd hs
    have z_w_w26 := e_w.size
    have l28_7 := PxS.lt s7
    have l28_8 := PxS.lt s8
    revert s8; revert s7; refine kp2 hs rfl ?_; intro s7 s8
    clear s0 s1
    have s69 := fa ?b27_7 a28 w28 69 (hd 7 69 rfl)
    have s9 := fa ?b27_8 a28 w28 9 (hd 8 9 rfl)
    obtain ⟨g28_9, q28_9⟩ := PxN.at s9; clear s9; have n28_9 := PxS.lt q28_9
    replace q28_9 := PxS.mono q28_9 e_w.size
    have s9 := q28_9; clear q28_9
    replace e_w := e_w.trans x
    have e_w26 := x
    clear hd hs x
    have z29 := PxS.lt s9
    have l29 := (show (g28_9 = 0 ∨ w.heap.size < g28_9) ∧ True from ⟨by omega, trivial⟩)
    have l29_7 := PxS.lt (later e_w26 s7)
    have l29_8 := PxS.lt (later e_w26 s8)
    refine wl_storeSm (pktS (pktRead (l.take K))) hr size30 s9 (Is.conv s69 (show _ = Value.agg (pktS (pktRead (l.take K))).flatten.toArray from rfl)) (by exact pktS_lens (pktRead_ok _)) (by exact pkt_one) rfl ?_; clear hr; intro a29 w29 hc hu hr hs
    have hb : Below w.heap.size w28 w29 := hc.below e_w.size l29.1
    revert s9; revert s8; revert s7; refine kp3 hs rfl ?_; intro s7 s8 s9
    clear s69
    replace s7 := PxS.other (later e_w26 s7) hc (by omega)
    replace s8 := PxS.other (later e_w26 s8) hc (by omega)
    replace s9 := hu _ _ _ s9
    try simp only [List.set_cons_zero, List.set_cons_succ] at s9
    replace e_w := e_w.below (Nat.le_refl _) hb
    clear e_w26
    clear hu hs hc hb
    refine wpList_nil ?_
    refine exit_then ?_
    refine wp_seq ?_
    refine wp_reg 83 [[(8, none)], [(7, none)], [(70, some 0), (71, some 1)], [(72, some 2)], [(9, none), (73, some 3)], [(74, some 4), (73, some 3)], [(75, some 5), (73, some 3)], [(76, some 6), (73, some 3)], [(9, none), (77, some 7)], [(78, some 8), (77, some 7)], [(79, some 9), (77, some 7)], [(77, some 7), (80, some 10), (73, some 3)], [(73, some 3), (81, some 11)], [(82, some 12)]] [?b30_0, ?b30_1, ?b30_2, ?b30_2, ?b30_4, ?b30_5, ?b30_6, ?b30_6, ?b30_8, ?b30_9, ?b30_10, ?b30_11, ?b30_12, ?b30_12] mixed hr ?t30 ?o30 ?_
    case o30 =>
     refine oc0 (fun A W hx hf => ?_) ?_
     exact ok_loadSeg Try.underlying30 rfl size30 (o1 s8 hx (r0 hf)) rfl rfl
     refine oc0 (fun A W hx hf => ?_) ?_
     exact ok_loadAggS 6 Try.underlying30 rfl size30 (o1 s7 hx (r0 hf)) rfl
     refine oc0 (fun A W hx hf => ?_) ?_
     exact ok_eqself eqg30 (eq_pkt (pktRead_ok l)) (Is.conv (q0 ?b30_0 A W 70 hf) (show _ = PktV (pktRead l) from by simp [PktV])) (Is.conv (q1 ?b30_1 A W 71 hf) (show _ = PktV (pktRead l) from rfl))
     refine oc0 (fun A W hx hf => ?_) ?_
     exact ok_move (q0 ?b30_2 A W 72 hf)
     refine ocg 73 ?_ (fun A W hx hf => ?_) ?_
     rfl
     exact gd_t (q1 ?b30_2 A W 73 hf) (fun hc => ok_fieldS 0 Try.underlying30 (k := 0) rfl size3 rfl (o1 s9 hx (r0 hf)) rfl)
     refine ocg 73 ?_ (fun A W hx hf => ?_) ?_
     rfl
     exact gd_t (q1 ?b30_2 A W 73 hf) (fun hc => ok_loadS Try.underlying3 rfl (G.get (q0 ?b30_4 A W 74 hf) hc) rfl)
     refine ocg 73 ?_ (fun A W hx hf => ?_) ?_
     rfl
     exact gd_t (q1 ?b30_2 A W 73 hf) (fun hc => ok_eql (G.get (q0 ?b30_5 A W 75 hf) hc) (ec A (.int .i64 1)))
     refine ocg 73 ?_ (fun A W hx hf => ?_) ?_
     rfl
     exact gd_t (q1 ?b30_2 A W 73 hf) (fun hc => ok_move (G.get (q0 ?b30_6 A W 76 hf) hc))
     refine ocg 77 ?_ (fun A W hx hf => ?_) ?_
     rfl
     exact gd_gf (q1 ?b30_6 A W 77 hf) (fun hc => ok_fieldS 0 Try.underlying30 (k := 0) rfl size3 rfl (o1 s9 hx (r0 hf)) rfl)
     refine ocg 77 ?_ (fun A W hx hf => ?_) ?_
     rfl
     exact gd_gf (q1 ?b30_6 A W 77 hf) (fun hc => ok_loadS Try.underlying3 rfl (G.get (q0 ?b30_8 A W 78 hf) hc) rfl)
     refine ocg 77 ?_ (fun A W hx hf => ?_) ?_
     rfl
     exact gd_gf (q1 ?b30_6 A W 77 hf) (fun hc => ok_eql (G.get (q0 ?b30_9 A W 79 hf) hc) (ec A (.int .i64 3)))
     refine ocg 73 ?_ (fun A W hx hf => ?_) ?_
     rfl
     exact gd_t (q2 ?b30_2 A W 73 hf) (fun hc => ok_or (G.get (q0 ?b30_6 A W 77 hf) hc) (G.strip hc (q1 ?b30_10 A W 80 hf)))
     refine oc0 (fun A W hx hf => ?_) ?_
     exact ok_and (q0 ?b30_2 A W 73 hf) (q1 ?b30_11 A W 81 hf)
     refine oc0 (fun A W hx hf => ?_) ?_
     exact ok_assign (q0 ?b30_12 A W 82 hf)
     exact OpsOk.nil
    case t30 => exact inferInstance
    clear hr; intro a31 w31 x hr hd hs
    clear s7 s8 s9
    have s6 := fa ?b30_12 a31 w31 6 (hd 13 6 rfl)
    replace e_w := e_w.trans x
    clear hd hs x
    refine exit_then ?_
    refine wp_ret ?_
    refine ret_tmp Try.results6 hr e_w ?_
    first | with_reducible exact s6 | (have h9 := hct; exact Is.bool s6 (by rcases h9 with e9 | e9 <;> simp [e9])) | exact Is.bool s6 (by simp [hn2, hn3])

end Go.Proofs.Ytpjpfmnnefgnbaa
