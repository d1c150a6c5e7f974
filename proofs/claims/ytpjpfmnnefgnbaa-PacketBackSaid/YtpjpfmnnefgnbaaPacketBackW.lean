import Derived.Test.YtpjpfmnnefgnbaaA11
import Derived.Test.YtpjpfmnnefgnbaaC11
import Derived.Test.YtpjpfmnnefgnbaaC11
namespace Go.Proofs.Ytpjpfmnnefgnbaa
open Go.RowKit
set_option linter.unusedVariables false
set_option linter.unusedSimpArgs false
set_option maxRecDepth 4000
set_option maxHeartbeats 1000000 in
theorem law_PacketBack {x0 x1 x2 x3 x4 : Value} {w : World} {L : LinkL} {T : TupL} {f : Int} {load more : List UInt8} (h0 : (LinkV L) x0 w) (h1 : (Is (TupV T)) x1 w) (h2 : (Is (.int .i64 f)) x2 w) (h3 : (Bs load) x3 w) (h4 : (Bs more) x4 w) (hL : LinkOk L) (hT9 : TupOk T) :
    Calls Try.prog 5 #[x0, x1, x2, x3, x4] w (Ret (Is (.bool true)) w) := by
 obtain ⟨v, eh0, hT, hvh0⟩ := h0
 replace h0 : Is (LnkA L v) x0 w := eh0
 have hll := Bs.len_le h3
 have hlm := Bs.len_le h4
 refine enter Try.func5 rfl Try.ntmps5 (k := 5) rfl (by decide) (fun a0 hr hargs => ?_)
 have s0 := sarg h0 (hargs 0 (by decide))
 have s1 := sarg h1 (hargs 1 (by decide))
 have s2 := sarg h2 (hargs 2 (by decide))
 have s3 := sarg h3 (hargs 3 (by decide))
 have s4 := sarg h4 (hargs 4 (by decide))
 clear hargs
 refine wp_seq ?_
 refine wp_reg_pre (l := [_]) (rest := [_, _]) 122 [[(0, none)]] [?b1_0] hr ?t1 ?o1 ?_
 case o1 =>
  refine oc0 (fun A W hx hf => ?_) ?_
  exact ok_boxS (lnkS L v) [6, 6, 1, 1, 1] (o1 s0 hx (r0 hf)) (by exact lnkS_lens hL) hx.size
  exact OpsOk.nil
 case t1 => exact inferInstance
 clear hr; intro a2 w2 x hr hd hs
 revert s4; revert s3; revert s2; revert s1; refine kp4 hs rfl ?_; intro s1 s2 s3 s4
 clear s0
 have s5 := fa ?b1_0 a2 w2 5 (hd 0 5 rfl)
 obtain ⟨g2_5, q2_5⟩ := PxN.at s5; clear s5; have n2_5 := PxS.lt q2_5
 have s5 := q2_5; clear q2_5
 have e_w := x
 clear hd hs x
 have l3_5 := PxS.lt s5
 refine wl_op hr (ok_boxS (tupS T) [1, 16, 1, 16, 1, 1, 1] (later e_w s1) (by exact tupS_lens hT9) (Nat.le_refl _)) inferInstance ?_; clear hr; intro a3 w3 x hr hd hs
 revert s5; revert s4; revert s3; revert s2; refine kp4 hs rfl ?_; intro s2 s3 s4 s5
 clear s1
 have s6 := hd 6 rfl (by decide)
 obtain ⟨g3_6, q3_6⟩ := PxN.at s6; clear s6; have n3_6 := PxS.lt q3_6
 replace q3_6 := PxS.mono q3_6 e_w.size
 have s6 := q3_6; clear q3_6
 replace e_w := e_w.trans x
 have e_w2 := x
 clear hd hs x
 refine wl_op hr (ok_assignc) inferInstance ?_; clear hr; intro a4 w4 x hr hd hs
 revert s6; revert s5; revert s4; revert s3; revert s2; refine kp5 hs rfl ?_; intro s2 s3 s4 s5 s6
 replace e_w := e_w.trans x
 replace e_w2 := e_w2.trans x
 have e_w3 := x
 clear hd hs x
 refine wpList_nil ?_
 refine exit_then ?_
 refine wp_seq ?_
 refine wp_seq ?_
 refine wp_reg 122 [[], [(14, some 0)], [(15, some 1)], [(5, none), (16, some 2)], [(17, some 3), (16, some 2)], [(18, some 4), (16, some 2)], [(19, some 5), (16, some 2)], [(16, some 2), (20, some 6)], [(21, some 7)], [(3, none), (22, some 8)], [(23, some 9), (22, some 8)], [(24, some 10), (22, some 8)], [(22, some 8), (25, some 11)], [(26, some 12)], [(4, none), (27, some 13)], [(28, some 14), (27, some 13)], [(29, some 15), (27, some 13)], [(27, some 13), (30, some 16)]] [?b5_0, ?b5_1, ?b5_1, ?b5_3, ?b5_4, ?b5_5, ?b5_6, ?b5_7, ?b5_7, ?b5_9, ?b5_10, ?b5_11, ?b5_12, ?b5_12, ?b5_14, ?b5_15, ?b5_16, ?b5_17] mixed hr ?t5 ?o5 ?_
 case o5 =>
  refine oc0 (fun A W hx hf => ?_) ?_
  exact ok_call0 body9 (c_awake11 )
  refine oc0 (fun A W hx hf => ?_) ?_
  exact ok_not (q0 ?b5_0 A W 14 hf)
  refine oc0 (fun A W hx hf => ?_) ?_
  exact ok_move (q0 ?b5_1 A W 15 hf)
  refine ocg 16 ?_ (fun A W hx hf => ?_) ?_
  rfl
  exact gd_f (q1 ?b5_1 A W 16 hf) (fun hc => ok_fieldS 2 Try.underlying36 (k := 2) rfl size34 rfl (o2 s5 e_w2 hx (r0 hf)) rfl)
  refine ocg 16 ?_ (fun A W hx hf => ?_) ?_
  rfl
  exact gd_f (q1 ?b5_1 A W 16 hf) (fun hc => ok_is (ok_loadS Try.underlying34 rfl (G.get (q0 ?b5_3 A W 17 hf) hc) rfl) (later (e_w.trans hx) hT))
  refine ocg 16 ?_ (fun A W hx hf => ?_) ?_
  rfl
  exact gd_f (q1 ?b5_1 A W 16 hf) (fun hc => ok_len_rw Try.underlying34 (G.get (q0 ?b5_4 A W 18 hf) hc))
  refine ocg 16 ?_ (fun A W hx hf => ?_) ?_
  rfl
  exact gd_f (q1 ?b5_1 A W 16 hf) (fun hc => ok_gtr (G.get (q0 ?b5_5 A W 19 hf) hc) (ec A (.int .i64 100)))
  refine oc0 (fun A W hx hf => ?_) ?_
  exact ok_or (q0 ?b5_1 A W 16 hf) (q1 ?b5_6 A W 20 hf)
  refine oc0 (fun A W hx hf => ?_) ?_
  exact ok_move (q0 ?b5_7 A W 21 hf)
  refine ocg 22 ?_ (fun A W hx hf => ?_) ?_
  rfl
  exact gd_f (q1 ?b5_7 A W 22 hf) (fun hc => ok_movE (a0 := a4) (r0 hf))
  refine ocg 22 ?_ (fun A W hx hf => ?_) ?_
  rfl
  exact gd_f (q1 ?b5_7 A W 22 hf) (fun hc => ok_len_bs Try.underlying22 (p2 s3 e_w hx (G.get (q0 ?b5_9 A W 23 hf) hc)))
  refine ocg 22 ?_ (fun A W hx hf => ?_) ?_
  rfl
  exact gd_f (q1 ?b5_7 A W 22 hf) (fun hc => ok_gtr (G.get (q0 ?b5_10 A W 24 hf) hc) (ec A (.int .i64 500)))
  refine oc0 (fun A W hx hf => ?_) ?_
  exact ok_or (q0 ?b5_7 A W 22 hf) (q1 ?b5_11 A W 25 hf)
  refine oc0 (fun A W hx hf => ?_) ?_
  exact ok_move (q0 ?b5_12 A W 26 hf)
  refine ocg 27 ?_ (fun A W hx hf => ?_) ?_
  rfl
  exact gd_f (q1 ?b5_12 A W 27 hf) (fun hc => ok_movE (a0 := a4) (r0 hf))
  refine ocg 27 ?_ (fun A W hx hf => ?_) ?_
  rfl
  exact gd_f (q1 ?b5_12 A W 27 hf) (fun hc => ok_len_bs Try.underlying22 (p2 s4 e_w hx (G.get (q0 ?b5_14 A W 28 hf) hc)))
  refine ocg 27 ?_ (fun A W hx hf => ?_) ?_
  rfl
  exact gd_f (q1 ?b5_12 A W 27 hf) (fun hc => ok_gtr (G.get (q0 ?b5_15 A W 29 hf) hc) (ec A (.int .i64 300)))
  refine oc0 (fun A W hx hf => ?_) ?_
  exact ok_or (q0 ?b5_12 A W 27 hf) (q1 ?b5_16 A W 30 hf)
  exact OpsOk.nil
 case t5 => exact inferInstance
 clear hr; intro a6 w6 x hr hd hs
 revert s6; revert s5; revert s4; revert s3; revert s2; refine kp5 hs rfl ?_; intro s2 s3 s4 s5 s6
 have s31 := fa ?b5_17 a6 w6 31 (hd 17 31 rfl)
 replace e_w := e_w.trans x
 replace e_w2 := e_w2.trans x
 replace e_w3 := e_w3.trans x
 clear hd hs x
 refine exit_then ?_
 refine wp_cond_split (show _ = _ from s31) (fun hg => ?_) (fun hg => ?_)
 ·
  skip
  refine wp_seq ?_
  refine wp_reg 122 [[], [(32, some 0)]] [?b8_0, ?b8_0] mixed hr ?t8 ?o8 ?_
  case o8 =>
   refine oc0 (fun A W hx hf => ?_) ?_
   exact ok_call0 body9 (c_awake11 )
   refine oc0 (fun A W hx hf => ?_) ?_
   exact ok_assign (q0 ?b8_0 A W 32 hf)
   exact OpsOk.nil
  case t8 => exact inferInstance
  clear hr; intro a9 w9 x hr hd hs
  clear s2 s3 s4 s5 s6 s31
  have s10 := fa ?b8_0 a9 w9 10 (hd 1 10 rfl)
  replace e_w := e_w.trans x
  clear e_w2
  clear e_w3
  clear hd hs x
  refine exit_then ?_
  refine wp_ret ?_
  refine then_ret ?_
  refine ret_tmp Try.results5 hr e_w ?_
  first | with_reducible exact s10 | exact Is.bool s10 (by rw [hmk]; rfl) | exact Is.bool s10 (by rw [hpr, htl]; simp)
 ·
  have hg9 : (L.tags.length ≤ 100 ∧ load.length ≤ 500) ∧ more.length ≤ 300 := by simp at hg; omega
  refine wp_skip ?_
  refine exit_then ?_
  refine wp_seq ?_
  refine wp_reg 122 [[(5, none)], [(6, none)], [(2, none)], [(3, none)], [(34, some 0), (35, some 1), (36, some 2), (37, some 3)], [(38, some 4)], [(33, some 5)], [(33, some 5)], [(39, some 6)], [(40, some 7)]] [?b10_0, ?b10_1, ?b10_2, ?b10_3, ?b10_4, ?b10_4, ?b10_6, ?b10_7, ?b10_6, ?b10_7] mixed hr ?t10 ?o10 ?_
  case o10 =>
   refine oc0 (fun A W hx hf => ?_) ?_
   exact ok_loadAggS 5 Try.underlying36 rfl size36 (o2 s5 e_w2 hx (r0 hf)) rfl
   refine oc0 (fun A W hx hf => ?_) ?_
   exact ok_loadAggS 7 Try.underlying28 rfl size28 (o2 s6 e_w3 hx (r0 hf)) rfl
   refine oc0 (fun A W hx hf => ?_) ?_
   exact ok_movE (a0 := a6) (r0 hf)
   refine oc0 (fun A W hx hf => ?_) ?_
   exact ok_movE (a0 := a6) (r0 hf)
   refine oc0 (fun A W hx hf => ?_) ?_
   exact ok_call4 body12 (c_pkMake (LinkV.of (show Is (LnkA L v) _ _ from (q0 ?b10_0 A W 34 hf)) (later (e_w.trans hx) hT)) (show Is (TupV T) _ _ from (q1 ?b10_1 A W 35 hf)) (p2 s2 e_w hx (q2 ?b10_2 A W 36 hf)) (p2 s3 e_w hx (q3 ?b10_3 A W 37 hf)) (by exact hL) (by exact hT9) (by omega) hx.size)
   refine oc0 (fun A W hx hf => ?_) ?_
   exact ok_move (q0 ?b10_4 A W 38 hf)
   refine oc0 (fun A W hx hf => ?_) ?_
   exact ok_ext0 (q0 ?b10_4 A W 33 hf)
   refine oc0 (fun A W hx hf => ?_) ?_
   exact ok_ext1 (q0 ?b10_4 A W 33 hf)
   refine oc0 (fun A W hx hf => ?_) ?_
   exact ok_assign (q0 ?b10_6 A W 39 hf)
   refine oc0 (fun A W hx hf => ?_) ?_
   exact ok_assign (q0 ?b10_7 A W 40 hf)
   exact OpsOk.nil
  case t10 => exact inferInstance
  clear hr; intro a11 w11 x hr hd hs
  have z_w_w6 := e_w.size
  have z_w2_w6 := e_w2.size
  have z_w3_w6 := e_w3.size
  have l11_5 := PxS.lt (later e_w2 s5)
  have l11_6 := PxS.lt (later e_w3 s6)
  revert s6; revert s5; revert s4; revert s3; revert s2; refine kp5 hs rfl ?_; intro s2 s3 s4 s5 s6
  clear s31
  have s11 := fa ?b10_6 a11 w11 11 (hd 8 11 rfl)
  have s12 := fa ?b10_7 a11 w11 12 (hd 9 12 rfl)
  obtain ⟨g11_11, q11_11⟩ := OwnB.at s11; clear s11; have n11_11 := OwnBA.lt q11_11
  replace q11_11 := OwnBA.mono q11_11 e_w.size
  have s11 := q11_11; clear q11_11
  replace e_w := e_w.trans x
  replace e_w2 := e_w2.trans x
  replace e_w3 := e_w3.trans x
  clear hd hs x
  refine exit_then ?_
  refine wp_seq ?_
  refine wp_seq ?_
  refine wp_reg 122 [[(12, none)], [(41, some 0)]] [?b12_0, ?b12_1] mixed hr ?t12 ?o12 ?_
  case o12 =>
   refine oc0 (fun A W hx hf => ?_) ?_
   exact ok_movE (a0 := a11) (r0 hf)
   refine oc0 (fun A W hx hf => ?_) ?_
   exact ok_neq (p1 s12 hx (q0 ?b12_0 A W 41 hf)) (ec A (.int .i64 0))
   exact OpsOk.nil
  case t12 => exact inferInstance
  clear hr; intro a13 w13 x hr hd hs
  revert s11; revert s6; revert s5; revert s4; revert s3; revert s2; refine kp6 hs rfl ?_; intro s2 s3 s4 s5 s6 s11
  clear s12
  have s42 := fa ?b12_1 a13 w13 42 (hd 1 42 rfl)
  replace e_w := e_w.trans x
  replace e_w2 := e_w2.trans x
  replace e_w3 := e_w3.trans x
  have e_w11 := x
  clear hd hs x
  refine exit_then ?_
  refine wp_cond_split (show _ = _ from s42) (fun he => ?_) (fun he => ?_)
  ·
   have he : (makeR L T f load).2 ≠ 0 := by simpa using he
   have hmk := makeR_bad he
   refine wp_seq ?_
   refine wp_reg 122 [[(11, none)], [(43, some 0)], [(44, some 1)], [(45, some 2)]] [?b15_0, ?b15_1, ?b15_2, ?b15_2] mixed hr ?t15 ?o15 ?_
   case o15 =>
    refine oc0 (fun A W hx hf => ?_) ?_
    exact ok_movE (a0 := a13) (r0 hf)
    refine oc0 (fun A W hx hf => ?_) ?_
    exact ok_len_bs Try.underlying22 (OwnBA.bs (p2 s11 e_w11 hx (q0 ?b15_0 A W 43 hf)))
    refine oc0 (fun A W hx hf => ?_) ?_
    exact ok_eql (q0 ?b15_1 A W 44 hf) (ec A (.int .i64 0))
    refine oc0 (fun A W hx hf => ?_) ?_
    exact ok_assign (q0 ?b15_2 A W 45 hf)
    exact OpsOk.nil
   case t15 => exact inferInstance
   clear hr; intro a16 w16 x hr hd hs
   clear s2 s3 s4 s5 s6 s11 s42
   have s10 := fa ?b15_2 a16 w16 10 (hd 3 10 rfl)
   replace e_w := e_w.trans x
   clear e_w2
   clear e_w3
   clear e_w11
   clear hd hs x
   refine exit_then ?_
   refine wp_ret ?_
   refine then_ret ?_
   refine ret_tmp Try.results5 hr e_w ?_
   first | with_reducible exact s10 | exact Is.bool s10 (by rw [hmk]; rfl) | exact Is.bool s10 (by rw [hpr, htl]; simp)
  ·
   have he : (makeR L T f load).2 = 0 := by simpa using he
   have hw := makeR_good he
   have hmk := makeR_0 hw
   replace s11 := OwnBA.cast s11 (show _ = makeL L T f load from by rw [hmk])
   have hml := makeL_len hL hT9 hw
   have hhl := headL_bd T
   have hml2 : (makeL L T f load).length ≤ 2000 := by split at hml <;> omega
   have hall := (make_all hL hT9 hw more).2.2.2.2
   have hend := make_end hL hT9 hw
   have hsub := make_seg hL hT9 hw
   have htl := make_tail hL hT9 hw
   have hpr := make_right hT9 hw
   have hlo : 14 + 4 * L.tags.length + headI T ≤ (makeL L T f load).length := by rw [hml]; unfold headI; omega
   refine wp_skip ?_
   refine exit_then ?_
   refine wp_seq ?_
   refine wp_reg_pre (l := [_, _]) (rest := [_, _, _, _, _, _]) 122 [[], [(11, none)]] [?b17_0, ?b17_1] hr ?t17 ?o17 ?_
   case o17 =>
    refine oc0 (fun A W hx hf => ?_) ?_
    exact ok_ownBs [] [] Try.underlying22 size5 zero5 rfl rfl (by decide) hx.size (PartsOk.nil)
    refine oc0 (fun A W hx hf => ?_) ?_
    exact ok_movE (a0 := a13) (r0 hf)
    exact OpsOk.nil
   case t17 => exact inferInstance
   clear hr; intro a18 w18 x hr hd hs
   have z_w_w13 := e_w.size
   have z_w2_w13 := e_w2.size
   have z_w3_w13 := e_w3.size
   have z_w11_w13 := e_w11.size
   have l18_5 := PxS.lt (later e_w2 s5)
   have l18_6 := PxS.lt (later e_w3 s6)
   have l18_11 := OwnBA.lt (later e_w11 s11)
   have u47 := mv s11 (fa ?b17_1 a18 w18 47 (hd 1 47 rfl))
   revert s11; revert s6; revert s5; revert s4; revert s3; revert s2; refine kp6 hs rfl ?_; intro s2 s3 s4 s5 s6 s11
   clear s42
   have s47 := u47; clear u47
   have s46 := fa ?b17_0 a18 w18 46 (hd 0 46 rfl)
   obtain ⟨g18_46, q18_46⟩ := OwnB.at s46; clear s46; have n18_46 := OwnBA.lt q18_46
   replace q18_46 := OwnBA.mono q18_46 e_w.size
   have s46 := q18_46; clear q18_46
   replace e_w := e_w.trans x
   replace e_w2 := e_w2.trans x
   replace e_w3 := e_w3.trans x
   replace e_w11 := e_w11.trans x
   clear hd hs x
   have l19 := OwnBA.lt s46
   have l19_5 := PxS.lt (later e_w2 s5)
   have l19_6 := PxS.lt (later e_w3 s6)
   have l19_11 := OwnBA.lt (later e_w11 s11)
   refine wl_append_bsA hr (by decide) Try.underlying22 info5 rfl s46 (OwnBA.bs (later e_w11 s47)) e_w.size (by first | (simp; done) | (simp; omega)) ?_; clear hr; intro g19 a19 w19 hg19 hc hr hd hs
   have hb := hc.below e_w.size l19.1
   revert s11; revert s6; revert s5; revert s4; revert s3; revert s2; refine kp6 hs rfl ?_; intro s2 s3 s4 s5 s6 s11
   clear s47 s46
   replace s5 := PxS.other (later e_w2 s5) hc (by omega)
   replace s6 := PxS.other (later e_w3 s6) hc (by omega)
   replace s11 := OwnBA.other (later e_w11 s11) hc (by omega)
   have s48 := hd
   replace e_w := e_w.below (Nat.le_refl _) hb
   clear e_w2
   clear e_w3
   clear e_w11
   clear hd hs hb hc
   refine wl_op hr (ok_move (show AtW w _ _ _ from s4)) inferInstance ?_; clear hr; intro a20 w20 x hr hd hs
   revert s48; revert s11; revert s6; revert s5; revert s3; revert s2; refine kp6 hs rfl ?_; intro s2 s3 s5 s6 s11 s48
   clear s4
   have s49 := AtW.base (hd 49 rfl (by decide))
   replace e_w := e_w.trans x
   have e_w19 := x
   clear hd hs x
   have l21 := OwnBA.lt (later e_w19 s48)
   have l21_5 := PxS.lt (later e_w19 s5)
   have l21_6 := PxS.lt (later e_w19 s6)
   have l21_11 := OwnBA.lt (later e_w19 s11)
   refine wl_append_bsA hr (by decide) Try.underlying22 info5 rfl (later e_w19 s48) (later e_w s49) e_w.size (by first | (simp; done) | (simp; omega)) ?_; clear hr; intro g21 a21 w21 hg21 hc hr hd hs
   have hb := hc.below e_w.size l21.1
   revert s11; revert s6; revert s5; revert s3; revert s2; refine kp5 hs rfl ?_; intro s2 s3 s5 s6 s11
   clear s48 s49
   replace s5 := PxS.other (later e_w19 s5) hc (by omega)
   replace s6 := PxS.other (later e_w19 s6) hc (by omega)
   replace s11 := OwnBA.other (later e_w19 s11) hc (by omega)
   have s50 := hd
   replace e_w := e_w.below (Nat.le_refl _) hb
   clear e_w19
   clear hd hs hb hc
   refine wl_op hr (ok_call1 body10 (c_pkRead (OwnBA.bs s50))) inferInstance ?_; clear hr; intro a22 w22 x hr hd hs
   revert s11; revert s6; revert s5; revert s3; revert s2; refine kp5 hs rfl ?_; intro s2 s3 s5 s6 s11
   clear s50
   have s51 := hd 51 rfl (by decide)
   replace e_w := e_w.trans x
   have e_w21 := x
   clear hd hs x
   have l23_5 := PxS.lt (later e_w21 s5)
   have l23_6 := PxS.lt (later e_w21 s6)
   have l23_11 := OwnBA.lt (later e_w21 s11)
   refine wl_op hr (ok_allocS (pktS (give 0)) [1, 37, 1, 1, 1, 1] zerov30 (by rfl) (by rfl) (Nat.le_refl _)) inferInstance ?_; clear hr; intro a23 w23 x hr hd hs
   revert s51; revert s11; revert s6; revert s5; revert s3; revert s2; refine kp6 hs rfl ?_; intro s2 s3 s5 s6 s11 s51
   have s13 := hd 13 rfl (by decide)
   obtain ⟨g23_13, q23_13⟩ := PxN.at s13; clear s13; have n23_13 := PxS.lt q23_13
   replace q23_13 := PxS.mono q23_13 e_w.size
   have s13 := q23_13; clear q23_13
   replace e_w := e_w.trans x
   replace e_w21 := e_w21.trans x
   have e_w22 := x
   clear hd hs x
   have z24 := PxS.lt s13
   have l24 := (show (g23_13 = 0 ∨ w.heap.size < g23_13) ∧ True from ⟨by omega, trivial⟩)
   have l24_5 := PxS.lt (later e_w21 s5)
   have l24_6 := PxS.lt (later e_w21 s6)
   have l24_11 := OwnBA.lt (later e_w21 s11)
   refine wl_storeSm (pktS (pktRead ([] ++ makeL L T f load ++ more))) hr size30 s13 (Is.conv (later e_w22 s51) (show _ = Value.agg (pktS (pktRead ([] ++ makeL L T f load ++ more))).flatten.toArray from rfl)) (by exact pktS_lens (pktRead_ok _)) (by exact pkt_one) rfl ?_; clear hr; intro a24 w24 hc hu hr hs
   have hb : Below w.heap.size w23 w24 := hc.below e_w.size l24.1
   revert s13; revert s11; revert s6; revert s5; revert s3; revert s2; refine kp6 hs rfl ?_; intro s2 s3 s5 s6 s11 s13
   clear s51
   replace s5 := PxS.other (later e_w21 s5) hc (by omega)
   replace s6 := PxS.other (later e_w21 s6) hc (by omega)
   replace s11 := OwnBA.other (later e_w21 s11) hc (by omega)
   replace s13 := hu _ _ _ s13
   try simp only [List.set_cons_zero, List.set_cons_succ] at s13
   replace e_w := e_w.below (Nat.le_refl _) hb
   clear e_w21
   clear e_w22
   clear hu hs hc hb
   refine wpList_nil ?_
   replace s13 := PxS.cast s13 (show _ = pktS (madeR L T f load) from by rw [List.nil_append, hall])
   refine exit_then ?_
   refine wp_seq ?_
   refine wp_seq ?_
   refine wp_reg 122 ([(13, none)] :: [(52, some 0)] :: [(53, some 1)] :: [(54, some 2)] :: [(13, none), (55, some 3)] :: [(56, some 4), (55, some 3)] :: [(6, none), (55, some 3)] :: [(57, some 5), (58, some 6), (55, some 3)] :: [(55, some 3), (59, some 7)] :: [(60, some 8)] :: [(13, none), (61, some 9)] :: [(62, some 10), (61, some 9)] :: [(2, none), (61, some 9)] :: [(63, some 11), (64, some 12), (61, some 9)] :: [(61, some 9), (65, some 13)] :: [(66, some 14)] :: [(13, none), (67, some 15)] :: [(68, some 16), (67, some 15)] :: [(5, none), (67, some 15)] :: [(70, some 18), (67, some 15)] :: [(71, some 19), (67, some 15)] :: [(72, some 20), (67, some 15)] :: [(73, some 21), (67, some 15)] :: [(69, some 17), (74, some 22), (67, some 15)] :: [(67, some 15), (75, some 23)] :: [(76, some 24)] :: [(13, none), (77, some 25)] :: [(78, some 26), (77, some 25)] :: [(11, none), (77, some 25)] :: [(80, some 28), (77, some 25)] :: [(79, some 27), (81, some 29), (77, some 25)] :: [(77, some 25), (82, some 30)] :: [(83, some 31)] :: [(13, none), (84, some 32)] :: [(85, some 33), (84, some 32)] :: [(13, none), (84, some 32)] :: [(87, some 35), (84, some 32)] :: [(86, some 34), (88, some 36), (84, some 32)] :: [(84, some 32), (89, some 37)] :: [(90, some 38)] :: [(13, none), (91, some 39)] :: [(92, some 40), (91, some 39)] :: [(13, none), (91, some 39)] :: [(94, some 42), (91, some 39)] :: [(93, some 41), (95, some 43), (91, some 39)] :: [(91, some 39), (96, some 44)] :: []) (?b25_0 :: ?b25_1 :: ?b25_2 :: ?b25_2 :: ?b25_4 :: ?b25_5 :: ?b25_6 :: ?b25_7 :: ?b25_8 :: ?b25_8 :: ?b25_10 :: ?b25_11 :: ?b25_12 :: ?b25_13 :: ?b25_14 :: ?b25_14 :: ?b25_16 :: ?b25_17 :: ?b25_18 :: ?b25_19 :: ?b25_20 :: ?b25_21 :: ?b25_22 :: ?b25_23 :: ?b25_24 :: ?b25_24 :: ?b25_26 :: ?b25_27 :: ?b25_28 :: ?b25_29 :: ?b25_30 :: ?b25_31 :: ?b25_31 :: ?b25_33 :: ?b25_34 :: ?b25_35 :: ?b25_36 :: ?b25_37 :: ?b25_38 :: ?b25_38 :: ?b25_40 :: ?b25_41 :: ?b25_42 :: ?b25_43 :: ?b25_44 :: ?b25_45 :: []) mixed hr ?t25 ?o25 ?_
   case o25 =>
    refine oc0 (fun A W hx hf => ?_) ?_
    exact ok_fieldS 0 Try.underlying30 (k := 0) rfl size3 rfl (o1 s13 hx (r0 hf)) rfl
    refine oc0 (fun A W hx hf => ?_) ?_
    exact ok_loadS Try.underlying3 rfl (q0 ?b25_0 A W 52 hf) rfl
    refine oc0 (fun A W hx hf => ?_) ?_
    exact ok_neq (q0 ?b25_1 A W 53 hf) (ec A (.int .i64 0))
    refine oc0 (fun A W hx hf => ?_) ?_
    exact ok_move (q0 ?b25_2 A W 54 hf)
    refine ocg 55 ?_ (fun A W hx hf => ?_) ?_
    rfl
    exact gd_f (q1 ?b25_2 A W 55 hf) (fun hc => ok_fieldS 1 Try.underlying30 (k := 1) rfl size28 rfl (o1 s13 hx (r0 hf)) rfl)
    refine ocg 55 ?_ (fun A W hx hf => ?_) ?_
    rfl
    exact gd_f (q1 ?b25_2 A W 55 hf) (fun hc => ok_loadSeg Try.underlying28 rfl size28 (G.get (q0 ?b25_4 A W 56 hf) hc) rfl rfl)
    refine ocg 55 ?_ (fun A W hx hf => ?_) ?_
    rfl
    exact gd_f (q1 ?b25_2 A W 55 hf) (fun hc => ok_loadAggS 7 Try.underlying28 rfl size28 (o1 s6 hx (r0 hf)) rfl)
    refine ocg 55 ?_ (fun A W hx hf => ?_) ?_
    rfl
    exact gd_f (q2 ?b25_2 A W 55 hf) (fun hc => ok_neself eqg28 (eq_tup0 hT9) (Is.conv (G.get (q0 ?b25_5 A W 57 hf) hc) (show _ = TupV T from rfl)) (Is.conv (G.get (q1 ?b25_6 A W 58 hf) hc) (show _ = TupV T from rfl)))
    refine oc0 (fun A W hx hf => ?_) ?_
    exact ok_or (q0 ?b25_2 A W 55 hf) (q1 ?b25_7 A W 59 hf)
    refine oc0 (fun A W hx hf => ?_) ?_
    exact ok_move (q0 ?b25_8 A W 60 hf)
    refine ocg 61 ?_ (fun A W hx hf => ?_) ?_
    rfl
    exact gd_f (q1 ?b25_8 A W 61 hf) (fun hc => ok_fieldS 2 Try.underlying30 (k := 2) rfl size3 rfl (o1 s13 hx (r0 hf)) rfl)
    refine ocg 61 ?_ (fun A W hx hf => ?_) ?_
    rfl
    exact gd_f (q1 ?b25_8 A W 61 hf) (fun hc => ok_loadS Try.underlying3 rfl (G.get (q0 ?b25_10 A W 62 hf) hc) rfl)
    refine ocg 61 ?_ (fun A W hx hf => ?_) ?_
    rfl
    exact gd_f (q1 ?b25_8 A W 61 hf) (fun hc => ok_movE (a0 := a24) (r0 hf))
    refine ocg 61 ?_ (fun A W hx hf => ?_) ?_
    rfl
    exact gd_f (q2 ?b25_8 A W 61 hf) (fun hc => ok_neq (G.get (q0 ?b25_11 A W 63 hf) hc) (p2 s2 e_w hx (G.get (q1 ?b25_12 A W 64 hf) hc)))
    refine oc0 (fun A W hx hf => ?_) ?_
    exact ok_or (q0 ?b25_8 A W 61 hf) (q1 ?b25_13 A W 65 hf)
    refine oc0 (fun A W hx hf => ?_) ?_
    exact ok_move (q0 ?b25_14 A W 66 hf)
    refine ocg 67 ?_ (fun A W hx hf => ?_) ?_
    rfl
    exact gd_f (q1 ?b25_14 A W 67 hf) (fun hc => ok_fieldS 3 Try.underlying30 (k := 3) rfl size3 rfl (o1 s13 hx (r0 hf)) rfl)
    refine ocg 67 ?_ (fun A W hx hf => ?_) ?_
    rfl
    exact gd_f (q1 ?b25_14 A W 67 hf) (fun hc => ok_loadS Try.underlying3 rfl (G.get (q0 ?b25_16 A W 68 hf) hc) rfl)
    refine ocg 67 ?_ (fun A W hx hf => ?_) ?_
    rfl
    exact gd_f (q1 ?b25_14 A W 67 hf) (fun hc => ok_fieldS 2 Try.underlying36 (k := 2) rfl size34 rfl (o1 s5 hx (r0 hf)) rfl)
    refine ocg 67 ?_ (fun A W hx hf => ?_) ?_
    rfl
    exact gd_f (q1 ?b25_14 A W 67 hf) (fun hc => ok_is (ok_loadS Try.underlying34 rfl (G.get (q0 ?b25_18 A W 70 hf) hc) rfl) (later (e_w.trans hx) hT))
    refine ocg 67 ?_ (fun A W hx hf => ?_) ?_
    rfl
    exact gd_f (q1 ?b25_14 A W 67 hf) (fun hc => ok_len_rw Try.underlying34 (G.get (q0 ?b25_19 A W 71 hf) hc))
    refine ocg 67 ?_ (fun A W hx hf => ?_) ?_
    rfl
    exact gd_f (q1 ?b25_14 A W 67 hf) (fun hc => ok_mulI (ec A (.int .i64 4)) (G.get (q0 ?b25_20 A W 72 hf) hc) (by omega))
    refine ocg 67 ?_ (fun A W hx hf => ?_) ?_
    rfl
    exact gd_f (q1 ?b25_14 A W 67 hf) (fun hc => ok_addI (ec A (.int .i64 14)) (G.get (q0 ?b25_21 A W 73 hf) hc) (by omega))
    refine ocg 67 ?_ (fun A W hx hf => ?_) ?_
    rfl
    exact gd_f (q2 ?b25_14 A W 67 hf) (fun hc => ok_neq (G.get (q0 ?b25_17 A W 69 hf) hc) (G.get (q1 ?b25_22 A W 74 hf) hc))
    refine oc0 (fun A W hx hf => ?_) ?_
    exact ok_or (q0 ?b25_14 A W 67 hf) (q1 ?b25_23 A W 75 hf)
    refine oc0 (fun A W hx hf => ?_) ?_
    exact ok_move (q0 ?b25_24 A W 76 hf)
    refine ocg 77 ?_ (fun A W hx hf => ?_) ?_
    rfl
    exact gd_f (q1 ?b25_24 A W 77 hf) (fun hc => ok_fieldS 5 Try.underlying30 (k := 5) rfl size3 rfl (o1 s13 hx (r0 hf)) rfl)
    refine ocg 77 ?_ (fun A W hx hf => ?_) ?_
    rfl
    exact gd_f (q1 ?b25_24 A W 77 hf) (fun hc => ok_loadS Try.underlying3 rfl (G.get (q0 ?b25_26 A W 78 hf) hc) rfl)
    refine ocg 77 ?_ (fun A W hx hf => ?_) ?_
    rfl
    exact gd_f (q1 ?b25_24 A W 77 hf) (fun hc => ok_movE (a0 := a24) (r0 hf))
    refine ocg 77 ?_ (fun A W hx hf => ?_) ?_
    rfl
    exact gd_f (q1 ?b25_24 A W 77 hf) (fun hc => ok_len_bs Try.underlying22 (OwnBA.bs (p1 s11 hx (G.get (q0 ?b25_28 A W 80 hf) hc))))
    refine ocg 77 ?_ (fun A W hx hf => ?_) ?_
    rfl
    exact gd_f (q2 ?b25_24 A W 77 hf) (fun hc => ok_neq (G.get (q0 ?b25_27 A W 79 hf) hc) (G.get (q1 ?b25_29 A W 81 hf) hc))
    refine oc0 (fun A W hx hf => ?_) ?_
    exact ok_or (q0 ?b25_24 A W 77 hf) (q1 ?b25_30 A W 82 hf)
    refine oc0 (fun A W hx hf => ?_) ?_
    exact ok_move (q0 ?b25_31 A W 83 hf)
    refine ocg 84 ?_ (fun A W hx hf => ?_) ?_
    rfl
    exact gd_f (q1 ?b25_31 A W 84 hf) (fun hc => ok_fieldS 4 Try.underlying30 (k := 4) rfl size3 rfl (o1 s13 hx (r0 hf)) rfl)
    refine ocg 84 ?_ (fun A W hx hf => ?_) ?_
    rfl
    exact gd_f (q1 ?b25_31 A W 84 hf) (fun hc => ok_loadS Try.underlying3 rfl (G.get (q0 ?b25_33 A W 85 hf) hc) rfl)
    refine ocg 84 ?_ (fun A W hx hf => ?_) ?_
    rfl
    exact gd_f (q1 ?b25_31 A W 84 hf) (fun hc => ok_fieldS 3 Try.underlying30 (k := 3) rfl size3 rfl (o1 s13 hx (r0 hf)) rfl)
    refine ocg 84 ?_ (fun A W hx hf => ?_) ?_
    rfl
    exact gd_f (q1 ?b25_31 A W 84 hf) (fun hc => ok_loadS Try.underlying3 rfl (G.get (q0 ?b25_35 A W 87 hf) hc) rfl)
    refine ocg 84 ?_ (fun A W hx hf => ?_) ?_
    rfl
    exact gd_f (q2 ?b25_31 A W 84 hf) (fun hc => ok_lss (G.get (q0 ?b25_34 A W 86 hf) hc) (G.get (q1 ?b25_36 A W 88 hf) hc))
    refine oc0 (fun A W hx hf => ?_) ?_
    exact ok_or (q0 ?b25_31 A W 84 hf) (q1 ?b25_37 A W 89 hf)
    refine oc0 (fun A W hx hf => ?_) ?_
    exact ok_move (q0 ?b25_38 A W 90 hf)
    refine ocg 91 ?_ (fun A W hx hf => ?_) ?_
    rfl
    exact gd_f (q1 ?b25_38 A W 91 hf) (fun hc => ok_fieldS 4 Try.underlying30 (k := 4) rfl size3 rfl (o1 s13 hx (r0 hf)) rfl)
    refine ocg 91 ?_ (fun A W hx hf => ?_) ?_
    rfl
    exact gd_f (q1 ?b25_38 A W 91 hf) (fun hc => ok_loadS Try.underlying3 rfl (G.get (q0 ?b25_40 A W 92 hf) hc) rfl)
    refine ocg 91 ?_ (fun A W hx hf => ?_) ?_
    rfl
    exact gd_f (q1 ?b25_38 A W 91 hf) (fun hc => ok_fieldS 5 Try.underlying30 (k := 5) rfl size3 rfl (o1 s13 hx (r0 hf)) rfl)
    refine ocg 91 ?_ (fun A W hx hf => ?_) ?_
    rfl
    exact gd_f (q1 ?b25_38 A W 91 hf) (fun hc => ok_loadS Try.underlying3 rfl (G.get (q0 ?b25_42 A W 94 hf) hc) rfl)
    refine ocg 91 ?_ (fun A W hx hf => ?_) ?_
    rfl
    exact gd_f (q2 ?b25_38 A W 91 hf) (fun hc => ok_gtr (G.get (q0 ?b25_41 A W 93 hf) hc) (G.get (q1 ?b25_43 A W 95 hf) hc))
    refine oc0 (fun A W hx hf => ?_) ?_
    exact ok_or (q0 ?b25_38 A W 91 hf) (q1 ?b25_44 A W 96 hf)
    exact OpsOk.nil
   case t25 => repeat (first | exact stb_nil | refine stb_cons ?_)
   clear hr; intro a26 w26 x hr hd hs
   revert s13; revert s11; revert s6; revert s3; refine kp4 hs rfl ?_; intro s3 s6 s11 s13
   clear s2 s5
   have s97 := fa ?b25_45 a26 w26 97 (hd 45 97 rfl)
   replace e_w := e_w.trans x
   have e_w24 := x
   clear hd hs x
   refine exit_then ?_
   refine wp_cond_split (show _ = _ from s97) (fun hd9 => ?_) (fun hd9 => ?_)
   ·
    exfalso; exact absurd (hd9.symm.trans (back_dead hend)) (by decide)
   ·
    try simp only [decide_eq_true_eq, decide_eq_false_iff_not, Bool.not_eq_true', Bool.not_eq_false', Bool.not_true, Bool.not_false, Bool.and_eq_true, Bool.and_eq_false_iff, Bool.or_eq_true, Bool.or_eq_false_iff, bne_iff_ne, beq_iff_eq, ne_eq, beq_eq_false_iff_ne, bne_eq_false_iff_eq] at hd9
    refine wp_skip ?_
    refine exit_then ?_
    refine wp_seq ?_
    refine wp_reg 122 [[(6, none)], [(98, some 0)], [(6, none)], [(100, some 2)], [(6, none)], [(102, some 4)], [(11, none)], [(13, none)], [(105, some 7)], [(13, none)], [(107, some 9)], [(104, some 6), (106, some 8), (108, some 10)], [(99, some 1), (101, some 3), (103, some 5), (109, some 11)], [(110, some 12)], [(11, none), (111, some 13)], [(11, none), (111, some 13)], [(113, some 15), (111, some 13)], [(3, none), (111, some 13)], [(115, some 17), (111, some 13)], [(114, some 16), (116, some 18), (111, some 13)], [(112, some 14), (117, some 19), (111, some 13)], [(3, none), (111, some 13)], [(118, some 20), (119, some 21), (111, some 13)], [(111, some 13), (120, some 22)], [(121, some 23)]] [?b28_0, ?b28_1, ?b28_2, ?b28_3, ?b28_4, ?b28_5, ?b28_6, ?b28_7, ?b28_8, ?b28_9, ?b28_10, ?b28_11, ?b28_12, ?b28_12, ?b28_14, ?b28_15, ?b28_16, ?b28_17, ?b28_18, ?b28_19, ?b28_20, ?b28_21, ?b28_22, ?b28_23, ?b28_23] mixed hr ?t28 ?o28 ?_
    case o28 =>
     refine oc0 (fun A W hx hf => ?_) ?_
     exact ok_fieldS 0 Try.underlying28 (k := 0) rfl size26 rfl (o2 s6 e_w24 hx (r0 hf)) rfl
     refine oc0 (fun A W hx hf => ?_) ?_
     exact ok_loadAggS 2 Try.underlying26 rfl size26 (q0 ?b28_0 A W 98 hf) rfl
     refine oc0 (fun A W hx hf => ?_) ?_
     exact ok_fieldS 2 Try.underlying28 (k := 1) rfl size26 rfl (o2 s6 e_w24 hx (r0 hf)) rfl
     refine oc0 (fun A W hx hf => ?_) ?_
     exact ok_loadAggS 4 Try.underlying26 rfl size26 (q0 ?b28_2 A W 100 hf) rfl
     refine oc0 (fun A W hx hf => ?_) ?_
     exact ok_fieldS 4 Try.underlying28 (k := 2) rfl size3 rfl (o2 s6 e_w24 hx (r0 hf)) rfl
     refine oc0 (fun A W hx hf => ?_) ?_
     exact ok_loadS Try.underlying3 rfl (q0 ?b28_4 A W 102 hf) rfl
     refine oc0 (fun A W hx hf => ?_) ?_
     exact ok_movE (a0 := a26) (r0 hf)
     refine oc0 (fun A W hx hf => ?_) ?_
     exact ok_fieldS 4 Try.underlying30 (k := 4) rfl size3 rfl (o2 s13 e_w24 hx (r0 hf)) rfl
     refine oc0 (fun A W hx hf => ?_) ?_
     exact ok_loadS Try.underlying3 rfl (q0 ?b28_7 A W 105 hf) rfl
     refine oc0 (fun A W hx hf => ?_) ?_
     exact ok_fieldS 5 Try.underlying30 (k := 5) rfl size3 rfl (o2 s13 e_w24 hx (r0 hf)) rfl
     refine oc0 (fun A W hx hf => ?_) ?_
     exact ok_loadS Try.underlying3 rfl (q0 ?b28_9 A W 107 hf) rfl
     refine oc0 (fun A W hx hf => ?_) ?_
     exact ok_slice_lh (14 + 4 * L.tags.length + headI T) ((makeL L T f load).length) Try.underlying22 size5 (OwnBA.bs (p2 s11 e_w24 hx (q0 ?b28_6 A W 104 hf))) (Is.int (q1 ?b28_8 A W 106 hf) (by show 14 + 4 * (L.tags.length : Int) + (headI T : Int) = _; omega)) (Is.int (q2 ?b28_10 A W 108 hf) (by exact hend)) (by omega) (by omega)
     refine oc0 (fun A W hx hf => ?_) ?_
     exact ok_call4 body16 (c_r10Right (Is.conv (q0 ?b28_1 A W 99 hf) (show _ = AdrV T.src from (adr_seg T.src))) (Is.conv (q1 ?b28_3 A W 101 hf) (show _ = AdrV T.dst from (adr_seg T.dst))) (q2 ?b28_5 A W 103 hf) (Bs.cast (q3 ?b28_11 A W 109 hf) hsub) (by exact hT9.1) (by exact hT9.2) (by exact make_fok hw) (by rw [make_flen hw]; omega))
     refine oc0 (fun A W hx hf => ?_) ?_
     exact ok_move (q0 ?b28_12 A W 110 hf)
     refine ocg 111 ?_ (fun A W hx hf => ?_) ?_
     rfl
     exact gd_t (q1 ?b28_12 A W 111 hf) (fun hc => ok_movE (a0 := a26) (r0 hf))
     refine ocg 111 ?_ (fun A W hx hf => ?_) ?_
     rfl
     exact gd_t (q1 ?b28_12 A W 111 hf) (fun hc => ok_movE (a0 := a26) (r0 hf))
     refine ocg 111 ?_ (fun A W hx hf => ?_) ?_
     rfl
     exact gd_t (q1 ?b28_12 A W 111 hf) (fun hc => ok_len_bs Try.underlying22 (OwnBA.bs (p2 s11 e_w24 hx (G.get (q0 ?b28_15 A W 113 hf) hc))))
     refine ocg 111 ?_ (fun A W hx hf => ?_) ?_
     rfl
     exact gd_t (q1 ?b28_12 A W 111 hf) (fun hc => ok_movE (a0 := a26) (r0 hf))
     refine ocg 111 ?_ (fun A W hx hf => ?_) ?_
     rfl
     exact gd_t (q1 ?b28_12 A W 111 hf) (fun hc => ok_len_bs Try.underlying22 (p2 s3 e_w hx (G.get (q0 ?b28_17 A W 115 hf) hc)))
     refine ocg 111 ?_ (fun A W hx hf => ?_) ?_
     rfl
     exact gd_t (q2 ?b28_12 A W 111 hf) (fun hc => ok_subI (G.get (q0 ?b28_16 A W 114 hf) hc) (G.get (q1 ?b28_18 A W 116 hf) hc) (by omega))
     refine ocg 111 ?_ (fun A W hx hf => ?_) ?_
     rfl
     exact gd_t (q2 ?b28_12 A W 111 hf) (fun hc => ok_slice_lo ((makeL L T f load).length - load.length) Try.underlying22 size5 (OwnBA.bs (p2 s11 e_w24 hx (G.get (q0 ?b28_14 A W 112 hf) hc))) (Is.int (G.get (q1 ?b28_19 A W 117 hf) hc) (by omega)) (by omega))
     refine ocg 111 ?_ (fun A W hx hf => ?_) ?_
     rfl
     exact gd_t (q1 ?b28_12 A W 111 hf) (fun hc => ok_movE (a0 := a26) (r0 hf))
     refine ocg 111 ?_ (fun A W hx hf => ?_) ?_
     rfl
     exact gd_t (q2 ?b28_12 A W 111 hf) (fun hc => ok_call2 body14 (c_Same (G.get (q0 ?b28_20 A W 118 hf) hc) (p2 s3 e_w hx (G.get (q1 ?b28_21 A W 119 hf) hc))))
     refine oc0 (fun A W hx hf => ?_) ?_
     exact ok_and (q0 ?b28_12 A W 111 hf) (q1 ?b28_22 A W 120 hf)
     refine oc0 (fun A W hx hf => ?_) ?_
     exact ok_assign (q0 ?b28_23 A W 121 hf)
     exact OpsOk.nil
    case t28 => repeat (first | exact stb_nil | refine stb_cons ?_)
    clear hr; intro a29 w29 x hr hd hs
    clear s3 s6 s11 s13 s97
    have s10 := fa ?b28_23 a29 w29 10 (hd 24 10 rfl)
    replace e_w := e_w.trans x
    clear e_w24
    clear hd hs x
    refine exit_then ?_
    refine wp_ret ?_
    refine ret_tmp Try.results5 hr e_w ?_
    first | with_reducible exact s10 | exact Is.bool s10 (by rw [hmk]; rfl) | exact Is.bool s10 (by rw [hpr, htl]; simp)

end Go.Proofs.Ytpjpfmnnefgnbaa
