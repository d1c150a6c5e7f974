import Derived.Test.YtpjpfmnnefgnbabA11
import Derived.Test.YtpjpfmnnefgnbabC11
import Derived.Test.YtpjpfmnnefgnbabE11M
namespace Go.Proofs.Ytpjpfmnnefgnbab
open Go.RowKit
set_option linter.unusedVariables false
set_option linter.unusedSimpArgs false
set_option maxRecDepth 4000
def D_law_PacketKeeps_0 : List Tmp := [11, 50, 51, 52, 53, 54, 55, 56, 57, 58, 59, 60, 61, 62, 63]
set_option maxHeartbeats 1000000 in
theorem law_PacketKeeps {x0 x1 x2 : Value} {w : World} {l load : List UInt8} {T : TupL} (h0 : (Bs l) x0 w) (h1 : (Is (TupV T)) x1 w) (h2 : (Bs load) x2 w) (hT9 : TupOk T) :
    Calls Try.prog 3 #[x0, x1, x2] w (Ret (Is (.bool true)) w) := by
 have hlen := Bs.len_le h0
 have hll := Bs.len_le h2
 refine enter Try.func3 rfl Try.ntmps3 (k := 3) rfl (by decide) (fun a0 hr hargs => ?_)
 have s0 := sarg h0 (hargs 0 (by decide))
 have s1 := sarg h1 (hargs 1 (by decide))
 have s2 := sarg h2 (hargs 2 (by decide))
 clear hargs
 refine sq ?_
 refine wp_reg 74 [[(1, none)], []] [?b1_0, ?b1_1] mixed hr ?t1 ?o1 ?_
 case o1 =>
  apply oc0; intro A W hx hf
  exact ok_boxS (tupS T) [1, 16, 1, 16, 1, 1, 1] (o1 s1 hx (r0 hf)) (by exact tupS_lens hT9) hx.size
  apply oc0; intro A W hx hf
  exact ok_assignc
  exact onn
 case t1 => exact inferInstance
 clear hr; intro a2 w2 x hr hd hs
 revert s2; revert s0; refine kp2 hs rfl ?_; intro s0 s2
 clear s1
 have s4 := fa ?b1_0 a2 w2 4 (hd 0 4 rfl)
 obtain ⟨g2_4, q2_4⟩ := PxN.at s4; clear s4; have n2_4 := PxS.lt q2_4
 have s4 := q2_4; clear q2_4
 have e_w := x; clear hd hs x
 refine es ?_
 refine sq ?_
 refine wp_reg 74 [[], [(12, some 0)], [(13, some 1)], [(0, none), (14, some 2)], [(15, some 3), (14, some 2)], [(16, some 4), (14, some 2)], [(14, some 2), (17, some 5)], [(18, some 6)], [(2, none), (19, some 7)], [(20, some 8), (19, some 7)], [(21, some 9), (19, some 7)], [(19, some 7), (22, some 10)]] [?b3_0, ?b3_1, ?b3_1, ?b3_3, ?b3_4, ?b3_5, ?b3_6, ?b3_6, ?b3_8, ?b3_9, ?b3_10, ?b3_11] mixed hr ?t3 ?o3 ?_
 case o3 =>
  apply oc0; intro A W hx hf
  exact ok_call0 body4 (c_awake11 )
  apply oc0; intro A W hx hf
  exact ok_not (q0 ?b3_0 A W 12 hf)
  apply oc0; intro A W hx hf
  exact ok_move (q0 ?b3_1 A W 13 hf)
  refine ocg 14 ?_ (fun A W hx hf => ?_) ?_
  rfl
  exact gd_f (q1 ?b3_1 A W 14 hf) (fun hc => ok_movE (a0 := a2) (r0 hf))
  refine ocg 14 ?_ (fun A W hx hf => ?_) ?_
  rfl
  exact gd_f (q1 ?b3_1 A W 14 hf) (fun hc => ok_len_bs tu22 (p2 s0 e_w hx (G.get (q0 ?b3_3 A W 15 hf) hc)))
  refine ocg 14 ?_ (fun A W hx hf => ?_) ?_
  rfl
  exact gd_f (q1 ?b3_1 A W 14 hf) (fun hc => ok_gtr (G.get (q0 ?b3_4 A W 16 hf) hc) (ec A (.int .i64 3000)))
  apply oc0; intro A W hx hf
  exact ok_or (q0 ?b3_1 A W 14 hf) (q1 ?b3_5 A W 17 hf)
  apply oc0; intro A W hx hf
  exact ok_move (q0 ?b3_6 A W 18 hf)
  refine ocg 19 ?_ (fun A W hx hf => ?_) ?_
  rfl
  exact gd_f (q1 ?b3_6 A W 19 hf) (fun hc => ok_movE (a0 := a2) (r0 hf))
  refine ocg 19 ?_ (fun A W hx hf => ?_) ?_
  rfl
  exact gd_f (q1 ?b3_6 A W 19 hf) (fun hc => ok_len_bs tu22 (p2 s2 e_w hx (G.get (q0 ?b3_8 A W 20 hf) hc)))
  refine ocg 19 ?_ (fun A W hx hf => ?_) ?_
  rfl
  exact gd_f (q1 ?b3_6 A W 19 hf) (fun hc => ok_gtr (G.get (q0 ?b3_9 A W 21 hf) hc) (ec A (.int .i64 300)))
  apply oc0; intro A W hx hf
  exact ok_or (q0 ?b3_6 A W 19 hf) (q1 ?b3_10 A W 22 hf)
  exact onn
 case t3 => exact inferInstance
 clear hr; intro a4 w4 x hr hd hs
 revert s4; revert s2; revert s0; refine kp3 hs rfl ?_; intro s0 s2 s4
 have s23 := fa ?b3_11 a4 w4 23 (hd 11 23 rfl)
 replace e_w := e_w.trans x
 have e_w2 := x; clear hd hs x
 refine et ?_
 refine wp_cond_split (show _ = _ from s23) (fun hg => ?_) (fun hg => ?_)
 ·
  skip
  refine sq ?_
  refine wp_reg 74 [[], [(24, some 0)]] [?b6_0, ?b6_0] mixed hr ?t6 ?o6 ?_
  case o6 =>
   apply oc0; intro A W hx hf
   exact ok_call0 body4 (c_awake11 )
   apply oc0; intro A W hx hf
   exact ok_assign (q0 ?b6_0 A W 24 hf)
   exact onn
  case t6 => exact inferInstance
  clear hr; intro a7 w7 x hr hd hs
  clear s0 s2 s4 s23
  have s6 := fa ?b6_0 a7 w7 6 (hd 1 6 rfl)
  replace e_w := e_w.trans x
  clear e_w2; clear hd hs x
  refine et ?_
  refine wp_ret ?_
  refine then_ret ?_
  refine ret_tmp Try.results3 hr e_w ?_
  first | with_reducible exact s6 | exact Is.bool s6 keeps_end
 have hg9 : l.length ≤ 3000 ∧ load.length ≤ 300 := by simp at hg; omega
 refine wp_skip ?_
 refine es ?_
 refine wp_reg_pre (l := [_, _]) (rest := [_, _]) 74 [[], [(0, none)]] [?b8_0, ?b8_1] hr ?t8 ?o8 ?_
 case o8 =>
  apply oc0; intro A W hx hf
  exact ok_ownBs [] [] tu22 size5 zero5 rfl rfl (by decide) hx.size (PartsOk.nil)
  apply oc0; intro A W hx hf
  exact ok_movE (a0 := a4) (r0 hf)
  exact onn
 case t8 => exact inferInstance
 clear hr; intro a9 w9 x hr hd hs
 have z_w_w4 := e_w.size
 have z_w2_w4 := e_w2.size
 have l9_4 := PxS.lt (later e_w2 s4)
 have u26 := mv s0 (fa ?b8_1 a9 w9 26 (hd 1 26 rfl))
 revert s4; revert s2; revert s0; refine kp3 hs rfl ?_; intro s0 s2 s4
 clear s23
 have s26 := u26; clear u26
 have s25 := fa ?b8_0 a9 w9 25 (hd 0 25 rfl)
 obtain ⟨g9_25, q9_25⟩ := OwnB.at s25; clear s25; have n9_25 := OwnBA.lt q9_25
 replace q9_25 := OwnBA.mono q9_25 e_w.size
 have s25 := q9_25; clear q9_25
 replace e_w := e_w.trans x
 replace e_w2 := e_w2.trans x; clear hd hs x
 have l10 := OwnBA.lt s25
 have l10_4 := PxS.lt (later e_w2 s4)
 refine wl_append_bsA hr (by decide) tu22 info5 rfl s25 (later e_w s26) e_w.size (by simp; omega) ?_; clear hr; intro g10 a10 w10 hg10 hc hr hd hs
 have hb := hc.below e_w.size l10.1
 revert s4; revert s2; revert s0; refine kp3 hs rfl ?_; intro s0 s2 s4
 clear s26 s25
 replace s4 := PxS.other (later e_w2 s4) hc (by omega)
 have s27 := hd
 replace e_w := e_w.below (Nat.le_refl _) hb
 clear e_w2
 clear hd hs hb hc
 refine wl_op hr (ok_assign s27) inferInstance ?_; clear hr; intro a11 w11 x hr hd hs
 revert s4; revert s2; revert s0; refine kp3 hs rfl ?_; intro s0 s2 s4
 clear s27
 have s7 := hd 7 rfl (by decide)
 replace e_w := e_w.trans x
 have e_w10 := x; clear hd hs x
 refine wpList_nil ?_
 replace s7 := OwnBA.cast s7 (show _ = l from List.nil_append _)
 refine es ?_
 refine wp_reg_pre (l := [_, _]) (rest := [_, _]) 74 [[], [(2, none)]] [?b12_0, ?b12_1] hr ?t12 ?o12 ?_
 case o12 =>
  apply oc0; intro A W hx hf
  exact ok_ownBs [] [] tu22 size5 zero5 rfl rfl (by decide) hx.size (PartsOk.nil)
  apply oc0; intro A W hx hf
  exact ok_movE (a0 := a11) (r0 hf)
  exact onn
 case t12 => exact inferInstance
 clear hr; intro a13 w13 x hr hd hs
 have z_w_w11 := e_w.size
 have z_w10_w11 := e_w10.size
 have l13_4 := PxS.lt (later e_w10 s4)
 have l13_7 := OwnBA.lt s7
 have u29 := mv s2 (fa ?b12_1 a13 w13 29 (hd 1 29 rfl))
 revert s7; revert s4; revert s2; revert s0; refine kp4 hs rfl ?_; intro s0 s2 s4 s7
 have s29 := u29; clear u29
 have s28 := fa ?b12_0 a13 w13 28 (hd 0 28 rfl)
 obtain ⟨g13_28, q13_28⟩ := OwnB.at s28; clear s28; have n13_28 := OwnBA.lt q13_28
 replace q13_28 := OwnBA.mono q13_28 e_w.size
 have s28 := q13_28; clear q13_28
 replace e_w := e_w.trans x
 replace e_w10 := e_w10.trans x
 have e_w11 := x; clear hd hs x
 have l14 := OwnBA.lt s28
 have l14_4 := PxS.lt (later e_w10 s4)
 have l14_7 := OwnBA.lt (later e_w11 s7)
 refine wl_append_bsA hr (by decide) tu22 info5 rfl s28 (later e_w s29) e_w.size (by simp; omega) ?_; clear hr; intro g14 a14 w14 hg14 hc hr hd hs
 have hb := hc.below e_w.size l14.1
 revert s7; revert s4; revert s2; revert s0; refine kp4 hs rfl ?_; intro s0 s2 s4 s7
 clear s29 s28
 replace s4 := PxS.other (later e_w10 s4) hc (by omega)
 replace s7 := OwnBA.other (later e_w11 s7) hc (by omega)
 have s30 := hd
 replace e_w := e_w.below (Nat.le_refl _) hb
 clear e_w10
 clear e_w11
 clear hd hs hb hc
 refine wl_op hr (ok_assign s30) inferInstance ?_; clear hr; intro a15 w15 x hr hd hs
 revert s7; revert s4; revert s2; revert s0; refine kp4 hs rfl ?_; intro s0 s2 s4 s7
 clear s30
 have s8 := hd 8 rfl (by decide)
 replace e_w := e_w.trans x
 have e_w14 := x; clear hd hs x
 refine wpList_nil ?_
 replace s8 := OwnBA.cast s8 (show _ = load from List.nil_append _)
 refine es ?_
 refine wp_reg 74 [[(7, none)], [(31, some 0)]] [?b16_0, ?b16_1] mixed hr ?t16 ?o16 ?_
 case o16 =>
  apply oc0; intro A W hx hf
  exact ok_movE (a0 := a15) (r0 hf)
  apply oc0; intro A W hx hf
  exact ok_call1 body5 (c_pkRead (OwnBA.bs (p2 s7 e_w14 hx (q0 ?b16_0 A W 31 hf))))
  exact onn
 case t16 => exact inferInstance
 clear hr; intro a17 w17 x hr hd hs
 revert s8; revert s7; revert s4; revert s2; revert s0; refine kp5 hs rfl ?_; intro s0 s2 s4 s7 s8
 replace e_w := e_w.trans x
 replace e_w14 := e_w14.trans x
 have e_w15 := x; clear hd hs x
 refine es ?_
 refine wp_reg 74 [[], [(4, none)], [(8, none)], [(34, some 0), (35, some 1), (36, some 2)], [(37, some 3)], [(33, some 4)], [(33, some 4)], [(38, some 5)], [(39, some 6)]] [?b18_0, ?b18_1, ?b18_2, ?b18_3, ?b18_3, ?b18_5, ?b18_6, ?b18_5, ?b18_6] mixed hr ?t18 ?o18 ?_
 case o18 =>
  apply oc0; intro A W hx hf
  exact ok_build0 built38
  apply oc0; intro A W hx hf
  exact ok_loadAggS 7 tu27 rfl size27 (o2 s4 e_w14 hx (r0 hf)) rfl
  apply oc0; intro A W hx hf
  exact ok_movE (a0 := a17) (r0 hf)
  apply oc0; intro A W hx hf
  exact ok_call4 body6 (c_pkMake (LinkV.of (show Is (LnkA link0 (.slice none 0 0)) _ _ from Is.conv (q0 ?b18_0 A W 34 hf) rfl) rw_nil) (show Is (TupV T) _ _ from (q1 ?b18_1 A W 35 hf)) (show Is (.int .i64 0) (A.eval (.const (.int .i64 0))) _ from rfl) (OwnBA.bs (p2 s8 e_w15 hx (q2 ?b18_2 A W 36 hf))) (by exact ⟨rfl, rfl⟩) (by exact hT9) (by omega) hx.size)
  apply oc0; intro A W hx hf
  exact ok_move (q0 ?b18_3 A W 37 hf)
  apply oc0; intro A W hx hf
  exact ok_ext0 (q0 ?b18_3 A W 33 hf)
  apply oc0; intro A W hx hf
  exact ok_ext1 (q0 ?b18_3 A W 33 hf)
  apply oc0; intro A W hx hf
  exact ok_assign (q0 ?b18_5 A W 38 hf)
  apply oc0; intro A W hx hf
  exact ok_assign (q0 ?b18_6 A W 39 hf)
  exact onn
 case t18 => exact inferInstance
 clear hr; intro a19 w19 x hr hd hs
 have z_w_w17 := e_w.size
 have z_w14_w17 := e_w14.size
 have z_w15_w17 := e_w15.size
 have l19_4 := PxS.lt (later e_w14 s4)
 have l19_7 := OwnBA.lt (later e_w14 s7)
 have l19_8 := OwnBA.lt (later e_w15 s8)
 revert s8; revert s7; revert s4; revert s2; revert s0; refine kp5 hs rfl ?_; intro s0 s2 s4 s7 s8
 have s9 := fa ?b18_5 a19 w19 9 (hd 7 9 rfl)
 have s10 := fa ?b18_6 a19 w19 10 (hd 8 10 rfl)
 obtain ⟨g19_9, q19_9⟩ := OwnB.at s9; clear s9; have n19_9 := OwnBA.lt q19_9
 replace q19_9 := OwnBA.mono q19_9 e_w.size
 have s9 := q19_9; clear q19_9
 replace e_w := e_w.trans x
 replace e_w14 := e_w14.trans x
 replace e_w15 := e_w15.trans x; clear hd hs x
 refine es ?_
 refine sq ?_
 refine wp_reg 74 [[(7, none)], [(0, none)], [(40, some 0), (41, some 1)], [(42, some 2)], [(43, some 3)], [(8, none), (44, some 4)], [(2, none), (44, some 4)], [(45, some 5), (46, some 6), (44, some 4)], [(47, some 7), (44, some 4)], [(44, some 4), (48, some 8)]] [?b20_0, ?b20_1, ?b20_2, ?b20_3, ?b20_3, ?b20_5, ?b20_6, ?b20_7, ?b20_8, ?b20_9] mixed hr ?t20 ?o20 ?_
 case o20 =>
  apply oc0; intro A W hx hf
  exact ok_movE (a0 := a19) (r0 hf)
  apply oc0; intro A W hx hf
  exact ok_movE (a0 := a19) (r0 hf)
  apply oc0; intro A W hx hf
  exact ok_call2 body7 (c_Same (OwnBA.bs (p2 s7 e_w14 hx (q0 ?b20_0 A W 40 hf))) (p2 s0 e_w hx (q1 ?b20_1 A W 41 hf)))
  apply oc0; intro A W hx hf
  exact ok_not (q0 ?b20_2 A W 42 hf)
  apply oc0; intro A W hx hf
  exact ok_move (q0 ?b20_3 A W 43 hf)
  refine ocg 44 ?_ (fun A W hx hf => ?_) ?_
  rfl
  exact gd_f (q1 ?b20_3 A W 44 hf) (fun hc => ok_movE (a0 := a19) (r0 hf))
  refine ocg 44 ?_ (fun A W hx hf => ?_) ?_
  rfl
  exact gd_f (q1 ?b20_3 A W 44 hf) (fun hc => ok_movE (a0 := a19) (r0 hf))
  refine ocg 44 ?_ (fun A W hx hf => ?_) ?_
  rfl
  exact gd_f (q2 ?b20_3 A W 44 hf) (fun hc => ok_call2 body7 (c_Same (OwnBA.bs (p2 s8 e_w15 hx (G.get (q0 ?b20_5 A W 45 hf) hc))) (p2 s2 e_w hx (G.get (q1 ?b20_6 A W 46 hf) hc))))
  refine ocg 44 ?_ (fun A W hx hf => ?_) ?_
  rfl
  exact gd_f (q1 ?b20_3 A W 44 hf) (fun hc => ok_not (G.get (q0 ?b20_7 A W 47 hf) hc))
  apply oc0; intro A W hx hf
  exact ok_or (q0 ?b20_3 A W 44 hf) (q1 ?b20_8 A W 48 hf)
  exact onn
 case t20 => exact inferInstance
 clear hr; intro a21 w21 x hr hd hs
 revert s9; revert s10; revert s8; revert s4; revert s2; refine kp5 hs rfl ?_; intro s2 s4 s8 s10 s9
 clear s0 s7
 have s49 := fa ?b20_9 a21 w21 49 (hd 9 49 rfl)
 replace e_w := e_w.trans x
 replace e_w14 := e_w14.trans x
 replace e_w15 := e_w15.trans x
 have e_w19 := x; clear hd hs x
 refine et ?_
 refine wp_cond_split (show _ = _ from s49) (fun hd9 => ?_) (fun hd9 => ?_)
 ·
  exfalso; simp at hd9
 try simp only [decide_eq_true_eq, decide_eq_false_iff_not, Bool.not_eq_true', Bool.not_eq_false', Bool.not_true, Bool.not_false, Bool.and_eq_true, Bool.and_eq_false_iff, Bool.or_eq_true, Bool.or_eq_false_iff, bne_iff_ne, beq_iff_eq, ne_eq, beq_eq_false_iff_ne, bne_eq_false_iff_eq] at hd9
 refine wp_skip ?_
 refine es ?_
 refine sq ?_
 refine wp_reg 74 [[]] [?b23_0] mixed hr ?t23 ?o23 ?_
 case o23 =>
  apply oc0; intro A W hx hf
  exact ok_assignc
  exact onn
 case t23 => exact inferInstance
 clear hr; intro a24 w24 x hr hd hs
 revert s9; revert s10; revert s8; revert s4; revert s2; refine kp5 hs rfl ?_; intro s2 s4 s8 s10 s9
 clear s49
 have s11 := fa ?b23_0 a24 w24 11 (hd 0 11 rfl)
 replace e_w := e_w.trans x
 replace e_w14 := e_w14.trans x
 replace e_w15 := e_w15.trans x
 replace e_w19 := e_w19.trans x; clear hd hs x
 refine et ?_
 refine wp_block ?_
 refine wp_loop_inv (fun n A W => ∃ (i : Nat) (m : List UInt8), n = m.length - i ∧ Fr 74 A ∧ Same D_law_PacketKeeps_0 a24 A ∧ Ext w W ∧ (m.length = load.length) ∧ (PxS g2_4 w.heap.size [1, 16, 1, 16, 1, 1, 1] (tupS T) 0) (A.eval (.tmp 4)) W ∧ (OwnBA g14 w.heap.size 5 m) (A.eval (.tmp 8)) W ∧ (OwnBA g19_9 w.heap.size 5 (makeR link0 T 0 load).1) (A.eval (.tmp 9)) W ∧ (Is (.int .i64 (i : Int))) (A.eval (.tmp 11)) W) ?start25 ?_
 case start25 =>
  refine ⟨_, 0, load, rfl, hr, Same.rfl, e_w, (by rfl), ?_, ?_, ?_, ?_⟩
  · first | exact (later e_w14 s4) | exact Is.int (later e_w14 s4) (by first | omega | simp) | exact Is.bool (later e_w14 s4) (by first | omega | simp)
  · first | exact (later e_w15 s8) | exact Is.int (later e_w15 s8) (by first | omega | simp) | exact Is.bool (later e_w15 s8) (by first | omega | simp)
  · first | exact (later e_w19 s9) | exact Is.int (later e_w19 s9) (by first | omega | simp) | exact Is.bool (later e_w19 s9) (by first | omega | simp)
  · first | exact s11 | exact Is.int s11 (by first | omega | simp) | exact Is.bool s11 (by first | omega | simp)
 intro n25 a25 w25 hI
 clear e_w
 clear e_w14
 clear e_w15
 clear e_w19
 clear hr; obtain ⟨i, m, hn25, hr, hs, e_w, hm, u4, u8, u9, u11⟩ := hI
 revert s10; revert s2; refine kp2 hs rfl ?_; intro s2 s10
 clear s4 s8 s9 s11
 have s4 := u4; clear u4
 have s8 := u8; clear u8
 have s9 := u9; clear u9
 have s11 := u11; clear u11
 replace s10 := anyw (w2 := w25) s10
 have m25 := hs; clear hs
 refine sq ?_
 refine sq ?_
 refine wp_reg 74 [[(11, none)], [(8, none)], [(51, some 1)], [(50, some 0), (52, some 2)]] [?b26_0, ?b26_1, ?b26_2, ?b26_3] mixed hr ?t26 ?o26 ?_
 case o26 =>
  apply oc0; intro A W hx hf
  exact ok_movE (a0 := a25) (r0 hf)
  apply oc0; intro A W hx hf
  exact ok_movE (a0 := a25) (r0 hf)
  apply oc0; intro A W hx hf
  exact ok_len_bs tu22 (OwnBA.bs (p1 s8 hx (q0 ?b26_1 A W 51 hf)))
  apply oc0; intro A W hx hf
  exact ok_lss (p1 s11 hx (q0 ?b26_0 A W 50 hf)) (q1 ?b26_2 A W 52 hf)
  exact onn
 case t26 => exact inferInstance
 clear hr; intro a27 w27 x hr hd hs
 revert s10; revert s11; revert s9; revert s8; revert s4; revert s2; refine kp6 hs rfl ?_; intro s2 s4 s8 s9 s11 s10
 have s53 := fa ?b26_3 a27 w27 53 (hd 3 53 rfl)
 replace e_w := e_w.trans x
 have e_w25 := x
 replace m25 := m25.tr hs rfl; clear hd hs x
 refine et ?_
 refine wp_cond_split (show _ = _ from s53) (fun hlt => ?_) (fun hlt => ?_)
 ·
  have hlt : i < m.length := by simp at hlt; omega
  refine wp_skip ?_
  refine es ?_
  refine wp_block ?_
  refine wp_reg_pre (l := [_, _, _, _, _, _, _, _]) (rest := [_]) 74 [[(8, none)], [(11, none)], [(8, none)], [(11, none)], [(58, some 2), (59, some 3)], [(60, some 4)], [(61, some 5)], [(56, some 0), (57, some 1)]] [?b29_0, ?b29_1, ?b29_2, ?b29_3, ?b29_4, ?b29_5, ?b29_6, ?b29_7] hr ?t29 ?o29 ?_
  case o29 =>
   apply oc0; intro A W hx hf
   exact ok_movE (a0 := a27) (r0 hf)
   apply oc0; intro A W hx hf
   exact ok_movE (a0 := a27) (r0 hf)
   apply oc0; intro A W hx hf
   exact ok_movE (a0 := a27) (r0 hf)
   apply oc0; intro A W hx hf
   exact ok_movE (a0 := a27) (r0 hf)
   apply oc0; intro A W hx hf
   exact ok_index_bs (_) tu22 size5 (OwnBA.bs (p2 s8 e_w25 hx (q0 ?b29_2 A W 58 hf))) (p2 s11 e_w25 hx (q1 ?b29_3 A W 59 hf)) (by exact hlt)
   apply oc0; intro A W hx hf
   exact ok_loadp tu5 rfl (q0 ?b29_4 A W 60 hf)
   apply oc0; intro A W hx hf
   exact ok_xorb (q0 ?b29_5 A W 61 hf) (ec A (.int .u8 255))
   apply oc0; intro A W hx hf
   exact ok_indexA (_) tu22 size5 (p2 s8 e_w25 hx (q0 ?b29_0 A W 56 hf)) (p2 s11 e_w25 hx (q1 ?b29_1 A W 57 hf)) (by exact hlt)
   exact onn
  case t29 => exact inferInstance
  clear hr; intro a30 w30 x hr hd hs
  revert s10; revert s11; revert s9; revert s8; revert s4; revert s2; refine kp6 hs rfl ?_; intro s2 s4 s8 s9 s11 s10
  clear s53
  have s62 := fa ?b29_6 a30 w30 62 (hd 6 62 rfl)
  have s63 := fa ?b29_7 a30 w30 63 (hd 7 63 rfl)
  replace e_w := e_w.trans x
  replace e_w25 := e_w25.trans x
  replace m25 := m25.tr hs rfl; clear hd hs x
  have z31 := EpA.lt s63
  have l31 := (show (g14 = 0 ∨ w.heap.size < g14) ∧ True from ⟨by omega, trivial⟩)
  have l31_4 := PxS.lt (later e_w25 s4)
  have l31_9 := OwnBA.lt (later e_w25 s9)
  refine wl_storeA hr size5 s63 (ByteIs.of s62 (by exact xor_bd _ 255)) ?_; clear hr; intro a31 w31 hc hu hr hs
  have hb : Below w.heap.size w30 w31 := hc.below e_w.size l31.1
  revert s10; revert s11; revert s9; revert s8; revert s4; revert s2; refine kp6 hs rfl ?_; intro s2 s4 s8 s9 s11 s10
  clear s62 s63
  replace s4 := PxS.other (later e_w25 s4) hc (by omega)
  replace s8 := hu _ _ _ (later e_w25 s8)
  replace s9 := OwnBA.other (later e_w25 s9) hc (by omega)
  replace e_w := e_w.below (Nat.le_refl _) hb
  clear e_w25
  replace s11 := anyw (w2 := w31) s11
  replace s10 := anyw (w2 := w31) s10
  replace m25 := m25.tr hs rfl
  clear hu hs hc hb
  refine wpList_nil ?_
  replace s8 := OwnBA.cast s8 (show _ = m.set i (m[i]'hlt ^^^ 255) from by rw [show (255 : Int) = (((255 : UInt8).toNat : Nat) : Int) from rfl, b8_xor])
  refine blk_normal ?_
  refine et ?_
  refine wp_reg 74 [[(11, none)], [(54, some 0)], [(55, some 1)]] [?b32_0, ?b32_1, ?b32_1] mixed hr ?t32 ?o32 ?_
  case o32 =>
   apply oc0; intro A W hx hf
   exact ok_movE (a0 := a31) (r0 hf)
   apply oc0; intro A W hx hf
   exact ok_addI (p1 s11 hx (q0 ?b32_0 A W 54 hf)) (ec A (.int .i64 1)) (by omega)
   apply oc0; intro A W hx hf
   exact ok_assign (q0 ?b32_1 A W 55 hf)
   exact onn
  case t32 => exact inferInstance
  clear hr; intro a33 w33 x hr hd hs
  revert s8; revert s10; revert s9; revert s4; revert s2; refine kp5 hs rfl ?_; intro s2 s4 s9 s10 s8
  clear s11
  have s11 := fa ?b32_1 a33 w33 11 (hd 2 11 rfl)
  replace e_w := e_w.trans x
  have e_w31 := x
  replace m25 := m25.tr hs rfl; clear hd hs x
  refine et ?_
  refine ⟨(fun (i : Nat) (m : List UInt8) => m.length - i) (i + 1) (m.set i (m[i]'hlt ^^^ 255)), ?_, ?_⟩
  · (try dsimp only); simp; omega
  refine ⟨i + 1, m.set i (m[i]'hlt ^^^ 255), rfl, hr, m25, e_w, (by simp [hm]), ?_, ?_, ?_, ?_⟩
  · first | exact (later e_w31 s4) | exact Is.int (later e_w31 s4) (by first | omega | simp) | exact Is.bool (later e_w31 s4) (by first | omega | simp)
  · first | exact (later e_w31 s8) | exact Is.int (later e_w31 s8) (by first | omega | simp) | exact Is.bool (later e_w31 s8) (by first | omega | simp)
  · first | exact (later e_w31 s9) | exact Is.int (later e_w31 s9) (by first | omega | simp) | exact Is.bool (later e_w31 s9) (by first | omega | simp)
  · first | exact s11 | exact Is.int s11 (by first | omega | simp) | exact Is.bool s11 (by first | omega | simp)
 skip
 refine wp_exit ?_
 refine then_exit ?_
 refine then_exit ?_
 refine blk_exit ?_
 refine es ?_
 refine wp_reg 74 [[(10, none)], [(64, some 0)], [(65, some 1)], [(9, none), (66, some 2)], [(66, some 2)], [(4, none), (66, some 2)], [(2, none), (66, some 2)], [(68, some 4), (69, some 5), (70, some 6), (66, some 2)], [(67, some 3), (71, some 7), (66, some 2)], [(66, some 2), (72, some 8)], [(73, some 9)]] [?b34_0, ?b34_1, ?b34_1, ?b34_3, ?b34_4, ?b34_5, ?b34_6, ?b34_7, ?b34_8, ?b34_9, ?b34_9] mixed hr ?t34 ?o34 ?_
 case o34 =>
  apply oc0; intro A W hx hf
  exact ok_movE (a0 := a27) (r0 hf)
  apply oc0; intro A W hx hf
  exact ok_neq (p2 s10 e_w25 hx (q0 ?b34_0 A W 64 hf)) (ec A (.int .i64 0))
  apply oc0; intro A W hx hf
  exact ok_move (q0 ?b34_1 A W 65 hf)
  refine ocg 66 ?_ (fun A W hx hf => ?_) ?_
  rfl
  exact gd_f (q1 ?b34_1 A W 66 hf) (fun hc => ok_movE (a0 := a27) (r0 hf))
  refine ocg 66 ?_ (fun A W hx hf => ?_) ?_
  rfl
  exact gd_f (q0 ?b34_1 A W 66 hf) (fun hc => ok_build0 built38)
  refine ocg 66 ?_ (fun A W hx hf => ?_) ?_
  rfl
  exact gd_f (q1 ?b34_1 A W 66 hf) (fun hc => ok_loadAggS 7 tu27 rfl size27 (o2 s4 e_w25 hx (r0 hf)) rfl)
  refine ocg 66 ?_ (fun A W hx hf => ?_) ?_
  rfl
  exact gd_f (q1 ?b34_1 A W 66 hf) (fun hc => ok_movE (a0 := a27) (r0 hf))
  refine ocg 66 ?_ (fun A W hx hf => ?_) ?_
  rfl
  exact gd_f (q3 ?b34_1 A W 66 hf) (fun hc => ok_call4 body8 (c_r11Make (LinkV.of (show Is (LnkA link0 (.slice none 0 0)) _ _ from Is.conv (G.get (q0 ?b34_4 A W 68 hf) hc) rfl) rw_nil) (show Is (TupV T) _ _ from (G.get (q1 ?b34_5 A W 69 hf) hc)) (show Is (.int .i64 0) (A.eval (.const (.int .i64 0))) _ from rfl) (p2 s2 e_w hx (G.get (q2 ?b34_6 A W 70 hf) hc)) (by exact ⟨rfl, rfl⟩) (by exact hT9) (by exact (keeps_g hc).1) (by exact (keeps_g hc).2.1) (by exact (keeps_g hc).2.2) hx.size))
  refine ocg 66 ?_ (fun A W hx hf => ?_) ?_
  rfl
  exact gd_f (q2 ?b34_1 A W 66 hf) (fun hc => ok_call2 body7 (c_Same (OwnBA.bs (p2 s9 e_w25 hx (G.get (q0 ?b34_3 A W 67 hf) hc))) (OwnB.bs (G.get (q1 ?b34_7 A W 71 hf) hc))))
  apply oc0; intro A W hx hf
  exact ok_or (q0 ?b34_1 A W 66 hf) (q1 ?b34_8 A W 72 hf)
  apply oc0; intro A W hx hf
  exact ok_assign (q0 ?b34_9 A W 73 hf)
  exact onn
 case t34 => exact inferInstance
 clear hr; intro a35 w35 x hr hd hs
 have z_w_w27 := e_w.size
 have z_w25_w27 := e_w25.size
 clear s2 s4 s8 s9 s11 s10 s53
 have s6 := fa ?b34_9 a35 w35 6 (hd 10 6 rfl)
 replace e_w := e_w.trans x
 clear e_w25; clear hd hs x
 refine et ?_
 refine wp_ret ?_
 refine ret_tmp Try.results3 hr e_w ?_
 first | with_reducible exact s6 | exact Is.bool s6 keeps_end

end Go.Proofs.Ytpjpfmnnefgnbab
