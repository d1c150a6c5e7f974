import Derived.Test.YtdbjpfjnambenaaA07
import Derived.Test.YtdbjpfjnambenaaC07e
import Derived.Test.YtdbjpfjnambenaaC07f
namespace Go.Proofs.Ytdbjpfjnambenaa
open Go.RowKit
set_option linter.unusedVariables false
set_option maxRecDepth 4000
theorem law_LinkReads {x0 : Value} {w : World} {l : List UInt8} (h0 : (Bs l) x0 w)  :
    Calls Try.prog 3 #[x0] w (Ret (Is (.bool true)) w) := by
 have hlen := Bs.len_le h0
 refine enter Try.func3 rfl Try.ntmps3 (k := 1) rfl (by decide) (fun a0 hr hargs => ?_)
 have s0 := sarg h0 (hargs 0 (by decide))
 clear hargs
 refine wp_seq ?_
 refine wp_reg 33 [[]] [?b1_0] mixed (by kernel_rfl) (by kernel_rfl) hr ?t1 ?o1 ?_
 case o1 =>
  refine oc0 (fun A W hx hf => ?_) ?_
  exact ok_assignc
  exact OpsOk.nil
 case t1 => exact inferInstance
 clear hr; intro a2 w2 x hr hd hs
 revert s0; refine kp1 hs rfl ?_; intro s0
 have e_w := x
 clear hd hs x
 refine exit_then ?_
 refine wp_seq ?_
 refine wp_seq ?_
 refine wp_reg 33 [[], [(7, some 0)], [(8, some 1)], [(0, none), (9, some 2)], [(10, some 3), (9, some 2)], [(11, some 4), (9, some 2)], [(9, some 2), (12, some 5)]] [?b3_0, ?b3_1, ?b3_1, ?b3_3, ?b3_4, ?b3_5, ?b3_6] mixed (by kernel_rfl) (by kernel_rfl) hr ?t3 ?o3 ?_
 case o3 =>
  refine oc0 (fun A W hx hf => ?_) ?_
  exact ok_call0 body9 (c_awake07 )
  refine oc0 (fun A W hx hf => ?_) ?_
  exact ok_not (q0 ?b3_0 A W 7 hf)
  refine oc0 (fun A W hx hf => ?_) ?_
  exact ok_move (q0 ?b3_1 A W 8 hf)
  refine ocg 9 ?_ (fun A W hx hf => ?_) ?_
  rfl
  exact gd_f (q1 ?b3_1 A W 9 hf) (fun hc => ok_movE (a0 := a2) (r0 hf))
  refine ocg 9 ?_ (fun A W hx hf => ?_) ?_
  rfl
  exact gd_f (q1 ?b3_1 A W 9 hf) (fun hc => ok_len_bs Try.underlying22 (p2 s0 e_w hx (G.get (q0 ?b3_3 A W 10 hf) hc)))
  refine ocg 9 ?_ (fun A W hx hf => ?_) ?_
  rfl
  exact gd_f (q1 ?b3_1 A W 9 hf) (fun hc => ok_gtr (G.get (q0 ?b3_4 A W 11 hf) hc) (ec A (.int .i64 1000)))
  refine oc0 (fun A W hx hf => ?_) ?_
  exact ok_or (q0 ?b3_1 A W 9 hf) (q1 ?b3_5 A W 12 hf)
  exact OpsOk.nil
 case t3 => exact inferInstance
 clear hr; intro a4 w4 x hr hd hs
 revert s0; refine kp1 hs rfl ?_; intro s0
 have s13 := fa ?b3_6 a4 w4 13 (hd 6 13 rfl)
 replace e_w := e_w.trans x
 clear hd hs x
 refine exit_then ?_
 refine wp_cond_split (show _ = _ from s13) (fun hl => ?_) (fun hl => ?_)
 · skip
   skip
   refine wp_seq ?_
   refine wp_reg 33 [[], [(14, some 0)]] [?b6_0, ?b6_0] mixed (by kernel_rfl) (by kernel_rfl) hr ?t6 ?o6 ?_
   case o6 =>
    refine oc0 (fun A W hx hf => ?_) ?_
    exact ok_call0 body9 (c_awake07 )
    refine oc0 (fun A W hx hf => ?_) ?_
    exact ok_assign (q0 ?b6_0 A W 14 hf)
    exact OpsOk.nil
   case t6 => exact inferInstance
   clear hr; intro a7 w7 x hr hd hs
   clear s0 s13
   have s2 := fa ?b6_0 a7 w7 2 (hd 1 2 rfl)
   replace e_w := e_w.trans x
   clear hd hs x
   refine exit_then ?_
   refine wp_ret ?_
   refine then_ret ?_
   refine ret_tmp Try.results3 hr e_w ?_
   first | with_reducible exact s2 | exact Is.bool s2 (by simp)
 · skip
   have hl : l.length ≤ 1000 := by simp at hl; omega
   refine wp_skip ?_
   refine exit_then ?_
   refine wp_seq ?_
   refine wp_reg_pre (l := [_, _, _, _, _]) (rest := [_, _, _]) 33 [[(0, none)], [(16, some 0)], [(17, some 1)], [(15, some 2)], [(15, some 2)]] [?b8_0, ?b8_1, ?b8_1, ?b8_3, ?b8_4] (by kernel_rfl) (by kernel_rfl) hr ?t8 ?o8 ?_
   case o8 =>
    refine oc0 (fun A W hx hf => ?_) ?_
    exact ok_movE (a0 := a4) (r0 hf)
    refine oc0 (fun A W hx hf => ?_) ?_
    exact ok_call1 body10 (c_lRead (p2 s0 e_w hx (q0 ?b8_0 A W 16 hf)) hx.size)
    refine oc0 (fun A W hx hf => ?_) ?_
    exact ok_move (q0 ?b8_1 A W 17 hf)
    refine oc0 (fun A W hx hf => ?_) ?_
    exact ok_ext0 (q0 ?b8_1 A W 15 hf)
    refine oc0 (fun A W hx hf => ?_) ?_
    exact ok_ext1 (q0 ?b8_1 A W 15 hf)
    exact OpsOk.nil
   case t8 => exact inferInstance
   clear hr; intro a9 w9 x hr hd hs
   revert s0; refine kp1 hs rfl ?_; intro s0
   clear s13
   have s18 := fa ?b8_3 a9 w9 18 (hd 3 18 rfl)
   have s19 := fa ?b8_4 a9 w9 19 (hd 4 19 rfl)
   obtain ⟨sv18, s18, gA⟩ := LinkO.open s18; obtain ⟨g9_18, gA⟩ := OwnR.at gA; have n9_18 := OwnRA.lt gA
   replace gA := OwnRA.mono gA e_w.size
   replace e_w := e_w.trans x
   clear hd hs x
   have l10_gA := OwnRA.lt gA
   refine wl_op hr (ok_allocS [(lnkS link0 (.slice none 0 0)).flatten] [15] zerov27 (by rfl) (by rfl) (Nat.le_refl _)) inferInstance ?_; clear hr; intro a10 w10 x hr hd hs
   revert s18; revert s19; revert s0; refine kp3 hs rfl ?_; intro s0 s19 s18
   have s3 := hd 3 rfl (by decide)
   obtain ⟨g10_3, q10_3⟩ := PxN.at s3; clear s3; have n10_3 := PxS.lt q10_3
   replace q10_3 := PxS.mono q10_3 e_w.size
   have s3 := q10_3; clear q10_3
   replace e_w := e_w.trans x
   have e_w9 := x
   clear hd hs x
   have z11 := PxS.lt s3
   have l11 := (show (g10_3 = 0 ∨ w.heap.size < g10_3) ∧ True from ⟨by omega, trivial⟩)
   have l11_gA := OwnRA.lt (later e_w9 gA)
   refine wl_storeSn hr size27 s3 (later e_w9 s18) (by exact lnk_len (linkRead_ok _)) (by exact lnk_one (rw_one (OwnRA.rw (later e_w9 gA)))) rfl ?_; clear hr; intro a11 w11 hc hu hr hs
   have hb : Below w.heap.size w10 w11 := hc.below e_w.size l11.1
   revert s3; revert s19; revert s0; refine kp3 hs rfl ?_; intro s0 s19 s3
   clear s18
   replace s3 := hu _ _ _ s3
   try simp only [List.set_cons_zero, List.set_cons_succ] at s3
   replace gA := OwnRA.other (later e_w9 gA) hc (by omega)
   replace e_w := e_w.below (Nat.le_refl _) hb
   clear e_w9
   replace s19 := anyw (w2 := w11) s19
   clear hu hs hc hb
   refine wl_op hr (ok_assign s19) inferInstance ?_; clear hr; intro a12 w12 x hr hd hs
   revert s3; revert s0; refine kp2 hs rfl ?_; intro s0 s3
   clear s19
   have s4 := hd 4 rfl (by decide)
   replace e_w := e_w.trans x
   have e_w11 := x
   clear hd hs x
   refine wpList_nil ?_
   refine exit_then ?_
   refine wp_seq ?_
   refine wp_reg_pre (l := [_, _, _, _, _]) (rest := [_, _, _]) 33 [[(0, none)], [(21, some 0)], [(22, some 1)], [(20, some 2)], [(20, some 2)]] [?b13_0, ?b13_1, ?b13_1, ?b13_3, ?b13_4] (by kernel_rfl) (by kernel_rfl) hr ?t13 ?o13 ?_
   case o13 =>
    refine oc0 (fun A W hx hf => ?_) ?_
    exact ok_movE (a0 := a12) (r0 hf)
    refine oc0 (fun A W hx hf => ?_) ?_
    exact ok_call1 body11 (c_r7Read (p2 s0 e_w hx (q0 ?b13_0 A W 21 hf)) (by omega) hx.size)
    refine oc0 (fun A W hx hf => ?_) ?_
    exact ok_move (q0 ?b13_1 A W 22 hf)
    refine oc0 (fun A W hx hf => ?_) ?_
    exact ok_ext0 (q0 ?b13_1 A W 20 hf)
    refine oc0 (fun A W hx hf => ?_) ?_
    exact ok_ext1 (q0 ?b13_1 A W 20 hf)
    exact OpsOk.nil
   case t13 => exact inferInstance
   clear hr; intro a14 w14 x hr hd hs
   have l14_3 := PxS.lt (later e_w11 s3)
   have l14_gA := OwnRA.lt (later e_w11 gA)
   revert s4; revert s3; refine kp2 hs rfl ?_; intro s3 s4
   clear s0
   have s23 := fa ?b13_3 a14 w14 23 (hd 3 23 rfl)
   have s24 := fa ?b13_4 a14 w14 24 (hd 4 24 rfl)
   obtain ⟨sv23, s23, gB⟩ := LinkO.open s23; obtain ⟨g14_23, gB⟩ := OwnR.at gB; have n14_23 := OwnRA.lt gB
   replace gB := OwnRA.mono gB e_w.size
   replace e_w := e_w.trans x
   replace e_w11 := e_w11.trans x
   have e_w12 := x
   clear hd hs x
   have l15_3 := PxS.lt (later e_w11 s3)
   have l15_gA := OwnRA.lt (later e_w11 gA)
   have l15_gB := OwnRA.lt gB
   refine wl_op hr (ok_allocS [(lnkS link0 (.slice none 0 0)).flatten] [15] zerov27 (by rfl) (by rfl) (Nat.le_refl _)) inferInstance ?_; clear hr; intro a15 w15 x hr hd hs
   revert s23; revert s24; revert s4; revert s3; refine kp4 hs rfl ?_; intro s3 s4 s24 s23
   have s5 := hd 5 rfl (by decide)
   obtain ⟨g15_5, q15_5⟩ := PxN.at s5; clear s5; have n15_5 := PxS.lt q15_5
   replace q15_5 := PxS.mono q15_5 e_w.size
   have s5 := q15_5; clear q15_5
   replace e_w := e_w.trans x
   replace e_w11 := e_w11.trans x
   replace e_w12 := e_w12.trans x
   have e_w14 := x
   clear hd hs x
   have z16 := PxS.lt s5
   have l16 := (show (g15_5 = 0 ∨ w.heap.size < g15_5) ∧ True from ⟨by omega, trivial⟩)
   have l16_3 := PxS.lt (later e_w11 s3)
   have l16_gA := OwnRA.lt (later e_w11 gA)
   have l16_gB := OwnRA.lt (later e_w14 gB)
   refine wl_storeSn hr size27 s5 (later e_w14 s23) (by exact lnk_len (linkRead_ok _)) (by exact lnk_one (rw_one (OwnRA.rw (later e_w14 gB)))) rfl ?_; clear hr; intro a16 w16 hc hu hr hs
   have hb : Below w.heap.size w15 w16 := hc.below e_w.size l16.1
   revert s5; revert s24; revert s4; revert s3; refine kp4 hs rfl ?_; intro s3 s4 s24 s5
   clear s23
   replace s3 := PxS.other (later e_w11 s3) hc (by omega)
   replace s5 := hu _ _ _ s5
   try simp only [List.set_cons_zero, List.set_cons_succ] at s5
   replace gA := OwnRA.other (later e_w11 gA) hc (by omega)
   replace gB := OwnRA.other (later e_w14 gB) hc (by omega)
   replace e_w := e_w.below (Nat.le_refl _) hb
   clear e_w11
   clear e_w12
   clear e_w14
   replace s4 := anyw (w2 := w16) s4
   replace s24 := anyw (w2 := w16) s24
   clear hu hs hc hb
   refine wl_op hr (ok_assign s24) inferInstance ?_; clear hr; intro a17 w17 x hr hd hs
   revert s4; revert s5; revert s3; refine kp3 hs rfl ?_; intro s3 s5 s4
   clear s24
   have s6 := hd 6 rfl (by decide)
   replace e_w := e_w.trans x
   have e_w16 := x
   clear hd hs x
   refine wpList_nil ?_
   refine exit_then ?_
   refine wp_seq ?_
   refine wp_reg 33 [[(4, none)], [(6, none)], [(25, some 0), (26, some 1)], [(27, some 2)], [(3, none), (28, some 3)], [(5, none), (28, some 3)], [(29, some 4), (30, some 5), (28, some 3)], [(28, some 3), (31, some 6)], [(32, some 7)]] [?b18_0, ?b18_1, ?b18_2, ?b18_2, ?b18_4, ?b18_5, ?b18_6, ?b18_7, ?b18_7] mixed (by kernel_rfl) (by kernel_rfl) hr ?t18 ?o18 ?_
   case o18 =>
    refine oc0 (fun A W hx hf => ?_) ?_
    exact ok_movE (a0 := a17) (r0 hf)
    refine oc0 (fun A W hx hf => ?_) ?_
    exact ok_movE (a0 := a17) (r0 hf)
    refine oc0 (fun A W hx hf => ?_) ?_
    exact ok_eql (p2 s4 e_w16 hx (q0 ?b18_0 A W 25 hf)) (p1 s6 hx (q1 ?b18_1 A W 26 hf))
    refine oc0 (fun A W hx hf => ?_) ?_
    exact ok_move (q0 ?b18_2 A W 27 hf)
    refine ocg 28 ?_ (fun A W hx hf => ?_) ?_
    rfl
    exact gd_t (q1 ?b18_2 A W 28 hf) (fun hc => ok_loadSeg Try.underlying27 rfl size27 (o2 s3 e_w16 hx (r0 hf)) rfl rfl)
    refine ocg 28 ?_ (fun A W hx hf => ?_) ?_
    rfl
    exact gd_t (q1 ?b18_2 A W 28 hf) (fun hc => ok_loadSeg Try.underlying27 rfl size27 (o2 s5 e_w16 hx (r0 hf)) rfl rfl)
    refine ocg 28 ?_ (fun A W hx hf => ?_) ?_
    rfl
    exact gd_t (q2 ?b18_2 A W 28 hf) (fun hc => ok_call2 body12 (c_r7Same (LinkV.of (show Is (LnkA (linkRead l).1 sv18) _ _ from (G.get (q0 ?b18_4 A W 29 hf) hc)) (OwnRA.rw (later (e_w16.trans hx) gA))) (LinkV.of (show Is (LnkA (linkRead l).1 sv23) _ _ from (G.get (q1 ?b18_5 A W 30 hf) hc)) (OwnRA.rw (later (e_w16.trans hx) gB))) (by exact linkRead_ok _)))
    refine oc0 (fun A W hx hf => ?_) ?_
    exact ok_and (q0 ?b18_2 A W 28 hf) (q1 ?b18_6 A W 31 hf)
    refine oc0 (fun A W hx hf => ?_) ?_
    exact ok_assign (q0 ?b18_7 A W 32 hf)
    exact OpsOk.nil
   case t18 => exact inferInstance
   clear hr; intro a19 w19 x hr hd hs
   clear s3 s5 s4 s6
   have s2 := fa ?b18_7 a19 w19 2 (hd 8 2 rfl)
   replace e_w := e_w.trans x
   replace e_w16 := e_w16.trans x
   clear hd hs x
   refine exit_then ?_
   refine wp_ret ?_
   refine ret_tmp Try.results3 hr e_w ?_
   first | with_reducible exact s2 | exact Is.bool s2 (by simp)

end Go.Proofs.Ytdbjpfjnambenaa
