import Derived.Test.YtdbjpfjnambenaaA07
import Derived.Test.YtdbjpfjnambenaaC07e
import Derived.Test.YtdbjpfjnambenaaC07f
namespace Go.Proofs.Ytdbjpfjnambenaa
open Go.RowKit
set_option linter.unusedVariables false
set_option maxRecDepth 4000
theorem law_LinkOnly {x0 : Value} {w : World} {l : List UInt8} (h0 : (Bs l) x0 w)  :
    Calls Try.prog 6 #[x0] w (Ret (Is (.bool true)) w) := by
 have hlen := Bs.len_le h0
 refine enter Try.func6 rfl Try.ntmps6 (k := 1) rfl (by decide) (fun a0 hr hargs => ?_)
 have s0 := sarg h0 (hargs 0 (by decide))
 clear hargs
 refine wp_seq ?_
 refine wp_reg 53 [[]] [?b1_0] mixed (by kernel_rfl) (by kernel_rfl) hr ?t1 ?o1 ?_
 case o1 =>
  refine oc0 (fun A W hx hf => ?_) ?_
  exact ok_assignc
  exact OpsOk.nil
 case t1 => exact inferInstance
 clear hr; intro a2 w2 x hr hd hs
 revert s0; refine kp1 hs rfl ?_; intro s0
 have e_w := x
 clear hd hs x
 refine exit_then ?_
 refine wp_seq ?_
 refine wp_seq ?_
 refine wp_reg 53 [[], [(7, some 0)], [(8, some 1)], [(0, none), (9, some 2)], [(10, some 3), (9, some 2)], [(11, some 4), (9, some 2)], [(9, some 2), (12, some 5)]] [?b3_0, ?b3_1, ?b3_1, ?b3_3, ?b3_4, ?b3_5, ?b3_6] mixed (by kernel_rfl) (by kernel_rfl) hr ?t3 ?o3 ?_
 case o3 =>
  refine oc0 (fun A W hx hf => ?_) ?_
  exact ok_call0 body9 (c_awake07 )
  refine oc0 (fun A W hx hf => ?_) ?_
  exact ok_not (q0 ?b3_0 A W 7 hf)
  refine oc0 (fun A W hx hf => ?_) ?_
  exact ok_move (q0 ?b3_1 A W 8 hf)
  refine ocg 9 ?_ (fun A W hx hf => ?_) ?_
  rfl
  exact gd_f (q1 ?b3_1 A W 9 hf) (fun hc => ok_movE (a0 := a2) (r0 hf))
  refine ocg 9 ?_ (fun A W hx hf => ?_) ?_
  rfl
  exact gd_f (q1 ?b3_1 A W 9 hf) (fun hc => ok_len_bs Try.underlying22 (p2 s0 e_w hx (G.get (q0 ?b3_3 A W 10 hf) hc)))
  refine ocg 9 ?_ (fun A W hx hf => ?_) ?_
  rfl
  exact gd_f (q1 ?b3_1 A W 9 hf) (fun hc => ok_gtr (G.get (q0 ?b3_4 A W 11 hf) hc) (ec A (.int .i64 1000)))
  refine oc0 (fun A W hx hf => ?_) ?_
  exact ok_or (q0 ?b3_1 A W 9 hf) (q1 ?b3_5 A W 12 hf)
  exact OpsOk.nil
 case t3 => exact inferInstance
 clear hr; intro a4 w4 x hr hd hs
 revert s0; refine kp1 hs rfl ?_; intro s0
 have s13 := fa ?b3_6 a4 w4 13 (hd 6 13 rfl)
 replace e_w := e_w.trans x
 clear hd hs x
 refine exit_then ?_
 refine wp_cond_split (show _ = _ from s13) (fun hl => ?_) (fun hl => ?_)
 · skip
   skip
   refine wp_seq ?_
   refine wp_reg 53 [[], [(14, some 0)]] [?b6_0, ?b6_0] mixed (by kernel_rfl) (by kernel_rfl) hr ?t6 ?o6 ?_
   case o6 =>
    refine oc0 (fun A W hx hf => ?_) ?_
    exact ok_call0 body9 (c_awake07 )
    refine oc0 (fun A W hx hf => ?_) ?_
    exact ok_assign (q0 ?b6_0 A W 14 hf)
    exact OpsOk.nil
   case t6 => exact inferInstance
   clear hr; intro a7 w7 x hr hd hs
   clear s0 s13
   have s2 := fa ?b6_0 a7 w7 2 (hd 1 2 rfl)
   replace e_w := e_w.trans x
   clear hd hs x
   refine exit_then ?_
   refine wp_ret ?_
   refine then_ret ?_
   refine ret_tmp Try.results6 hr e_w ?_
   first | with_reducible exact s2 | exact Is.bool s2 (by rw [hpR]; simp; omega) | exact Is.bool s2 (by simp; done)
 · skip
   have hl : l.length ≤ 1000 := by simp at hl; omega
   refine wp_skip ?_
   refine exit_then ?_
   refine wp_seq ?_
   refine wp_reg_pre (l := [_, _, _, _, _]) (rest := [_, _, _]) 53 [[(0, none)], [(16, some 0)], [(17, some 1)], [(15, some 2)], [(15, some 2)]] [?b8_0, ?b8_1, ?b8_1, ?b8_3, ?b8_4] (by kernel_rfl) (by kernel_rfl) hr ?t8 ?o8 ?_
   case o8 =>
    refine oc0 (fun A W hx hf => ?_) ?_
    exact ok_movE (a0 := a4) (r0 hf)
    refine oc0 (fun A W hx hf => ?_) ?_
    exact ok_call1 body10 (c_lRead (p2 s0 e_w hx (q0 ?b8_0 A W 16 hf)) hx.size)
    refine oc0 (fun A W hx hf => ?_) ?_
    exact ok_move (q0 ?b8_1 A W 17 hf)
    refine oc0 (fun A W hx hf => ?_) ?_
    exact ok_ext0 (q0 ?b8_1 A W 15 hf)
    refine oc0 (fun A W hx hf => ?_) ?_
    exact ok_ext1 (q0 ?b8_1 A W 15 hf)
    exact OpsOk.nil
   case t8 => exact inferInstance
   clear hr; intro a9 w9 x hr hd hs
   revert s0; refine kp1 hs rfl ?_; intro s0
   clear s13
   have s18 := fa ?b8_3 a9 w9 18 (hd 3 18 rfl)
   have s19 := fa ?b8_4 a9 w9 19 (hd 4 19 rfl)
   obtain ⟨sv18, s18, gA⟩ := LinkO.open s18; obtain ⟨g9_18, gA⟩ := OwnR.at gA; have n9_18 := OwnRA.lt gA
   replace gA := OwnRA.mono gA e_w.size
   replace e_w := e_w.trans x
   clear hd hs x
   have l10_gA := OwnRA.lt gA
   refine wl_op hr (ok_allocS (lnkS link0 (.slice none 0 0)) [6, 6, 1, 1, 1] zerov27 (by rfl) (by rfl) (Nat.le_refl _)) inferInstance ?_; clear hr; intro a10 w10 x hr hd hs
   revert s18; revert s19; revert s0; refine kp3 hs rfl ?_; intro s0 s19 s18
   have s3 := hd 3 rfl (by decide)
   obtain ⟨g10_3, q10_3⟩ := PxN.at s3; clear s3; have n10_3 := PxS.lt q10_3
   replace q10_3 := PxS.mono q10_3 e_w.size
   have s3 := q10_3; clear q10_3
   replace e_w := e_w.trans x
   have e_w9 := x
   clear hd hs x
   have z11 := PxS.lt s3
   have l11 := (show (g10_3 = 0 ∨ w.heap.size < g10_3) ∧ True from ⟨by omega, trivial⟩)
   have l11_gA := OwnRA.lt (later e_w9 gA)
   refine wl_storeSm (lnkS (linkRead l).1 sv18) hr size27 s3 (later e_w9 s18) (by exact lnkS_lens (linkRead_ok _)) (by exact lnk_one (rw_one (OwnRA.rw (later e_w9 gA)))) rfl ?_; clear hr; intro a11 w11 hc hu hr hs
   have hb : Below w.heap.size w10 w11 := hc.below e_w.size l11.1
   revert s3; revert s19; revert s0; refine kp3 hs rfl ?_; intro s0 s19 s3
   clear s18
   replace s3 := hu _ _ _ s3
   try simp only [List.set_cons_zero, List.set_cons_succ, lnkS] at s3
   replace gA := OwnRA.other (later e_w9 gA) hc (by omega)
   replace e_w := e_w.below (Nat.le_refl _) hb
   clear e_w9
   replace s19 := anyw (w2 := w11) s19
   clear hu hs hc hb
   refine wl_op hr (ok_assign s19) inferInstance ?_; clear hr; intro a12 w12 x hr hd hs
   revert s3; revert s0; refine kp2 hs rfl ?_; intro s0 s3
   clear s19
   have s4 := hd 4 rfl (by decide)
   replace e_w := e_w.trans x
   have e_w11 := x
   clear hd hs x
   refine wpList_nil ?_
   refine exit_then ?_
   refine wp_seq ?_
   refine wp_seq ?_
   refine wp_reg 53 [[(4, none)], [(20, some 0)]] [?b13_0, ?b13_1] mixed (by kernel_rfl) (by kernel_rfl) hr ?t13 ?o13 ?_
   case o13 =>
    refine oc0 (fun A W hx hf => ?_) ?_
    exact ok_movE (a0 := a12) (r0 hf)
    refine oc0 (fun A W hx hf => ?_) ?_
    exact ok_neq (p1 s4 hx (q0 ?b13_0 A W 20 hf)) (ec A (.int .i64 0))
    exact OpsOk.nil
   case t13 => exact inferInstance
   clear hr; intro a14 w14 x hr hd hs
   revert s3; revert s0; refine kp2 hs rfl ?_; intro s0 s3
   clear s4
   have s21 := fa ?b13_1 a14 w14 21 (hd 1 21 rfl)
   replace e_w := e_w.trans x
   replace e_w11 := e_w11.trans x
   clear hd hs x
   refine exit_then ?_
   refine wp_cond_split (show _ = _ from s21) (fun he => ?_) (fun he => ?_)
   · skip
     have he : (linkRead l).2 ≠ 0 := by simpa using he
     have hrd : (linkRead l).1 = link0 := (linkGo_err 2 12 [] he).1
     replace gA := OwnRA.cast gA (show _ = [] from by rw [hrd]; rfl)
     replace s3 := PxS.cast s3 (show _ = [link0.dst.map byteV, link0.src.map byteV, [sv18], [.int .i64 0], [.int .i64 0]] from by rw [hrd]; rfl)
     refine wp_seq ?_
     refine wp_reg 53 [[(3, none)], [(22, some 0)], [(23, some 1)], [(24, some 2)], [(25, some 3)], [(3, none), (26, some 4)], [(27, some 5), (26, some 4)], [(28, some 6), (26, some 4)], [(26, some 4), (29, some 7)], [(30, some 8)]] [?b16_0, ?b16_1, ?b16_2, ?b16_3, ?b16_3, ?b16_5, ?b16_6, ?b16_7, ?b16_8, ?b16_8] mixed (by kernel_rfl) (by kernel_rfl) hr ?t16 ?o16 ?_
     case o16 =>
      refine oc0 (fun A W hx hf => ?_) ?_
      exact ok_fieldS 2 Try.underlying27 (k := 2) rfl size25 rfl (o2 s3 e_w11 hx (r0 hf)) rfl
      refine oc0 (fun A W hx hf => ?_) ?_
      exact ok_is (ok_loadS Try.underlying25 rfl (q0 ?b16_0 A W 22 hf) rfl) (OwnRA.rw (later (e_w11.trans hx) gA))
      refine oc0 (fun A W hx hf => ?_) ?_
      exact ok_len_rw Try.underlying25 (q0 ?b16_1 A W 23 hf)
      refine oc0 (fun A W hx hf => ?_) ?_
      exact ok_eql (q0 ?b16_2 A W 24 hf) (ec A (.int .i64 0))
      refine oc0 (fun A W hx hf => ?_) ?_
      exact ok_move (q0 ?b16_3 A W 25 hf)
      refine ocg 26 ?_ (fun A W hx hf => ?_) ?_
      rfl
      exact gd_t (q1 ?b16_3 A W 26 hf) (fun hc => ok_fieldS 4 Try.underlying27 (k := 4) rfl size3 rfl (o2 s3 e_w11 hx (r0 hf)) rfl)
      refine ocg 26 ?_ (fun A W hx hf => ?_) ?_
      rfl
      exact gd_t (q1 ?b16_3 A W 26 hf) (fun hc => ok_loadS Try.underlying3 rfl (G.get (q0 ?b16_5 A W 27 hf) hc) rfl)
      refine ocg 26 ?_ (fun A W hx hf => ?_) ?_
      rfl
      exact gd_t (q1 ?b16_3 A W 26 hf) (fun hc => ok_eql (G.get (q0 ?b16_6 A W 28 hf) hc) (ec A (.int .i64 0)))
      refine oc0 (fun A W hx hf => ?_) ?_
      exact ok_and (q0 ?b16_3 A W 26 hf) (q1 ?b16_7 A W 29 hf)
      refine oc0 (fun A W hx hf => ?_) ?_
      exact ok_assign (q0 ?b16_8 A W 30 hf)
      exact OpsOk.nil
     case t16 => exact inferInstance
     clear hr; intro a17 w17 x hr hd hs
     clear s0 s3 s21
     have s2 := fa ?b16_8 a17 w17 2 (hd 9 2 rfl)
     replace e_w := e_w.trans x
     replace e_w11 := e_w11.trans x
     clear hd hs x
     refine exit_then ?_
     refine wp_ret ?_
     refine then_ret ?_
     refine ret_tmp Try.results6 hr e_w ?_
     first | with_reducible exact s2 | exact Is.bool s2 (by rw [hpR]; simp; omega) | exact Is.bool s2 (by simp; done)
   · skip
     have he : (linkRead l).2 = 0 := by simpa using he
     obtain ⟨hr9, hp1⟩ := link_only he
     obtain ⟨y1, y2, y3, y4⟩ := linkRead_bd he
     have hpR : linkPutR (linkRead l).1 = (l.take (linkRead l).1.at'.toNat, 0) := by unfold linkPutR; rw [if_pos hr9, hp1]
     refine wp_skip ?_
     refine exit_then ?_
     refine wp_seq ?_
     refine wp_reg 53 [[(3, none)], [(32, some 0)], [(33, some 1)], [(31, some 2)], [(31, some 2)], [(34, some 3)], [(35, some 4)]] [?b18_0, ?b18_1, ?b18_1, ?b18_3, ?b18_4, ?b18_3, ?b18_4] mixed (by kernel_rfl) (by kernel_rfl) hr ?t18 ?o18 ?_
     case o18 =>
      refine oc0 (fun A W hx hf => ?_) ?_
      exact ok_loadAggS 5 Try.underlying27 rfl size27 (o2 s3 e_w11 hx (r0 hf)) rfl
      refine oc0 (fun A W hx hf => ?_) ?_
      exact ok_call1 body13 (c_lPut (LinkV.of (show Is (LnkA (linkRead l).1 sv18) _ _ from (q0 ?b18_0 A W 32 hf)) (OwnRA.rw (later (e_w11.trans hx) gA))) (by exact linkRead_ok _) hx.size)
      refine oc0 (fun A W hx hf => ?_) ?_
      exact ok_move (q0 ?b18_1 A W 33 hf)
      refine oc0 (fun A W hx hf => ?_) ?_
      exact ok_ext0 (q0 ?b18_1 A W 31 hf)
      refine oc0 (fun A W hx hf => ?_) ?_
      exact ok_ext1 (q0 ?b18_1 A W 31 hf)
      refine oc0 (fun A W hx hf => ?_) ?_
      exact ok_assign (q0 ?b18_3 A W 34 hf)
      refine oc0 (fun A W hx hf => ?_) ?_
      exact ok_assign (q0 ?b18_4 A W 35 hf)
      exact OpsOk.nil
     case t18 => exact inferInstance
     clear hr; intro a19 w19 x hr hd hs
     have z_w_w14 := e_w.size
     have z_w11_w14 := e_w11.size
     have l19_3 := PxS.lt (later e_w11 s3)
     have l19_gA := OwnRA.lt (later e_w11 gA)
     revert s3; revert s0; refine kp2 hs rfl ?_; intro s0 s3
     clear s21
     have s5 := fa ?b18_3 a19 w19 5 (hd 5 5 rfl)
     have s6 := fa ?b18_4 a19 w19 6 (hd 6 6 rfl)
     obtain ⟨g19_5, q19_5⟩ := OwnB.at s5; clear s5; have n19_5 := OwnBA.lt q19_5
     replace q19_5 := OwnBA.mono q19_5 e_w.size
     have s5 := q19_5; clear q19_5
     replace e_w := e_w.trans x
     replace e_w11 := e_w11.trans x
     clear hd hs x
     refine exit_then ?_
     refine wp_seq ?_
     refine wp_reg 53 [[(6, none)], [(36, some 0)], [(37, some 1)], [(3, none), (38, some 2)], [(39, some 3), (38, some 2)], [(0, none), (38, some 2)], [(41, some 5), (38, some 2)], [(40, some 4), (42, some 6), (38, some 2)], [(38, some 2), (43, some 7)], [(44, some 8)], [(5, none), (45, some 9)], [(0, none), (45, some 9)], [(3, none), (45, some 9)], [(48, some 12), (45, some 9)], [(47, some 11), (49, some 13), (45, some 9)], [(46, some 10), (50, some 14), (45, some 9)], [(45, some 9), (51, some 15)], [(52, some 16)]] [?b20_0, ?b20_1, ?b20_1, ?b20_3, ?b20_4, ?b20_5, ?b20_6, ?b20_7, ?b20_8, ?b20_8, ?b20_10, ?b20_11, ?b20_12, ?b20_13, ?b20_14, ?b20_15, ?b20_16, ?b20_16] mixed (by kernel_rfl) (by kernel_rfl) hr ?t20 ?o20 ?_
     case o20 =>
      refine oc0 (fun A W hx hf => ?_) ?_
      exact ok_movE (a0 := a19) (r0 hf)
      refine oc0 (fun A W hx hf => ?_) ?_
      exact ok_eql (p1 s6 hx (q0 ?b20_0 A W 36 hf)) (ec A (.int .i64 0))
      refine oc0 (fun A W hx hf => ?_) ?_
      exact ok_move (q0 ?b20_1 A W 37 hf)
      refine ocg 38 ?_ (fun A W hx hf => ?_) ?_
      rfl
      exact gd_t (q1 ?b20_1 A W 38 hf) (fun hc => ok_fieldS 4 Try.underlying27 (k := 4) rfl size3 rfl (o2 s3 e_w11 hx (r0 hf)) rfl)
      refine ocg 38 ?_ (fun A W hx hf => ?_) ?_
      rfl
      exact gd_t (q1 ?b20_1 A W 38 hf) (fun hc => ok_loadS Try.underlying3 rfl (G.get (q0 ?b20_3 A W 39 hf) hc) rfl)
      refine ocg 38 ?_ (fun A W hx hf => ?_) ?_
      rfl
      exact gd_t (q1 ?b20_1 A W 38 hf) (fun hc => ok_movE (a0 := a19) (r0 hf))
      refine ocg 38 ?_ (fun A W hx hf => ?_) ?_
      rfl
      exact gd_t (q1 ?b20_1 A W 38 hf) (fun hc => ok_len_bs Try.underlying22 (p2 s0 e_w hx (G.get (q0 ?b20_5 A W 41 hf) hc)))
      refine ocg 38 ?_ (fun A W hx hf => ?_) ?_
      rfl
      exact gd_t (q2 ?b20_1 A W 38 hf) (fun hc => ok_leq (G.get (q0 ?b20_4 A W 40 hf) hc) (G.get (q1 ?b20_6 A W 42 hf) hc))
      refine oc0 (fun A W hx hf => ?_) ?_
      exact ok_and (q0 ?b20_1 A W 38 hf) (q1 ?b20_7 A W 43 hf)
      refine oc0 (fun A W hx hf => ?_) ?_
      exact ok_move (q0 ?b20_8 A W 44 hf)
      refine ocg 45 ?_ (fun A W hx hf => ?_) ?_
      rfl
      exact gd_t (q1 ?b20_8 A W 45 hf) (fun hc => ok_movE (a0 := a19) (r0 hf))
      refine ocg 45 ?_ (fun A W hx hf => ?_) ?_
      rfl
      exact gd_t (q1 ?b20_8 A W 45 hf) (fun hc => ok_movE (a0 := a19) (r0 hf))
      refine ocg 45 ?_ (fun A W hx hf => ?_) ?_
      rfl
      exact gd_t (q1 ?b20_8 A W 45 hf) (fun hc => ok_fieldS 4 Try.underlying27 (k := 4) rfl size3 rfl (o2 s3 e_w11 hx (r0 hf)) rfl)
      refine ocg 45 ?_ (fun A W hx hf => ?_) ?_
      rfl
      exact gd_t (q1 ?b20_8 A W 45 hf) (fun hc => ok_loadS Try.underlying3 rfl (G.get (q0 ?b20_12 A W 48 hf) hc) rfl)
      refine ocg 45 ?_ (fun A W hx hf => ?_) ?_
      rfl
      exact gd_t (q2 ?b20_8 A W 45 hf) (fun hc => ok_slice_hi ((linkRead l).1.at'.toNat) Try.underlying22 size5 (p2 s0 e_w hx (G.get (q0 ?b20_11 A W 47 hf) hc)) (Is.int (G.get (q1 ?b20_13 A W 49 hf) hc) (by show (linkRead l).1.at' = _; omega)) (by omega))
      refine ocg 45 ?_ (fun A W hx hf => ?_) ?_
      rfl
      exact gd_t (q2 ?b20_8 A W 45 hf) (fun hc => ok_call2 body15 (c_Same (OwnBA.bs (p1 s5 hx (G.get (q0 ?b20_10 A W 46 hf) hc))) (G.get (q1 ?b20_14 A W 50 hf) hc)))
      refine oc0 (fun A W hx hf => ?_) ?_
      exact ok_and (q0 ?b20_8 A W 45 hf) (q1 ?b20_15 A W 51 hf)
      refine oc0 (fun A W hx hf => ?_) ?_
      exact ok_assign (q0 ?b20_16 A W 52 hf)
      exact OpsOk.nil
     case t20 => exact inferInstance
     clear hr; intro a21 w21 x hr hd hs
     clear s0 s3 s6 s5
     have s2 := fa ?b20_16 a21 w21 2 (hd 17 2 rfl)
     replace e_w := e_w.trans x
     replace e_w11 := e_w11.trans x
     clear hd hs x
     refine exit_then ?_
     refine wp_ret ?_
     refine ret_tmp Try.results6 hr e_w ?_
     first | with_reducible exact s2 | exact Is.bool s2 (by rw [hpR]; simp; omega) | exact Is.bool s2 (by simp; done)

end Go.Proofs.Ytdbjpfjnambenaa
