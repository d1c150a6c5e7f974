import Derived.Test.YtdohlcakoamdhaaA09
import Derived.Test.YtdohlcakoamdhaaC09f
import Derived.Test.YtdohlcakoamdhaaC06b
namespace Go.Proofs.Ytdohlcakoamdhaa
open Go.RowKit
set_option linter.unusedVariables false
set_option maxRecDepth 4000
def D_law_SixKeeps_0 : List Tmp := [6, 27, 28, 29, 30, 31, 32, 33, 34, 35]
theorem law_SixKeeps {x0 : Value} {w : World} {l : List UInt8} (h0 : (Bs l) x0 w)  :
    Calls Try.prog 8 #[x0] w (Ret (Is (.bool true)) w) := by
 have hlen := Bs.len_le h0
 have hok := some9_ok
 have hpl := sixPut_len some9_ok
 refine enter Try.func8 rfl Try.ntmps8 (k := 1) rfl (by decide) (fun a0 hr hargs => ?_)
 have s0 := sarg h0 (hargs 0 (by decide))
 clear hargs
 refine wp_seq ?_
 refine wp_reg 50 [[]] [?b1_0] mixed (by kernel_rfl) (by kernel_rfl) hr ?t1 ?o1 ?_
 case o1 =>
  refine oc0 (fun A W hx hf => ?_) ?_
  exact ok_assignc
  exact OpsOk.nil
 case t1 => exact inferInstance
 clear hr; intro a2 w2 x hr hd hs
 revert s0; refine kp1 hs rfl ?_; intro s0
 have e_w := x
 clear hd hs x
 refine exit_then ?_
 refine wp_seq ?_
 refine wp_seq ?_
 refine wp_reg 50 [[], [(9, some 0)], [(10, some 1)], [(0, none), (11, some 2)], [(12, some 3), (11, some 2)], [(13, some 4), (11, some 2)], [(11, some 2), (14, some 5)]] [?b3_0, ?b3_1, ?b3_1, ?b3_3, ?b3_4, ?b3_5, ?b3_6] mixed (by kernel_rfl) (by kernel_rfl) hr ?t3 ?o3 ?_
 case o3 =>
  refine oc0 (fun A W hx hf => ?_) ?_
  exact ok_call0 body9 (c_awake09 )
  refine oc0 (fun A W hx hf => ?_) ?_
  exact ok_not (q0 ?b3_0 A W 9 hf)
  refine oc0 (fun A W hx hf => ?_) ?_
  exact ok_move (q0 ?b3_1 A W 10 hf)
  refine ocg 11 ?_ (fun A W hx hf => ?_) ?_
  rfl
  exact gd_f (q1 ?b3_1 A W 11 hf) (fun hc => ok_movE (a0 := a2) (r0 hf))
  refine ocg 11 ?_ (fun A W hx hf => ?_) ?_
  rfl
  exact gd_f (q1 ?b3_1 A W 11 hf) (fun hc => ok_len_bs Try.underlying22 (p2 s0 e_w hx (G.get (q0 ?b3_3 A W 12 hf) hc)))
  refine ocg 11 ?_ (fun A W hx hf => ?_) ?_
  rfl
  exact gd_f (q1 ?b3_1 A W 11 hf) (fun hc => ok_gtr (G.get (q0 ?b3_4 A W 13 hf) hc) (ec A (.int .i64 2000)))
  refine oc0 (fun A W hx hf => ?_) ?_
  exact ok_or (q0 ?b3_1 A W 11 hf) (q1 ?b3_5 A W 14 hf)
  exact OpsOk.nil
 case t3 => exact inferInstance
 clear hr; intro a4 w4 x hr hd hs
 revert s0; refine kp1 hs rfl ?_; intro s0
 have s15 := fa ?b3_6 a4 w4 15 (hd 6 15 rfl)
 replace e_w := e_w.trans x
 clear hd hs x
 refine exit_then ?_
 refine wp_cond_split (show _ = _ from s15) (fun hl => ?_) (fun hl => ?_)
 · skip
   skip
   refine wp_seq ?_
   refine wp_reg 50 [[], [(16, some 0)]] [?b6_0, ?b6_0] mixed (by kernel_rfl) (by kernel_rfl) hr ?t6 ?o6 ?_
   case o6 =>
    refine oc0 (fun A W hx hf => ?_) ?_
    exact ok_call0 body9 (c_awake09 )
    refine oc0 (fun A W hx hf => ?_) ?_
    exact ok_assign (q0 ?b6_0 A W 16 hf)
    exact OpsOk.nil
   case t6 => exact inferInstance
   clear hr; intro a7 w7 x hr hd hs
   clear s0 s15
   have s2 := fa ?b6_0 a7 w7 2 (hd 1 2 rfl)
   replace e_w := e_w.trans x
   clear hd hs x
   refine exit_then ?_
   refine wp_ret ?_
   refine then_ret ?_
   refine ret_tmp Try.results8 hr e_w ?_
   first | with_reducible exact s2 | exact Is.bool s2 (by simp)
 · skip
   have hl : l.length ≤ 2000 := by simp at hl; omega
   refine wp_skip ?_
   refine exit_then ?_
   refine wp_seq ?_
   refine wp_reg_pre (l := [_, _]) (rest := [_, _]) 50 [[], [(0, none)]] [?b8_0, ?b8_1] (by kernel_rfl) (by kernel_rfl) hr ?t8 ?o8 ?_
   case o8 =>
    refine oc0 (fun A W hx hf => ?_) ?_
    exact ok_ownBs [] [] Try.underlying22 size5 zero5 rfl rfl (by decide) hx.size (PartsOk.nil)
    refine oc0 (fun A W hx hf => ?_) ?_
    exact ok_movE (a0 := a4) (r0 hf)
    exact OpsOk.nil
   case t8 => exact inferInstance
   clear hr; intro a9 w9 x hr hd hs
   have z_w_w4 := e_w.size
   have u18 := mv s0 (fa ?b8_1 a9 w9 18 (hd 1 18 rfl))
   revert s0; refine kp1 hs rfl ?_; intro s0
   clear s15
   have s18 := u18; clear u18
   have s17 := fa ?b8_0 a9 w9 17 (hd 0 17 rfl)
   obtain ⟨g9_17, q9_17⟩ := OwnB.at s17; clear s17; have n9_17 := OwnBA.lt q9_17
   replace q9_17 := OwnBA.mono q9_17 e_w.size
   have s17 := q9_17; clear q9_17
   replace e_w := e_w.trans x
   clear hd hs x
   have l10 := OwnBA.lt s17
   refine wl_append_bsA hr (by decide) Try.underlying22 info5 rfl s17 (later e_w s18) e_w.size (by simp; omega) ?_; clear hr; intro g10 a10 w10 hg10 hc hr hd hs
   have hb := hc.below e_w.size l10.1
   revert s0; refine kp1 hs rfl ?_; intro s0
   clear s18 s17
   have s19 := hd
   replace e_w := e_w.below (Nat.le_refl _) hb
   clear hd hs hb hc
   refine wl_op hr (ok_assign s19) inferInstance ?_; clear hr; intro a11 w11 x hr hd hs
   revert s0; refine kp1 hs rfl ?_; intro s0
   clear s19
   have s3 := hd 3 rfl (by decide)
   replace e_w := e_w.trans x
   clear hd hs x
   refine wpList_nil ?_
   refine exit_then ?_
   refine wp_seq ?_
   refine wp_reg 50 [[(3, none)], [(20, some 0)]] [?b12_0, ?b12_1] mixed (by kernel_rfl) (by kernel_rfl) hr ?t12 ?o12 ?_
   case o12 =>
    refine oc0 (fun A W hx hf => ?_) ?_
    exact ok_movE (a0 := a11) (r0 hf)
    refine oc0 (fun A W hx hf => ?_) ?_
    exact ok_call1 body10 (c_xRead (OwnBA.bs (p1 s3 hx (q0 ?b12_0 A W 20 hf))))
    exact OpsOk.nil
   case t12 => exact inferInstance
   clear hr; intro a13 w13 x hr hd hs
   revert s0 s3; refine kp2 hs rfl ?_; intro s0 s3
   replace e_w := e_w.trans x
   have e_w11 := x
   clear hd hs x
   refine exit_then ?_
   refine wp_seq ?_
   refine wp_reg 50 [[], [(23, some 0)], [(24, some 1)], [(22, some 2)], [(22, some 2)], [(25, some 3)], [(26, some 4)]] [?b14_0, ?b14_1, ?b14_1, ?b14_3, ?b14_4, ?b14_3, ?b14_4] mixed (by kernel_rfl) (by kernel_rfl) hr ?t14 ?o14 ?_
   case o14 =>
    refine oc0 (fun A W hx hf => ?_) ?_
    exact ok_call0 body18 (c_some9 )
    refine oc0 (fun A W hx hf => ?_) ?_
    exact ok_call1 body12 (c_xPut (q0 ?b14_0 A W 23 hf) (by exact hok) hx.size)
    refine oc0 (fun A W hx hf => ?_) ?_
    exact ok_move (q0 ?b14_1 A W 24 hf)
    refine oc0 (fun A W hx hf => ?_) ?_
    exact ok_ext0 (q0 ?b14_1 A W 22 hf)
    refine oc0 (fun A W hx hf => ?_) ?_
    exact ok_ext1 (q0 ?b14_1 A W 22 hf)
    refine oc0 (fun A W hx hf => ?_) ?_
    exact ok_assign (q0 ?b14_3 A W 25 hf)
    refine oc0 (fun A W hx hf => ?_) ?_
    exact ok_assign (q0 ?b14_4 A W 26 hf)
    exact OpsOk.nil
   case t14 => exact inferInstance
   clear hr; intro a15 w15 x hr hd hs
   have z_w_w13 := e_w.size
   have z_w11_w13 := e_w11.size
   have l15_3 := OwnBA.lt (later e_w11 s3)
   revert s0 s3; refine kp2 hs rfl ?_; intro s0 s3
   have s4 := fa ?b14_3 a15 w15 4 (hd 5 4 rfl)
   obtain ⟨g15_4, q15_4⟩ := OwnB.at s4; clear s4; have n15_4 := OwnBA.lt q15_4
   replace q15_4 := OwnBA.mono q15_4 e_w.size
   have s4 := q15_4; clear q15_4
   replace e_w := e_w.trans x
   replace e_w11 := e_w11.trans x
   clear hd hs x
   replace s4 := OwnBA.cast s4 (show _ = sixPut some9 from by rw [some9_put])
   refine exit_then ?_
   refine wp_seq ?_
   refine wp_seq ?_
   refine wp_reg 50 [[]] [?b16_0] mixed (by kernel_rfl) (by kernel_rfl) hr ?t16 ?o16 ?_
   case o16 =>
    refine oc0 (fun A W hx hf => ?_) ?_
    exact ok_assignc
    exact OpsOk.nil
   case t16 => exact inferInstance
   clear hr; intro a17 w17 x hr hd hs
   revert s0 s3 s4; refine kp3 hs rfl ?_; intro s0 s3 s4
   have s6 := fa ?b16_0 a17 w17 6 (hd 0 6 rfl)
   replace e_w := e_w.trans x
   replace e_w11 := e_w11.trans x
   have e_w15 := x
   clear hd hs x
   refine exit_then ?_
   refine wp_block ?_
   refine wp_loop_inv (fun n A W => ∃ (i : Nat) (m : List UInt8), n = 40 - i ∧ Fr 50 A ∧ Same D_law_SixKeeps_0 a17 A ∧ Ext w W ∧ (i ≤ 40) ∧ (m.length = 40) ∧ (OwnBA g10 w.heap.size 5 l) (A.eval (.tmp 3)) W ∧ (OwnBA g15_4 w.heap.size 5 m) (A.eval (.tmp 4)) W ∧ (Is (.int .i64 (i : Int))) (A.eval (.tmp 6)) W) ?start18 ?_
   case start18 =>
    refine ⟨_, 0, sixPut some9, rfl, hr, Same.rfl, e_w, (by omega), (by exact hpl), ?_, ?_, ?_⟩
    · exact OwnBA.cast (later e_w11 s3) (by simp)
    · exact (later e_w15 s4)
    · first | exact s6 | exact Is.int s6 (by first | omega | simp) | exact Is.bool s6 (by first | omega | simp)
   intro n18 a18 w18 hI
   clear e_w
   clear e_w11
   clear e_w15
   clear hr; obtain ⟨i, m, hn18, hr, hs, e_w, hi, hm, u3, u4, u6⟩ := hI
   revert s0; refine kp1 hs rfl ?_; intro s0
   clear s3 s4 s6
   have s3 := u3; clear u3
   have s4 := u4; clear u4
   have s6 := u6; clear u6
   have m18 := hs; clear hs
   refine wp_seq ?_
   refine wp_seq ?_
   refine wp_reg 50 [[(6, none)], [(4, none)], [(28, some 1)], [(27, some 0), (29, some 2)]] [?b19_0, ?b19_1, ?b19_2, ?b19_3] mixed (by kernel_rfl) (by kernel_rfl) hr ?t19 ?o19 ?_
   case o19 =>
    refine oc0 (fun A W hx hf => ?_) ?_
    exact ok_movE (a0 := a18) (r0 hf)
    refine oc0 (fun A W hx hf => ?_) ?_
    exact ok_movE (a0 := a18) (r0 hf)
    refine oc0 (fun A W hx hf => ?_) ?_
    exact ok_len_bs Try.underlying22 (OwnBA.bs (p1 s4 hx (q0 ?b19_1 A W 28 hf)))
    refine oc0 (fun A W hx hf => ?_) ?_
    exact ok_lss (p1 s6 hx (q0 ?b19_0 A W 27 hf)) (q1 ?b19_2 A W 29 hf)
    exact OpsOk.nil
   case t19 => exact inferInstance
   clear hr; intro a20 w20 x hr hd hs
   revert s0 s3 s4 s6; refine kp4 hs rfl ?_; intro s0 s3 s4 s6
   have s30 := fa ?b19_3 a20 w20 30 (hd 3 30 rfl)
   replace e_w := e_w.trans x
   have e_w18 := x
   replace m18 := m18.tr hs rfl
   clear hd hs x
   refine exit_then ?_
   refine wp_cond_split (show _ = _ from s30) (fun hlt => ?_) (fun hlt => ?_)
   · skip
     have hlt : i < 40 := by simp [hm] at hlt; omega
     refine wp_skip ?_
     refine exit_then ?_
     refine wp_seq ?_
     refine wp_block ?_
     refine wp_reg_pre (l := [_, _, _]) (rest := [_]) 50 [[(4, none)], [(6, none)], [(33, some 0), (34, some 1)]] [?b22_0, ?b22_1, ?b22_2] (by kernel_rfl) (by kernel_rfl) hr ?t22 ?o22 ?_
     case o22 =>
      refine oc0 (fun A W hx hf => ?_) ?_
      exact ok_movE (a0 := a20) (r0 hf)
      refine oc0 (fun A W hx hf => ?_) ?_
      exact ok_movE (a0 := a20) (r0 hf)
      refine oc0 (fun A W hx hf => ?_) ?_
      exact ok_indexA (_) Try.underlying22 size5 (p2 s4 e_w18 hx (q0 ?b22_0 A W 33 hf)) (p2 s6 e_w18 hx (q1 ?b22_1 A W 34 hf)) (by omega)
      exact OpsOk.nil
     case t22 => exact inferInstance
     clear hr; intro a23 w23 x hr hd hs
     revert s0 s3 s4 s6; refine kp4 hs rfl ?_; intro s0 s3 s4 s6
     clear s30
     have s35 := fa ?b22_2 a23 w23 35 (hd 2 35 rfl)
     replace e_w := e_w.trans x
     replace e_w18 := e_w18.trans x
     replace m18 := m18.tr hs rfl
     clear hd hs x
     have z24 := EpA.lt s35
     have l24 := (show (g15_4 = 0 ∨ w.heap.size < g15_4) ∧ True from ⟨by omega, trivial⟩)
     have l24_3 := OwnBA.lt (later e_w18 s3)
     refine wl_storeA hr size5 s35 (show ByteIs 0 _ _ from rfl) ?_; clear hr; intro a24 w24 hc hu hr hs
     have hb : Below w.heap.size w23 w24 := hc.below e_w.size l24.1
     revert s0 s3 s4 s6; refine kp4 hs rfl ?_; intro s0 s3 s4 s6
     clear s35
     replace s3 := OwnBA.other (later e_w18 s3) hc (by omega)
     replace s4 := hu _ _ _ (later e_w18 s4)
     replace e_w := e_w.below (Nat.le_refl _) hb
     clear e_w18
     replace s6 := anyw (w2 := w24) s6
     replace m18 := m18.tr hs rfl
     clear hu hs hc hb
     refine wpList_nil ?_
     refine blk_normal ?_
     refine exit_then ?_
     refine wp_reg 50 [[(6, none)], [(31, some 0)], [(32, some 1)]] [?b25_0, ?b25_1, ?b25_1] mixed (by kernel_rfl) (by kernel_rfl) hr ?t25 ?o25 ?_
     case o25 =>
      refine oc0 (fun A W hx hf => ?_) ?_
      exact ok_movE (a0 := a24) (r0 hf)
      refine oc0 (fun A W hx hf => ?_) ?_
      exact ok_addI (p1 s6 hx (q0 ?b25_0 A W 31 hf)) (ec A (.int .i64 1)) (by omega)
      refine oc0 (fun A W hx hf => ?_) ?_
      exact ok_assign (q0 ?b25_1 A W 32 hf)
      exact OpsOk.nil
     case t25 => exact inferInstance
     clear hr; intro a26 w26 x hr hd hs
     revert s0 s3 s4; refine kp3 hs rfl ?_; intro s0 s3 s4
     clear s6
     have s6 := fa ?b25_1 a26 w26 6 (hd 2 6 rfl)
     replace e_w := e_w.trans x
     have e_w24 := x
     replace m18 := m18.tr hs rfl
     clear hd hs x
     refine exit_then ?_
     refine ⟨(fun (i : Nat) (m : List UInt8) => 40 - i) (i + 1) (m.set i 0), ?_, ?_⟩
     · (try dsimp only); omega
     refine ⟨i + 1, m.set i 0, rfl, hr, m18, e_w, (by omega), (by simp [hm]), ?_, ?_, ?_⟩
     · exact (later e_w24 s3)
     · exact (later e_w24 s4)
     · first | exact s6 | exact Is.int s6 (by first | omega | simp) | exact Is.bool s6 (by first | omega | simp)
   · skip
     skip
     refine wp_exit ?_
     refine then_exit ?_
     refine then_exit ?_
     refine blk_exit ?_
     refine exit_then ?_
     refine wp_seq ?_
     refine wp_reg 50 [[], [(37, some 0)], [(38, some 1)], [(36, some 2)], [(36, some 2)], [(39, some 3)], [(40, some 4)]] [?b27_0, ?b27_1, ?b27_1, ?b27_3, ?b27_4, ?b27_3, ?b27_4] mixed (by kernel_rfl) (by kernel_rfl) hr ?t27 ?o27 ?_
     case o27 =>
      refine oc0 (fun A W hx hf => ?_) ?_
      exact ok_call0 body18 (c_some9 )
      refine oc0 (fun A W hx hf => ?_) ?_
      exact ok_call1 body12 (c_xPut (q0 ?b27_0 A W 37 hf) (by exact hok) hx.size)
      refine oc0 (fun A W hx hf => ?_) ?_
      exact ok_move (q0 ?b27_1 A W 38 hf)
      refine oc0 (fun A W hx hf => ?_) ?_
      exact ok_ext0 (q0 ?b27_1 A W 36 hf)
      refine oc0 (fun A W hx hf => ?_) ?_
      exact ok_ext1 (q0 ?b27_1 A W 36 hf)
      refine oc0 (fun A W hx hf => ?_) ?_
      exact ok_assign (q0 ?b27_3 A W 39 hf)
      refine oc0 (fun A W hx hf => ?_) ?_
      exact ok_assign (q0 ?b27_4 A W 40 hf)
      exact OpsOk.nil
     case t27 => exact inferInstance
     clear hr; intro a28 w28 x hr hd hs
     have z_w_w20 := e_w.size
     have z_w18_w20 := e_w18.size
     have l28_3 := OwnBA.lt (later e_w18 s3)
     have l28_4 := OwnBA.lt (later e_w18 s4)
     revert s0 s3; refine kp2 hs rfl ?_; intro s0 s3
     clear s4 s6 s30
     have s7 := fa ?b27_3 a28 w28 7 (hd 5 7 rfl)
     obtain ⟨g28_7, q28_7⟩ := OwnB.at s7; clear s7; have n28_7 := OwnBA.lt q28_7
     replace q28_7 := OwnBA.mono q28_7 e_w.size
     have s7 := q28_7; clear q28_7
     replace e_w := e_w.trans x
     replace e_w18 := e_w18.trans x
     clear hd hs x
     replace s7 := OwnBA.cast s7 (show _ = sixPut some9 from by rw [some9_put])
     refine exit_then ?_
     refine wp_seq ?_
     refine wp_reg 50 [[(3, none)], [(0, none)], [(41, some 0), (42, some 1)], [(43, some 2)], [(7, none), (44, some 3)], [(44, some 3)], [(46, some 5), (44, some 3)], [(45, some 4), (47, some 6), (44, some 3)], [(44, some 3), (48, some 7)], [(49, some 8)]] [?b29_0, ?b29_1, ?b29_2, ?b29_2, ?b29_4, ?b29_5, ?b29_6, ?b29_7, ?b29_8, ?b29_8] mixed (by kernel_rfl) (by kernel_rfl) hr ?t29 ?o29 ?_
     case o29 =>
      refine oc0 (fun A W hx hf => ?_) ?_
      exact ok_movE (a0 := a28) (r0 hf)
      refine oc0 (fun A W hx hf => ?_) ?_
      exact ok_movE (a0 := a28) (r0 hf)
      refine oc0 (fun A W hx hf => ?_) ?_
      exact ok_call2 body14 (c_Same (OwnBA.bs (p2 s3 e_w18 hx (q0 ?b29_0 A W 41 hf))) (p2 s0 e_w hx (q1 ?b29_1 A W 42 hf)))
      refine oc0 (fun A W hx hf => ?_) ?_
      exact ok_move (q0 ?b29_2 A W 43 hf)
      refine ocg 44 ?_ (fun A W hx hf => ?_) ?_
      rfl
      exact gd_t (q1 ?b29_2 A W 44 hf) (fun hc => ok_movE (a0 := a28) (r0 hf))
      refine ocg 44 ?_ (fun A W hx hf => ?_) ?_
      rfl
      exact gd_t (q0 ?b29_2 A W 44 hf) (fun hc => ok_call0 body18 (c_some9 ))
      refine ocg 44 ?_ (fun A W hx hf => ?_) ?_
      rfl
      exact gd_t (q1 ?b29_2 A W 44 hf) (fun hc => ok_call1 body15 (c_r9Put (G.get (q0 ?b29_5 A W 46 hf) hc) (by exact hok) (by decide) hx.size))
      refine ocg 44 ?_ (fun A W hx hf => ?_) ?_
      rfl
      exact gd_t (q2 ?b29_2 A W 44 hf) (fun hc => ok_call2 body14 (c_Same (OwnBA.bs (p1 s7 hx (G.get (q0 ?b29_4 A W 45 hf) hc))) (OwnB.bs (G.get (q1 ?b29_6 A W 47 hf) hc))))
      refine oc0 (fun A W hx hf => ?_) ?_
      exact ok_and (q0 ?b29_2 A W 44 hf) (q1 ?b29_7 A W 48 hf)
      refine oc0 (fun A W hx hf => ?_) ?_
      exact ok_assign (q0 ?b29_8 A W 49 hf)
      exact OpsOk.nil
     case t29 => exact inferInstance
     clear hr; intro a30 w30 x hr hd hs
     have z_w_w28 := e_w.size
     have z_w18_w28 := e_w18.size
     clear s0 s3 s7
     have s2 := fa ?b29_8 a30 w30 2 (hd 9 2 rfl)
     replace e_w := e_w.trans x
     clear e_w18
     clear hd hs x
     refine exit_then ?_
     refine wp_ret ?_
     refine ret_tmp Try.results8 hr e_w ?_
     first | with_reducible exact s2 | exact Is.bool s2 (by simp)

end Go.Proofs.Ytdohlcakoamdhaa
