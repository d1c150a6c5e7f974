import Derived.Test.YtdohlcakoamdhaaA09
import Derived.Test.YtdohlcakoamdhaaC09g
import Derived.Test.YtdohlcakoamdhaaC09d
namespace Go.Proofs.Ytdohlcakoamdhaa
open Go.RowKit
set_option linter.unusedVariables false
set_option maxRecDepth 4000
def D_law_SixBack_0 : List Tmp := [9, 11, 12, 41, 42, 43, 44, 45, 46, 47, 48, 49, 50, 51, 52, 53, 54, 55, 56, 57, 58, 59, 60, 61, 62, 63, 64, 65, 66, 67, 68, 69, 70, 71, 72, 73, 74, 75, 76, 77, 78, 79, 80, 81, 82, 83, 84, 85, 86, 87, 88, 89, 90, 91, 92]
set_option maxHeartbeats 1000000 in
theorem law_SixBack {x0 x1 x2 x3 : Value} {w : World} {H : SixL} {l : List ExtL} {m r : List UInt8} (h0 : (Is (SixV H)) x0 w) (h1 : (Rw extR l) x1 w) (h2 : (Bs m) x2 w) (h3 : (Bs r) x3 w) (hH : SixOk H) (hx9 : ∀ x ∈ l, ExtOk x) :
    Calls Try.prog 5 #[x0, x1, x2, x3] w (Ret (Is (.bool true)) w) := by
 have hs16 := hH.1
 have hd16 := hH.2
 have hlm := Bs.len_le h2
 have hlr := Bs.len_le h3
 refine enter Try.func5 rfl Try.ntmps5 (k := 4) rfl (by decide) (fun a0 hr hargs => ?_)
 have s0 := sarg h0 (hargs 0 (by decide))
 have s1 := sarg h1 (hargs 1 (by decide))
 have s2 := sarg h2 (hargs 2 (by decide))
 have s3 := sarg h3 (hargs 3 (by decide))
 clear hargs
 refine wp_seq ?_
 refine wp_reg 127 [[(0, none)], []] [?b1_0, ?b1_1] mixed (by kernel_rfl) (by kernel_rfl) hr ?t1 ?o1 ?_
 case o1 =>
  refine oc0 (fun A W hx hf => ?_) ?_
  exact ok_boxS (sixS2 H) [1, 1, 1, 1, 1, 1, 1, 16, 1, 16] (Is.conv (o1 s0 hx (r0 hf)) (show _ = Value.agg (sixS2 H).flatten.toArray from by rw [six_seg]; rfl)) (by exact sixS2_lens hH) hx.size
  refine oc0 (fun A W hx hf => ?_) ?_
  exact ok_assignc
  exact OpsOk.nil
 case t1 => exact inferInstance
 clear hr; intro a2 w2 x hr hd hs
 revert s3; revert s2; revert s1; refine kp3 hs rfl ?_; intro s1 s2 s3
 clear s0
 have s4 := fa ?b1_0 a2 w2 4 (hd 0 4 rfl)
 obtain ⟨g2_4, q2_4⟩ := PxN.at s4; clear s4; have n2_4 := PxS.lt q2_4
 have s4 := q2_4; clear q2_4
 have e_w := x
 clear hd hs x
 refine exit_then ?_
 refine wp_seq ?_
 refine wp_seq ?_
 refine wp_reg 127 [[], [(15, some 0)], [(16, some 1)], [(4, none), (17, some 2)], [(18, some 3), (17, some 2)], [(19, some 4), (17, some 2)], [(17, some 2), (20, some 5)], [(21, some 6)], [(1, none), (22, some 7)], [(23, some 8), (22, some 7)], [(24, some 9), (22, some 7)], [(22, some 7), (25, some 10)], [(26, some 11)], [(2, none), (27, some 12)], [(28, some 13), (27, some 12)], [(29, some 14), (27, some 12)], [(27, some 12), (30, some 15)], [(31, some 16)], [(3, none), (32, some 17)], [(33, some 18), (32, some 17)], [(34, some 19), (32, some 17)], [(32, some 17), (35, some 20)]] [?b3_0, ?b3_1, ?b3_1, ?b3_3, ?b3_4, ?b3_5, ?b3_6, ?b3_6, ?b3_8, ?b3_9, ?b3_10, ?b3_11, ?b3_11, ?b3_13, ?b3_14, ?b3_15, ?b3_16, ?b3_16, ?b3_18, ?b3_19, ?b3_20, ?b3_21] mixed (by kernel_rfl) (by kernel_rfl) hr ?t3 ?o3 ?_
 case o3 =>
  refine oc0 (fun A W hx hf => ?_) ?_
  exact ok_call0 body9 (c_awake09 )
  refine oc0 (fun A W hx hf => ?_) ?_
  exact ok_not (q0 ?b3_0 A W 15 hf)
  refine oc0 (fun A W hx hf => ?_) ?_
  exact ok_move (q0 ?b3_1 A W 16 hf)
  refine ocg 17 ?_ (fun A W hx hf => ?_) ?_
  rfl
  exact gd_f (q1 ?b3_1 A W 17 hf) (fun hc => ok_loadAggS 10 Try.underlying28 rfl size28 (o1 s4 hx (r0 hf)) rfl)
  refine ocg 17 ?_ (fun A W hx hf => ?_) ?_
  rfl
  exact gd_f (q1 ?b3_1 A W 17 hf) (fun hc => ok_call1 body13 (c_r9Right (show Is (SixV H) _ _ from Is.conv (G.get (q0 ?b3_3 A W 18 hf) hc) six_all) (by exact hH)))
  refine ocg 17 ?_ (fun A W hx hf => ?_) ?_
  rfl
  exact gd_f (q1 ?b3_1 A W 17 hf) (fun hc => ok_not (G.get (q0 ?b3_4 A W 19 hf) hc))
  refine oc0 (fun A W hx hf => ?_) ?_
  exact ok_or (q0 ?b3_1 A W 17 hf) (q1 ?b3_5 A W 20 hf)
  refine oc0 (fun A W hx hf => ?_) ?_
  exact ok_move (q0 ?b3_6 A W 21 hf)
  refine ocg 22 ?_ (fun A W hx hf => ?_) ?_
  rfl
  exact gd_f (q1 ?b3_6 A W 22 hf) (fun hc => ok_movE (a0 := a2) (r0 hf))
  refine ocg 22 ?_ (fun A W hx hf => ?_) ?_
  rfl
  exact gd_f (q1 ?b3_6 A W 22 hf) (fun hc => ok_len_rw Try.underlying40 (p2 s1 e_w hx (G.get (q0 ?b3_8 A W 23 hf) hc)))
  refine ocg 22 ?_ (fun A W hx hf => ?_) ?_
  rfl
  exact gd_f (q1 ?b3_6 A W 22 hf) (fun hc => ok_gtr (G.get (q0 ?b3_9 A W 24 hf) hc) (ec A (.int .i64 8)))
  refine oc0 (fun A W hx hf => ?_) ?_
  exact ok_or (q0 ?b3_6 A W 22 hf) (q1 ?b3_10 A W 25 hf)
  refine oc0 (fun A W hx hf => ?_) ?_
  exact ok_move (q0 ?b3_11 A W 26 hf)
  refine ocg 27 ?_ (fun A W hx hf => ?_) ?_
  rfl
  exact gd_f (q1 ?b3_11 A W 27 hf) (fun hc => ok_movE (a0 := a2) (r0 hf))
  refine ocg 27 ?_ (fun A W hx hf => ?_) ?_
  rfl
  exact gd_f (q1 ?b3_11 A W 27 hf) (fun hc => ok_len_bs Try.underlying22 (p2 s2 e_w hx (G.get (q0 ?b3_13 A W 28 hf) hc)))
  refine ocg 27 ?_ (fun A W hx hf => ?_) ?_
  rfl
  exact gd_f (q1 ?b3_11 A W 27 hf) (fun hc => ok_gtr (G.get (q0 ?b3_14 A W 29 hf) hc) (ec A (.int .i64 300)))
  refine oc0 (fun A W hx hf => ?_) ?_
  exact ok_or (q0 ?b3_11 A W 27 hf) (q1 ?b3_15 A W 30 hf)
  refine oc0 (fun A W hx hf => ?_) ?_
  exact ok_move (q0 ?b3_16 A W 31 hf)
  refine ocg 32 ?_ (fun A W hx hf => ?_) ?_
  rfl
  exact gd_f (q1 ?b3_16 A W 32 hf) (fun hc => ok_movE (a0 := a2) (r0 hf))
  refine ocg 32 ?_ (fun A W hx hf => ?_) ?_
  rfl
  exact gd_f (q1 ?b3_16 A W 32 hf) (fun hc => ok_len_bs Try.underlying22 (p2 s3 e_w hx (G.get (q0 ?b3_18 A W 33 hf) hc)))
  refine ocg 32 ?_ (fun A W hx hf => ?_) ?_
  rfl
  exact gd_f (q1 ?b3_16 A W 32 hf) (fun hc => ok_gtr (G.get (q0 ?b3_19 A W 34 hf) hc) (ec A (.int .i64 300)))
  refine oc0 (fun A W hx hf => ?_) ?_
  exact ok_or (q0 ?b3_16 A W 32 hf) (q1 ?b3_20 A W 35 hf)
  exact OpsOk.nil
 case t3 => exact inferInstance
 clear hr; intro a4 w4 x hr hd hs
 revert s4; revert s3; revert s2; revert s1; refine kp4 hs rfl ?_; intro s1 s2 s3 s4
 have s36 := fa ?b3_21 a4 w4 36 (hd 21 36 rfl)
 replace e_w := e_w.trans x
 have e_w2 := x
 clear hd hs x
 refine exit_then ?_
 refine wp_cond_split (show _ = _ from s36) (fun hg => ?_) (fun hg => ?_)
 · skip
   skip
   refine wp_seq ?_
   refine wp_reg 127 [[], [(37, some 0)]] [?b6_0, ?b6_0] mixed (by kernel_rfl) (by kernel_rfl) hr ?t6 ?o6 ?_
   case o6 =>
    refine oc0 (fun A W hx hf => ?_) ?_
    exact ok_call0 body9 (c_awake09 )
    refine oc0 (fun A W hx hf => ?_) ?_
    exact ok_assign (q0 ?b6_0 A W 37 hf)
    exact OpsOk.nil
   case t6 => exact inferInstance
   clear hr; intro a7 w7 x hr hd hs
   clear s1 s2 s3 s4 s36
   have s8 := fa ?b6_0 a7 w7 8 (hd 1 8 rfl)
   replace e_w := e_w.trans x
   clear e_w2
   clear hd hs x
   refine exit_then ?_
   refine wp_ret ?_
   refine then_ret ?_
   refine ret_tmp Try.results5 hr e_w ?_
   first | with_reducible exact s8 | exact Is.bool s8 (by simp; done)
 · skip
   obtain ⟨hr9, hl8, hm3, hr3⟩ := back_guard hg
   refine wp_skip ?_
   refine exit_then ?_
   refine wp_seq ?_
   refine wp_reg 127 [[]] [?b8_0] mixed (by kernel_rfl) (by kernel_rfl) hr ?t8 ?o8 ?_
   case o8 =>
    refine oc0 (fun A W hx hf => ?_) ?_
    exact ok_assignc
    exact OpsOk.nil
   case t8 => exact inferInstance
   clear hr; intro a9 w9 x hr hd hs
   revert s4; revert s3; revert s2; revert s1; refine kp4 hs rfl ?_; intro s1 s2 s3 s4
   clear s36
   have s9 := fa ?b8_0 a9 w9 9 (hd 0 9 rfl)
   replace e_w := e_w.trans x
   replace e_w2 := e_w2.trans x
   clear hd hs x
   refine exit_then ?_
   refine wp_seq ?_
   refine wp_reg_pre (l := [_, _]) (rest := [_, _]) 127 [[], [(1, none)]] [?b10_0, ?b10_1] (by kernel_rfl) (by kernel_rfl) hr ?t10 ?o10 ?_
   case o10 =>
    refine oc0 (fun A W hx hf => ?_) ?_
    exact ok_buildRw (R := extR) [] [] Try.underlying40 size43 zerom43 rfl rfl rfl (by decide) (PartsR.nil) hx.size
    refine oc0 (fun A W hx hf => ?_) ?_
    exact ok_movE (a0 := a9) (r0 hf)
    exact OpsOk.nil
   case t10 => exact inferInstance
   clear hr; intro a11 w11 x hr hd hs
   have z_w_w9 := e_w.size
   have z_w2_w9 := e_w2.size
   have l11_4 := PxS.lt (later e_w2 s4)
   have u39 := mv s1 (fa ?b10_1 a11 w11 39 (hd 1 39 rfl))
   revert s9; revert s4; revert s3; revert s2; revert s1; refine kp5 hs rfl ?_; intro s1 s2 s3 s4 s9
   have s39 := u39; clear u39
   have s38 := fa ?b10_0 a11 w11 38 (hd 0 38 rfl)
   obtain ⟨g11_38, q11_38⟩ := OwnR.at s38; clear s38; have n11_38 := OwnRA.lt q11_38
   replace q11_38 := OwnRA.mono q11_38 e_w.size
   have s38 := q11_38; clear q11_38
   replace e_w := e_w.trans x
   replace e_w2 := e_w2.trans x
   have e_w9 := x
   clear hd hs x
   have l12 := OwnRA.lt s38
   have l12_4 := PxS.lt (later e_w2 s4)
   refine wl_append_rwA hr (by decide) Try.underlying40 infom43 rfl s38 (later e_w s39) e_w.size (by first | (simp; omega) | (simp only [hwl]; omega)) ?_; clear hr; intro g12 a12 w12 hg12 hc hr hd hs
   have hb := hc.below e_w.size l12.1
   revert s9; revert s4; revert s3; revert s2; revert s1; refine kp5 hs rfl ?_; intro s1 s2 s3 s4 s9
   clear s39 s38
   replace s4 := PxS.other (later e_w2 s4) hc (by omega)
   have s40 := hd
   replace e_w := e_w.below (Nat.le_refl _) hb
   clear e_w2
   clear e_w9
   replace s9 := anyw (w2 := w12) s9
   clear hd hs hb hc
   refine wl_op hr (ok_assign s40) inferInstance ?_; clear hr; intro a13 w13 x hr hd hs
   revert s9; revert s4; revert s3; revert s2; revert s1; refine kp5 hs rfl ?_; intro s1 s2 s3 s4 s9
   clear s40
   have s10 := hd 10 rfl (by decide)
   replace e_w := e_w.trans x
   have e_w12 := x
   clear hd hs x
   refine wpList_nil ?_
   replace s10 := OwnRA.cast s10 (show _ = ownTo own6 l 0 from by rw [ownTo_0]; rfl)
   refine exit_then ?_
   refine wp_seq ?_
   refine wp_seq ?_
   refine wp_reg 127 [[]] [?b14_0] mixed (by kernel_rfl) (by kernel_rfl) hr ?t14 ?o14 ?_
   case o14 =>
    refine oc0 (fun A W hx hf => ?_) ?_
    exact ok_assignc
    exact OpsOk.nil
   case t14 => exact inferInstance
   clear hr; intro a15 w15 x hr hd hs
   revert s10; revert s9; revert s4; revert s3; revert s2; revert s1; refine kp6 hs rfl ?_; intro s1 s2 s3 s4 s9 s10
   have s11 := fa ?b14_0 a15 w15 11 (hd 0 11 rfl)
   replace e_w := e_w.trans x
   replace e_w12 := e_w12.trans x
   have e_w13 := x
   clear hd hs x
   refine exit_then ?_
   refine wp_block ?_
   refine wp_loop_inv (fun n A W => ∃ (i : Nat), n = l.length - i ∧ Fr 127 A ∧ Same D_law_SixBack_0 a15 A ∧ Ext w W ∧ (i ≤ l.length) ∧ (PxS g2_4 w.heap.size [1, 1, 1, 1, 1, 1, 1, 16, 1, 16] (sixS2 H) 0) (A.eval (.tmp 4)) W ∧ (Is (.int .i64 (lensE (l.take i) : Int))) (A.eval (.tmp 9)) W ∧ (OwnRA g12 w.heap.size 43 extR (ownTo own6 l i)) (A.eval (.tmp 10)) W ∧ (Is (.int .i64 (i : Int))) (A.eval (.tmp 11)) W) ?start16 ?_
   case start16 =>
    refine ⟨_, 0, rfl, hr, Same.rfl, e_w, (by first | assumption | omega), ?_, ?_, ?_, ?_⟩
    · exact (later e_w12 s4)
    · exact Is.int (later e_w12 s9) (by simp [lensE])
    · exact (later e_w13 s10)
    · first | exact s11 | exact Is.int s11 (by first | omega | simp) | exact Is.bool s11 (by first | omega | simp)
   intro n16 a16 w16 hI
   clear e_w
   clear e_w12
   clear e_w13
   clear hr; obtain ⟨i, hn16, hr, hs, e_w, hi, u4, u9, u10, u11⟩ := hI
   revert s3; revert s2; revert s1; refine kp3 hs rfl ?_; intro s1 s2 s3
   clear s4 s9 s10 s11
   have s4 := u4; clear u4
   have s9 := u9; clear u9
   have s10 := u10; clear u10
   have s11 := u11; clear u11
   have m16 := hs; clear hs
   refine wp_seq ?_
   refine wp_seq ?_
   refine wp_reg 127 [[(11, none)], [(1, none)], [(42, some 1)], [(41, some 0), (43, some 2)]] [?b17_0, ?b17_1, ?b17_2, ?b17_3] mixed (by kernel_rfl) (by kernel_rfl) hr ?t17 ?o17 ?_
   case o17 =>
    refine oc0 (fun A W hx hf => ?_) ?_
    exact ok_movE (a0 := a16) (r0 hf)
    refine oc0 (fun A W hx hf => ?_) ?_
    exact ok_movE (a0 := a16) (r0 hf)
    refine oc0 (fun A W hx hf => ?_) ?_
    exact ok_len_rw Try.underlying40 (p2 s1 e_w hx (q0 ?b17_1 A W 42 hf))
    refine oc0 (fun A W hx hf => ?_) ?_
    exact ok_lss (p1 s11 hx (q0 ?b17_0 A W 41 hf)) (q1 ?b17_2 A W 43 hf)
    exact OpsOk.nil
   case t17 => exact inferInstance
   clear hr; intro a18 w18 x hr hd hs
   revert s10; revert s9; revert s4; revert s3; revert s2; revert s1; refine kp6 hs rfl ?_; intro s1 s2 s3 s4 s9 s10
   revert s11; refine kp1 hs rfl ?_; intro s11
   have s44 := fa ?b17_3 a18 w18 44 (hd 3 44 rfl)
   replace e_w := e_w.trans x
   have e_w16 := x
   replace m16 := m16.tr hs rfl
   clear hd hs x
   refine exit_then ?_
   refine wp_cond_split (show _ = _ from s44) (fun hlt => ?_) (fun hlt => ?_)
   · skip
     have hlt : i < l.length := by simp at hlt; omega
     have hXo := hx9 _ (List.getElem_mem hlt)
     have hxi := ixE_lt (l[i]'hlt)
     have hxu := unitE_lt (l[i]'hlt)
     have hbl := lenE_bd (l[i]'hlt)
     obtain ⟨hxa, hxb⟩ := hXo
     have hle := lensE_le l i (by omega)
     have hst := lensE_step hlt
     refine wp_skip ?_
     refine exit_then ?_
     refine wp_seq ?_
     refine wp_block ?_
     refine wp_seq ?_
     refine wp_reg_pre (l := [_, _, _, _, _, _, _, _, _, _]) (rest := [_]) 127 [[(10, none)], [(11, none)], [(1, none)], [(11, none)], [(49, some 2), (50, some 3)], [(51, some 4)], [(52, some 5)], [(53, some 6)], [(47, some 0), (48, some 1)], [(55, some 8)]] [?b20_0, ?b20_1, ?b20_2, ?b20_3, ?b20_4, ?b20_5, ?b20_6, ?b20_7, ?b20_8, ?b20_9] (by kernel_rfl) (by kernel_rfl) hr ?t20 ?o20 ?_
     case o20 =>
      refine oc0 (fun A W hx hf => ?_) ?_
      exact ok_movE (a0 := a18) (r0 hf)
      refine oc0 (fun A W hx hf => ?_) ?_
      exact ok_movE (a0 := a18) (r0 hf)
      refine oc0 (fun A W hx hf => ?_) ?_
      exact ok_movE (a0 := a18) (r0 hf)
      refine oc0 (fun A W hx hf => ?_) ?_
      exact ok_movE (a0 := a18) (r0 hf)
      refine oc0 (fun A W hx hf => ?_) ?_
      exact ok_index_rw (_) Try.underlying40 size43 (p2 s1 e_w hx (q0 ?b20_2 A W 49 hf)) (p2 s11 e_w16 hx (q1 ?b20_3 A W 50 hf)) (by exact hlt)
      refine oc0 (fun A W hx hf => ?_) ?_
      exact ok_fieldAddr Try.underlying43 (i := 2) rfl size41 rfl (q0 ?b20_4 A W 51 hf)
      refine oc0 (fun A W hx hf => ?_) ?_
      exact ok_loadc Try.underlying41 rfl (q0 ?b20_5 A W 52 hf)
      refine oc0 (fun A W hx hf => ?_) ?_
      exact ok_andb (q0 ?b20_6 A W 53 hf) (ec A (.int .u16 6))
      refine oc0 (fun A W hx hf => ?_) ?_
      exact ok_indexR (_) Try.underlying40 size43 (p2 s10 e_w16 hx (q0 ?b20_0 A W 47 hf)) (p2 s11 e_w16 hx (q1 ?b20_1 A W 48 hf)) (by rw [ownTo_len]; exact hlt)
      refine oc0 (fun A W hx hf => ?_) ?_
      exact ok_fieldR Try.underlying43 (k := 2) rfl size41 rfl (q0 ?b20_8 A W 55 hf) (by decide)
      exact OpsOk.nil
     case t20 => exact inferInstance
     clear hr; intro a21 w21 x hr hd hs
     revert s10; revert s9; revert s4; revert s3; revert s2; revert s1; refine kp6 hs rfl ?_; intro s1 s2 s3 s4 s9 s10
     revert s11; refine kp1 hs rfl ?_; intro s11
     clear s44
     have s54 := fa ?b20_7 a21 w21 54 (hd 7 54 rfl)
     have s56 := fa ?b20_9 a21 w21 56 (hd 9 56 rfl)
     replace e_w := e_w.trans x
     replace e_w16 := e_w16.trans x
     replace m16 := m16.tr hs rfl
     clear hd hs x
     have z22 := EpR.lt s56
     have l22 := (show (g12 = 0 ∨ w.heap.size < g12) ∧ True from ⟨by omega, trivial⟩)
     have l22_4 := PxS.lt (later e_w16 s4)
     refine wl_storeR (own6 (l[i]'hlt)) hr size41 s56 s54 (by rfl) (by intro h; rw [ownTo_at hlt]; rfl) ?_; clear hr; intro a22 w22 hc hu hr hs
     have hb : Below w.heap.size w21 w22 := hc.below e_w.size l22.1
     revert s10; revert s9; revert s4; revert s3; revert s2; revert s1; refine kp6 hs rfl ?_; intro s1 s2 s3 s4 s9 s10
     revert s11; refine kp1 hs rfl ?_; intro s11
     clear s54 s56
     replace s4 := PxS.other (later e_w16 s4) hc (by omega)
     replace s10 := hu _ _ _ (later e_w16 s10)
     replace e_w := e_w.below (Nat.le_refl _) hb
     clear e_w16
     replace s9 := anyw (w2 := w22) s9
     replace s11 := anyw (w2 := w22) s11
     replace m16 := m16.tr hs rfl
     clear hu hs hc hb
     refine wpList_nil ?_
     replace s10 := OwnRA.cast s10 (ownTo_step hlt)
     refine exit_then ?_
     refine wp_seq ?_
     refine wp_reg 127 [[(9, none)], [(57, some 0)], [(58, some 1)]] [?b23_0, ?b23_1, ?b23_1] mixed (by kernel_rfl) (by kernel_rfl) hr ?t23 ?o23 ?_
     case o23 =>
      refine oc0 (fun A W hx hf => ?_) ?_
      exact ok_movE (a0 := a22) (r0 hf)
      refine oc0 (fun A W hx hf => ?_) ?_
      exact ok_addI (p1 s9 hx (q0 ?b23_0 A W 57 hf)) (ec A (.int .i64 8)) (by omega)
      refine oc0 (fun A W hx hf => ?_) ?_
      exact ok_assign (q0 ?b23_1 A W 58 hf)
      exact OpsOk.nil
     case t23 => exact inferInstance
     clear hr; intro a24 w24 x hr hd hs
     revert s10; revert s11; revert s4; revert s3; revert s2; revert s1; refine kp6 hs rfl ?_; intro s1 s2 s3 s4 s11 s10
     clear s9
     have s9 := fa ?b23_1 a24 w24 9 (hd 2 9 rfl)
     replace e_w := e_w.trans x
     have e_w22 := x
     replace m16 := m16.tr hs rfl
     clear hd hs x
     refine exit_then ?_
     refine wp_seq ?_
     refine wp_reg 127 [[], [(1, none)], [(11, none)], [(60, some 1), (61, some 2)], [(62, some 3)], [(63, some 4)], [(64, some 5)], [(65, some 6)], [(59, some 0), (66, some 7)], [(67, some 8)], [(68, some 9)]] [?b25_0, ?b25_1, ?b25_2, ?b25_3, ?b25_4, ?b25_5, ?b25_6, ?b25_7, ?b25_8, ?b25_9, ?b25_9] mixed (by kernel_rfl) (by kernel_rfl) hr ?t25 ?o25 ?_
     case o25 =>
      refine oc0 (fun A W hx hf => ?_) ?_
      exact ok_call0 body16 (c_kinds9 )
      refine oc0 (fun A W hx hf => ?_) ?_
      exact ok_movE (a0 := a24) (r0 hf)
      refine oc0 (fun A W hx hf => ?_) ?_
      exact ok_movE (a0 := a24) (r0 hf)
      refine oc0 (fun A W hx hf => ?_) ?_
      exact ok_index_rw (i) Try.underlying40 size43 (p2 s1 e_w hx (q0 ?b25_1 A W 60 hf)) (Is.int (p2 s11 e_w22 hx (q1 ?b25_2 A W 61 hf)) (by rfl)) (by omega)
      refine oc0 (fun A W hx hf => ?_) ?_
      exact ok_fieldAddr Try.underlying43 (i := 0) rfl size5 rfl (q0 ?b25_3 A W 62 hf)
      refine oc0 (fun A W hx hf => ?_) ?_
      exact ok_loadc Try.underlying5 rfl (q0 ?b25_4 A W 63 hf)
      refine oc0 (fun A W hx hf => ?_) ?_
      exact ok_rem (by decide) (q0 ?b25_5 A W 64 hf) (ec A (.int .u8 5))
      refine oc0 (fun A W hx hf => ?_) ?_
      exact ok_convI Try.underlying5 Try.underlying3 (by rw [kind_mod]; exact IntWalk.i64_in _ (by omega)) (q0 ?b25_6 A W 65 hf)
      refine oc0 (fun A W hx hf => ?_) ?_
      exact ok_index_ns (ixE (l[i]'hlt)) Try.underlying44 size3 (q0 ?b25_0 A W 59 hf) (Is.int (q1 ?b25_7 A W 66 hf) (by rw [kind_mod])) (by show _ < 5; omega)
      refine oc0 (fun A W hx hf => ?_) ?_
      exact ok_loadp Try.underlying3 rfl (q0 ?b25_8 A W 67 hf)
      refine oc0 (fun A W hx hf => ?_) ?_
      exact ok_assign (q0 ?b25_9 A W 68 hf)
      exact OpsOk.nil
     case t25 => exact inferInstance
     clear hr; intro a26 w26 x hr hd hs
     revert s10; revert s11; revert s4; revert s3; revert s2; revert s1; refine kp6 hs rfl ?_; intro s1 s2 s3 s4 s11 s10
     revert s9; refine kp1 hs rfl ?_; intro s9
     have s12 := fa ?b25_9 a26 w26 12 (hd 10 12 rfl)
     replace e_w := e_w.trans x
     replace e_w22 := e_w22.trans x
     have e_w24 := x
     replace m16 := m16.tr hs rfl
     clear hd hs x
     replace s12 := Is.int s12 (show _ = kindE (l[i]'hlt) from kindE_get _)
     refine exit_then ?_
     refine wp_seq ?_
     refine wp_reg 127 [[(12, none)], [(69, some 0)]] [?b27_0, ?b27_1] mixed (by kernel_rfl) (by kernel_rfl) hr ?t27 ?o27 ?_
     case o27 =>
      refine oc0 (fun A W hx hf => ?_) ?_
      exact ok_movE (a0 := a26) (r0 hf)
      refine oc0 (fun A W hx hf => ?_) ?_
      exact ok_eql (p1 s12 hx (q0 ?b27_0 A W 69 hf)) (ec A (.int .i64 51))
      exact OpsOk.nil
     case t27 => exact inferInstance
     clear hr; intro a28 w28 x hr hd hs
     revert s10; revert s11; revert s4; revert s3; revert s2; revert s1; refine kp6 hs rfl ?_; intro s1 s2 s3 s4 s11 s10
     revert s12; revert s9; refine kp2 hs rfl ?_; intro s9 s12
     have s70 := fa ?b27_1 a28 w28 70 (hd 1 70 rfl)
     replace e_w := e_w.trans x
     replace e_w22 := e_w22.trans x
     replace e_w24 := e_w24.trans x
     have e_w26 := x
     replace m16 := m16.tr hs rfl
     clear hd hs x
     refine exit_then ?_
     refine wp_cond_split (show _ = _ from s70) (fun h51 => ?_) (fun h51 => ?_)
     · skip
       have h51 : kindE (l[i]'hlt) = 51 := by simpa using h51
       refine wp_reg 127 [[(9, none)], [(1, none)], [(11, none)], [(72, some 1), (73, some 2)], [(74, some 3)], [(75, some 4)], [(76, some 5)], [(77, some 6)], [(78, some 7)], [(71, some 0), (79, some 8)], [(80, some 9)]] [?b30_0, ?b30_1, ?b30_2, ?b30_3, ?b30_4, ?b30_5, ?b30_6, ?b30_7, ?b30_8, ?b30_9, ?b30_9] mixed (by kernel_rfl) (by kernel_rfl) hr ?t30 ?o30 ?_
       case o30 =>
        refine oc0 (fun A W hx hf => ?_) ?_
        exact ok_movE (a0 := a28) (r0 hf)
        refine oc0 (fun A W hx hf => ?_) ?_
        exact ok_movE (a0 := a28) (r0 hf)
        refine oc0 (fun A W hx hf => ?_) ?_
        exact ok_movE (a0 := a28) (r0 hf)
        refine oc0 (fun A W hx hf => ?_) ?_
        exact ok_index_rw (_) Try.underlying40 size43 (p2 s1 e_w hx (q0 ?b30_1 A W 72 hf)) (p2 s11 e_w22 hx (q1 ?b30_2 A W 73 hf)) (by exact hlt)
        refine oc0 (fun A W hx hf => ?_) ?_
        exact ok_fieldAddr Try.underlying43 (i := 1) rfl size5 rfl (q0 ?b30_3 A W 74 hf)
        refine oc0 (fun A W hx hf => ?_) ?_
        exact ok_loadc Try.underlying5 rfl (q0 ?b30_4 A W 75 hf)
        refine oc0 (fun A W hx hf => ?_) ?_
        exact ok_rem (by decide) (q0 ?b30_5 A W 76 hf) (ec A (.int .u8 3))
        refine oc0 (fun A W hx hf => ?_) ?_
        exact ok_convI Try.underlying5 Try.underlying3 (by rw [unit_mod]; exact IntWalk.i64_in _ (by omega)) (q0 ?b30_6 A W 77 hf)
        refine oc0 (fun A W hx hf => ?_) ?_
        exact ok_mulI (ec A (.int .i64 4)) (q0 ?b30_7 A W 78 hf) (by rw [unit_mod]; omega)
        refine oc0 (fun A W hx hf => ?_) ?_
        exact ok_addI (p2 s9 e_w24 hx (q0 ?b30_0 A W 71 hf)) (q1 ?b30_8 A W 79 hf) (by rw [unit_mod]; omega)
        refine oc0 (fun A W hx hf => ?_) ?_
        exact ok_assign (q0 ?b30_9 A W 80 hf)
        exact OpsOk.nil
       case t30 => exact inferInstance
       clear hr; intro a31 w31 x hr hd hs
       revert s10; revert s11; revert s4; revert s3; revert s2; revert s1; refine kp6 hs rfl ?_; intro s1 s2 s3 s4 s11 s10
       clear s9 s12 s70
       have s9 := fa ?b30_9 a31 w31 9 (hd 10 9 rfl)
       replace e_w := e_w.trans x
       replace e_w22 := e_w22.trans x
       clear e_w24
       clear e_w26
       replace m16 := m16.tr hs rfl
       clear hd hs x
       refine blk_normal ?_
       refine exit_then ?_
       refine wp_reg 127 [[(11, none)], [(45, some 0)], [(46, some 1)]] [?b32_0, ?b32_1, ?b32_1] mixed (by kernel_rfl) (by kernel_rfl) hr ?t32 ?o32 ?_
       case o32 =>
        refine oc0 (fun A W hx hf => ?_) ?_
        exact ok_movE (a0 := a31) (r0 hf)
        refine oc0 (fun A W hx hf => ?_) ?_
        exact ok_addI (p2 s11 e_w22 hx (q0 ?b32_0 A W 45 hf)) (ec A (.int .i64 1)) (by omega)
        refine oc0 (fun A W hx hf => ?_) ?_
        exact ok_assign (q0 ?b32_1 A W 46 hf)
        exact OpsOk.nil
       case t32 => exact inferInstance
       clear hr; intro a33 w33 x hr hd hs
       revert s9; revert s10; revert s4; revert s3; revert s2; revert s1; refine kp6 hs rfl ?_; intro s1 s2 s3 s4 s10 s9
       clear s11
       have s11 := fa ?b32_1 a33 w33 11 (hd 2 11 rfl)
       replace e_w := e_w.trans x
       replace e_w22 := e_w22.trans x
       have e_w31 := x
       replace m16 := m16.tr hs rfl
       clear hd hs x
       refine exit_then ?_
       refine ⟨(fun (i : Nat) => l.length - i) (i + 1), ?_, ?_⟩
       · (try dsimp only); omega
       refine ⟨i + 1, rfl, hr, m16, e_w, (by first | assumption | omega), ?_, ?_, ?_, ?_⟩
       · exact (later e_w22 s4)
       · first | exact Is.int (later e_w31 s9) (by rw [unit_mod, hst]; have := len_51 h51; omega) | exact Is.int (later e_w31 s9) (by rw [unit_mod, hst]; have := len_8 h51 h44; omega) | exact Is.int (later e_w31 s9) (by rw [hst]; have := len_44 h51 h44; omega)
       · exact (later e_w22 s10)
       · first | exact s11 | exact Is.int s11 (by first | omega | simp) | exact Is.bool s11 (by first | omega | simp)
     · skip
       have h51 : kindE (l[i]'hlt) ≠ 51 := by simpa using h51
       refine wp_seq ?_
       refine wp_reg 127 [[(12, none)], [(81, some 0)]] [?b34_0, ?b34_1] mixed (by kernel_rfl) (by kernel_rfl) hr ?t34 ?o34 ?_
       case o34 =>
        refine oc0 (fun A W hx hf => ?_) ?_
        exact ok_movE (a0 := a28) (r0 hf)
        refine oc0 (fun A W hx hf => ?_) ?_
        exact ok_neq (p2 s12 e_w26 hx (q0 ?b34_0 A W 81 hf)) (ec A (.int .i64 44))
        exact OpsOk.nil
       case t34 => exact inferInstance
       clear hr; intro a35 w35 x hr hd hs
       revert s10; revert s11; revert s4; revert s3; revert s2; revert s1; refine kp6 hs rfl ?_; intro s1 s2 s3 s4 s11 s10
       revert s9; refine kp1 hs rfl ?_; intro s9
       clear s12 s70
       have s82 := fa ?b34_1 a35 w35 82 (hd 1 82 rfl)
       replace e_w := e_w.trans x
       replace e_w22 := e_w22.trans x
       replace e_w24 := e_w24.trans x
       clear e_w26
       replace m16 := m16.tr hs rfl
       clear hd hs x
       refine exit_then ?_
       refine wp_cond_split (show _ = _ from s82) (fun h44 => ?_) (fun h44 => ?_)
       · skip
         have h44 : kindE (l[i]'hlt) ≠ 44 := by simpa using h44
         refine wp_reg 127 [[(9, none)], [(1, none)], [(11, none)], [(84, some 1), (85, some 2)], [(86, some 3)], [(87, some 4)], [(88, some 5)], [(89, some 6)], [(90, some 7)], [(83, some 0), (91, some 8)], [(92, some 9)]] [?b37_0, ?b37_1, ?b37_2, ?b37_3, ?b37_4, ?b37_5, ?b37_6, ?b37_7, ?b37_8, ?b37_9, ?b37_9] mixed (by kernel_rfl) (by kernel_rfl) hr ?t37 ?o37 ?_
         case o37 =>
          refine oc0 (fun A W hx hf => ?_) ?_
          exact ok_movE (a0 := a35) (r0 hf)
          refine oc0 (fun A W hx hf => ?_) ?_
          exact ok_movE (a0 := a35) (r0 hf)
          refine oc0 (fun A W hx hf => ?_) ?_
          exact ok_movE (a0 := a35) (r0 hf)
          refine oc0 (fun A W hx hf => ?_) ?_
          exact ok_index_rw (_) Try.underlying40 size43 (p2 s1 e_w hx (q0 ?b37_1 A W 84 hf)) (p2 s11 e_w22 hx (q1 ?b37_2 A W 85 hf)) (by exact hlt)
          refine oc0 (fun A W hx hf => ?_) ?_
          exact ok_fieldAddr Try.underlying43 (i := 1) rfl size5 rfl (q0 ?b37_3 A W 86 hf)
          refine oc0 (fun A W hx hf => ?_) ?_
          exact ok_loadc Try.underlying5 rfl (q0 ?b37_4 A W 87 hf)
          refine oc0 (fun A W hx hf => ?_) ?_
          exact ok_rem (by decide) (q0 ?b37_5 A W 88 hf) (ec A (.int .u8 3))
          refine oc0 (fun A W hx hf => ?_) ?_
          exact ok_convI Try.underlying5 Try.underlying3 (by rw [unit_mod]; exact IntWalk.i64_in _ (by omega)) (q0 ?b37_6 A W 89 hf)
          refine oc0 (fun A W hx hf => ?_) ?_
          exact ok_mulI (ec A (.int .i64 8)) (q0 ?b37_7 A W 90 hf) (by rw [unit_mod]; omega)
          refine oc0 (fun A W hx hf => ?_) ?_
          exact ok_addI (p2 s9 e_w24 hx (q0 ?b37_0 A W 83 hf)) (q1 ?b37_8 A W 91 hf) (by rw [unit_mod]; omega)
          refine oc0 (fun A W hx hf => ?_) ?_
          exact ok_assign (q0 ?b37_9 A W 92 hf)
          exact OpsOk.nil
         case t37 => exact inferInstance
         clear hr; intro a38 w38 x hr hd hs
         revert s10; revert s11; revert s4; revert s3; revert s2; revert s1; refine kp6 hs rfl ?_; intro s1 s2 s3 s4 s11 s10
         clear s9 s82
         have s9 := fa ?b37_9 a38 w38 9 (hd 10 9 rfl)
         replace e_w := e_w.trans x
         replace e_w22 := e_w22.trans x
         clear e_w24
         replace m16 := m16.tr hs rfl
         clear hd hs x
         refine blk_normal ?_
         refine exit_then ?_
         refine wp_reg 127 [[(11, none)], [(45, some 0)], [(46, some 1)]] [?b39_0, ?b39_1, ?b39_1] mixed (by kernel_rfl) (by kernel_rfl) hr ?t39 ?o39 ?_
         case o39 =>
          refine oc0 (fun A W hx hf => ?_) ?_
          exact ok_movE (a0 := a38) (r0 hf)
          refine oc0 (fun A W hx hf => ?_) ?_
          exact ok_addI (p2 s11 e_w22 hx (q0 ?b39_0 A W 45 hf)) (ec A (.int .i64 1)) (by omega)
          refine oc0 (fun A W hx hf => ?_) ?_
          exact ok_assign (q0 ?b39_1 A W 46 hf)
          exact OpsOk.nil
         case t39 => exact inferInstance
         clear hr; intro a40 w40 x hr hd hs
         revert s9; revert s10; revert s4; revert s3; revert s2; revert s1; refine kp6 hs rfl ?_; intro s1 s2 s3 s4 s10 s9
         clear s11
         have s11 := fa ?b39_1 a40 w40 11 (hd 2 11 rfl)
         replace e_w := e_w.trans x
         replace e_w22 := e_w22.trans x
         have e_w38 := x
         replace m16 := m16.tr hs rfl
         clear hd hs x
         refine exit_then ?_
         refine ⟨(fun (i : Nat) => l.length - i) (i + 1), ?_, ?_⟩
         · (try dsimp only); omega
         refine ⟨i + 1, rfl, hr, m16, e_w, (by first | assumption | omega), ?_, ?_, ?_, ?_⟩
         · exact (later e_w22 s4)
         · first | exact Is.int (later e_w38 s9) (by rw [unit_mod, hst]; have := len_51 h51; omega) | exact Is.int (later e_w38 s9) (by rw [unit_mod, hst]; have := len_8 h51 h44; omega) | exact Is.int (later e_w38 s9) (by rw [hst]; have := len_44 h51 h44; omega)
         · exact (later e_w22 s10)
         · first | exact s11 | exact Is.int s11 (by first | omega | simp) | exact Is.bool s11 (by first | omega | simp)
       · skip
         have h44 : ¬ kindE (l[i]'hlt) ≠ 44 := by simpa using h44
         refine wp_skip ?_
         refine blk_normal ?_
         refine exit_then ?_
         refine wp_reg 127 [[(11, none)], [(45, some 0)], [(46, some 1)]] [?b41_0, ?b41_1, ?b41_1] mixed (by kernel_rfl) (by kernel_rfl) hr ?t41 ?o41 ?_
         case o41 =>
          refine oc0 (fun A W hx hf => ?_) ?_
          exact ok_movE (a0 := a35) (r0 hf)
          refine oc0 (fun A W hx hf => ?_) ?_
          exact ok_addI (p2 s11 e_w22 hx (q0 ?b41_0 A W 45 hf)) (ec A (.int .i64 1)) (by omega)
          refine oc0 (fun A W hx hf => ?_) ?_
          exact ok_assign (q0 ?b41_1 A W 46 hf)
          exact OpsOk.nil
         case t41 => exact inferInstance
         clear hr; intro a42 w42 x hr hd hs
         revert s9; revert s10; revert s4; revert s3; revert s2; revert s1; refine kp6 hs rfl ?_; intro s1 s2 s3 s4 s10 s9
         clear s11 s82
         have s11 := fa ?b41_1 a42 w42 11 (hd 2 11 rfl)
         replace e_w := e_w.trans x
         replace e_w22 := e_w22.trans x
         replace e_w24 := e_w24.trans x
         replace m16 := m16.tr hs rfl
         clear hd hs x
         refine exit_then ?_
         refine ⟨(fun (i : Nat) => l.length - i) (i + 1), ?_, ?_⟩
         · (try dsimp only); omega
         refine ⟨i + 1, rfl, hr, m16, e_w, (by first | assumption | omega), ?_, ?_, ?_, ?_⟩
         · exact (later e_w22 s4)
         · first | exact Is.int (later e_w24 s9) (by rw [unit_mod, hst]; have := len_51 h51; omega) | exact Is.int (later e_w24 s9) (by rw [unit_mod, hst]; have := len_8 h51 h44; omega) | exact Is.int (later e_w24 s9) (by rw [hst]; have := len_44 h51 h44; omega)
         · exact (later e_w22 s10)
         · first | exact s11 | exact Is.int s11 (by first | omega | simp) | exact Is.bool s11 (by first | omega | simp)
   · skip
     have hi0 : i = l.length := by simp at hlt; omega
     subst hi0
     refine wp_exit ?_
     refine then_exit ?_
     refine then_exit ?_
     refine blk_exit ?_
     refine exit_then ?_
     refine wp_seq ?_
     replace s10 := OwnRA.cast s10 (ownTo_all own6 l)
     have hwb := whole_back (l := l.map own6) (load := m) (more := r) hH hr9 (noFrag6 hx9) (by simp; omega) (by omega)
     have hlm6 := lensE_map (f := own6) (fun x => rfl) l
     have hwl := wholeE_len hH (l.map own6) m
     have hlb9 := lensE_bd l
     refine wp_reg_pre (l := [_, _, _, _, _]) (rest := [_, _, _, _, _, _, _, _]) 127 [[(4, none)], [(10, none)], [(2, none)], [(94, some 0), (95, some 1), (96, some 2)], [(3, none)]] [?b43_0, ?b43_1, ?b43_2, ?b43_3, ?b43_4] (by kernel_rfl) (by kernel_rfl) hr ?t43 ?o43 ?_
     case o43 =>
      refine oc0 (fun A W hx hf => ?_) ?_
      exact ok_loadAggS 10 Try.underlying28 rfl size28 (o2 s4 e_w16 hx (r0 hf)) rfl
      refine oc0 (fun A W hx hf => ?_) ?_
      exact ok_movE (a0 := a18) (r0 hf)
      refine oc0 (fun A W hx hf => ?_) ?_
      exact ok_movE (a0 := a18) (r0 hf)
      refine oc0 (fun A W hx hf => ?_) ?_
      exact ok_call3 body17 (c_whole9 (show Is (SixV H) _ _ from Is.conv (q0 ?b43_0 A W 94 hf) six_all) (OwnRA.rw (p2 s10 e_w16 hx (q1 ?b43_1 A W 95 hf))) (p2 s2 e_w hx (q2 ?b43_2 A W 96 hf)) (by exact hH) (by exact hr9) (by exact ext6_ok hx9) (by simp; omega) (by omega) hx.size)
      refine oc0 (fun A W hx hf => ?_) ?_
      exact ok_movE (a0 := a18) (r0 hf)
      exact OpsOk.nil
     case t43 => exact inferInstance
     clear hr; intro a44 w44 x hr hd hs
     have z_w_w18 := e_w.size
     have z_w16_w18 := e_w16.size
     have l44_4 := PxS.lt (later e_w16 s4)
     have l44_10 := OwnRA.lt (later e_w16 s10)
     have u98 := mv s3 (fa ?b43_4 a44 w44 98 (hd 4 98 rfl))
     revert s9; revert s4; revert s2; revert s1; refine kp4 hs rfl ?_; intro s1 s2 s4 s9
     clear s3 s11 s44 s10
     have s98 := u98; clear u98
     have s97 := fa ?b43_3 a44 w44 97 (hd 3 97 rfl)
     obtain ⟨g44_97, q44_97⟩ := OwnB.at s97; clear s97; have n44_97 := OwnBA.lt q44_97
     replace q44_97 := OwnBA.mono q44_97 e_w.size
     have s97 := q44_97; clear q44_97
     replace e_w := e_w.trans x
     replace e_w16 := e_w16.trans x
     clear hd hs x
     have l45 := OwnBA.lt s97
     have l45_4 := PxS.lt (later e_w16 s4)
     refine wl_append_bsA hr (by decide) Try.underlying22 info5 rfl s97 (later e_w s98) e_w.size (by first | (simp; omega) | (simp only [hwl]; omega)) ?_; clear hr; intro g45 a45 w45 hg45 hc hr hd hs
     have hb := hc.below e_w.size l45.1
     revert s9; revert s4; revert s2; revert s1; refine kp4 hs rfl ?_; intro s1 s2 s4 s9
     clear s98 s97
     replace s4 := PxS.other (later e_w16 s4) hc (by omega)
     have s99 := hd
     replace e_w := e_w.below (Nat.le_refl _) hb
     clear e_w16
     replace s9 := anyw (w2 := w45) s9
     clear hd hs hb hc
     refine wl_op hr (ok_call1 body10 (c_xRead (OwnBA.bs s99))) inferInstance ?_; clear hr; intro a46 w46 x hr hd hs
     revert s9; revert s4; revert s2; revert s1; refine kp4 hs rfl ?_; intro s1 s2 s4 s9
     clear s99
     have s100 := hd 100 rfl (by decide)
     replace e_w := e_w.trans x
     have e_w45 := x
     clear hd hs x
     refine wl_op hr (ok_move s100) inferInstance ?_; clear hr; intro a47 w47 x hr hd hs
     revert s9; revert s4; revert s2; revert s1; refine kp4 hs rfl ?_; intro s1 s2 s4 s9
     clear s100
     have s93 := hd 93 rfl (by decide)
     replace e_w := e_w.trans x
     replace e_w45 := e_w45.trans x
     clear hd hs x
     refine wl_op hr (ok_ext0 s93) inferInstance ?_; clear hr; intro a48 w48 x hr hd hs
     revert s93; revert s9; revert s4; revert s2; revert s1; refine kp5 hs rfl ?_; intro s1 s2 s4 s9 s93
     have s101 := hd 101 rfl (by decide)
     replace e_w := e_w.trans x
     replace e_w45 := e_w45.trans x
     have e_w47 := x
     clear hd hs x
     refine wl_op hr (ok_ext1 (later e_w47 s93)) inferInstance ?_; clear hr; intro a49 w49 x hr hd hs
     revert s101; revert s9; revert s4; revert s2; revert s1; refine kp5 hs rfl ?_; intro s1 s2 s4 s9 s101
     clear s93
     have s102 := hd 102 rfl (by decide)
     replace e_w := e_w.trans x
     replace e_w45 := e_w45.trans x
     clear e_w47
     have e_w48 := x
     clear hd hs x
     have l50_4 := PxS.lt (later e_w45 s4)
     refine wl_op hr (ok_allocS [(sixS six0).flatten] [40] zerov28 (by rfl) (by rfl) (Nat.le_refl _)) inferInstance ?_; clear hr; intro a50 w50 x hr hd hs
     revert s102; revert s101; revert s9; revert s4; revert s2; revert s1; refine kp6 hs rfl ?_; intro s1 s2 s4 s9 s101 s102
     have s13 := hd 13 rfl (by decide)
     obtain ⟨g50_13, q50_13⟩ := PxN.at s13; clear s13; have n50_13 := PxS.lt q50_13
     replace q50_13 := PxS.mono q50_13 e_w.size
     have s13 := q50_13; clear q50_13
     replace e_w := e_w.trans x
     replace e_w45 := e_w45.trans x
     replace e_w48 := e_w48.trans x
     have e_w49 := x
     clear hd hs x
     have z51 := PxS.lt s13
     have l51 := (show (g50_13 = 0 ∨ w.heap.size < g50_13) ∧ True from ⟨by omega, trivial⟩)
     have l51_4 := PxS.lt (later e_w45 s4)
     refine wl_storeSn hr size28 s13 (later e_w48 s101) (by exact six_len (sixRead_ok _)) (by exact six_one) rfl ?_; clear hr; intro a51 w51 hc hu hr hs
     have hb : Below w.heap.size w50 w51 := hc.below e_w.size l51.1
     revert s13; revert s102; revert s9; revert s4; revert s2; revert s1; refine kp6 hs rfl ?_; intro s1 s2 s4 s9 s102 s13
     clear s101
     replace s4 := PxS.other (later e_w45 s4) hc (by omega)
     replace s13 := hu _ _ _ s13
     try simp only [List.set_cons_zero, List.set_cons_succ] at s13
     replace e_w := e_w.below (Nat.le_refl _) hb
     clear e_w45
     clear e_w48
     clear e_w49
     replace s9 := anyw (w2 := w51) s9
     replace s102 := anyw (w2 := w51) s102
     clear hu hs hc hb
     refine wl_op hr (ok_assign s102) inferInstance ?_; clear hr; intro a52 w52 x hr hd hs
     revert s9; revert s13; revert s4; revert s2; revert s1; refine kp5 hs rfl ?_; intro s1 s2 s4 s13 s9
     clear s102
     have s14 := hd 14 rfl (by decide)
     replace e_w := e_w.trans x
     have e_w51 := x
     clear hd hs x
     refine wpList_nil ?_
     replace s14 := Is.int s14 (show _ = (0 : Int) from by rw [hwb])
     refine exit_then ?_
     refine wp_seq ?_
     refine wp_reg 127 [[(14, none)], [(103, some 0)], [(104, some 1)], [(13, none), (105, some 2)], [(9, none), (105, some 2)], [(107, some 4), (105, some 2)], [(9, none), (105, some 2)], [(109, some 6), (105, some 2)], [(2, none), (105, some 2)], [(111, some 8), (105, some 2)], [(110, some 7), (112, some 9), (105, some 2)], [(4, none), (105, some 2)], [(114, some 11), (105, some 2)], [(4, none), (105, some 2)], [(116, some 13), (105, some 2)], [(1, none), (105, some 2)], [(118, some 15), (105, some 2)], [(4, none), (105, some 2)], [(120, some 17), (105, some 2)], [(4, none), (105, some 2)], [(122, some 19), (105, some 2)], [(108, some 5), (113, some 10), (115, some 12), (117, some 14), (119, some 16), (121, some 18), (123, some 20), (105, some 2)], [(106, some 3), (124, some 21), (105, some 2)], [(105, some 2), (125, some 22)], [(126, some 23)]] [?b53_0, ?b53_1, ?b53_1, ?b53_3, ?b53_4, ?b53_5, ?b53_6, ?b53_7, ?b53_8, ?b53_9, ?b53_10, ?b53_11, ?b53_12, ?b53_13, ?b53_14, ?b53_15, ?b53_16, ?b53_17, ?b53_18, ?b53_19, ?b53_20, ?b53_21, ?b53_22, ?b53_23, ?b53_23] mixed (by kernel_rfl) (by kernel_rfl) hr ?t53 ?o53 ?_
     case o53 =>
      refine oc0 (fun A W hx hf => ?_) ?_
      exact ok_movE (a0 := a52) (r0 hf)
      refine oc0 (fun A W hx hf => ?_) ?_
      exact ok_eql (p1 s14 hx (q0 ?b53_0 A W 103 hf)) (ec A (.int .i64 0))
      refine oc0 (fun A W hx hf => ?_) ?_
      exact ok_move (q0 ?b53_1 A W 104 hf)
      refine ocg 105 ?_ (fun A W hx hf => ?_) ?_
      rfl
      exact gd_t (q1 ?b53_1 A W 105 hf) (fun hc => ok_loadSeg Try.underlying28 rfl size28 (o2 s13 e_w51 hx (r0 hf)) rfl rfl)
      refine ocg 105 ?_ (fun A W hx hf => ?_) ?_
      rfl
      exact gd_t (q1 ?b53_1 A W 105 hf) (fun hc => ok_movE (a0 := a52) (r0 hf))
      refine ocg 105 ?_ (fun A W hx hf => ?_) ?_
      rfl
      exact gd_t (q1 ?b53_1 A W 105 hf) (fun hc => ok_addI (ec A (.int .i64 40)) (p2 s9 e_w51 hx (G.get (q0 ?b53_4 A W 107 hf) hc)) (by rw [List.take_length]; omega))
      refine ocg 105 ?_ (fun A W hx hf => ?_) ?_
      rfl
      exact gd_t (q1 ?b53_1 A W 105 hf) (fun hc => ok_movE (a0 := a52) (r0 hf))
      refine ocg 105 ?_ (fun A W hx hf => ?_) ?_
      rfl
      exact gd_t (q1 ?b53_1 A W 105 hf) (fun hc => ok_addI (ec A (.int .i64 40)) (p2 s9 e_w51 hx (G.get (q0 ?b53_6 A W 109 hf) hc)) (by rw [List.take_length]; omega))
      refine ocg 105 ?_ (fun A W hx hf => ?_) ?_
      rfl
      exact gd_t (q1 ?b53_1 A W 105 hf) (fun hc => ok_movE (a0 := a52) (r0 hf))
      refine ocg 105 ?_ (fun A W hx hf => ?_) ?_
      rfl
      exact gd_t (q1 ?b53_1 A W 105 hf) (fun hc => ok_len_bs Try.underlying22 (p2 s2 e_w hx (G.get (q0 ?b53_8 A W 111 hf) hc)))
      refine ocg 105 ?_ (fun A W hx hf => ?_) ?_
      rfl
      exact gd_t (q2 ?b53_1 A W 105 hf) (fun hc => ok_addI (G.get (q0 ?b53_7 A W 110 hf) hc) (G.get (q1 ?b53_9 A W 112 hf) hc) (by rw [List.take_length]; omega))
      refine ocg 105 ?_ (fun A W hx hf => ?_) ?_
      rfl
      exact gd_t (q1 ?b53_1 A W 105 hf) (fun hc => ok_fieldS 2 Try.underlying28 (k := 2) rfl size3 rfl (o2 s4 e_w51 hx (r0 hf)) rfl)
      refine ocg 105 ?_ (fun A W hx hf => ?_) ?_
      rfl
      exact gd_t (q1 ?b53_1 A W 105 hf) (fun hc => ok_loadS Try.underlying3 rfl (G.get (q0 ?b53_11 A W 114 hf) hc) rfl)
      refine ocg 105 ?_ (fun A W hx hf => ?_) ?_
      rfl
      exact gd_t (q1 ?b53_1 A W 105 hf) (fun hc => ok_fieldS 5 Try.underlying28 (k := 5) rfl size3 rfl (o2 s4 e_w51 hx (r0 hf)) rfl)
      refine ocg 105 ?_ (fun A W hx hf => ?_) ?_
      rfl
      exact gd_t (q1 ?b53_1 A W 105 hf) (fun hc => ok_loadS Try.underlying3 rfl (G.get (q0 ?b53_13 A W 116 hf) hc) rfl)
      refine ocg 105 ?_ (fun A W hx hf => ?_) ?_
      rfl
      exact gd_t (q1 ?b53_1 A W 105 hf) (fun hc => ok_movE (a0 := a52) (r0 hf))
      refine ocg 105 ?_ (fun A W hx hf => ?_) ?_
      rfl
      exact gd_t (q1 ?b53_1 A W 105 hf) (fun hc => ok_len_rw Try.underlying40 (p2 s1 e_w hx (G.get (q0 ?b53_15 A W 118 hf) hc)))
      refine ocg 105 ?_ (fun A W hx hf => ?_) ?_
      rfl
      exact gd_t (q1 ?b53_1 A W 105 hf) (fun hc => ok_fieldS 6 Try.underlying28 (k := 6) rfl size26 rfl (o2 s4 e_w51 hx (r0 hf)) rfl)
      refine ocg 105 ?_ (fun A W hx hf => ?_) ?_
      rfl
      exact gd_t (q1 ?b53_1 A W 105 hf) (fun hc => ok_loadAggS 8 Try.underlying26 rfl size26 (G.get (q0 ?b53_17 A W 120 hf) hc) rfl)
      refine ocg 105 ?_ (fun A W hx hf => ?_) ?_
      rfl
      exact gd_t (q1 ?b53_1 A W 105 hf) (fun hc => ok_fieldS 8 Try.underlying28 (k := 7) rfl size26 rfl (o2 s4 e_w51 hx (r0 hf)) rfl)
      refine ocg 105 ?_ (fun A W hx hf => ?_) ?_
      rfl
      exact gd_t (q1 ?b53_1 A W 105 hf) (fun hc => ok_loadAggS 10 Try.underlying26 rfl size26 (G.get (q0 ?b53_19 A W 122 hf) hc) rfl)
      refine ocg 105 ?_ (fun A W hx hf => ?_) ?_
      rfl
      exact gd_t (q7 ?b53_1 A W 105 hf) (fun hc => ok_buildS [(0, (.tmp 108)), (1, (.tmp 113)), (2, (.tmp 115)), (5, (.tmp 117)), (4, (.tmp 119)), (6, (.tmp 121)), (7, (.tmp 123))] [(0, _), (1, _), (2, _), (5, _), (4, _), (6, _), (7, _)] lay28 rfl (PartsC.one (G.get (q0 ?b53_5 A W 108 hf) hc) rfl (PartsC.one (G.get (q1 ?b53_10 A W 113 hf) hc) rfl (PartsC.one (G.get (q2 ?b53_12 A W 115 hf) hc) rfl (PartsC.one (G.get (q3 ?b53_14 A W 117 hf) hc) rfl (PartsC.one (G.get (q4 ?b53_16 A W 119 hf) hc) rfl (PartsC.agg (G.get (q5 ?b53_18 A W 121 hf) hc) (PartsC.agg (G.get (q6 ?b53_20 A W 123 hf) hc) (PartsC.nil)))))))) (by simp [sixS2, hs16, hd16]))
      refine ocg 105 ?_ (fun A W hx hf => ?_) ?_
      rfl
      exact gd_t (q2 ?b53_1 A W 105 hf) (fun hc => ok_eqself eqg28 (eq_six (sixRead_ok _)) (G.get (q0 ?b53_3 A W 106 hf) hc) (Is.conv (G.get (q1 ?b53_21 A W 124 hf) hc) (show _ = SixV (sixRead (wholeE H (l.map own6) m ++ r)).1 from by rw [hwb, List.take_length]; show _ = SixV (⟨40 + (lensE (l.map own6) : Int), 40 + (lensE (l.map own6) : Int) + (m.length : Int), H.hop, false, ((l.map own6).length : Int), H.proto, H.src, H.dst⟩ : SixL); rw [hlm6, List.length_map]; simp [SixV, sixS, adrCells, setAll, sixS2])))
      refine oc0 (fun A W hx hf => ?_) ?_
      exact ok_and (q0 ?b53_1 A W 105 hf) (q1 ?b53_22 A W 125 hf)
      refine oc0 (fun A W hx hf => ?_) ?_
      exact ok_assign (q0 ?b53_23 A W 126 hf)
      exact OpsOk.nil
     case t53 => repeat (first | exact stb_nil | refine stb_cons ?_)
     clear hr; intro a54 w54 x hr hd hs
     clear s1 s2 s4 s13 s9 s14
     have s8 := fa ?b53_23 a54 w54 8 (hd 24 8 rfl)
     replace e_w := e_w.trans x
     clear e_w51
     clear hd hs x
     refine exit_then ?_
     refine wp_ret ?_
     refine ret_tmp Try.results5 hr e_w ?_
     first | with_reducible exact s8 | exact Is.bool s8 (by simp; done)

end Go.Proofs.Ytdohlcakoamdhaa
