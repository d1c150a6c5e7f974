import Derived.Test.YtehhjmcdpcilfaaA08
namespace Go.Proofs.Ytehhjmcdpcilfaa
open Go.RowKit
set_option linter.unusedVariables false
set_option maxRecDepth 4000
def D_law_FourSpoilt_0 : List Tmp := [9, 38, 39, 40, 41, 42, 43]
theorem law_FourSpoilt {x0 x1 x2 : Value} {w : World} {H : FourL} {z : Int} {c : UInt8} (h0 : (Is (FourV H)) x0 w) (h1 : (Is (.int .u8 z)) x1 w) (h2 : (ByteIs c) x2 w) (hH : FourOk H) (hz : 0 ≤ z ∧ z ≤ 255) :
    Calls Try.prog 6 #[x0, x1, x2] w (Ret (Is (.bool true)) w) := by
 have hs16 := hH.1
 have hd16 := hH.2
 have hpl := fourPut_len hH
 obtain ⟨K, hK, hKl⟩ := tmod_lt (a := z) (n := 20) hz.1 (by omega)
 refine enter Try.func6 rfl Try.ntmps6 (k := 3) rfl (by decide) (fun a0 hr hargs => ?_)
 have s0 := sarg h0 (hargs 0 (by decide))
 have s1 := sarg h1 (hargs 1 (by decide))
 have s2 := sarg h2 (hargs 2 (by decide))
 clear hargs
 refine wp_seq ?_
 refine wp_reg 93 [[(0, none)], []] [?b1_0, ?b1_1] mixed (by kernel_rfl) (by kernel_rfl) hr ?t1 ?o1 ?_
 case o1 =>
  refine oc0 (fun A W hx hf => ?_) ?_
  exact ok_boxS (fourS2 H) [1, 1, 1, 1, 1, 1, 1, 1, 1, 16, 1, 16] (o1 s0 hx (r0 hf)) (by exact fourS2_lens hH) hx.size
  refine oc0 (fun A W hx hf => ?_) ?_
  exact ok_assignc
  exact OpsOk.nil
 case t1 => exact inferInstance
 clear hr; intro a2 w2 x hr hd hs
 revert s1 s2; refine kp2 hs rfl ?_; intro s1 s2
 clear s0
 have s3 := fa ?b1_0 a2 w2 3 (hd 0 3 rfl)
 obtain ⟨g2_3, q2_3⟩ := PxN.at s3; clear s3; have n2_3 := PxS.lt q2_3
 have s3 := q2_3; clear q2_3
 have e_w := x
 clear hd hs x
 refine exit_then ?_
 refine wp_seq ?_
 refine wp_seq ?_
 refine wp_reg 93 [[], [(13, some 0)], [(14, some 1)], [(3, none), (15, some 2)], [(16, some 3), (15, some 2)], [(17, some 4), (15, some 2)], [(15, some 2), (18, some 5)], [(19, some 6)], [(2, none), (20, some 7)], [(21, some 8), (20, some 7)], [(20, some 7), (22, some 9)]] [?b3_0, ?b3_1, ?b3_1, ?b3_3, ?b3_4, ?b3_5, ?b3_6, ?b3_6, ?b3_8, ?b3_9, ?b3_10] mixed (by kernel_rfl) (by kernel_rfl) hr ?t3 ?o3 ?_
 case o3 =>
  refine oc0 (fun A W hx hf => ?_) ?_
  exact ok_call0 body9 (c_awake08 )
  refine oc0 (fun A W hx hf => ?_) ?_
  exact ok_not (q0 ?b3_0 A W 13 hf)
  refine oc0 (fun A W hx hf => ?_) ?_
  exact ok_move (q0 ?b3_1 A W 14 hf)
  refine ocg 15 ?_ (fun A W hx hf => ?_) ?_
  rfl
  exact gd_f (q1 ?b3_1 A W 15 hf) (fun hc => ok_fieldS 1 Try.underlying28 (k := 1) rfl size3 rfl (o1 s3 hx (r0 hf)) rfl)
  refine ocg 15 ?_ (fun A W hx hf => ?_) ?_
  rfl
  exact gd_f (q1 ?b3_1 A W 15 hf) (fun hc => ok_loadS Try.underlying3 rfl (G.get (q0 ?b3_3 A W 16 hf) hc) rfl)
  refine ocg 15 ?_ (fun A W hx hf => ?_) ?_
  rfl
  exact gd_f (q1 ?b3_1 A W 15 hf) (fun hc => ok_gtr (G.get (q0 ?b3_4 A W 17 hf) hc) (ec A (.int .i64 1000)))
  refine oc0 (fun A W hx hf => ?_) ?_
  exact ok_or (q0 ?b3_1 A W 15 hf) (q1 ?b3_5 A W 18 hf)
  refine oc0 (fun A W hx hf => ?_) ?_
  exact ok_move (q0 ?b3_6 A W 19 hf)
  refine ocg 20 ?_ (fun A W hx hf => ?_) ?_
  rfl
  exact gd_f (q1 ?b3_6 A W 20 hf) (fun hc => ok_movE (a0 := a2) (r0 hf))
  refine ocg 20 ?_ (fun A W hx hf => ?_) ?_
  rfl
  exact gd_f (q1 ?b3_6 A W 20 hf) (fun hc => ok_eql (p2 s2 e_w hx (G.get (q0 ?b3_8 A W 21 hf) hc)) (ec A (.int .u8 0)))
  refine oc0 (fun A W hx hf => ?_) ?_
  exact ok_or (q0 ?b3_6 A W 20 hf) (q1 ?b3_9 A W 22 hf)
  exact OpsOk.nil
 case t3 => exact inferInstance
 clear hr; intro a4 w4 x hr hd hs
 revert s1 s2 s3; refine kp3 hs rfl ?_; intro s1 s2 s3
 have s23 := fa ?b3_10 a4 w4 23 (hd 10 23 rfl)
 replace e_w := e_w.trans x
 have e_w2 := x
 clear hd hs x
 refine exit_then ?_
 refine wp_cond_split (show _ = _ from s23) (fun hg => ?_) (fun hg => ?_)
 · skip
   skip
   refine wp_seq ?_
   refine wp_reg 93 [[], [(24, some 0)]] [?b6_0, ?b6_0] mixed (by kernel_rfl) (by kernel_rfl) hr ?t6 ?o6 ?_
   case o6 =>
    refine oc0 (fun A W hx hf => ?_) ?_
    exact ok_call0 body9 (c_awake08 )
    refine oc0 (fun A W hx hf => ?_) ?_
    exact ok_assign (q0 ?b6_0 A W 24 hf)
    exact OpsOk.nil
   case t6 => exact inferInstance
   clear hr; intro a7 w7 x hr hd hs
   clear s1 s2 s3 s23
   have s6 := fa ?b6_0 a7 w7 6 (hd 1 6 rfl)
   replace e_w := e_w.trans x
   clear e_w2
   clear hd hs x
   refine exit_then ?_
   refine wp_ret ?_
   refine then_ret ?_
   refine ret_tmp Try.results6 hr e_w ?_
   first | with_reducible exact s6 | exact Is.bool s6 (spo_end1 e0 hsp hc9) | exact Is.bool s6 (spo_end2 e0 hsp hc9) | exact Is.bool s6 (by simp [fourPutR, hr9]) | exact Is.bool s6 (by simp)
 · skip
   have hg : H.total ≤ 1000 ∧ c ≠ 0 := spo_guard hg
   refine wp_skip ?_
   refine exit_then ?_
   refine wp_seq ?_
   refine wp_reg 93 [[(3, none)], [(26, some 0)], [(27, some 1)], [(25, some 2)], [(25, some 2)], [(28, some 3)], [(29, some 4)]] [?b8_0, ?b8_1, ?b8_1, ?b8_3, ?b8_4, ?b8_3, ?b8_4] mixed (by kernel_rfl) (by kernel_rfl) hr ?t8 ?o8 ?_
   case o8 =>
    refine oc0 (fun A W hx hf => ?_) ?_
    exact ok_loadAggS 12 Try.underlying28 rfl size28 (o2 s3 e_w2 hx (r0 hf)) rfl
    refine oc0 (fun A W hx hf => ?_) ?_
    exact ok_call1 body12 (c_four_Put (show Is (FourV H) _ _ from (q0 ?b8_0 A W 26 hf)) (by exact hH) hx.size)
    refine oc0 (fun A W hx hf => ?_) ?_
    exact ok_move (q0 ?b8_1 A W 27 hf)
    refine oc0 (fun A W hx hf => ?_) ?_
    exact ok_ext0 (q0 ?b8_1 A W 25 hf)
    refine oc0 (fun A W hx hf => ?_) ?_
    exact ok_ext1 (q0 ?b8_1 A W 25 hf)
    refine oc0 (fun A W hx hf => ?_) ?_
    exact ok_assign (q0 ?b8_3 A W 28 hf)
    refine oc0 (fun A W hx hf => ?_) ?_
    exact ok_assign (q0 ?b8_4 A W 29 hf)
    exact OpsOk.nil
   case t8 => exact inferInstance
   clear hr; intro a9 w9 x hr hd hs
   have z_w_w4 := e_w.size
   have z_w2_w4 := e_w2.size
   have l9_3 := PxS.lt (later e_w2 s3)
   revert s1 s2; refine kp2 hs rfl ?_; intro s1 s2
   clear s3 s23
   have s7 := fa ?b8_3 a9 w9 7 (hd 5 7 rfl)
   have s8 := fa ?b8_4 a9 w9 8 (hd 6 8 rfl)
   obtain ⟨g9_7, q9_7⟩ := OwnB.at s7; clear s7; have n9_7 := OwnBA.lt q9_7
   replace q9_7 := OwnBA.mono q9_7 e_w.size
   have s7 := q9_7; clear q9_7
   replace e_w := e_w.trans x
   clear e_w2
   clear hd hs x
   refine exit_then ?_
   refine wp_seq ?_
   refine wp_seq ?_
   refine wp_reg 93 [[(8, none)], [(30, some 0)]] [?b10_0, ?b10_1] mixed (by kernel_rfl) (by kernel_rfl) hr ?t10 ?o10 ?_
   case o10 =>
    refine oc0 (fun A W hx hf => ?_) ?_
    exact ok_movE (a0 := a9) (r0 hf)
    refine oc0 (fun A W hx hf => ?_) ?_
    exact ok_neq (p1 s8 hx (q0 ?b10_0 A W 30 hf)) (ec A (.int .i64 0))
    exact OpsOk.nil
   case t10 => exact inferInstance
   clear hr; intro a11 w11 x hr hd hs
   revert s1 s2 s7; refine kp3 hs rfl ?_; intro s1 s2 s7
   clear s8
   have s31 := fa ?b10_1 a11 w11 31 (hd 1 31 rfl)
   replace e_w := e_w.trans x
   have e_w9 := x
   clear hd hs x
   refine exit_then ?_
   refine wp_cond_split (show _ = _ from s31) (fun hr9 => ?_) (fun hr9 => ?_)
   · skip
     have hr9 : fourRight H = false := putR_no hr9
     refine wp_seq ?_
     refine wp_reg 93 [[(7, none)], [(32, some 0)], [(33, some 1)], [(34, some 2)]] [?b13_0, ?b13_1, ?b13_2, ?b13_2] mixed (by kernel_rfl) (by kernel_rfl) hr ?t13 ?o13 ?_
     case o13 =>
      refine oc0 (fun A W hx hf => ?_) ?_
      exact ok_movE (a0 := a11) (r0 hf)
      refine oc0 (fun A W hx hf => ?_) ?_
      exact ok_len_bs Try.underlying22 (OwnBA.bs (p2 s7 e_w9 hx (q0 ?b13_0 A W 32 hf)))
      refine oc0 (fun A W hx hf => ?_) ?_
      exact ok_eql (q0 ?b13_1 A W 33 hf) (ec A (.int .i64 0))
      refine oc0 (fun A W hx hf => ?_) ?_
      exact ok_assign (q0 ?b13_2 A W 34 hf)
      exact OpsOk.nil
     case t13 => exact inferInstance
     clear hr; intro a14 w14 x hr hd hs
     clear s1 s2 s7 s31
     have s6 := fa ?b13_2 a14 w14 6 (hd 3 6 rfl)
     replace e_w := e_w.trans x
     clear e_w9
     clear hd hs x
     refine exit_then ?_
     refine wp_ret ?_
     refine then_ret ?_
     refine ret_tmp Try.results6 hr e_w ?_
     first | with_reducible exact s6 | exact Is.bool s6 (spo_end1 e0 hsp hc9) | exact Is.bool s6 (spo_end2 e0 hsp hc9) | exact Is.bool s6 (by simp [fourPutR, hr9]) | exact Is.bool s6 (by simp)
   · skip
     have hr9 : fourRight H = true := putR_yes hr9
     obtain ⟨k1, k2, k3, k4, k5, k6, k7⟩ := fourRight_bd hr9
     have hp1 : fourPutR H = (fourPut H, 0) := by unfold fourPutR; rw [if_pos hr9]
     replace s7 := OwnBA.cast s7 (show _ = fourPut H from by rw [hp1])
     refine wp_skip ?_
     refine exit_then ?_
     refine wp_seq ?_
     refine wp_reg_pre (l := [_, _]) (rest := [_, _]) 93 [[], [(7, none)]] [?b15_0, ?b15_1] (by kernel_rfl) (by kernel_rfl) hr ?t15 ?o15 ?_
     case o15 =>
      refine oc0 (fun A W hx hf => ?_) ?_
      exact ok_ownBs [] [] Try.underlying22 size5 zero5 rfl rfl (by decide) hx.size (PartsOk.nil)
      refine oc0 (fun A W hx hf => ?_) ?_
      exact ok_movE (a0 := a11) (r0 hf)
      exact OpsOk.nil
     case t15 => exact inferInstance
     clear hr; intro a16 w16 x hr hd hs
     have z_w_w11 := e_w.size
     have z_w9_w11 := e_w9.size
     have l16_7 := OwnBA.lt (later e_w9 s7)
     have u36 := mv s7 (fa ?b15_1 a16 w16 36 (hd 1 36 rfl))
     revert s1 s2; refine kp2 hs rfl ?_; intro s1 s2
     clear s7 s31
     have s36 := u36; clear u36
     have s35 := fa ?b15_0 a16 w16 35 (hd 0 35 rfl)
     obtain ⟨g16_35, q16_35⟩ := OwnB.at s35; clear s35; have n16_35 := OwnBA.lt q16_35
     replace q16_35 := OwnBA.mono q16_35 e_w.size
     have s35 := q16_35; clear q16_35
     replace e_w := e_w.trans x
     replace e_w9 := e_w9.trans x
     clear hd hs x
     have l17 := OwnBA.lt s35
     refine wl_append_bsA hr (by decide) Try.underlying22 info5 rfl s35 (OwnBA.bs (later e_w9 s36)) e_w.size (by first | (simp [hpl]; done) | (simp [hpl]; omega)) ?_; clear hr; intro g17 a17 w17 hg17 hc hr hd hs
     have hb := hc.below e_w.size l17.1
     revert s1 s2; refine kp2 hs rfl ?_; intro s1 s2
     clear s36 s35
     have s37 := hd
     replace e_w := e_w.below (Nat.le_refl _) hb
     clear e_w9
     clear hd hs hb hc
     refine wl_op hr (ok_assign s37) inferInstance ?_; clear hr; intro a18 w18 x hr hd hs
     revert s1 s2; refine kp2 hs rfl ?_; intro s1 s2
     clear s37
     have s9 := hd 9 rfl (by decide)
     replace e_w := e_w.trans x
     clear hd hs x
     refine wpList_nil ?_
     refine exit_then ?_
     refine wp_seq ?_
     refine wp_block ?_
     refine wp_loop_inv (fun n A W => ∃ (i β : Nat), n = 980 - i ∧ Fr 93 A ∧ Same D_law_FourSpoilt_0 a18 A ∧ Ext w W ∧ (i ≤ 980) ∧ (OwnBA β w.heap.size 5 (fourPut H ++ List.replicate i 0)) (A.eval (.tmp 9)) W) ?start19 ?_
     case start19 =>
      refine ⟨_, 0, g17, rfl, hr, Same.rfl, e_w, (by first | assumption | omega), ?_⟩
      · exact OwnBA.cast s9 (by simp)
     intro n19 a19 w19 hI
     clear e_w
     clear hr; obtain ⟨i, β, hn19, hr, hs, e_w, hi, u9⟩ := hI
     revert s1 s2; refine kp2 hs rfl ?_; intro s1 s2
     clear s9
     have s9 := u9; clear u9
     have m19 := hs; clear hs
     refine wp_seq ?_
     refine wp_seq ?_
     refine wp_reg 93 [[(9, none)], [(38, some 0)], [(39, some 1)]] [?b20_0, ?b20_1, ?b20_2] mixed (by kernel_rfl) (by kernel_rfl) hr ?t20 ?o20 ?_
     case o20 =>
      refine oc0 (fun A W hx hf => ?_) ?_
      exact ok_movE (a0 := a19) (r0 hf)
      refine oc0 (fun A W hx hf => ?_) ?_
      exact ok_len_bs Try.underlying22 (OwnBA.bs (p1 s9 hx (q0 ?b20_0 A W 38 hf)))
      refine oc0 (fun A W hx hf => ?_) ?_
      exact ok_lss (q0 ?b20_1 A W 39 hf) (ec A (.int .i64 1000))
      exact OpsOk.nil
     case t20 => exact inferInstance
     clear hr; intro a21 w21 x hr hd hs
     revert s1 s2 s9; refine kp3 hs rfl ?_; intro s1 s2 s9
     have s40 := fa ?b20_2 a21 w21 40 (hd 2 40 rfl)
     replace e_w := e_w.trans x
     have e_w19 := x
     replace m19 := m19.tr hs rfl
     clear hd hs x
     refine exit_then ?_
     refine wp_cond_split (show _ = _ from s40) (fun hlt => ?_) (fun hlt => ?_)
     · skip
       have hlt : i < 980 := by simp [hpl] at hlt; omega
       refine wp_skip ?_
       refine exit_then ?_
       refine wp_block ?_
       refine wp_reg_pre (l := [_, _]) (rest := [_, _]) 93 [[(9, none)], []] [?b23_0, ?b23_1] (by kernel_rfl) (by kernel_rfl) hr ?t23 ?o23 ?_
       case o23 =>
        refine oc0 (fun A W hx hf => ?_) ?_
        exact ok_movE (a0 := a21) (r0 hf)
        refine oc0 (fun A W hx hf => ?_) ?_
        exact ok_buildBs [(.const (.int .u8 0))] [_] Try.underlying22 size5 zero5 rfl rfl (by decide) (PartsOk.cons (show ByteIs 0 _ _ from rfl) (PartsOk.nil))
        exact OpsOk.nil
       case t23 => exact inferInstance
       clear hr; intro a24 w24 x hr hd hs
       have u41 := mv s9 (fa ?b23_0 a24 w24 41 (hd 0 41 rfl))
       revert s1 s2 s9; refine kp3 hs rfl ?_; intro s1 s2 s9
       clear s40
       have s41 := u41; clear u41
       have s42 := fa ?b23_1 a24 w24 42 (hd 1 42 rfl)
       replace e_w := e_w.trans x
       replace e_w19 := e_w19.trans x
       replace m19 := m19.tr hs rfl
       clear hd hs x
       have l25 := OwnBA.lt (later e_w19 s41)
       refine wl_append_bsA hr (by decide) Try.underlying22 info5 rfl (later e_w19 s41) s42 e_w.size (by first | (simp [hpl]; done) | (simp [hpl]; omega)) ?_; clear hr; intro g25 a25 w25 hg25 hc hr hd hs
       have hb := hc.below e_w.size l25.1
       revert s1 s2; refine kp2 hs rfl ?_; intro s1 s2
       clear s9 s41 s42
       have s43 := hd
       replace e_w := e_w.below (Nat.le_refl _) hb
       clear e_w19
       replace m19 := m19.tr hs rfl
       clear hd hs hb hc
       refine wl_op hr (ok_assign s43) inferInstance ?_; clear hr; intro a26 w26 x hr hd hs
       revert s1 s2; refine kp2 hs rfl ?_; intro s1 s2
       clear s43
       have s9 := hd 9 rfl (by decide)
       replace e_w := e_w.trans x
       replace m19 := m19.tr hs rfl
       clear hd hs x
       refine wpList_nil ?_
       refine blk_normal ?_
       refine exit_then ?_
       refine ⟨(fun (i β : Nat) => 980 - i) (i + 1) (0), ?_, ?_⟩
       · (try dsimp only); omega
       refine ⟨i + 1, g25, rfl, hr, m19, e_w, (by first | assumption | omega), ?_⟩
       · exact OwnBA.cast s9 (by rw [List.append_assoc, List.replicate_succ'])
     · skip
       have hlt : i = 980 := by simp [hpl] at hlt; omega
       subst hlt
       have hal : (fourPut H ++ List.replicate 980 0).length = 1000 := by simp [hpl]
       have hsp := four_spoilt hH (r := List.replicate 980 0) (k := K) (c := (fourPut H ++ List.replicate 980 0)[K]'(by omega) ^^^ c) hKl (xor_ne hg.2)
       obtain ⟨L, hL⟩ : ∃ L, L = (fourPut H ++ List.replicate 980 0).set K ((fourPut H ++ List.replicate 980 0)[K]'(by omega) ^^^ c) := ⟨_, rfl⟩
       have hLl : L.length = 1000 := by rw [hL, List.length_set, hal]
       rw [← hL] at hsp
       have e0 : (L[0]'(by omega)).toNat = byteAt L 0 := (byteAt_get (by omega)).symm
       have b0 := byteAt_bd L 0
       refine wp_exit ?_
       refine then_exit ?_
       refine then_exit ?_
       refine blk_exit ?_
       refine exit_then ?_
       refine wp_seq ?_
       refine wp_reg 93 [[(1, none)], [(44, some 0)], [(45, some 1)], [(46, some 2)]] [?b27_0, ?b27_1, ?b27_2, ?b27_2] mixed (by kernel_rfl) (by kernel_rfl) hr ?t27 ?o27 ?_
       case o27 =>
        refine oc0 (fun A W hx hf => ?_) ?_
        exact ok_movE (a0 := a21) (r0 hf)
        refine oc0 (fun A W hx hf => ?_) ?_
        exact ok_convI Try.underlying5 Try.underlying3 (by exact IntWalk.i64_in _ (by omega)) (p2 s1 e_w hx (q0 ?b27_0 A W 44 hf))
        refine oc0 (fun A W hx hf => ?_) ?_
        exact ok_rem (by decide) (q0 ?b27_1 A W 45 hf) (ec A (.int .i64 20))
        refine oc0 (fun A W hx hf => ?_) ?_
        exact ok_assign (q0 ?b27_2 A W 46 hf)
        exact OpsOk.nil
       case t27 => exact inferInstance
       clear hr; intro a28 w28 x hr hd hs
       revert s2 s9; refine kp2 hs rfl ?_; intro s2 s9
       clear s1 s40
       have s10 := fa ?b27_2 a28 w28 10 (hd 3 10 rfl)
       replace e_w := e_w.trans x
       replace e_w19 := e_w19.trans x
       clear hd hs x
       replace s10 := Is.int s10 hK
       refine exit_then ?_
       refine wp_seq ?_
       refine wp_reg_pre (l := [_, _, _, _, _, _, _, _, _]) (rest := [_]) 93 [[(9, none)], [(10, none)], [(9, none)], [(10, none)], [(49, some 2), (50, some 3)], [(51, some 4)], [(2, none)], [(52, some 5), (53, some 6)], [(47, some 0), (48, some 1)]] [?b29_0, ?b29_1, ?b29_2, ?b29_3, ?b29_4, ?b29_5, ?b29_6, ?b29_7, ?b29_8] (by kernel_rfl) (by kernel_rfl) hr ?t29 ?o29 ?_
       case o29 =>
        refine oc0 (fun A W hx hf => ?_) ?_
        exact ok_movE (a0 := a28) (r0 hf)
        refine oc0 (fun A W hx hf => ?_) ?_
        exact ok_movE (a0 := a28) (r0 hf)
        refine oc0 (fun A W hx hf => ?_) ?_
        exact ok_movE (a0 := a28) (r0 hf)
        refine oc0 (fun A W hx hf => ?_) ?_
        exact ok_movE (a0 := a28) (r0 hf)
        refine oc0 (fun A W hx hf => ?_) ?_
        exact ok_index_bs (_) Try.underlying22 size5 (OwnBA.bs (p2 s9 e_w19 hx (q0 ?b29_2 A W 49 hf))) (p1 s10 hx (q1 ?b29_3 A W 50 hf)) (by omega)
        refine oc0 (fun A W hx hf => ?_) ?_
        exact ok_loadp Try.underlying5 rfl (q0 ?b29_4 A W 51 hf)
        refine oc0 (fun A W hx hf => ?_) ?_
        exact ok_movE (a0 := a28) (r0 hf)
        refine oc0 (fun A W hx hf => ?_) ?_
        exact ok_xorb (q0 ?b29_5 A W 52 hf) (p2 s2 e_w hx (q1 ?b29_6 A W 53 hf))
        refine oc0 (fun A W hx hf => ?_) ?_
        exact ok_indexA (_) Try.underlying22 size5 (p2 s9 e_w19 hx (q0 ?b29_0 A W 47 hf)) (p1 s10 hx (q1 ?b29_1 A W 48 hf)) (by omega)
        exact OpsOk.nil
       case t29 => exact inferInstance
       clear hr; intro a30 w30 x hr hd hs
       revert s9 s10; refine kp2 hs rfl ?_; intro s9 s10
       clear s2
       have s54 := fa ?b29_7 a30 w30 54 (hd 7 54 rfl)
       have s55 := fa ?b29_8 a30 w30 55 (hd 8 55 rfl)
       replace e_w := e_w.trans x
       replace e_w19 := e_w19.trans x
       have e_w28 := x
       clear hd hs x
       have z31 := EpA.lt s55
       have l31 := (show (β = 0 ∨ w.heap.size < β) ∧ True from ⟨by omega, trivial⟩)
       refine wl_storeA hr size5 s55 (ByteIs.of s54 (by exact xor_bd _ _)) ?_; clear hr; intro a31 w31 hc hu hr hs
       have hb : Below w.heap.size w30 w31 := hc.below e_w.size l31.1
       revert s9 s10; refine kp2 hs rfl ?_; intro s9 s10
       clear s54 s55
       replace s9 := hu _ _ _ (later e_w19 s9)
       replace e_w := e_w.below (Nat.le_refl _) hb
       clear e_w19
       clear e_w28
       replace s10 := anyw (w2 := w31) s10
       clear hu hs hc hb
       refine wpList_nil ?_
       replace s9 := OwnBA.cast s9 (show _ = L from by rw [b8_xor]; exact hL.symm)
       refine exit_then ?_
       refine wp_seq ?_
       refine wp_reg_pre (l := [_, _, _, _, _, _]) (rest := [_, _]) 93 [[(9, none)], [(57, some 0)], [(58, some 1)], [(56, some 2)], [(56, some 2)], []] [?b32_0, ?b32_1, ?b32_1, ?b32_3, ?b32_4, ?b32_5] (by kernel_rfl) (by kernel_rfl) hr ?t32 ?o32 ?_
       case o32 =>
        refine oc0 (fun A W hx hf => ?_) ?_
        exact ok_movE (a0 := a31) (r0 hf)
        refine oc0 (fun A W hx hf => ?_) ?_
        exact ok_call1 body10 (c_four_Read (OwnBA.bs (p1 s9 hx (q0 ?b32_0 A W 57 hf))))
        refine oc0 (fun A W hx hf => ?_) ?_
        exact ok_move (q0 ?b32_1 A W 58 hf)
        refine oc0 (fun A W hx hf => ?_) ?_
        exact ok_ext0 (q0 ?b32_1 A W 56 hf)
        refine oc0 (fun A W hx hf => ?_) ?_
        exact ok_ext1 (q0 ?b32_1 A W 56 hf)
        refine oc0 (fun A W hx hf => ?_) ?_
        exact ok_allocS [(fourS four0).flatten] [42] zerov28 (by rfl) (by rfl) hx.size
        exact OpsOk.nil
       case t32 => exact inferInstance
       clear hr; intro a33 w33 x hr hd hs
       have z_w_w31 := e_w.size
       have l33_9 := OwnBA.lt s9
       revert s10 s9; refine kp2 hs rfl ?_; intro s10 s9
       have s59 := fa ?b32_3 a33 w33 59 (hd 3 59 rfl)
       have s60 := fa ?b32_4 a33 w33 60 (hd 4 60 rfl)
       have s11 := fa ?b32_5 a33 w33 11 (hd 5 11 rfl)
       obtain ⟨g33_11, q33_11⟩ := PxN.at s11; clear s11; have n33_11 := PxS.lt q33_11
       replace q33_11 := PxS.mono q33_11 e_w.size
       have s11 := q33_11; clear q33_11
       replace e_w := e_w.trans x
       have e_w31 := x
       clear hd hs x
       have z34 := PxS.lt s11
       have l34 := (show (g33_11 = 0 ∨ w.heap.size < g33_11) ∧ True from ⟨by omega, trivial⟩)
       have l34_9 := OwnBA.lt (later e_w31 s9)
       refine wl_storeSn hr size28 s11 s59 (by exact four_len (fourRead_ok _)) (by exact four_one) rfl ?_; clear hr; intro a34 w34 hc hu hr hs
       have hb : Below w.heap.size w33 w34 := hc.below e_w.size l34.1
       revert s10 s9 s60; refine kp3 hs rfl ?_; intro s10 s9 s60
       clear s59 s11
       replace s9 := OwnBA.other (later e_w31 s9) hc (by omega)
       replace e_w := e_w.below (Nat.le_refl _) hb
       clear e_w31
       replace s10 := anyw (w2 := w34) s10
       replace s60 := anyw (w2 := w34) s60
       clear hu hs hc hb
       refine wl_op hr (ok_assign s60) inferInstance ?_; clear hr; intro a35 w35 x hr hd hs
       revert s9 s10; refine kp2 hs rfl ?_; intro s9 s10
       clear s60
       have s12 := hd 12 rfl (by decide)
       replace e_w := e_w.trans x
       have e_w34 := x
       clear hd hs x
       refine wpList_nil ?_
       refine exit_then ?_
       refine wp_seq ?_
       refine wp_seq ?_
       refine wp_reg 93 [[(10, none)], [(61, some 0)], [(62, some 1)], [(9, none), (63, some 2)], [(64, some 3), (63, some 2)], [(65, some 4), (63, some 2)], [(66, some 5), (63, some 2)], [(67, some 6), (63, some 2)], [(63, some 2), (68, some 7)], [(69, some 8)], [(9, none), (70, some 9)], [(71, some 10), (70, some 9)], [(72, some 11), (70, some 9)], [(73, some 12), (70, some 9)], [(74, some 13), (70, some 9)], [(70, some 9), (75, some 14)]] [?b36_0, ?b36_1, ?b36_1, ?b36_3, ?b36_4, ?b36_5, ?b36_6, ?b36_7, ?b36_8, ?b36_8, ?b36_10, ?b36_11, ?b36_12, ?b36_13, ?b36_14, ?b36_15] mixed (by kernel_rfl) (by kernel_rfl) hr ?t36 ?o36 ?_
       case o36 =>
        refine oc0 (fun A W hx hf => ?_) ?_
        exact ok_movE (a0 := a35) (r0 hf)
        refine oc0 (fun A W hx hf => ?_) ?_
        exact ok_eql (p2 s10 e_w34 hx (q0 ?b36_0 A W 61 hf)) (ec A (.int .i64 0))
        refine oc0 (fun A W hx hf => ?_) ?_
        exact ok_move (q0 ?b36_1 A W 62 hf)
        refine ocg 63 ?_ (fun A W hx hf => ?_) ?_
        rfl
        exact gd_t (q1 ?b36_1 A W 63 hf) (fun hc => ok_movE (a0 := a35) (r0 hf))
        refine ocg 63 ?_ (fun A W hx hf => ?_) ?_
        rfl
        exact gd_t (q1 ?b36_1 A W 63 hf) (fun hc => ok_index_bs (0) Try.underlying22 size5 (OwnBA.bs (p2 s9 e_w34 hx (G.get (q0 ?b36_3 A W 64 hf) hc))) (ec A (.int .i64 0)) (by omega))
        refine ocg 63 ?_ (fun A W hx hf => ?_) ?_
        rfl
        exact gd_t (q1 ?b36_1 A W 63 hf) (fun hc => ok_loadp Try.underlying5 rfl (G.get (q0 ?b36_4 A W 65 hf) hc))
        refine ocg 63 ?_ (fun A W hx hf => ?_) ?_
        rfl
        exact gd_t (q1 ?b36_1 A W 63 hf) (fun hc => ok_quo (by decide) (G.get (q0 ?b36_5 A W 66 hf) hc) (ec A (.int .u8 16)))
        refine ocg 63 ?_ (fun A W hx hf => ?_) ?_
        rfl
        exact gd_t (q1 ?b36_1 A W 63 hf) (fun hc => ok_eql (G.get (q0 ?b36_6 A W 67 hf) hc) (ec A (.int .u8 4)))
        refine oc0 (fun A W hx hf => ?_) ?_
        exact ok_and (q0 ?b36_1 A W 63 hf) (q1 ?b36_7 A W 68 hf)
        refine oc0 (fun A W hx hf => ?_) ?_
        exact ok_move (q0 ?b36_8 A W 69 hf)
        refine ocg 70 ?_ (fun A W hx hf => ?_) ?_
        rfl
        exact gd_t (q1 ?b36_8 A W 70 hf) (fun hc => ok_movE (a0 := a35) (r0 hf))
        refine ocg 70 ?_ (fun A W hx hf => ?_) ?_
        rfl
        exact gd_t (q1 ?b36_8 A W 70 hf) (fun hc => ok_index_bs (0) Try.underlying22 size5 (OwnBA.bs (p2 s9 e_w34 hx (G.get (q0 ?b36_10 A W 71 hf) hc))) (ec A (.int .i64 0)) (by omega))
        refine ocg 70 ?_ (fun A W hx hf => ?_) ?_
        rfl
        exact gd_t (q1 ?b36_8 A W 70 hf) (fun hc => ok_loadp Try.underlying5 rfl (G.get (q0 ?b36_11 A W 72 hf) hc))
        refine ocg 70 ?_ (fun A W hx hf => ?_) ?_
        rfl
        exact gd_t (q1 ?b36_8 A W 70 hf) (fun hc => ok_rem (by decide) (G.get (q0 ?b36_12 A W 73 hf) hc) (ec A (.int .u8 16)))
        refine ocg 70 ?_ (fun A W hx hf => ?_) ?_
        rfl
        exact gd_t (q1 ?b36_8 A W 70 hf) (fun hc => ok_gtr (G.get (q0 ?b36_13 A W 74 hf) hc) (ec A (.int .u8 5)))
        refine oc0 (fun A W hx hf => ?_) ?_
        exact ok_and (q0 ?b36_8 A W 70 hf) (q1 ?b36_14 A W 75 hf)
        exact OpsOk.nil
       case t36 => exact inferInstance
       clear hr; intro a37 w37 x hr hd hs
       revert s9 s12; refine kp2 hs rfl ?_; intro s9 s12
       clear s10
       have s76 := fa ?b36_15 a37 w37 76 (hd 15 76 rfl)
       replace e_w := e_w.trans x
       replace e_w34 := e_w34.trans x
       have e_w35 := x
       clear hd hs x
       refine exit_then ?_
       refine wp_cond_split (show _ = _ from s76) (fun hc9 => ?_) (fun hc9 => ?_)
       · skip
         skip
         refine wp_seq ?_
         refine wp_reg 93 [[(12, none)], [(77, some 0)], [(78, some 1)], [(9, none), (79, some 2)], [(9, none), (79, some 2)], [(81, some 4), (79, some 2)], [(82, some 5), (79, some 2)], [(83, some 6), (79, some 2)], [(84, some 7), (79, some 2)], [(85, some 8), (79, some 2)], [(80, some 3), (86, some 9), (79, some 2)], [(87, some 10), (79, some 2)], [(88, some 11), (79, some 2)], [(79, some 2), (89, some 12)], [(90, some 13)]] [?b39_0, ?b39_1, ?b39_1, ?b39_3, ?b39_4, ?b39_5, ?b39_6, ?b39_7, ?b39_8, ?b39_9, ?b39_10, ?b39_11, ?b39_12, ?b39_13, ?b39_13] mixed (by kernel_rfl) (by kernel_rfl) hr ?t39 ?o39 ?_
         case o39 =>
          refine oc0 (fun A W hx hf => ?_) ?_
          exact ok_movE (a0 := a37) (r0 hf)
          refine oc0 (fun A W hx hf => ?_) ?_
          exact ok_neq (p2 s12 e_w35 hx (q0 ?b39_0 A W 77 hf)) (ec A (.int .i64 0))
          refine oc0 (fun A W hx hf => ?_) ?_
          exact ok_move (q0 ?b39_1 A W 78 hf)
          refine ocg 79 ?_ (fun A W hx hf => ?_) ?_
          rfl
          exact gd_f (q1 ?b39_1 A W 79 hf) (fun hc => ok_movE (a0 := a37) (r0 hf))
          refine ocg 79 ?_ (fun A W hx hf => ?_) ?_
          rfl
          exact gd_f (q1 ?b39_1 A W 79 hf) (fun hc => ok_movE (a0 := a37) (r0 hf))
          refine ocg 79 ?_ (fun A W hx hf => ?_) ?_
          rfl
          exact gd_f (q1 ?b39_1 A W 79 hf) (fun hc => ok_index_bs (0) Try.underlying22 size5 (OwnBA.bs (p2 s9 e_w34 hx (G.get (q0 ?b39_4 A W 81 hf) hc))) (ec A (.int .i64 0)) (by omega))
          refine ocg 79 ?_ (fun A W hx hf => ?_) ?_
          rfl
          exact gd_f (q1 ?b39_1 A W 79 hf) (fun hc => ok_loadp Try.underlying5 rfl (G.get (q0 ?b39_5 A W 82 hf) hc))
          refine ocg 79 ?_ (fun A W hx hf => ?_) ?_
          rfl
          exact gd_f (q1 ?b39_1 A W 79 hf) (fun hc => ok_rem (by decide) (G.get (q0 ?b39_6 A W 83 hf) hc) (ec A (.int .u8 16)))
          refine ocg 79 ?_ (fun A W hx hf => ?_) ?_
          rfl
          exact gd_f (q1 ?b39_1 A W 79 hf) (fun hc => ok_convI Try.underlying5 Try.underlying3 (by exact IntWalk.i64_in _ (tmod_bd (by omega))) (G.get (q0 ?b39_7 A W 84 hf) hc))
          refine ocg 79 ?_ (fun A W hx hf => ?_) ?_
          rfl
          exact gd_f (q1 ?b39_1 A W 79 hf) (fun hc => ok_mulI (G.get (q0 ?b39_8 A W 85 hf) hc) (ec A (.int .i64 4)) (by have := tmod16 (n := (L[0].toNat : Int)) (by omega); omega))
          refine ocg 79 ?_ (fun A W hx hf => ?_) ?_
          rfl
          exact gd_f (q2 ?b39_1 A W 79 hf) (fun hc => ok_slice_hi ((byteAt L 0 % 16 * 4).toNat) Try.underlying22 size5 (OwnBA.bs (p2 s9 e_w34 hx (G.get (q0 ?b39_3 A W 80 hf) hc))) (Is.int (G.get (q1 ?b39_9 A W 86 hf) hc) (by rw [Int.tmod_eq_emod_of_nonneg (by omega), e0]; omega)) (by omega))
          refine ocg 79 ?_ (fun A W hx hf => ?_) ?_
          rfl
          exact gd_f (q1 ?b39_1 A W 79 hf) (fun hc => ok_call1 body16 (c_rSum (G.get (q0 ?b39_10 A W 87 hf) hc) (by simp; omega)))
          refine ocg 79 ?_ (fun A W hx hf => ?_) ?_
          rfl
          exact gd_f (q1 ?b39_1 A W 79 hf) (fun hc => ok_eql (G.get (q0 ?b39_11 A W 88 hf) hc) (ec A (.int .i64 0)))
          refine oc0 (fun A W hx hf => ?_) ?_
          exact ok_or (q0 ?b39_1 A W 79 hf) (q1 ?b39_12 A W 89 hf)
          refine oc0 (fun A W hx hf => ?_) ?_
          exact ok_assign (q0 ?b39_13 A W 90 hf)
          exact OpsOk.nil
         case t39 => exact inferInstance
         clear hr; intro a40 w40 x hr hd hs
         clear s9 s12 s76
         have s6 := fa ?b39_13 a40 w40 6 (hd 14 6 rfl)
         replace e_w := e_w.trans x
         clear e_w34
         clear e_w35
         clear hd hs x
         refine exit_then ?_
         refine wp_ret ?_
         refine then_ret ?_
         refine ret_tmp Try.results6 hr e_w ?_
         first | with_reducible exact s6 | exact Is.bool s6 (spo_end1 e0 hsp hc9) | exact Is.bool s6 (spo_end2 e0 hsp hc9) | exact Is.bool s6 (by simp [fourPutR, hr9]) | exact Is.bool s6 (by simp)
       · skip
         skip
         refine wp_skip ?_
         refine exit_then ?_
         refine wp_seq ?_
         refine wp_reg 93 [[(12, none)], [(91, some 0)], [(92, some 1)]] [?b41_0, ?b41_1, ?b41_1] mixed (by kernel_rfl) (by kernel_rfl) hr ?t41 ?o41 ?_
         case o41 =>
          refine oc0 (fun A W hx hf => ?_) ?_
          exact ok_movE (a0 := a37) (r0 hf)
          refine oc0 (fun A W hx hf => ?_) ?_
          exact ok_neq (p2 s12 e_w35 hx (q0 ?b41_0 A W 91 hf)) (ec A (.int .i64 0))
          refine oc0 (fun A W hx hf => ?_) ?_
          exact ok_assign (q0 ?b41_1 A W 92 hf)
          exact OpsOk.nil
         case t41 => exact inferInstance
         clear hr; intro a42 w42 x hr hd hs
         clear s9 s12 s76
         have s6 := fa ?b41_1 a42 w42 6 (hd 2 6 rfl)
         replace e_w := e_w.trans x
         clear e_w34
         clear e_w35
         clear hd hs x
         refine exit_then ?_
         refine wp_ret ?_
         refine ret_tmp Try.results6 hr e_w ?_
         first | with_reducible exact s6 | exact Is.bool s6 (spo_end1 e0 hsp hc9) | exact Is.bool s6 (spo_end2 e0 hsp hc9) | exact Is.bool s6 (by simp [fourPutR, hr9]) | exact Is.bool s6 (by simp)

end Go.Proofs.Ytehhjmcdpcilfaa
