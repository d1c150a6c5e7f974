import Derived.Test.YtehhjmcdpcilfaaA08
namespace Go.Proofs.Ytehhjmcdpcilfaa
open Go.RowKit
set_option linter.unusedVariables false
set_option maxRecDepth 4000
def D_law_FourBack_0 : List Tmp := [11, 42, 43, 44, 45, 46, 47, 48, 49, 50]
theorem law_FourBack {x0 x1 x2 x3 : Value} {w : World} {H : FourL} {c : UInt8} {l : List UInt8} {q : Int} (h0 : (Is (FourV H)) x0 w) (h1 : (ByteIs c) x1 w) (h2 : (Bs l) x2 w) (h3 : (Is (.int .u16 q)) x3 w) (hH : FourOk H) (hq : 0 ≤ q ∧ q ≤ 65535) :
    Calls Try.prog 5 #[x0, x1, x2, x3] w (Ret (Is (.bool true)) w) := by
 have hs16 := hH.1
 have hd16 := hH.2
 have hll := Bs.len_le h2
 have hpl := fourPut_len hH
 refine enter Try.func5 rfl Try.ntmps5 (k := 4) rfl (by decide) (fun a0 hr hargs => ?_)
 have s0 := sarg h0 (hargs 0 (by decide))
 have s1 := sarg h1 (hargs 1 (by decide))
 have s2 := sarg h2 (hargs 2 (by decide))
 have s3 := sarg h3 (hargs 3 (by decide))
 clear hargs
 refine wp_seq ?_
 refine wp_reg 82 [[(0, none)], []] [?b1_0, ?b1_1] mixed (by kernel_rfl) (by kernel_rfl) hr ?t1 ?o1 ?_
 case o1 =>
  refine oc0 (fun A W hx hf => ?_) ?_
  exact ok_boxS (fourS2 H) [1, 1, 1, 1, 1, 1, 1, 1, 1, 16, 1, 16] (o1 s0 hx (r0 hf)) (by exact fourS2_lens hH) hx.size
  refine oc0 (fun A W hx hf => ?_) ?_
  exact ok_assignc
  exact OpsOk.nil
 case t1 => exact inferInstance
 clear hr; intro a2 w2 x hr hd hs
 revert s1 s2 s3; refine kp3 hs rfl ?_; intro s1 s2 s3
 clear s0
 have s4 := fa ?b1_0 a2 w2 4 (hd 0 4 rfl)
 obtain ⟨g2_4, q2_4⟩ := PxN.at s4; clear s4; have n2_4 := PxS.lt q2_4
 have s4 := q2_4; clear q2_4
 have e_w := x
 clear hd hs x
 refine exit_then ?_
 refine wp_seq ?_
 refine wp_seq ?_
 refine wp_reg 82 [[], [(16, some 0)], [(17, some 1)], [(2, none), (18, some 2)], [(19, some 3), (18, some 2)], [(20, some 4), (18, some 2)], [(18, some 2), (21, some 5)], [(22, some 6)], [(4, none), (23, some 7)], [(24, some 8), (23, some 7)], [(25, some 9), (23, some 7)], [(23, some 7), (26, some 10)]] [?b3_0, ?b3_1, ?b3_1, ?b3_3, ?b3_4, ?b3_5, ?b3_6, ?b3_6, ?b3_8, ?b3_9, ?b3_10, ?b3_11] mixed (by kernel_rfl) (by kernel_rfl) hr ?t3 ?o3 ?_
 case o3 =>
  refine oc0 (fun A W hx hf => ?_) ?_
  exact ok_call0 body9 (c_awake08 )
  refine oc0 (fun A W hx hf => ?_) ?_
  exact ok_not (q0 ?b3_0 A W 16 hf)
  refine oc0 (fun A W hx hf => ?_) ?_
  exact ok_move (q0 ?b3_1 A W 17 hf)
  refine ocg 18 ?_ (fun A W hx hf => ?_) ?_
  rfl
  exact gd_f (q1 ?b3_1 A W 18 hf) (fun hc => ok_movE (a0 := a2) (r0 hf))
  refine ocg 18 ?_ (fun A W hx hf => ?_) ?_
  rfl
  exact gd_f (q1 ?b3_1 A W 18 hf) (fun hc => ok_len_bs Try.underlying22 (p2 s2 e_w hx (G.get (q0 ?b3_3 A W 19 hf) hc)))
  refine ocg 18 ?_ (fun A W hx hf => ?_) ?_
  rfl
  exact gd_f (q1 ?b3_1 A W 18 hf) (fun hc => ok_gtr (G.get (q0 ?b3_4 A W 20 hf) hc) (ec A (.int .i64 300)))
  refine oc0 (fun A W hx hf => ?_) ?_
  exact ok_or (q0 ?b3_1 A W 18 hf) (q1 ?b3_5 A W 21 hf)
  refine oc0 (fun A W hx hf => ?_) ?_
  exact ok_move (q0 ?b3_6 A W 22 hf)
  refine ocg 23 ?_ (fun A W hx hf => ?_) ?_
  rfl
  exact gd_f (q1 ?b3_6 A W 23 hf) (fun hc => ok_fieldS 1 Try.underlying28 (k := 1) rfl size3 rfl (o1 s4 hx (r0 hf)) rfl)
  refine ocg 23 ?_ (fun A W hx hf => ?_) ?_
  rfl
  exact gd_f (q1 ?b3_6 A W 23 hf) (fun hc => ok_loadS Try.underlying3 rfl (G.get (q0 ?b3_8 A W 24 hf) hc) rfl)
  refine ocg 23 ?_ (fun A W hx hf => ?_) ?_
  rfl
  exact gd_f (q1 ?b3_6 A W 23 hf) (fun hc => ok_gtr (G.get (q0 ?b3_9 A W 25 hf) hc) (ec A (.int .i64 2000)))
  refine oc0 (fun A W hx hf => ?_) ?_
  exact ok_or (q0 ?b3_6 A W 23 hf) (q1 ?b3_10 A W 26 hf)
  exact OpsOk.nil
 case t3 => exact inferInstance
 clear hr; intro a4 w4 x hr hd hs
 revert s1 s2 s3 s4; refine kp4 hs rfl ?_; intro s1 s2 s3 s4
 have s27 := fa ?b3_11 a4 w4 27 (hd 11 27 rfl)
 replace e_w := e_w.trans x
 have e_w2 := x
 clear hd hs x
 refine exit_then ?_
 refine wp_cond_split (show _ = _ from s27) (fun hg => ?_) (fun hg => ?_)
 · skip
   skip
   refine wp_seq ?_
   refine wp_reg 82 [[], [(28, some 0)]] [?b6_0, ?b6_0] mixed (by kernel_rfl) (by kernel_rfl) hr ?t6 ?o6 ?_
   case o6 =>
    refine oc0 (fun A W hx hf => ?_) ?_
    exact ok_call0 body9 (c_awake08 )
    refine oc0 (fun A W hx hf => ?_) ?_
    exact ok_assign (q0 ?b6_0 A W 28 hf)
    exact OpsOk.nil
   case t6 => exact inferInstance
   clear hr; intro a7 w7 x hr hd hs
   clear s1 s2 s3 s4 s27
   have s8 := fa ?b6_0 a7 w7 8 (hd 1 8 rfl)
   replace e_w := e_w.trans x
   clear e_w2
   clear hd hs x
   refine exit_then ?_
   refine wp_ret ?_
   refine then_ret ?_
   refine ret_tmp Try.results5 hr e_w ?_
   first | with_reducible exact s8 | exact Is.bool s8 (by simp [fourPutR, hr9]) | exact Is.bool s8 (by simp)
 · skip
   have hg : l.length ≤ 300 ∧ H.total ≤ 2000 := by simp at hg; omega
   refine wp_skip ?_
   refine exit_then ?_
   refine wp_seq ?_
   refine wp_reg 82 [[(4, none)], [(30, some 0)], [(31, some 1)], [(29, some 2)], [(29, some 2)], [(32, some 3)], [(33, some 4)]] [?b8_0, ?b8_1, ?b8_1, ?b8_3, ?b8_4, ?b8_3, ?b8_4] mixed (by kernel_rfl) (by kernel_rfl) hr ?t8 ?o8 ?_
   case o8 =>
    refine oc0 (fun A W hx hf => ?_) ?_
    exact ok_loadAggS 12 Try.underlying28 rfl size28 (o2 s4 e_w2 hx (r0 hf)) rfl
    refine oc0 (fun A W hx hf => ?_) ?_
    exact ok_call1 body12 (c_four_Put (show Is (FourV H) _ _ from (q0 ?b8_0 A W 30 hf)) (by exact hH) hx.size)
    refine oc0 (fun A W hx hf => ?_) ?_
    exact ok_move (q0 ?b8_1 A W 31 hf)
    refine oc0 (fun A W hx hf => ?_) ?_
    exact ok_ext0 (q0 ?b8_1 A W 29 hf)
    refine oc0 (fun A W hx hf => ?_) ?_
    exact ok_ext1 (q0 ?b8_1 A W 29 hf)
    refine oc0 (fun A W hx hf => ?_) ?_
    exact ok_assign (q0 ?b8_3 A W 32 hf)
    refine oc0 (fun A W hx hf => ?_) ?_
    exact ok_assign (q0 ?b8_4 A W 33 hf)
    exact OpsOk.nil
   case t8 => exact inferInstance
   clear hr; intro a9 w9 x hr hd hs
   have z_w_w4 := e_w.size
   have z_w2_w4 := e_w2.size
   have l9_4 := PxS.lt (later e_w2 s4)
   revert s1 s2 s3 s4; refine kp4 hs rfl ?_; intro s1 s2 s3 s4
   clear s27
   have s9 := fa ?b8_3 a9 w9 9 (hd 5 9 rfl)
   have s10 := fa ?b8_4 a9 w9 10 (hd 6 10 rfl)
   obtain ⟨g9_9, q9_9⟩ := OwnB.at s9; clear s9; have n9_9 := OwnBA.lt q9_9
   replace q9_9 := OwnBA.mono q9_9 e_w.size
   have s9 := q9_9; clear q9_9
   replace e_w := e_w.trans x
   replace e_w2 := e_w2.trans x
   clear hd hs x
   refine exit_then ?_
   refine wp_seq ?_
   refine wp_seq ?_
   refine wp_reg 82 [[(10, none)], [(34, some 0)]] [?b10_0, ?b10_1] mixed (by kernel_rfl) (by kernel_rfl) hr ?t10 ?o10 ?_
   case o10 =>
    refine oc0 (fun A W hx hf => ?_) ?_
    exact ok_movE (a0 := a9) (r0 hf)
    refine oc0 (fun A W hx hf => ?_) ?_
    exact ok_neq (p1 s10 hx (q0 ?b10_0 A W 34 hf)) (ec A (.int .i64 0))
    exact OpsOk.nil
   case t10 => exact inferInstance
   clear hr; intro a11 w11 x hr hd hs
   revert s1 s2 s3 s4 s9; refine kp5 hs rfl ?_; intro s1 s2 s3 s4 s9
   clear s10
   have s35 := fa ?b10_1 a11 w11 35 (hd 1 35 rfl)
   replace e_w := e_w.trans x
   replace e_w2 := e_w2.trans x
   have e_w9 := x
   clear hd hs x
   refine exit_then ?_
   refine wp_cond_split (show _ = _ from s35) (fun hr9 => ?_) (fun hr9 => ?_)
   · skip
     have hr9 : fourRight H = false := putR_no hr9
     refine wp_seq ?_
     refine wp_reg 82 [[(9, none)], [(36, some 0)], [(37, some 1)], [(38, some 2)]] [?b13_0, ?b13_1, ?b13_2, ?b13_2] mixed (by kernel_rfl) (by kernel_rfl) hr ?t13 ?o13 ?_
     case o13 =>
      refine oc0 (fun A W hx hf => ?_) ?_
      exact ok_movE (a0 := a11) (r0 hf)
      refine oc0 (fun A W hx hf => ?_) ?_
      exact ok_len_bs Try.underlying22 (OwnBA.bs (p2 s9 e_w9 hx (q0 ?b13_0 A W 36 hf)))
      refine oc0 (fun A W hx hf => ?_) ?_
      exact ok_eql (q0 ?b13_1 A W 37 hf) (ec A (.int .i64 0))
      refine oc0 (fun A W hx hf => ?_) ?_
      exact ok_assign (q0 ?b13_2 A W 38 hf)
      exact OpsOk.nil
     case t13 => exact inferInstance
     clear hr; intro a14 w14 x hr hd hs
     clear s1 s2 s3 s4 s9 s35
     have s8 := fa ?b13_2 a14 w14 8 (hd 3 8 rfl)
     replace e_w := e_w.trans x
     clear e_w2
     clear e_w9
     clear hd hs x
     refine exit_then ?_
     refine wp_ret ?_
     refine then_ret ?_
     refine ret_tmp Try.results5 hr e_w ?_
     first | with_reducible exact s8 | exact Is.bool s8 (by simp [fourPutR, hr9]) | exact Is.bool s8 (by simp)
   · skip
     have hr9 : fourRight H = true := putR_yes hr9
     obtain ⟨k1, k2, k3, k4, k5, k6, k7⟩ := fourRight_bd hr9
     have hp1 : fourPutR H = (fourPut H, 0) := by unfold fourPutR; rw [if_pos hr9]
     replace s9 := OwnBA.cast s9 (show _ = fourPut H from by rw [hp1])
     refine wp_skip ?_
     refine exit_then ?_
     refine wp_seq ?_
     refine wp_reg_pre (l := [_, _]) (rest := [_, _]) 82 [[], [(9, none)]] [?b15_0, ?b15_1] (by kernel_rfl) (by kernel_rfl) hr ?t15 ?o15 ?_
     case o15 =>
      refine oc0 (fun A W hx hf => ?_) ?_
      exact ok_ownBs [] [] Try.underlying22 size5 zero5 rfl rfl (by decide) hx.size (PartsOk.nil)
      refine oc0 (fun A W hx hf => ?_) ?_
      exact ok_movE (a0 := a11) (r0 hf)
      exact OpsOk.nil
     case t15 => exact inferInstance
     clear hr; intro a16 w16 x hr hd hs
     have z_w_w11 := e_w.size
     have z_w2_w11 := e_w2.size
     have z_w9_w11 := e_w9.size
     have l16_4 := PxS.lt (later e_w2 s4)
     have l16_9 := OwnBA.lt (later e_w9 s9)
     have u40 := mv s9 (fa ?b15_1 a16 w16 40 (hd 1 40 rfl))
     revert s1 s2 s3 s4; refine kp4 hs rfl ?_; intro s1 s2 s3 s4
     clear s9 s35
     have s40 := u40; clear u40
     have s39 := fa ?b15_0 a16 w16 39 (hd 0 39 rfl)
     obtain ⟨g16_39, q16_39⟩ := OwnB.at s39; clear s39; have n16_39 := OwnBA.lt q16_39
     replace q16_39 := OwnBA.mono q16_39 e_w.size
     have s39 := q16_39; clear q16_39
     replace e_w := e_w.trans x
     replace e_w2 := e_w2.trans x
     replace e_w9 := e_w9.trans x
     clear hd hs x
     have l17 := OwnBA.lt s39
     have l17_4 := PxS.lt (later e_w2 s4)
     refine wl_append_bsA hr (by decide) Try.underlying22 info5 rfl s39 (OwnBA.bs (later e_w9 s40)) e_w.size (by first | (simp [hpl]; done) | (simp [hpl]; omega)) ?_; clear hr; intro g17 a17 w17 hg17 hc hr hd hs
     have hb := hc.below e_w.size l17.1
     revert s1 s2 s3 s4; refine kp4 hs rfl ?_; intro s1 s2 s3 s4
     clear s40 s39
     replace s4 := PxS.other (later e_w2 s4) hc (by omega)
     have s41 := hd
     replace e_w := e_w.below (Nat.le_refl _) hb
     clear e_w2
     clear e_w9
     clear hd hs hb hc
     refine wl_op hr (ok_assign s41) inferInstance ?_; clear hr; intro a18 w18 x hr hd hs
     revert s1 s2 s3 s4; refine kp4 hs rfl ?_; intro s1 s2 s3 s4
     clear s41
     have s11 := hd 11 rfl (by decide)
     replace e_w := e_w.trans x
     have e_w17 := x
     clear hd hs x
     refine wpList_nil ?_
     refine exit_then ?_
     refine wp_seq ?_
     refine wp_block ?_
     refine wp_loop_inv (fun n A W => ∃ (i β : Nat), n = H.total.toNat - (20 + i) ∧ Fr 82 A ∧ Same D_law_FourBack_0 a18 A ∧ Ext w W ∧ (20 + i ≤ H.total.toNat) ∧ (g2_4 ≠ β) ∧ (PxS g2_4 w.heap.size [1, 1, 1, 1, 1, 1, 1, 1, 1, 16, 1, 16] (fourS2 H) 0) (A.eval (.tmp 4)) W ∧ (OwnBA β w.heap.size 5 (fourPut H ++ List.replicate i c)) (A.eval (.tmp 11)) W) ?start19 ?_
     case start19 =>
      refine ⟨_, 0, g17, rfl, hr, Same.rfl, e_w, (by first | assumption | omega), (by first | assumption | omega), ?_, ?_⟩
      · exact (later e_w17 s4)
      · exact OwnBA.cast s11 (by simp)
     intro n19 a19 w19 hI
     clear e_w
     clear e_w17
     clear hr; obtain ⟨i, β, hn19, hr, hs, e_w, hi, ne1, u4, u11⟩ := hI
     revert s1 s2 s3; refine kp3 hs rfl ?_; intro s1 s2 s3
     clear s4 s11
     have s4 := u4; clear u4
     have s11 := u11; clear u11
     have m19 := hs; clear hs
     refine wp_seq ?_
     refine wp_seq ?_
     refine wp_reg 82 [[(11, none)], [(42, some 0)], [(4, none)], [(44, some 2)], [(43, some 1), (45, some 3)]] [?b20_0, ?b20_1, ?b20_2, ?b20_3, ?b20_4] mixed (by kernel_rfl) (by kernel_rfl) hr ?t20 ?o20 ?_
     case o20 =>
      refine oc0 (fun A W hx hf => ?_) ?_
      exact ok_movE (a0 := a19) (r0 hf)
      refine oc0 (fun A W hx hf => ?_) ?_
      exact ok_len_bs Try.underlying22 (OwnBA.bs (p1 s11 hx (q0 ?b20_0 A W 42 hf)))
      refine oc0 (fun A W hx hf => ?_) ?_
      exact ok_fieldS 1 Try.underlying28 (k := 1) rfl size3 rfl (o1 s4 hx (r0 hf)) rfl
      refine oc0 (fun A W hx hf => ?_) ?_
      exact ok_loadS Try.underlying3 rfl (q0 ?b20_2 A W 44 hf) rfl
      refine oc0 (fun A W hx hf => ?_) ?_
      exact ok_lss (q0 ?b20_1 A W 43 hf) (q1 ?b20_3 A W 45 hf)
      exact OpsOk.nil
     case t20 => exact inferInstance
     clear hr; intro a21 w21 x hr hd hs
     revert s1 s2 s3 s4 s11; refine kp5 hs rfl ?_; intro s1 s2 s3 s4 s11
     have s46 := fa ?b20_4 a21 w21 46 (hd 4 46 rfl)
     replace e_w := e_w.trans x
     have e_w19 := x
     replace m19 := m19.tr hs rfl
     clear hd hs x
     refine exit_then ?_
     refine wp_cond_split (show _ = _ from s46) (fun hlt => ?_) (fun hlt => ?_)
     · skip
       have hlt : 20 + i < H.total.toNat := by simp [hpl] at hlt; omega
       refine wp_skip ?_
       refine exit_then ?_
       refine wp_block ?_
       refine wp_reg_pre (l := [_, _, _]) (rest := [_, _]) 82 [[(11, none)], [(1, none)], [(48, some 1)]] [?b23_0, ?b23_1, ?b23_2] (by kernel_rfl) (by kernel_rfl) hr ?t23 ?o23 ?_
       case o23 =>
        refine oc0 (fun A W hx hf => ?_) ?_
        exact ok_movE (a0 := a21) (r0 hf)
        refine oc0 (fun A W hx hf => ?_) ?_
        exact ok_movE (a0 := a21) (r0 hf)
        refine oc0 (fun A W hx hf => ?_) ?_
        exact ok_buildBs [(.tmp 48)] [_] Try.underlying22 size5 zero5 rfl rfl (by decide) (PartsOk.cons (p2 s1 e_w hx (q0 ?b23_1 A W 48 hf)) (PartsOk.nil))
        exact OpsOk.nil
       case t23 => exact inferInstance
       clear hr; intro a24 w24 x hr hd hs
       have u47 := mv s11 (fa ?b23_0 a24 w24 47 (hd 0 47 rfl))
       revert s1 s2 s3 s4 s11; refine kp5 hs rfl ?_; intro s1 s2 s3 s4 s11
       clear s46
       have s47 := u47; clear u47
       have s49 := fa ?b23_2 a24 w24 49 (hd 2 49 rfl)
       replace e_w := e_w.trans x
       replace e_w19 := e_w19.trans x
       replace m19 := m19.tr hs rfl
       clear hd hs x
       have l25 := OwnBA.lt (later e_w19 s47)
       have l25_4 := PxS.lt (later e_w19 s4)
       refine wl_append_bsA hr (by decide) Try.underlying22 info5 rfl (later e_w19 s47) s49 e_w.size (by first | (simp [hpl]; done) | (simp [hpl]; omega)) ?_; clear hr; intro g25 a25 w25 hg25 hc hr hd hs
       have hb := hc.below e_w.size l25.1
       revert s1 s2 s3 s4; refine kp4 hs rfl ?_; intro s1 s2 s3 s4
       clear s11 s47 s49
       replace s4 := PxS.other (later e_w19 s4) hc (by omega)
       have s50 := hd
       replace e_w := e_w.below (Nat.le_refl _) hb
       clear e_w19
       replace m19 := m19.tr hs rfl
       clear hd hs hb hc
       refine wl_op hr (ok_assign s50) inferInstance ?_; clear hr; intro a26 w26 x hr hd hs
       revert s1 s2 s3 s4; refine kp4 hs rfl ?_; intro s1 s2 s3 s4
       clear s50
       have s11 := hd 11 rfl (by decide)
       replace e_w := e_w.trans x
       have e_w25 := x
       replace m19 := m19.tr hs rfl
       clear hd hs x
       refine wpList_nil ?_
       refine blk_normal ?_
       refine exit_then ?_
       refine ⟨(fun (i β : Nat) => H.total.toNat - (20 + i)) (i + 1) (0), ?_, ?_⟩
       · (try dsimp only); omega
       refine ⟨i + 1, g25, rfl, hr, m19, e_w, (by first | assumption | omega), (by first | assumption | omega), ?_, ?_⟩
       · exact (later e_w25 s4)
       · exact OwnBA.cast s11 (by rw [List.append_assoc, List.replicate_succ'])
     · skip
       have hlt : 20 + i = H.total.toNat := by simp [hpl] at hlt; omega
       have hal : (fourPut H ++ List.replicate i c).length = 20 + i := by simp [hpl]
       have hb1 := four_back hH hr9 (r := List.replicate i c ++ l) (by simp; omega)
       have hb1 : fourRead ([] ++ (fourPut H ++ List.replicate i c) ++ l) = (H, 0) := by rw [List.nil_append, List.append_assoc]; exact hb1
       obtain ⟨K, hK, hKl⟩ := tmod_lt (a := q) (n := (fourPut H ++ List.replicate i c).length) hq.1 (by omega)
       have hb2 := four_early hH hr9 (r := List.replicate i c) (k := K) (by omega) (by simp; omega)
       refine wp_exit ?_
       refine then_exit ?_
       refine then_exit ?_
       refine blk_exit ?_
       refine exit_then ?_
       refine wp_seq ?_
       refine wp_reg_pre (l := [_, _]) (rest := [_, _, _, _, _, _, _, _, _, _]) 82 [[], [(11, none)]] [?b27_0, ?b27_1] (by kernel_rfl) (by kernel_rfl) hr ?t27 ?o27 ?_
       case o27 =>
        refine oc0 (fun A W hx hf => ?_) ?_
        exact ok_ownBs [] [] Try.underlying22 size5 zero5 rfl rfl (by decide) hx.size (PartsOk.nil)
        refine oc0 (fun A W hx hf => ?_) ?_
        exact ok_movE (a0 := a21) (r0 hf)
        exact OpsOk.nil
       case t27 => exact inferInstance
       clear hr; intro a28 w28 x hr hd hs
       have z_w_w21 := e_w.size
       have z_w19_w21 := e_w19.size
       have l28_4 := PxS.lt (later e_w19 s4)
       have l28_11 := OwnBA.lt (later e_w19 s11)
       have u53 := mv s11 (fa ?b27_1 a28 w28 53 (hd 1 53 rfl))
       revert s2 s3 s4 s11; refine kp4 hs rfl ?_; intro s2 s3 s4 s11
       clear s1 s46
       have s53 := u53; clear u53
       have s52 := fa ?b27_0 a28 w28 52 (hd 0 52 rfl)
       obtain ⟨g28_52, q28_52⟩ := OwnB.at s52; clear s52; have n28_52 := OwnBA.lt q28_52
       replace q28_52 := OwnBA.mono q28_52 e_w.size
       have s52 := q28_52; clear q28_52
       replace e_w := e_w.trans x
       replace e_w19 := e_w19.trans x
       clear hd hs x
       have l29 := OwnBA.lt s52
       have l29_4 := PxS.lt (later e_w19 s4)
       have l29_11 := OwnBA.lt (later e_w19 s11)
       refine wl_append_bsA hr (by decide) Try.underlying22 info5 rfl s52 (OwnBA.bs (later e_w19 s53)) e_w.size (by first | (simp [hpl]; done) | (simp [hpl]; omega)) ?_; clear hr; intro g29 a29 w29 hg29 hc hr hd hs
       have hb := hc.below e_w.size l29.1
       revert s2 s3 s4 s11; refine kp4 hs rfl ?_; intro s2 s3 s4 s11
       clear s53 s52
       replace s4 := PxS.other (later e_w19 s4) hc (by omega)
       replace s11 := OwnBA.other (later e_w19 s11) hc (by omega)
       have s54 := hd
       replace e_w := e_w.below (Nat.le_refl _) hb
       clear e_w19
       clear hd hs hb hc
       refine wl_op hr (ok_move (later e_w s2)) inferInstance ?_; clear hr; intro a30 w30 x hr hd hs
       revert s3 s4 s11 s54; refine kp4 hs rfl ?_; intro s3 s4 s11 s54
       clear s2
       have s55 := hd 55 rfl (by decide)
       replace e_w := e_w.trans x
       have e_w29 := x
       clear hd hs x
       have l31 := OwnBA.lt (later e_w29 s54)
       have l31_4 := PxS.lt (later e_w29 s4)
       have l31_11 := OwnBA.lt (later e_w29 s11)
       refine wl_append_bsA hr (by decide) Try.underlying22 info5 rfl (later e_w29 s54) s55 e_w.size (by first | (simp [hpl]; done) | (simp [hpl]; omega)) ?_; clear hr; intro g31 a31 w31 hg31 hc hr hd hs
       have hb := hc.below e_w.size l31.1
       revert s3 s4 s11; refine kp3 hs rfl ?_; intro s3 s4 s11
       clear s54 s55
       replace s4 := PxS.other (later e_w29 s4) hc (by omega)
       replace s11 := OwnBA.other (later e_w29 s11) hc (by omega)
       have s56 := hd
       replace e_w := e_w.below (Nat.le_refl _) hb
       clear e_w29
       clear hd hs hb hc
       refine wl_op hr (ok_call1 body10 (c_four_Read (OwnBA.bs s56))) inferInstance ?_; clear hr; intro a32 w32 x hr hd hs
       revert s3 s4 s11; refine kp3 hs rfl ?_; intro s3 s4 s11
       clear s56
       have s57 := hd 57 rfl (by decide)
       replace e_w := e_w.trans x
       have e_w31 := x
       clear hd hs x
       refine wl_op hr (ok_move s57) inferInstance ?_; clear hr; intro a33 w33 x hr hd hs
       revert s3 s4 s11; refine kp3 hs rfl ?_; intro s3 s4 s11
       clear s57
       have s51 := hd 51 rfl (by decide)
       replace e_w := e_w.trans x
       replace e_w31 := e_w31.trans x
       clear hd hs x
       refine wl_op hr (ok_ext0 s51) inferInstance ?_; clear hr; intro a34 w34 x hr hd hs
       revert s3 s4 s11 s51; refine kp4 hs rfl ?_; intro s3 s4 s11 s51
       have s58 := hd 58 rfl (by decide)
       replace e_w := e_w.trans x
       replace e_w31 := e_w31.trans x
       have e_w33 := x
       clear hd hs x
       refine wl_op hr (ok_ext1 (later e_w33 s51)) inferInstance ?_; clear hr; intro a35 w35 x hr hd hs
       revert s3 s4 s11 s58; refine kp4 hs rfl ?_; intro s3 s4 s11 s58
       clear s51
       have s59 := hd 59 rfl (by decide)
       replace e_w := e_w.trans x
       replace e_w31 := e_w31.trans x
       clear e_w33
       have e_w34 := x
       clear hd hs x
       have l36_4 := PxS.lt (later e_w31 s4)
       have l36_11 := OwnBA.lt (later e_w31 s11)
       refine wl_op hr (ok_allocS [(fourS four0).flatten] [42] zerov28 (by rfl) (by rfl) (Nat.le_refl _)) inferInstance ?_; clear hr; intro a36 w36 x hr hd hs
       revert s3 s4 s11 s58 s59; refine kp5 hs rfl ?_; intro s3 s4 s11 s58 s59
       have s12 := hd 12 rfl (by decide)
       obtain ⟨g36_12, q36_12⟩ := PxN.at s12; clear s12; have n36_12 := PxS.lt q36_12
       replace q36_12 := PxS.mono q36_12 e_w.size
       have s12 := q36_12; clear q36_12
       replace e_w := e_w.trans x
       replace e_w31 := e_w31.trans x
       replace e_w34 := e_w34.trans x
       have e_w35 := x
       clear hd hs x
       have z37 := PxS.lt s12
       have l37 := (show (g36_12 = 0 ∨ w.heap.size < g36_12) ∧ True from ⟨by omega, trivial⟩)
       have l37_4 := PxS.lt (later e_w31 s4)
       have l37_11 := OwnBA.lt (later e_w31 s11)
       refine wl_storeSn hr size28 s12 (later e_w34 s58) (by exact four_len (fourRead_ok _)) (by exact four_one) rfl ?_; clear hr; intro a37 w37 hc hu hr hs
       have hb : Below w.heap.size w36 w37 := hc.below e_w.size l37.1
       revert s3 s4 s11 s59 s12; refine kp5 hs rfl ?_; intro s3 s4 s11 s59 s12
       clear s58
       replace s4 := PxS.other (later e_w31 s4) hc (by omega)
       replace s11 := OwnBA.other (later e_w31 s11) hc (by omega)
       replace s12 := hu _ _ _ s12
       try simp only [List.set_cons_zero, List.set_cons_succ] at s12
       replace e_w := e_w.below (Nat.le_refl _) hb
       clear e_w31
       clear e_w34
       clear e_w35
       replace s59 := anyw (w2 := w37) s59
       clear hu hs hc hb
       refine wl_op hr (ok_assign s59) inferInstance ?_; clear hr; intro a38 w38 x hr hd hs
       revert s3 s4 s11 s12; refine kp4 hs rfl ?_; intro s3 s4 s11 s12
       clear s59
       have s13 := hd 13 rfl (by decide)
       replace e_w := e_w.trans x
       have e_w37 := x
       clear hd hs x
       refine wpList_nil ?_
       replace s13 := Is.int s13 (show _ = (0 : Int) from by rw [hb1])
       refine exit_then ?_
       refine wp_seq ?_
       refine wp_reg_pre (l := [_, _, _, _, _, _, _, _, _, _, _, _]) (rest := [_, _]) 82 [[(11, none)], [(3, none)], [(62, some 1)], [(11, none)], [(64, some 3)], [(63, some 2), (65, some 4)], [(61, some 0), (66, some 5)], [(67, some 6)], [(68, some 7)], [(60, some 8)], [(60, some 8)], []] [?b39_0, ?b39_1, ?b39_2, ?b39_3, ?b39_4, ?b39_5, ?b39_6, ?b39_7, ?b39_7, ?b39_9, ?b39_10, ?b39_11] (by kernel_rfl) (by kernel_rfl) hr ?t39 ?o39 ?_
       case o39 =>
        refine oc0 (fun A W hx hf => ?_) ?_
        exact ok_movE (a0 := a38) (r0 hf)
        refine oc0 (fun A W hx hf => ?_) ?_
        exact ok_movE (a0 := a38) (r0 hf)
        refine oc0 (fun A W hx hf => ?_) ?_
        exact ok_convI Try.underlying40 Try.underlying3 (by exact IntWalk.i64_in _ (by omega)) (p2 s3 e_w hx (q0 ?b39_1 A W 62 hf))
        refine oc0 (fun A W hx hf => ?_) ?_
        exact ok_movE (a0 := a38) (r0 hf)
        refine oc0 (fun A W hx hf => ?_) ?_
        exact ok_len_bs Try.underlying22 (OwnBA.bs (p2 s11 e_w37 hx (q0 ?b39_3 A W 64 hf)))
        refine oc0 (fun A W hx hf => ?_) ?_
        exact ok_rem (by omega) (q0 ?b39_2 A W 63 hf) (q1 ?b39_4 A W 65 hf)
        refine oc0 (fun A W hx hf => ?_) ?_
        exact ok_slice_hi (K) Try.underlying22 size5 (OwnBA.bs (p2 s11 e_w37 hx (q0 ?b39_0 A W 61 hf))) (Is.int (q1 ?b39_5 A W 66 hf) (by exact hK)) (by omega)
        refine oc0 (fun A W hx hf => ?_) ?_
        exact ok_call1 body10 (c_four_Read (q0 ?b39_6 A W 67 hf))
        refine oc0 (fun A W hx hf => ?_) ?_
        exact ok_move (q0 ?b39_7 A W 68 hf)
        refine oc0 (fun A W hx hf => ?_) ?_
        exact ok_ext0 (q0 ?b39_7 A W 60 hf)
        refine oc0 (fun A W hx hf => ?_) ?_
        exact ok_ext1 (q0 ?b39_7 A W 60 hf)
        refine oc0 (fun A W hx hf => ?_) ?_
        exact ok_allocS [(fourS four0).flatten] [42] zerov28 (by rfl) (by rfl) hx.size
        exact OpsOk.nil
       case t39 => exact inferInstance
       clear hr; intro a40 w40 x hr hd hs
       have z_w_w38 := e_w.size
       have z_w37_w38 := e_w37.size
       have l40_4 := PxS.lt (later e_w37 s4)
       have l40_11 := OwnBA.lt (later e_w37 s11)
       have l40_12 := PxS.lt (later e_w37 s12)
       revert s4 s12 s13; refine kp3 hs rfl ?_; intro s4 s12 s13
       clear s3 s11
       have s69 := fa ?b39_9 a40 w40 69 (hd 9 69 rfl)
       have s70 := fa ?b39_10 a40 w40 70 (hd 10 70 rfl)
       have s14 := fa ?b39_11 a40 w40 14 (hd 11 14 rfl)
       obtain ⟨g40_14, q40_14⟩ := PxN.at s14; clear s14; have n40_14 := PxS.lt q40_14
       replace q40_14 := PxS.mono q40_14 e_w.size
       have s14 := q40_14; clear q40_14
       replace e_w := e_w.trans x
       replace e_w37 := e_w37.trans x
       have e_w38 := x
       clear hd hs x
       have z41 := PxS.lt s14
       have l41 := (show (g40_14 = 0 ∨ w.heap.size < g40_14) ∧ True from ⟨by omega, trivial⟩)
       have l41_4 := PxS.lt (later e_w37 s4)
       have l41_12 := PxS.lt (later e_w37 s12)
       refine wl_storeSn hr size28 s14 s69 (by exact four_len (fourRead_ok _)) (by exact four_one) rfl ?_; clear hr; intro a41 w41 hc hu hr hs
       have hb : Below w.heap.size w40 w41 := hc.below e_w.size l41.1
       revert s4 s12 s13 s70; refine kp4 hs rfl ?_; intro s4 s12 s13 s70
       clear s69 s14
       replace s4 := PxS.other (later e_w37 s4) hc (by omega)
       replace s12 := PxS.other (later e_w37 s12) hc (by omega)
       replace e_w := e_w.below (Nat.le_refl _) hb
       clear e_w37
       clear e_w38
       replace s13 := anyw (w2 := w41) s13
       replace s70 := anyw (w2 := w41) s70
       clear hu hs hc hb
       refine wl_op hr (ok_assign s70) inferInstance ?_; clear hr; intro a42 w42 x hr hd hs
       revert s4 s12 s13; refine kp3 hs rfl ?_; intro s4 s12 s13
       clear s70
       have s15 := hd 15 rfl (by decide)
       replace e_w := e_w.trans x
       have e_w41 := x
       clear hd hs x
       refine wpList_nil ?_
       replace s15 := Is.int s15 hb2
       refine exit_then ?_
       refine wp_seq ?_
       refine wp_reg 82 [[(13, none)], [(71, some 0)], [(72, some 1)], [(12, none), (73, some 2)], [(4, none), (73, some 2)], [(74, some 3), (75, some 4), (73, some 2)], [(73, some 2), (76, some 5)], [(77, some 6)], [(15, none), (78, some 7)], [(79, some 8), (78, some 7)], [(78, some 7), (80, some 9)], [(81, some 10)]] [?b43_0, ?b43_1, ?b43_1, ?b43_3, ?b43_4, ?b43_5, ?b43_6, ?b43_6, ?b43_8, ?b43_9, ?b43_10, ?b43_10] mixed (by kernel_rfl) (by kernel_rfl) hr ?t43 ?o43 ?_
       case o43 =>
        refine oc0 (fun A W hx hf => ?_) ?_
        exact ok_movE (a0 := a42) (r0 hf)
        refine oc0 (fun A W hx hf => ?_) ?_
        exact ok_eql (p2 s13 e_w41 hx (q0 ?b43_0 A W 71 hf)) (ec A (.int .i64 0))
        refine oc0 (fun A W hx hf => ?_) ?_
        exact ok_move (q0 ?b43_1 A W 72 hf)
        refine ocg 73 ?_ (fun A W hx hf => ?_) ?_
        rfl
        exact gd_t (q1 ?b43_1 A W 73 hf) (fun hc => ok_loadSeg Try.underlying28 rfl size28 (o2 s12 e_w41 hx (r0 hf)) rfl rfl)
        refine ocg 73 ?_ (fun A W hx hf => ?_) ?_
        rfl
        exact gd_t (q1 ?b43_1 A W 73 hf) (fun hc => ok_loadAggS 12 Try.underlying28 rfl size28 (o2 s4 e_w41 hx (r0 hf)) rfl)
        refine ocg 73 ?_ (fun A W hx hf => ?_) ?_
        rfl
        exact gd_t (q2 ?b43_1 A W 73 hf) (fun hc => ok_eqself eqg28 (eq_four (fourRead_ok _)) (G.get (q0 ?b43_3 A W 74 hf) hc) (Is.conv (show Is (FourV H) _ _ from (G.get (q1 ?b43_4 A W 75 hf) hc)) (show FourV H = FourV (fourRead _).1 from by rw [hb1])))
        refine oc0 (fun A W hx hf => ?_) ?_
        exact ok_and (q0 ?b43_1 A W 73 hf) (q1 ?b43_5 A W 76 hf)
        refine oc0 (fun A W hx hf => ?_) ?_
        exact ok_move (q0 ?b43_6 A W 77 hf)
        refine ocg 78 ?_ (fun A W hx hf => ?_) ?_
        rfl
        exact gd_t (q1 ?b43_6 A W 78 hf) (fun hc => ok_movE (a0 := a42) (r0 hf))
        refine ocg 78 ?_ (fun A W hx hf => ?_) ?_
        rfl
        exact gd_t (q1 ?b43_6 A W 78 hf) (fun hc => ok_eql (p1 s15 hx (G.get (q0 ?b43_8 A W 79 hf) hc)) (ec A (.int .i64 2)))
        refine oc0 (fun A W hx hf => ?_) ?_
        exact ok_and (q0 ?b43_6 A W 78 hf) (q1 ?b43_9 A W 80 hf)
        refine oc0 (fun A W hx hf => ?_) ?_
        exact ok_assign (q0 ?b43_10 A W 81 hf)
        exact OpsOk.nil
       case t43 => exact inferInstance
       clear hr; intro a44 w44 x hr hd hs
       clear s4 s12 s13 s15
       have s8 := fa ?b43_10 a44 w44 8 (hd 11 8 rfl)
       replace e_w := e_w.trans x
       clear e_w41
       clear hd hs x
       refine exit_then ?_
       refine wp_ret ?_
       refine ret_tmp Try.results5 hr e_w ?_
       first | with_reducible exact s8 | exact Is.bool s8 (by simp [fourPutR, hr9]) | exact Is.bool s8 (by simp)

end Go.Proofs.Ytehhjmcdpcilfaa
