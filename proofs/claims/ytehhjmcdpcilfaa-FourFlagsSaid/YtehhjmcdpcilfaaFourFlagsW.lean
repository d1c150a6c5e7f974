import Derived.Test.YtehhjmcdpcilfaaA08
namespace Go.Proofs.Ytehhjmcdpcilfaa
open Go.RowKit
set_option linter.unusedVariables false
set_option maxRecDepth 4000
def D_law_FourFlags_0 : List Tmp := [5, 28, 29, 30, 31, 32, 33, 34, 35]
theorem law_FourFlags {x0 x1 : Value} {w : World} {H : FourL} {z : Int} (h0 : (Is (FourV H)) x0 w) (h1 : (Is (.int .u16 z)) x1 w) (hH : FourOk H) (hz : 0 ≤ z ∧ z ≤ 65535) :
    Calls Try.prog 7 #[x0, x1] w (Ret (Is (.bool true)) w) := by
 have hs16 := hH.1
 have hd16 := hH.2
 have hpl := fourPut_len hH
 refine enter Try.func7 rfl Try.ntmps7 (k := 2) rfl (by decide) (fun a0 hr hargs => ?_)
 have s0 := sarg h0 (hargs 0 (by decide))
 have s1 := sarg h1 (hargs 1 (by decide))
 clear hargs
 refine wp_seq ?_
 refine wp_reg 99 [[(0, none)], []] [?b1_0, ?b1_1] mixed (by kernel_rfl) (by kernel_rfl) hr ?t1 ?o1 ?_
 case o1 =>
  refine oc0 (fun A W hx hf => ?_) ?_
  exact ok_boxS (fourS2 H) [1, 1, 1, 1, 1, 1, 1, 1, 1, 16, 1, 16] (o1 s0 hx (r0 hf)) (by exact fourS2_lens hH) hx.size
  refine oc0 (fun A W hx hf => ?_) ?_
  exact ok_assignc
  exact OpsOk.nil
 case t1 => exact inferInstance
 clear hr; intro a2 w2 x hr hd hs
 revert s1; refine kp1 hs rfl ?_; intro s1
 clear s0
 have s2 := fa ?b1_0 a2 w2 2 (hd 0 2 rfl)
 obtain ⟨g2_2, q2_2⟩ := PxN.at s2; clear s2; have n2_2 := PxS.lt q2_2
 have s2 := q2_2; clear q2_2
 have e_w := x
 clear hd hs x
 refine exit_then ?_
 refine wp_seq ?_
 refine wp_seq ?_
 refine wp_reg 99 [[], [(10, some 0)], [(11, some 1)], [(2, none), (12, some 2)], [(13, some 3), (12, some 2)], [(14, some 4), (12, some 2)], [(12, some 2), (15, some 5)]] [?b3_0, ?b3_1, ?b3_1, ?b3_3, ?b3_4, ?b3_5, ?b3_6] mixed (by kernel_rfl) (by kernel_rfl) hr ?t3 ?o3 ?_
 case o3 =>
  refine oc0 (fun A W hx hf => ?_) ?_
  exact ok_call0 body9 (c_awake08 )
  refine oc0 (fun A W hx hf => ?_) ?_
  exact ok_not (q0 ?b3_0 A W 10 hf)
  refine oc0 (fun A W hx hf => ?_) ?_
  exact ok_move (q0 ?b3_1 A W 11 hf)
  refine ocg 12 ?_ (fun A W hx hf => ?_) ?_
  rfl
  exact gd_f (q1 ?b3_1 A W 12 hf) (fun hc => ok_fieldS 1 Try.underlying28 (k := 1) rfl size3 rfl (o1 s2 hx (r0 hf)) rfl)
  refine ocg 12 ?_ (fun A W hx hf => ?_) ?_
  rfl
  exact gd_f (q1 ?b3_1 A W 12 hf) (fun hc => ok_loadS Try.underlying3 rfl (G.get (q0 ?b3_3 A W 13 hf) hc) rfl)
  refine ocg 12 ?_ (fun A W hx hf => ?_) ?_
  rfl
  exact gd_f (q1 ?b3_1 A W 12 hf) (fun hc => ok_gtr (G.get (q0 ?b3_4 A W 14 hf) hc) (ec A (.int .i64 1000)))
  refine oc0 (fun A W hx hf => ?_) ?_
  exact ok_or (q0 ?b3_1 A W 12 hf) (q1 ?b3_5 A W 15 hf)
  exact OpsOk.nil
 case t3 => exact inferInstance
 clear hr; intro a4 w4 x hr hd hs
 revert s1 s2; refine kp2 hs rfl ?_; intro s1 s2
 have s16 := fa ?b3_6 a4 w4 16 (hd 6 16 rfl)
 replace e_w := e_w.trans x
 have e_w2 := x
 clear hd hs x
 refine exit_then ?_
 refine wp_cond_split (show _ = _ from s16) (fun hg => ?_) (fun hg => ?_)
 · skip
   skip
   refine wp_seq ?_
   refine wp_reg 99 [[], [(17, some 0)]] [?b6_0, ?b6_0] mixed (by kernel_rfl) (by kernel_rfl) hr ?t6 ?o6 ?_
   case o6 =>
    refine oc0 (fun A W hx hf => ?_) ?_
    exact ok_call0 body9 (c_awake08 )
    refine oc0 (fun A W hx hf => ?_) ?_
    exact ok_assign (q0 ?b6_0 A W 17 hf)
    exact OpsOk.nil
   case t6 => exact inferInstance
   clear hr; intro a7 w7 x hr hd hs
   clear s1 s2 s16
   have s4 := fa ?b6_0 a7 w7 4 (hd 1 4 rfl)
   replace e_w := e_w.trans x
   clear e_w2
   clear hd hs x
   refine exit_then ?_
   refine wp_ret ?_
   refine then_ret ?_
   refine ret_tmp Try.results7 hr e_w ?_
   first | with_reducible exact s4 | exact Is.bool s4 (flags_end hz y1) | exact Is.bool s4 (by simp [fourPutR, hr9]) | exact Is.bool s4 (by simp)
 · skip
   have hg : H.total ≤ 1000 := by simpa using hg
   refine wp_skip ?_
   refine exit_then ?_
   refine wp_seq ?_
   refine wp_reg 99 [[(2, none)], [(19, some 0)], [(20, some 1)], [(18, some 2)], [(18, some 2)], [(21, some 3)], [(22, some 4)]] [?b8_0, ?b8_1, ?b8_1, ?b8_3, ?b8_4, ?b8_3, ?b8_4] mixed (by kernel_rfl) (by kernel_rfl) hr ?t8 ?o8 ?_
   case o8 =>
    refine oc0 (fun A W hx hf => ?_) ?_
    exact ok_loadAggS 12 Try.underlying28 rfl size28 (o2 s2 e_w2 hx (r0 hf)) rfl
    refine oc0 (fun A W hx hf => ?_) ?_
    exact ok_call1 body12 (c_four_Put (show Is (FourV H) _ _ from (q0 ?b8_0 A W 19 hf)) (by exact hH) hx.size)
    refine oc0 (fun A W hx hf => ?_) ?_
    exact ok_move (q0 ?b8_1 A W 20 hf)
    refine oc0 (fun A W hx hf => ?_) ?_
    exact ok_ext0 (q0 ?b8_1 A W 18 hf)
    refine oc0 (fun A W hx hf => ?_) ?_
    exact ok_ext1 (q0 ?b8_1 A W 18 hf)
    refine oc0 (fun A W hx hf => ?_) ?_
    exact ok_assign (q0 ?b8_3 A W 21 hf)
    refine oc0 (fun A W hx hf => ?_) ?_
    exact ok_assign (q0 ?b8_4 A W 22 hf)
    exact OpsOk.nil
   case t8 => exact inferInstance
   clear hr; intro a9 w9 x hr hd hs
   have z_w_w4 := e_w.size
   have z_w2_w4 := e_w2.size
   have l9_2 := PxS.lt (later e_w2 s2)
   revert s1 s2; refine kp2 hs rfl ?_; intro s1 s2
   clear s16
   have s5 := fa ?b8_3 a9 w9 5 (hd 5 5 rfl)
   have s6 := fa ?b8_4 a9 w9 6 (hd 6 6 rfl)
   obtain ⟨g9_5, q9_5⟩ := OwnB.at s5; clear s5; have n9_5 := OwnBA.lt q9_5
   replace q9_5 := OwnBA.mono q9_5 e_w.size
   have s5 := q9_5; clear q9_5
   replace e_w := e_w.trans x
   replace e_w2 := e_w2.trans x
   clear hd hs x
   refine exit_then ?_
   refine wp_seq ?_
   refine wp_seq ?_
   refine wp_reg 99 [[(6, none)], [(23, some 0)]] [?b10_0, ?b10_1] mixed (by kernel_rfl) (by kernel_rfl) hr ?t10 ?o10 ?_
   case o10 =>
    refine oc0 (fun A W hx hf => ?_) ?_
    exact ok_movE (a0 := a9) (r0 hf)
    refine oc0 (fun A W hx hf => ?_) ?_
    exact ok_neq (p1 s6 hx (q0 ?b10_0 A W 23 hf)) (ec A (.int .i64 0))
    exact OpsOk.nil
   case t10 => exact inferInstance
   clear hr; intro a11 w11 x hr hd hs
   revert s1 s2 s5; refine kp3 hs rfl ?_; intro s1 s2 s5
   clear s6
   have s24 := fa ?b10_1 a11 w11 24 (hd 1 24 rfl)
   replace e_w := e_w.trans x
   replace e_w2 := e_w2.trans x
   have e_w9 := x
   clear hd hs x
   refine exit_then ?_
   refine wp_cond_split (show _ = _ from s24) (fun hr9 => ?_) (fun hr9 => ?_)
   · skip
     have hr9 : fourRight H = false := putR_no hr9
     refine wp_seq ?_
     refine wp_reg 99 [[(5, none)], [(25, some 0)], [(26, some 1)], [(27, some 2)]] [?b13_0, ?b13_1, ?b13_2, ?b13_2] mixed (by kernel_rfl) (by kernel_rfl) hr ?t13 ?o13 ?_
     case o13 =>
      refine oc0 (fun A W hx hf => ?_) ?_
      exact ok_movE (a0 := a11) (r0 hf)
      refine oc0 (fun A W hx hf => ?_) ?_
      exact ok_len_bs Try.underlying22 (OwnBA.bs (p2 s5 e_w9 hx (q0 ?b13_0 A W 25 hf)))
      refine oc0 (fun A W hx hf => ?_) ?_
      exact ok_eql (q0 ?b13_1 A W 26 hf) (ec A (.int .i64 0))
      refine oc0 (fun A W hx hf => ?_) ?_
      exact ok_assign (q0 ?b13_2 A W 27 hf)
      exact OpsOk.nil
     case t13 => exact inferInstance
     clear hr; intro a14 w14 x hr hd hs
     clear s1 s2 s5 s24
     have s4 := fa ?b13_2 a14 w14 4 (hd 3 4 rfl)
     replace e_w := e_w.trans x
     clear e_w2
     clear e_w9
     clear hd hs x
     refine exit_then ?_
     refine wp_ret ?_
     refine then_ret ?_
     refine ret_tmp Try.results7 hr e_w ?_
     first | with_reducible exact s4 | exact Is.bool s4 (flags_end hz y1) | exact Is.bool s4 (by simp [fourPutR, hr9]) | exact Is.bool s4 (by simp)
   · skip
     have hr9 : fourRight H = true := putR_yes hr9
     obtain ⟨k1, k2, k3, k4, k5, k6, k7⟩ := fourRight_bd hr9
     have hp1 : fourPutR H = (fourPut H, 0) := by unfold fourPutR; rw [if_pos hr9]
     replace s5 := OwnBA.cast s5 (show _ = fourPut H from by rw [hp1])
     refine wp_skip ?_
     refine exit_then ?_
     refine wp_seq ?_
     refine wp_block ?_
     refine wp_loop_inv (fun n A W => ∃ (i β : Nat), n = H.total.toNat - (20 + i) ∧ Fr 99 A ∧ Same D_law_FourFlags_0 a11 A ∧ Ext w W ∧ (20 + i ≤ H.total.toNat) ∧ (g2_2 ≠ β) ∧ (PxS g2_2 w.heap.size [1, 1, 1, 1, 1, 1, 1, 1, 1, 16, 1, 16] (fourS2 H) 0) (A.eval (.tmp 2)) W ∧ (OwnBA β w.heap.size 5 (fourPut H ++ List.replicate i 0)) (A.eval (.tmp 5)) W) ?start15 ?_
     case start15 =>
      refine ⟨_, 0, g9_5, rfl, hr, Same.rfl, e_w, (by first | assumption | omega), (by first | assumption | omega), ?_, ?_⟩
      · exact (later e_w2 s2)
      · exact OwnBA.cast (later e_w9 s5) (by simp)
     intro n15 a15 w15 hI
     clear e_w
     clear e_w2
     clear e_w9
     clear hr; obtain ⟨i, β, hn15, hr, hs, e_w, hi, ne1, u2, u5⟩ := hI
     revert s1; refine kp1 hs rfl ?_; intro s1
     clear s2 s5 s24
     have s2 := u2; clear u2
     have s5 := u5; clear u5
     have m15 := hs; clear hs
     refine wp_seq ?_
     refine wp_seq ?_
     refine wp_reg 99 [[(5, none)], [(28, some 0)], [(2, none)], [(30, some 2)], [(29, some 1), (31, some 3)]] [?b16_0, ?b16_1, ?b16_2, ?b16_3, ?b16_4] mixed (by kernel_rfl) (by kernel_rfl) hr ?t16 ?o16 ?_
     case o16 =>
      refine oc0 (fun A W hx hf => ?_) ?_
      exact ok_movE (a0 := a15) (r0 hf)
      refine oc0 (fun A W hx hf => ?_) ?_
      exact ok_len_bs Try.underlying22 (OwnBA.bs (p1 s5 hx (q0 ?b16_0 A W 28 hf)))
      refine oc0 (fun A W hx hf => ?_) ?_
      exact ok_fieldS 1 Try.underlying28 (k := 1) rfl size3 rfl (o1 s2 hx (r0 hf)) rfl
      refine oc0 (fun A W hx hf => ?_) ?_
      exact ok_loadS Try.underlying3 rfl (q0 ?b16_2 A W 30 hf) rfl
      refine oc0 (fun A W hx hf => ?_) ?_
      exact ok_lss (q0 ?b16_1 A W 29 hf) (q1 ?b16_3 A W 31 hf)
      exact OpsOk.nil
     case t16 => exact inferInstance
     clear hr; intro a17 w17 x hr hd hs
     revert s1 s2 s5; refine kp3 hs rfl ?_; intro s1 s2 s5
     have s32 := fa ?b16_4 a17 w17 32 (hd 4 32 rfl)
     replace e_w := e_w.trans x
     have e_w15 := x
     replace m15 := m15.tr hs rfl
     clear hd hs x
     refine exit_then ?_
     refine wp_cond_split (show _ = _ from s32) (fun hlt => ?_) (fun hlt => ?_)
     · skip
       have hlt : 20 + i < H.total.toNat := by simp [hpl] at hlt; omega
       refine wp_skip ?_
       refine exit_then ?_
       refine wp_block ?_
       refine wp_reg_pre (l := [_, _]) (rest := [_, _]) 99 [[(5, none)], []] [?b19_0, ?b19_1] (by kernel_rfl) (by kernel_rfl) hr ?t19 ?o19 ?_
       case o19 =>
        refine oc0 (fun A W hx hf => ?_) ?_
        exact ok_movE (a0 := a17) (r0 hf)
        refine oc0 (fun A W hx hf => ?_) ?_
        exact ok_buildBs [(.const (.int .u8 0))] [_] Try.underlying22 size5 zero5 rfl rfl (by decide) (PartsOk.cons (show ByteIs 0 _ _ from rfl) (PartsOk.nil))
        exact OpsOk.nil
       case t19 => exact inferInstance
       clear hr; intro a20 w20 x hr hd hs
       have u33 := mv s5 (fa ?b19_0 a20 w20 33 (hd 0 33 rfl))
       revert s1 s2 s5; refine kp3 hs rfl ?_; intro s1 s2 s5
       clear s32
       have s33 := u33; clear u33
       have s34 := fa ?b19_1 a20 w20 34 (hd 1 34 rfl)
       replace e_w := e_w.trans x
       replace e_w15 := e_w15.trans x
       replace m15 := m15.tr hs rfl
       clear hd hs x
       have l21 := OwnBA.lt (later e_w15 s33)
       have l21_2 := PxS.lt (later e_w15 s2)
       refine wl_append_bsA hr (by decide) Try.underlying22 info5 rfl (later e_w15 s33) s34 e_w.size (by first | (simp [hpl]; done) | (simp [hpl]; omega)) ?_; clear hr; intro g21 a21 w21 hg21 hc hr hd hs
       have hb := hc.below e_w.size l21.1
       revert s1 s2; refine kp2 hs rfl ?_; intro s1 s2
       clear s5 s33 s34
       replace s2 := PxS.other (later e_w15 s2) hc (by omega)
       have s35 := hd
       replace e_w := e_w.below (Nat.le_refl _) hb
       clear e_w15
       replace m15 := m15.tr hs rfl
       clear hd hs hb hc
       refine wl_op hr (ok_assign s35) inferInstance ?_; clear hr; intro a22 w22 x hr hd hs
       revert s1 s2; refine kp2 hs rfl ?_; intro s1 s2
       clear s35
       have s5 := hd 5 rfl (by decide)
       replace e_w := e_w.trans x
       have e_w21 := x
       replace m15 := m15.tr hs rfl
       clear hd hs x
       refine wpList_nil ?_
       refine blk_normal ?_
       refine exit_then ?_
       refine ⟨(fun (i β : Nat) => H.total.toNat - (20 + i)) (i + 1) (0), ?_, ?_⟩
       · (try dsimp only); omega
       refine ⟨i + 1, g21, rfl, hr, m15, e_w, (by first | assumption | omega), (by first | assumption | omega), ?_, ?_⟩
       · exact (later e_w21 s2)
       · exact OwnBA.cast s5 (by rw [List.append_assoc, List.replicate_succ'])
     · skip
       have hlt : 20 + i = H.total.toNat := by simp [hpl] at hlt; omega
       have hal : (fourPut H ++ List.replicate i 0).length = 20 + i := by simp [hpl]
       obtain ⟨y1, y2⟩ := flags_bits hz
       have hcb := ck_bd (hdr H (b8 (z / 2 ^ 8)) (b8 z) 0 0)
       have hb1 := read_sumd hH hr9 (f := b8 (z / 2 ^ 8)) (g := b8 z) (r := List.replicate i 0) (by simp; omega)
       refine wp_exit ?_
       refine then_exit ?_
       refine then_exit ?_
       refine blk_exit ?_
       refine exit_then ?_
       refine wp_seq ?_
       refine wp_reg_pre (l := [_, _, _, _, _]) (rest := [_]) 99 [[(5, none)], [(1, none)], [(37, some 1)], [(38, some 2)], [(36, some 0)]] [?b23_0, ?b23_1, ?b23_2, ?b23_3, ?b23_4] (by kernel_rfl) (by kernel_rfl) hr ?t23 ?o23 ?_
       case o23 =>
        refine oc0 (fun A W hx hf => ?_) ?_
        exact ok_movE (a0 := a17) (r0 hf)
        refine oc0 (fun A W hx hf => ?_) ?_
        exact ok_movE (a0 := a17) (r0 hf)
        refine oc0 (fun A W hx hf => ?_) ?_
        exact ok_shr 8 (by decide) (p2 s1 e_w hx (q0 ?b23_1 A W 37 hf)) (ec A (.int .u64 8))
        refine oc0 (fun A W hx hf => ?_) ?_
        exact ok_conv8 Try.underlying40 Try.underlying5 (q0 ?b23_2 A W 38 hf)
        refine oc0 (fun A W hx hf => ?_) ?_
        exact ok_indexA (6) Try.underlying22 size5 (p2 s5 e_w15 hx (q0 ?b23_0 A W 36 hf)) (ec A (.int .i64 6)) (by omega)
        exact OpsOk.nil
       case t23 => exact inferInstance
       clear hr; intro a24 w24 x hr hd hs
       revert s1 s2 s5; refine kp3 hs rfl ?_; intro s1 s2 s5
       clear s32
       have s39 := fa ?b23_3 a24 w24 39 (hd 3 39 rfl)
       have s40 := fa ?b23_4 a24 w24 40 (hd 4 40 rfl)
       replace e_w := e_w.trans x
       replace e_w15 := e_w15.trans x
       clear hd hs x
       have z25 := EpA.lt s40
       have l25 := (show (β = 0 ∨ w.heap.size < β) ∧ True from ⟨by omega, trivial⟩)
       have l25_2 := PxS.lt (later e_w15 s2)
       refine wl_storeA hr size5 s40 s39 ?_; clear hr; intro a25 w25 hc hu hr hs
       have hb : Below w.heap.size w24 w25 := hc.below e_w.size l25.1
       revert s1 s2 s5; refine kp3 hs rfl ?_; intro s1 s2 s5
       clear s39 s40
       replace s2 := PxS.other (later e_w15 s2) hc (by omega)
       replace s5 := hu _ _ _ (later e_w15 s5)
       replace e_w := e_w.below (Nat.le_refl _) hb
       clear e_w15
       clear hu hs hc hb
       refine wpList_nil ?_
       refine exit_then ?_
       refine wp_seq ?_
       refine wp_reg_pre (l := [_, _, _, _]) (rest := [_]) 99 [[(5, none)], [(1, none)], [(42, some 1)], [(41, some 0)]] [?b26_0, ?b26_1, ?b26_2, ?b26_3] (by kernel_rfl) (by kernel_rfl) hr ?t26 ?o26 ?_
       case o26 =>
        refine oc0 (fun A W hx hf => ?_) ?_
        exact ok_movE (a0 := a25) (r0 hf)
        refine oc0 (fun A W hx hf => ?_) ?_
        exact ok_movE (a0 := a25) (r0 hf)
        refine oc0 (fun A W hx hf => ?_) ?_
        exact ok_conv8 Try.underlying40 Try.underlying5 (p2 s1 e_w hx (q0 ?b26_1 A W 42 hf))
        refine oc0 (fun A W hx hf => ?_) ?_
        exact ok_indexA (7) Try.underlying22 size5 (p1 s5 hx (q0 ?b26_0 A W 41 hf)) (ec A (.int .i64 7)) (by simp [hpl]; omega)
        exact OpsOk.nil
       case t26 => exact inferInstance
       clear hr; intro a27 w27 x hr hd hs
       revert s1 s2 s5; refine kp3 hs rfl ?_; intro s1 s2 s5
       have s43 := fa ?b26_2 a27 w27 43 (hd 2 43 rfl)
       have s44 := fa ?b26_3 a27 w27 44 (hd 3 44 rfl)
       replace e_w := e_w.trans x
       have e_w25 := x
       clear hd hs x
       have z28 := EpA.lt s44
       have l28 := (show (β = 0 ∨ w.heap.size < β) ∧ True from ⟨by omega, trivial⟩)
       have l28_2 := PxS.lt (later e_w25 s2)
       refine wl_storeA hr size5 s44 s43 ?_; clear hr; intro a28 w28 hc hu hr hs
       have hb : Below w.heap.size w27 w28 := hc.below e_w.size l28.1
       revert s1 s2 s5; refine kp3 hs rfl ?_; intro s1 s2 s5
       clear s43 s44
       replace s2 := PxS.other (later e_w25 s2) hc (by omega)
       replace s5 := hu _ _ _ (later e_w25 s5)
       replace e_w := e_w.below (Nat.le_refl _) hb
       clear e_w25
       clear hu hs hc hb
       refine wpList_nil ?_
       refine exit_then ?_
       refine wp_seq ?_
       refine wp_reg_pre (l := [_, _]) (rest := [_]) 99 [[(5, none)], [(45, some 0)]] [?b29_0, ?b29_1] (by kernel_rfl) (by kernel_rfl) hr ?t29 ?o29 ?_
       case o29 =>
        refine oc0 (fun A W hx hf => ?_) ?_
        exact ok_movE (a0 := a28) (r0 hf)
        refine oc0 (fun A W hx hf => ?_) ?_
        exact ok_indexA (10) Try.underlying22 size5 (p1 s5 hx (q0 ?b29_0 A W 45 hf)) (ec A (.int .i64 10)) (by simp [hpl]; omega)
        exact OpsOk.nil
       case t29 => exact inferInstance
       clear hr; intro a30 w30 x hr hd hs
       revert s1 s2 s5; refine kp3 hs rfl ?_; intro s1 s2 s5
       have s46 := fa ?b29_1 a30 w30 46 (hd 1 46 rfl)
       replace e_w := e_w.trans x
       have e_w28 := x
       clear hd hs x
       have z31 := EpA.lt s46
       have l31 := (show (β = 0 ∨ w.heap.size < β) ∧ True from ⟨by omega, trivial⟩)
       have l31_2 := PxS.lt (later e_w28 s2)
       refine wl_storeA hr size5 s46 (show ByteIs 0 _ _ from rfl) ?_; clear hr; intro a31 w31 hc hu hr hs
       have hb : Below w.heap.size w30 w31 := hc.below e_w.size l31.1
       revert s1 s2 s5; refine kp3 hs rfl ?_; intro s1 s2 s5
       clear s46
       replace s2 := PxS.other (later e_w28 s2) hc (by omega)
       replace s5 := hu _ _ _ (later e_w28 s5)
       replace e_w := e_w.below (Nat.le_refl _) hb
       clear e_w28
       clear hu hs hc hb
       refine wpList_nil ?_
       refine exit_then ?_
       refine wp_seq ?_
       refine wp_reg_pre (l := [_, _]) (rest := [_]) 99 [[(5, none)], [(47, some 0)]] [?b32_0, ?b32_1] (by kernel_rfl) (by kernel_rfl) hr ?t32 ?o32 ?_
       case o32 =>
        refine oc0 (fun A W hx hf => ?_) ?_
        exact ok_movE (a0 := a31) (r0 hf)
        refine oc0 (fun A W hx hf => ?_) ?_
        exact ok_indexA (11) Try.underlying22 size5 (p1 s5 hx (q0 ?b32_0 A W 47 hf)) (ec A (.int .i64 11)) (by simp [hpl]; omega)
        exact OpsOk.nil
       case t32 => exact inferInstance
       clear hr; intro a33 w33 x hr hd hs
       revert s1 s2 s5; refine kp3 hs rfl ?_; intro s1 s2 s5
       have s48 := fa ?b32_1 a33 w33 48 (hd 1 48 rfl)
       replace e_w := e_w.trans x
       have e_w31 := x
       clear hd hs x
       have z34 := EpA.lt s48
       have l34 := (show (β = 0 ∨ w.heap.size < β) ∧ True from ⟨by omega, trivial⟩)
       have l34_2 := PxS.lt (later e_w31 s2)
       refine wl_storeA hr size5 s48 (show ByteIs 0 _ _ from rfl) ?_; clear hr; intro a34 w34 hc hu hr hs
       have hb : Below w.heap.size w33 w34 := hc.below e_w.size l34.1
       revert s1 s2 s5; refine kp3 hs rfl ?_; intro s1 s2 s5
       clear s48
       replace s2 := PxS.other (later e_w31 s2) hc (by omega)
       replace s5 := hu _ _ _ (later e_w31 s5)
       replace e_w := e_w.below (Nat.le_refl _) hb
       clear e_w31
       clear hu hs hc hb
       refine wpList_nil ?_
       replace s5 := OwnBA.cast s5 (show _ = hdr H (b8 (z / 2 ^ 8)) (b8 z) 0 0 ++ List.replicate i 0 from by rw [fourPut_hdr hH]; rfl)
       refine exit_then ?_
       refine wp_seq ?_
       refine wp_reg 99 [[(5, none)], [(49, some 0)], [(50, some 1)], [(51, some 2)]] [?b35_0, ?b35_1, ?b35_2, ?b35_2] mixed (by kernel_rfl) (by kernel_rfl) hr ?t35 ?o35 ?_
       case o35 =>
        refine oc0 (fun A W hx hf => ?_) ?_
        exact ok_movE (a0 := a34) (r0 hf)
        refine oc0 (fun A W hx hf => ?_) ?_
        exact ok_slice_hi (20) Try.underlying22 size5 (OwnBA.bs (p1 s5 hx (q0 ?b35_0 A W 49 hf))) (ec A (.int .i64 20)) (by simp [hdr_len hH])
        refine oc0 (fun A W hx hf => ?_) ?_
        exact ok_call1 body16 (c_rSum (q0 ?b35_1 A W 50 hf) (by simp; omega))
        refine oc0 (fun A W hx hf => ?_) ?_
        exact ok_assign (q0 ?b35_2 A W 51 hf)
        exact OpsOk.nil
       case t35 => exact inferInstance
       clear hr; intro a36 w36 x hr hd hs
       revert s1 s2 s5; refine kp3 hs rfl ?_; intro s1 s2 s5
       have s7 := fa ?b35_2 a36 w36 7 (hd 3 7 rfl)
       replace e_w := e_w.trans x
       have e_w34 := x
       clear hd hs x
       replace s7 := Is.int s7 (show _ = ck (hdr H (b8 (z / 2 ^ 8)) (b8 z) 0 0) from by rw [List.take_append_of_le_length (by rw [hdr_len hH]; omega), List.take_of_length_le (by rw [hdr_len hH]; omega)])
       refine exit_then ?_
       refine wp_seq ?_
       refine wp_reg_pre (l := [_, _, _, _, _]) (rest := [_]) 99 [[(5, none)], [(7, none)], [(53, some 1)], [(54, some 2)], [(52, some 0)]] [?b37_0, ?b37_1, ?b37_2, ?b37_3, ?b37_4] (by kernel_rfl) (by kernel_rfl) hr ?t37 ?o37 ?_
       case o37 =>
        refine oc0 (fun A W hx hf => ?_) ?_
        exact ok_movE (a0 := a36) (r0 hf)
        refine oc0 (fun A W hx hf => ?_) ?_
        exact ok_movE (a0 := a36) (r0 hf)
        refine oc0 (fun A W hx hf => ?_) ?_
        exact ok_quo (by decide) (p1 s7 hx (q0 ?b37_1 A W 53 hf)) (ec A (.int .i64 256))
        refine oc0 (fun A W hx hf => ?_) ?_
        exact ok_conv8 Try.underlying3 Try.underlying5 (q0 ?b37_2 A W 54 hf)
        refine oc0 (fun A W hx hf => ?_) ?_
        exact ok_indexA (10) Try.underlying22 size5 (p2 s5 e_w34 hx (q0 ?b37_0 A W 52 hf)) (ec A (.int .i64 10)) (by simp [hdr_len hH]; omega)
        exact OpsOk.nil
       case t37 => exact inferInstance
       clear hr; intro a38 w38 x hr hd hs
       revert s1 s2 s5 s7; refine kp4 hs rfl ?_; intro s1 s2 s5 s7
       have s55 := fa ?b37_3 a38 w38 55 (hd 3 55 rfl)
       have s56 := fa ?b37_4 a38 w38 56 (hd 4 56 rfl)
       replace e_w := e_w.trans x
       replace e_w34 := e_w34.trans x
       have e_w36 := x
       clear hd hs x
       have z39 := EpA.lt s56
       have l39 := (show (β = 0 ∨ w.heap.size < β) ∧ True from ⟨by omega, trivial⟩)
       have l39_2 := PxS.lt (later e_w34 s2)
       refine wl_storeA hr size5 s56 s55 ?_; clear hr; intro a39 w39 hc hu hr hs
       have hb : Below w.heap.size w38 w39 := hc.below e_w.size l39.1
       revert s1 s2 s5 s7; refine kp4 hs rfl ?_; intro s1 s2 s5 s7
       clear s55 s56
       replace s2 := PxS.other (later e_w34 s2) hc (by omega)
       replace s5 := hu _ _ _ (later e_w34 s5)
       replace e_w := e_w.below (Nat.le_refl _) hb
       clear e_w34
       clear e_w36
       replace s7 := anyw (w2 := w39) s7
       clear hu hs hc hb
       refine wpList_nil ?_
       refine exit_then ?_
       refine wp_seq ?_
       refine wp_reg_pre (l := [_, _, _, _, _]) (rest := [_]) 99 [[(5, none)], [(7, none)], [(58, some 1)], [(59, some 2)], [(57, some 0)]] [?b40_0, ?b40_1, ?b40_2, ?b40_3, ?b40_4] (by kernel_rfl) (by kernel_rfl) hr ?t40 ?o40 ?_
       case o40 =>
        refine oc0 (fun A W hx hf => ?_) ?_
        exact ok_movE (a0 := a39) (r0 hf)
        refine oc0 (fun A W hx hf => ?_) ?_
        exact ok_movE (a0 := a39) (r0 hf)
        refine oc0 (fun A W hx hf => ?_) ?_
        exact ok_rem (by decide) (p1 s7 hx (q0 ?b40_1 A W 58 hf)) (ec A (.int .i64 256))
        refine oc0 (fun A W hx hf => ?_) ?_
        exact ok_conv8 Try.underlying3 Try.underlying5 (q0 ?b40_2 A W 59 hf)
        refine oc0 (fun A W hx hf => ?_) ?_
        exact ok_indexA (11) Try.underlying22 size5 (p1 s5 hx (q0 ?b40_0 A W 57 hf)) (ec A (.int .i64 11)) (by simp [hdr_len hH]; omega)
        exact OpsOk.nil
       case t40 => exact inferInstance
       clear hr; intro a41 w41 x hr hd hs
       revert s1 s2 s5; refine kp3 hs rfl ?_; intro s1 s2 s5
       clear s7
       have s60 := fa ?b40_3 a41 w41 60 (hd 3 60 rfl)
       have s61 := fa ?b40_4 a41 w41 61 (hd 4 61 rfl)
       replace e_w := e_w.trans x
       have e_w39 := x
       clear hd hs x
       have z42 := EpA.lt s61
       have l42 := (show (β = 0 ∨ w.heap.size < β) ∧ True from ⟨by omega, trivial⟩)
       have l42_2 := PxS.lt (later e_w39 s2)
       refine wl_storeA hr size5 s61 s60 ?_; clear hr; intro a42 w42 hc hu hr hs
       have hb : Below w.heap.size w41 w42 := hc.below e_w.size l42.1
       revert s1 s2 s5; refine kp3 hs rfl ?_; intro s1 s2 s5
       clear s60 s61
       replace s2 := PxS.other (later e_w39 s2) hc (by omega)
       replace s5 := hu _ _ _ (later e_w39 s5)
       replace e_w := e_w.below (Nat.le_refl _) hb
       clear e_w39
       clear hu hs hc hb
       refine wpList_nil ?_
       replace s5 := OwnBA.cast s5 (show _ = sumd H (b8 (z / 2 ^ 8)) (b8 z) ++ List.replicate i 0 from by rw [b8_quo hcb, b8_rem hcb.1, show ((2 : Int) ^ 8) = 256 from rfl]; rfl)
       refine exit_then ?_
       refine wp_seq ?_
       refine wp_reg_pre (l := [_, _, _, _, _, _]) (rest := [_, _]) 99 [[(5, none)], [(63, some 0)], [(64, some 1)], [(62, some 2)], [(62, some 2)], []] [?b43_0, ?b43_1, ?b43_1, ?b43_3, ?b43_4, ?b43_5] (by kernel_rfl) (by kernel_rfl) hr ?t43 ?o43 ?_
       case o43 =>
        refine oc0 (fun A W hx hf => ?_) ?_
        exact ok_movE (a0 := a42) (r0 hf)
        refine oc0 (fun A W hx hf => ?_) ?_
        exact ok_call1 body10 (c_four_Read (OwnBA.bs (p1 s5 hx (q0 ?b43_0 A W 63 hf))))
        refine oc0 (fun A W hx hf => ?_) ?_
        exact ok_move (q0 ?b43_1 A W 64 hf)
        refine oc0 (fun A W hx hf => ?_) ?_
        exact ok_ext0 (q0 ?b43_1 A W 62 hf)
        refine oc0 (fun A W hx hf => ?_) ?_
        exact ok_ext1 (q0 ?b43_1 A W 62 hf)
        refine oc0 (fun A W hx hf => ?_) ?_
        exact ok_allocS (fourS2 four0) [1, 1, 1, 1, 1, 1, 1, 1, 1, 16, 1, 16] zerov28 (by rfl) (by rfl) hx.size
        exact OpsOk.nil
       case t43 => exact inferInstance
       clear hr; intro a44 w44 x hr hd hs
       have z_w_w42 := e_w.size
       have l44_2 := PxS.lt s2
       have l44_5 := OwnBA.lt s5
       revert s1 s2; refine kp2 hs rfl ?_; intro s1 s2
       clear s5
       have s65 := fa ?b43_3 a44 w44 65 (hd 3 65 rfl)
       have s66 := fa ?b43_4 a44 w44 66 (hd 4 66 rfl)
       have s8 := fa ?b43_5 a44 w44 8 (hd 5 8 rfl)
       obtain ⟨g44_8, q44_8⟩ := PxN.at s8; clear s8; have n44_8 := PxS.lt q44_8
       replace q44_8 := PxS.mono q44_8 e_w.size
       have s8 := q44_8; clear q44_8
       replace e_w := e_w.trans x
       have e_w42 := x
       clear hd hs x
       have z45 := PxS.lt s8
       have l45 := (show (g44_8 = 0 ∨ w.heap.size < g44_8) ∧ True from ⟨by omega, trivial⟩)
       have l45_2 := PxS.lt (later e_w42 s2)
       refine wl_storeSm (fourS2 (fourRead (sumd H (b8 (z / 2 ^ 8)) (b8 z) ++ List.replicate i 0)).1) hr size28 s8 s65 (by exact fourS2_lens (fourRead_ok _)) (by exact four_one) rfl ?_; clear hr; intro a45 w45 hc hu hr hs
       have hb : Below w.heap.size w44 w45 := hc.below e_w.size l45.1
       revert s1 s2 s66 s8; refine kp4 hs rfl ?_; intro s1 s2 s66 s8
       clear s65
       replace s2 := PxS.other (later e_w42 s2) hc (by omega)
       replace s8 := hu _ _ _ s8
       try simp only [List.set_cons_zero, List.set_cons_succ] at s8
       replace e_w := e_w.below (Nat.le_refl _) hb
       clear e_w42
       replace s66 := anyw (w2 := w45) s66
       clear hu hs hc hb
       refine wl_op hr (ok_assign s66) inferInstance ?_; clear hr; intro a46 w46 x hr hd hs
       revert s1 s2 s8; refine kp3 hs rfl ?_; intro s1 s2 s8
       clear s66
       have s9 := hd 9 rfl (by decide)
       replace e_w := e_w.trans x
       have e_w45 := x
       clear hd hs x
       refine wpList_nil ?_
       rw [hb1] at s8 s9
       refine exit_then ?_
       refine wp_seq ?_
       refine wp_reg 99 [[(9, none)], [(67, some 0)], [(68, some 1)], [(8, none), (69, some 2)], [(70, some 3), (69, some 2)], [(1, none), (69, some 2)], [(72, some 5), (69, some 2)], [(73, some 6), (69, some 2)], [(71, some 4), (74, some 7), (69, some 2)], [(69, some 2), (75, some 8)], [(76, some 9)], [(8, none), (77, some 10)], [(78, some 11), (77, some 10)], [(1, none), (77, some 10)], [(80, some 13), (77, some 10)], [(81, some 14), (77, some 10)], [(79, some 12), (82, some 15), (77, some 10)], [(77, some 10), (83, some 16)], [(84, some 17)], [(8, none), (85, some 18)], [(86, some 19), (85, some 18)], [(2, none), (85, some 18)], [(88, some 21), (85, some 18)], [(87, some 20), (89, some 22), (85, some 18)], [(85, some 18), (90, some 23)], [(91, some 24)], [(8, none), (92, some 25)], [(93, some 26), (92, some 25)], [(2, none), (92, some 25)], [(95, some 28), (92, some 25)], [(94, some 27), (96, some 29), (92, some 25)], [(92, some 25), (97, some 30)], [(98, some 31)]] [?b47_0, ?b47_1, ?b47_1, ?b47_3, ?b47_4, ?b47_5, ?b47_6, ?b47_7, ?b47_8, ?b47_9, ?b47_9, ?b47_11, ?b47_12, ?b47_13, ?b47_14, ?b47_15, ?b47_16, ?b47_17, ?b47_17, ?b47_19, ?b47_20, ?b47_21, ?b47_22, ?b47_23, ?b47_24, ?b47_24, ?b47_26, ?b47_27, ?b47_28, ?b47_29, ?b47_30, ?b47_31, ?b47_31] mixed (by kernel_rfl) (by kernel_rfl) hr ?t47 ?o47 ?_
       case o47 =>
        refine oc0 (fun A W hx hf => ?_) ?_
        exact ok_movE (a0 := a46) (r0 hf)
        refine oc0 (fun A W hx hf => ?_) ?_
        exact ok_eql (p1 s9 hx (q0 ?b47_0 A W 67 hf)) (ec A (.int .i64 0))
        refine oc0 (fun A W hx hf => ?_) ?_
        exact ok_move (q0 ?b47_1 A W 68 hf)
        refine ocg 69 ?_ (fun A W hx hf => ?_) ?_
        rfl
        exact gd_t (q1 ?b47_1 A W 69 hf) (fun hc => ok_fieldS 4 Try.underlying28 (k := 4) rfl size4 rfl (o2 s8 e_w45 hx (r0 hf)) rfl)
        refine ocg 69 ?_ (fun A W hx hf => ?_) ?_
        rfl
        exact gd_t (q1 ?b47_1 A W 69 hf) (fun hc => ok_loadS Try.underlying4 rfl (G.get (q0 ?b47_3 A W 70 hf) hc) rfl)
        refine ocg 69 ?_ (fun A W hx hf => ?_) ?_
        rfl
        exact gd_t (q1 ?b47_1 A W 69 hf) (fun hc => ok_movE (a0 := a46) (r0 hf))
        refine ocg 69 ?_ (fun A W hx hf => ?_) ?_
        rfl
        exact gd_t (q1 ?b47_1 A W 69 hf) (fun hc => ok_andm 14 (by decide) (p2 s1 e_w hx (G.get (q0 ?b47_5 A W 72 hf) hc)) (ec A (.int .u16 16383)) (by decide) (by simp [IntKind.max, IntKind.signed, IntKind.bits]; omega))
        refine ocg 69 ?_ (fun A W hx hf => ?_) ?_
        rfl
        exact gd_t (q1 ?b47_1 A W 69 hf) (fun hc => ok_neq (G.get (q0 ?b47_6 A W 73 hf) hc) (ec A (.int .u16 0)))
        refine ocg 69 ?_ (fun A W hx hf => ?_) ?_
        rfl
        exact gd_t (q2 ?b47_1 A W 69 hf) (fun hc => ok_eqb Try.underlying4 (G.get (q0 ?b47_4 A W 71 hf) hc) (G.get (q1 ?b47_7 A W 74 hf) hc))
        refine oc0 (fun A W hx hf => ?_) ?_
        exact ok_and (q0 ?b47_1 A W 69 hf) (q1 ?b47_8 A W 75 hf)
        refine oc0 (fun A W hx hf => ?_) ?_
        exact ok_move (q0 ?b47_9 A W 76 hf)
        refine ocg 77 ?_ (fun A W hx hf => ?_) ?_
        rfl
        exact gd_t (q1 ?b47_9 A W 77 hf) (fun hc => ok_fieldS 5 Try.underlying28 (k := 5) rfl size4 rfl (o2 s8 e_w45 hx (r0 hf)) rfl)
        refine ocg 77 ?_ (fun A W hx hf => ?_) ?_
        rfl
        exact gd_t (q1 ?b47_9 A W 77 hf) (fun hc => ok_loadS Try.underlying4 rfl (G.get (q0 ?b47_11 A W 78 hf) hc) rfl)
        refine ocg 77 ?_ (fun A W hx hf => ?_) ?_
        rfl
        exact gd_t (q1 ?b47_9 A W 77 hf) (fun hc => ok_movE (a0 := a46) (r0 hf))
        refine ocg 77 ?_ (fun A W hx hf => ?_) ?_
        rfl
        exact gd_t (q1 ?b47_9 A W 77 hf) (fun hc => ok_andb (p2 s1 e_w hx (G.get (q0 ?b47_13 A W 80 hf) hc)) (ec A (.int .u16 16384)))
        refine ocg 77 ?_ (fun A W hx hf => ?_) ?_
        rfl
        exact gd_t (q1 ?b47_9 A W 77 hf) (fun hc => ok_neq (G.get (q0 ?b47_14 A W 81 hf) hc) (ec A (.int .u16 0)))
        refine ocg 77 ?_ (fun A W hx hf => ?_) ?_
        rfl
        exact gd_t (q2 ?b47_9 A W 77 hf) (fun hc => ok_eqb Try.underlying4 (G.get (q0 ?b47_12 A W 79 hf) hc) (G.get (q1 ?b47_15 A W 82 hf) hc))
        refine oc0 (fun A W hx hf => ?_) ?_
        exact ok_and (q0 ?b47_9 A W 77 hf) (q1 ?b47_16 A W 83 hf)
        refine oc0 (fun A W hx hf => ?_) ?_
        exact ok_move (q0 ?b47_17 A W 84 hf)
        refine ocg 85 ?_ (fun A W hx hf => ?_) ?_
        rfl
        exact gd_t (q1 ?b47_17 A W 85 hf) (fun hc => ok_fieldS 1 Try.underlying28 (k := 1) rfl size3 rfl (o2 s8 e_w45 hx (r0 hf)) rfl)
        refine ocg 85 ?_ (fun A W hx hf => ?_) ?_
        rfl
        exact gd_t (q1 ?b47_17 A W 85 hf) (fun hc => ok_loadS Try.underlying3 rfl (G.get (q0 ?b47_19 A W 86 hf) hc) rfl)
        refine ocg 85 ?_ (fun A W hx hf => ?_) ?_
        rfl
        exact gd_t (q1 ?b47_17 A W 85 hf) (fun hc => ok_fieldS 1 Try.underlying28 (k := 1) rfl size3 rfl (o2 s2 e_w45 hx (r0 hf)) rfl)
        refine ocg 85 ?_ (fun A W hx hf => ?_) ?_
        rfl
        exact gd_t (q1 ?b47_17 A W 85 hf) (fun hc => ok_loadS Try.underlying3 rfl (G.get (q0 ?b47_21 A W 88 hf) hc) rfl)
        refine ocg 85 ?_ (fun A W hx hf => ?_) ?_
        rfl
        exact gd_t (q2 ?b47_17 A W 85 hf) (fun hc => ok_eql (G.get (q0 ?b47_20 A W 87 hf) hc) (G.get (q1 ?b47_22 A W 89 hf) hc))
        refine oc0 (fun A W hx hf => ?_) ?_
        exact ok_and (q0 ?b47_17 A W 85 hf) (q1 ?b47_23 A W 90 hf)
        refine oc0 (fun A W hx hf => ?_) ?_
        exact ok_move (q0 ?b47_24 A W 91 hf)
        refine ocg 92 ?_ (fun A W hx hf => ?_) ?_
        rfl
        exact gd_t (q1 ?b47_24 A W 92 hf) (fun hc => ok_fieldS 8 Try.underlying28 (k := 8) rfl size26 rfl (o2 s8 e_w45 hx (r0 hf)) rfl)
        refine ocg 92 ?_ (fun A W hx hf => ?_) ?_
        rfl
        exact gd_t (q1 ?b47_24 A W 92 hf) (fun hc => ok_loadAggS 10 Try.underlying26 rfl size26 (G.get (q0 ?b47_26 A W 93 hf) hc) rfl)
        refine ocg 92 ?_ (fun A W hx hf => ?_) ?_
        rfl
        exact gd_t (q1 ?b47_24 A W 92 hf) (fun hc => ok_fieldS 8 Try.underlying28 (k := 8) rfl size26 rfl (o2 s2 e_w45 hx (r0 hf)) rfl)
        refine ocg 92 ?_ (fun A W hx hf => ?_) ?_
        rfl
        exact gd_t (q1 ?b47_24 A W 92 hf) (fun hc => ok_loadAggS 10 Try.underlying26 rfl size26 (G.get (q0 ?b47_28 A W 95 hf) hc) rfl)
        refine ocg 92 ?_ (fun A W hx hf => ?_) ?_
        rfl
        exact gd_t (q2 ?b47_24 A W 92 hf) (fun hc => ok_eqself eqg26 (eq_adr hH.1) (Is.conv (G.get (q0 ?b47_27 A W 94 hf) hc) (show _ = AdrV H.src from (adr_seg H.src))) (Is.conv (G.get (q1 ?b47_29 A W 96 hf) hc) (show _ = AdrV H.src from (adr_seg H.src))))
        refine oc0 (fun A W hx hf => ?_) ?_
        exact ok_and (q0 ?b47_24 A W 92 hf) (q1 ?b47_30 A W 97 hf)
        refine oc0 (fun A W hx hf => ?_) ?_
        exact ok_assign (q0 ?b47_31 A W 98 hf)
        exact OpsOk.nil
       case t47 => repeat (first | exact stb_nil | refine stb_cons ?_)
       clear hr; intro a48 w48 x hr hd hs
       clear s1 s2 s8 s9
       have s4 := fa ?b47_31 a48 w48 4 (hd 32 4 rfl)
       replace e_w := e_w.trans x
       clear e_w45
       clear hd hs x
       refine exit_then ?_
       refine wp_ret ?_
       refine ret_tmp Try.results7 hr e_w ?_
       first | with_reducible exact s4 | exact Is.bool s4 (flags_end hz y1) | exact Is.bool s4 (by simp [fourPutR, hr9]) | exact Is.bool s4 (by simp)

end Go.Proofs.Ytehhjmcdpcilfaa
