import Derived.Test.YtdbjpfjnambenaaC07a
namespace Go.Proofs.Ytdbjpfjnambenaa
open Go.RowKit
set_option linter.unusedVariables false
set_option maxRecDepth 4000
def D_c_r7Read_0 : List Tmp := [3, 5, 7, 8, 9, 10, 11, 12, 13, 14, 15, 16, 17, 18, 19, 20, 21, 22, 23, 24, 25, 26, 27, 28, 29, 30, 31, 32, 33, 34, 35, 36, 37, 38, 39, 40, 41, 42, 43]
def D_c_r7Read_1 : List Tmp := [6, 50, 51, 52, 53, 54, 55, 56, 57, 58, 59, 60, 61, 62, 63, 64, 65, 66, 67, 68]
set_option maxHeartbeats 1000000 in
theorem c_r7Read {x0 : Value} {w : World} {l : List UInt8} {B : Nat} (h0 : (Bs l) x0 w) (hn : l.length ≤ 1000000000000) (hB : B ≤ w.heap.size) :
    Calls Try.prog 11 #[x0] w (Ret (Tup2 (LinkO B 45 (linkRead l).1) (Is (.int .i64 (linkRead l).2))) w) := by
 have hlen := Bs.len_le h0
 refine enter Try.func11 rfl Try.ntmps11 (k := 1) rfl (by decide) (fun a0 hr hargs => ?_)
 have s0 := sarg h0 (hargs 0 (by decide))
 clear hargs
 refine wp_seq ?_
 refine wp_reg 77 [[], []] [?b1_0, ?b1_1] mixed (by kernel_rfl) (by kernel_rfl) hr ?t1 ?o1 ?_
 case o1 =>
  refine oc0 (fun A W hx hf => ?_) ?_
  exact ok_allocS [(lnkS link0 (.slice none 0 0)).flatten] [15] zerov27 (by rfl) (by rfl) hx.size
  refine oc0 (fun A W hx hf => ?_) ?_
  exact ok_assignc
  exact OpsOk.nil
 case t1 => exact inferInstance
 clear hr; intro a2 w2 x hr hd hs
 revert s0; refine kp1 hs rfl ?_; intro s0
 have s2 := fa ?b1_0 a2 w2 2 (hd 0 2 rfl)
 obtain ⟨g2_2, q2_2⟩ := PxN.at s2; clear s2; have n2_2 := PxS.lt q2_2
 have s2 := q2_2; clear q2_2
 have e_w := x
 clear hd hs x
 refine exit_then ?_
 refine wp_seq ?_
 refine wp_reg 77 [[]] [?b3_0] mixed (by kernel_rfl) (by kernel_rfl) hr ?t3 ?o3 ?_
 case o3 =>
  refine oc0 (fun A W hx hf => ?_) ?_
  exact ok_allocS (lnkS link0 (.slice none 0 0)) [6, 6, 1, 1, 1] zerov27 (by rfl) (by rfl) hx.size
  exact OpsOk.nil
 case t3 => exact inferInstance
 clear hr; intro a4 w4 x hr hd hs
 have z_w_w2 := e_w.size
 have l4_2 := PxS.lt s2
 revert s2; revert s0; refine kp2 hs rfl ?_; intro s0 s2
 have s4 := fa ?b3_0 a4 w4 4 (hd 0 4 rfl)
 obtain ⟨g4_4, q4_4⟩ := PxN.at s4; clear s4; have n4_4 := PxS.lt q4_4
 replace q4_4 := PxS.mono q4_4 e_w.size
 have s4 := q4_4; clear q4_4
 replace e_w := e_w.trans x
 have e_w2 := x
 clear hd hs x
 have gT : OwnRA 0 w.heap.size 45 tagR [] (.slice none 0 0) w4 := ownRA_nil
 refine exit_then ?_
 refine wp_seq ?_
 refine wp_reg 77 [[]] [?b5_0] mixed (by kernel_rfl) (by kernel_rfl) hr ?t5 ?o5 ?_
 case o5 =>
  refine oc0 (fun A W hx hf => ?_) ?_
  exact ok_assignc
  exact OpsOk.nil
 case t5 => exact inferInstance
 clear hr; intro a6 w6 x hr hd hs
 revert s4; revert s2; revert s0; refine kp3 hs rfl ?_; intro s0 s2 s4
 have s5 := fa ?b5_0 a6 w6 5 (hd 0 5 rfl)
 replace e_w := e_w.trans x
 replace e_w2 := e_w2.trans x
 have e_w4 := x
 clear hd hs x
 refine exit_then ?_
 refine wp_seq ?_
 refine wp_block ?_
 refine wp_loop_inv (fun n A W => ∃ (k p : Nat) (ts : List TagL) (v : Value) (γ : Nat), n = k ∧ Fr 77 A ∧ Same D_c_r7Read_0 a6 A ∧ Ext w W ∧ (k ≤ 2) ∧ (ts.length + k = 2) ∧ (12 ≤ p) ∧ (p ≤ 20) ∧ (linkRead l = linkGo l k p ts) ∧ (g4_4 ≠ γ) ∧ (g2_2 ≠ γ) ∧ (p + 4 * k = 20) ∧ (OwnRA γ w.heap.size 45 tagR ts) (v) W ∧ (PxS g2_2 w.heap.size [15] [(lnkS link0 (.slice none 0 0)).flatten] 0) (A.eval (.tmp 2)) W ∧ (PxS g4_4 w.heap.size [6, 6, 1, 1, 1] (lnkS ⟨List.replicate 6 0, List.replicate 6 0, ts, 0, 0⟩ v) 0) (A.eval (.tmp 4)) W ∧ (Is (.int .i64 (p : Int))) (A.eval (.tmp 5)) W) ?start7 ?_
 case start7 =>
  refine ⟨_, 2, 12, [], (.slice none 0 0), 0, rfl, hr, Same.rfl, e_w, (by omega), (by rfl), (by omega), (by omega), (by rfl), (by omega), (by omega), (by omega), (later e_w4 gT), ?_, ?_, ?_⟩
  · exact (later e_w2 s2)
  · exact (later e_w4 s4)
  · first | exact s5 | exact Is.int s5 (by first | omega | simp) | exact Is.bool s5 (by first | omega | simp)
 intro n7 a7 w7 hI
 clear e_w
 clear e_w2
 clear e_w4
 clear hr; obtain ⟨k, p, ts, v, γ, hn7, hr, hs, e_w, hk, hts, hp, hp20, hsr, ne4, ne2, hpk, gT, u2, u4, u5⟩ := hI
 revert s0; refine kp1 hs rfl ?_; intro s0
 clear s2 s4 s5
 have s2 := u2; clear u2
 have s4 := u4; clear u4
 have s5 := u5; clear u5
 have m7 := hs; clear hs
 refine wp_seq ?_
 refine wp_seq ?_
 refine wp_reg 77 [[(0, none)], [(7, some 0)], [(5, none)], [(9, some 2)], [(8, some 1), (10, some 3)], [(11, some 4)], [(0, none), (12, some 5)], [(5, none), (12, some 5)], [(13, some 6), (14, some 7), (12, some 5)], [(15, some 8), (12, some 5)], [(12, some 5), (16, some 9)]] [?b8_0, ?b8_1, ?b8_2, ?b8_3, ?b8_4, ?b8_4, ?b8_6, ?b8_7, ?b8_8, ?b8_9, ?b8_10] mixed (by kernel_rfl) (by kernel_rfl) hr ?t8 ?o8 ?_
 case o8 =>
  refine oc0 (fun A W hx hf => ?_) ?_
  exact ok_movE (a0 := a7) (r0 hf)
  refine oc0 (fun A W hx hf => ?_) ?_
  exact ok_len_bs Try.underlying22 (p2 s0 e_w hx (q0 ?b8_0 A W 7 hf))
  refine oc0 (fun A W hx hf => ?_) ?_
  exact ok_movE (a0 := a7) (r0 hf)
  refine oc0 (fun A W hx hf => ?_) ?_
  exact ok_addI (p1 s5 hx (q0 ?b8_2 A W 9 hf)) (ec A (.int .i64 2)) (by omega)
  refine oc0 (fun A W hx hf => ?_) ?_
  exact ok_geq (q0 ?b8_1 A W 8 hf) (q1 ?b8_3 A W 10 hf)
  refine oc0 (fun A W hx hf => ?_) ?_
  exact ok_move (q0 ?b8_4 A W 11 hf)
  refine ocg 12 ?_ (fun A W hx hf => ?_) ?_
  rfl
  exact gd_t (q1 ?b8_4 A W 12 hf) (fun hc => ok_movE (a0 := a7) (r0 hf))
  refine ocg 12 ?_ (fun A W hx hf => ?_) ?_
  rfl
  exact gd_t (q1 ?b8_4 A W 12 hf) (fun hc => ok_movE (a0 := a7) (r0 hf))
  refine ocg 12 ?_ (fun A W hx hf => ?_) ?_
  rfl
  exact gd_t (q2 ?b8_4 A W 12 hf) (fun hc => ok_call2 body21 (c_r7two (p2 s0 e_w hx (G.get (q0 ?b8_6 A W 13 hf) hc)) (p1 s5 hx (G.get (q1 ?b8_7 A W 14 hf) hc)) (by omega) (by simp at hc; show (p : Int).toNat + 2 ≤ _; omega)))
  refine ocg 12 ?_ (fun A W hx hf => ?_) ?_
  rfl
  exact gd_t (q1 ?b8_4 A W 12 hf) (fun hc => ok_call1 body20 (c_r7Tag (G.get (q0 ?b8_8 A W 15 hf) hc)))
  refine oc0 (fun A W hx hf => ?_) ?_
  exact ok_and (q0 ?b8_4 A W 12 hf) (q1 ?b8_9 A W 16 hf)
  exact OpsOk.nil
 case t8 => exact inferInstance
 clear hr; intro a9 w9 x hr hd hs
 revert s5; revert s4; revert s2; revert s0; refine kp4 hs rfl ?_; intro s0 s2 s4 s5
 have s17 := fa ?b8_10 a9 w9 17 (hd 10 17 rfl)
 replace e_w := e_w.trans x
 have e_w7 := x
 replace m7 := m7.tr hs rfl
 clear hd hs x
 refine exit_then ?_
 refine wp_cond_split (show _ = _ from s17) (fun ht => ?_) (fun ht => ?_)
 · skip
   obtain ⟨hnl, ht⟩ := r07_t ht
   refine wp_skip ?_
   refine exit_then ?_
   refine wp_block ?_
   refine wp_seq ?_
   refine wp_seq ?_
   refine wp_reg 77 [[(4, none)], [(18, some 0)], [(19, some 1)], [(20, some 2)]] [?b11_0, ?b11_1, ?b11_2, ?b11_3] mixed (by kernel_rfl) (by kernel_rfl) hr ?t11 ?o11 ?_
   case o11 =>
    refine oc0 (fun A W hx hf => ?_) ?_
    exact ok_fieldS 2 Try.underlying27 (k := 2) rfl size25 rfl (o2 s4 e_w7 hx (r0 hf)) rfl
    refine oc0 (fun A W hx hf => ?_) ?_
    exact ok_is (ok_loadS Try.underlying25 rfl (q0 ?b11_0 A W 18 hf) rfl) (OwnRA.rw (later (e_w7.trans hx) gT))
    refine oc0 (fun A W hx hf => ?_) ?_
    exact ok_len_rw Try.underlying25 (q0 ?b11_1 A W 19 hf)
    refine oc0 (fun A W hx hf => ?_) ?_
    exact ok_eql (q0 ?b11_2 A W 20 hf) (ec A (.int .i64 2))
    exact OpsOk.nil
   case t11 => exact inferInstance
   clear hr; intro a12 w12 x hr hd hs
   revert s5; revert s4; revert s2; revert s0; refine kp4 hs rfl ?_; intro s0 s2 s4 s5
   clear s17
   have s21 := fa ?b11_3 a12 w12 21 (hd 3 21 rfl)
   replace e_w := e_w.trans x
   replace e_w7 := e_w7.trans x
   replace m7 := m7.tr hs rfl
   clear hd hs x
   refine exit_then ?_
   refine wp_cond_split (show _ = _ from s21) (fun hk2 => ?_) (fun hk2 => ?_)
   · skip
     have hk0 : k = 0 := by simp at hk2; omega
     rw [hk0] at hsr
     have hrd := hsr.trans (linkGo_long hnl ht)
     refine wp_seq ?_
     refine wp_reg_pre (l := [_]) (rest := [_, _]) 77 [[]] [?b14_0] (by kernel_rfl) (by kernel_rfl) hr ?t14 ?o14 ?_
     case o14 =>
      refine oc0 (fun A W hx hf => ?_) ?_
      exact ok_build0 built27
      exact OpsOk.nil
     case t14 => exact inferInstance
     clear hr; intro a15 w15 x hr hd hs
     revert s2; refine kp1 hs rfl ?_; intro s2
     clear s0 s4 s5 s21
     have s22 := fa ?b14_0 a15 w15 22 (hd 0 22 rfl)
     replace e_w := e_w.trans x
     replace e_w7 := e_w7.trans x
     replace m7 := m7.tr hs rfl
     clear hd hs x
     have z16 := PxS.lt (later e_w7 s2)
     have l16 := (show (g2_2 = 0 ∨ w.heap.size < g2_2) ∧ True from ⟨by omega, trivial⟩)
     have l16_gT := OwnRA.lt (later e_w7 gT)
     refine wl_storeSn hr size27 (later e_w7 s2) s22 (by exact lnk_len link0_ok) (by exact lnk_one rfl) rfl ?_; clear hr; intro a16 w16 hc hu hr hs
     have hb : Below w.heap.size w15 w16 := hc.below e_w.size l16.1
     revert s2; refine kp1 hs rfl ?_; intro s2
     clear s22
     replace s2 := hu _ _ _ (later e_w7 s2)
     try simp only [List.set_cons_zero, List.set_cons_succ, lnkS] at s2
     replace gT := OwnRA.other (later e_w7 gT) hc (by omega)
     replace e_w := e_w.below (Nat.le_refl _) hb
     clear e_w7
     replace m7 := m7.tr hs rfl
     clear hu hs hc hb
     refine wl_op hr (ok_assignc) inferInstance ?_; clear hr; intro a17 w17 x hr hd hs
     revert s2; refine kp1 hs rfl ?_; intro s2
     have s3 := hd 3 rfl (by decide)
     replace e_w := e_w.trans x
     have e_w16 := x
     replace m7 := m7.tr hs rfl
     clear hd hs x
     refine wpList_nil ?_
     refine exit_then ?_
     refine wp_ret ?_
     refine then_ret ?_
     refine blk_ret ?_
     refine then_ret ?_
     refine blk_ret ?_
     refine then_ret ?_
     refine ret_cell_tmp Try.results11 hr Try.underlying27 rfl size27 (later e_w16 s2) e_w ?_
     first | (rw [hrd]; exact ⟨_, _, rfl, ⟨_, rfl, ownR_nil⟩, s3⟩) | (rw [hrd]; exact ⟨_, _, rfl, ⟨_, rfl, OwnR.mono (OwnRA.own (later e_w16 gT)) hB⟩, s3⟩)
   · skip
     have hk0 : k ≠ 0 := by simp at hk2; omega
     obtain ⟨kq, hkq⟩ : ∃ q, k = q + 1 := ⟨k - 1, by omega⟩
     rw [hkq] at hsr
     refine wp_skip ?_
     refine exit_then ?_
     refine wp_seq ?_
     refine wp_seq ?_
     refine wp_reg 77 [[(0, none)], [(23, some 0)], [(5, none)], [(25, some 2)], [(24, some 1), (26, some 3)]] [?b18_0, ?b18_1, ?b18_2, ?b18_3, ?b18_4] mixed (by kernel_rfl) (by kernel_rfl) hr ?t18 ?o18 ?_
     case o18 =>
      refine oc0 (fun A W hx hf => ?_) ?_
      exact ok_movE (a0 := a12) (r0 hf)
      refine oc0 (fun A W hx hf => ?_) ?_
      exact ok_len_bs Try.underlying22 (p2 s0 e_w hx (q0 ?b18_0 A W 23 hf))
      refine oc0 (fun A W hx hf => ?_) ?_
      exact ok_movE (a0 := a12) (r0 hf)
      refine oc0 (fun A W hx hf => ?_) ?_
      exact ok_addI (p2 s5 e_w7 hx (q0 ?b18_2 A W 25 hf)) (ec A (.int .i64 6)) (by omega)
      refine oc0 (fun A W hx hf => ?_) ?_
      exact ok_lss (q0 ?b18_1 A W 24 hf) (q1 ?b18_3 A W 26 hf)
      exact OpsOk.nil
     case t18 => exact inferInstance
     clear hr; intro a19 w19 x hr hd hs
     revert s5; revert s4; revert s2; revert s0; refine kp4 hs rfl ?_; intro s0 s2 s4 s5
     clear s21
     have s27 := fa ?b18_4 a19 w19 27 (hd 4 27 rfl)
     replace e_w := e_w.trans x
     replace e_w7 := e_w7.trans x
     replace m7 := m7.tr hs rfl
     clear hd hs x
     refine exit_then ?_
     refine wp_cond_split (show _ = _ from s27) (fun h6 => ?_) (fun h6 => ?_)
     · skip
       have h6 : l.length < p + 6 := by simp at h6; omega
       have hrd := hsr.trans (linkGo_cut hnl ht h6)
       refine wp_seq ?_
       refine wp_reg_pre (l := [_]) (rest := [_, _]) 77 [[]] [?b21_0] (by kernel_rfl) (by kernel_rfl) hr ?t21 ?o21 ?_
       case o21 =>
        refine oc0 (fun A W hx hf => ?_) ?_
        exact ok_build0 built27
        exact OpsOk.nil
       case t21 => exact inferInstance
       clear hr; intro a22 w22 x hr hd hs
       revert s2; refine kp1 hs rfl ?_; intro s2
       clear s0 s4 s5 s27
       have s28 := fa ?b21_0 a22 w22 28 (hd 0 28 rfl)
       replace e_w := e_w.trans x
       replace e_w7 := e_w7.trans x
       replace m7 := m7.tr hs rfl
       clear hd hs x
       have z23 := PxS.lt (later e_w7 s2)
       have l23 := (show (g2_2 = 0 ∨ w.heap.size < g2_2) ∧ True from ⟨by omega, trivial⟩)
       have l23_gT := OwnRA.lt (later e_w7 gT)
       refine wl_storeSn hr size27 (later e_w7 s2) s28 (by exact lnk_len link0_ok) (by exact lnk_one rfl) rfl ?_; clear hr; intro a23 w23 hc hu hr hs
       have hb : Below w.heap.size w22 w23 := hc.below e_w.size l23.1
       revert s2; refine kp1 hs rfl ?_; intro s2
       clear s28
       replace s2 := hu _ _ _ (later e_w7 s2)
       try simp only [List.set_cons_zero, List.set_cons_succ, lnkS] at s2
       replace gT := OwnRA.other (later e_w7 gT) hc (by omega)
       replace e_w := e_w.below (Nat.le_refl _) hb
       clear e_w7
       replace m7 := m7.tr hs rfl
       clear hu hs hc hb
       refine wl_op hr (ok_assignc) inferInstance ?_; clear hr; intro a24 w24 x hr hd hs
       revert s2; refine kp1 hs rfl ?_; intro s2
       have s3 := hd 3 rfl (by decide)
       replace e_w := e_w.trans x
       have e_w23 := x
       replace m7 := m7.tr hs rfl
       clear hd hs x
       refine wpList_nil ?_
       refine exit_then ?_
       refine wp_ret ?_
       refine then_ret ?_
       refine blk_ret ?_
       refine then_ret ?_
       refine blk_ret ?_
       refine then_ret ?_
       refine ret_cell_tmp Try.results11 hr Try.underlying27 rfl size27 (later e_w23 s2) e_w ?_
       first | (rw [hrd]; exact ⟨_, _, rfl, ⟨_, rfl, ownR_nil⟩, s3⟩) | (rw [hrd]; exact ⟨_, _, rfl, ⟨_, rfl, OwnR.mono (OwnRA.own (later e_w23 gT)) hB⟩, s3⟩)
     · skip
       have h6 : ¬ l.length < p + 6 := by simp at h6; omega
       replace hsr := hsr.trans (linkGo_step hnl ht h6)
       refine wp_skip ?_
       refine exit_then ?_
       refine wp_seq ?_
       refine wp_any_start mixed (fun w25 x => ?_)
       show wpAny _ _ _ _ 14 _ _ _
       replace e_w := e_w.trans x
       replace e_w7 := e_w7.trans x
       have e_w19 := x
       clear x
       refine wp_sel (l := [_, _, _, _, _, _, _, _, _, _, _, _, _, _]) 77 _ [false, false, false, false, false, false, false, false, false, false, false, true, true, true] [11, 12, 13] [[(4, none)], [(29, some 0)], [(0, none)], [(5, none)], [(31, some 2), (32, some 3)], [(0, none)], [(5, none)], [(35, some 6)], [(34, some 5), (36, some 7)], [(33, some 4), (37, some 8)], [(38, some 9)], [], [], []] [?b26_0, ?b26_1, ?b26_2, ?b26_3, ?b26_4, ?b26_5, ?b26_6, ?b26_7, ?b26_8, ?b26_9, ?b26_10, VP.top, VP.top, VP.top] (by kernel_rfl) rfl (by kernel_rfl) hr ?t26 ?o26 ?_
       case o26 =>
        refine lc0 (fun A W hx hf => ?_) ?_
        exact ok_fieldS 2 Try.underlying27 (k := 2) rfl size25 rfl (o2 s4 e_w7 hx (r0 hf)) rfl
        refine lc0 (fun A W hx hf => ?_) ?_
        exact ok_is (ok_loadS Try.underlying25 rfl (q0 ?b26_0 A W 29 hf) rfl) (later (e_w7.trans hx) gT)
        refine lc0 (fun A W hx hf => ?_) ?_
        exact ok_movE (a0 := a19) (r0 hf)
        refine lc0 (fun A W hx hf => ?_) ?_
        exact ok_movE (a0 := a19) (r0 hf)
        refine lc0 (fun A W hx hf => ?_) ?_
        exact ok_call2 body21 (c_r7two (p2 s0 e_w hx (q0 ?b26_2 A W 31 hf)) (p2 s5 e_w7 hx (q1 ?b26_3 A W 32 hf)) (by omega) (by show (p : Int).toNat + 2 ≤ _; omega))
        refine lc0 (fun A W hx hf => ?_) ?_
        exact ok_movE (a0 := a19) (r0 hf)
        refine lc0 (fun A W hx hf => ?_) ?_
        exact ok_movE (a0 := a19) (r0 hf)
        refine lc0 (fun A W hx hf => ?_) ?_
        exact ok_addI (p2 s5 e_w7 hx (q0 ?b26_6 A W 35 hf)) (ec A (.int .i64 2)) (by omega)
        refine lc0 (fun A W hx hf => ?_) ?_
        exact ok_call2 body21 (c_r7two (p2 s0 e_w hx (q0 ?b26_5 A W 34 hf)) (q1 ?b26_7 A W 36 hf) (by omega) (by show ((p : Int) + 2).toNat + 2 ≤ _; omega))
        refine lc0 (fun A W hx hf => ?_) ?_
        exact ok_buildS [(0, (.tmp 33)), (1, (.tmp 37))] [(0, _), (1, _)] lay45 rfl (PartsC.one (q0 ?b26_4 A W 33 hf) rfl (PartsC.one (q1 ?b26_8 A W 37 hf) rfl (PartsC.nil))) (by first | rfl | simp [adrCells, *])
        refine lc0 (fun A W hx hf => ?_) ?_
        exact ok_buildRw (R := tagR) [(.tmp 38)] [⟨wordAt l p, wordAt l (p + 2)⟩] Try.underlying25 size45 zerom45 rfl rfl rfl (by decide) (PartsR.cons (Is.conv (q0 ?b26_9 A W 38 hf) rfl) (PartsR.nil)) hx.size
        refine lcs ?_
        refine lcs ?_
        refine lcs ?_
        exact lcn
       case t26 => exact inferInstance
       clear hr; intro a27 w27 x hr hd hs
       have z_w_w25 := e_w.size
       have z_w7_w25 := e_w7.size
       have z_w19_w25 := e_w19.size
       have l27_2 := PxS.lt (later e_w7 s2)
       have l27_4 := PxS.lt (later e_w7 s4)
       have l27_gT := OwnRA.lt (later e_w7 gT)
       have u31 := mv s0 (fa ?b26_2 a27 w27 31 (hd 2 31 rfl rfl))
       have u32 := mv s5 (fa ?b26_3 a27 w27 32 (hd 3 32 rfl rfl))
       have u34 := mv s0 (fa ?b26_5 a27 w27 34 (hd 5 34 rfl rfl))
       have u35 := mv s5 (fa ?b26_6 a27 w27 35 (hd 6 35 rfl rfl))
       revert s5; revert s4; revert s2; revert s0; refine kp4 hs rfl ?_; intro s0 s2 s4 s5
       clear s27
       have s31 := u31; clear u31
       have s32 := u32; clear u32
       have s34 := u34; clear u34
       have s35 := u35; clear u35
       have s29 := fa ?b26_0 a27 w27 29 (hd 0 29 rfl rfl)
       have s30 := fa ?b26_1 a27 w27 30 (hd 1 30 rfl rfl)
       have s33 := fa ?b26_4 a27 w27 33 (hd 4 33 rfl rfl)
       have s36 := fa ?b26_7 a27 w27 36 (hd 7 36 rfl rfl)
       have s37 := fa ?b26_8 a27 w27 37 (hd 8 37 rfl rfl)
       have s38 := fa ?b26_9 a27 w27 38 (hd 9 38 rfl rfl)
       have s39 := fa ?b26_10 a27 w27 39 (hd 10 39 rfl rfl)
       obtain ⟨g27_39, q27_39⟩ := OwnR.at s39; clear s39; have n27_39 := OwnRA.lt q27_39
       replace q27_39 := OwnRA.mono q27_39 e_w.size
       have s39 := q27_39; clear q27_39
       replace e_w := e_w.trans x
       replace e_w7 := e_w7.trans x
       clear e_w19
       replace m7 := m7.tr hs rfl
       clear hd hs x
       show wpList _ _ _ [_, _, _] _ _
       have l28 := OwnRA.lt s30
       have l28_2 := PxS.lt (later e_w7 s2)
       have l28_4 := PxS.lt (later e_w7 s4)
       refine wl_append_rwA hr (by decide) Try.underlying25 infom45 rfl s30 (OwnRA.rw s39) e_w.size (by simp; omega) ?_; clear hr; intro g28 a28 w28 hg28 hc hr hd hs
       have hb := hc.below e_w.size l28.1
       revert s5; revert s4; revert s2; revert s0; refine kp4 hs rfl ?_; intro s0 s2 s4 s5
       clear s31 s32 s34 s35 s29 s30 s33 s36 s37 s38 s39
       replace s2 := PxS.other (later e_w7 s2) hc (by omega)
       replace s4 := PxS.other (later e_w7 s4) hc (by omega)
       have s40 := hd
       obtain ⟨vT, hsv⟩ : ∃ v, v = a28.eval (.tmp 40) := ⟨_, rfl⟩; have gT := s40; rw [← hsv] at gT; replace s40 : Is vT (a28.eval (.tmp 40)) w28 := hsv.symm; clear hsv
       replace e_w := e_w.below (Nat.le_refl _) hb
       clear e_w7
       replace s5 := anyw (w2 := w28) s5
       replace m7 := m7.tr hs rfl
       clear hd hs hb hc
       refine wl_op hr (ok_fieldS 2 Try.underlying27 (k := 2) rfl size25 rfl s4 rfl) inferInstance ?_; clear hr; intro a29 w29 x hr hd hs
       revert s5; revert s40; revert s4; revert s2; revert s0; refine kp5 hs rfl ?_; intro s0 s2 s4 s40 s5
       have s41 := hd 41 rfl (by decide)
       replace e_w := e_w.trans x
       have e_w28 := x
       replace m7 := m7.tr hs rfl
       clear hd hs x
       have z30 := PxS.lt s41
       have l30 := (show (g4_4 = 0 ∨ w.heap.size < g4_4) ∧ True from ⟨by omega, trivial⟩)
       have l30_2 := PxS.lt (later e_w28 s2)
       have l30_gT := OwnRA.lt (later e_w28 gT)
       refine wl_storeS hr size25 s41 (later e_w28 s40) (by exact rw_one (OwnRA.rw gT)) rfl ?_; clear hr; intro a30 w30 hc hu hr hs
       have hb : Below w.heap.size w29 w30 := hc.below e_w.size l30.1
       revert s5; revert s4; revert s2; revert s0; refine kp4 hs rfl ?_; intro s0 s2 s4 s5
       clear s40 s41
       replace s2 := PxS.other (later e_w28 s2) hc (by omega)
       replace s4 := hu _ _ _ (later e_w28 s4)
       try simp only [List.set_cons_zero, List.set_cons_succ, lnkS] at s4
       replace gT := OwnRA.other (later e_w28 gT) hc (by omega)
       replace e_w := e_w.below (Nat.le_refl _) hb
       clear e_w28
       replace s5 := anyw (w2 := w30) s5
       replace m7 := m7.tr hs rfl
       clear hu hs hc hb
       refine wpList_nil ?_
       refine exit_then ?_
       refine wp_reg 77 [[(5, none)], [(42, some 0)], [(43, some 1)]] [?b31_0, ?b31_1, ?b31_1] mixed (by kernel_rfl) (by kernel_rfl) hr ?t31 ?o31 ?_
       case o31 =>
        refine oc0 (fun A W hx hf => ?_) ?_
        exact ok_movE (a0 := a30) (r0 hf)
        refine oc0 (fun A W hx hf => ?_) ?_
        exact ok_addI (p1 s5 hx (q0 ?b31_0 A W 42 hf)) (ec A (.int .i64 4)) (by omega)
        refine oc0 (fun A W hx hf => ?_) ?_
        exact ok_assign (q0 ?b31_1 A W 43 hf)
        exact OpsOk.nil
       case t31 => exact inferInstance
       clear hr; intro a32 w32 x hr hd hs
       revert s4; revert s2; revert s0; refine kp3 hs rfl ?_; intro s0 s2 s4
       clear s5
       have s5 := fa ?b31_1 a32 w32 5 (hd 2 5 rfl)
       replace e_w := e_w.trans x
       have e_w30 := x
       replace m7 := m7.tr hs rfl
       clear hd hs x
       replace s5 := Is.int s5 (show _ = ((p + 4 : Nat) : Int) from by omega)
       refine blk_normal ?_
       refine exit_then ?_
       refine ⟨(fun (k p : Nat) (ts : List TagL) (v : Value) (γ : Nat) => k) (kq) (p + 4) (ts ++ [⟨wordAt l p, wordAt l (p + 2)⟩]) (vT) (0), ?_, ?_⟩
       · (try dsimp only); omega
       refine ⟨kq, p + 4, ts ++ [⟨wordAt l p, wordAt l (p + 2)⟩], vT, g28, rfl, hr, m7, e_w, (by omega), (by simp; omega), (by omega), (by omega), (by exact hsr), (by omega), (by omega), (by omega), (later e_w30 gT), ?_, ?_, ?_⟩
       · exact (later e_w30 s2)
       · exact (later e_w30 s4)
       · first | exact s5 | exact Is.int s5 (by first | omega | simp) | exact Is.bool s5 (by first | omega | simp)
 · skip
   skip
   refine wp_exit ?_
   refine then_exit ?_
   refine then_exit ?_
   refine blk_exit ?_
   refine exit_then ?_
   refine wp_seq ?_
   refine wp_seq ?_
   refine wp_reg 77 [[(0, none)], [(44, some 0)], [(5, none)], [(46, some 2)], [(45, some 1), (47, some 3)]] [?b33_0, ?b33_1, ?b33_2, ?b33_3, ?b33_4] mixed (by kernel_rfl) (by kernel_rfl) hr ?t33 ?o33 ?_
   case o33 =>
    refine oc0 (fun A W hx hf => ?_) ?_
    exact ok_movE (a0 := a9) (r0 hf)
    refine oc0 (fun A W hx hf => ?_) ?_
    exact ok_len_bs Try.underlying22 (p2 s0 e_w hx (q0 ?b33_0 A W 44 hf))
    refine oc0 (fun A W hx hf => ?_) ?_
    exact ok_movE (a0 := a9) (r0 hf)
    refine oc0 (fun A W hx hf => ?_) ?_
    exact ok_addI (p2 s5 e_w7 hx (q0 ?b33_2 A W 46 hf)) (ec A (.int .i64 2)) (by omega)
    refine oc0 (fun A W hx hf => ?_) ?_
    exact ok_lss (q0 ?b33_1 A W 45 hf) (q1 ?b33_3 A W 47 hf)
    exact OpsOk.nil
   case t33 => exact inferInstance
   clear hr; intro a34 w34 x hr hd hs
   revert s5; revert s4; revert s2; revert s0; refine kp4 hs rfl ?_; intro s0 s2 s4 s5
   clear s17
   have s48 := fa ?b33_4 a34 w34 48 (hd 4 48 rfl)
   replace e_w := e_w.trans x
   replace e_w7 := e_w7.trans x
   clear hd hs x
   refine exit_then ?_
   refine wp_cond_split (show _ = _ from s48) (fun h2 => ?_) (fun h2 => ?_)
   · skip
     have h2 : l.length < p + 2 := by simp at h2; omega
     have hrd := hsr.trans (linkGo_end h2)
     refine wp_seq ?_
     refine wp_reg_pre (l := [_]) (rest := [_, _]) 77 [[]] [?b36_0] (by kernel_rfl) (by kernel_rfl) hr ?t36 ?o36 ?_
     case o36 =>
      refine oc0 (fun A W hx hf => ?_) ?_
      exact ok_build0 built27
      exact OpsOk.nil
     case t36 => exact inferInstance
     clear hr; intro a37 w37 x hr hd hs
     revert s2; refine kp1 hs rfl ?_; intro s2
     clear s0 s4 s5 s48
     have s49 := fa ?b36_0 a37 w37 49 (hd 0 49 rfl)
     replace e_w := e_w.trans x
     replace e_w7 := e_w7.trans x
     clear hd hs x
     have z38 := PxS.lt (later e_w7 s2)
     have l38 := (show (g2_2 = 0 ∨ w.heap.size < g2_2) ∧ True from ⟨by omega, trivial⟩)
     have l38_gT := OwnRA.lt (later e_w7 gT)
     refine wl_storeSn hr size27 (later e_w7 s2) s49 (by exact lnk_len link0_ok) (by exact lnk_one rfl) rfl ?_; clear hr; intro a38 w38 hc hu hr hs
     have hb : Below w.heap.size w37 w38 := hc.below e_w.size l38.1
     revert s2; refine kp1 hs rfl ?_; intro s2
     clear s49
     replace s2 := hu _ _ _ (later e_w7 s2)
     try simp only [List.set_cons_zero, List.set_cons_succ, lnkS] at s2
     replace gT := OwnRA.other (later e_w7 gT) hc (by omega)
     replace e_w := e_w.below (Nat.le_refl _) hb
     clear e_w7
     clear hu hs hc hb
     refine wl_op hr (ok_assignc) inferInstance ?_; clear hr; intro a39 w39 x hr hd hs
     revert s2; refine kp1 hs rfl ?_; intro s2
     have s3 := hd 3 rfl (by decide)
     replace e_w := e_w.trans x
     have e_w38 := x
     clear hd hs x
     refine wpList_nil ?_
     refine exit_then ?_
     refine wp_ret ?_
     refine then_ret ?_
     refine ret_cell_tmp Try.results11 hr Try.underlying27 rfl size27 (later e_w38 s2) e_w ?_
     first | (rw [hrd]; exact ⟨_, _, rfl, ⟨_, rfl, ownR_nil⟩, s3⟩) | (rw [hrd]; exact ⟨_, _, rfl, ⟨_, rfl, OwnR.mono (OwnRA.own (later e_w38 gT)) hB⟩, s3⟩)
   · skip
     have h2 : ¬ l.length < p + 2 := by simp at h2; omega
     have hrd := hsr.trans (linkGo_done h2 (r07_f ht h2))
     refine wp_skip ?_
     refine exit_then ?_
     refine wp_seq ?_
     refine wp_seq ?_
     refine wp_reg 77 [[]] [?b40_0] mixed (by kernel_rfl) (by kernel_rfl) hr ?t40 ?o40 ?_
     case o40 =>
      refine oc0 (fun A W hx hf => ?_) ?_
      exact ok_assignc
      exact OpsOk.nil
     case t40 => exact inferInstance
     clear hr; intro a41 w41 x hr hd hs
     revert s5; revert s4; revert s2; revert s0; refine kp4 hs rfl ?_; intro s0 s2 s4 s5
     clear s48
     have s6 := fa ?b40_0 a41 w41 6 (hd 0 6 rfl)
     replace e_w := e_w.trans x
     replace e_w7 := e_w7.trans x
     clear hd hs x
     refine exit_then ?_
     refine wp_block ?_
     refine wp_loop_inv (fun n A W => ∃ (i : Nat), n = 6 - i ∧ Fr 77 A ∧ Same D_c_r7Read_1 a41 A ∧ Ext w W ∧ (i ≤ 6) ∧ (OwnRA γ w.heap.size 45 tagR ts) (v) W ∧ (PxS g2_2 w.heap.size [15] [(lnkS link0 (.slice none 0 0)).flatten] 0) (A.eval (.tmp 2)) W ∧ (PxS g4_4 w.heap.size [6, 6, 1, 1, 1] (lnkS ⟨p6 l 0 i, p6 l 6 i, ts, 0, 0⟩ v) 0) (A.eval (.tmp 4)) W ∧ (Is (.int .i64 (i : Int))) (A.eval (.tmp 6)) W) ?start42 ?_
     case start42 =>
      refine ⟨_, 0, rfl, hr, Same.rfl, e_w, (by first | assumption | omega), (later e_w7 gT), ?_, ?_, ?_⟩
      · exact (later e_w7 s2)
      · exact PxS.cast (later e_w7 s4) (by rw [p6_0, p6_0])
      · first | exact s6 | exact Is.int s6 (by first | omega | simp) | exact Is.bool s6 (by first | omega | simp)
     intro n42 a42 w42 hI
     clear e_w
     clear e_w7
     clear hr; obtain ⟨i, hn42, hr, hs, e_w, hi, gT, u2, u4, u6⟩ := hI
     revert s5; revert s0; refine kp2 hs rfl ?_; intro s0 s5
     clear s2 s4 s6
     have s2 := u2; clear u2
     have s4 := u4; clear u4
     have s6 := u6; clear u6
     replace s5 := anyw (w2 := w42) s5
     have m42 := hs; clear hs
     refine wp_seq ?_
     refine wp_seq ?_
     refine wp_reg 77 [[(6, none)], [(50, some 0)]] [?b43_0, ?b43_1] mixed (by kernel_rfl) (by kernel_rfl) hr ?t43 ?o43 ?_
     case o43 =>
      refine oc0 (fun A W hx hf => ?_) ?_
      exact ok_movE (a0 := a42) (r0 hf)
      refine oc0 (fun A W hx hf => ?_) ?_
      exact ok_lss (p1 s6 hx (q0 ?b43_0 A W 50 hf)) (ec A (.int .i64 6))
      exact OpsOk.nil
     case t43 => exact inferInstance
     clear hr; intro a44 w44 x hr hd hs
     revert s5; revert s6; revert s4; revert s2; revert s0; refine kp5 hs rfl ?_; intro s0 s2 s4 s6 s5
     have s51 := fa ?b43_1 a44 w44 51 (hd 1 51 rfl)
     replace e_w := e_w.trans x
     have e_w42 := x
     replace m42 := m42.tr hs rfl
     clear hd hs x
     refine exit_then ?_
     refine wp_cond_split (show _ = _ from s51) (fun hlt => ?_) (fun hlt => ?_)
     · skip
       have hlt : i < 6 := by simp at hlt; omega
       refine wp_skip ?_
       refine exit_then ?_
       refine wp_seq ?_
       refine wp_block ?_
       refine wp_seq ?_
       refine wp_reg_pre (l := [_, _, _, _, _, _, _]) (rest := [_]) 77 [[(6, none)], [(0, none)], [(6, none)], [(55, some 1), (56, some 2)], [(57, some 3)], [(4, none)], [(59, some 5), (54, some 0)]] [?b46_0, ?b46_1, ?b46_2, ?b46_3, ?b46_4, ?b46_5, ?b46_6] (by kernel_rfl) (by kernel_rfl) hr ?t46 ?o46 ?_
       case o46 =>
        refine oc0 (fun A W hx hf => ?_) ?_
        exact ok_movE (a0 := a44) (r0 hf)
        refine oc0 (fun A W hx hf => ?_) ?_
        exact ok_movE (a0 := a44) (r0 hf)
        refine oc0 (fun A W hx hf => ?_) ?_
        exact ok_movE (a0 := a44) (r0 hf)
        refine oc0 (fun A W hx hf => ?_) ?_
        exact ok_index_bs (_) Try.underlying22 size5 (p2 s0 e_w hx (q0 ?b46_1 A W 55 hf)) (p2 s6 e_w42 hx (q1 ?b46_2 A W 56 hf)) (by omega)
        refine oc0 (fun A W hx hf => ?_) ?_
        exact ok_loadp Try.underlying5 rfl (q0 ?b46_3 A W 57 hf)
        refine oc0 (fun A W hx hf => ?_) ?_
        exact ok_fieldS 0 Try.underlying27 (k := 0) rfl size24 rfl (o2 s4 e_w42 hx (r0 hf)) rfl
        refine oc0 (fun A W hx hf => ?_) ?_
        exact ok_indexS (_) Try.underlying24 size5 (q0 ?b46_5 A W 59 hf) (p2 s6 e_w42 hx (q1 ?b46_0 A W 54 hf)) rfl (by omega)
        exact OpsOk.nil
       case t46 => exact inferInstance
       clear hr; intro a47 w47 x hr hd hs
       revert s5; revert s6; revert s4; revert s2; revert s0; refine kp5 hs rfl ?_; intro s0 s2 s4 s6 s5
       clear s51
       have s58 := fa ?b46_4 a47 w47 58 (hd 4 58 rfl)
       have s60 := fa ?b46_6 a47 w47 60 (hd 6 60 rfl)
       replace e_w := e_w.trans x
       replace e_w42 := e_w42.trans x
       replace m42 := m42.tr hs rfl
       clear hd hs x
       have z48 := PxE.lt s60
       have l48 := (show (g4_4 = 0 ∨ w.heap.size < g4_4) ∧ True from ⟨by omega, trivial⟩)
       have l48_2 := PxS.lt (later e_w42 s2)
       have l48_gT := OwnRA.lt (later e_w42 gT)
       refine wl_storeE hr size5 s60 rfl s58 ?_; clear hr; intro a48 w48 hc hu hr hs
       have hb : Below w.heap.size w47 w48 := hc.below e_w.size l48.1
       revert s5; revert s6; revert s4; revert s2; revert s0; refine kp5 hs rfl ?_; intro s0 s2 s4 s6 s5
       clear s58 s60
       replace s2 := PxS.other (later e_w42 s2) hc (by omega)
       replace s4 := hu _ _ _ (later e_w42 s4)
       try simp only [List.set_cons_zero, List.set_cons_succ, lnkS] at s4
       replace gT := OwnRA.other (later e_w42 gT) hc (by omega)
       replace e_w := e_w.below (Nat.le_refl _) hb
       clear e_w42
       replace s6 := anyw (w2 := w48) s6
       replace s5 := anyw (w2 := w48) s5
       replace m42 := m42.tr hs rfl
       clear hu hs hc hb
       refine wpList_nil ?_
       replace s4 := PxS.cast s4 (show _ = lnkS ⟨p6 l 0 (i + 1), p6 l 6 i, ts, 0, 0⟩ v from by rw [← p6_step (l := l) (q := 0) hlt (by omega)]; simp [lnkS])
       refine exit_then ?_
       refine wp_reg_pre (l := [_, _, _, _, _, _, _, _]) (rest := [_]) 77 [[(6, none)], [(0, none)], [(6, none)], [(63, some 2)], [(62, some 1), (64, some 3)], [(65, some 4)], [(4, none)], [(67, some 6), (61, some 0)]] [?b49_0, ?b49_1, ?b49_2, ?b49_3, ?b49_4, ?b49_5, ?b49_6, ?b49_7] (by kernel_rfl) (by kernel_rfl) hr ?t49 ?o49 ?_
       case o49 =>
        refine oc0 (fun A W hx hf => ?_) ?_
        exact ok_movE (a0 := a48) (r0 hf)
        refine oc0 (fun A W hx hf => ?_) ?_
        exact ok_movE (a0 := a48) (r0 hf)
        refine oc0 (fun A W hx hf => ?_) ?_
        exact ok_movE (a0 := a48) (r0 hf)
        refine oc0 (fun A W hx hf => ?_) ?_
        exact ok_addI (ec A (.int .i64 6)) (p1 s6 hx (q0 ?b49_2 A W 63 hf)) (by omega)
        refine oc0 (fun A W hx hf => ?_) ?_
        exact ok_index_bs (6 + i) Try.underlying22 size5 (p2 s0 e_w hx (q0 ?b49_1 A W 62 hf)) (Is.int (q1 ?b49_3 A W 64 hf) (by omega)) (by omega)
        refine oc0 (fun A W hx hf => ?_) ?_
        exact ok_loadp Try.underlying5 rfl (q0 ?b49_4 A W 65 hf)
        refine oc0 (fun A W hx hf => ?_) ?_
        exact ok_fieldS 1 Try.underlying27 (k := 1) rfl size24 rfl (o1 s4 hx (r0 hf)) rfl
        refine oc0 (fun A W hx hf => ?_) ?_
        exact ok_indexS (_) Try.underlying24 size5 (q0 ?b49_6 A W 67 hf) (p1 s6 hx (q1 ?b49_0 A W 61 hf)) rfl (by omega)
        exact OpsOk.nil
       case t49 => exact inferInstance
       clear hr; intro a50 w50 x hr hd hs
       revert s4; revert s5; revert s6; revert s2; revert s0; refine kp5 hs rfl ?_; intro s0 s2 s6 s5 s4
       have s66 := fa ?b49_5 a50 w50 66 (hd 5 66 rfl)
       have s68 := fa ?b49_7 a50 w50 68 (hd 7 68 rfl)
       replace e_w := e_w.trans x
       have e_w48 := x
       replace m42 := m42.tr hs rfl
       clear hd hs x
       have z51 := PxE.lt s68
       have l51 := (show (g4_4 = 0 ∨ w.heap.size < g4_4) ∧ True from ⟨by omega, trivial⟩)
       have l51_2 := PxS.lt (later e_w48 s2)
       have l51_gT := OwnRA.lt (later e_w48 gT)
       refine wl_storeE hr size5 s68 rfl s66 ?_; clear hr; intro a51 w51 hc hu hr hs
       have hb : Below w.heap.size w50 w51 := hc.below e_w.size l51.1
       revert s4; revert s5; revert s6; revert s2; revert s0; refine kp5 hs rfl ?_; intro s0 s2 s6 s5 s4
       clear s66 s68
       replace s2 := PxS.other (later e_w48 s2) hc (by omega)
       replace s4 := hu _ _ _ (later e_w48 s4)
       try simp only [List.set_cons_zero, List.set_cons_succ, lnkS] at s4
       replace gT := OwnRA.other (later e_w48 gT) hc (by omega)
       replace e_w := e_w.below (Nat.le_refl _) hb
       clear e_w48
       replace s6 := anyw (w2 := w51) s6
       replace s5 := anyw (w2 := w51) s5
       replace m42 := m42.tr hs rfl
       clear hu hs hc hb
       refine wpList_nil ?_
       replace s4 := PxS.cast s4 (show _ = lnkS ⟨p6 l 0 (i + 1), p6 l 6 (i + 1), ts, 0, 0⟩ v from by rw [← p6_step (l := l) (q := 6) hlt (by omega)]; rfl)
       refine blk_normal ?_
       refine exit_then ?_
       refine wp_reg 77 [[(6, none)], [(52, some 0)], [(53, some 1)]] [?b52_0, ?b52_1, ?b52_1] mixed (by kernel_rfl) (by kernel_rfl) hr ?t52 ?o52 ?_
       case o52 =>
        refine oc0 (fun A W hx hf => ?_) ?_
        exact ok_movE (a0 := a51) (r0 hf)
        refine oc0 (fun A W hx hf => ?_) ?_
        exact ok_addI (p1 s6 hx (q0 ?b52_0 A W 52 hf)) (ec A (.int .i64 1)) (by omega)
        refine oc0 (fun A W hx hf => ?_) ?_
        exact ok_assign (q0 ?b52_1 A W 53 hf)
        exact OpsOk.nil
       case t52 => exact inferInstance
       clear hr; intro a53 w53 x hr hd hs
       revert s4; revert s5; revert s2; revert s0; refine kp4 hs rfl ?_; intro s0 s2 s5 s4
       clear s6
       have s6 := fa ?b52_1 a53 w53 6 (hd 2 6 rfl)
       replace e_w := e_w.trans x
       have e_w51 := x
       replace m42 := m42.tr hs rfl
       clear hd hs x
       refine exit_then ?_
       refine ⟨(fun (i : Nat) => 6 - i) (i + 1), ?_, ?_⟩
       · (try dsimp only); omega
       refine ⟨i + 1, rfl, hr, m42, e_w, (by first | assumption | omega), (later e_w51 gT), ?_, ?_, ?_⟩
       · exact (later e_w51 s2)
       · exact (later e_w51 s4)
       · first | exact s6 | exact Is.int s6 (by first | omega | simp) | exact Is.bool s6 (by first | omega | simp)
     · skip
       have hlt : i = 6 := by simp at hlt; omega
       subst hlt
       refine wp_exit ?_
       refine then_exit ?_
       refine then_exit ?_
       refine blk_exit ?_
       refine exit_then ?_
       refine wp_seq ?_
       refine wp_reg_pre (l := [_, _, _, _]) (rest := [_]) 77 [[(0, none)], [(5, none)], [(69, some 0), (70, some 1)], [(4, none)]] [?b54_0, ?b54_1, ?b54_2, ?b54_3] (by kernel_rfl) (by kernel_rfl) hr ?t54 ?o54 ?_
       case o54 =>
        refine oc0 (fun A W hx hf => ?_) ?_
        exact ok_movE (a0 := a44) (r0 hf)
        refine oc0 (fun A W hx hf => ?_) ?_
        exact ok_movE (a0 := a44) (r0 hf)
        refine oc0 (fun A W hx hf => ?_) ?_
        exact ok_call2 body21 (c_r7two (p2 s0 e_w hx (q0 ?b54_0 A W 69 hf)) (p2 s5 e_w42 hx (q1 ?b54_1 A W 70 hf)) (by omega) (by show (p : Int).toNat + 2 ≤ _; omega))
        refine oc0 (fun A W hx hf => ?_) ?_
        exact ok_fieldS 3 Try.underlying27 (k := 3) rfl size3 rfl (o2 s4 e_w42 hx (r0 hf)) rfl
        exact OpsOk.nil
       case t54 => exact inferInstance
       clear hr; intro a55 w55 x hr hd hs
       revert s5; revert s4; revert s2; refine kp3 hs rfl ?_; intro s2 s4 s5
       clear s0 s6 s51
       have s71 := fa ?b54_2 a55 w55 71 (hd 2 71 rfl)
       have s72 := fa ?b54_3 a55 w55 72 (hd 3 72 rfl)
       replace e_w := e_w.trans x
       replace e_w42 := e_w42.trans x
       clear hd hs x
       have z56 := PxS.lt s72
       have l56 := (show (g4_4 = 0 ∨ w.heap.size < g4_4) ∧ True from ⟨by omega, trivial⟩)
       have l56_2 := PxS.lt (later e_w42 s2)
       have l56_gT := OwnRA.lt (later e_w42 gT)
       refine wl_storeS hr size3 s72 s71 (by rfl) rfl ?_; clear hr; intro a56 w56 hc hu hr hs
       have hb : Below w.heap.size w55 w56 := hc.below e_w.size l56.1
       revert s5; revert s4; revert s2; refine kp3 hs rfl ?_; intro s2 s4 s5
       clear s71 s72
       replace s2 := PxS.other (later e_w42 s2) hc (by omega)
       replace s4 := hu _ _ _ (later e_w42 s4)
       try simp only [List.set_cons_zero, List.set_cons_succ, lnkS] at s4
       replace gT := OwnRA.other (later e_w42 gT) hc (by omega)
       replace e_w := e_w.below (Nat.le_refl _) hb
       clear e_w42
       replace s5 := anyw (w2 := w56) s5
       clear hu hs hc hb
       refine wpList_nil ?_
       refine exit_then ?_
       refine wp_seq ?_
       refine wp_reg_pre (l := [_, _, _]) (rest := [_]) 77 [[(5, none)], [(73, some 0)], [(4, none)]] [?b57_0, ?b57_1, ?b57_2] (by kernel_rfl) (by kernel_rfl) hr ?t57 ?o57 ?_
       case o57 =>
        refine oc0 (fun A W hx hf => ?_) ?_
        exact ok_movE (a0 := a56) (r0 hf)
        refine oc0 (fun A W hx hf => ?_) ?_
        exact ok_addI (p1 s5 hx (q0 ?b57_0 A W 73 hf)) (ec A (.int .i64 2)) (by omega)
        refine oc0 (fun A W hx hf => ?_) ?_
        exact ok_fieldS 4 Try.underlying27 (k := 4) rfl size3 rfl (o1 s4 hx (r0 hf)) rfl
        exact OpsOk.nil
       case t57 => exact inferInstance
       clear hr; intro a58 w58 x hr hd hs
       revert s4; revert s2; refine kp2 hs rfl ?_; intro s2 s4
       clear s5
       have s74 := fa ?b57_1 a58 w58 74 (hd 1 74 rfl)
       have s75 := fa ?b57_2 a58 w58 75 (hd 2 75 rfl)
       replace e_w := e_w.trans x
       have e_w56 := x
       clear hd hs x
       have z59 := PxS.lt s75
       have l59 := (show (g4_4 = 0 ∨ w.heap.size < g4_4) ∧ True from ⟨by omega, trivial⟩)
       have l59_2 := PxS.lt (later e_w56 s2)
       have l59_gT := OwnRA.lt (later e_w56 gT)
       refine wl_storeS hr size3 s75 s74 (by rfl) rfl ?_; clear hr; intro a59 w59 hc hu hr hs
       have hb : Below w.heap.size w58 w59 := hc.below e_w.size l59.1
       revert s4; revert s2; refine kp2 hs rfl ?_; intro s2 s4
       clear s74 s75
       replace s2 := PxS.other (later e_w56 s2) hc (by omega)
       replace s4 := hu _ _ _ (later e_w56 s4)
       try simp only [List.set_cons_zero, List.set_cons_succ, lnkS] at s4
       replace gT := OwnRA.other (later e_w56 gT) hc (by omega)
       replace e_w := e_w.below (Nat.le_refl _) hb
       clear e_w56
       clear hu hs hc hb
       refine wpList_nil ?_
       replace s4 := PxS.cast s4 (show _ = lnkS ⟨(l.drop 0).take 6, (l.drop 6).take 6, ts, wordAt l p, (p : Int) + 2⟩ v from by rw [← p6_end, ← p6_end l 6]; rfl)
       refine exit_then ?_
       refine wp_seq ?_
       refine wp_reg_pre (l := [_]) (rest := [_, _]) 77 [[(4, none)]] [?b60_0] (by kernel_rfl) (by kernel_rfl) hr ?t60 ?o60 ?_
       case o60 =>
        refine oc0 (fun A W hx hf => ?_) ?_
        exact ok_loadAggS 5 Try.underlying27 rfl size27 (o1 s4 hx (r0 hf)) rfl
        exact OpsOk.nil
       case t60 => exact inferInstance
       clear hr; intro a61 w61 x hr hd hs
       revert s2; refine kp1 hs rfl ?_; intro s2
       clear s4
       have s76 := fa ?b60_0 a61 w61 76 (hd 0 76 rfl)
       replace e_w := e_w.trans x
       have e_w59 := x
       clear hd hs x
       have z62 := PxS.lt (later e_w59 s2)
       have l62 := (show (g2_2 = 0 ∨ w.heap.size < g2_2) ∧ True from ⟨by omega, trivial⟩)
       have l62_gT := OwnRA.lt (later e_w59 gT)
       refine wl_storeSn hr size27 (later e_w59 s2) (Is.conv s76 lnk_all) (by exact lnk_len ⟨by simp; omega, by simp; omega⟩) (by exact lnk_one (rw_one (OwnRA.rw gT))) rfl ?_; clear hr; intro a62 w62 hc hu hr hs
       have hb : Below w.heap.size w61 w62 := hc.below e_w.size l62.1
       revert s2; refine kp1 hs rfl ?_; intro s2
       clear s76
       replace s2 := hu _ _ _ (later e_w59 s2)
       try simp only [List.set_cons_zero, List.set_cons_succ, lnkS] at s2
       replace gT := OwnRA.other (later e_w59 gT) hc (by omega)
       replace e_w := e_w.below (Nat.le_refl _) hb
       clear e_w59
       clear hu hs hc hb
       refine wl_op hr (ok_assignc) inferInstance ?_; clear hr; intro a63 w63 x hr hd hs
       revert s2; refine kp1 hs rfl ?_; intro s2
       have s3 := hd 3 rfl (by decide)
       replace e_w := e_w.trans x
       have e_w62 := x
       clear hd hs x
       refine wpList_nil ?_
       refine exit_then ?_
       refine wp_ret ?_
       refine ret_cell_tmp Try.results11 hr Try.underlying27 rfl size27 (later e_w62 s2) e_w ?_
       first | (rw [hrd]; exact ⟨_, _, rfl, ⟨_, rfl, ownR_nil⟩, s3⟩) | (rw [hrd]; exact ⟨_, _, rfl, ⟨_, rfl, OwnR.mono (OwnRA.own (later e_w62 gT)) hB⟩, s3⟩)

end Go.Proofs.Ytdbjpfjnambenaa
