import Derived.Test.YtdbjpfjnambenaaC07a
import Derived.Test.YtdbjpfjnambenaaE07
namespace Go.Proofs.Ytdbjpfjnambenaa
open Go.RowKit
set_option linter.unusedVariables false
set_option maxRecDepth 4000
def D_c_r7Right_0 : List Tmp := [2, 3, 23, 24, 25, 26, 27, 28, 29, 30, 31, 32, 33, 34, 35, 36, 37, 38, 39, 40, 41, 42, 43, 44, 45, 46, 47, 48, 49, 50, 51, 52, 53, 54, 55]
theorem c_r7Right {x0 : Value} {w : World} {L : LinkL} (h0 : (LinkV L) x0 w) (hL : LinkOk L) :
    Calls Try.prog 14 #[x0] w (Ret (Is (.bool (linkRight L))) w) := by
 obtain ⟨v, eh0, hT, hvh0⟩ := h0
 replace h0 : Is (LnkA L v) x0 w := eh0
 have htl : L.tags.length ≤ 9223372036854775807 := Rw.len_le hT
 refine enter Try.func14 rfl Try.ntmps14 (k := 1) rfl (by decide) (fun a0 hr hargs => ?_)
 have s0 := sarg h0 (hargs 0 (by decide))
 clear hargs
 refine wp_seq ?_
 refine wp_reg 56 [[(0, none)], []] [?b1_0, ?b1_1] mixed (by kernel_rfl) (by kernel_rfl) hr ?t1 ?o1 ?_
 case o1 =>
  refine oc0 (fun A W hx hf => ?_) ?_
  exact ok_boxS (lnkS L v) [6, 6, 1, 1, 1] (o1 s0 hx (r0 hf)) (by exact lnkS_lens hL) hx.size
  refine oc0 (fun A W hx hf => ?_) ?_
  exact ok_assignc
  exact OpsOk.nil
 case t1 => exact inferInstance
 clear hr; intro a2 w2 x hr hd hs
 clear s0
 have s1 := fa ?b1_0 a2 w2 1 (hd 0 1 rfl)
 obtain ⟨g2_1, q2_1⟩ := PxN.at s1; clear s1; have n2_1 := PxS.lt q2_1
 have s1 := q2_1; clear q2_1
 have e_w := x
 clear hd hs x
 refine exit_then ?_
 refine wp_seq ?_
 refine wp_seq ?_
 refine wp_reg 56 [[(1, none)], [(4, some 0)], [(5, some 1)], [(6, some 2)], [(7, some 3)], [(1, none), (8, some 4)], [(9, some 5), (8, some 4)], [(10, some 6), (8, some 4)], [(8, some 4), (11, some 7)], [(12, some 8)], [(1, none), (13, some 9)], [(14, some 10), (13, some 9)], [(15, some 11), (13, some 9)], [(13, some 9), (16, some 12)], [(17, some 13)], [(1, none), (18, some 14)], [(19, some 15), (18, some 14)], [(20, some 16), (18, some 14)], [(18, some 14), (21, some 17)]] [?b3_0, ?b3_1, ?b3_2, ?b3_3, ?b3_3, ?b3_5, ?b3_6, ?b3_7, ?b3_8, ?b3_8, ?b3_10, ?b3_11, ?b3_12, ?b3_13, ?b3_13, ?b3_15, ?b3_16, ?b3_17, ?b3_18] mixed (by kernel_rfl) (by kernel_rfl) hr ?t3 ?o3 ?_
 case o3 =>
  refine oc0 (fun A W hx hf => ?_) ?_
  exact ok_fieldS 2 Try.underlying27 (k := 2) rfl size25 rfl (o1 s1 hx (r0 hf)) rfl
  refine oc0 (fun A W hx hf => ?_) ?_
  exact ok_is (ok_loadS Try.underlying25 rfl (q0 ?b3_0 A W 4 hf) rfl) (later (e_w.trans hx) hT)
  refine oc0 (fun A W hx hf => ?_) ?_
  exact ok_len_rw Try.underlying25 (q0 ?b3_1 A W 5 hf)
  refine oc0 (fun A W hx hf => ?_) ?_
  exact ok_gtr (q0 ?b3_2 A W 6 hf) (ec A (.int .i64 2))
  refine oc0 (fun A W hx hf => ?_) ?_
  exact ok_move (q0 ?b3_3 A W 7 hf)
  refine ocg 8 ?_ (fun A W hx hf => ?_) ?_
  rfl
  exact gd_f (q1 ?b3_3 A W 8 hf) (fun hc => ok_fieldS 3 Try.underlying27 (k := 3) rfl size3 rfl (o1 s1 hx (r0 hf)) rfl)
  refine ocg 8 ?_ (fun A W hx hf => ?_) ?_
  rfl
  exact gd_f (q1 ?b3_3 A W 8 hf) (fun hc => ok_loadS Try.underlying3 rfl (G.get (q0 ?b3_5 A W 9 hf) hc) rfl)
  refine ocg 8 ?_ (fun A W hx hf => ?_) ?_
  rfl
  exact gd_f (q1 ?b3_3 A W 8 hf) (fun hc => ok_lss (G.get (q0 ?b3_6 A W 10 hf) hc) (ec A (.int .i64 0)))
  refine oc0 (fun A W hx hf => ?_) ?_
  exact ok_or (q0 ?b3_3 A W 8 hf) (q1 ?b3_7 A W 11 hf)
  refine oc0 (fun A W hx hf => ?_) ?_
  exact ok_move (q0 ?b3_8 A W 12 hf)
  refine ocg 13 ?_ (fun A W hx hf => ?_) ?_
  rfl
  exact gd_f (q1 ?b3_8 A W 13 hf) (fun hc => ok_fieldS 3 Try.underlying27 (k := 3) rfl size3 rfl (o1 s1 hx (r0 hf)) rfl)
  refine ocg 13 ?_ (fun A W hx hf => ?_) ?_
  rfl
  exact gd_f (q1 ?b3_8 A W 13 hf) (fun hc => ok_loadS Try.underlying3 rfl (G.get (q0 ?b3_10 A W 14 hf) hc) rfl)
  refine ocg 13 ?_ (fun A W hx hf => ?_) ?_
  rfl
  exact gd_f (q1 ?b3_8 A W 13 hf) (fun hc => ok_gtr (G.get (q0 ?b3_11 A W 15 hf) hc) (ec A (.int .i64 65535)))
  refine oc0 (fun A W hx hf => ?_) ?_
  exact ok_or (q0 ?b3_8 A W 13 hf) (q1 ?b3_12 A W 16 hf)
  refine oc0 (fun A W hx hf => ?_) ?_
  exact ok_move (q0 ?b3_13 A W 17 hf)
  refine ocg 18 ?_ (fun A W hx hf => ?_) ?_
  rfl
  exact gd_f (q1 ?b3_13 A W 18 hf) (fun hc => ok_fieldS 3 Try.underlying27 (k := 3) rfl size3 rfl (o1 s1 hx (r0 hf)) rfl)
  refine ocg 18 ?_ (fun A W hx hf => ?_) ?_
  rfl
  exact gd_f (q1 ?b3_13 A W 18 hf) (fun hc => ok_loadS Try.underlying3 rfl (G.get (q0 ?b3_15 A W 19 hf) hc) rfl)
  refine ocg 18 ?_ (fun A W hx hf => ?_) ?_
  rfl
  exact gd_f (q1 ?b3_13 A W 18 hf) (fun hc => ok_call1 body20 (c_r7Tag (G.get (q0 ?b3_16 A W 20 hf) hc)))
  refine oc0 (fun A W hx hf => ?_) ?_
  exact ok_or (q0 ?b3_13 A W 18 hf) (q1 ?b3_17 A W 21 hf)
  exact OpsOk.nil
 case t3 => exact inferInstance
 clear hr; intro a4 w4 x hr hd hs
 revert s1; refine kp1 hs rfl ?_; intro s1
 have s22 := fa ?b3_18 a4 w4 22 (hd 18 22 rfl)
 replace e_w := e_w.trans x
 have e_w2 := x
 clear hd hs x
 refine exit_then ?_
 refine wp_cond_split (show _ = _ from s22) (fun hc9 => ?_) (fun hc9 => ?_)
 · skip
   rw [rlinkc] at hc9
   have hr9 := linkRight_no hc9
   refine wp_seq ?_
   refine wp_reg 56 [[]] [?b6_0] mixed (by kernel_rfl) (by kernel_rfl) hr ?t6 ?o6 ?_
   case o6 =>
    refine oc0 (fun A W hx hf => ?_) ?_
    exact ok_assignc
    exact OpsOk.nil
   case t6 => exact inferInstance
   clear hr; intro a7 w7 x hr hd hs
   clear s1 s22
   have s2 := fa ?b6_0 a7 w7 2 (hd 0 2 rfl)
   replace e_w := e_w.trans x
   clear e_w2
   clear hd hs x
   refine exit_then ?_
   refine wp_ret ?_
   refine then_ret ?_
   refine ret_tmp Try.results14 hr e_w ?_
   first | exact Is.bool s2 hr9.symm | exact Is.bool s2 (by rw [hr9]; exact (all_no hlt hok).symm) | exact Is.bool s2 (by rw [hr9]; exact hall.symm)
 · skip
   rw [rlinkc] at hc9
   obtain ⟨hr9, ht2, hty⟩ := linkRight_part hc9
   refine wp_skip ?_
   refine exit_then ?_
   refine wp_seq ?_
   refine wp_seq ?_
   refine wp_reg 56 [[]] [?b8_0] mixed (by kernel_rfl) (by kernel_rfl) hr ?t8 ?o8 ?_
   case o8 =>
    refine oc0 (fun A W hx hf => ?_) ?_
    exact ok_assignc
    exact OpsOk.nil
   case t8 => exact inferInstance
   clear hr; intro a9 w9 x hr hd hs
   revert s1; refine kp1 hs rfl ?_; intro s1
   clear s22
   have s3 := fa ?b8_0 a9 w9 3 (hd 0 3 rfl)
   replace e_w := e_w.trans x
   replace e_w2 := e_w2.trans x
   clear hd hs x
   refine exit_then ?_
   refine wp_block ?_
   refine wp_loop_inv (fun n A W => ∃ (i : Nat), n = L.tags.length - i ∧ Fr 56 A ∧ Same D_c_r7Right_0 a9 A ∧ Ext w W ∧ (i ≤ L.tags.length) ∧ ((L.tags.take i).all tagOk = true) ∧ (PxS g2_1 w.heap.size [6, 6, 1, 1, 1] (lnkS L v) 0) (A.eval (.tmp 1)) W ∧ (Is (.int .i64 (i : Int))) (A.eval (.tmp 3)) W) ?start10 ?_
   case start10 =>
    refine ⟨_, 0, rfl, hr, Same.rfl, e_w, (by omega), (by rfl), ?_, ?_⟩
    · exact (later e_w2 s1)
    · first | exact s3 | exact Is.int s3 (by first | omega | simp) | exact Is.bool s3 (by first | omega | simp)
   intro n10 a10 w10 hI
   clear e_w
   clear e_w2
   clear hr; obtain ⟨i, hn10, hr, hs, e_w, hi, hall, u1, u3⟩ := hI
   clear s1 s3
   have s1 := u1; clear u1
   have s3 := u3; clear u3
   have m10 := hs; clear hs
   refine wp_seq ?_
   refine wp_seq ?_
   refine wp_reg 56 [[(3, none)], [(1, none)], [(24, some 1)], [(25, some 2)], [(23, some 0), (26, some 3)]] [?b11_0, ?b11_1, ?b11_2, ?b11_3, ?b11_4] mixed (by kernel_rfl) (by kernel_rfl) hr ?t11 ?o11 ?_
   case o11 =>
    refine oc0 (fun A W hx hf => ?_) ?_
    exact ok_movE (a0 := a10) (r0 hf)
    refine oc0 (fun A W hx hf => ?_) ?_
    exact ok_fieldS 2 Try.underlying27 (k := 2) rfl size25 rfl (o1 s1 hx (r0 hf)) rfl
    refine oc0 (fun A W hx hf => ?_) ?_
    exact ok_is (ok_loadS Try.underlying25 rfl (q0 ?b11_1 A W 24 hf) rfl) (later (e_w.trans hx) hT)
    refine oc0 (fun A W hx hf => ?_) ?_
    exact ok_len_rw Try.underlying25 (q0 ?b11_2 A W 25 hf)
    refine oc0 (fun A W hx hf => ?_) ?_
    exact ok_lss (p1 s3 hx (q0 ?b11_0 A W 23 hf)) (q1 ?b11_3 A W 26 hf)
    exact OpsOk.nil
   case t11 => exact inferInstance
   clear hr; intro a12 w12 x hr hd hs
   revert s3; revert s1; refine kp2 hs rfl ?_; intro s1 s3
   have s27 := fa ?b11_4 a12 w12 27 (hd 4 27 rfl)
   replace e_w := e_w.trans x
   have e_w10 := x
   replace m10 := m10.tr hs rfl
   clear hd hs x
   refine exit_then ?_
   refine wp_cond_split (show _ = _ from s27) (fun hlt => ?_) (fun hlt => ?_)
   · skip
     have hlt : i < L.tags.length := by simp at hlt; omega
     refine wp_skip ?_
     refine exit_then ?_
     refine wp_seq ?_
     refine wp_block ?_
     refine wp_seq ?_
     refine wp_reg 56 [[(1, none)], [(30, some 0)], [(3, none)], [(31, some 1), (32, some 2)], [(33, some 3)], [(34, some 4)], [(35, some 5)], [(36, some 6)], [(37, some 7)], [(1, none), (38, some 8)], [(39, some 9), (38, some 8)], [(3, none), (38, some 8)], [(40, some 10), (41, some 11), (38, some 8)], [(42, some 12), (38, some 8)], [(43, some 13), (38, some 8)], [(44, some 14), (38, some 8)], [(38, some 8), (45, some 15)], [(46, some 16)], [(1, none), (47, some 17)], [(48, some 18), (47, some 17)], [(3, none), (47, some 17)], [(49, some 19), (50, some 20), (47, some 17)], [(51, some 21), (47, some 17)], [(52, some 22), (47, some 17)], [(53, some 23), (47, some 17)], [(47, some 17), (54, some 24)]] [?b14_0, ?b14_1, ?b14_2, ?b14_3, ?b14_4, ?b14_5, ?b14_6, ?b14_7, ?b14_7, ?b14_9, ?b14_10, ?b14_11, ?b14_12, ?b14_13, ?b14_14, ?b14_15, ?b14_16, ?b14_16, ?b14_18, ?b14_19, ?b14_20, ?b14_21, ?b14_22, ?b14_23, ?b14_24, ?b14_25] mixed (by kernel_rfl) (by kernel_rfl) hr ?t14 ?o14 ?_
     case o14 =>
      refine oc0 (fun A W hx hf => ?_) ?_
      exact ok_fieldS 2 Try.underlying27 (k := 2) rfl size25 rfl (o2 s1 e_w10 hx (r0 hf)) rfl
      refine oc0 (fun A W hx hf => ?_) ?_
      exact ok_is (ok_loadS Try.underlying25 rfl (q0 ?b14_0 A W 30 hf) rfl) (later (e_w.trans hx) hT)
      refine oc0 (fun A W hx hf => ?_) ?_
      exact ok_movE (a0 := a12) (r0 hf)
      refine oc0 (fun A W hx hf => ?_) ?_
      exact ok_index_rw (_) Try.underlying25 size45 (q0 ?b14_1 A W 31 hf) (p2 s3 e_w10 hx (q1 ?b14_2 A W 32 hf)) (by exact hlt)
      refine oc0 (fun A W hx hf => ?_) ?_
      exact ok_fieldAddr Try.underlying45 (i := 0) rfl size3 rfl (q0 ?b14_3 A W 33 hf)
      refine oc0 (fun A W hx hf => ?_) ?_
      exact ok_loadc Try.underlying3 rfl (q0 ?b14_4 A W 34 hf)
      refine oc0 (fun A W hx hf => ?_) ?_
      exact ok_call1 body20 (c_r7Tag (q0 ?b14_5 A W 35 hf))
      refine oc0 (fun A W hx hf => ?_) ?_
      exact ok_not (q0 ?b14_6 A W 36 hf)
      refine oc0 (fun A W hx hf => ?_) ?_
      exact ok_move (q0 ?b14_7 A W 37 hf)
      refine ocg 38 ?_ (fun A W hx hf => ?_) ?_
      rfl
      exact gd_f (q1 ?b14_7 A W 38 hf) (fun hc => ok_fieldS 2 Try.underlying27 (k := 2) rfl size25 rfl (o2 s1 e_w10 hx (r0 hf)) rfl)
      refine ocg 38 ?_ (fun A W hx hf => ?_) ?_
      rfl
      exact gd_f (q1 ?b14_7 A W 38 hf) (fun hc => ok_is (ok_loadS Try.underlying25 rfl (G.get (q0 ?b14_9 A W 39 hf) hc) rfl) (later (e_w.trans hx) hT))
      refine ocg 38 ?_ (fun A W hx hf => ?_) ?_
      rfl
      exact gd_f (q1 ?b14_7 A W 38 hf) (fun hc => ok_movE (a0 := a12) (r0 hf))
      refine ocg 38 ?_ (fun A W hx hf => ?_) ?_
      rfl
      exact gd_f (q2 ?b14_7 A W 38 hf) (fun hc => ok_index_rw (_) Try.underlying25 size45 (G.get (q0 ?b14_10 A W 40 hf) hc) (p2 s3 e_w10 hx (G.get (q1 ?b14_11 A W 41 hf) hc)) (by exact hlt))
      refine ocg 38 ?_ (fun A W hx hf => ?_) ?_
      rfl
      exact gd_f (q1 ?b14_7 A W 38 hf) (fun hc => ok_fieldAddr Try.underlying45 (i := 1) rfl size3 rfl (G.get (q0 ?b14_12 A W 42 hf) hc))
      refine ocg 38 ?_ (fun A W hx hf => ?_) ?_
      rfl
      exact gd_f (q1 ?b14_7 A W 38 hf) (fun hc => ok_loadc Try.underlying3 rfl (G.get (q0 ?b14_13 A W 43 hf) hc))
      refine ocg 38 ?_ (fun A W hx hf => ?_) ?_
      rfl
      exact gd_f (q1 ?b14_7 A W 38 hf) (fun hc => ok_lss (G.get (q0 ?b14_14 A W 44 hf) hc) (ec A (.int .i64 0)))
      refine oc0 (fun A W hx hf => ?_) ?_
      exact ok_or (q0 ?b14_7 A W 38 hf) (q1 ?b14_15 A W 45 hf)
      refine oc0 (fun A W hx hf => ?_) ?_
      exact ok_move (q0 ?b14_16 A W 46 hf)
      refine ocg 47 ?_ (fun A W hx hf => ?_) ?_
      rfl
      exact gd_f (q1 ?b14_16 A W 47 hf) (fun hc => ok_fieldS 2 Try.underlying27 (k := 2) rfl size25 rfl (o2 s1 e_w10 hx (r0 hf)) rfl)
      refine ocg 47 ?_ (fun A W hx hf => ?_) ?_
      rfl
      exact gd_f (q1 ?b14_16 A W 47 hf) (fun hc => ok_is (ok_loadS Try.underlying25 rfl (G.get (q0 ?b14_18 A W 48 hf) hc) rfl) (later (e_w.trans hx) hT))
      refine ocg 47 ?_ (fun A W hx hf => ?_) ?_
      rfl
      exact gd_f (q1 ?b14_16 A W 47 hf) (fun hc => ok_movE (a0 := a12) (r0 hf))
      refine ocg 47 ?_ (fun A W hx hf => ?_) ?_
      rfl
      exact gd_f (q2 ?b14_16 A W 47 hf) (fun hc => ok_index_rw (_) Try.underlying25 size45 (G.get (q0 ?b14_19 A W 49 hf) hc) (p2 s3 e_w10 hx (G.get (q1 ?b14_20 A W 50 hf) hc)) (by exact hlt))
      refine ocg 47 ?_ (fun A W hx hf => ?_) ?_
      rfl
      exact gd_f (q1 ?b14_16 A W 47 hf) (fun hc => ok_fieldAddr Try.underlying45 (i := 1) rfl size3 rfl (G.get (q0 ?b14_21 A W 51 hf) hc))
      refine ocg 47 ?_ (fun A W hx hf => ?_) ?_
      rfl
      exact gd_f (q1 ?b14_16 A W 47 hf) (fun hc => ok_loadc Try.underlying3 rfl (G.get (q0 ?b14_22 A W 52 hf) hc))
      refine ocg 47 ?_ (fun A W hx hf => ?_) ?_
      rfl
      exact gd_f (q1 ?b14_16 A W 47 hf) (fun hc => ok_gtr (G.get (q0 ?b14_23 A W 53 hf) hc) (ec A (.int .i64 65535)))
      refine oc0 (fun A W hx hf => ?_) ?_
      exact ok_or (q0 ?b14_16 A W 47 hf) (q1 ?b14_24 A W 54 hf)
      exact OpsOk.nil
     case t14 => repeat (first | exact stb_nil | refine stb_cons ?_)
     clear hr; intro a15 w15 x hr hd hs
     revert s3; revert s1; refine kp2 hs rfl ?_; intro s1 s3
     clear s27
     have s55 := fa ?b14_25 a15 w15 55 (hd 25 55 rfl)
     replace e_w := e_w.trans x
     replace e_w10 := e_w10.trans x
     replace m10 := m10.tr hs rfl
     clear hd hs x
     refine exit_then ?_
     refine wp_cond_split (show _ = _ from s55) (fun hb9 => ?_) (fun hb9 => ?_)
     · skip
       have hok : tagOk (L.tags[i]'hlt) = false := by have := rtagc (L.tags[i]'hlt); rw [show _ = true from hb9] at this; simpa using this.symm
       refine wp_seq ?_
       refine wp_reg 56 [[]] [?b17_0] mixed (by kernel_rfl) (by kernel_rfl) hr ?t17 ?o17 ?_
       case o17 =>
        refine oc0 (fun A W hx hf => ?_) ?_
        exact ok_assignc
        exact OpsOk.nil
       case t17 => exact inferInstance
       clear hr; intro a18 w18 x hr hd hs
       clear s1 s3 s55
       have s2 := fa ?b17_0 a18 w18 2 (hd 0 2 rfl)
       replace e_w := e_w.trans x
       clear e_w10
       replace m10 := m10.tr hs rfl
       clear hd hs x
       refine exit_then ?_
       refine wp_ret ?_
       refine blk_ret ?_
       refine then_ret ?_
       refine then_ret ?_
       refine blk_ret ?_
       refine then_ret ?_
       refine ret_tmp Try.results14 hr e_w ?_
       first | exact Is.bool s2 hr9.symm | exact Is.bool s2 (by rw [hr9]; exact (all_no hlt hok).symm) | exact Is.bool s2 (by rw [hr9]; exact hall.symm)
     · skip
       have hok : tagOk (L.tags[i]'hlt) = true := by have := rtagc (L.tags[i]'hlt); rw [show _ = false from hb9] at this; simpa using this.symm
       refine wp_skip ?_
       refine blk_normal ?_
       refine exit_then ?_
       refine wp_reg 56 [[(3, none)], [(28, some 0)], [(29, some 1)]] [?b19_0, ?b19_1, ?b19_1] mixed (by kernel_rfl) (by kernel_rfl) hr ?t19 ?o19 ?_
       case o19 =>
        refine oc0 (fun A W hx hf => ?_) ?_
        exact ok_movE (a0 := a15) (r0 hf)
        refine oc0 (fun A W hx hf => ?_) ?_
        exact ok_addI (p2 s3 e_w10 hx (q0 ?b19_0 A W 28 hf)) (ec A (.int .i64 1)) (by omega)
        refine oc0 (fun A W hx hf => ?_) ?_
        exact ok_assign (q0 ?b19_1 A W 29 hf)
        exact OpsOk.nil
       case t19 => exact inferInstance
       clear hr; intro a20 w20 x hr hd hs
       revert s1; refine kp1 hs rfl ?_; intro s1
       clear s3 s55
       have s3 := fa ?b19_1 a20 w20 3 (hd 2 3 rfl)
       replace e_w := e_w.trans x
       replace e_w10 := e_w10.trans x
       replace m10 := m10.tr hs rfl
       clear hd hs x
       refine exit_then ?_
       refine ⟨(fun (i : Nat) => L.tags.length - i) (i + 1), ?_, ?_⟩
       · (try dsimp only); omega
       refine ⟨i + 1, rfl, hr, m10, e_w, (by omega), (by exact all_step hlt hall hok), ?_, ?_⟩
       · exact (later e_w10 s1)
       · first | exact s3 | exact Is.int s3 (by first | omega | simp) | exact Is.bool s3 (by first | omega | simp)
   · skip
     have hlt : i = L.tags.length := by simp at hlt; omega
     subst hlt
     rw [List.take_length] at hall
     refine wp_exit ?_
     refine then_exit ?_
     refine then_exit ?_
     refine blk_exit ?_
     refine exit_then ?_
     refine wp_seq ?_
     refine wp_reg 56 [[]] [?b21_0] mixed (by kernel_rfl) (by kernel_rfl) hr ?t21 ?o21 ?_
     case o21 =>
      refine oc0 (fun A W hx hf => ?_) ?_
      exact ok_assignc
      exact OpsOk.nil
     case t21 => exact inferInstance
     clear hr; intro a22 w22 x hr hd hs
     clear s1 s3 s27
     have s2 := fa ?b21_0 a22 w22 2 (hd 0 2 rfl)
     replace e_w := e_w.trans x
     clear e_w10
     clear hd hs x
     refine exit_then ?_
     refine wp_ret ?_
     refine ret_tmp Try.results14 hr e_w ?_
     first | exact Is.bool s2 hr9.symm | exact Is.bool s2 (by rw [hr9]; exact (all_no hlt hok).symm) | exact Is.bool s2 (by rw [hr9]; exact hall.symm)

def D_c_r7Put_0 : List Tmp := [3, 4, 8, 9, 10, 11, 12, 13, 14, 15, 16, 17, 18]
def D_c_r7Put_1 : List Tmp := [3, 5, 19, 20, 21, 22, 23, 24, 25, 26, 27, 28, 29]
def D_c_r7Put_2 : List Tmp := [3, 6, 7, 30, 31, 32, 33, 34, 35, 36, 37, 38, 39, 40, 41, 42, 43, 44, 45, 46, 47, 48, 49, 50, 51, 52, 53, 54, 55, 56, 57, 58, 59, 60]
theorem c_r7Put {x0 : Value} {w : World} {L : LinkL} {B : Nat} (h0 : (LinkV L) x0 w) (hL : LinkOk L) (hr1 : linkRight L = true) (hB : B ≤ w.heap.size) :
    Calls Try.prog 16 #[x0] w (Ret (OwnB B 5 (linkPut L)) w) := by
 obtain ⟨v, eh0, hT, hvh0⟩ := h0
 replace h0 : Is (LnkA L v) x0 w := eh0
 have hd6 := hL.1
 have hs6 := hL.2
 obtain ⟨ht2, hty, htb, hall⟩ := linkRight_bd hr1
 refine enter Try.func16 rfl Try.ntmps16 (k := 1) rfl (by decide) (fun a0 hr hargs => ?_)
 have s0 := sarg h0 (hargs 0 (by decide))
 clear hargs
 refine wp_seq ?_
 refine wp_reg 72 [[(0, none)], []] [?b1_0, ?b1_1] mixed (by kernel_rfl) (by kernel_rfl) hr ?t1 ?o1 ?_
 case o1 =>
  refine oc0 (fun A W hx hf => ?_) ?_
  exact ok_boxS (lnkS L v) [6, 6, 1, 1, 1] (o1 s0 hx (r0 hf)) (by exact lnkS_lens hL) hx.size
  refine oc0 (fun A W hx hf => ?_) ?_
  exact ok_assignv (OwnBA 0 w.heap.size 5 []) (fun _ => ownBA_nil)
  exact OpsOk.nil
 case t1 => exact inferInstance
 clear hr; intro a2 w2 x hr hd hs
 clear s0
 have s1 := fa ?b1_0 a2 w2 1 (hd 0 1 rfl)
 obtain ⟨g2_1, q2_1⟩ := PxN.at s1; clear s1; have n2_1 := PxS.lt q2_1
 have s1 := q2_1; clear q2_1
 have e_w := x
 clear hd hs x
 refine exit_then ?_
 refine wp_seq ?_
 refine wp_reg 72 [[]] [?b3_0] mixed (by kernel_rfl) (by kernel_rfl) hr ?t3 ?o3 ?_
 case o3 =>
  refine oc0 (fun A W hx hf => ?_) ?_
  exact ok_assignv (OwnBA 0 w.heap.size 5 []) (fun _ => ownBA_nil)
  exact OpsOk.nil
 case t3 => exact inferInstance
 clear hr; intro a4 w4 x hr hd hs
 revert s1; refine kp1 hs rfl ?_; intro s1
 have s3 := fa ?b3_0 a4 w4 3 (hd 0 3 rfl)
 replace e_w := e_w.trans x
 have e_w2 := x
 clear hd hs x
 refine exit_then ?_
 refine wp_seq ?_
 refine wp_seq ?_
 refine wp_reg 72 [[]] [?b5_0] mixed (by kernel_rfl) (by kernel_rfl) hr ?t5 ?o5 ?_
 case o5 =>
  refine oc0 (fun A W hx hf => ?_) ?_
  exact ok_assignc
  exact OpsOk.nil
 case t5 => exact inferInstance
 clear hr; intro a6 w6 x hr hd hs
 revert s3; revert s1; refine kp2 hs rfl ?_; intro s1 s3
 have s4 := fa ?b5_0 a6 w6 4 (hd 0 4 rfl)
 replace e_w := e_w.trans x
 replace e_w2 := e_w2.trans x
 have e_w4 := x
 clear hd hs x
 refine exit_then ?_
 refine wp_block ?_
 refine wp_loop_inv (fun n A W => ∃ (i β : Nat), n = 6 - i ∧ Fr 72 A ∧ Same D_c_r7Put_0 a6 A ∧ Ext w W ∧ (i ≤ 6) ∧ (g2_1 ≠ β) ∧ (PxS g2_1 w.heap.size [6, 6, 1, 1, 1] (lnkS L v) 0) (A.eval (.tmp 1)) W ∧ (OwnBA β w.heap.size 5 (L.dst.take i)) (A.eval (.tmp 3)) W ∧ (Is (.int .i64 (i : Int))) (A.eval (.tmp 4)) W) ?start7 ?_
 case start7 =>
  refine ⟨_, 0, 0, rfl, hr, Same.rfl, e_w, (by first | assumption | omega), (by first | assumption | omega), ?_, ?_, ?_⟩
  · exact (later e_w2 s1)
  · exact OwnBA.cast (later e_w4 s3) (by simp)
  · first | exact s4 | exact Is.int s4 (by first | omega | simp) | exact Is.bool s4 (by first | omega | simp)
 intro n7 a7 w7 hI
 clear e_w
 clear e_w2
 clear e_w4
 clear hr; obtain ⟨i, β, hn7, hr, hs, e_w, hi, ne1, u1, u3, u4⟩ := hI
 clear s1 s3 s4
 have s1 := u1; clear u1
 have s3 := u3; clear u3
 have s4 := u4; clear u4
 have m7 := hs; clear hs
 refine wp_seq ?_
 refine wp_seq ?_
 refine wp_reg 72 [[(4, none)], [(8, some 0)]] [?b8_0, ?b8_1] mixed (by kernel_rfl) (by kernel_rfl) hr ?t8 ?o8 ?_
 case o8 =>
  refine oc0 (fun A W hx hf => ?_) ?_
  exact ok_movE (a0 := a7) (r0 hf)
  refine oc0 (fun A W hx hf => ?_) ?_
  exact ok_lss (p1 s4 hx (q0 ?b8_0 A W 8 hf)) (ec A (.int .i64 6))
  exact OpsOk.nil
 case t8 => exact inferInstance
 clear hr; intro a9 w9 x hr hd hs
 revert s4; revert s3; revert s1; refine kp3 hs rfl ?_; intro s1 s3 s4
 have s9 := fa ?b8_1 a9 w9 9 (hd 1 9 rfl)
 replace e_w := e_w.trans x
 have e_w7 := x
 replace m7 := m7.tr hs rfl
 clear hd hs x
 refine exit_then ?_
 refine wp_cond_split (show _ = _ from s9) (fun hlt => ?_) (fun hlt => ?_)
 · skip
   have hlt : i < 6 := by simp at hlt; omega
   refine wp_skip ?_
   refine exit_then ?_
   refine wp_seq ?_
   refine wp_block ?_
   refine wp_reg_pre (l := [_, _, _, _, _, _]) (rest := [_, _]) 72 [[(3, none)], [(4, none)], [(1, none)], [(14, some 2), (13, some 1)], [(15, some 3)], [(16, some 4)]] [?b11_0, ?b11_1, ?b11_2, ?b11_3, ?b11_4, ?b11_5] (by kernel_rfl) (by kernel_rfl) hr ?t11 ?o11 ?_
   case o11 =>
    refine oc0 (fun A W hx hf => ?_) ?_
    exact ok_movE (a0 := a9) (r0 hf)
    refine oc0 (fun A W hx hf => ?_) ?_
    exact ok_movE (a0 := a9) (r0 hf)
    refine oc0 (fun A W hx hf => ?_) ?_
    exact ok_fieldS 0 Try.underlying27 (k := 0) rfl size24 rfl (o2 s1 e_w7 hx (r0 hf)) rfl
    refine oc0 (fun A W hx hf => ?_) ?_
    exact ok_indexS (_) Try.underlying24 size5 (q0 ?b11_2 A W 14 hf) (p2 s4 e_w7 hx (q1 ?b11_1 A W 13 hf)) rfl (by omega)
    refine oc0 (fun A W hx hf => ?_) ?_
    exact ok_loadE Try.underlying5 rfl (q0 ?b11_3 A W 15 hf) rfl (by omega)
    refine oc0 (fun A W hx hf => ?_) ?_
    exact ok_buildBs [(.tmp 16)] [_] Try.underlying22 size5 zero5 rfl rfl (by decide) (PartsOk.cons (q0 ?b11_4 A W 16 hf) (PartsOk.nil))
    exact OpsOk.nil
   case t11 => exact inferInstance
   clear hr; intro a12 w12 x hr hd hs
   have u12 := mv s3 (fa ?b11_0 a12 w12 12 (hd 0 12 rfl))
   revert s4; revert s3; revert s1; refine kp3 hs rfl ?_; intro s1 s3 s4
   clear s9
   have s12 := u12; clear u12
   have s17 := fa ?b11_5 a12 w12 17 (hd 5 17 rfl)
   replace e_w := e_w.trans x
   replace e_w7 := e_w7.trans x
   replace m7 := m7.tr hs rfl
   clear hd hs x
   have l13 := OwnBA.lt (later e_w7 s12)
   have l13_1 := PxS.lt (later e_w7 s1)
   refine wl_append_bsA hr (by decide) Try.underlying22 info5 rfl (later e_w7 s12) s17 e_w.size (by first | (simp; omega) | (simp only [List.length_append, List.length_take, List.length_cons, List.length_nil]; omega) | (have hfl2 := tags_len2 ht2 L.tags.length; simp only [List.length_append, List.length_take, List.length_cons, List.length_nil]; omega)) ?_; clear hr; intro g13 a13 w13 hg13 hc hr hd hs
   have hb := hc.below e_w.size l13.1
   revert s4; revert s1; refine kp2 hs rfl ?_; intro s1 s4
   clear s3 s12 s17
   replace s1 := PxS.other (later e_w7 s1) hc (by omega)
   have s18 := hd
   replace e_w := e_w.below (Nat.le_refl _) hb
   clear e_w7
   replace s4 := anyw (w2 := w13) s4
   replace m7 := m7.tr hs rfl
   clear hd hs hb hc
   refine wl_op hr (ok_assign s18) inferInstance ?_; clear hr; intro a14 w14 x hr hd hs
   revert s4; revert s1; refine kp2 hs rfl ?_; intro s1 s4
   clear s18
   have s3 := hd 3 rfl (by decide)
   replace e_w := e_w.trans x
   have e_w13 := x
   replace m7 := m7.tr hs rfl
   clear hd hs x
   refine wpList_nil ?_
   refine blk_normal ?_
   refine exit_then ?_
   refine wp_reg 72 [[(4, none)], [(10, some 0)], [(11, some 1)]] [?b15_0, ?b15_1, ?b15_1] mixed (by kernel_rfl) (by kernel_rfl) hr ?t15 ?o15 ?_
   case o15 =>
    refine oc0 (fun A W hx hf => ?_) ?_
    exact ok_movE (a0 := a14) (r0 hf)
    refine oc0 (fun A W hx hf => ?_) ?_
    exact ok_addI (p2 s4 e_w13 hx (q0 ?b15_0 A W 10 hf)) (ec A (.int .i64 1)) (by omega)
    refine oc0 (fun A W hx hf => ?_) ?_
    exact ok_assign (q0 ?b15_1 A W 11 hf)
    exact OpsOk.nil
   case t15 => exact inferInstance
   clear hr; intro a16 w16 x hr hd hs
   revert s3; revert s1; refine kp2 hs rfl ?_; intro s1 s3
   clear s4
   have s4 := fa ?b15_1 a16 w16 4 (hd 2 4 rfl)
   replace e_w := e_w.trans x
   replace e_w13 := e_w13.trans x
   have e_w14 := x
   replace m7 := m7.tr hs rfl
   clear hd hs x
   refine exit_then ?_
   refine ⟨(fun (i β : Nat) => 6 - i) (i + 1) (0), ?_, ?_⟩
   · (try dsimp only); omega
   refine ⟨i + 1, g13, rfl, hr, m7, e_w, (by first | assumption | omega), (by first | assumption | omega), ?_, ?_, ?_⟩
   · exact (later e_w13 s1)
   · exact OwnBA.cast (later e_w14 s3) (by rw [take_snocB (l := L.dst) (by omega)])
   · first | exact s4 | exact Is.int s4 (by first | omega | simp) | exact Is.bool s4 (by first | omega | simp)
 · skip
   have hlt : i = 6 := by simp at hlt; omega
   subst hlt
   refine wp_exit ?_
   refine then_exit ?_
   refine then_exit ?_
   refine blk_exit ?_
   refine exit_then ?_
   refine wp_seq ?_
   refine wp_seq ?_
   refine wp_reg 72 [[]] [?b17_0] mixed (by kernel_rfl) (by kernel_rfl) hr ?t17 ?o17 ?_
   case o17 =>
    refine oc0 (fun A W hx hf => ?_) ?_
    exact ok_assignc
    exact OpsOk.nil
   case t17 => exact inferInstance
   clear hr; intro a18 w18 x hr hd hs
   revert s3; revert s1; refine kp2 hs rfl ?_; intro s1 s3
   clear s4 s9
   have s5 := fa ?b17_0 a18 w18 5 (hd 0 5 rfl)
   replace e_w := e_w.trans x
   replace e_w7 := e_w7.trans x
   clear hd hs x
   refine exit_then ?_
   refine wp_block ?_
   refine wp_loop_inv (fun n A W => ∃ (j β : Nat), n = 6 - j ∧ Fr 72 A ∧ Same D_c_r7Put_1 a18 A ∧ Ext w W ∧ (j ≤ 6) ∧ (g2_1 ≠ β) ∧ (PxS g2_1 w.heap.size [6, 6, 1, 1, 1] (lnkS L v) 0) (A.eval (.tmp 1)) W ∧ (OwnBA β w.heap.size 5 (L.dst.take 6 ++ L.src.take j)) (A.eval (.tmp 3)) W ∧ (Is (.int .i64 (j : Int))) (A.eval (.tmp 5)) W) ?start19 ?_
   case start19 =>
    refine ⟨_, 0, β, rfl, hr, Same.rfl, e_w, (by first | assumption | omega), (by first | assumption | omega), ?_, ?_, ?_⟩
    · exact (later e_w7 s1)
    · exact OwnBA.cast (later e_w7 s3) (by simp)
    · first | exact s5 | exact Is.int s5 (by first | omega | simp) | exact Is.bool s5 (by first | omega | simp)
   intro n19 a19 w19 hI
   clear e_w
   clear e_w7
   clear hr; obtain ⟨j, β, hn19, hr, hs, e_w, hj, ne2, u1, u3, u5⟩ := hI
   clear s1 s3 s5
   have s1 := u1; clear u1
   have s3 := u3; clear u3
   have s5 := u5; clear u5
   have m19 := hs; clear hs
   refine wp_seq ?_
   refine wp_seq ?_
   refine wp_reg 72 [[(5, none)], [(19, some 0)]] [?b20_0, ?b20_1] mixed (by kernel_rfl) (by kernel_rfl) hr ?t20 ?o20 ?_
   case o20 =>
    refine oc0 (fun A W hx hf => ?_) ?_
    exact ok_movE (a0 := a19) (r0 hf)
    refine oc0 (fun A W hx hf => ?_) ?_
    exact ok_lss (p1 s5 hx (q0 ?b20_0 A W 19 hf)) (ec A (.int .i64 6))
    exact OpsOk.nil
   case t20 => exact inferInstance
   clear hr; intro a21 w21 x hr hd hs
   revert s5; revert s3; revert s1; refine kp3 hs rfl ?_; intro s1 s3 s5
   have s20 := fa ?b20_1 a21 w21 20 (hd 1 20 rfl)
   replace e_w := e_w.trans x
   have e_w19 := x
   replace m19 := m19.tr hs rfl
   clear hd hs x
   refine exit_then ?_
   refine wp_cond_split (show _ = _ from s20) (fun hlt => ?_) (fun hlt => ?_)
   · skip
     have hlt : j < 6 := by simp at hlt; omega
     refine wp_skip ?_
     refine exit_then ?_
     refine wp_seq ?_
     refine wp_block ?_
     refine wp_reg_pre (l := [_, _, _, _, _, _]) (rest := [_, _]) 72 [[(3, none)], [(5, none)], [(1, none)], [(25, some 2), (24, some 1)], [(26, some 3)], [(27, some 4)]] [?b23_0, ?b23_1, ?b23_2, ?b23_3, ?b23_4, ?b23_5] (by kernel_rfl) (by kernel_rfl) hr ?t23 ?o23 ?_
     case o23 =>
      refine oc0 (fun A W hx hf => ?_) ?_
      exact ok_movE (a0 := a21) (r0 hf)
      refine oc0 (fun A W hx hf => ?_) ?_
      exact ok_movE (a0 := a21) (r0 hf)
      refine oc0 (fun A W hx hf => ?_) ?_
      exact ok_fieldS 1 Try.underlying27 (k := 1) rfl size24 rfl (o2 s1 e_w19 hx (r0 hf)) rfl
      refine oc0 (fun A W hx hf => ?_) ?_
      exact ok_indexS (_) Try.underlying24 size5 (q0 ?b23_2 A W 25 hf) (p2 s5 e_w19 hx (q1 ?b23_1 A W 24 hf)) rfl (by omega)
      refine oc0 (fun A W hx hf => ?_) ?_
      exact ok_loadE Try.underlying5 rfl (q0 ?b23_3 A W 26 hf) rfl (by omega)
      refine oc0 (fun A W hx hf => ?_) ?_
      exact ok_buildBs [(.tmp 27)] [_] Try.underlying22 size5 zero5 rfl rfl (by decide) (PartsOk.cons (q0 ?b23_4 A W 27 hf) (PartsOk.nil))
      exact OpsOk.nil
     case t23 => exact inferInstance
     clear hr; intro a24 w24 x hr hd hs
     have u23 := mv s3 (fa ?b23_0 a24 w24 23 (hd 0 23 rfl))
     revert s5; revert s3; revert s1; refine kp3 hs rfl ?_; intro s1 s3 s5
     clear s20
     have s23 := u23; clear u23
     have s28 := fa ?b23_5 a24 w24 28 (hd 5 28 rfl)
     replace e_w := e_w.trans x
     replace e_w19 := e_w19.trans x
     replace m19 := m19.tr hs rfl
     clear hd hs x
     have l25 := OwnBA.lt (later e_w19 s23)
     have l25_1 := PxS.lt (later e_w19 s1)
     refine wl_append_bsA hr (by decide) Try.underlying22 info5 rfl (later e_w19 s23) s28 e_w.size (by first | (simp; omega) | (simp only [List.length_append, List.length_take, List.length_cons, List.length_nil]; omega) | (have hfl2 := tags_len2 ht2 L.tags.length; simp only [List.length_append, List.length_take, List.length_cons, List.length_nil]; omega)) ?_; clear hr; intro g25 a25 w25 hg25 hc hr hd hs
     have hb := hc.below e_w.size l25.1
     revert s5; revert s1; refine kp2 hs rfl ?_; intro s1 s5
     clear s3 s23 s28
     replace s1 := PxS.other (later e_w19 s1) hc (by omega)
     have s29 := hd
     replace e_w := e_w.below (Nat.le_refl _) hb
     clear e_w19
     replace s5 := anyw (w2 := w25) s5
     replace m19 := m19.tr hs rfl
     clear hd hs hb hc
     refine wl_op hr (ok_assign s29) inferInstance ?_; clear hr; intro a26 w26 x hr hd hs
     revert s5; revert s1; refine kp2 hs rfl ?_; intro s1 s5
     clear s29
     have s3 := hd 3 rfl (by decide)
     replace e_w := e_w.trans x
     have e_w25 := x
     replace m19 := m19.tr hs rfl
     clear hd hs x
     refine wpList_nil ?_
     refine blk_normal ?_
     refine exit_then ?_
     refine wp_reg 72 [[(5, none)], [(21, some 0)], [(22, some 1)]] [?b27_0, ?b27_1, ?b27_1] mixed (by kernel_rfl) (by kernel_rfl) hr ?t27 ?o27 ?_
     case o27 =>
      refine oc0 (fun A W hx hf => ?_) ?_
      exact ok_movE (a0 := a26) (r0 hf)
      refine oc0 (fun A W hx hf => ?_) ?_
      exact ok_addI (p2 s5 e_w25 hx (q0 ?b27_0 A W 21 hf)) (ec A (.int .i64 1)) (by omega)
      refine oc0 (fun A W hx hf => ?_) ?_
      exact ok_assign (q0 ?b27_1 A W 22 hf)
      exact OpsOk.nil
     case t27 => exact inferInstance
     clear hr; intro a28 w28 x hr hd hs
     revert s3; revert s1; refine kp2 hs rfl ?_; intro s1 s3
     clear s5
     have s5 := fa ?b27_1 a28 w28 5 (hd 2 5 rfl)
     replace e_w := e_w.trans x
     replace e_w25 := e_w25.trans x
     have e_w26 := x
     replace m19 := m19.tr hs rfl
     clear hd hs x
     refine exit_then ?_
     refine ⟨(fun (j β : Nat) => 6 - j) (j + 1) (0), ?_, ?_⟩
     · (try dsimp only); omega
     refine ⟨j + 1, g25, rfl, hr, m19, e_w, (by first | assumption | omega), (by first | assumption | omega), ?_, ?_, ?_⟩
     · exact (later e_w25 s1)
     · exact OwnBA.cast (later e_w26 s3) (by rw [take_snocB (l := L.src) (by omega), ← List.append_assoc])
     · first | exact s5 | exact Is.int s5 (by first | omega | simp) | exact Is.bool s5 (by first | omega | simp)
   · skip
     have hlt : j = 6 := by simp at hlt; omega
     subst hlt
     refine wp_exit ?_
     refine then_exit ?_
     refine then_exit ?_
     refine blk_exit ?_
     refine exit_then ?_
     refine wp_seq ?_
     refine wp_seq ?_
     refine wp_reg 72 [[]] [?b29_0] mixed (by kernel_rfl) (by kernel_rfl) hr ?t29 ?o29 ?_
     case o29 =>
      refine oc0 (fun A W hx hf => ?_) ?_
      exact ok_assignc
      exact OpsOk.nil
     case t29 => exact inferInstance
     clear hr; intro a30 w30 x hr hd hs
     revert s3; revert s1; refine kp2 hs rfl ?_; intro s1 s3
     clear s5 s20
     have s6 := fa ?b29_0 a30 w30 6 (hd 0 6 rfl)
     replace e_w := e_w.trans x
     replace e_w19 := e_w19.trans x
     clear hd hs x
     refine exit_then ?_
     refine wp_block ?_
     refine wp_loop_inv (fun n A W => ∃ (q β : Nat), n = L.tags.length - q ∧ Fr 72 A ∧ Same D_c_r7Put_2 a30 A ∧ Ext w W ∧ (q ≤ L.tags.length) ∧ (g2_1 ≠ β) ∧ (PxS g2_1 w.heap.size [6, 6, 1, 1, 1] (lnkS L v) 0) (A.eval (.tmp 1)) W ∧ (OwnBA β w.heap.size 5 (L.dst.take 6 ++ L.src.take 6 ++ (L.tags.take q).flatMap tagPut)) (A.eval (.tmp 3)) W ∧ (Is (.int .i64 (q : Int))) (A.eval (.tmp 6)) W) ?start31 ?_
     case start31 =>
      refine ⟨_, 0, β, rfl, hr, Same.rfl, e_w, (by first | assumption | omega), (by first | assumption | omega), ?_, ?_, ?_⟩
      · exact (later e_w19 s1)
      · exact OwnBA.cast (later e_w19 s3) (by simp)
      · first | exact s6 | exact Is.int s6 (by first | omega | simp) | exact Is.bool s6 (by first | omega | simp)
     intro n31 a31 w31 hI
     clear e_w
     clear e_w19
     clear hr; obtain ⟨q, β, hn31, hr, hs, e_w, hq, ne3, u1, u3, u6⟩ := hI
     clear s1 s3 s6
     have s1 := u1; clear u1
     have s3 := u3; clear u3
     have s6 := u6; clear u6
     have m31 := hs; clear hs
     refine wp_seq ?_
     refine wp_seq ?_
     refine wp_reg 72 [[(6, none)], [(1, none)], [(31, some 1)], [(32, some 2)], [(30, some 0), (33, some 3)]] [?b32_0, ?b32_1, ?b32_2, ?b32_3, ?b32_4] mixed (by kernel_rfl) (by kernel_rfl) hr ?t32 ?o32 ?_
     case o32 =>
      refine oc0 (fun A W hx hf => ?_) ?_
      exact ok_movE (a0 := a31) (r0 hf)
      refine oc0 (fun A W hx hf => ?_) ?_
      exact ok_fieldS 2 Try.underlying27 (k := 2) rfl size25 rfl (o1 s1 hx (r0 hf)) rfl
      refine oc0 (fun A W hx hf => ?_) ?_
      exact ok_is (ok_loadS Try.underlying25 rfl (q0 ?b32_1 A W 31 hf) rfl) (later (e_w.trans hx) hT)
      refine oc0 (fun A W hx hf => ?_) ?_
      exact ok_len_rw Try.underlying25 (q0 ?b32_2 A W 32 hf)
      refine oc0 (fun A W hx hf => ?_) ?_
      exact ok_lss (p1 s6 hx (q0 ?b32_0 A W 30 hf)) (q1 ?b32_3 A W 33 hf)
      exact OpsOk.nil
     case t32 => exact inferInstance
     clear hr; intro a33 w33 x hr hd hs
     revert s6; revert s3; revert s1; refine kp3 hs rfl ?_; intro s1 s3 s6
     have s34 := fa ?b32_4 a33 w33 34 (hd 4 34 rfl)
     replace e_w := e_w.trans x
     have e_w31 := x
     replace m31 := m31.tr hs rfl
     clear hd hs x
     refine exit_then ?_
     refine wp_cond_split (show _ = _ from s34) (fun hlt => ?_) (fun hlt => ?_)
     · skip
       have hlt : q < L.tags.length := by simp at hlt; omega
       obtain ⟨X, hX⟩ : ∃ X, X = L.tags[q]'hlt := ⟨_, rfl⟩
       have hxo : tagOk X = true := by rw [hX]; exact hall _ (List.getElem_mem hlt)
       unfold tagOk at hxo
       simp only [Bool.and_eq_true] at hxo
       have b1 := tagB_bd hxo.1
       have b2 := inW_bd hxo.2
       have hfl := tags_len2 ht2 q
       refine wp_skip ?_
       refine exit_then ?_
       refine wp_seq ?_
       refine wp_block ?_
       refine wp_seq ?_
       refine wp_reg_pre (l := [_, _, _, _, _, _]) (rest := [_]) 72 [[(1, none)], [(37, some 0)], [(6, none)], [(38, some 1), (39, some 2)], [(40, some 3)], []] [?b35_0, ?b35_1, ?b35_2, ?b35_3, ?b35_4, ?b35_5] (by kernel_rfl) (by kernel_rfl) hr ?t35 ?o35 ?_
       case o35 =>
        refine oc0 (fun A W hx hf => ?_) ?_
        exact ok_fieldS 2 Try.underlying27 (k := 2) rfl size25 rfl (o2 s1 e_w31 hx (r0 hf)) rfl
        refine oc0 (fun A W hx hf => ?_) ?_
        exact ok_is (ok_loadS Try.underlying25 rfl (q0 ?b35_0 A W 37 hf) rfl) (later (e_w.trans hx) hT)
        refine oc0 (fun A W hx hf => ?_) ?_
        exact ok_movE (a0 := a33) (r0 hf)
        refine oc0 (fun A W hx hf => ?_) ?_
        exact ok_index_rw (_) Try.underlying25 size45 (q0 ?b35_1 A W 38 hf) (p2 s6 e_w31 hx (q1 ?b35_2 A W 39 hf)) (by exact hlt)
        refine oc0 (fun A W hx hf => ?_) ?_
        exact ok_loadAll Try.underlying45 rfl size45 (q0 ?b35_3 A W 40 hf) (by rfl)
        refine oc0 (fun A W hx hf => ?_) ?_
        exact ok_allocS [[.int .i64 0], [.int .i64 0]] [1, 1] zerov45 (by rfl) (by rfl) hx.size
        exact OpsOk.nil
       case t35 => exact inferInstance
       clear hr; intro a36 w36 x hr hd hs
       have z_w_w33 := e_w.size
       have z_w31_w33 := e_w31.size
       have l36_1 := PxS.lt (later e_w31 s1)
       have l36_3 := OwnBA.lt (later e_w31 s3)
       revert s6; revert s3; revert s1; refine kp3 hs rfl ?_; intro s1 s3 s6
       clear s34
       have s41 := fa ?b35_4 a36 w36 41 (hd 4 41 rfl)
       have s7 := fa ?b35_5 a36 w36 7 (hd 5 7 rfl)
       obtain ⟨g36_7, q36_7⟩ := PxN.at s7; clear s7; have n36_7 := PxS.lt q36_7
       replace q36_7 := PxS.mono q36_7 e_w.size
       have s7 := q36_7; clear q36_7
       replace e_w := e_w.trans x
       replace e_w31 := e_w31.trans x
       replace m31 := m31.tr hs rfl
       clear hd hs x
       have z37 := PxS.lt s7
       have l37 := (show (g36_7 = 0 ∨ w.heap.size < g36_7) ∧ True from ⟨by omega, trivial⟩)
       have l37_1 := PxS.lt (later e_w31 s1)
       have l37_3 := OwnBA.lt (later e_w31 s3)
       refine wl_storeSm [[.int .i64 X.type], [.int .i64 X.tci]] hr size45 s7 (Is.conv s41 (show _ = Value.agg [[Value.int .i64 X.type], [Value.int .i64 X.tci]].flatten.toArray from by rw [hX]; rfl)) (by rfl) (by intro u hu; simp at hu; rcases hu with rfl | rfl <;> rfl) rfl ?_; clear hr; intro a37 w37 hc hu hr hs
       have hb : Below w.heap.size w36 w37 := hc.below e_w.size l37.1
       revert s7; revert s6; revert s3; revert s1; refine kp4 hs rfl ?_; intro s1 s3 s6 s7
       clear s41
       replace s1 := PxS.other (later e_w31 s1) hc (by omega)
       replace s3 := OwnBA.other (later e_w31 s3) hc (by omega)
       replace s7 := hu _ _ _ s7
       try simp only [List.set_cons_zero, List.set_cons_succ] at s7
       replace e_w := e_w.below (Nat.le_refl _) hb
       clear e_w31
       replace s6 := anyw (w2 := w37) s6
       replace m31 := m31.tr hs rfl
       clear hu hs hc hb
       refine wpList_nil ?_
       refine exit_then ?_
       refine wp_reg_pre (l := [_, _, _, _, _, _, _, _, _, _, _, _, _, _, _, _, _, _]) (rest := [_, _]) 72 [[(3, none)], [(7, none)], [(43, some 1)], [(44, some 2)], [(45, some 3)], [(7, none)], [(47, some 5)], [(48, some 6)], [(49, some 7)], [(7, none)], [(51, some 9)], [(52, some 10)], [(53, some 11)], [(7, none)], [(55, some 13)], [(56, some 14)], [(57, some 15)], [(46, some 4), (50, some 8), (54, some 12), (58, some 16)]] [?b38_0, ?b38_1, ?b38_2, ?b38_3, ?b38_4, ?b38_5, ?b38_6, ?b38_7, ?b38_8, ?b38_9, ?b38_10, ?b38_11, ?b38_12, ?b38_13, ?b38_14, ?b38_15, ?b38_16, ?b38_17] (by kernel_rfl) (by kernel_rfl) hr ?t38 ?o38 ?_
       case o38 =>
        refine oc0 (fun A W hx hf => ?_) ?_
        exact ok_movE (a0 := a37) (r0 hf)
        refine oc0 (fun A W hx hf => ?_) ?_
        exact ok_fieldS 0 Try.underlying45 (k := 0) rfl size3 rfl (o1 s7 hx (r0 hf)) rfl
        refine oc0 (fun A W hx hf => ?_) ?_
        exact ok_loadS Try.underlying3 rfl (q0 ?b38_1 A W 43 hf) rfl
        refine oc0 (fun A W hx hf => ?_) ?_
        exact ok_quo (by decide) (q0 ?b38_2 A W 44 hf) (ec A (.int .i64 256))
        refine oc0 (fun A W hx hf => ?_) ?_
        exact ok_conv8 Try.underlying3 Try.underlying5 (q0 ?b38_3 A W 45 hf)
        refine oc0 (fun A W hx hf => ?_) ?_
        exact ok_fieldS 0 Try.underlying45 (k := 0) rfl size3 rfl (o1 s7 hx (r0 hf)) rfl
        refine oc0 (fun A W hx hf => ?_) ?_
        exact ok_loadS Try.underlying3 rfl (q0 ?b38_5 A W 47 hf) rfl
        refine oc0 (fun A W hx hf => ?_) ?_
        exact ok_rem (by decide) (q0 ?b38_6 A W 48 hf) (ec A (.int .i64 256))
        refine oc0 (fun A W hx hf => ?_) ?_
        exact ok_conv8 Try.underlying3 Try.underlying5 (q0 ?b38_7 A W 49 hf)
        refine oc0 (fun A W hx hf => ?_) ?_
        exact ok_fieldS 1 Try.underlying45 (k := 1) rfl size3 rfl (o1 s7 hx (r0 hf)) rfl
        refine oc0 (fun A W hx hf => ?_) ?_
        exact ok_loadS Try.underlying3 rfl (q0 ?b38_9 A W 51 hf) rfl
        refine oc0 (fun A W hx hf => ?_) ?_
        exact ok_quo (by decide) (q0 ?b38_10 A W 52 hf) (ec A (.int .i64 256))
        refine oc0 (fun A W hx hf => ?_) ?_
        exact ok_conv8 Try.underlying3 Try.underlying5 (q0 ?b38_11 A W 53 hf)
        refine oc0 (fun A W hx hf => ?_) ?_
        exact ok_fieldS 1 Try.underlying45 (k := 1) rfl size3 rfl (o1 s7 hx (r0 hf)) rfl
        refine oc0 (fun A W hx hf => ?_) ?_
        exact ok_loadS Try.underlying3 rfl (q0 ?b38_13 A W 55 hf) rfl
        refine oc0 (fun A W hx hf => ?_) ?_
        exact ok_rem (by decide) (q0 ?b38_14 A W 56 hf) (ec A (.int .i64 256))
        refine oc0 (fun A W hx hf => ?_) ?_
        exact ok_conv8 Try.underlying3 Try.underlying5 (q0 ?b38_15 A W 57 hf)
        refine oc0 (fun A W hx hf => ?_) ?_
        exact ok_buildBs [(.tmp 46), (.tmp 50), (.tmp 54), (.tmp 58)] [_, _, _, _] Try.underlying22 size5 zero5 rfl rfl (by decide) (PartsOk.cons (q0 ?b38_4 A W 46 hf) (PartsOk.cons (q1 ?b38_8 A W 50 hf) (PartsOk.cons (q2 ?b38_12 A W 54 hf) (PartsOk.cons (q3 ?b38_16 A W 58 hf) (PartsOk.nil)))))
        exact OpsOk.nil
       case t38 => exact inferInstance
       clear hr; intro a39 w39 x hr hd hs
       have u42 := mv s3 (fa ?b38_0 a39 w39 42 (hd 0 42 rfl))
       revert s6; revert s3; revert s1; refine kp3 hs rfl ?_; intro s1 s3 s6
       clear s7
       have s42 := u42; clear u42
       have s59 := fa ?b38_17 a39 w39 59 (hd 17 59 rfl)
       replace e_w := e_w.trans x
       have e_w37 := x
       replace m31 := m31.tr hs rfl
       clear hd hs x
       have l40 := OwnBA.lt (later e_w37 s42)
       have l40_1 := PxS.lt (later e_w37 s1)
       refine wl_append_bsA hr (by decide) Try.underlying22 info5 rfl (later e_w37 s42) s59 e_w.size (by first | (simp; omega) | (simp only [List.length_append, List.length_take, List.length_cons, List.length_nil]; omega) | (have hfl2 := tags_len2 ht2 L.tags.length; simp only [List.length_append, List.length_take, List.length_cons, List.length_nil]; omega)) ?_; clear hr; intro g40 a40 w40 hg40 hc hr hd hs
       have hb := hc.below e_w.size l40.1
       revert s6; revert s1; refine kp2 hs rfl ?_; intro s1 s6
       clear s3 s42 s59
       replace s1 := PxS.other (later e_w37 s1) hc (by omega)
       have s60 := hd
       replace e_w := e_w.below (Nat.le_refl _) hb
       clear e_w37
       replace s6 := anyw (w2 := w40) s6
       replace m31 := m31.tr hs rfl
       clear hd hs hb hc
       refine wl_op hr (ok_assign s60) inferInstance ?_; clear hr; intro a41 w41 x hr hd hs
       revert s6; revert s1; refine kp2 hs rfl ?_; intro s1 s6
       clear s60
       have s3 := hd 3 rfl (by decide)
       replace e_w := e_w.trans x
       have e_w40 := x
       replace m31 := m31.tr hs rfl
       clear hd hs x
       refine wpList_nil ?_
       refine blk_normal ?_
       refine exit_then ?_
       refine wp_reg 72 [[(6, none)], [(35, some 0)], [(36, some 1)]] [?b42_0, ?b42_1, ?b42_1] mixed (by kernel_rfl) (by kernel_rfl) hr ?t42 ?o42 ?_
       case o42 =>
        refine oc0 (fun A W hx hf => ?_) ?_
        exact ok_movE (a0 := a41) (r0 hf)
        refine oc0 (fun A W hx hf => ?_) ?_
        exact ok_addI (p2 s6 e_w40 hx (q0 ?b42_0 A W 35 hf)) (ec A (.int .i64 1)) (by omega)
        refine oc0 (fun A W hx hf => ?_) ?_
        exact ok_assign (q0 ?b42_1 A W 36 hf)
        exact OpsOk.nil
       case t42 => exact inferInstance
       clear hr; intro a43 w43 x hr hd hs
       revert s3; revert s1; refine kp2 hs rfl ?_; intro s1 s3
       clear s6
       have s6 := fa ?b42_1 a43 w43 6 (hd 2 6 rfl)
       replace e_w := e_w.trans x
       replace e_w40 := e_w40.trans x
       have e_w41 := x
       replace m31 := m31.tr hs rfl
       clear hd hs x
       refine exit_then ?_
       refine ⟨(fun (q β : Nat) => L.tags.length - q) (q + 1) (0), ?_, ?_⟩
       · (try dsimp only); omega
       refine ⟨q + 1, g40, rfl, hr, m31, e_w, (by first | assumption | omega), (by first | assumption | omega), ?_, ?_, ?_⟩
       · exact (later e_w40 s1)
       · exact OwnBA.cast (later e_w41 s3) (by rw [tags_step hlt, ← hX, b8_quo b1, b8_rem b1.1, b8_quo b2, b8_rem b2.1, show ((2 : Int) ^ 8) = 256 from rfl]; simp [tagPut, put2])
       · first | exact s6 | exact Is.int s6 (by first | omega | simp) | exact Is.bool s6 (by first | omega | simp)
     · skip
       have hlt : q = L.tags.length := by simp at hlt; omega
       subst hlt
       refine wp_exit ?_
       refine then_exit ?_
       refine then_exit ?_
       refine blk_exit ?_
       refine exit_then ?_
       refine wp_seq ?_
       refine wp_reg_pre (l := [_, _, _, _, _, _, _, _, _, _]) (rest := [_, _]) 72 [[(3, none)], [(1, none)], [(62, some 1)], [(63, some 2)], [(64, some 3)], [(1, none)], [(66, some 5)], [(67, some 6)], [(68, some 7)], [(65, some 4), (69, some 8)]] [?b44_0, ?b44_1, ?b44_2, ?b44_3, ?b44_4, ?b44_5, ?b44_6, ?b44_7, ?b44_8, ?b44_9] (by kernel_rfl) (by kernel_rfl) hr ?t44 ?o44 ?_
       case o44 =>
        refine oc0 (fun A W hx hf => ?_) ?_
        exact ok_movE (a0 := a33) (r0 hf)
        refine oc0 (fun A W hx hf => ?_) ?_
        exact ok_fieldS 3 Try.underlying27 (k := 3) rfl size3 rfl (o2 s1 e_w31 hx (r0 hf)) rfl
        refine oc0 (fun A W hx hf => ?_) ?_
        exact ok_loadS Try.underlying3 rfl (q0 ?b44_1 A W 62 hf) rfl
        refine oc0 (fun A W hx hf => ?_) ?_
        exact ok_quo (by decide) (q0 ?b44_2 A W 63 hf) (ec A (.int .i64 256))
        refine oc0 (fun A W hx hf => ?_) ?_
        exact ok_conv8 Try.underlying3 Try.underlying5 (q0 ?b44_3 A W 64 hf)
        refine oc0 (fun A W hx hf => ?_) ?_
        exact ok_fieldS 3 Try.underlying27 (k := 3) rfl size3 rfl (o2 s1 e_w31 hx (r0 hf)) rfl
        refine oc0 (fun A W hx hf => ?_) ?_
        exact ok_loadS Try.underlying3 rfl (q0 ?b44_5 A W 66 hf) rfl
        refine oc0 (fun A W hx hf => ?_) ?_
        exact ok_rem (by decide) (q0 ?b44_6 A W 67 hf) (ec A (.int .i64 256))
        refine oc0 (fun A W hx hf => ?_) ?_
        exact ok_conv8 Try.underlying3 Try.underlying5 (q0 ?b44_7 A W 68 hf)
        refine oc0 (fun A W hx hf => ?_) ?_
        exact ok_buildBs [(.tmp 65), (.tmp 69)] [_, _] Try.underlying22 size5 zero5 rfl rfl (by decide) (PartsOk.cons (q0 ?b44_4 A W 65 hf) (PartsOk.cons (q1 ?b44_8 A W 69 hf) (PartsOk.nil)))
        exact OpsOk.nil
       case t44 => exact inferInstance
       clear hr; intro a45 w45 x hr hd hs
       have u61 := mv s3 (fa ?b44_0 a45 w45 61 (hd 0 61 rfl))
       clear s1 s3 s6 s34
       have s61 := u61; clear u61
       have s70 := fa ?b44_9 a45 w45 70 (hd 9 70 rfl)
       replace e_w := e_w.trans x
       replace e_w31 := e_w31.trans x
       clear hd hs x
       have l46 := OwnBA.lt (later e_w31 s61)
       refine wl_append_bsA hr (by decide) Try.underlying22 info5 rfl (later e_w31 s61) s70 e_w.size (by first | (simp; omega) | (simp only [List.length_append, List.length_take, List.length_cons, List.length_nil]; omega) | (have hfl2 := tags_len2 ht2 L.tags.length; simp only [List.length_append, List.length_take, List.length_cons, List.length_nil]; omega)) ?_; clear hr; intro g46 a46 w46 hg46 hc hr hd hs
       have hb := hc.below e_w.size l46.1
       clear s61 s70
       have s71 := hd
       replace e_w := e_w.below (Nat.le_refl _) hb
       clear e_w31
       clear hd hs hb hc
       refine wl_op hr (ok_assign s71) inferInstance ?_; clear hr; intro a47 w47 x hr hd hs
       clear s71
       have s2 := hd 2 rfl (by decide)
       replace e_w := e_w.trans x
       clear hd hs x
       refine wpList_nil ?_
       refine exit_then ?_
       refine wp_ret ?_
       refine ret_tmp Try.results16 hr e_w ?_
       exact OwnB.cast (OwnB.mono s2.own hB) (by rw [List.take_length, List.take_of_length_le (by omega), List.take_of_length_le (by omega), b8_quo hty, b8_rem hty.1, show ((2 : Int) ^ 8) = 256 from rfl]; simp [linkPut, put2])

def D_c_r7Same_0 : List Tmp := [4, 5, 41, 42, 43, 44, 45, 46, 47, 48, 49, 50, 51, 52, 53, 54, 55, 56, 57, 58]
theorem c_r7Same {x0 x1 : Value} {w : World} {L : LinkL} (h0 : (LinkV L) x0 w) (h1 : (LinkV L) x1 w) (hL : LinkOk L) :
    Calls Try.prog 12 #[x0, x1] w (Ret (Is (.bool true)) w) := by
 obtain ⟨v, eh0, hT, hvh0⟩ := h0
 replace h0 : Is (LnkA L v) x0 w := eh0
 obtain ⟨v2, eh1, hT2, hvh1⟩ := h1
 replace h1 : Is (LnkA L v2) x1 w := eh1
 have htl : L.tags.length ≤ 9223372036854775807 := Rw.len_le hT
 refine enter Try.func12 rfl Try.ntmps12 (k := 2) rfl (by decide) (fun a0 hr hargs => ?_)
 have s0 := sarg h0 (hargs 0 (by decide))
 have s1 := sarg h1 (hargs 1 (by decide))
 clear hargs
 refine wp_seq ?_
 refine wp_reg 59 [[(0, none)], [(1, none)], []] [?b1_0, ?b1_1, ?b1_2] mixed (by kernel_rfl) (by kernel_rfl) hr ?t1 ?o1 ?_
 case o1 =>
  refine oc0 (fun A W hx hf => ?_) ?_
  exact ok_boxS (lnkS L v) [6, 6, 1, 1, 1] (o1 s0 hx (r0 hf)) (by exact lnkS_lens hL) hx.size
  refine oc0 (fun A W hx hf => ?_) ?_
  exact ok_boxS (lnkS L v2) [6, 6, 1, 1, 1] (o1 s1 hx (r0 hf)) (by exact lnkS_lens hL) hx.size
  refine oc0 (fun A W hx hf => ?_) ?_
  exact ok_assignc
  exact OpsOk.nil
 case t1 => exact inferInstance
 clear hr; intro a2 w2 x hr hd hs
 clear s0 s1
 have s2 := fa ?b1_0 a2 w2 2 (hd 0 2 rfl)
 have s3 := fa ?b1_1 a2 w2 3 (hd 1 3 rfl)
 obtain ⟨g2_2, q2_2⟩ := PxN.at s2; clear s2; have n2_2 := PxS.lt q2_2
 have s2 := q2_2; clear q2_2
 obtain ⟨g2_3, q2_3⟩ := PxN.at s3; clear s3; have n2_3 := PxS.lt q2_3
 have s3 := q2_3; clear q2_3
 have e_w := x
 clear hd hs x
 refine exit_then ?_
 refine wp_seq ?_
 refine wp_seq ?_
 refine wp_reg 59 ([(2, none)] :: [(6, some 0)] :: [(3, none)] :: [(8, some 2)] :: [(7, some 1), (9, some 3)] :: [(10, some 4)] :: [(2, none), (11, some 5)] :: [(12, some 6), (11, some 5)] :: [(3, none), (11, some 5)] :: [(14, some 8), (11, some 5)] :: [(13, some 7), (15, some 9), (11, some 5)] :: [(11, some 5), (16, some 10)] :: [(17, some 11)] :: [(2, none), (18, some 12)] :: [(19, some 13), (18, some 12)] :: [(3, none), (18, some 12)] :: [(21, some 15), (18, some 12)] :: [(20, some 14), (22, some 16), (18, some 12)] :: [(18, some 12), (23, some 17)] :: [(24, some 18)] :: [(2, none), (25, some 19)] :: [(26, some 20), (25, some 19)] :: [(3, none), (25, some 19)] :: [(28, some 22), (25, some 19)] :: [(27, some 21), (29, some 23), (25, some 19)] :: [(25, some 19), (30, some 24)] :: [(31, some 25)] :: [(2, none), (32, some 26)] :: [(33, some 27), (32, some 26)] :: [(34, some 28), (32, some 26)] :: [(3, none), (32, some 26)] :: [(36, some 30), (32, some 26)] :: [(37, some 31), (32, some 26)] :: [(35, some 29), (38, some 32), (32, some 26)] :: [(32, some 26), (39, some 33)] :: []) (?b3_0 :: ?b3_1 :: ?b3_2 :: ?b3_3 :: ?b3_4 :: ?b3_4 :: ?b3_6 :: ?b3_7 :: ?b3_8 :: ?b3_9 :: ?b3_10 :: ?b3_11 :: ?b3_11 :: ?b3_13 :: ?b3_14 :: ?b3_15 :: ?b3_16 :: ?b3_17 :: ?b3_18 :: ?b3_18 :: ?b3_20 :: ?b3_21 :: ?b3_22 :: ?b3_23 :: ?b3_24 :: ?b3_25 :: ?b3_25 :: ?b3_27 :: ?b3_28 :: ?b3_29 :: ?b3_30 :: ?b3_31 :: ?b3_32 :: ?b3_33 :: ?b3_34 :: []) mixed (by kernel_rfl) (by kernel_rfl) hr ?t3 ?o3 ?_
 case o3 =>
  refine oc0 (fun A W hx hf => ?_) ?_
  exact ok_fieldS 0 Try.underlying27 (k := 0) rfl size24 rfl (o1 s2 hx (r0 hf)) rfl
  refine oc0 (fun A W hx hf => ?_) ?_
  exact ok_loadSeg Try.underlying24 rfl size24 (q0 ?b3_0 A W 6 hf) rfl rfl
  refine oc0 (fun A W hx hf => ?_) ?_
  exact ok_fieldS 0 Try.underlying27 (k := 0) rfl size24 rfl (o1 s3 hx (r0 hf)) rfl
  refine oc0 (fun A W hx hf => ?_) ?_
  exact ok_loadSeg Try.underlying24 rfl size24 (q0 ?b3_2 A W 8 hf) rfl rfl
  refine oc0 (fun A W hx hf => ?_) ?_
  exact ok_neself eqg24 (eq_six6 hL.1) (q0 ?b3_1 A W 7 hf) (q1 ?b3_3 A W 9 hf)
  refine oc0 (fun A W hx hf => ?_) ?_
  exact ok_move (q0 ?b3_4 A W 10 hf)
  refine ocg 11 ?_ (fun A W hx hf => ?_) ?_
  rfl
  exact gd_f (q1 ?b3_4 A W 11 hf) (fun hc => ok_fieldS 1 Try.underlying27 (k := 1) rfl size24 rfl (o1 s2 hx (r0 hf)) rfl)
  refine ocg 11 ?_ (fun A W hx hf => ?_) ?_
  rfl
  exact gd_f (q1 ?b3_4 A W 11 hf) (fun hc => ok_loadSeg Try.underlying24 rfl size24 (G.get (q0 ?b3_6 A W 12 hf) hc) rfl rfl)
  refine ocg 11 ?_ (fun A W hx hf => ?_) ?_
  rfl
  exact gd_f (q1 ?b3_4 A W 11 hf) (fun hc => ok_fieldS 1 Try.underlying27 (k := 1) rfl size24 rfl (o1 s3 hx (r0 hf)) rfl)
  refine ocg 11 ?_ (fun A W hx hf => ?_) ?_
  rfl
  exact gd_f (q1 ?b3_4 A W 11 hf) (fun hc => ok_loadSeg Try.underlying24 rfl size24 (G.get (q0 ?b3_8 A W 14 hf) hc) rfl rfl)
  refine ocg 11 ?_ (fun A W hx hf => ?_) ?_
  rfl
  exact gd_f (q2 ?b3_4 A W 11 hf) (fun hc => ok_neself eqg24 (eq_six6 hL.2) (G.get (q0 ?b3_7 A W 13 hf) hc) (G.get (q1 ?b3_9 A W 15 hf) hc))
  refine oc0 (fun A W hx hf => ?_) ?_
  exact ok_or (q0 ?b3_4 A W 11 hf) (q1 ?b3_10 A W 16 hf)
  refine oc0 (fun A W hx hf => ?_) ?_
  exact ok_move (q0 ?b3_11 A W 17 hf)
  refine ocg 18 ?_ (fun A W hx hf => ?_) ?_
  rfl
  exact gd_f (q1 ?b3_11 A W 18 hf) (fun hc => ok_fieldS 3 Try.underlying27 (k := 3) rfl size3 rfl (o1 s2 hx (r0 hf)) rfl)
  refine ocg 18 ?_ (fun A W hx hf => ?_) ?_
  rfl
  exact gd_f (q1 ?b3_11 A W 18 hf) (fun hc => ok_loadS Try.underlying3 rfl (G.get (q0 ?b3_13 A W 19 hf) hc) rfl)
  refine ocg 18 ?_ (fun A W hx hf => ?_) ?_
  rfl
  exact gd_f (q1 ?b3_11 A W 18 hf) (fun hc => ok_fieldS 3 Try.underlying27 (k := 3) rfl size3 rfl (o1 s3 hx (r0 hf)) rfl)
  refine ocg 18 ?_ (fun A W hx hf => ?_) ?_
  rfl
  exact gd_f (q1 ?b3_11 A W 18 hf) (fun hc => ok_loadS Try.underlying3 rfl (G.get (q0 ?b3_15 A W 21 hf) hc) rfl)
  refine ocg 18 ?_ (fun A W hx hf => ?_) ?_
  rfl
  exact gd_f (q2 ?b3_11 A W 18 hf) (fun hc => ok_neq (G.get (q0 ?b3_14 A W 20 hf) hc) (G.get (q1 ?b3_16 A W 22 hf) hc))
  refine oc0 (fun A W hx hf => ?_) ?_
  exact ok_or (q0 ?b3_11 A W 18 hf) (q1 ?b3_17 A W 23 hf)
  refine oc0 (fun A W hx hf => ?_) ?_
  exact ok_move (q0 ?b3_18 A W 24 hf)
  refine ocg 25 ?_ (fun A W hx hf => ?_) ?_
  rfl
  exact gd_f (q1 ?b3_18 A W 25 hf) (fun hc => ok_fieldS 4 Try.underlying27 (k := 4) rfl size3 rfl (o1 s2 hx (r0 hf)) rfl)
  refine ocg 25 ?_ (fun A W hx hf => ?_) ?_
  rfl
  exact gd_f (q1 ?b3_18 A W 25 hf) (fun hc => ok_loadS Try.underlying3 rfl (G.get (q0 ?b3_20 A W 26 hf) hc) rfl)
  refine ocg 25 ?_ (fun A W hx hf => ?_) ?_
  rfl
  exact gd_f (q1 ?b3_18 A W 25 hf) (fun hc => ok_fieldS 4 Try.underlying27 (k := 4) rfl size3 rfl (o1 s3 hx (r0 hf)) rfl)
  refine ocg 25 ?_ (fun A W hx hf => ?_) ?_
  rfl
  exact gd_f (q1 ?b3_18 A W 25 hf) (fun hc => ok_loadS Try.underlying3 rfl (G.get (q0 ?b3_22 A W 28 hf) hc) rfl)
  refine ocg 25 ?_ (fun A W hx hf => ?_) ?_
  rfl
  exact gd_f (q2 ?b3_18 A W 25 hf) (fun hc => ok_neq (G.get (q0 ?b3_21 A W 27 hf) hc) (G.get (q1 ?b3_23 A W 29 hf) hc))
  refine oc0 (fun A W hx hf => ?_) ?_
  exact ok_or (q0 ?b3_18 A W 25 hf) (q1 ?b3_24 A W 30 hf)
  refine oc0 (fun A W hx hf => ?_) ?_
  exact ok_move (q0 ?b3_25 A W 31 hf)
  refine ocg 32 ?_ (fun A W hx hf => ?_) ?_
  rfl
  exact gd_f (q1 ?b3_25 A W 32 hf) (fun hc => ok_fieldS 2 Try.underlying27 (k := 2) rfl size25 rfl (o1 s2 hx (r0 hf)) rfl)
  refine ocg 32 ?_ (fun A W hx hf => ?_) ?_
  rfl
  exact gd_f (q1 ?b3_25 A W 32 hf) (fun hc => ok_is (ok_loadS Try.underlying25 rfl (G.get (q0 ?b3_27 A W 33 hf) hc) rfl) (later (e_w.trans hx) hT))
  refine ocg 32 ?_ (fun A W hx hf => ?_) ?_
  rfl
  exact gd_f (q1 ?b3_25 A W 32 hf) (fun hc => ok_len_rw Try.underlying25 (G.get (q0 ?b3_28 A W 34 hf) hc))
  refine ocg 32 ?_ (fun A W hx hf => ?_) ?_
  rfl
  exact gd_f (q1 ?b3_25 A W 32 hf) (fun hc => ok_fieldS 2 Try.underlying27 (k := 2) rfl size25 rfl (o1 s3 hx (r0 hf)) rfl)
  refine ocg 32 ?_ (fun A W hx hf => ?_) ?_
  rfl
  exact gd_f (q1 ?b3_25 A W 32 hf) (fun hc => ok_is (ok_loadS Try.underlying25 rfl (G.get (q0 ?b3_30 A W 36 hf) hc) rfl) (later (e_w.trans hx) hT2))
  refine ocg 32 ?_ (fun A W hx hf => ?_) ?_
  rfl
  exact gd_f (q1 ?b3_25 A W 32 hf) (fun hc => ok_len_rw Try.underlying25 (G.get (q0 ?b3_31 A W 37 hf) hc))
  refine ocg 32 ?_ (fun A W hx hf => ?_) ?_
  rfl
  exact gd_f (q2 ?b3_25 A W 32 hf) (fun hc => ok_neq (G.get (q0 ?b3_29 A W 35 hf) hc) (G.get (q1 ?b3_32 A W 38 hf) hc))
  refine oc0 (fun A W hx hf => ?_) ?_
  exact ok_or (q0 ?b3_25 A W 32 hf) (q1 ?b3_33 A W 39 hf)
  exact OpsOk.nil
 case t3 => repeat (first | exact stb_nil | refine stb_cons ?_)
 clear hr; intro a4 w4 x hr hd hs
 revert s3; revert s2; refine kp2 hs rfl ?_; intro s2 s3
 have s40 := fa ?b3_34 a4 w4 40 (hd 34 40 rfl)
 replace e_w := e_w.trans x
 have e_w2 := x
 clear hd hs x
 refine exit_then ?_
 refine wp_cond_split (show _ = _ from s40) (fun hd9 => ?_) (fun hd9 => ?_)
 · skip
   exfalso; simp at hd9
 · skip
   try simp only [decide_eq_true_eq, decide_eq_false_iff_not, Bool.not_eq_true', Bool.not_eq_false', Bool.not_true, Bool.not_false, Bool.and_eq_true, Bool.and_eq_false_iff, Bool.or_eq_true, Bool.or_eq_false_iff, bne_iff_ne, beq_iff_eq, ne_eq, beq_eq_false_iff_ne, bne_eq_false_iff_eq] at hd9
   refine wp_skip ?_
   refine exit_then ?_
   refine wp_seq ?_
   refine wp_seq ?_
   refine wp_reg 59 [[]] [?b6_0] mixed (by kernel_rfl) (by kernel_rfl) hr ?t6 ?o6 ?_
   case o6 =>
    refine oc0 (fun A W hx hf => ?_) ?_
    exact ok_assignc
    exact OpsOk.nil
   case t6 => exact inferInstance
   clear hr; intro a7 w7 x hr hd hs
   revert s3; revert s2; refine kp2 hs rfl ?_; intro s2 s3
   clear s40
   have s5 := fa ?b6_0 a7 w7 5 (hd 0 5 rfl)
   replace e_w := e_w.trans x
   replace e_w2 := e_w2.trans x
   clear hd hs x
   refine exit_then ?_
   refine wp_block ?_
   refine wp_loop_inv (fun n A W => ∃ (i : Nat), n = L.tags.length - i ∧ Fr 59 A ∧ Same D_c_r7Same_0 a7 A ∧ Ext w W ∧ (i ≤ L.tags.length) ∧ (PxS g2_2 w.heap.size [6, 6, 1, 1, 1] (lnkS L v) 0) (A.eval (.tmp 2)) W ∧ (PxS g2_3 w.heap.size [6, 6, 1, 1, 1] (lnkS L v2) 0) (A.eval (.tmp 3)) W ∧ (Is (.int .i64 (i : Int))) (A.eval (.tmp 5)) W) ?start8 ?_
   case start8 =>
    refine ⟨_, 0, rfl, hr, Same.rfl, e_w, (by first | assumption | omega), ?_, ?_, ?_⟩
    · exact (later e_w2 s2)
    · exact (later e_w2 s3)
    · first | exact s5 | exact Is.int s5 (by first | omega | simp) | exact Is.bool s5 (by first | omega | simp)
   intro n8 a8 w8 hI
   clear e_w
   clear e_w2
   clear hr; obtain ⟨i, hn8, hr, hs, e_w, hi, u2, u3, u5⟩ := hI
   clear s2 s3 s5
   have s2 := u2; clear u2
   have s3 := u3; clear u3
   have s5 := u5; clear u5
   have m8 := hs; clear hs
   refine wp_seq ?_
   refine wp_seq ?_
   refine wp_reg 59 [[(5, none)], [(2, none)], [(42, some 1)], [(43, some 2)], [(41, some 0), (44, some 3)]] [?b9_0, ?b9_1, ?b9_2, ?b9_3, ?b9_4] mixed (by kernel_rfl) (by kernel_rfl) hr ?t9 ?o9 ?_
   case o9 =>
    refine oc0 (fun A W hx hf => ?_) ?_
    exact ok_movE (a0 := a8) (r0 hf)
    refine oc0 (fun A W hx hf => ?_) ?_
    exact ok_fieldS 2 Try.underlying27 (k := 2) rfl size25 rfl (o1 s2 hx (r0 hf)) rfl
    refine oc0 (fun A W hx hf => ?_) ?_
    exact ok_is (ok_loadS Try.underlying25 rfl (q0 ?b9_1 A W 42 hf) rfl) (later (e_w.trans hx) hT)
    refine oc0 (fun A W hx hf => ?_) ?_
    exact ok_len_rw Try.underlying25 (q0 ?b9_2 A W 43 hf)
    refine oc0 (fun A W hx hf => ?_) ?_
    exact ok_lss (p1 s5 hx (q0 ?b9_0 A W 41 hf)) (q1 ?b9_3 A W 44 hf)
    exact OpsOk.nil
   case t9 => exact inferInstance
   clear hr; intro a10 w10 x hr hd hs
   revert s5; revert s3; revert s2; refine kp3 hs rfl ?_; intro s2 s3 s5
   have s45 := fa ?b9_4 a10 w10 45 (hd 4 45 rfl)
   replace e_w := e_w.trans x
   have e_w8 := x
   replace m8 := m8.tr hs rfl
   clear hd hs x
   refine exit_then ?_
   refine wp_cond_split (show _ = _ from s45) (fun hlt => ?_) (fun hlt => ?_)
   · skip
     have hlt : i < L.tags.length := by simp at hlt; omega
     refine wp_skip ?_
     refine exit_then ?_
     refine wp_seq ?_
     refine wp_block ?_
     refine wp_seq ?_
     refine wp_reg 59 [[(2, none)], [(48, some 0)], [(5, none)], [(49, some 1), (50, some 2)], [(51, some 3)], [(3, none)], [(53, some 5)], [(5, none)], [(54, some 6), (55, some 7)], [(56, some 8)], [(52, some 4), (57, some 9)]] [?b12_0, ?b12_1, ?b12_2, ?b12_3, ?b12_4, ?b12_5, ?b12_6, ?b12_7, ?b12_8, ?b12_9, ?b12_10] mixed (by kernel_rfl) (by kernel_rfl) hr ?t12 ?o12 ?_
     case o12 =>
      refine oc0 (fun A W hx hf => ?_) ?_
      exact ok_fieldS 2 Try.underlying27 (k := 2) rfl size25 rfl (o2 s2 e_w8 hx (r0 hf)) rfl
      refine oc0 (fun A W hx hf => ?_) ?_
      exact ok_is (ok_loadS Try.underlying25 rfl (q0 ?b12_0 A W 48 hf) rfl) (later (e_w.trans hx) hT)
      refine oc0 (fun A W hx hf => ?_) ?_
      exact ok_movE (a0 := a10) (r0 hf)
      refine oc0 (fun A W hx hf => ?_) ?_
      exact ok_index_rw (_) Try.underlying25 size45 (q0 ?b12_1 A W 49 hf) (p2 s5 e_w8 hx (q1 ?b12_2 A W 50 hf)) (by exact hlt)
      refine oc0 (fun A W hx hf => ?_) ?_
      exact ok_loadAll Try.underlying45 rfl size45 (q0 ?b12_3 A W 51 hf) (by rfl)
      refine oc0 (fun A W hx hf => ?_) ?_
      exact ok_fieldS 2 Try.underlying27 (k := 2) rfl size25 rfl (o2 s3 e_w8 hx (r0 hf)) rfl
      refine oc0 (fun A W hx hf => ?_) ?_
      exact ok_is (ok_loadS Try.underlying25 rfl (q0 ?b12_5 A W 53 hf) rfl) (later (e_w.trans hx) hT2)
      refine oc0 (fun A W hx hf => ?_) ?_
      exact ok_movE (a0 := a10) (r0 hf)
      refine oc0 (fun A W hx hf => ?_) ?_
      exact ok_index_rw (_) Try.underlying25 size45 (q0 ?b12_6 A W 54 hf) (p2 s5 e_w8 hx (q1 ?b12_7 A W 55 hf)) (by exact hlt)
      refine oc0 (fun A W hx hf => ?_) ?_
      exact ok_loadAll Try.underlying45 rfl size45 (q0 ?b12_8 A W 56 hf) (by rfl)
      refine oc0 (fun A W hx hf => ?_) ?_
      exact ok_neself eqg45 (eq_tag _) (q0 ?b12_4 A W 52 hf) (q1 ?b12_9 A W 57 hf)
      exact OpsOk.nil
     case t12 => exact inferInstance
     clear hr; intro a13 w13 x hr hd hs
     revert s5; revert s3; revert s2; refine kp3 hs rfl ?_; intro s2 s3 s5
     clear s45
     have s58 := fa ?b12_10 a13 w13 58 (hd 10 58 rfl)
     replace e_w := e_w.trans x
     replace e_w8 := e_w8.trans x
     replace m8 := m8.tr hs rfl
     clear hd hs x
     refine exit_then ?_
     refine wp_cond_split (show _ = _ from s58) (fun hd9 => ?_) (fun hd9 => ?_)
     · skip
       exfalso; simp at hd9
     · skip
       try simp only [decide_eq_true_eq, decide_eq_false_iff_not, Bool.not_eq_true', Bool.not_eq_false', Bool.not_true, Bool.not_false, Bool.and_eq_true, Bool.and_eq_false_iff, Bool.or_eq_true, Bool.or_eq_false_iff, bne_iff_ne, beq_iff_eq, ne_eq, beq_eq_false_iff_ne, bne_eq_false_iff_eq] at hd9
       refine wp_skip ?_
       refine blk_normal ?_
       refine exit_then ?_
       refine wp_reg 59 [[(5, none)], [(46, some 0)], [(47, some 1)]] [?b15_0, ?b15_1, ?b15_1] mixed (by kernel_rfl) (by kernel_rfl) hr ?t15 ?o15 ?_
       case o15 =>
        refine oc0 (fun A W hx hf => ?_) ?_
        exact ok_movE (a0 := a13) (r0 hf)
        refine oc0 (fun A W hx hf => ?_) ?_
        exact ok_addI (p2 s5 e_w8 hx (q0 ?b15_0 A W 46 hf)) (ec A (.int .i64 1)) (by omega)
        refine oc0 (fun A W hx hf => ?_) ?_
        exact ok_assign (q0 ?b15_1 A W 47 hf)
        exact OpsOk.nil
       case t15 => exact inferInstance
       clear hr; intro a16 w16 x hr hd hs
       revert s3; revert s2; refine kp2 hs rfl ?_; intro s2 s3
       clear s5 s58
       have s5 := fa ?b15_1 a16 w16 5 (hd 2 5 rfl)
       replace e_w := e_w.trans x
       replace e_w8 := e_w8.trans x
       replace m8 := m8.tr hs rfl
       clear hd hs x
       refine exit_then ?_
       refine ⟨(fun (i : Nat) => L.tags.length - i) (i + 1), ?_, ?_⟩
       · (try dsimp only); omega
       refine ⟨i + 1, rfl, hr, m8, e_w, (by first | assumption | omega), ?_, ?_, ?_⟩
       · exact (later e_w8 s2)
       · exact (later e_w8 s3)
       · first | exact s5 | exact Is.int s5 (by first | omega | simp) | exact Is.bool s5 (by first | omega | simp)
   · skip
     skip
     refine wp_exit ?_
     refine then_exit ?_
     refine then_exit ?_
     refine blk_exit ?_
     refine exit_then ?_
     refine wp_seq ?_
     refine wp_reg 59 [[]] [?b17_0] mixed (by kernel_rfl) (by kernel_rfl) hr ?t17 ?o17 ?_
     case o17 =>
      refine oc0 (fun A W hx hf => ?_) ?_
      exact ok_assignc
      exact OpsOk.nil
     case t17 => exact inferInstance
     clear hr; intro a18 w18 x hr hd hs
     clear s2 s3 s5 s45
     have s4 := fa ?b17_0 a18 w18 4 (hd 0 4 rfl)
     replace e_w := e_w.trans x
     clear e_w8
     clear hd hs x
     refine exit_then ?_
     refine wp_ret ?_
     refine ret_tmp Try.results12 hr e_w ?_
     exact s4

end Go.Proofs.Ytdbjpfjnambenaa
