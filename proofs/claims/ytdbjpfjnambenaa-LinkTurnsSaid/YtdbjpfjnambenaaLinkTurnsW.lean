import Derived.Test.YtdbjpfjnambenaaA07
import Derived.Test.YtdbjpfjnambenaaC07e
import Derived.Test.YtdbjpfjnambenaaC07f
namespace Go.Proofs.Ytdbjpfjnambenaa
open Go.RowKit
set_option linter.unusedVariables false
set_option maxRecDepth 4000
def D_law_LinkTurns_0 : List Tmp := [6, 8, 9, 31, 32, 33, 34, 35, 36, 37, 38, 39, 40, 41, 42, 43, 44, 45, 46, 47, 48, 49, 50, 51, 52, 53, 54, 55, 56, 57]
set_option maxHeartbeats 1000000 in
theorem law_LinkTurns {x0 x1 x2 : Value} {w : World} {l d s : List UInt8} (h0 : (Bs l) x0 w) (h1 : (Is (.agg (d.map byteV).toArray)) x1 w) (h2 : (Is (.agg (s.map byteV).toArray)) x2 w) (hd : d.length = 6) (hs9 : s.length = 6) :
    Calls Try.prog 7 #[x0, x1, x2] w (Ret (Is (.bool true)) w) := by
 have hlen := Bs.len_le h0
 have htl := turnL_len (l := l) (d := d) (s := s)
 obtain ⟨ht1, ht2⟩ := turn_read (l := l) hd hs9
 refine enter Try.func7 rfl Try.ntmps7 (k := 3) rfl (by decide) (fun a0 hr hargs => ?_)
 have s0 := sarg h0 (hargs 0 (by decide))
 have s1 := sarg h1 (hargs 1 (by decide))
 have s2 := sarg h2 (hargs 2 (by decide))
 clear hargs
 refine wp_seq ?_
 refine wp_reg 84 [[(1, none)], [(2, none)], []] [?b1_0, ?b1_1, ?b1_2] mixed (by kernel_rfl) (by kernel_rfl) hr ?t1 ?o1 ?_
 case o1 =>
  refine oc0 (fun A W hx hf => ?_) ?_
  exact ok_boxS [d.map byteV] [6] (Is.conv (o1 s1 hx (r0 hf)) (show _ = Value.agg [d.map byteV].flatten.toArray from by simp)) (by simp [hd]) hx.size
  refine oc0 (fun A W hx hf => ?_) ?_
  exact ok_boxS [s.map byteV] [6] (Is.conv (o1 s2 hx (r0 hf)) (show _ = Value.agg [s.map byteV].flatten.toArray from by simp)) (by simp [hs9]) hx.size
  refine oc0 (fun A W hx hf => ?_) ?_
  exact ok_assignc
  exact OpsOk.nil
 case t1 => exact inferInstance
 clear hr; intro a2 w2 x hr hd hs
 revert s0; refine kp1 hs rfl ?_; intro s0
 clear s1 s2
 have s4 := fa ?b1_0 a2 w2 4 (hd 0 4 rfl)
 have s5 := fa ?b1_1 a2 w2 5 (hd 1 5 rfl)
 obtain ⟨g2_4, q2_4⟩ := PxN.at s4; clear s4; have n2_4 := PxS.lt q2_4
 have s4 := q2_4; clear q2_4
 obtain ⟨g2_5, q2_5⟩ := PxN.at s5; clear s5; have n2_5 := PxS.lt q2_5
 have s5 := q2_5; clear q2_5
 have e_w := x
 clear hd hs x
 refine exit_then ?_
 refine wp_seq ?_
 refine wp_seq ?_
 refine wp_reg 84 [[], [(14, some 0)], [(15, some 1)], [(0, none), (16, some 2)], [(17, some 3), (16, some 2)], [(18, some 4), (16, some 2)], [(16, some 2), (19, some 5)]] [?b3_0, ?b3_1, ?b3_1, ?b3_3, ?b3_4, ?b3_5, ?b3_6] mixed (by kernel_rfl) (by kernel_rfl) hr ?t3 ?o3 ?_
 case o3 =>
  refine oc0 (fun A W hx hf => ?_) ?_
  exact ok_call0 body9 (c_awake07 )
  refine oc0 (fun A W hx hf => ?_) ?_
  exact ok_not (q0 ?b3_0 A W 14 hf)
  refine oc0 (fun A W hx hf => ?_) ?_
  exact ok_move (q0 ?b3_1 A W 15 hf)
  refine ocg 16 ?_ (fun A W hx hf => ?_) ?_
  rfl
  exact gd_f (q1 ?b3_1 A W 16 hf) (fun hc => ok_movE (a0 := a2) (r0 hf))
  refine ocg 16 ?_ (fun A W hx hf => ?_) ?_
  rfl
  exact gd_f (q1 ?b3_1 A W 16 hf) (fun hc => ok_len_bs Try.underlying22 (p2 s0 e_w hx (G.get (q0 ?b3_3 A W 17 hf) hc)))
  refine ocg 16 ?_ (fun A W hx hf => ?_) ?_
  rfl
  exact gd_f (q1 ?b3_1 A W 16 hf) (fun hc => ok_gtr (G.get (q0 ?b3_4 A W 18 hf) hc) (ec A (.int .i64 1000)))
  refine oc0 (fun A W hx hf => ?_) ?_
  exact ok_or (q0 ?b3_1 A W 16 hf) (q1 ?b3_5 A W 19 hf)
  exact OpsOk.nil
 case t3 => exact inferInstance
 clear hr; intro a4 w4 x hr hd hs
 revert s5; revert s4; revert s0; refine kp3 hs rfl ?_; intro s0 s4 s5
 have s20 := fa ?b3_6 a4 w4 20 (hd 6 20 rfl)
 replace e_w := e_w.trans x
 have e_w2 := x
 clear hd hs x
 refine exit_then ?_
 refine wp_cond_split (show _ = _ from s20) (fun hl => ?_) (fun hl => ?_)
 · skip
   skip
   refine wp_seq ?_
   refine wp_reg 84 [[], [(21, some 0)]] [?b6_0, ?b6_0] mixed (by kernel_rfl) (by kernel_rfl) hr ?t6 ?o6 ?_
   case o6 =>
    refine oc0 (fun A W hx hf => ?_) ?_
    exact ok_call0 body9 (c_awake07 )
    refine oc0 (fun A W hx hf => ?_) ?_
    exact ok_assign (q0 ?b6_0 A W 21 hf)
    exact OpsOk.nil
   case t6 => exact inferInstance
   clear hr; intro a7 w7 x hr hd hs
   clear s0 s4 s5 s20
   have s6 := fa ?b6_0 a7 w7 6 (hd 1 6 rfl)
   replace e_w := e_w.trans x
   clear e_w2
   clear hd hs x
   refine exit_then ?_
   refine wp_ret ?_
   refine then_ret ?_
   refine ret_tmp Try.results7 hr e_w ?_
   first | with_reducible exact s6 | exact Is.bool s6 (by rw [ht1, he]; rfl) | exact Is.bool s6 (by rw [ht1]; simp; done)
 · skip
   have hl : l.length ≤ 1000 := by simp at hl; omega
   refine wp_skip ?_
   refine exit_then ?_
   refine wp_seq ?_
   refine wp_reg 84 [[(0, none)], [(4, none)], [(5, none)], [(22, some 0), (23, some 1), (24, some 2)], [(25, some 3)]] [?b8_0, ?b8_1, ?b8_2, ?b8_3, ?b8_3] mixed (by kernel_rfl) (by kernel_rfl) hr ?t8 ?o8 ?_
   case o8 =>
    refine oc0 (fun A W hx hf => ?_) ?_
    exact ok_movE (a0 := a4) (r0 hf)
    refine oc0 (fun A W hx hf => ?_) ?_
    exact ok_loadSeg Try.underlying24 rfl size24 (o2 s4 e_w2 hx (r0 hf)) rfl rfl
    refine oc0 (fun A W hx hf => ?_) ?_
    exact ok_loadSeg Try.underlying24 rfl size24 (o2 s5 e_w2 hx (r0 hf)) rfl rfl
    refine oc0 (fun A W hx hf => ?_) ?_
    exact ok_call3 body17 (c_lTurn (p2 s0 e_w hx (q0 ?b8_0 A W 22 hf)) (Is.conv (q1 ?b8_1 A W 23 hf) (show _ = Value.agg (d.map byteV).toArray from by simp)) (Is.conv (q2 ?b8_2 A W 24 hf) (show _ = Value.agg (s.map byteV).toArray from by simp)) (by exact hd) (by exact hs9) (by omega) hx.size)
    refine oc0 (fun A W hx hf => ?_) ?_
    exact ok_assign (q0 ?b8_3 A W 25 hf)
    exact OpsOk.nil
   case t8 => exact inferInstance
   clear hr; intro a9 w9 x hr hd hs
   have z_w_w4 := e_w.size
   have z_w2_w4 := e_w2.size
   have l9_4 := PxS.lt (later e_w2 s4)
   have l9_5 := PxS.lt (later e_w2 s5)
   revert s5; revert s4; revert s0; refine kp3 hs rfl ?_; intro s0 s4 s5
   clear s20
   have s7 := fa ?b8_3 a9 w9 7 (hd 4 7 rfl)
   obtain ⟨g9_7, q9_7⟩ := OwnB.at s7; clear s7; have n9_7 := OwnBA.lt q9_7
   replace q9_7 := OwnBA.mono q9_7 e_w.size
   have s7 := q9_7; clear q9_7
   replace e_w := e_w.trans x
   replace e_w2 := e_w2.trans x
   clear hd hs x
   refine exit_then ?_
   refine wp_seq ?_
   refine wp_seq ?_
   refine wp_reg 84 [[(7, none)], [(26, some 0)], [(0, none)], [(28, some 2)], [(27, some 1), (29, some 3)]] [?b10_0, ?b10_1, ?b10_2, ?b10_3, ?b10_4] mixed (by kernel_rfl) (by kernel_rfl) hr ?t10 ?o10 ?_
   case o10 =>
    refine oc0 (fun A W hx hf => ?_) ?_
    exact ok_movE (a0 := a9) (r0 hf)
    refine oc0 (fun A W hx hf => ?_) ?_
    exact ok_len_bs Try.underlying22 (OwnBA.bs (p1 s7 hx (q0 ?b10_0 A W 26 hf)))
    refine oc0 (fun A W hx hf => ?_) ?_
    exact ok_movE (a0 := a9) (r0 hf)
    refine oc0 (fun A W hx hf => ?_) ?_
    exact ok_len_bs Try.underlying22 (p2 s0 e_w hx (q0 ?b10_2 A W 28 hf))
    refine oc0 (fun A W hx hf => ?_) ?_
    exact ok_neq (q0 ?b10_1 A W 27 hf) (q1 ?b10_3 A W 29 hf)
    exact OpsOk.nil
   case t10 => exact inferInstance
   clear hr; intro a11 w11 x hr hd hs
   revert s7; revert s5; revert s4; revert s0; refine kp4 hs rfl ?_; intro s0 s4 s5 s7
   have s30 := fa ?b10_4 a11 w11 30 (hd 4 30 rfl)
   replace e_w := e_w.trans x
   replace e_w2 := e_w2.trans x
   have e_w9 := x
   clear hd hs x
   refine exit_then ?_
   refine wp_cond_split (show _ = _ from s30) (fun hd9 => ?_) (fun hd9 => ?_)
   · skip
     exfalso; simp [htl] at hd9
   · skip
     try simp only [decide_eq_true_eq, decide_eq_false_iff_not, Bool.not_eq_true', Bool.not_eq_false', Bool.not_true, Bool.not_false, Bool.and_eq_true, Bool.and_eq_false_iff, Bool.or_eq_true, Bool.or_eq_false_iff, bne_iff_ne, beq_iff_eq, ne_eq, beq_eq_false_iff_ne, bne_eq_false_iff_eq] at hd9
     refine wp_skip ?_
     refine exit_then ?_
     refine wp_seq ?_
     refine wp_seq ?_
     refine wp_reg 84 [[]] [?b13_0] mixed (by kernel_rfl) (by kernel_rfl) hr ?t13 ?o13 ?_
     case o13 =>
      refine oc0 (fun A W hx hf => ?_) ?_
      exact ok_assignc
      exact OpsOk.nil
     case t13 => exact inferInstance
     clear hr; intro a14 w14 x hr hd hs
     revert s7; revert s5; revert s4; revert s0; refine kp4 hs rfl ?_; intro s0 s4 s5 s7
     clear s30
     have s8 := fa ?b13_0 a14 w14 8 (hd 0 8 rfl)
     replace e_w := e_w.trans x
     replace e_w2 := e_w2.trans x
     replace e_w9 := e_w9.trans x
     clear hd hs x
     refine exit_then ?_
     refine wp_block ?_
     refine wp_loop_inv (fun n A W => ∃ (i : Nat), n = l.length - i ∧ Fr 84 A ∧ Same D_law_LinkTurns_0 a14 A ∧ Ext w W ∧ (i ≤ l.length) ∧ (PxS g2_4 w.heap.size [6] [d.map byteV] 0) (A.eval (.tmp 4)) W ∧ (PxS g2_5 w.heap.size [6] [s.map byteV] 0) (A.eval (.tmp 5)) W ∧ (OwnBA g9_7 w.heap.size 5 (turnL l d s)) (A.eval (.tmp 7)) W ∧ (Is (.int .i64 (i : Int))) (A.eval (.tmp 8)) W) ?start15 ?_
     case start15 =>
      refine ⟨_, 0, rfl, hr, Same.rfl, e_w, (by first | assumption | omega), ?_, ?_, ?_, ?_⟩
      · exact (later e_w2 s4)
      · exact (later e_w2 s5)
      · exact (later e_w9 s7)
      · first | exact s8 | exact Is.int s8 (by first | omega | simp) | exact Is.bool s8 (by first | omega | simp)
     intro n15 a15 w15 hI
     clear e_w
     clear e_w2
     clear e_w9
     clear hr; obtain ⟨i, hn15, hr, hs, e_w, hi, u4, u5, u7, u8⟩ := hI
     revert s0; refine kp1 hs rfl ?_; intro s0
     clear s4 s5 s7 s8
     have s4 := u4; clear u4
     have s5 := u5; clear u5
     have s7 := u7; clear u7
     have s8 := u8; clear u8
     have m15 := hs; clear hs
     refine wp_seq ?_
     refine wp_seq ?_
     refine wp_reg 84 [[(8, none)], [(0, none)], [(32, some 1)], [(31, some 0), (33, some 2)]] [?b16_0, ?b16_1, ?b16_2, ?b16_3] mixed (by kernel_rfl) (by kernel_rfl) hr ?t16 ?o16 ?_
     case o16 =>
      refine oc0 (fun A W hx hf => ?_) ?_
      exact ok_movE (a0 := a15) (r0 hf)
      refine oc0 (fun A W hx hf => ?_) ?_
      exact ok_movE (a0 := a15) (r0 hf)
      refine oc0 (fun A W hx hf => ?_) ?_
      exact ok_len_bs Try.underlying22 (p2 s0 e_w hx (q0 ?b16_1 A W 32 hf))
      refine oc0 (fun A W hx hf => ?_) ?_
      exact ok_lss (p1 s8 hx (q0 ?b16_0 A W 31 hf)) (q1 ?b16_2 A W 33 hf)
      exact OpsOk.nil
     case t16 => exact inferInstance
     clear hr; intro a17 w17 x hr hd hs
     revert s8; revert s7; revert s5; revert s4; revert s0; refine kp5 hs rfl ?_; intro s0 s4 s5 s7 s8
     have s34 := fa ?b16_3 a17 w17 34 (hd 3 34 rfl)
     replace e_w := e_w.trans x
     have e_w15 := x
     replace m15 := m15.tr hs rfl
     clear hd hs x
     refine exit_then ?_
     refine wp_cond_split (show _ = _ from s34) (fun hlt => ?_) (fun hlt => ?_)
     · skip
       have hlt : i < l.length := by simp at hlt; omega
       refine wp_skip ?_
       refine exit_then ?_
       refine wp_seq ?_
       refine wp_block ?_
       refine wp_seq ?_
       refine wp_reg 84 [[(0, none)], [(8, none)], [(37, some 0), (38, some 1)], [(39, some 2)], [(40, some 3)]] [?b19_0, ?b19_1, ?b19_2, ?b19_3, ?b19_3] mixed (by kernel_rfl) (by kernel_rfl) hr ?t19 ?o19 ?_
       case o19 =>
        refine oc0 (fun A W hx hf => ?_) ?_
        exact ok_movE (a0 := a17) (r0 hf)
        refine oc0 (fun A W hx hf => ?_) ?_
        exact ok_movE (a0 := a17) (r0 hf)
        refine oc0 (fun A W hx hf => ?_) ?_
        exact ok_index_bs (_) Try.underlying22 size5 (p2 s0 e_w hx (q0 ?b19_0 A W 37 hf)) (p2 s8 e_w15 hx (q1 ?b19_1 A W 38 hf)) (by exact hlt)
        refine oc0 (fun A W hx hf => ?_) ?_
        exact ok_loadp Try.underlying5 rfl (q0 ?b19_2 A W 39 hf)
        refine oc0 (fun A W hx hf => ?_) ?_
        exact ok_assign (q0 ?b19_3 A W 40 hf)
        exact OpsOk.nil
       case t19 => exact inferInstance
       clear hr; intro a20 w20 x hr hd hs
       revert s8; revert s7; revert s5; revert s4; revert s0; refine kp5 hs rfl ?_; intro s0 s4 s5 s7 s8
       clear s34
       have s9 := fa ?b19_3 a20 w20 9 (hd 4 9 rfl)
       replace e_w := e_w.trans x
       replace e_w15 := e_w15.trans x
       replace m15 := m15.tr hs rfl
       clear hd hs x
       refine exit_then ?_
       refine wp_seq ?_
       refine wp_seq ?_
       refine wp_reg 84 [[(8, none)], [(41, some 0)]] [?b21_0, ?b21_1] mixed (by kernel_rfl) (by kernel_rfl) hr ?t21 ?o21 ?_
       case o21 =>
        refine oc0 (fun A W hx hf => ?_) ?_
        exact ok_movE (a0 := a20) (r0 hf)
        refine oc0 (fun A W hx hf => ?_) ?_
        exact ok_lss (p2 s8 e_w15 hx (q0 ?b21_0 A W 41 hf)) (ec A (.int .i64 6))
        exact OpsOk.nil
       case t21 => exact inferInstance
       clear hr; intro a22 w22 x hr hd hs
       revert s9; revert s8; revert s7; revert s5; revert s4; revert s0; refine kp6 hs rfl ?_; intro s0 s4 s5 s7 s8 s9
       have s42 := fa ?b21_1 a22 w22 42 (hd 1 42 rfl)
       replace e_w := e_w.trans x
       replace e_w15 := e_w15.trans x
       have e_w20 := x
       replace m15 := m15.tr hs rfl
       clear hd hs x
       refine exit_then ?_
       refine wp_cond_split (show _ = _ from s42) (fun h6 => ?_) (fun h6 => ?_)
       · skip
         have h6 : i < 6 := by simp at h6; omega
         have heq := turn_a hd hs9 hlt h6
         refine wp_reg 84 [[(8, none)], [(4, none), (43, some 0)], [(44, some 1)], [(45, some 2)]] [?b24_0, ?b24_1, ?b24_2, ?b24_2] mixed (by kernel_rfl) (by kernel_rfl) hr ?t24 ?o24 ?_
         case o24 =>
          refine oc0 (fun A W hx hf => ?_) ?_
          exact ok_movE (a0 := a22) (r0 hf)
          refine oc0 (fun A W hx hf => ?_) ?_
          exact ok_indexS (_) Try.underlying24 size5 (o2 s4 e_w15 hx (r0 hf)) (p2 s8 e_w15 hx (q1 ?b24_0 A W 43 hf)) rfl (by omega)
          refine oc0 (fun A W hx hf => ?_) ?_
          exact ok_loadE Try.underlying5 rfl (q0 ?b24_1 A W 44 hf) rfl (by omega)
          refine oc0 (fun A W hx hf => ?_) ?_
          exact ok_assign (q0 ?b24_2 A W 45 hf)
          exact OpsOk.nil
         case t24 => exact inferInstance
         clear hr; intro a25 w25 x hr hd hs
         revert s8; revert s7; revert s5; revert s4; revert s0; refine kp5 hs rfl ?_; intro s0 s4 s5 s7 s8
         clear s9 s42
         have s9 := fa ?b24_2 a25 w25 9 (hd 3 9 rfl)
         replace e_w := e_w.trans x
         replace e_w15 := e_w15.trans x
         clear e_w20
         replace m15 := m15.tr hs rfl
         clear hd hs x
         refine exit_then ?_
         refine wp_seq ?_
         refine wp_reg 84 [[(7, none)], [(8, none)], [(52, some 0), (53, some 1)], [(54, some 2)], [(9, none)], [(55, some 3), (56, some 4)]] [?b26_0, ?b26_1, ?b26_2, ?b26_3, ?b26_4, ?b26_5] mixed (by kernel_rfl) (by kernel_rfl) hr ?t26 ?o26 ?_
         case o26 =>
          refine oc0 (fun A W hx hf => ?_) ?_
          exact ok_movE (a0 := a25) (r0 hf)
          refine oc0 (fun A W hx hf => ?_) ?_
          exact ok_movE (a0 := a25) (r0 hf)
          refine oc0 (fun A W hx hf => ?_) ?_
          exact ok_index_bs (_) Try.underlying22 size5 (OwnBA.bs (p2 s7 e_w15 hx (q0 ?b26_0 A W 52 hf))) (p2 s8 e_w15 hx (q1 ?b26_1 A W 53 hf)) (by rw [htl]; exact hlt)
          refine oc0 (fun A W hx hf => ?_) ?_
          exact ok_loadp Try.underlying5 rfl (q0 ?b26_2 A W 54 hf)
          refine oc0 (fun A W hx hf => ?_) ?_
          exact ok_movE (a0 := a25) (r0 hf)
          refine oc0 (fun A W hx hf => ?_) ?_
          exact ok_neq (q0 ?b26_3 A W 55 hf) (p1 s9 hx (q1 ?b26_4 A W 56 hf))
          exact OpsOk.nil
         case t26 => exact inferInstance
         clear hr; intro a27 w27 x hr hd hs
         revert s8; revert s7; revert s5; revert s4; revert s0; refine kp5 hs rfl ?_; intro s0 s4 s5 s7 s8
         clear s9
         have s57 := fa ?b26_5 a27 w27 57 (hd 5 57 rfl)
         replace e_w := e_w.trans x
         replace e_w15 := e_w15.trans x
         replace m15 := m15.tr hs rfl
         clear hd hs x
         refine exit_then ?_
         refine wp_cond_split (show _ = _ from s57) (fun hd9 => ?_) (fun hd9 => ?_)
         · skip
           exfalso; simp [heq] at hd9
         · skip
           try simp only [decide_eq_true_eq, decide_eq_false_iff_not, Bool.not_eq_true', Bool.not_eq_false', Bool.not_true, Bool.not_false, Bool.and_eq_true, Bool.and_eq_false_iff, Bool.or_eq_true, Bool.or_eq_false_iff, bne_iff_ne, beq_iff_eq, ne_eq, beq_eq_false_iff_ne, bne_eq_false_iff_eq] at hd9
           refine wp_skip ?_
           refine blk_normal ?_
           refine exit_then ?_
           refine wp_reg 84 [[(8, none)], [(35, some 0)], [(36, some 1)]] [?b29_0, ?b29_1, ?b29_1] mixed (by kernel_rfl) (by kernel_rfl) hr ?t29 ?o29 ?_
           case o29 =>
            refine oc0 (fun A W hx hf => ?_) ?_
            exact ok_movE (a0 := a27) (r0 hf)
            refine oc0 (fun A W hx hf => ?_) ?_
            exact ok_addI (p2 s8 e_w15 hx (q0 ?b29_0 A W 35 hf)) (ec A (.int .i64 1)) (by omega)
            refine oc0 (fun A W hx hf => ?_) ?_
            exact ok_assign (q0 ?b29_1 A W 36 hf)
            exact OpsOk.nil
           case t29 => exact inferInstance
           clear hr; intro a30 w30 x hr hd hs
           revert s7; revert s5; revert s4; revert s0; refine kp4 hs rfl ?_; intro s0 s4 s5 s7
           clear s8 s57
           have s8 := fa ?b29_1 a30 w30 8 (hd 2 8 rfl)
           replace e_w := e_w.trans x
           replace e_w15 := e_w15.trans x
           replace m15 := m15.tr hs rfl
           clear hd hs x
           refine exit_then ?_
           refine ⟨(fun (i : Nat) => l.length - i) (i + 1), ?_, ?_⟩
           · (try dsimp only); omega
           refine ⟨i + 1, rfl, hr, m15, e_w, (by first | assumption | omega), ?_, ?_, ?_, ?_⟩
           · exact (later e_w15 s4)
           · exact (later e_w15 s5)
           · exact (later e_w15 s7)
           · first | exact s8 | exact Is.int s8 (by first | omega | simp) | exact Is.bool s8 (by first | omega | simp)
       · skip
         have h6 : ¬ i < 6 := by simp at h6; omega
         refine wp_seq ?_
         refine wp_reg 84 [[(8, none)], [(46, some 0)]] [?b31_0, ?b31_1] mixed (by kernel_rfl) (by kernel_rfl) hr ?t31 ?o31 ?_
         case o31 =>
          refine oc0 (fun A W hx hf => ?_) ?_
          exact ok_movE (a0 := a22) (r0 hf)
          refine oc0 (fun A W hx hf => ?_) ?_
          exact ok_lss (p2 s8 e_w15 hx (q0 ?b31_0 A W 46 hf)) (ec A (.int .i64 12))
          exact OpsOk.nil
         case t31 => exact inferInstance
         clear hr; intro a32 w32 x hr hd hs
         revert s9; revert s8; revert s7; revert s5; revert s4; revert s0; refine kp6 hs rfl ?_; intro s0 s4 s5 s7 s8 s9
         clear s42
         have s47 := fa ?b31_1 a32 w32 47 (hd 1 47 rfl)
         replace e_w := e_w.trans x
         replace e_w15 := e_w15.trans x
         replace e_w20 := e_w20.trans x
         replace m15 := m15.tr hs rfl
         clear hd hs x
         refine exit_then ?_
         refine wp_cond_split (show _ = _ from s47) (fun h12 => ?_) (fun h12 => ?_)
         · skip
           have h12 : i < 12 := by simp at h12; omega
           have heq := turn_b hd hs9 hlt h6 h12
           refine wp_reg 84 [[(8, none)], [(48, some 0)], [(5, none), (49, some 1)], [(50, some 2)], [(51, some 3)]] [?b34_0, ?b34_1, ?b34_2, ?b34_3, ?b34_3] mixed (by kernel_rfl) (by kernel_rfl) hr ?t34 ?o34 ?_
           case o34 =>
            refine oc0 (fun A W hx hf => ?_) ?_
            exact ok_movE (a0 := a32) (r0 hf)
            refine oc0 (fun A W hx hf => ?_) ?_
            exact ok_subI (p2 s8 e_w15 hx (q0 ?b34_0 A W 48 hf)) (ec A (.int .i64 6)) (by omega)
            refine oc0 (fun A W hx hf => ?_) ?_
            exact ok_indexS (i - 6) Try.underlying24 size5 (o2 s5 e_w15 hx (r0 hf)) (Is.int (q1 ?b34_1 A W 49 hf) (by omega)) rfl (by omega)
            refine oc0 (fun A W hx hf => ?_) ?_
            exact ok_loadE Try.underlying5 rfl (q0 ?b34_2 A W 50 hf) rfl (by omega)
            refine oc0 (fun A W hx hf => ?_) ?_
            exact ok_assign (q0 ?b34_3 A W 51 hf)
            exact OpsOk.nil
           case t34 => exact inferInstance
           clear hr; intro a35 w35 x hr hd hs
           revert s8; revert s7; revert s5; revert s4; revert s0; refine kp5 hs rfl ?_; intro s0 s4 s5 s7 s8
           clear s9 s47
           have s9 := fa ?b34_3 a35 w35 9 (hd 4 9 rfl)
           replace e_w := e_w.trans x
           replace e_w15 := e_w15.trans x
           clear e_w20
           replace m15 := m15.tr hs rfl
           clear hd hs x
           refine exit_then ?_
           refine wp_seq ?_
           refine wp_reg 84 [[(7, none)], [(8, none)], [(52, some 0), (53, some 1)], [(54, some 2)], [(9, none)], [(55, some 3), (56, some 4)]] [?b36_0, ?b36_1, ?b36_2, ?b36_3, ?b36_4, ?b36_5] mixed (by kernel_rfl) (by kernel_rfl) hr ?t36 ?o36 ?_
           case o36 =>
            refine oc0 (fun A W hx hf => ?_) ?_
            exact ok_movE (a0 := a35) (r0 hf)
            refine oc0 (fun A W hx hf => ?_) ?_
            exact ok_movE (a0 := a35) (r0 hf)
            refine oc0 (fun A W hx hf => ?_) ?_
            exact ok_index_bs (_) Try.underlying22 size5 (OwnBA.bs (p2 s7 e_w15 hx (q0 ?b36_0 A W 52 hf))) (p2 s8 e_w15 hx (q1 ?b36_1 A W 53 hf)) (by rw [htl]; exact hlt)
            refine oc0 (fun A W hx hf => ?_) ?_
            exact ok_loadp Try.underlying5 rfl (q0 ?b36_2 A W 54 hf)
            refine oc0 (fun A W hx hf => ?_) ?_
            exact ok_movE (a0 := a35) (r0 hf)
            refine oc0 (fun A W hx hf => ?_) ?_
            exact ok_neq (q0 ?b36_3 A W 55 hf) (p1 s9 hx (q1 ?b36_4 A W 56 hf))
            exact OpsOk.nil
           case t36 => exact inferInstance
           clear hr; intro a37 w37 x hr hd hs
           revert s8; revert s7; revert s5; revert s4; revert s0; refine kp5 hs rfl ?_; intro s0 s4 s5 s7 s8
           clear s9
           have s57 := fa ?b36_5 a37 w37 57 (hd 5 57 rfl)
           replace e_w := e_w.trans x
           replace e_w15 := e_w15.trans x
           replace m15 := m15.tr hs rfl
           clear hd hs x
           refine exit_then ?_
           refine wp_cond_split (show _ = _ from s57) (fun hd9 => ?_) (fun hd9 => ?_)
           · skip
             exfalso; simp [heq] at hd9
           · skip
             try simp only [decide_eq_true_eq, decide_eq_false_iff_not, Bool.not_eq_true', Bool.not_eq_false', Bool.not_true, Bool.not_false, Bool.and_eq_true, Bool.and_eq_false_iff, Bool.or_eq_true, Bool.or_eq_false_iff, bne_iff_ne, beq_iff_eq, ne_eq, beq_eq_false_iff_ne, bne_eq_false_iff_eq] at hd9
             refine wp_skip ?_
             refine blk_normal ?_
             refine exit_then ?_
             refine wp_reg 84 [[(8, none)], [(35, some 0)], [(36, some 1)]] [?b39_0, ?b39_1, ?b39_1] mixed (by kernel_rfl) (by kernel_rfl) hr ?t39 ?o39 ?_
             case o39 =>
              refine oc0 (fun A W hx hf => ?_) ?_
              exact ok_movE (a0 := a37) (r0 hf)
              refine oc0 (fun A W hx hf => ?_) ?_
              exact ok_addI (p2 s8 e_w15 hx (q0 ?b39_0 A W 35 hf)) (ec A (.int .i64 1)) (by omega)
              refine oc0 (fun A W hx hf => ?_) ?_
              exact ok_assign (q0 ?b39_1 A W 36 hf)
              exact OpsOk.nil
             case t39 => exact inferInstance
             clear hr; intro a40 w40 x hr hd hs
             revert s7; revert s5; revert s4; revert s0; refine kp4 hs rfl ?_; intro s0 s4 s5 s7
             clear s8 s57
             have s8 := fa ?b39_1 a40 w40 8 (hd 2 8 rfl)
             replace e_w := e_w.trans x
             replace e_w15 := e_w15.trans x
             replace m15 := m15.tr hs rfl
             clear hd hs x
             refine exit_then ?_
             refine ⟨(fun (i : Nat) => l.length - i) (i + 1), ?_, ?_⟩
             · (try dsimp only); omega
             refine ⟨i + 1, rfl, hr, m15, e_w, (by first | assumption | omega), ?_, ?_, ?_, ?_⟩
             · exact (later e_w15 s4)
             · exact (later e_w15 s5)
             · exact (later e_w15 s7)
             · first | exact s8 | exact Is.int s8 (by first | omega | simp) | exact Is.bool s8 (by first | omega | simp)
         · skip
           have h12 : ¬ i < 12 := by simp at h12; omega
           have heq := turn_c hd hs9 hlt h6 h12
           refine wp_skip ?_
           refine exit_then ?_
           refine wp_seq ?_
           refine wp_reg 84 [[(7, none)], [(8, none)], [(52, some 0), (53, some 1)], [(54, some 2)], [(9, none)], [(55, some 3), (56, some 4)]] [?b41_0, ?b41_1, ?b41_2, ?b41_3, ?b41_4, ?b41_5] mixed (by kernel_rfl) (by kernel_rfl) hr ?t41 ?o41 ?_
           case o41 =>
            refine oc0 (fun A W hx hf => ?_) ?_
            exact ok_movE (a0 := a32) (r0 hf)
            refine oc0 (fun A W hx hf => ?_) ?_
            exact ok_movE (a0 := a32) (r0 hf)
            refine oc0 (fun A W hx hf => ?_) ?_
            exact ok_index_bs (_) Try.underlying22 size5 (OwnBA.bs (p2 s7 e_w15 hx (q0 ?b41_0 A W 52 hf))) (p2 s8 e_w15 hx (q1 ?b41_1 A W 53 hf)) (by rw [htl]; exact hlt)
            refine oc0 (fun A W hx hf => ?_) ?_
            exact ok_loadp Try.underlying5 rfl (q0 ?b41_2 A W 54 hf)
            refine oc0 (fun A W hx hf => ?_) ?_
            exact ok_movE (a0 := a32) (r0 hf)
            refine oc0 (fun A W hx hf => ?_) ?_
            exact ok_neq (q0 ?b41_3 A W 55 hf) (p2 s9 e_w20 hx (q1 ?b41_4 A W 56 hf))
            exact OpsOk.nil
           case t41 => exact inferInstance
           clear hr; intro a42 w42 x hr hd hs
           revert s8; revert s7; revert s5; revert s4; revert s0; refine kp5 hs rfl ?_; intro s0 s4 s5 s7 s8
           clear s9 s47
           have s57 := fa ?b41_5 a42 w42 57 (hd 5 57 rfl)
           replace e_w := e_w.trans x
           replace e_w15 := e_w15.trans x
           clear e_w20
           replace m15 := m15.tr hs rfl
           clear hd hs x
           refine exit_then ?_
           refine wp_cond_split (show _ = _ from s57) (fun hd9 => ?_) (fun hd9 => ?_)
           · skip
             exfalso; simp [heq] at hd9
           · skip
             try simp only [decide_eq_true_eq, decide_eq_false_iff_not, Bool.not_eq_true', Bool.not_eq_false', Bool.not_true, Bool.not_false, Bool.and_eq_true, Bool.and_eq_false_iff, Bool.or_eq_true, Bool.or_eq_false_iff, bne_iff_ne, beq_iff_eq, ne_eq, beq_eq_false_iff_ne, bne_eq_false_iff_eq] at hd9
             refine wp_skip ?_
             refine blk_normal ?_
             refine exit_then ?_
             refine wp_reg 84 [[(8, none)], [(35, some 0)], [(36, some 1)]] [?b44_0, ?b44_1, ?b44_1] mixed (by kernel_rfl) (by kernel_rfl) hr ?t44 ?o44 ?_
             case o44 =>
              refine oc0 (fun A W hx hf => ?_) ?_
              exact ok_movE (a0 := a42) (r0 hf)
              refine oc0 (fun A W hx hf => ?_) ?_
              exact ok_addI (p2 s8 e_w15 hx (q0 ?b44_0 A W 35 hf)) (ec A (.int .i64 1)) (by omega)
              refine oc0 (fun A W hx hf => ?_) ?_
              exact ok_assign (q0 ?b44_1 A W 36 hf)
              exact OpsOk.nil
             case t44 => exact inferInstance
             clear hr; intro a45 w45 x hr hd hs
             revert s7; revert s5; revert s4; revert s0; refine kp4 hs rfl ?_; intro s0 s4 s5 s7
             clear s8 s57
             have s8 := fa ?b44_1 a45 w45 8 (hd 2 8 rfl)
             replace e_w := e_w.trans x
             replace e_w15 := e_w15.trans x
             replace m15 := m15.tr hs rfl
             clear hd hs x
             refine exit_then ?_
             refine ⟨(fun (i : Nat) => l.length - i) (i + 1), ?_, ?_⟩
             · (try dsimp only); omega
             refine ⟨i + 1, rfl, hr, m15, e_w, (by first | assumption | omega), ?_, ?_, ?_, ?_⟩
             · exact (later e_w15 s4)
             · exact (later e_w15 s5)
             · exact (later e_w15 s7)
             · first | exact s8 | exact Is.int s8 (by first | omega | simp) | exact Is.bool s8 (by first | omega | simp)
     · skip
       skip
       refine wp_exit ?_
       refine then_exit ?_
       refine then_exit ?_
       refine blk_exit ?_
       refine exit_then ?_
       refine wp_seq ?_
       refine wp_reg_pre (l := [_, _, _, _, _]) (rest := [_, _, _]) 84 [[(0, none)], [(59, some 0)], [(60, some 1)], [(58, some 2)], [(58, some 2)]] [?b46_0, ?b46_1, ?b46_1, ?b46_3, ?b46_4] (by kernel_rfl) (by kernel_rfl) hr ?t46 ?o46 ?_
       case o46 =>
        refine oc0 (fun A W hx hf => ?_) ?_
        exact ok_movE (a0 := a17) (r0 hf)
        refine oc0 (fun A W hx hf => ?_) ?_
        exact ok_call1 body10 (c_lRead (p2 s0 e_w hx (q0 ?b46_0 A W 59 hf)) hx.size)
        refine oc0 (fun A W hx hf => ?_) ?_
        exact ok_move (q0 ?b46_1 A W 60 hf)
        refine oc0 (fun A W hx hf => ?_) ?_
        exact ok_ext0 (q0 ?b46_1 A W 58 hf)
        refine oc0 (fun A W hx hf => ?_) ?_
        exact ok_ext1 (q0 ?b46_1 A W 58 hf)
        exact OpsOk.nil
       case t46 => exact inferInstance
       clear hr; intro a47 w47 x hr hd hs
       have l47_4 := PxS.lt (later e_w15 s4)
       have l47_5 := PxS.lt (later e_w15 s5)
       have l47_7 := OwnBA.lt (later e_w15 s7)
       revert s7; revert s5; revert s4; refine kp3 hs rfl ?_; intro s4 s5 s7
       clear s0 s8 s34
       have s61 := fa ?b46_3 a47 w47 61 (hd 3 61 rfl)
       have s62 := fa ?b46_4 a47 w47 62 (hd 4 62 rfl)
       obtain ⟨sv61, s61, gA⟩ := LinkO.open s61; obtain ⟨g47_61, gA⟩ := OwnR.at gA; have n47_61 := OwnRA.lt gA
       replace gA := OwnRA.mono gA e_w.size
       replace e_w := e_w.trans x
       replace e_w15 := e_w15.trans x
       clear hd hs x
       have l48_4 := PxS.lt (later e_w15 s4)
       have l48_5 := PxS.lt (later e_w15 s5)
       have l48_7 := OwnBA.lt (later e_w15 s7)
       have l48_gA := OwnRA.lt gA
       refine wl_op hr (ok_allocS (lnkS link0 (.slice none 0 0)) [6, 6, 1, 1, 1] zerov27 (by rfl) (by rfl) (Nat.le_refl _)) inferInstance ?_; clear hr; intro a48 w48 x hr hd hs
       revert s61; revert s62; revert s7; revert s5; revert s4; refine kp5 hs rfl ?_; intro s4 s5 s7 s62 s61
       have s10 := hd 10 rfl (by decide)
       obtain ⟨g48_10, q48_10⟩ := PxN.at s10; clear s10; have n48_10 := PxS.lt q48_10
       replace q48_10 := PxS.mono q48_10 e_w.size
       have s10 := q48_10; clear q48_10
       replace e_w := e_w.trans x
       replace e_w15 := e_w15.trans x
       have e_w47 := x
       clear hd hs x
       have z49 := PxS.lt s10
       have l49 := (show (g48_10 = 0 ∨ w.heap.size < g48_10) ∧ True from ⟨by omega, trivial⟩)
       have l49_4 := PxS.lt (later e_w15 s4)
       have l49_5 := PxS.lt (later e_w15 s5)
       have l49_7 := OwnBA.lt (later e_w15 s7)
       have l49_gA := OwnRA.lt (later e_w47 gA)
       refine wl_storeSm (lnkS (linkRead l).1 sv61) hr size27 s10 (later e_w47 s61) (by exact lnkS_lens (linkRead_ok _)) (by exact lnk_one (rw_one (OwnRA.rw (later e_w47 gA)))) rfl ?_; clear hr; intro a49 w49 hc hu hr hs
       have hb : Below w.heap.size w48 w49 := hc.below e_w.size l49.1
       revert s10; revert s62; revert s7; revert s5; revert s4; refine kp5 hs rfl ?_; intro s4 s5 s7 s62 s10
       clear s61
       replace s4 := PxS.other (later e_w15 s4) hc (by omega)
       replace s5 := PxS.other (later e_w15 s5) hc (by omega)
       replace s7 := OwnBA.other (later e_w15 s7) hc (by omega)
       replace s10 := hu _ _ _ s10
       try simp only [List.set_cons_zero, List.set_cons_succ, lnkS] at s10
       replace gA := OwnRA.other (later e_w47 gA) hc (by omega)
       replace e_w := e_w.below (Nat.le_refl _) hb
       clear e_w15
       clear e_w47
       replace s62 := anyw (w2 := w49) s62
       clear hu hs hc hb
       refine wl_op hr (ok_assign s62) inferInstance ?_; clear hr; intro a50 w50 x hr hd hs
       revert s10; revert s7; revert s5; revert s4; refine kp4 hs rfl ?_; intro s4 s5 s7 s10
       clear s62
       have s11 := hd 11 rfl (by decide)
       replace e_w := e_w.trans x
       have e_w49 := x
       clear hd hs x
       refine wpList_nil ?_
       refine exit_then ?_
       refine wp_seq ?_
       refine wp_reg_pre (l := [_, _, _, _, _]) (rest := [_, _, _]) 84 [[(7, none)], [(64, some 0)], [(65, some 1)], [(63, some 2)], [(63, some 2)]] [?b51_0, ?b51_1, ?b51_1, ?b51_3, ?b51_4] (by kernel_rfl) (by kernel_rfl) hr ?t51 ?o51 ?_
       case o51 =>
        refine oc0 (fun A W hx hf => ?_) ?_
        exact ok_movE (a0 := a50) (r0 hf)
        refine oc0 (fun A W hx hf => ?_) ?_
        exact ok_call1 body10 (c_lRead (OwnBA.bs (p2 s7 e_w49 hx (q0 ?b51_0 A W 64 hf))) hx.size)
        refine oc0 (fun A W hx hf => ?_) ?_
        exact ok_move (q0 ?b51_1 A W 65 hf)
        refine oc0 (fun A W hx hf => ?_) ?_
        exact ok_ext0 (q0 ?b51_1 A W 63 hf)
        refine oc0 (fun A W hx hf => ?_) ?_
        exact ok_ext1 (q0 ?b51_1 A W 63 hf)
        exact OpsOk.nil
       case t51 => exact inferInstance
       clear hr; intro a52 w52 x hr hd hs
       have l52_4 := PxS.lt (later e_w49 s4)
       have l52_5 := PxS.lt (later e_w49 s5)
       have l52_7 := OwnBA.lt (later e_w49 s7)
       have l52_10 := PxS.lt (later e_w49 s10)
       have l52_gA := OwnRA.lt (later e_w49 gA)
       revert s11; revert s10; revert s5; revert s4; refine kp4 hs rfl ?_; intro s4 s5 s10 s11
       clear s7
       have s66 := fa ?b51_3 a52 w52 66 (hd 3 66 rfl)
       have s67 := fa ?b51_4 a52 w52 67 (hd 4 67 rfl)
       obtain ⟨sv66, s66, gB⟩ := LinkO.open s66; obtain ⟨g52_66, gB⟩ := OwnR.at gB; have n52_66 := OwnRA.lt gB
       replace gB := OwnRA.mono gB e_w.size
       replace e_w := e_w.trans x
       replace e_w49 := e_w49.trans x
       have e_w50 := x
       clear hd hs x
       have l53_4 := PxS.lt (later e_w49 s4)
       have l53_5 := PxS.lt (later e_w49 s5)
       have l53_10 := PxS.lt (later e_w49 s10)
       have l53_gA := OwnRA.lt (later e_w49 gA)
       have l53_gB := OwnRA.lt gB
       refine wl_op hr (ok_allocS [(lnkS link0 (.slice none 0 0)).flatten] [15] zerov27 (by rfl) (by rfl) (Nat.le_refl _)) inferInstance ?_; clear hr; intro a53 w53 x hr hd hs
       revert s66; revert s67; revert s11; revert s10; revert s5; revert s4; refine kp6 hs rfl ?_; intro s4 s5 s10 s11 s67 s66
       have s12 := hd 12 rfl (by decide)
       obtain ⟨g53_12, q53_12⟩ := PxN.at s12; clear s12; have n53_12 := PxS.lt q53_12
       replace q53_12 := PxS.mono q53_12 e_w.size
       have s12 := q53_12; clear q53_12
       replace e_w := e_w.trans x
       replace e_w49 := e_w49.trans x
       replace e_w50 := e_w50.trans x
       have e_w52 := x
       clear hd hs x
       have z54 := PxS.lt s12
       have l54 := (show (g53_12 = 0 ∨ w.heap.size < g53_12) ∧ True from ⟨by omega, trivial⟩)
       have l54_4 := PxS.lt (later e_w49 s4)
       have l54_5 := PxS.lt (later e_w49 s5)
       have l54_10 := PxS.lt (later e_w49 s10)
       have l54_gA := OwnRA.lt (later e_w49 gA)
       have l54_gB := OwnRA.lt (later e_w52 gB)
       refine wl_storeSn hr size27 s12 (later e_w52 s66) (by exact lnk_len (linkRead_ok _)) (by exact lnk_one (rw_one (OwnRA.rw (later e_w52 gB)))) rfl ?_; clear hr; intro a54 w54 hc hu hr hs
       have hb : Below w.heap.size w53 w54 := hc.below e_w.size l54.1
       revert s12; revert s67; revert s11; revert s10; revert s5; revert s4; refine kp6 hs rfl ?_; intro s4 s5 s10 s11 s67 s12
       clear s66
       replace s4 := PxS.other (later e_w49 s4) hc (by omega)
       replace s5 := PxS.other (later e_w49 s5) hc (by omega)
       replace s10 := PxS.other (later e_w49 s10) hc (by omega)
       replace s12 := hu _ _ _ s12
       try simp only [List.set_cons_zero, List.set_cons_succ, lnkS] at s12
       replace gA := OwnRA.other (later e_w49 gA) hc (by omega)
       replace gB := OwnRA.other (later e_w52 gB) hc (by omega)
       replace e_w := e_w.below (Nat.le_refl _) hb
       clear e_w49
       clear e_w50
       clear e_w52
       replace s11 := anyw (w2 := w54) s11
       replace s67 := anyw (w2 := w54) s67
       clear hu hs hc hb
       refine wl_op hr (ok_assign s67) inferInstance ?_; clear hr; intro a55 w55 x hr hd hs
       revert s11; revert s12; revert s10; revert s5; revert s4; refine kp5 hs rfl ?_; intro s4 s5 s10 s12 s11
       clear s67
       have s13 := hd 13 rfl (by decide)
       replace e_w := e_w.trans x
       have e_w54 := x
       clear hd hs x
       refine wpList_nil ?_
       refine exit_then ?_
       refine wp_seq ?_
       refine wp_seq ?_
       refine wp_reg 84 [[(11, none)], [(68, some 0)]] [?b56_0, ?b56_1] mixed (by kernel_rfl) (by kernel_rfl) hr ?t56 ?o56 ?_
       case o56 =>
        refine oc0 (fun A W hx hf => ?_) ?_
        exact ok_movE (a0 := a55) (r0 hf)
        refine oc0 (fun A W hx hf => ?_) ?_
        exact ok_neq (p2 s11 e_w54 hx (q0 ?b56_0 A W 68 hf)) (ec A (.int .i64 0))
        exact OpsOk.nil
       case t56 => exact inferInstance
       clear hr; intro a57 w57 x hr hd hs
       revert s13; revert s11; revert s12; revert s10; revert s5; revert s4; refine kp6 hs rfl ?_; intro s4 s5 s10 s12 s11 s13
       have s69 := fa ?b56_1 a57 w57 69 (hd 1 69 rfl)
       replace e_w := e_w.trans x
       replace e_w54 := e_w54.trans x
       have e_w55 := x
       clear hd hs x
       refine exit_then ?_
       refine wp_cond_split (show _ = _ from s69) (fun he => ?_) (fun he => ?_)
       · skip
         skip
         refine wp_seq ?_
         refine wp_reg 84 [[(13, none)], [(11, none)], [(70, some 0), (71, some 1)], [(72, some 2)]] [?b59_0, ?b59_1, ?b59_2, ?b59_2] mixed (by kernel_rfl) (by kernel_rfl) hr ?t59 ?o59 ?_
         case o59 =>
          refine oc0 (fun A W hx hf => ?_) ?_
          exact ok_movE (a0 := a57) (r0 hf)
          refine oc0 (fun A W hx hf => ?_) ?_
          exact ok_movE (a0 := a57) (r0 hf)
          refine oc0 (fun A W hx hf => ?_) ?_
          exact ok_eql (p2 s13 e_w55 hx (q0 ?b59_0 A W 70 hf)) (p2 s11 e_w54 hx (q1 ?b59_1 A W 71 hf))
          refine oc0 (fun A W hx hf => ?_) ?_
          exact ok_assign (q0 ?b59_2 A W 72 hf)
          exact OpsOk.nil
         case t59 => exact inferInstance
         clear hr; intro a60 w60 x hr hd hs
         clear s4 s5 s10 s12 s11 s13 s69
         have s6 := fa ?b59_2 a60 w60 6 (hd 3 6 rfl)
         replace e_w := e_w.trans x
         replace e_w54 := e_w54.trans x
         clear e_w55
         clear hd hs x
         refine exit_then ?_
         refine wp_ret ?_
         refine then_ret ?_
         refine ret_tmp Try.results7 hr e_w ?_
         first | with_reducible exact s6 | exact Is.bool s6 (by rw [ht1, he]; rfl) | exact Is.bool s6 (by rw [ht1]; simp; done)
       · skip
         have he : (linkRead l).2 = 0 := by simpa using he
         have hr2 := ht2 he
         refine wp_skip ?_
         refine exit_then ?_
         refine wp_seq ?_
         refine wp_reg_pre (l := [_, _]) (rest := [_]) 84 [[(4, none)], [(10, none)]] [?b61_0, ?b61_1] (by kernel_rfl) (by kernel_rfl) hr ?t61 ?o61 ?_
         case o61 =>
          refine oc0 (fun A W hx hf => ?_) ?_
          exact ok_loadSeg Try.underlying24 rfl size24 (o2 s4 e_w54 hx (r0 hf)) rfl rfl
          refine oc0 (fun A W hx hf => ?_) ?_
          exact ok_fieldS 0 Try.underlying27 (k := 0) rfl size24 rfl (o2 s10 e_w54 hx (r0 hf)) rfl
          exact OpsOk.nil
         case t61 => exact inferInstance
         clear hr; intro a62 w62 x hr hd hs
         revert s13; revert s12; revert s10; revert s5; refine kp4 hs rfl ?_; intro s5 s10 s12 s13
         clear s4 s11 s69
         have s73 := fa ?b61_0 a62 w62 73 (hd 0 73 rfl)
         have s74 := fa ?b61_1 a62 w62 74 (hd 1 74 rfl)
         replace e_w := e_w.trans x
         replace e_w54 := e_w54.trans x
         replace e_w55 := e_w55.trans x
         clear hd hs x
         have z63 := PxS.lt s74
         have l63 := (show (g48_10 = 0 ∨ w.heap.size < g48_10) ∧ True from ⟨by omega, trivial⟩)
         have l63_5 := PxS.lt (later e_w54 s5)
         have l63_12 := PxS.lt (later e_w54 s12)
         have l63_gA := OwnRA.lt (later e_w54 gA)
         have l63_gB := OwnRA.lt (later e_w54 gB)
         refine wl_storeSn hr size24 s74 (Is.conv s73 (show _ = Value.agg (d.map byteV).toArray from by simp)) (by simp [hd]) (by intro u hu; simp at hu; obtain ⟨c, _, rfl⟩ := hu; rfl) rfl ?_; clear hr; intro a63 w63 hc hu hr hs
         have hb : Below w.heap.size w62 w63 := hc.below e_w.size l63.1
         revert s13; revert s12; revert s10; revert s5; refine kp4 hs rfl ?_; intro s5 s10 s12 s13
         clear s73 s74
         replace s5 := PxS.other (later e_w54 s5) hc (by omega)
         replace s10 := hu _ _ _ (later e_w54 s10)
         try simp only [List.set_cons_zero, List.set_cons_succ, lnkS] at s10
         replace s12 := PxS.other (later e_w54 s12) hc (by omega)
         replace gA := OwnRA.other (later e_w54 gA) hc (by omega)
         replace gB := OwnRA.other (later e_w54 gB) hc (by omega)
         replace e_w := e_w.below (Nat.le_refl _) hb
         clear e_w54
         clear e_w55
         replace s13 := anyw (w2 := w63) s13
         clear hu hs hc hb
         refine wpList_nil ?_
         replace s10 := PxS.cast s10 (show _ = lnkS { (linkRead l).1 with dst := d } sv61 from rfl)
         refine exit_then ?_
         refine wp_seq ?_
         refine wp_reg_pre (l := [_, _]) (rest := [_]) 84 [[(5, none)], [(10, none)]] [?b64_0, ?b64_1] (by kernel_rfl) (by kernel_rfl) hr ?t64 ?o64 ?_
         case o64 =>
          refine oc0 (fun A W hx hf => ?_) ?_
          exact ok_loadSeg Try.underlying24 rfl size24 (o1 s5 hx (r0 hf)) rfl rfl
          refine oc0 (fun A W hx hf => ?_) ?_
          exact ok_fieldS 1 Try.underlying27 (k := 1) rfl size24 rfl (o1 s10 hx (r0 hf)) rfl
          exact OpsOk.nil
         case t64 => exact inferInstance
         clear hr; intro a65 w65 x hr hd hs
         revert s10; revert s13; revert s12; refine kp3 hs rfl ?_; intro s12 s13 s10
         clear s5
         have s75 := fa ?b64_0 a65 w65 75 (hd 0 75 rfl)
         have s76 := fa ?b64_1 a65 w65 76 (hd 1 76 rfl)
         replace e_w := e_w.trans x
         have e_w63 := x
         clear hd hs x
         have z66 := PxS.lt s76
         have l66 := (show (g48_10 = 0 ∨ w.heap.size < g48_10) ∧ True from ⟨by omega, trivial⟩)
         have l66_12 := PxS.lt (later e_w63 s12)
         have l66_gA := OwnRA.lt (later e_w63 gA)
         have l66_gB := OwnRA.lt (later e_w63 gB)
         refine wl_storeSn hr size24 s76 (Is.conv s75 (show _ = Value.agg (s.map byteV).toArray from by simp)) (by simp [hs9]) (by intro u hu; simp at hu; obtain ⟨c, _, rfl⟩ := hu; rfl) rfl ?_; clear hr; intro a66 w66 hc hu hr hs
         have hb : Below w.heap.size w65 w66 := hc.below e_w.size l66.1
         revert s10; revert s13; revert s12; refine kp3 hs rfl ?_; intro s12 s13 s10
         clear s75 s76
         replace s12 := PxS.other (later e_w63 s12) hc (by omega)
         replace s10 := hu _ _ _ (later e_w63 s10)
         try simp only [List.set_cons_zero, List.set_cons_succ, lnkS] at s10
         replace gA := OwnRA.other (later e_w63 gA) hc (by omega)
         replace gB := OwnRA.other (later e_w63 gB) hc (by omega)
         replace e_w := e_w.below (Nat.le_refl _) hb
         clear e_w63
         replace s13 := anyw (w2 := w66) s13
         clear hu hs hc hb
         refine wpList_nil ?_
         replace s10 := PxS.cast s10 (show _ = lnkS { (linkRead l).1 with dst := d, src := s } sv61 from rfl)
         refine exit_then ?_
         refine wp_seq ?_
         refine wp_reg 84 [[(13, none)], [(77, some 0)], [(78, some 1)], [(10, none), (79, some 2)], [(12, none), (79, some 2)], [(80, some 3), (81, some 4), (79, some 2)], [(79, some 2), (82, some 5)], [(83, some 6)]] [?b67_0, ?b67_1, ?b67_1, ?b67_3, ?b67_4, ?b67_5, ?b67_6, ?b67_6] mixed (by kernel_rfl) (by kernel_rfl) hr ?t67 ?o67 ?_
         case o67 =>
          refine oc0 (fun A W hx hf => ?_) ?_
          exact ok_movE (a0 := a66) (r0 hf)
          refine oc0 (fun A W hx hf => ?_) ?_
          exact ok_eql (p1 s13 hx (q0 ?b67_0 A W 77 hf)) (ec A (.int .i64 0))
          refine oc0 (fun A W hx hf => ?_) ?_
          exact ok_move (q0 ?b67_1 A W 78 hf)
          refine ocg 79 ?_ (fun A W hx hf => ?_) ?_
          rfl
          exact gd_t (q1 ?b67_1 A W 79 hf) (fun hc => ok_loadAggS 5 Try.underlying27 rfl size27 (o1 s10 hx (r0 hf)) rfl)
          refine ocg 79 ?_ (fun A W hx hf => ?_) ?_
          rfl
          exact gd_t (q1 ?b67_1 A W 79 hf) (fun hc => ok_loadSeg Try.underlying27 rfl size27 (o1 s12 hx (r0 hf)) rfl rfl)
          refine ocg 79 ?_ (fun A W hx hf => ?_) ?_
          rfl
          exact gd_t (q2 ?b67_1 A W 79 hf) (fun hc => ok_call2 body12 (c_r7Same (LinkV.of (show Is (LnkA { (linkRead l).1 with dst := d, src := s } sv61) _ _ from (G.get (q0 ?b67_3 A W 80 hf) hc)) (OwnRA.rw (later hx gA))) (LinkV.of (show Is (LnkA { (linkRead l).1 with dst := d, src := s } sv66) _ _ from Is.conv (G.get (q1 ?b67_4 A W 81 hf) hc) (by rw [hr2]; rfl)) (Rw.cast (OwnRA.rw (later hx gB)) (by rw [hr2]))) (by exact ⟨hd, hs9⟩)))
          refine oc0 (fun A W hx hf => ?_) ?_
          exact ok_and (q0 ?b67_1 A W 79 hf) (q1 ?b67_5 A W 82 hf)
          refine oc0 (fun A W hx hf => ?_) ?_
          exact ok_assign (q0 ?b67_6 A W 83 hf)
          exact OpsOk.nil
         case t67 => exact inferInstance
         clear hr; intro a68 w68 x hr hd hs
         clear s12 s13 s10
         have s6 := fa ?b67_6 a68 w68 6 (hd 7 6 rfl)
         replace e_w := e_w.trans x
         have e_w66 := x
         clear hd hs x
         refine exit_then ?_
         refine wp_ret ?_
         refine ret_tmp Try.results7 hr e_w ?_
         first | with_reducible exact s6 | exact Is.bool s6 (by rw [ht1, he]; rfl) | exact Is.bool s6 (by rw [ht1]; simp; done)

end Go.Proofs.Ytdbjpfjnambenaa
