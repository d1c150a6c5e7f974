import Derived.Test.YtaalllmkjobajaaA06
namespace Go.Proofs.Ytaalllmkjobajaa
open Go.RowKit
set_option linter.unusedVariables false
def D_law_InetBack_0 : List Tmp := [5, 6, 22, 23, 24, 25, 26, 27, 28, 29, 30, 31, 32, 33, 34, 35]
theorem law_InetBack {x0 x1 : Value} {w : World} {l : List UInt8} {n : Int} (h0 : (Bs l) x0 w) (h1 : (Is (.int .u16 n)) x1 w) (hn : 0 ≤ n ∧ n ≤ 65535) :
    Calls Try.prog 5 #[x0, x1] w (Ret (Is (.bool true)) w) := by
 have hlen := Bs.len_le h0
 have hb := ck_bd l
 have hm := wordAt_bd l 0
 have hb2 := chg_bd hb hm hn
 refine enter Try.func5 rfl Try.ntmps5 (k := 2) rfl (by decide) (fun a0 hr hargs => ?_)
 have s0 := sarg h0 (hargs 0 (by decide))
 have s1 := sarg h1 (hargs 1 (by decide))
 clear hargs
 refine wp_seq ?_
 refine wp_reg 70 [[]] [?b1_0] mixed (by kernel_rfl) (by kernel_rfl) hr ?t1 ?o1 ?_
 case o1 =>
  refine oc0 (fun A W hx hf => ?_) ?_
  exact ok_assignc
  exact OpsOk.nil
 case t1 => exact inferInstance
 clear hr; intro a2 w2 x hr hd hs
 revert s0 s1; refine kp2 hs rfl ?_; intro s0 s1
 have e_w := x
 clear hd hs x
 refine exit_then ?_
 refine wp_seq ?_
 refine wp_seq ?_
 refine wp_reg 70 [[], [(9, some 0)], [(10, some 1)], [(0, none), (11, some 2)], [(12, some 3), (11, some 2)], [(13, some 4), (11, some 2)], [(11, some 2), (14, some 5)], [(15, some 6)], [(0, none), (16, some 7)], [(17, some 8), (16, some 7)], [(18, some 9), (16, some 7)], [(16, some 7), (19, some 10)]] [?b3_0, ?b3_1, ?b3_1, ?b3_3, ?b3_4, ?b3_5, ?b3_6, ?b3_6, ?b3_8, ?b3_9, ?b3_10, ?b3_11] mixed (by kernel_rfl) (by kernel_rfl) hr ?t3 ?o3 ?_
 case o3 =>
  refine oc0 (fun A W hx hf => ?_) ?_
  exact ok_call0 body9 (c_awake06 )
  refine oc0 (fun A W hx hf => ?_) ?_
  exact ok_not (q0 ?b3_0 A W 9 hf)
  refine oc0 (fun A W hx hf => ?_) ?_
  exact ok_move (q0 ?b3_1 A W 10 hf)
  refine ocg 11 ?_ (fun A W hx hf => ?_) ?_
  rfl
  exact gd_f (q1 ?b3_1 A W 11 hf) (fun hc => ok_movE (a0 := a2) (r0 hf))
  refine ocg 11 ?_ (fun A W hx hf => ?_) ?_
  rfl
  exact gd_f (q1 ?b3_1 A W 11 hf) (fun hc => ok_len_bs Try.underlying22 (p2 s0 e_w hx (G.get (q0 ?b3_3 A W 12 hf) hc)))
  refine ocg 11 ?_ (fun A W hx hf => ?_) ?_
  rfl
  exact gd_f (q1 ?b3_1 A W 11 hf) (fun hc => ok_gtr (G.get (q0 ?b3_4 A W 13 hf) hc) (ec A (.int .i64 300)))
  refine oc0 (fun A W hx hf => ?_) ?_
  exact ok_or (q0 ?b3_1 A W 11 hf) (q1 ?b3_5 A W 14 hf)
  refine oc0 (fun A W hx hf => ?_) ?_
  exact ok_move (q0 ?b3_6 A W 15 hf)
  refine ocg 16 ?_ (fun A W hx hf => ?_) ?_
  rfl
  exact gd_f (q1 ?b3_6 A W 16 hf) (fun hc => ok_movE (a0 := a2) (r0 hf))
  refine ocg 16 ?_ (fun A W hx hf => ?_) ?_
  rfl
  exact gd_f (q1 ?b3_6 A W 16 hf) (fun hc => ok_len_bs Try.underlying22 (p2 s0 e_w hx (G.get (q0 ?b3_8 A W 17 hf) hc)))
  refine ocg 16 ?_ (fun A W hx hf => ?_) ?_
  rfl
  exact gd_f (q1 ?b3_6 A W 16 hf) (fun hc => ok_lss (G.get (q0 ?b3_9 A W 18 hf) hc) (ec A (.int .i64 4)))
  refine oc0 (fun A W hx hf => ?_) ?_
  exact ok_or (q0 ?b3_6 A W 16 hf) (q1 ?b3_10 A W 19 hf)
  exact OpsOk.nil
 case t3 => exact inferInstance
 clear hr; intro a4 w4 x hr hd hs
 revert s0 s1; refine kp2 hs rfl ?_; intro s0 s1
 have s20 := fa ?b3_11 a4 w4 20 (hd 11 20 rfl)
 replace e_w := e_w.trans x
 clear hd hs x
 refine exit_then ?_
 refine wp_cond_split (show _ = _ from s20) (fun hl => ?_) (fun hl => ?_)
 · skip
   skip
   refine wp_seq ?_
   refine wp_reg 70 [[], [(21, some 0)]] [?b6_0, ?b6_0] mixed (by kernel_rfl) (by kernel_rfl) hr ?t6 ?o6 ?_
   case o6 =>
    refine oc0 (fun A W hx hf => ?_) ?_
    exact ok_call0 body9 (c_awake06 )
    refine oc0 (fun A W hx hf => ?_) ?_
    exact ok_assign (q0 ?b6_0 A W 21 hf)
    exact OpsOk.nil
   case t6 => exact inferInstance
   clear hr; intro a7 w7 x hr hd hs
   clear s0 s1 s20
   have s4 := fa ?b6_0 a7 w7 4 (hd 1 4 rfl)
   replace e_w := e_w.trans x
   clear hd hs x
   refine exit_then ?_
   refine wp_ret ?_
   refine then_ret ?_
   refine ret_tmp Try.results5 hr e_w ?_
   first | with_reducible exact s4 | exact Is.bool s4 (by rw [List.take_length]; exact back_end (by omega) hn)
 · skip
   have hl : 4 ≤ l.length ∧ l.length ≤ 300 := by simp at hl; omega
   have g0 : 0 < l.length := by omega
   have g1 : 1 < l.length := by omega
   have z0 := byte_bd l[0]
   have z1 := byte_bd l[1]
   refine wp_skip ?_
   refine exit_then ?_
   refine wp_seq ?_
   refine wp_reg 70 [[]] [?b8_0] mixed (by kernel_rfl) (by kernel_rfl) hr ?t8 ?o8 ?_
   case o8 =>
    refine oc0 (fun A W hx hf => ?_) ?_
    exact ok_assignc
    exact OpsOk.nil
   case t8 => exact inferInstance
   clear hr; intro a9 w9 x hr hd hs
   revert s0 s1; refine kp2 hs rfl ?_; intro s0 s1
   clear s20
   have s5 := fa ?b8_0 a9 w9 5 (hd 0 5 rfl)
   replace e_w := e_w.trans x
   clear hd hs x
   refine exit_then ?_
   refine wp_seq ?_
   refine wp_seq ?_
   refine wp_reg 70 [[]] [?b10_0] mixed (by kernel_rfl) (by kernel_rfl) hr ?t10 ?o10 ?_
   case o10 =>
    refine oc0 (fun A W hx hf => ?_) ?_
    exact ok_assignc
    exact OpsOk.nil
   case t10 => exact inferInstance
   clear hr; intro a11 w11 x hr hd hs
   revert s0 s1 s5; refine kp3 hs rfl ?_; intro s0 s1 s5
   have s6 := fa ?b10_0 a11 w11 6 (hd 0 6 rfl)
   replace e_w := e_w.trans x
   have e_w9 := x
   clear hd hs x
   refine exit_then ?_
   refine wp_block ?_
   refine wp_loop_inv (fun n A W => ∃ (i : Nat), n = l.length - i ∧ Fr 70 A ∧ Same D_law_InetBack_0 a11 A ∧ Ext w W ∧ 2 ≤ i ∧ i ≤ l.length ∧ (Is (.bool (((l.take i).drop 2).any (fun c => c != 0)))) (A.eval (.tmp 5)) W ∧ (Is (.int .i64 (i : Int))) (A.eval (.tmp 6)) W) ?start12 ?_
   case start12 =>
    refine ⟨_, 2, rfl, hr, Same.rfl, e_w, (by first | assumption | omega), (by first | assumption | omega), ?_, ?_⟩
    · exact Is.bool (later e_w9 s5) (by simp)
    · exact s6
   intro n12 a12 w12 hI
   clear e_w
   clear e_w9
   clear hr; obtain ⟨i, hn12, hr, hs, e_w, hi0, hi, u5, u6⟩ := hI
   revert s0 s1; refine kp2 hs rfl ?_; intro s0 s1
   clear s5 s6
   have s5 := u5; clear u5
   have s6 := u6; clear u6
   have m12 := hs; clear hs
   refine wp_seq ?_
   refine wp_seq ?_
   refine wp_reg 70 [[(6, none)], [(0, none)], [(23, some 1)], [(22, some 0), (24, some 2)]] [?b13_0, ?b13_1, ?b13_2, ?b13_3] mixed (by kernel_rfl) (by kernel_rfl) hr ?t13 ?o13 ?_
   case o13 =>
    refine oc0 (fun A W hx hf => ?_) ?_
    exact ok_movE (a0 := a12) (r0 hf)
    refine oc0 (fun A W hx hf => ?_) ?_
    exact ok_movE (a0 := a12) (r0 hf)
    refine oc0 (fun A W hx hf => ?_) ?_
    exact ok_len_bs Try.underlying22 (p2 s0 e_w hx (q0 ?b13_1 A W 23 hf))
    refine oc0 (fun A W hx hf => ?_) ?_
    exact ok_lss (p1 s6 hx (q0 ?b13_0 A W 22 hf)) (q1 ?b13_2 A W 24 hf)
    exact OpsOk.nil
   case t13 => exact inferInstance
   clear hr; intro a14 w14 x hr hd hs
   revert s0 s1 s5 s6; refine kp4 hs rfl ?_; intro s0 s1 s5 s6
   have s25 := fa ?b13_3 a14 w14 25 (hd 3 25 rfl)
   replace e_w := e_w.trans x
   have e_w12 := x
   replace m12 := m12.tr hs rfl
   clear hd hs x
   refine exit_then ?_
   refine wp_cond_split (show _ = _ from s25) (fun hlt => ?_) (fun hlt => ?_)
   · skip
     have hlt : i < l.length := by simp at hlt; omega
     refine wp_skip ?_
     refine exit_then ?_
     refine wp_seq ?_
     refine wp_block ?_
     refine wp_reg 70 [[(5, none)], [(28, some 0)], [(0, none), (29, some 1)], [(6, none), (29, some 1)], [(30, some 2), (31, some 3), (29, some 1)], [(32, some 4), (29, some 1)], [(33, some 5), (29, some 1)], [(29, some 1), (34, some 6)], [(35, some 7)]] [?b16_0, ?b16_0, ?b16_2, ?b16_3, ?b16_4, ?b16_5, ?b16_6, ?b16_7, ?b16_7] mixed (by kernel_rfl) (by kernel_rfl) hr ?t16 ?o16 ?_
     case o16 =>
      refine oc0 (fun A W hx hf => ?_) ?_
      exact ok_movE (a0 := a14) (r0 hf)
      refine oc0 (fun A W hx hf => ?_) ?_
      exact ok_move (q0 ?b16_0 A W 28 hf)
      refine ocg 29 ?_ (fun A W hx hf => ?_) ?_
      rfl
      exact gd_f (p2 s5 e_w12 hx (q1 ?b16_0 A W 29 hf)) (fun hc => ok_movE (a0 := a14) (r0 hf))
      refine ocg 29 ?_ (fun A W hx hf => ?_) ?_
      rfl
      exact gd_f (p2 s5 e_w12 hx (q1 ?b16_0 A W 29 hf)) (fun hc => ok_movE (a0 := a14) (r0 hf))
      refine ocg 29 ?_ (fun A W hx hf => ?_) ?_
      rfl
      exact gd_f (p2 s5 e_w12 hx (q2 ?b16_0 A W 29 hf)) (fun hc => ok_index_bs (_) Try.underlying22 size5 (p2 s0 e_w hx (G.get (q0 ?b16_2 A W 30 hf) hc)) (p2 s6 e_w12 hx (G.get (q1 ?b16_3 A W 31 hf) hc)) (by first | omega | decide | (simp; done) | (simp; omega)))
      refine ocg 29 ?_ (fun A W hx hf => ?_) ?_
      rfl
      exact gd_f (p2 s5 e_w12 hx (q1 ?b16_0 A W 29 hf)) (fun hc => ok_loadp Try.underlying5 rfl (G.get (q0 ?b16_4 A W 32 hf) hc))
      refine ocg 29 ?_ (fun A W hx hf => ?_) ?_
      rfl
      exact gd_f (p2 s5 e_w12 hx (q1 ?b16_0 A W 29 hf)) (fun hc => ok_neq (G.get (q0 ?b16_5 A W 33 hf) hc) (ec A (.int .u8 0)))
      refine oc0 (fun A W hx hf => ?_) ?_
      exact ok_or (p2 s5 e_w12 hx (q0 ?b16_0 A W 29 hf)) (q1 ?b16_6 A W 34 hf)
      refine oc0 (fun A W hx hf => ?_) ?_
      exact ok_assign (q0 ?b16_7 A W 35 hf)
      exact OpsOk.nil
     case t16 => exact inferInstance
     clear hr; intro a17 w17 x hr hd hs
     revert s0 s1 s6; refine kp3 hs rfl ?_; intro s0 s1 s6
     clear s5 s25
     have s5 := fa ?b16_7 a17 w17 5 (hd 8 5 rfl)
     replace e_w := e_w.trans x
     replace e_w12 := e_w12.trans x
     replace m12 := m12.tr hs rfl
     clear hd hs x
     refine blk_normal ?_
     refine exit_then ?_
     refine wp_reg 70 [[(6, none)], [(26, some 0)], [(27, some 1)]] [?b18_0, ?b18_1, ?b18_1] mixed (by kernel_rfl) (by kernel_rfl) hr ?t18 ?o18 ?_
     case o18 =>
      refine oc0 (fun A W hx hf => ?_) ?_
      exact ok_movE (a0 := a17) (r0 hf)
      refine oc0 (fun A W hx hf => ?_) ?_
      exact ok_addI (p2 s6 e_w12 hx (q0 ?b18_0 A W 26 hf)) (ec A (.int .i64 1)) (by omega)
      refine oc0 (fun A W hx hf => ?_) ?_
      exact ok_assign (q0 ?b18_1 A W 27 hf)
      exact OpsOk.nil
     case t18 => exact inferInstance
     clear hr; intro a19 w19 x hr hd hs
     revert s0 s1 s5; refine kp3 hs rfl ?_; intro s0 s1 s5
     clear s6
     have s6 := fa ?b18_1 a19 w19 6 (hd 2 6 rfl)
     replace e_w := e_w.trans x
     clear e_w12
     have e_w17 := x
     replace m12 := m12.tr hs rfl
     clear hd hs x
     refine exit_then ?_
     refine ⟨(fun (i : Nat) => l.length - i) (i + 1), ?_, ?_⟩
     · (try dsimp only); omega
     refine ⟨i + 1, rfl, hr, m12, e_w, (by first | assumption | omega), (by first | assumption | omega), ?_, ?_⟩
     · exact Is.bool (later e_w17 s5) (any_step hi0 hlt)
     · exact s6
   · skip
     have hlt : i = l.length := by simp at hlt; omega
     subst hlt
     refine wp_exit ?_
     refine then_exit ?_
     refine then_exit ?_
     refine blk_exit ?_
     refine exit_then ?_
     refine wp_seq ?_
     refine wp_reg 70 [[(0, none)], [(36, some 0)], [(37, some 1)], [(38, some 2)], [(39, some 3)], [(0, none)], [(41, some 5)], [(42, some 6)], [(43, some 7)], [(40, some 4), (44, some 8)], [(45, some 9)]] [?b20_0, ?b20_1, ?b20_2, ?b20_3, ?b20_4, ?b20_5, ?b20_6, ?b20_7, ?b20_8, ?b20_9, ?b20_9] mixed (by kernel_rfl) (by kernel_rfl) hr ?t20 ?o20 ?_
     case o20 =>
      refine oc0 (fun A W hx hf => ?_) ?_
      exact ok_movE (a0 := a14) (r0 hf)
      refine oc0 (fun A W hx hf => ?_) ?_
      exact ok_index_bs (0) Try.underlying22 size5 (p2 s0 e_w hx (q0 ?b20_0 A W 36 hf)) (ec A (.int .i64 0)) (by first | omega | decide | (simp; done) | (simp; omega))
      refine oc0 (fun A W hx hf => ?_) ?_
      exact ok_loadp Try.underlying5 rfl (q0 ?b20_1 A W 37 hf)
      refine oc0 (fun A W hx hf => ?_) ?_
      exact ok_convB Try.underlying5 Try.underlying23 (by decide) (q0 ?b20_2 A W 38 hf)
      refine oc0 (fun A W hx hf => ?_) ?_
      exact ok_shl 8 (by decide) (q0 ?b20_3 A W 39 hf) (ec A (.int .u64 8))
      refine oc0 (fun A W hx hf => ?_) ?_
      exact ok_movE (a0 := a14) (r0 hf)
      refine oc0 (fun A W hx hf => ?_) ?_
      exact ok_index_bs (1) Try.underlying22 size5 (p2 s0 e_w hx (q0 ?b20_5 A W 41 hf)) (ec A (.int .i64 1)) (by first | omega | decide | (simp; done) | (simp; omega))
      refine oc0 (fun A W hx hf => ?_) ?_
      exact ok_loadp Try.underlying5 rfl (q0 ?b20_6 A W 42 hf)
      refine oc0 (fun A W hx hf => ?_) ?_
      exact ok_convB Try.underlying5 Try.underlying23 (by decide) (q0 ?b20_7 A W 43 hf)
      refine oc0 (fun A W hx hf => ?_) ?_
      exact ok_orb (q0 ?b20_4 A W 40 hf) (q1 ?b20_8 A W 44 hf)
      refine oc0 (fun A W hx hf => ?_) ?_
      exact ok_assign (q0 ?b20_9 A W 45 hf)
      exact OpsOk.nil
     case t20 => exact inferInstance
     clear hr; intro a21 w21 x hr hd hs
     revert s0 s1 s5; refine kp3 hs rfl ?_; intro s0 s1 s5
     clear s6 s25
     have s7 := fa ?b20_9 a21 w21 7 (hd 10 7 rfl)
     replace e_w := e_w.trans x
     replace e_w12 := e_w12.trans x
     clear hd hs x
     replace s7 := Is.int s7 (show _ = wordAt l 0 from by rw [← byteAt_get g0, ← byteAt_get g1]; exact word_expr)
     refine exit_then ?_
     refine wp_seq ?_
     refine wp_reg 70 [[(0, none)], [(46, some 0)], [(47, some 1)], [(48, some 2)]] [?b22_0, ?b22_1, ?b22_2, ?b22_2] mixed (by kernel_rfl) (by kernel_rfl) hr ?t22 ?o22 ?_
     case o22 =>
      refine oc0 (fun A W hx hf => ?_) ?_
      exact ok_movE (a0 := a21) (r0 hf)
      refine oc0 (fun A W hx hf => ?_) ?_
      exact ok_buildBss [(.tmp 46)] [_] Try.underlying44 size22 zero22 rfl rfl (by decide) (PartsOk.cons (p2 s0 e_w hx (q0 ?b22_0 A W 46 hf)) (PartsOk.nil))
      refine oc0 (fun A W hx hf => ?_) ?_
      exact ok_call1 body10 (c_Sum (q0 ?b22_1 A W 47 hf))
      refine oc0 (fun A W hx hf => ?_) ?_
      exact ok_assign (q0 ?b22_2 A W 48 hf)
      exact OpsOk.nil
     case t22 => exact inferInstance
     clear hr; intro a23 w23 x hr hd hs
     revert s1 s5 s7; refine kp3 hs rfl ?_; intro s1 s5 s7
     clear s0
     have s8 := fa ?b22_2 a23 w23 8 (hd 3 8 rfl)
     replace e_w := e_w.trans x
     replace e_w12 := e_w12.trans x
     have e_w21 := x
     clear hd hs x
     replace s8 := Is.int s8 (show _ = ck l from by simp)
     refine exit_then ?_
     refine wp_seq ?_
     refine wp_reg 70 [[(5, none)], [(49, some 0)], [(50, some 1)], [(8, none), (51, some 2)], [(7, none), (51, some 2)], [(1, none), (51, some 2)], [(52, some 3), (53, some 4), (54, some 5), (51, some 2)], [(1, none), (51, some 2)], [(7, none), (51, some 2)], [(55, some 6), (56, some 7), (57, some 8), (51, some 2)], [(8, none), (51, some 2)], [(58, some 9), (59, some 10), (51, some 2)], [(60, some 11), (51, some 2)], [(8, none), (61, some 12)], [(7, none), (61, some 12)], [(7, none), (61, some 12)], [(62, some 13), (63, some 14), (64, some 15), (61, some 12)], [(8, none), (61, some 12)], [(65, some 16), (66, some 17), (61, some 12)], [(61, some 12), (67, some 18), (51, some 2)], [(51, some 2), (68, some 19)], [(69, some 20)]] [?b24_0, ?b24_1, ?b24_1, ?b24_3, ?b24_4, ?b24_5, ?b24_6, ?b24_7, ?b24_8, ?b24_9, ?b24_10, ?b24_11, ?b24_11, ?b24_13, ?b24_14, ?b24_15, ?b24_16, ?b24_17, ?b24_18, ?b24_19, ?b24_20, ?b24_20] mixed (by kernel_rfl) (by kernel_rfl) hr ?t24 ?o24 ?_
     case o24 =>
      refine oc0 (fun A W hx hf => ?_) ?_
      exact ok_movE (a0 := a23) (r0 hf)
      refine oc0 (fun A W hx hf => ?_) ?_
      exact ok_not (p2 s5 e_w12 hx (q0 ?b24_0 A W 49 hf))
      refine oc0 (fun A W hx hf => ?_) ?_
      exact ok_move (q0 ?b24_1 A W 50 hf)
      refine ocg 51 ?_ (fun A W hx hf => ?_) ?_
      rfl
      exact gd_f (q1 ?b24_1 A W 51 hf) (fun hc => ok_movE (a0 := a23) (r0 hf))
      refine ocg 51 ?_ (fun A W hx hf => ?_) ?_
      rfl
      exact gd_f (q1 ?b24_1 A W 51 hf) (fun hc => ok_movE (a0 := a23) (r0 hf))
      refine ocg 51 ?_ (fun A W hx hf => ?_) ?_
      rfl
      exact gd_f (q1 ?b24_1 A W 51 hf) (fun hc => ok_movE (a0 := a23) (r0 hf))
      refine ocg 51 ?_ (fun A W hx hf => ?_) ?_
      rfl
      exact gd_f (q3 ?b24_1 A W 51 hf) (fun hc => ok_call3 body13 (c_Change (p1 s8 hx (G.get (q0 ?b24_3 A W 52 hf) hc)) (p2 s7 e_w21 hx (G.get (q1 ?b24_4 A W 53 hf) hc)) (p2 s1 e_w hx (G.get (q2 ?b24_5 A W 54 hf) hc)) (by omega) (by omega) (by omega)))
      refine ocg 51 ?_ (fun A W hx hf => ?_) ?_
      rfl
      exact gd_f (q1 ?b24_1 A W 51 hf) (fun hc => ok_movE (a0 := a23) (r0 hf))
      refine ocg 51 ?_ (fun A W hx hf => ?_) ?_
      rfl
      exact gd_f (q1 ?b24_1 A W 51 hf) (fun hc => ok_movE (a0 := a23) (r0 hf))
      refine ocg 51 ?_ (fun A W hx hf => ?_) ?_
      rfl
      exact gd_f (q3 ?b24_1 A W 51 hf) (fun hc => ok_call3 body13 (c_Change (G.get (q0 ?b24_6 A W 55 hf) hc) (p2 s1 e_w hx (G.get (q1 ?b24_7 A W 56 hf) hc)) (p2 s7 e_w21 hx (G.get (q2 ?b24_8 A W 57 hf) hc)) (by omega) (by omega) (by omega)))
      refine ocg 51 ?_ (fun A W hx hf => ?_) ?_
      rfl
      exact gd_f (q1 ?b24_1 A W 51 hf) (fun hc => ok_movE (a0 := a23) (r0 hf))
      refine ocg 51 ?_ (fun A W hx hf => ?_) ?_
      rfl
      exact gd_f (q2 ?b24_1 A W 51 hf) (fun hc => ok_eql (G.get (q0 ?b24_9 A W 58 hf) hc) (p1 s8 hx (G.get (q1 ?b24_10 A W 59 hf) hc)))
      refine ocg 51 ?_ (fun A W hx hf => ?_) ?_
      rfl
      exact gd_f (q1 ?b24_1 A W 51 hf) (fun hc => ok_move (G.get (q0 ?b24_11 A W 60 hf) hc))
      refine ocg 61 ?_ (fun A W hx hf => ?_) ?_
      rfl
      exact gd_gt (q1 ?b24_11 A W 61 hf) (fun hc => ok_movE (a0 := a23) (r0 hf))
      refine ocg 61 ?_ (fun A W hx hf => ?_) ?_
      rfl
      exact gd_gt (q1 ?b24_11 A W 61 hf) (fun hc => ok_movE (a0 := a23) (r0 hf))
      refine ocg 61 ?_ (fun A W hx hf => ?_) ?_
      rfl
      exact gd_gt (q1 ?b24_11 A W 61 hf) (fun hc => ok_movE (a0 := a23) (r0 hf))
      refine ocg 61 ?_ (fun A W hx hf => ?_) ?_
      rfl
      exact gd_gt (q3 ?b24_11 A W 61 hf) (fun hc => ok_call3 body13 (c_Change (p1 s8 hx (G.get (q0 ?b24_13 A W 62 hf) hc)) (p2 s7 e_w21 hx (G.get (q1 ?b24_14 A W 63 hf) hc)) (p2 s7 e_w21 hx (G.get (q2 ?b24_15 A W 64 hf) hc)) (by omega) (by omega) (by omega)))
      refine ocg 61 ?_ (fun A W hx hf => ?_) ?_
      rfl
      exact gd_gt (q1 ?b24_11 A W 61 hf) (fun hc => ok_movE (a0 := a23) (r0 hf))
      refine ocg 61 ?_ (fun A W hx hf => ?_) ?_
      rfl
      exact gd_gt (q2 ?b24_11 A W 61 hf) (fun hc => ok_eql (G.get (q0 ?b24_16 A W 65 hf) hc) (p1 s8 hx (G.get (q1 ?b24_17 A W 66 hf) hc)))
      refine ocg 51 ?_ (fun A W hx hf => ?_) ?_
      rfl
      exact gd_f (q2 ?b24_1 A W 51 hf) (fun hc => ok_and (G.get (q0 ?b24_11 A W 61 hf) hc) (G.strip hc (q1 ?b24_18 A W 67 hf)))
      refine oc0 (fun A W hx hf => ?_) ?_
      exact ok_or (q0 ?b24_1 A W 51 hf) (q1 ?b24_19 A W 68 hf)
      refine oc0 (fun A W hx hf => ?_) ?_
      exact ok_assign (q0 ?b24_20 A W 69 hf)
      exact OpsOk.nil
     case t24 => exact inferInstance
     clear hr; intro a25 w25 x hr hd hs
     clear s1 s5 s7 s8
     have s4 := fa ?b24_20 a25 w25 4 (hd 21 4 rfl)
     replace e_w := e_w.trans x
     clear e_w12
     clear e_w21
     clear hd hs x
     refine exit_then ?_
     refine wp_ret ?_
     refine ret_tmp Try.results5 hr e_w ?_
     first | with_reducible exact s4 | exact Is.bool s4 (by rw [List.take_length]; exact back_end (by omega) hn)

end Go.Proofs.Ytaalllmkjobajaa
