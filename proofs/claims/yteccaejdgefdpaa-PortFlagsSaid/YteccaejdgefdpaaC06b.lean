import Derived.Test.YteccaejdgefdpaaC06a
namespace Go.Proofs.Yteccaejdgefdpaa
open Go.RowKit
set_option linter.unusedVariables false
set_option maxRecDepth 4000
def D_c_rRing_0 : List Tmp := [5, 11, 12]
theorem c_rRing {x0 x1 : Value} {w : World} {a b : Int} (h0 : (Is (.int .i64 a)) x0 w) (h1 : (Is (.int .i64 b)) x1 w) (hab : (0 ≤ a ∧ a ≤ 65535) ∧ 0 ≤ b ∧ b ≤ 65535) :
    Calls Try.prog 38 #[x0, x1] w (Ret (Is (.int .i64 (ringR a b))) w) := by
 refine enter Try.func38 rfl Try.ntmps38 (k := 2) rfl (by decide) (fun a0 hr hargs => ?_)
 have s0 := sarg h0 (hargs 0 (by decide))
 have s1 := sarg h1 (hargs 1 (by decide))
 clear hargs
 refine wp_seq ?_
 refine wp_reg 14 [[]] [?b1_0] mixed (by kernel_rfl) (by kernel_rfl) hr ?t1 ?o1 ?_
 case o1 =>
  refine oc0 (fun A W hx hf => ?_) ?_
  exact ok_assignc
  exact OpsOk.nil
 case t1 => exact inferInstance
 clear hr; intro a2 w2 x hr hd hs
 revert s0 s1; refine kp2 hs rfl ?_; intro s0 s1
 have e_w := x
 clear hd hs x
 refine exit_then ?_
 refine wp_seq ?_
 refine wp_reg 14 [[(0, none)], [(1, none)], [(6, some 0), (7, some 1)], [(8, some 2)]] [?b3_0, ?b3_1, ?b3_2, ?b3_2] mixed (by kernel_rfl) (by kernel_rfl) hr ?t3 ?o3 ?_
 case o3 =>
  refine oc0 (fun A W hx hf => ?_) ?_
  exact ok_movE (a0 := a2) (r0 hf)
  refine oc0 (fun A W hx hf => ?_) ?_
  exact ok_movE (a0 := a2) (r0 hf)
  refine oc0 (fun A W hx hf => ?_) ?_
  exact ok_addI (p2 s0 e_w hx (q0 ?b3_0 A W 6 hf)) (p2 s1 e_w hx (q1 ?b3_1 A W 7 hf)) (by omega)
  refine oc0 (fun A W hx hf => ?_) ?_
  exact ok_assign (q0 ?b3_2 A W 8 hf)
  exact OpsOk.nil
 case t3 => exact inferInstance
 clear hr; intro a4 w4 x hr hd hs
 clear s0 s1
 have s5 := fa ?b3_2 a4 w4 5 (hd 3 5 rfl)
 replace e_w := e_w.trans x
 clear hd hs x
 refine exit_then ?_
 refine wp_seq ?_
 refine wp_seq ?_
 refine wp_reg 14 [[(5, none)], [(9, some 0)]] [?b5_0, ?b5_1] mixed (by kernel_rfl) (by kernel_rfl) hr ?t5 ?o5 ?_
 case o5 =>
  refine oc0 (fun A W hx hf => ?_) ?_
  exact ok_movE (a0 := a4) (r0 hf)
  refine oc0 (fun A W hx hf => ?_) ?_
  exact ok_gtr (p1 s5 hx (q0 ?b5_0 A W 9 hf)) (ec A (.int .i64 65535))
  exact OpsOk.nil
 case t5 => exact inferInstance
 clear hr; intro a6 w6 x hr hd hs
 revert s5; refine kp1 hs rfl ?_; intro s5
 have s10 := fa ?b5_1 a6 w6 10 (hd 1 10 rfl)
 replace e_w := e_w.trans x
 have e_w4 := x
 clear hd hs x
 refine exit_then ?_
 refine wp_cut (fun A W => Fr 14 A ∧ Same D_c_rRing_0 a6 A ∧ Ext w W ∧ (Is (.int .i64 (ringR a b))) (A.eval (.tmp 5)) W) ?cut7 ?_
 case cut7 =>
  have m7 : Same D_c_rRing_0 a6 a6 := Same.rfl
  refine wp_cond_split (show _ = _ from s10) (fun hg => ?_) (fun hg => ?_)
  · skip
    have hg : a + b > 65535 := by simpa using hg
    refine wp_reg 14 [[(5, none)], [(11, some 0)], [(12, some 1)]] [?b9_0, ?b9_1, ?b9_1] mixed (by kernel_rfl) (by kernel_rfl) hr ?t9 ?o9 ?_
    case o9 =>
     refine oc0 (fun A W hx hf => ?_) ?_
     exact ok_movE (a0 := a6) (r0 hf)
     refine oc0 (fun A W hx hf => ?_) ?_
     exact ok_subI (p2 s5 e_w4 hx (q0 ?b9_0 A W 11 hf)) (ec A (.int .i64 65535)) (by omega)
     refine oc0 (fun A W hx hf => ?_) ?_
     exact ok_assign (q0 ?b9_1 A W 12 hf)
     exact OpsOk.nil
    case t9 => exact inferInstance
    clear hr; intro a10 w10 x hr hd hs
    clear s5 s10
    have s5 := fa ?b9_1 a10 w10 5 (hd 2 5 rfl)
    replace e_w := e_w.trans x
    clear e_w4
    replace m7 := m7.tr hs rfl
    clear hd hs x
    refine exit_then ?_
    refine ⟨hr, m7, e_w, ?_⟩
    · first | exact Is.int s5 (by unfold ringR; rw [if_pos hg]) | exact Is.int s5 (by unfold ringR; rw [if_neg hg])
  · skip
    have hg : ¬ a + b > 65535 := by simpa using hg
    refine wp_skip ?_
    refine exit_then ?_
    refine ⟨hr, m7, e_w, ?_⟩
    · first | exact Is.int (later e_w4 s5) (by unfold ringR; rw [if_pos hg]) | exact Is.int (later e_w4 s5) (by unfold ringR; rw [if_neg hg])
 intro a7 w7 hI
 clear e_w
 clear e_w4
 clear hr; obtain ⟨hr, hs, e_w, u5⟩ := hI
 clear s5 s10
 have s5 := u5; clear u5
 clear hs
 refine wp_seq ?_
 refine wp_reg 14 [[(5, none)], [(13, some 0)]] [?b11_0, ?b11_0] mixed (by kernel_rfl) (by kernel_rfl) hr ?t11 ?o11 ?_
 case o11 =>
  refine oc0 (fun A W hx hf => ?_) ?_
  exact ok_movE (a0 := a7) (r0 hf)
  refine oc0 (fun A W hx hf => ?_) ?_
  exact ok_assign (q0 ?b11_0 A W 13 hf)
  exact OpsOk.nil
 case t11 => exact inferInstance
 clear hr; intro a12 w12 x hr hd hs
 have u4 := mv s5 (fa ?b11_0 a12 w12 4 (hd 1 4 rfl))
 clear s5
 have s4 := u4; clear u4
 replace e_w := e_w.trans x
 have e_w7 := x
 clear hd hs x
 refine exit_then ?_
 refine wp_ret ?_
 refine ret_tmp Try.results38 hr e_w ?_
 first | exact (later e_w7 s4) | exact Is.int (later e_w7 s4) (by omega) | exact Is.bool (later e_w7 s4) (by omega)

def D_c_rWords_0 : List Tmp := [3, 4, 5, 6, 7, 8, 9, 10, 11, 12, 13, 14, 15, 16, 17, 18, 19, 20, 21, 22, 23, 24, 25, 26, 27, 28, 29, 30, 31, 32, 33, 34]
def D_c_rWords_1 : List Tmp := [5, 23, 24, 25, 26, 27, 28, 29, 30]
theorem c_rWords {x0 : Value} {w : World} {l : List UInt8} (h0 : (Bs l) x0 w) (hn : l.length ≤ 1000000000000) :
    Calls Try.prog 37 #[x0] w (Ret (Ns .i64 (words l)) w) := by
 refine enter Try.func37 rfl Try.ntmps37 (k := 1) rfl (by decide) (fun a0 hr hargs => ?_)
 have s0 := sarg h0 (hargs 0 (by decide))
 clear hargs
 refine wp_seq ?_
 refine wp_reg 36 [[]] [?b1_0] mixed (by kernel_rfl) (by kernel_rfl) hr ?t1 ?o1 ?_
 case o1 =>
  refine oc0 (fun A W hx hf => ?_) ?_
  exact ok_assignv (Ns .i64 []) (fun _ => ns_nil)
  exact OpsOk.nil
 case t1 => exact inferInstance
 clear hr; intro a2 w2 x hr hd hs
 revert s0; refine kp1 hs rfl ?_; intro s0
 have e_w := x
 clear hd hs x
 refine exit_then ?_
 refine wp_seq ?_
 refine wp_reg 36 [[]] [?b3_0] mixed (by kernel_rfl) (by kernel_rfl) hr ?t3 ?o3 ?_
 case o3 =>
  refine oc0 (fun A W hx hf => ?_) ?_
  exact ok_assignv (OwnN w2.heap.size 3 .i64 []) (fun _ => ownN_nil)
  exact OpsOk.nil
 case t3 => exact inferInstance
 clear hr; intro a4 w4 x hr hd hs
 have z_w_w2 := e_w.size
 revert s0; refine kp1 hs rfl ?_; intro s0
 have s3 := fa ?b3_0 a4 w4 3 (hd 0 3 rfl)
 replace e_w := e_w.trans x
 have e_w2 := x
 clear hd hs x
 refine exit_then ?_
 refine wp_seq ?_
 refine wp_seq ?_
 refine wp_reg 36 [[]] [?b5_0] mixed (by kernel_rfl) (by kernel_rfl) hr ?t5 ?o5 ?_
 case o5 =>
  refine oc0 (fun A W hx hf => ?_) ?_
  exact ok_assignc
  exact OpsOk.nil
 case t5 => exact inferInstance
 clear hr; intro a6 w6 x hr hd hs
 revert s0 s3; refine kp2 hs rfl ?_; intro s0 s3
 have s4 := fa ?b5_0 a6 w6 4 (hd 0 4 rfl)
 replace e_w := e_w.trans x
 replace e_w2 := e_w2.trans x
 have e_w4 := x
 clear hd hs x
 refine exit_then ?_
 refine wp_block ?_
 refine wp_loop_inv (fun n A W => ∃ (k : Nat), n = l.length + 1 - 2 * k ∧ Fr 36 A ∧ Same D_c_rWords_0 a6 A ∧ Ext w W ∧ Ext w2 W ∧ (2 * k ≤ l.length + 1) ∧ (OwnN w2.heap.size 3 .i64 ((words l).take k)) (A.eval (.tmp 3)) W ∧ (Is (.int .i64 ((2 * k : Nat) : Int))) (A.eval (.tmp 4)) W) ?start7 ?_
 case start7 =>
  refine ⟨_, 0, rfl, hr, Same.rfl, e_w, e_w2, (by first | assumption | omega), ?_, ?_⟩
  · exact (later e_w4 s3)
  · exact s4
 intro n7 a7 w7 hI
 clear e_w
 clear e_w2
 clear e_w4
 clear hr; obtain ⟨k, hn7, hr, hs, e_w, e_w2, hk, u3, u4⟩ := hI
 revert s0; refine kp1 hs rfl ?_; intro s0
 clear s3 s4
 have s3 := u3; clear u3
 have s4 := u4; clear u4
 have m7 := hs; clear hs
 refine wp_seq ?_
 refine wp_seq ?_
 refine wp_reg 36 [[(4, none)], [(0, none)], [(7, some 1)], [(6, some 0), (8, some 2)]] [?b8_0, ?b8_1, ?b8_2, ?b8_3] mixed (by kernel_rfl) (by kernel_rfl) hr ?t8 ?o8 ?_
 case o8 =>
  refine oc0 (fun A W hx hf => ?_) ?_
  exact ok_movE (a0 := a7) (r0 hf)
  refine oc0 (fun A W hx hf => ?_) ?_
  exact ok_movE (a0 := a7) (r0 hf)
  refine oc0 (fun A W hx hf => ?_) ?_
  exact ok_len_bs Try.underlying22 (p2 s0 e_w hx (q0 ?b8_1 A W 7 hf))
  refine oc0 (fun A W hx hf => ?_) ?_
  exact ok_lss (p1 s4 hx (q0 ?b8_0 A W 6 hf)) (q1 ?b8_2 A W 8 hf)
  exact OpsOk.nil
 case t8 => exact inferInstance
 clear hr; intro a9 w9 x hr hd hs
 revert s0 s3 s4; refine kp3 hs rfl ?_; intro s0 s3 s4
 have s9 := fa ?b8_3 a9 w9 9 (hd 3 9 rfl)
 replace e_w := e_w.trans x
 replace e_w2 := e_w2.trans x
 have e_w7 := x
 replace m7 := m7.tr hs rfl
 clear hd hs x
 refine exit_then ?_
 refine wp_cond_split (show _ = _ from s9) (fun hlt => ?_) (fun hlt => ?_)
 · skip
   have hlt : 2 * k < l.length := by simp at hlt; omega
   have hz := byte_bd l[2 * k]
   refine wp_skip ?_
   refine exit_then ?_
   refine wp_seq ?_
   refine wp_block ?_
   refine wp_seq ?_
   refine wp_reg 36 [[(0, none)], [(4, none)], [(12, some 0), (13, some 1)], [(14, some 2)], [(15, some 3)], [(16, some 4)], [(17, some 5)]] [?b11_0, ?b11_1, ?b11_2, ?b11_3, ?b11_4, ?b11_5, ?b11_5] mixed (by kernel_rfl) (by kernel_rfl) hr ?t11 ?o11 ?_
   case o11 =>
    refine oc0 (fun A W hx hf => ?_) ?_
    exact ok_movE (a0 := a9) (r0 hf)
    refine oc0 (fun A W hx hf => ?_) ?_
    exact ok_movE (a0 := a9) (r0 hf)
    refine oc0 (fun A W hx hf => ?_) ?_
    exact ok_index_bs (_) Try.underlying22 size5 (p2 s0 e_w hx (q0 ?b11_0 A W 12 hf)) (p2 s4 e_w7 hx (q1 ?b11_1 A W 13 hf)) (by first | omega | decide | (simp; done) | (simp; omega))
    refine oc0 (fun A W hx hf => ?_) ?_
    exact ok_loadp Try.underlying5 rfl (q0 ?b11_2 A W 14 hf)
    refine oc0 (fun A W hx hf => ?_) ?_
    exact ok_convB Try.underlying5 Try.underlying3 (by decide) (q0 ?b11_3 A W 15 hf)
    refine oc0 (fun A W hx hf => ?_) ?_
    exact ok_mulI (ec A (.int .i64 256)) (q0 ?b11_4 A W 16 hf) (by omega)
    refine oc0 (fun A W hx hf => ?_) ?_
    exact ok_assign (q0 ?b11_5 A W 17 hf)
    exact OpsOk.nil
   case t11 => exact inferInstance
   clear hr; intro a12 w12 x hr hd hs
   revert s0 s3 s4; refine kp3 hs rfl ?_; intro s0 s3 s4
   clear s9
   have s5 := fa ?b11_5 a12 w12 5 (hd 6 5 rfl)
   replace e_w := e_w.trans x
   replace e_w2 := e_w2.trans x
   replace e_w7 := e_w7.trans x
   replace m7 := m7.tr hs rfl
   clear hd hs x
   refine exit_then ?_
   refine wp_seq ?_
   refine wp_seq ?_
   refine wp_reg 36 [[(4, none)], [(18, some 0)], [(0, none)], [(20, some 2)], [(19, some 1), (21, some 3)]] [?b13_0, ?b13_1, ?b13_2, ?b13_3, ?b13_4] mixed (by kernel_rfl) (by kernel_rfl) hr ?t13 ?o13 ?_
   case o13 =>
    refine oc0 (fun A W hx hf => ?_) ?_
    exact ok_movE (a0 := a12) (r0 hf)
    refine oc0 (fun A W hx hf => ?_) ?_
    exact ok_addI (p2 s4 e_w7 hx (q0 ?b13_0 A W 18 hf)) (ec A (.int .i64 1)) (by omega)
    refine oc0 (fun A W hx hf => ?_) ?_
    exact ok_movE (a0 := a12) (r0 hf)
    refine oc0 (fun A W hx hf => ?_) ?_
    exact ok_len_bs Try.underlying22 (p2 s0 e_w hx (q0 ?b13_2 A W 20 hf))
    refine oc0 (fun A W hx hf => ?_) ?_
    exact ok_lss (q0 ?b13_1 A W 19 hf) (q1 ?b13_3 A W 21 hf)
    exact OpsOk.nil
   case t13 => exact inferInstance
   clear hr; intro a14 w14 x hr hd hs
   revert s0 s3 s4 s5; refine kp4 hs rfl ?_; intro s0 s3 s4 s5
   have s22 := fa ?b13_4 a14 w14 22 (hd 4 22 rfl)
   replace e_w := e_w.trans x
   replace e_w2 := e_w2.trans x
   replace e_w7 := e_w7.trans x
   have e_w12 := x
   replace m7 := m7.tr hs rfl
   clear hd hs x
   refine exit_then ?_
   refine wp_cut (fun A W => Fr 36 A ∧ Same D_c_rWords_1 a14 A ∧ Ext w W ∧ Ext w2 W ∧ Ext w7 W ∧ (Is (.int .i64 (wordAt l (2 * k)))) (A.eval (.tmp 5)) W) ?cut15 ?_
   case cut15 =>
    have m15 : Same D_c_rWords_1 a14 a14 := Same.rfl
    refine wp_cond_split (show _ = _ from s22) (fun h1 => ?_) (fun h1 => ?_)
    · skip
      have h1 : 2 * k + 1 < l.length := by simp at h1; omega
      have hz1 := byte_bd l[2 * k + 1]
      refine wp_reg 36 [[(5, none)], [(0, none)], [(4, none)], [(25, some 2)], [(24, some 1), (26, some 3)], [(27, some 4)], [(28, some 5)], [(23, some 0), (29, some 6)], [(30, some 7)]] [?b17_0, ?b17_1, ?b17_2, ?b17_3, ?b17_4, ?b17_5, ?b17_6, ?b17_7, ?b17_7] mixed (by kernel_rfl) (by kernel_rfl) hr ?t17 ?o17 ?_
      case o17 =>
       refine oc0 (fun A W hx hf => ?_) ?_
       exact ok_movE (a0 := a14) (r0 hf)
       refine oc0 (fun A W hx hf => ?_) ?_
       exact ok_movE (a0 := a14) (r0 hf)
       refine oc0 (fun A W hx hf => ?_) ?_
       exact ok_movE (a0 := a14) (r0 hf)
       refine oc0 (fun A W hx hf => ?_) ?_
       exact ok_addI (p2 s4 e_w7 hx (q0 ?b17_2 A W 25 hf)) (ec A (.int .i64 1)) (by omega)
       refine oc0 (fun A W hx hf => ?_) ?_
       exact ok_index_bs (2 * k + 1) Try.underlying22 size5 (p2 s0 e_w hx (q0 ?b17_1 A W 24 hf)) (Is.int (q1 ?b17_3 A W 26 hf) (by omega)) (by first | omega | decide | (simp; done) | (simp; omega))
       refine oc0 (fun A W hx hf => ?_) ?_
       exact ok_loadp Try.underlying5 rfl (q0 ?b17_4 A W 27 hf)
       refine oc0 (fun A W hx hf => ?_) ?_
       exact ok_convB Try.underlying5 Try.underlying3 (by decide) (q0 ?b17_5 A W 28 hf)
       refine oc0 (fun A W hx hf => ?_) ?_
       exact ok_addI (p2 s5 e_w12 hx (q0 ?b17_0 A W 23 hf)) (q1 ?b17_6 A W 29 hf) (by omega)
       refine oc0 (fun A W hx hf => ?_) ?_
       exact ok_assign (q0 ?b17_7 A W 30 hf)
       exact OpsOk.nil
      case t17 => exact inferInstance
      clear hr; intro a18 w18 x hr hd hs
      revert s0 s3 s4; refine kp3 hs rfl ?_; intro s0 s3 s4
      clear s5 s22
      have s5 := fa ?b17_7 a18 w18 5 (hd 8 5 rfl)
      replace e_w := e_w.trans x
      replace e_w2 := e_w2.trans x
      replace e_w7 := e_w7.trans x
      clear e_w12
      replace m7 := m7.tr hs rfl
      replace m15 := m15.tr hs rfl
      clear hd hs x
      refine exit_then ?_
      refine ⟨hr, m15, e_w, e_w2, e_w7, ?_⟩
      · first | exact Is.int s5 (by unfold wordAt; rw [byteAt_get hlt, byteAt_get h1]) | exact Is.int s5 (by unfold wordAt; rw [byteAt_get hlt, byteAt_out h1]; omega)
    · skip
      have h1 : l.length ≤ 2 * k + 1 := by simp at h1; omega
      refine wp_skip ?_
      refine exit_then ?_
      refine ⟨hr, m15, e_w, e_w2, e_w7, ?_⟩
      · first | exact Is.int (later e_w12 s5) (by unfold wordAt; rw [byteAt_get hlt, byteAt_get h1]) | exact Is.int (later e_w12 s5) (by unfold wordAt; rw [byteAt_get hlt, byteAt_out h1]; omega)
   intro a15 w15 hI
   clear e_w
   clear e_w2
   clear e_w7
   clear e_w12
   clear hr; obtain ⟨hr, hs, e_w, e_w2, e_w7, u5⟩ := hI
   revert s0 s3 s4; refine kp3 hs rfl ?_; intro s0 s3 s4
   clear s5 s22
   have s5 := u5; clear u5
   replace m7 := m7.tr hs rfl
   clear hs
   refine wp_reg_pre (l := [_, _, _]) (rest := [_, _]) 36 [[(3, none)], [(5, none)], [(32, some 1)]] [?b19_0, ?b19_1, ?b19_2] (by kernel_rfl) (by kernel_rfl) hr ?t19 ?o19 ?_
   case o19 =>
    refine oc0 (fun A W hx hf => ?_) ?_
    exact ok_movE (a0 := a15) (r0 hf)
    refine oc0 (fun A W hx hf => ?_) ?_
    exact ok_movE (a0 := a15) (r0 hf)
    refine oc0 (fun A W hx hf => ?_) ?_
    exact ok_buildNs [(.tmp 32)] [_] Try.underlying65 size3 zero3 rfl rfl (by decide) (PartsOk.cons (p1 s5 hx (q0 ?b19_1 A W 32 hf)) (PartsOk.nil))
    exact OpsOk.nil
   case t19 => exact inferInstance
   clear hr; intro a20 w20 x hr hd hs
   have u31 := mv s3 (fa ?b19_0 a20 w20 31 (hd 0 31 rfl))
   revert s0 s3 s4; refine kp3 hs rfl ?_; intro s0 s3 s4
   clear s5
   have s31 := u31; clear u31
   have s33 := fa ?b19_2 a20 w20 33 (hd 2 33 rfl)
   replace e_w := e_w.trans x
   replace e_w2 := e_w2.trans x
   replace e_w7 := e_w7.trans x
   replace m7 := m7.tr hs rfl
   clear hd hs x
   refine wl_append_ns hr (by decide) Try.underlying65 info3 rfl (later e_w7 s31) s33 e_w2.size (by simp [words_len]; omega) ?_; clear hr; intro a21 w21 hb hr hd hs
   revert s0 s3 s4; refine kp3 hs rfl ?_; intro s0 s3 s4
   clear s31 s33
   have s34 := hd
   replace e_w := e_w.below z_w_w2 hb
   replace e_w2 := e_w2.below (Nat.le_refl _) hb
   clear e_w7
   replace s4 := anyw (w2 := w21) s4
   replace m7 := m7.tr hs rfl
   clear hd hs hb
   refine wl_op hr (ok_assign s34) inferInstance ?_; clear hr; intro a22 w22 x hr hd hs
   revert s0 s4; refine kp2 hs rfl ?_; intro s0 s4
   clear s34
   have s3 := hd 3 rfl (by decide)
   replace e_w := e_w.trans x
   replace e_w2 := e_w2.trans x
   have e_w21 := x
   replace m7 := m7.tr hs rfl
   clear hd hs x
   refine wpList_nil ?_
   refine blk_normal ?_
   refine exit_then ?_
   refine wp_reg 36 [[(4, none)], [(10, some 0)], [(11, some 1)]] [?b23_0, ?b23_1, ?b23_1] mixed (by kernel_rfl) (by kernel_rfl) hr ?t23 ?o23 ?_
   case o23 =>
    refine oc0 (fun A W hx hf => ?_) ?_
    exact ok_movE (a0 := a22) (r0 hf)
    refine oc0 (fun A W hx hf => ?_) ?_
    exact ok_addI (p2 s4 e_w21 hx (q0 ?b23_0 A W 10 hf)) (ec A (.int .i64 2)) (by omega)
    refine oc0 (fun A W hx hf => ?_) ?_
    exact ok_assign (q0 ?b23_1 A W 11 hf)
    exact OpsOk.nil
   case t23 => exact inferInstance
   clear hr; intro a24 w24 x hr hd hs
   revert s0 s3; refine kp2 hs rfl ?_; intro s0 s3
   clear s4
   have s4 := fa ?b23_1 a24 w24 4 (hd 2 4 rfl)
   replace e_w := e_w.trans x
   replace e_w2 := e_w2.trans x
   clear e_w21
   have e_w22 := x
   replace m7 := m7.tr hs rfl
   clear hd hs x
   refine exit_then ?_
   refine ⟨(fun (k : Nat) => l.length + 1 - 2 * k) (k + 1), ?_, ?_⟩
   · (try dsimp only); omega
   refine ⟨k + 1, rfl, hr, m7, e_w, e_w2, (by first | assumption | omega), ?_, ?_⟩
   · rw [words_take l k hlt]; exact (later e_w22 s3)
   · exact Is.int s4 (by omega)
 · skip
   have hge : l.length ≤ 2 * k := by simp at hlt; omega
   refine wp_exit ?_
   refine then_exit ?_
   refine then_exit ?_
   refine blk_exit ?_
   refine exit_then ?_
   refine wp_seq ?_
   refine wp_reg 36 [[(3, none)], [(35, some 0)]] [?b25_0, ?b25_0] mixed (by kernel_rfl) (by kernel_rfl) hr ?t25 ?o25 ?_
   case o25 =>
    refine oc0 (fun A W hx hf => ?_) ?_
    exact ok_movE (a0 := a9) (r0 hf)
    refine oc0 (fun A W hx hf => ?_) ?_
    exact ok_assign (q0 ?b25_0 A W 35 hf)
    exact OpsOk.nil
   case t25 => exact inferInstance
   clear hr; intro a26 w26 x hr hd hs
   have u2 := mv s3 (fa ?b25_0 a26 w26 2 (hd 1 2 rfl))
   clear s0 s3 s4 s9
   have s2 := u2; clear u2
   replace e_w := e_w.trans x
   replace e_w2 := e_w2.trans x
   replace e_w7 := e_w7.trans x
   clear hd hs x
   refine exit_then ?_
   refine wp_ret ?_
   refine ret_tmp Try.results37 hr e_w ?_
   (rw [words_all l k hge] at s2; exact OwnN.ns (later e_w7 s2))

def D_c_rSum_0 : List Tmp := [4, 5, 8, 9, 10, 11, 12, 13, 14, 15, 16, 17, 18, 19]
theorem c_rSum {x0 : Value} {w : World} {l : List UInt8} (h0 : (Bs l) x0 w) (hn : l.length ≤ 1000000000000) :
    Calls Try.prog 32 #[x0] w (Ret (Is (.int .i64 (ck l))) w) := by
 have hwl := words_len l
 refine enter Try.func32 rfl Try.ntmps32 (k := 1) rfl (by decide) (fun a0 hr hargs => ?_)
 have s0 := sarg h0 (hargs 0 (by decide))
 clear hargs
 refine wp_seq ?_
 refine wp_reg 22 [[]] [?b1_0] mixed (by kernel_rfl) (by kernel_rfl) hr ?t1 ?o1 ?_
 case o1 =>
  refine oc0 (fun A W hx hf => ?_) ?_
  exact ok_assignc
  exact OpsOk.nil
 case t1 => exact inferInstance
 clear hr; intro a2 w2 x hr hd hs
 revert s0; refine kp1 hs rfl ?_; intro s0
 have e_w := x
 clear hd hs x
 refine exit_then ?_
 refine wp_seq ?_
 refine wp_reg 22 [[(0, none)], [(6, some 0)], [(7, some 1)]] [?b3_0, ?b3_1, ?b3_1] mixed (by kernel_rfl) (by kernel_rfl) hr ?t3 ?o3 ?_
 case o3 =>
  refine oc0 (fun A W hx hf => ?_) ?_
  exact ok_movE (a0 := a2) (r0 hf)
  refine oc0 (fun A W hx hf => ?_) ?_
  exact ok_call1 body37 (c_rWords (p2 s0 e_w hx (q0 ?b3_0 A W 6 hf)) (by omega))
  refine oc0 (fun A W hx hf => ?_) ?_
  exact ok_assign (q0 ?b3_1 A W 7 hf)
  exact OpsOk.nil
 case t3 => exact inferInstance
 clear hr; intro a4 w4 x hr hd hs
 clear s0
 have s3 := fa ?b3_1 a4 w4 3 (hd 2 3 rfl)
 replace e_w := e_w.trans x
 clear hd hs x
 refine exit_then ?_
 refine wp_seq ?_
 refine wp_reg 22 [[]] [?b5_0] mixed (by kernel_rfl) (by kernel_rfl) hr ?t5 ?o5 ?_
 case o5 =>
  refine oc0 (fun A W hx hf => ?_) ?_
  exact ok_assignc
  exact OpsOk.nil
 case t5 => exact inferInstance
 clear hr; intro a6 w6 x hr hd hs
 revert s3; refine kp1 hs rfl ?_; intro s3
 have s4 := fa ?b5_0 a6 w6 4 (hd 0 4 rfl)
 replace e_w := e_w.trans x
 have e_w4 := x
 clear hd hs x
 refine exit_then ?_
 refine wp_seq ?_
 refine wp_seq ?_
 refine wp_reg 22 [[]] [?b7_0] mixed (by kernel_rfl) (by kernel_rfl) hr ?t7 ?o7 ?_
 case o7 =>
  refine oc0 (fun A W hx hf => ?_) ?_
  exact ok_assignc
  exact OpsOk.nil
 case t7 => exact inferInstance
 clear hr; intro a8 w8 x hr hd hs
 revert s3 s4; refine kp2 hs rfl ?_; intro s3 s4
 have s5 := fa ?b7_0 a8 w8 5 (hd 0 5 rfl)
 replace e_w := e_w.trans x
 replace e_w4 := e_w4.trans x
 have e_w6 := x
 clear hd hs x
 refine exit_then ?_
 refine wp_block ?_
 refine wp_loop_inv (fun n A W => ∃ (k : Nat), n = (words l).length - k ∧ Fr 22 A ∧ Same D_c_rSum_0 a8 A ∧ Ext w W ∧ Ext w4 W ∧ (k ≤ (words l).length) ∧ (Is (.int .i64 (norm (sumTo l k)))) (A.eval (.tmp 4)) W ∧ (Is (.int .i64 (k : Int))) (A.eval (.tmp 5)) W) ?start9 ?_
 case start9 =>
  refine ⟨_, 0, rfl, hr, Same.rfl, e_w, e_w4, (by first | assumption | omega), ?_, ?_⟩
  · exact (later e_w6 s4)
  · exact s5
 intro n9 a9 w9 hI
 clear e_w
 clear e_w4
 clear e_w6
 clear hr; obtain ⟨k, hn9, hr, hs, e_w, e_w4, hk, u4, u5⟩ := hI
 revert s3; refine kp1 hs rfl ?_; intro s3
 clear s4 s5
 have s4 := u4; clear u4
 have s5 := u5; clear u5
 have m9 := hs; clear hs
 refine wp_seq ?_
 refine wp_seq ?_
 refine wp_reg 22 [[(5, none)], [(3, none)], [(9, some 1)], [(8, some 0), (10, some 2)]] [?b10_0, ?b10_1, ?b10_2, ?b10_3] mixed (by kernel_rfl) (by kernel_rfl) hr ?t10 ?o10 ?_
 case o10 =>
  refine oc0 (fun A W hx hf => ?_) ?_
  exact ok_movE (a0 := a9) (r0 hf)
  refine oc0 (fun A W hx hf => ?_) ?_
  exact ok_movE (a0 := a9) (r0 hf)
  refine oc0 (fun A W hx hf => ?_) ?_
  exact ok_len_ns Try.underlying65 (p2 s3 e_w4 hx (q0 ?b10_1 A W 9 hf))
  refine oc0 (fun A W hx hf => ?_) ?_
  exact ok_lss (p1 s5 hx (q0 ?b10_0 A W 8 hf)) (q1 ?b10_2 A W 10 hf)
  exact OpsOk.nil
 case t10 => exact inferInstance
 clear hr; intro a11 w11 x hr hd hs
 revert s3 s4 s5; refine kp3 hs rfl ?_; intro s3 s4 s5
 have s11 := fa ?b10_3 a11 w11 11 (hd 3 11 rfl)
 replace e_w := e_w.trans x
 replace e_w4 := e_w4.trans x
 have e_w9 := x
 replace m9 := m9.tr hs rfl
 clear hd hs x
 refine exit_then ?_
 refine wp_cond_split (show _ = _ from s11) (fun hlt => ?_) (fun hlt => ?_)
 · skip
   have hlt : k < (words l).length := by simp at hlt; omega
   refine wp_skip ?_
   refine exit_then ?_
   refine wp_seq ?_
   refine wp_block ?_
   refine wp_reg 22 [[(4, none)], [(3, none)], [(5, none)], [(15, some 1), (16, some 2)], [(17, some 3)], [(14, some 0), (18, some 4)], [(19, some 5)]] [?b13_0, ?b13_1, ?b13_2, ?b13_3, ?b13_4, ?b13_5, ?b13_5] mixed (by kernel_rfl) (by kernel_rfl) hr ?t13 ?o13 ?_
   case o13 =>
    refine oc0 (fun A W hx hf => ?_) ?_
    exact ok_movE (a0 := a11) (r0 hf)
    refine oc0 (fun A W hx hf => ?_) ?_
    exact ok_movE (a0 := a11) (r0 hf)
    refine oc0 (fun A W hx hf => ?_) ?_
    exact ok_movE (a0 := a11) (r0 hf)
    refine oc0 (fun A W hx hf => ?_) ?_
    exact ok_index_ns (_) Try.underlying65 size3 (p2 s3 e_w4 hx (q0 ?b13_1 A W 15 hf)) (p2 s5 e_w9 hx (q1 ?b13_2 A W 16 hf)) (by first | omega | decide | (simp; done) | (simp; omega))
    refine oc0 (fun A W hx hf => ?_) ?_
    exact ok_loadp Try.underlying3 rfl (q0 ?b13_3 A W 17 hf)
    refine oc0 (fun A W hx hf => ?_) ?_
    exact ok_call2 body38 (c_rRing (p2 s4 e_w9 hx (q0 ?b13_0 A W 14 hf)) (q1 ?b13_4 A W 18 hf) (by exact ⟨norm_bd _, by rw [words_get l k hlt]; exact wordAt_bd l _⟩))
    refine oc0 (fun A W hx hf => ?_) ?_
    exact ok_assign (q0 ?b13_5 A W 19 hf)
    exact OpsOk.nil
   case t13 => exact inferInstance
   clear hr; intro a14 w14 x hr hd hs
   revert s3 s5; refine kp2 hs rfl ?_; intro s3 s5
   clear s4 s11
   have s4 := fa ?b13_5 a14 w14 4 (hd 6 4 rfl)
   replace e_w := e_w.trans x
   replace e_w4 := e_w4.trans x
   replace e_w9 := e_w9.trans x
   replace m9 := m9.tr hs rfl
   clear hd hs x
   refine blk_normal ?_
   refine exit_then ?_
   refine wp_reg 22 [[(5, none)], [(12, some 0)], [(13, some 1)]] [?b15_0, ?b15_1, ?b15_1] mixed (by kernel_rfl) (by kernel_rfl) hr ?t15 ?o15 ?_
   case o15 =>
    refine oc0 (fun A W hx hf => ?_) ?_
    exact ok_movE (a0 := a14) (r0 hf)
    refine oc0 (fun A W hx hf => ?_) ?_
    exact ok_addI (p2 s5 e_w9 hx (q0 ?b15_0 A W 12 hf)) (ec A (.int .i64 1)) (by omega)
    refine oc0 (fun A W hx hf => ?_) ?_
    exact ok_assign (q0 ?b15_1 A W 13 hf)
    exact OpsOk.nil
   case t15 => exact inferInstance
   clear hr; intro a16 w16 x hr hd hs
   revert s3 s4; refine kp2 hs rfl ?_; intro s3 s4
   clear s5
   have s5 := fa ?b15_1 a16 w16 5 (hd 2 5 rfl)
   replace e_w := e_w.trans x
   replace e_w4 := e_w4.trans x
   clear e_w9
   have e_w14 := x
   replace m9 := m9.tr hs rfl
   clear hd hs x
   refine exit_then ?_
   refine ⟨(fun (k : Nat) => (words l).length - k) (k + 1), ?_, ?_⟩
   · (try dsimp only); omega
   refine ⟨k + 1, rfl, hr, m9, e_w, e_w4, (by first | assumption | omega), ?_, ?_⟩
   · exact Is.int (later e_w14 s4) (by rw [words_get l k hlt]; exact ringR_norm (sumTo_nonneg l k) (wordAt_bd l _).1 (wordAt_bd l _).2)
   · first | exact s5 | exact Is.int s5 (by first | omega | simp) | exact Is.bool s5 (by first | omega | simp)
 · skip
   have hge : k = (words l).length := by simp at hlt; omega
   subst hge
   refine wp_exit ?_
   refine then_exit ?_
   refine then_exit ?_
   refine blk_exit ?_
   refine exit_then ?_
   refine wp_seq ?_
   have hb := norm_bd (sumTo l (words l).length)
   refine wp_reg 22 [[(4, none)], [(20, some 0)], [(21, some 1)]] [?b17_0, ?b17_1, ?b17_1] mixed (by kernel_rfl) (by kernel_rfl) hr ?t17 ?o17 ?_
   case o17 =>
    refine oc0 (fun A W hx hf => ?_) ?_
    exact ok_movE (a0 := a11) (r0 hf)
    refine oc0 (fun A W hx hf => ?_) ?_
    exact ok_subI (ec A (.int .i64 65535)) (p2 s4 e_w9 hx (q0 ?b17_0 A W 20 hf)) (by omega)
    refine oc0 (fun A W hx hf => ?_) ?_
    exact ok_assign (q0 ?b17_1 A W 21 hf)
    exact OpsOk.nil
   case t17 => exact inferInstance
   clear hr; intro a18 w18 x hr hd hs
   clear s3 s4 s5 s11
   have s2 := fa ?b17_1 a18 w18 2 (hd 2 2 rfl)
   replace e_w := e_w.trans x
   clear e_w4
   clear e_w9
   clear hd hs x
   refine exit_then ?_
   refine wp_ret ?_
   refine ret_tmp Try.results32 hr e_w ?_
   exact Is.int s2 (ck_sumTo l)

theorem c_Same {x0 x1 : Value} {w : World} {l m : List UInt8} (h0 : (Bs l) x0 w) (h1 : (Bs m) x1 w)  :
    Calls Try.prog 18 #[x0, x1] w (Ret (Is (.bool (l == m))) w) := by
 refine enter Try.func18 rfl Try.ntmps18 (k := 2) rfl (by decide) (fun a0 hr hargs => ?_)
 have s0 := sarg h0 (hargs 0 (by decide))
 have s1 := sarg h1 (hargs 1 (by decide))
 clear hargs
 refine wp_seq ?_
 refine wp_reg 10 [[]] [?b1_0] mixed (by kernel_rfl) (by kernel_rfl) hr ?t1 ?o1 ?_
 case o1 =>
  refine oc0 (fun A W hx hf => ?_) ?_
  exact ok_assignc
  exact OpsOk.nil
 case t1 => exact inferInstance
 clear hr; intro a2 w2 x hr hd hs
 revert s0 s1; refine kp2 hs rfl ?_; intro s0 s1
 have e_w := x
 clear hd hs x
 refine exit_then ?_
 refine wp_seq ?_
 refine wp_reg 10 [[(0, none)], [(5, some 0)], [(1, none)], [(7, some 2)], [(6, some 1), (8, some 3)], [(9, some 4)]] [?b3_0, ?b3_1, ?b3_2, ?b3_3, ?b3_4, ?b3_4] mixed (by kernel_rfl) (by kernel_rfl) hr ?t3 ?o3 ?_
 case o3 =>
  refine oc0 (fun A W hx hf => ?_) ?_
  exact ok_movE (a0 := a2) (r0 hf)
  refine oc0 (fun A W hx hf => ?_) ?_
  exact ok_str Try.underlying22 Try.underlying5 Try.underlying9 (p2 s0 e_w hx (q0 ?b3_0 A W 5 hf))
  refine oc0 (fun A W hx hf => ?_) ?_
  exact ok_movE (a0 := a2) (r0 hf)
  refine oc0 (fun A W hx hf => ?_) ?_
  exact ok_str Try.underlying22 Try.underlying5 Try.underlying9 (p2 s1 e_w hx (q0 ?b3_2 A W 7 hf))
  refine oc0 (fun A W hx hf => ?_) ?_
  exact ok_eqs (q0 ?b3_1 A W 6 hf) (q1 ?b3_3 A W 8 hf)
  refine oc0 (fun A W hx hf => ?_) ?_
  exact ok_assign (q0 ?b3_4 A W 9 hf)
  exact OpsOk.nil
 case t3 => exact inferInstance
 clear hr; intro a4 w4 x hr hd hs
 clear s0 s1
 have s4 := fa ?b3_4 a4 w4 4 (hd 5 4 rfl)
 replace e_w := e_w.trans x
 clear hd hs x
 refine exit_then ?_
 refine wp_ret ?_
 refine ret_tmp Try.results18 hr e_w ?_
 exact Is.bool s4 (by rw [bstr_toList, bstr_toList])

end Go.Proofs.Yteccaejdgefdpaa
