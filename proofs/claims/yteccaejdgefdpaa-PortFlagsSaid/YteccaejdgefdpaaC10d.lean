import Derived.Test.YteccaejdgefdpaaC10c
import Derived.Test.YteccaejdgefdpaaC06c
namespace Go.Proofs.Yteccaejdgefdpaa
open Go.RowKit
set_option linter.unusedVariables false
set_option maxRecDepth 4000
theorem c_pPlace {x0 : Value} {w : World} {q : Int} (h0 : (Is (.int .i64 q)) x0 w)  :
    Calls Try.prog 12 #[x0] w (Ret (Is (.int .i64 (portPlace q))) w) := by
 refine enter Try.func12 rfl Try.ntmps12 (k := 1) rfl (by decide) (fun a0 hr hargs => ?_)
 have s0 := sarg h0 (hargs 0 (by decide))
 clear hargs
 refine wp_seq ?_
 refine wp_reg 8 [[]] [?b1_0] mixed (by kernel_rfl) (by kernel_rfl) hr ?t1 ?o1 ?_
 case o1 =>
  refine oc0 (fun A W hx hf => ?_) ?_
  exact ok_assignc
  exact OpsOk.nil
 case t1 => exact inferInstance
 clear hr; intro a2 w2 x hr hd hs
 revert s0; refine kp1 hs rfl ?_; intro s0
 have e_w := x
 clear hd hs x
 refine exit_then ?_
 refine wp_seq ?_
 refine wp_seq ?_
 refine wp_reg 8 [[(0, none)]] [?b3_0] mixed (by kernel_rfl) (by kernel_rfl) hr ?t3 ?o3 ?_
 case o3 =>
  refine oc0 (fun A W hx hf => ?_) ?_
  exact ok_movE (a0 := a2) (r0 hf)
  exact OpsOk.nil
 case t3 => exact inferInstance
 clear hr; intro a4 w4 x hr hd hs
 have u3 := mv s0 (fa ?b3_0 a4 w4 3 (hd 0 3 rfl))
 clear s0
 have s3 := u3; clear u3
 replace e_w := e_w.trans x
 clear hd hs x
 refine exit_then ?_
 refine wp_block ?_
 refine wp_seq ?_
 refine wp_reg 8 [[(3, none)], [(5, some 0)]] [?b5_0, ?b5_0] mixed (by kernel_rfl) (by kernel_rfl) hr ?t5 ?o5 ?_
 case o5 =>
  refine oc0 (fun A W hx hf => ?_) ?_
  exact ok_eql (o2 s3 e_w hx (r0 hf)) (ec A (.int .i64 6))
  refine oc0 (fun A W hx hf => ?_) ?_
  exact ok_assign (q0 ?b5_0 A W 5 hf)
  exact OpsOk.nil
 case t5 => exact inferInstance
 clear hr; intro a6 w6 x hr hd hs
 revert s3; refine kp1 hs rfl ?_; intro s3
 have s4 := fa ?b5_0 a6 w6 4 (hd 1 4 rfl)
 replace e_w := e_w.trans x
 clear hd hs x
 refine exit_then ?_
 refine wp_cond_split (show _ = _ from s4) (fun h6 => ?_) (fun h6 => ?_)
 · skip
   skip
   refine wp_seq ?_
   refine wp_reg 8 [[]] [?b8_0] mixed (by kernel_rfl) (by kernel_rfl) hr ?t8 ?o8 ?_
   case o8 =>
    refine oc0 (fun A W hx hf => ?_) ?_
    exact ok_assignc
    exact OpsOk.nil
   case t8 => exact inferInstance
   clear hr; intro a9 w9 x hr hd hs
   clear s3 s4
   have s2 := fa ?b8_0 a9 w9 2 (hd 0 2 rfl)
   replace e_w := e_w.trans x
   clear hd hs x
   refine exit_then ?_
   refine wp_ret ?_
   refine blk_ret ?_
   refine then_ret ?_
   refine ret_tmp Try.results12 hr e_w ?_
   exact Is.int s2 (by simp [portPlace] at *; simp [*])
 · skip
   skip
   refine wp_seq ?_
   refine wp_reg 8 [[(3, none)], [(7, some 0)]] [?b10_0, ?b10_0] mixed (by kernel_rfl) (by kernel_rfl) hr ?t10 ?o10 ?_
   case o10 =>
    refine oc0 (fun A W hx hf => ?_) ?_
    exact ok_eql (o2 s3 e_w hx (r0 hf)) (ec A (.int .i64 17))
    refine oc0 (fun A W hx hf => ?_) ?_
    exact ok_assign (q0 ?b10_0 A W 7 hf)
    exact OpsOk.nil
   case t10 => exact inferInstance
   clear hr; intro a11 w11 x hr hd hs
   clear s3 s4
   have s6 := fa ?b10_0 a11 w11 6 (hd 1 6 rfl)
   replace e_w := e_w.trans x
   clear hd hs x
   refine exit_then ?_
   refine wp_cond_split (show _ = _ from s6) (fun h17 => ?_) (fun h17 => ?_)
   · skip
     skip
     refine wp_seq ?_
     refine wp_reg 8 [[]] [?b13_0] mixed (by kernel_rfl) (by kernel_rfl) hr ?t13 ?o13 ?_
     case o13 =>
      refine oc0 (fun A W hx hf => ?_) ?_
      exact ok_assignc
      exact OpsOk.nil
     case t13 => exact inferInstance
     clear hr; intro a14 w14 x hr hd hs
     clear s6
     have s2 := fa ?b13_0 a14 w14 2 (hd 0 2 rfl)
     replace e_w := e_w.trans x
     clear hd hs x
     refine exit_then ?_
     refine wp_ret ?_
     refine blk_ret ?_
     refine then_ret ?_
     refine ret_tmp Try.results12 hr e_w ?_
     exact Is.int s2 (by simp [portPlace] at *; simp [*])
   · skip
     skip
     refine wp_skip ?_
     refine blk_normal ?_
     refine exit_then ?_
     refine wp_seq ?_
     refine wp_reg 8 [[]] [?b15_0] mixed (by kernel_rfl) (by kernel_rfl) hr ?t15 ?o15 ?_
     case o15 =>
      refine oc0 (fun A W hx hf => ?_) ?_
      exact ok_assignc
      exact OpsOk.nil
     case t15 => exact inferInstance
     clear hr; intro a16 w16 x hr hd hs
     clear s6
     have s2 := fa ?b15_0 a16 w16 2 (hd 0 2 rfl)
     replace e_w := e_w.trans x
     clear hd hs x
     refine exit_then ?_
     refine wp_ret ?_
     refine ret_tmp Try.results12 hr e_w ?_
     exact Is.int s2 (by simp [portPlace] at *; simp [*])

theorem c_r10Place {x0 : Value} {w : World} {q : Int} (h0 : (Is (.int .i64 q)) x0 w)  :
    Calls Try.prog 13 #[x0] w (Ret (Is (.int .i64 (portPlace q))) w) := by
 refine enter Try.func13 rfl Try.ntmps13 (k := 1) rfl (by decide) (fun a0 hr hargs => ?_)
 have s0 := sarg h0 (hargs 0 (by decide))
 clear hargs
 refine wp_seq ?_
 refine wp_reg 7 [[]] [?b1_0] mixed (by kernel_rfl) (by kernel_rfl) hr ?t1 ?o1 ?_
 case o1 =>
  refine oc0 (fun A W hx hf => ?_) ?_
  exact ok_assignc
  exact OpsOk.nil
 case t1 => exact inferInstance
 clear hr; intro a2 w2 x hr hd hs
 revert s0; refine kp1 hs rfl ?_; intro s0
 have e_w := x
 clear hd hs x
 refine exit_then ?_
 refine wp_seq ?_
 refine wp_seq ?_
 refine wp_reg 7 [[(0, none)], [(3, some 0)]] [?b3_0, ?b3_1] mixed (by kernel_rfl) (by kernel_rfl) hr ?t3 ?o3 ?_
 case o3 =>
  refine oc0 (fun A W hx hf => ?_) ?_
  exact ok_movE (a0 := a2) (r0 hf)
  refine oc0 (fun A W hx hf => ?_) ?_
  exact ok_eql (p2 s0 e_w hx (q0 ?b3_0 A W 3 hf)) (ec A (.int .i64 6))
  exact OpsOk.nil
 case t3 => exact inferInstance
 clear hr; intro a4 w4 x hr hd hs
 revert s0; refine kp1 hs rfl ?_; intro s0
 have s4 := fa ?b3_1 a4 w4 4 (hd 1 4 rfl)
 replace e_w := e_w.trans x
 clear hd hs x
 refine exit_then ?_
 refine wp_cond_split (show _ = _ from s4) (fun h6 => ?_) (fun h6 => ?_)
 · skip
   skip
   refine wp_seq ?_
   refine wp_reg 7 [[]] [?b6_0] mixed (by kernel_rfl) (by kernel_rfl) hr ?t6 ?o6 ?_
   case o6 =>
    refine oc0 (fun A W hx hf => ?_) ?_
    exact ok_assignc
    exact OpsOk.nil
   case t6 => exact inferInstance
   clear hr; intro a7 w7 x hr hd hs
   clear s0 s4
   have s2 := fa ?b6_0 a7 w7 2 (hd 0 2 rfl)
   replace e_w := e_w.trans x
   clear hd hs x
   refine exit_then ?_
   refine wp_ret ?_
   refine then_ret ?_
   refine ret_tmp Try.results13 hr e_w ?_
   exact Is.int s2 (by simp [portPlace] at *; simp [*])
 · skip
   skip
   refine wp_skip ?_
   refine exit_then ?_
   refine wp_seq ?_
   refine wp_seq ?_
   refine wp_reg 7 [[(0, none)], [(5, some 0)]] [?b8_0, ?b8_1] mixed (by kernel_rfl) (by kernel_rfl) hr ?t8 ?o8 ?_
   case o8 =>
    refine oc0 (fun A W hx hf => ?_) ?_
    exact ok_movE (a0 := a4) (r0 hf)
    refine oc0 (fun A W hx hf => ?_) ?_
    exact ok_eql (p2 s0 e_w hx (q0 ?b8_0 A W 5 hf)) (ec A (.int .i64 17))
    exact OpsOk.nil
   case t8 => exact inferInstance
   clear hr; intro a9 w9 x hr hd hs
   clear s0 s4
   have s6 := fa ?b8_1 a9 w9 6 (hd 1 6 rfl)
   replace e_w := e_w.trans x
   clear hd hs x
   refine exit_then ?_
   refine wp_cond_split (show _ = _ from s6) (fun h17 => ?_) (fun h17 => ?_)
   · skip
     skip
     refine wp_seq ?_
     refine wp_reg 7 [[]] [?b11_0] mixed (by kernel_rfl) (by kernel_rfl) hr ?t11 ?o11 ?_
     case o11 =>
      refine oc0 (fun A W hx hf => ?_) ?_
      exact ok_assignc
      exact OpsOk.nil
     case t11 => exact inferInstance
     clear hr; intro a12 w12 x hr hd hs
     clear s6
     have s2 := fa ?b11_0 a12 w12 2 (hd 0 2 rfl)
     replace e_w := e_w.trans x
     clear hd hs x
     refine exit_then ?_
     refine wp_ret ?_
     refine then_ret ?_
     refine ret_tmp Try.results13 hr e_w ?_
     exact Is.int s2 (by simp [portPlace] at *; simp [*])
   · skip
     skip
     refine wp_skip ?_
     refine exit_then ?_
     refine wp_seq ?_
     refine wp_reg 7 [[]] [?b13_0] mixed (by kernel_rfl) (by kernel_rfl) hr ?t13 ?o13 ?_
     case o13 =>
      refine oc0 (fun A W hx hf => ?_) ?_
      exact ok_assignc
      exact OpsOk.nil
     case t13 => exact inferInstance
     clear hr; intro a14 w14 x hr hd hs
     clear s6
     have s2 := fa ?b13_0 a14 w14 2 (hd 0 2 rfl)
     replace e_w := e_w.trans x
     clear hd hs x
     refine exit_then ?_
     refine wp_ret ?_
     refine ret_tmp Try.results13 hr e_w ?_
     exact Is.int s2 (by simp [portPlace] at *; simp [*])

theorem c_parts {x0 x1 x2 x3 : Value} {w : World} {Sa Da : Adr} {q : Int} {l : List UInt8} {W0 : World} {B : Nat} (h0 : (Is (AdrV Sa)) x0 w) (h1 : (Is (AdrV Da)) x1 w) (h2 : (Is (.int .i64 q)) x2 w) (h3 : (BsW W0 l) x3 w) (hA : Sa.b.length = 16) (hD : Da.b.length = 16) (ht9 : 0 ≤ (portRead q l).1.total ∧ (portRead q l).1.total ≤ (l.length : Int)) (hB : B ≤ w.heap.size) :
    Calls Try.prog 23 #[x0, x1, x2, x3] w (Ret (Tup2 (OwnB B 5 (pseudoL Sa Da q (portRead q l).1.total)) (AtW W0 (Bs (l.take (portRead q l).1.total.toNat)))) w) := by
 have hlen := Bs.len_le h3.1
 refine enter Try.func23 rfl Try.ntmps23 (k := 4) rfl (by decide) (fun a0 hr hargs => ?_)
 have s0 := sarg h0 (hargs 0 (by decide))
 have s1 := sarg h1 (hargs 1 (by decide))
 have s2 := sarg h2 (hargs 2 (by decide))
 have s3 := sarg h3 (hargs 3 (by decide))
 clear hargs
 refine wp_seq ?_
 refine wp_reg 28 [[(0, none)], [(1, none)], [], []] [?b1_0, ?b1_1, ?b1_2, ?b1_3] mixed (by kernel_rfl) (by kernel_rfl) hr ?t1 ?o1 ?_
 case o1 =>
  refine oc0 (fun A W hx hf => ?_) ?_
  exact ok_boxS [[.bool Sa.six], Sa.b.map byteV] [1, 16] (Is.conv (o1 s0 hx (r0 hf)) (adr_seg Sa).symm) (by simp [*]) hx.size
  refine oc0 (fun A W hx hf => ?_) ?_
  exact ok_boxS [[.bool Da.six], Da.b.map byteV] [1, 16] (Is.conv (o1 s1 hx (r0 hf)) (adr_seg Da).symm) (by simp [*]) hx.size
  refine oc0 (fun A W hx hf => ?_) ?_
  exact ok_assignv (Bs []) (fun _ => bs_nil)
  refine oc0 (fun A W hx hf => ?_) ?_
  exact ok_assignv (Bs []) (fun _ => bs_nil)
  exact OpsOk.nil
 case t1 => exact inferInstance
 clear hr; intro a2 w2 x hr hd hs
 revert s2 s3; refine kp2 hs rfl ?_; intro s2 s3
 clear s0 s1
 have s4 := fa ?b1_0 a2 w2 4 (hd 0 4 rfl)
 have s5 := fa ?b1_1 a2 w2 5 (hd 1 5 rfl)
 obtain ⟨g2_4, q2_4⟩ := PxN.at s4; clear s4; have n2_4 := PxS.lt q2_4
 have s4 := q2_4; clear q2_4
 obtain ⟨g2_5, q2_5⟩ := PxN.at s5; clear s5; have n2_5 := PxS.lt q2_5
 have s5 := q2_5; clear q2_5
 have e_w := x
 clear hd hs x
 refine exit_then ?_
 refine wp_seq ?_
 refine wp_reg_pre (l := [_, _, _, _, _, _, _]) (rest := [_, _]) 28 [[(2, none)], [(3, none)], [(13, some 0), (14, some 1)], [(15, some 2)], [(12, some 3)], [(12, some 3)], []] [?b3_0, ?b3_1, ?b3_2, ?b3_2, ?b3_4, ?b3_5, ?b3_6] (by kernel_rfl) (by kernel_rfl) hr ?t3 ?o3 ?_
 case o3 =>
  refine oc0 (fun A W hx hf => ?_) ?_
  exact ok_movE (a0 := a2) (r0 hf)
  refine oc0 (fun A W hx hf => ?_) ?_
  exact ok_movE (a0 := a2) (r0 hf)
  refine oc0 (fun A W hx hf => ?_) ?_
  exact ok_call2 body10 (c_pRead (p2 s2 e_w hx (q0 ?b3_0 A W 13 hf)) (BsW.now (p2 s3 e_w hx (q1 ?b3_1 A W 14 hf))))
  refine oc0 (fun A W hx hf => ?_) ?_
  exact ok_move (q0 ?b3_2 A W 15 hf)
  refine oc0 (fun A W hx hf => ?_) ?_
  exact ok_ext0 (q0 ?b3_2 A W 12 hf)
  refine oc0 (fun A W hx hf => ?_) ?_
  exact ok_ext1 (q0 ?b3_2 A W 12 hf)
  refine oc0 (fun A W hx hf => ?_) ?_
  exact ok_allocS (portS port0) [1, 1, 1, 1, 1] zerov25 (by rfl) (by rfl) hx.size
  exact OpsOk.nil
 case t3 => exact inferInstance
 clear hr; intro a4 w4 x hr hd hs
 have z_w_w2 := e_w.size
 have l4_4 := PxS.lt s4
 have l4_5 := PxS.lt s5
 revert s2 s3 s4 s5; refine kp4 hs rfl ?_; intro s2 s3 s4 s5
 have s16 := fa ?b3_4 a4 w4 16 (hd 4 16 rfl)
 have s17 := fa ?b3_5 a4 w4 17 (hd 5 17 rfl)
 have s10 := fa ?b3_6 a4 w4 10 (hd 6 10 rfl)
 obtain ⟨g4_10, q4_10⟩ := PxN.at s10; clear s10; have n4_10 := PxS.lt q4_10
 replace q4_10 := PxS.mono q4_10 e_w.size
 have s10 := q4_10; clear q4_10
 replace e_w := e_w.trans x
 have e_w2 := x
 clear hd hs x
 have z5 := PxS.lt s10
 have l5 := (show (g4_10 = 0 ∨ w.heap.size < g4_10) ∧ True from ⟨by omega, trivial⟩)
 have l5_4 := PxS.lt (later e_w2 s4)
 have l5_5 := PxS.lt (later e_w2 s5)
 refine wl_storeSm (portS (portRead q l).1) hr size25 s10 s16 (by rfl) (by exact port_one) rfl ?_; clear hr; intro a5 w5 hc hu hr hs
 have hb : Below w.heap.size w4 w5 := hc.below e_w.size l5.1
 revert s2 s3 s4 s5 s17 s10; refine kp6 hs rfl ?_; intro s2 s3 s4 s5 s17 s10
 clear s16
 replace s4 := PxS.other (later e_w2 s4) hc (by omega)
 replace s5 := PxS.other (later e_w2 s5) hc (by omega)
 replace s10 := hu _ _ _ s10
 try simp only [List.set_cons_zero, List.set_cons_succ] at s10
 replace e_w := e_w.below (Nat.le_refl _) hb
 clear e_w2
 replace s17 := anyw (w2 := w5) s17
 clear hu hs hc hb
 refine wl_op hr (ok_assign s17) inferInstance ?_; clear hr; intro a6 w6 x hr hd hs
 revert s2 s3 s4 s5 s10; refine kp5 hs rfl ?_; intro s2 s3 s4 s5 s10
 clear s17
 replace e_w := e_w.trans x
 have e_w5 := x
 clear hd hs x
 refine wpList_nil ?_
 refine exit_then ?_
 refine wp_seq ?_
 refine wp_reg 28 [[(4, none)], [(5, none)], [(2, none)], [(10, none)], [(21, some 3)], [(18, some 0), (19, some 1), (20, some 2), (22, some 4)], [(3, none)], [(10, none)], [(25, some 7)], [(24, some 6), (26, some 8)], [(23, some 5)], [(27, some 9)]] [?b7_0, ?b7_1, ?b7_2, ?b7_3, ?b7_4, ?b7_5, ?b7_6, ?b7_7, ?b7_8, ?b7_9, ?b7_5, ?b7_9] mixed (by kernel_rfl) (by kernel_rfl) hr ?t7 ?o7 ?_
 case o7 =>
  refine oc0 (fun A W hx hf => ?_) ?_
  exact ok_loadAggS 2 Try.underlying35 rfl size35 (o2 s4 e_w5 hx (r0 hf)) rfl
  refine oc0 (fun A W hx hf => ?_) ?_
  exact ok_loadAggS 2 Try.underlying35 rfl size35 (o2 s5 e_w5 hx (r0 hf)) rfl
  refine oc0 (fun A W hx hf => ?_) ?_
  exact ok_movE (a0 := a6) (r0 hf)
  refine oc0 (fun A W hx hf => ?_) ?_
  exact ok_fieldS 4 Try.underlying25 (k := 4) rfl size3 rfl (o2 s10 e_w5 hx (r0 hf)) rfl
  refine oc0 (fun A W hx hf => ?_) ?_
  exact ok_loadS Try.underlying3 rfl (q0 ?b7_3 A W 21 hf) rfl
  refine oc0 (fun A W hx hf => ?_) ?_
  exact ok_call4 body30 (c_Pseudo (Is.conv (q0 ?b7_0 A W 18 hf) (adr_seg Sa)) (Is.conv (q1 ?b7_1 A W 19 hf) (adr_seg Da)) (p2 s2 e_w hx (q2 ?b7_2 A W 20 hf)) (q3 ?b7_4 A W 22 hf) (by exact hA) (by exact hD) hx.size)
  refine oc0 (fun A W hx hf => ?_) ?_
  exact ok_movE (a0 := a6) (r0 hf)
  refine oc0 (fun A W hx hf => ?_) ?_
  exact ok_fieldS 4 Try.underlying25 (k := 4) rfl size3 rfl (o2 s10 e_w5 hx (r0 hf)) rfl
  refine oc0 (fun A W hx hf => ?_) ?_
  exact ok_loadS Try.underlying3 rfl (q0 ?b7_7 A W 25 hf) rfl
  refine oc0 (fun A W hx hf => ?_) ?_
  exact okW_slice_hi ((portRead q l).1.total.toNat) Try.underlying22 size5 (BsW.old (p2 s3 e_w hx (q0 ?b7_6 A W 24 hf))) (Is.int (q1 ?b7_8 A W 26 hf) (by show (portRead q l).1.total = _; omega)) (by omega)
  refine oc0 (fun A W hx hf => ?_) ?_
  exact ok_assign (q0 ?b7_5 A W 23 hf)
  refine oc0 (fun A W hx hf => ?_) ?_
  exact ok_assign (q0 ?b7_9 A W 27 hf)
  exact OpsOk.nil
 case t7 => exact inferInstance
 clear hr; intro a8 w8 x hr hd hs
 have z_w_w6 := e_w.size
 have z_w5_w6 := e_w5.size
 have l8_4 := PxS.lt (later e_w5 s4)
 have l8_5 := PxS.lt (later e_w5 s5)
 have l8_10 := PxS.lt (later e_w5 s10)
 clear s2 s3 s4 s5 s10
 have s8 := fa ?b7_5 a8 w8 8 (hd 10 8 rfl)
 have s9 := fa ?b7_9 a8 w8 9 (hd 11 9 rfl)
 obtain ⟨g8_8, q8_8⟩ := OwnB.at s8; clear s8; have n8_8 := OwnBA.lt q8_8
 replace q8_8 := OwnBA.mono q8_8 e_w.size
 have s8 := q8_8; clear q8_8
 replace e_w := e_w.trans x
 clear e_w5
 clear hd hs x
 refine exit_then ?_
 refine wp_ret ?_
 refine ret_tmp2 Try.results23 hr e_w ?_
 exact ⟨_, _, rfl, OwnB.mono s8.own hB, s9⟩

end Go.Proofs.Yteccaejdgefdpaa
