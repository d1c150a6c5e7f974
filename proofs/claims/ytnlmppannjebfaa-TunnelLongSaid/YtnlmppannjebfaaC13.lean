import Derived.Test.YtnlmppannjebfaaC08
import Derived.Test.YtnlmppannjebfaaC09b
import Derived.Test.YtnlmppannjebfaaS13
import Derived.Test.YtnlmppannjebfaaC07
import Derived.Test.YtnlmppannjebfaaI
namespace Go.Proofs.Ytnlmppannjebfaa
open Go.RowKit
set_option linter.unusedVariables false
set_option linter.unusedSimpArgs false
set_option maxRecDepth 4000
theorem c_tread {x0 x1 : Value} {w : World} {z : Int} {l : List UInt8} (h0 : (Is (.int .i64 z)) x0 w) (h1 : (Bs l) x1 w)  :
    Calls Try.prog 29 #[x0, x1] w (Ret (Is (NetV (netRead z l))) w) := by
 have hlen := Bs.len_le h1
 refine enter Try.func29 rfl Try.ntmps29 (k := 2) rfl (by decide) (fun a0 hr hargs => ?_)
 have s0 := sarg h0 (hargs 0 (by decide))
 have s1 := sarg h1 (hargs 1 (by decide))
 clear hargs
 refine wp_seq ?_
 refine wp_reg 47 [[]] [?b1_0] mixed hr ?t1 ?o1 ?_
 case o1 =>
  refine oc0 (fun A W hx hf => ?_) ?_
  exact ok_allocS [(netS net0).flatten] [5] zerov54 (by rfl) (by rfl) hx.size
  exact OpsOk.nil
 case t1 => exact inferInstance
 clear hr; intro a2 w2 x hr hd hs
 revert s1; revert s0; refine kp2 hs rfl ?_; intro s0 s1
 have s4 := fa ?b1_0 a2 w2 4 (hd 0 4 rfl)
 obtain ⟨g2_4, q2_4⟩ := PxN.at s4; clear s4; have n2_4 := PxS.lt q2_4
 have s4 := q2_4; clear q2_4
 have e_w := x
 clear hd hs x
 refine exit_then ?_
 refine wp_seq ?_
 refine wp_seq ?_
 refine wp_reg 47 [[(0, none)]] [?b3_0] mixed hr ?t3 ?o3 ?_
 case o3 =>
  refine oc0 (fun A W hx hf => ?_) ?_
  exact ok_movE (a0 := a2) (r0 hf)
  exact OpsOk.nil
 case t3 => exact inferInstance
 clear hr; intro a4 w4 x hr hd hs
 have u9 := mv s0 (fa ?b3_0 a4 w4 9 (hd 0 9 rfl))
 revert s4; revert s1; refine kp2 hs rfl ?_; intro s1 s4
 clear s0
 have s9 := u9; clear u9
 replace e_w := e_w.trans x
 have e_w2 := x
 clear hd hs x
 refine exit_then ?_
 refine wp_block ?_
 refine wp_seq ?_
 refine wp_reg 47 [[(9, none)], [(11, some 0)]] [?b5_0, ?b5_0] mixed hr ?t5 ?o5 ?_
 case o5 =>
  refine oc0 (fun A W hx hf => ?_) ?_
  exact ok_eql (o2 s9 e_w hx (r0 hf)) (ec A (.int .i64 2048))
  refine oc0 (fun A W hx hf => ?_) ?_
  exact ok_assign (q0 ?b5_0 A W 11 hf)
  exact OpsOk.nil
 case t5 => exact inferInstance
 clear hr; intro a6 w6 x hr hd hs
 revert s9; revert s4; revert s1; refine kp3 hs rfl ?_; intro s1 s4 s9
 have s10 := fa ?b5_0 a6 w6 10 (hd 1 10 rfl)
 replace e_w := e_w.trans x
 replace e_w2 := e_w2.trans x
 clear hd hs x
 refine exit_then ?_
 refine wp_cond_split (show _ = _ from s10) (fun hk => ?_) (fun hk => ?_)
 ·
  have hk : z = 2048 := by simpa using hk
  have hn9 : netRead z l = (⟨(fourRead l).1.head, (fourRead l).1.total, (fourRead l).1.proto, (fourRead l).1.frag, (fourRead l).2 == 0⟩ : NetL) := by unfold netRead; rw [if_pos hk]
  refine wp_seq ?_
  refine wp_reg_pre (l := [_, _, _, _, _, _]) (rest := [_, _]) 47 [[(1, none)], [(13, some 0)], [(14, some 1)], [(12, some 2)], [(12, some 2)], []] [?b8_0, ?b8_1, ?b8_1, ?b8_3, ?b8_4, ?b8_5] hr ?t8 ?o8 ?_
  case o8 =>
   refine oc0 (fun A W hx hf => ?_) ?_
   exact ok_movE (a0 := a6) (r0 hf)
   refine oc0 (fun A W hx hf => ?_) ?_
   exact ok_call1 body49 (c_four_Read (p2 s1 e_w hx (q0 ?b8_0 A W 13 hf)))
   refine oc0 (fun A W hx hf => ?_) ?_
   exact ok_move (q0 ?b8_1 A W 14 hf)
   refine oc0 (fun A W hx hf => ?_) ?_
   exact ok_ext0 (q0 ?b8_1 A W 12 hf)
   refine oc0 (fun A W hx hf => ?_) ?_
   exact ok_ext1 (q0 ?b8_1 A W 12 hf)
   refine oc0 (fun A W hx hf => ?_) ?_
   exact ok_allocS (fourS2 four0) [1, 1, 1, 1, 1, 1, 1, 1, 1, 16, 1, 16] zerov64 (by rfl) (by rfl) hx.size
   exact OpsOk.nil
  case t8 => exact inferInstance
  clear hr; intro a9 w9 x hr hd hs
  have z_w_w6 := e_w.size
  have z_w2_w6 := e_w2.size
  have l9_4 := PxS.lt (later e_w2 s4)
  revert s4; refine kp1 hs rfl ?_; intro s4
  clear s1 s9 s10
  have s15 := fa ?b8_3 a9 w9 15 (hd 3 15 rfl)
  have s16 := fa ?b8_4 a9 w9 16 (hd 4 16 rfl)
  have s5 := fa ?b8_5 a9 w9 5 (hd 5 5 rfl)
  obtain ⟨g9_5, q9_5⟩ := PxN.at s5; clear s5; have n9_5 := PxS.lt q9_5
  replace q9_5 := PxS.mono q9_5 e_w.size
  have s5 := q9_5; clear q9_5
  replace e_w := e_w.trans x
  replace e_w2 := e_w2.trans x
  clear hd hs x
  have z10 := PxS.lt s5
  have l10 := (show (g9_5 = 0 ∨ w.heap.size < g9_5) ∧ True from ⟨by omega, trivial⟩)
  have l10_4 := PxS.lt (later e_w2 s4)
  refine wl_storeSm (fourS2 (fourRead l).1) hr size64 s5 s15 (by exact fourS2_lens (fourRead_ok _)) (by exact four_one) rfl ?_; clear hr; intro a10 w10 hc hu hr hs
  have hb : Below w.heap.size w9 w10 := hc.below e_w.size l10.1
  revert s5; revert s16; revert s4; refine kp3 hs rfl ?_; intro s4 s16 s5
  clear s15
  replace s4 := PxS.other (later e_w2 s4) hc (by omega)
  replace s5 := hu _ _ _ s5
  try simp only [List.set_cons_zero, List.set_cons_succ, fourS2, sixS2] at s5
  replace e_w := e_w.below (Nat.le_refl _) hb
  clear e_w2
  replace s16 := anyw (w2 := w10) s16
  clear hu hs hc hb
  refine wl_op hr (ok_assign s16) inferInstance ?_; clear hr; intro a11 w11 x hr hd hs
  revert s5; revert s4; refine kp2 hs rfl ?_; intro s4 s5
  clear s16
  have s6 := hd 6 rfl (by decide)
  replace e_w := e_w.trans x
  have e_w10 := x
  clear hd hs x
  refine wpList_nil ?_
  refine exit_then ?_
  refine wp_seq ?_
  refine wp_reg_pre (l := [_, _, _, _, _, _, _, _, _, _, _]) (rest := [_]) 47 [[(5, none)], [(17, some 0)], [(5, none)], [(19, some 2)], [(5, none)], [(21, some 4)], [(5, none)], [(23, some 6)], [(6, none)], [(25, some 8)], [(18, some 1), (20, some 3), (22, some 5), (24, some 7), (26, some 9)]] [?b12_0, ?b12_1, ?b12_2, ?b12_3, ?b12_4, ?b12_5, ?b12_6, ?b12_7, ?b12_8, ?b12_9, ?b12_10] hr ?t12 ?o12 ?_
  case o12 =>
   refine oc0 (fun A W hx hf => ?_) ?_
   exact ok_fieldS 0 Try.underlying64 (k := 0) rfl size3 rfl (o2 s5 e_w10 hx (r0 hf)) rfl
   refine oc0 (fun A W hx hf => ?_) ?_
   exact ok_loadS Try.underlying3 rfl (q0 ?b12_0 A W 17 hf) rfl
   refine oc0 (fun A W hx hf => ?_) ?_
   exact ok_fieldS 1 Try.underlying64 (k := 1) rfl size3 rfl (o2 s5 e_w10 hx (r0 hf)) rfl
   refine oc0 (fun A W hx hf => ?_) ?_
   exact ok_loadS Try.underlying3 rfl (q0 ?b12_2 A W 19 hf) rfl
   refine oc0 (fun A W hx hf => ?_) ?_
   exact ok_fieldS 7 Try.underlying64 (k := 7) rfl size3 rfl (o2 s5 e_w10 hx (r0 hf)) rfl
   refine oc0 (fun A W hx hf => ?_) ?_
   exact ok_loadS Try.underlying3 rfl (q0 ?b12_4 A W 21 hf) rfl
   refine oc0 (fun A W hx hf => ?_) ?_
   exact ok_fieldS 4 Try.underlying64 (k := 4) rfl size4 rfl (o2 s5 e_w10 hx (r0 hf)) rfl
   refine oc0 (fun A W hx hf => ?_) ?_
   exact ok_loadS Try.underlying4 rfl (q0 ?b12_6 A W 23 hf) rfl
   refine oc0 (fun A W hx hf => ?_) ?_
   exact ok_movE (a0 := a11) (r0 hf)
   refine oc0 (fun A W hx hf => ?_) ?_
   exact ok_eql (p1 s6 hx (q0 ?b12_8 A W 25 hf)) (ec A (.int .i64 0))
   refine oc0 (fun A W hx hf => ?_) ?_
   exact ok_buildS [(0, (.tmp 18)), (1, (.tmp 20)), (2, (.tmp 22)), (3, (.tmp 24)), (4, (.tmp 26))] [(0, _), (1, _), (2, _), (3, _), (4, _)] lay54 rfl (PartsC.one (q0 ?b12_1 A W 18 hf) rfl (PartsC.one (q1 ?b12_3 A W 20 hf) rfl (PartsC.one (q2 ?b12_5 A W 22 hf) rfl (PartsC.one (q3 ?b12_7 A W 24 hf) rfl (PartsC.one (q4 ?b12_9 A W 26 hf) rfl (PartsC.nil)))))) (by first | rfl | simp [adrCells, *])
   exact OpsOk.nil
  case t12 => exact inferInstance
  clear hr; intro a13 w13 x hr hd hs
  revert s4; refine kp1 hs rfl ?_; intro s4
  clear s5 s6
  have s27 := fa ?b12_10 a13 w13 27 (hd 10 27 rfl)
  replace e_w := e_w.trans x
  replace e_w10 := e_w10.trans x
  clear hd hs x
  have z14 := PxS.lt (later e_w10 s4)
  have l14 := (show (g2_4 = 0 ∨ w.heap.size < g2_4) ∧ True from ⟨by omega, trivial⟩)
  refine wl_storeSn hr size54 (later e_w10 s4) (Is.conv s27 (show _ = NetV (netRead z l) from by rw [hn9]; rfl)) (by exact net_len _) (by exact net_one) rfl ?_; clear hr; intro a14 w14 hc hu hr hs
  have hb : Below w.heap.size w13 w14 := hc.below e_w.size l14.1
  revert s4; refine kp1 hs rfl ?_; intro s4
  clear s27
  replace s4 := hu _ _ _ (later e_w10 s4)
  try simp only [List.set_cons_zero, List.set_cons_succ, fourS2, sixS2] at s4
  replace e_w := e_w.below (Nat.le_refl _) hb
  clear e_w10
  clear hu hs hc hb
  refine wpList_nil ?_
  refine exit_then ?_
  refine wp_ret ?_
  refine blk_ret ?_
  refine then_ret ?_
  refine ret_cell Try.results29 hr Try.underlying54 rfl size54 s4 e_w ?_
  exact rfl
 ·
  have hk : z ≠ 2048 := by simpa using hk
  refine wp_seq ?_
  refine wp_reg 47 [[(9, none)], [(29, some 0)]] [?b15_0, ?b15_0] mixed hr ?t15 ?o15 ?_
  case o15 =>
   refine oc0 (fun A W hx hf => ?_) ?_
   exact ok_eql (o2 s9 e_w hx (r0 hf)) (ec A (.int .i64 34525))
   refine oc0 (fun A W hx hf => ?_) ?_
   exact ok_assign (q0 ?b15_0 A W 29 hf)
   exact OpsOk.nil
  case t15 => exact inferInstance
  clear hr; intro a16 w16 x hr hd hs
  revert s4; revert s1; refine kp2 hs rfl ?_; intro s1 s4
  clear s9 s10
  have s28 := fa ?b15_0 a16 w16 28 (hd 1 28 rfl)
  replace e_w := e_w.trans x
  replace e_w2 := e_w2.trans x
  clear hd hs x
  refine exit_then ?_
  refine wp_cond_split (show _ = _ from s28) (fun hk2 => ?_) (fun hk2 => ?_)
  ·
   have hk2 : z = 34525 := by simpa using hk2
   have hn9 : netRead z l = (⟨(sixRead l).1.head, (sixRead l).1.total, (sixRead l).1.proto, (sixRead l).1.frag, (sixRead l).2 == 0⟩ : NetL) := by unfold netRead; rw [if_neg hk, if_pos hk2]
   refine wp_seq ?_
   refine wp_reg_pre (l := [_, _, _, _, _, _]) (rest := [_, _]) 47 [[(1, none)], [(31, some 0)], [(32, some 1)], [(30, some 2)], [(30, some 2)], []] [?b18_0, ?b18_1, ?b18_1, ?b18_3, ?b18_4, ?b18_5] hr ?t18 ?o18 ?_
   case o18 =>
    refine oc0 (fun A W hx hf => ?_) ?_
    exact ok_movE (a0 := a16) (r0 hf)
    refine oc0 (fun A W hx hf => ?_) ?_
    exact ok_call1 body50 (c_xRead (p2 s1 e_w hx (q0 ?b18_0 A W 31 hf)))
    refine oc0 (fun A W hx hf => ?_) ?_
    exact ok_move (q0 ?b18_1 A W 32 hf)
    refine oc0 (fun A W hx hf => ?_) ?_
    exact ok_ext0 (q0 ?b18_1 A W 30 hf)
    refine oc0 (fun A W hx hf => ?_) ?_
    exact ok_ext1 (q0 ?b18_1 A W 30 hf)
    refine oc0 (fun A W hx hf => ?_) ?_
    exact ok_allocS (sixS2 six0) [1, 1, 1, 1, 1, 1, 1, 16, 1, 16] zerov60 (by rfl) (by rfl) hx.size
    exact OpsOk.nil
   case t18 => exact inferInstance
   clear hr; intro a19 w19 x hr hd hs
   have z_w_w16 := e_w.size
   have z_w2_w16 := e_w2.size
   have l19_4 := PxS.lt (later e_w2 s4)
   revert s4; refine kp1 hs rfl ?_; intro s4
   clear s1 s28
   have s33 := fa ?b18_3 a19 w19 33 (hd 3 33 rfl)
   have s34 := fa ?b18_4 a19 w19 34 (hd 4 34 rfl)
   have s7 := fa ?b18_5 a19 w19 7 (hd 5 7 rfl)
   obtain ⟨g19_7, q19_7⟩ := PxN.at s7; clear s7; have n19_7 := PxS.lt q19_7
   replace q19_7 := PxS.mono q19_7 e_w.size
   have s7 := q19_7; clear q19_7
   replace e_w := e_w.trans x
   replace e_w2 := e_w2.trans x
   clear hd hs x
   have z20 := PxS.lt s7
   have l20 := (show (g19_7 = 0 ∨ w.heap.size < g19_7) ∧ True from ⟨by omega, trivial⟩)
   have l20_4 := PxS.lt (later e_w2 s4)
   refine wl_storeSm (sixS2 (sixRead l).1) hr size60 s7 (Is.conv s33 (show SixV _ = _ from by unfold SixV; rw [six_seg])) (by exact sixS2_lens (sixRead_ok _)) (by rw [six_seg]; exact six_one) rfl ?_; clear hr; intro a20 w20 hc hu hr hs
   have hb : Below w.heap.size w19 w20 := hc.below e_w.size l20.1
   revert s7; revert s34; revert s4; refine kp3 hs rfl ?_; intro s4 s34 s7
   clear s33
   replace s4 := PxS.other (later e_w2 s4) hc (by omega)
   replace s7 := hu _ _ _ s7
   try simp only [List.set_cons_zero, List.set_cons_succ, fourS2, sixS2] at s7
   replace e_w := e_w.below (Nat.le_refl _) hb
   clear e_w2
   replace s34 := anyw (w2 := w20) s34
   clear hu hs hc hb
   refine wl_op hr (ok_assign s34) inferInstance ?_; clear hr; intro a21 w21 x hr hd hs
   revert s7; revert s4; refine kp2 hs rfl ?_; intro s4 s7
   clear s34
   have s8 := hd 8 rfl (by decide)
   replace e_w := e_w.trans x
   have e_w20 := x
   clear hd hs x
   refine wpList_nil ?_
   refine exit_then ?_
   refine wp_seq ?_
   refine wp_reg_pre (l := [_, _, _, _, _, _, _, _, _, _, _]) (rest := [_]) 47 [[(7, none)], [(35, some 0)], [(7, none)], [(37, some 2)], [(7, none)], [(39, some 4)], [(7, none)], [(41, some 6)], [(8, none)], [(43, some 8)], [(36, some 1), (38, some 3), (40, some 5), (42, some 7), (44, some 9)]] [?b22_0, ?b22_1, ?b22_2, ?b22_3, ?b22_4, ?b22_5, ?b22_6, ?b22_7, ?b22_8, ?b22_9, ?b22_10] hr ?t22 ?o22 ?_
   case o22 =>
    refine oc0 (fun A W hx hf => ?_) ?_
    exact ok_fieldS 0 Try.underlying60 (k := 0) rfl size3 rfl (o2 s7 e_w20 hx (r0 hf)) rfl
    refine oc0 (fun A W hx hf => ?_) ?_
    exact ok_loadS Try.underlying3 rfl (q0 ?b22_0 A W 35 hf) rfl
    refine oc0 (fun A W hx hf => ?_) ?_
    exact ok_fieldS 1 Try.underlying60 (k := 1) rfl size3 rfl (o2 s7 e_w20 hx (r0 hf)) rfl
    refine oc0 (fun A W hx hf => ?_) ?_
    exact ok_loadS Try.underlying3 rfl (q0 ?b22_2 A W 37 hf) rfl
    refine oc0 (fun A W hx hf => ?_) ?_
    exact ok_fieldS 5 Try.underlying60 (k := 5) rfl size3 rfl (o2 s7 e_w20 hx (r0 hf)) rfl
    refine oc0 (fun A W hx hf => ?_) ?_
    exact ok_loadS Try.underlying3 rfl (q0 ?b22_4 A W 39 hf) rfl
    refine oc0 (fun A W hx hf => ?_) ?_
    exact ok_fieldS 3 Try.underlying60 (k := 3) rfl size4 rfl (o2 s7 e_w20 hx (r0 hf)) rfl
    refine oc0 (fun A W hx hf => ?_) ?_
    exact ok_loadS Try.underlying4 rfl (q0 ?b22_6 A W 41 hf) rfl
    refine oc0 (fun A W hx hf => ?_) ?_
    exact ok_movE (a0 := a21) (r0 hf)
    refine oc0 (fun A W hx hf => ?_) ?_
    exact ok_eql (p1 s8 hx (q0 ?b22_8 A W 43 hf)) (ec A (.int .i64 0))
    refine oc0 (fun A W hx hf => ?_) ?_
    exact ok_buildS [(0, (.tmp 36)), (1, (.tmp 38)), (2, (.tmp 40)), (3, (.tmp 42)), (4, (.tmp 44))] [(0, _), (1, _), (2, _), (3, _), (4, _)] lay54 rfl (PartsC.one (q0 ?b22_1 A W 36 hf) rfl (PartsC.one (q1 ?b22_3 A W 38 hf) rfl (PartsC.one (q2 ?b22_5 A W 40 hf) rfl (PartsC.one (q3 ?b22_7 A W 42 hf) rfl (PartsC.one (q4 ?b22_9 A W 44 hf) rfl (PartsC.nil)))))) (by first | rfl | simp [adrCells, *])
    exact OpsOk.nil
   case t22 => exact inferInstance
   clear hr; intro a23 w23 x hr hd hs
   revert s4; refine kp1 hs rfl ?_; intro s4
   clear s7 s8
   have s45 := fa ?b22_10 a23 w23 45 (hd 10 45 rfl)
   replace e_w := e_w.trans x
   replace e_w20 := e_w20.trans x
   clear hd hs x
   have z24 := PxS.lt (later e_w20 s4)
   have l24 := (show (g2_4 = 0 ∨ w.heap.size < g2_4) ∧ True from ⟨by omega, trivial⟩)
   refine wl_storeSn hr size54 (later e_w20 s4) (Is.conv s45 (show _ = NetV (netRead z l) from by rw [hn9]; rfl)) (by exact net_len _) (by exact net_one) rfl ?_; clear hr; intro a24 w24 hc hu hr hs
   have hb : Below w.heap.size w23 w24 := hc.below e_w.size l24.1
   revert s4; refine kp1 hs rfl ?_; intro s4
   clear s45
   replace s4 := hu _ _ _ (later e_w20 s4)
   try simp only [List.set_cons_zero, List.set_cons_succ, fourS2, sixS2] at s4
   replace e_w := e_w.below (Nat.le_refl _) hb
   clear e_w20
   clear hu hs hc hb
   refine wpList_nil ?_
   refine exit_then ?_
   refine wp_ret ?_
   refine blk_ret ?_
   refine then_ret ?_
   refine ret_cell Try.results29 hr Try.underlying54 rfl size54 s4 e_w ?_
   exact rfl
  ·
   have hk2 : z ≠ 34525 := by simpa using hk2
   have hn9 : netRead z l = net0 := by unfold netRead; rw [if_neg hk, if_neg hk2]
   refine wp_skip ?_
   refine blk_normal ?_
   refine exit_then ?_
   refine wp_seq ?_
   refine wp_reg_pre (l := [_]) (rest := [_]) 47 [[]] [?b25_0] hr ?t25 ?o25 ?_
   case o25 =>
    refine oc0 (fun A W hx hf => ?_) ?_
    exact ok_build0 built54
    exact OpsOk.nil
   case t25 => exact inferInstance
   clear hr; intro a26 w26 x hr hd hs
   revert s4; refine kp1 hs rfl ?_; intro s4
   clear s1 s28
   have s46 := fa ?b25_0 a26 w26 46 (hd 0 46 rfl)
   replace e_w := e_w.trans x
   replace e_w2 := e_w2.trans x
   clear hd hs x
   have z27 := PxS.lt (later e_w2 s4)
   have l27 := (show (g2_4 = 0 ∨ w.heap.size < g2_4) ∧ True from ⟨by omega, trivial⟩)
   refine wl_storeSn hr size54 (later e_w2 s4) (Is.conv s46 (show _ = NetV (netRead z l) from by rw [hn9]; rfl)) (by exact net_len _) (by exact net_one) rfl ?_; clear hr; intro a27 w27 hc hu hr hs
   have hb : Below w.heap.size w26 w27 := hc.below e_w.size l27.1
   revert s4; refine kp1 hs rfl ?_; intro s4
   clear s46
   replace s4 := hu _ _ _ (later e_w2 s4)
   try simp only [List.set_cons_zero, List.set_cons_succ, fourS2, sixS2] at s4
   replace e_w := e_w.below (Nat.le_refl _) hb
   clear e_w2
   clear hu hs hc hb
   refine wpList_nil ?_
   refine exit_then ?_
   refine wp_ret ?_
   refine ret_cell Try.results29 hr Try.underlying54 rfl size54 s4 e_w ?_
   exact rfl

set_option maxHeartbeats 1000000 in
theorem c_tcut {x0 : Value} {w : World} {l : List UInt8} {W0 : World} {B : Nat} (h0 : (BsW W0 l) x0 w) (hB : B ≤ w.heap.size) :
    Calls Try.prog 19 #[x0] w (Ret (Tup3 (LinkO B 74 (cutL l)) (Is (NetV (cutN l))) (AtW W0 (Bs (cutP l)))) w) := by
 have hlen := Bs.len_le h0.1
 refine enter Try.func19 rfl Try.ntmps19 (k := 1) rfl (by decide) (fun a0 hr hargs => ?_)
 have s0 := sarg h0 (hargs 0 (by decide))
 clear hargs
 refine wp_seq ?_
 refine wp_reg_pre (l := [_]) (rest := [_, _]) 35 [[]] [?b1_0] hr ?t1 ?o1 ?_
 case o1 =>
  refine oc0 (fun A W hx hf => ?_) ?_
  exact ok_allocS [(lnkS link0 (.slice none 0 0)).flatten] [15] zerov41 (by rfl) (by rfl) hx.size
  exact OpsOk.nil
 case t1 => exact inferInstance
 clear hr; intro a2 w2 x hr hd hs
 revert s0; refine kp1 hs rfl ?_; intro s0
 have s2 := fa ?b1_0 a2 w2 2 (hd 0 2 rfl)
 obtain ⟨g2_2, q2_2⟩ := PxN.at s2; clear s2; have n2_2 := PxS.lt q2_2
 have s2 := q2_2; clear q2_2
 have e_w := x
 clear hd hs x
 have l3_2 := PxS.lt s2
 refine wl_op hr (ok_allocS [(netS net0).flatten] [5] zerov54 (by rfl) (by rfl) (Nat.le_refl _)) inferInstance ?_; clear hr; intro a3 w3 x hr hd hs
 revert s2; revert s0; refine kp2 hs rfl ?_; intro s0 s2
 have s3 := hd 3 rfl (by decide)
 obtain ⟨g3_3, q3_3⟩ := PxN.at s3; clear s3; have n3_3 := PxS.lt q3_3
 replace q3_3 := PxS.mono q3_3 e_w.size
 have s3 := q3_3; clear q3_3
 replace e_w := e_w.trans x
 have e_w2 := x
 clear hd hs x
 refine wl_op hr (ok_assignv (Bs []) (fun _ => bs_nil)) inferInstance ?_; clear hr; intro a4 w4 x hr hd hs
 revert s3; revert s2; revert s0; refine kp3 hs rfl ?_; intro s0 s2 s3
 replace e_w := e_w.trans x
 replace e_w2 := e_w2.trans x
 have e_w3 := x
 clear hd hs x
 refine wpList_nil ?_
 refine exit_then ?_
 refine wp_seq ?_
 refine wp_reg_pre (l := [_, _, _, _, _]) (rest := [_, _, _]) 35 [[(0, none)], [(9, some 0)], [(10, some 1)], [(8, some 2)], [(8, some 2)]] [?b5_0, ?b5_1, ?b5_1, ?b5_3, ?b5_4] hr ?t5 ?o5 ?_
 case o5 =>
  refine oc0 (fun A W hx hf => ?_) ?_
  exact ok_movE (a0 := a4) (r0 hf)
  refine oc0 (fun A W hx hf => ?_) ?_
  exact ok_call1 body36 (c_lRead (BsW.now (p2 s0 e_w hx (q0 ?b5_0 A W 9 hf))) hx.size)
  refine oc0 (fun A W hx hf => ?_) ?_
  exact ok_move (q0 ?b5_1 A W 10 hf)
  refine oc0 (fun A W hx hf => ?_) ?_
  exact ok_ext0 (q0 ?b5_1 A W 8 hf)
  refine oc0 (fun A W hx hf => ?_) ?_
  exact ok_ext1 (q0 ?b5_1 A W 8 hf)
  exact OpsOk.nil
 case t5 => exact inferInstance
 clear hr; intro a6 w6 x hr hd hs
 have l6_2 := PxS.lt (later e_w2 s2)
 have l6_3 := PxS.lt (later e_w3 s3)
 revert s3; revert s2; revert s0; refine kp3 hs rfl ?_; intro s0 s2 s3
 have s11 := fa ?b5_3 a6 w6 11 (hd 3 11 rfl)
 have s12 := fa ?b5_4 a6 w6 12 (hd 4 12 rfl)
 obtain ⟨sv11, s11, gL⟩ := LinkO.open s11; obtain ⟨g6_11, gL⟩ := OwnR.at gL; have n6_11 := OwnRA.lt gL
 replace gL := OwnRA.mono gL e_w.size
 replace e_w := e_w.trans x
 replace e_w2 := e_w2.trans x
 replace e_w3 := e_w3.trans x
 clear hd hs x
 have l7_2 := PxS.lt (later e_w2 s2)
 have l7_3 := PxS.lt (later e_w3 s3)
 have l7_gL := OwnRA.lt gL
 refine wl_op hr (ok_allocS (lnkS link0 (.slice none 0 0)) [6, 6, 1, 1, 1] zerov41 (by rfl) (by rfl) (Nat.le_refl _)) inferInstance ?_; clear hr; intro a7 w7 x hr hd hs
 revert s11; revert s12; revert s3; revert s2; revert s0; refine kp5 hs rfl ?_; intro s0 s2 s3 s12 s11
 have s5 := hd 5 rfl (by decide)
 obtain ⟨g7_5, q7_5⟩ := PxN.at s5; clear s5; have n7_5 := PxS.lt q7_5
 replace q7_5 := PxS.mono q7_5 e_w.size
 have s5 := q7_5; clear q7_5
 replace e_w := e_w.trans x
 replace e_w2 := e_w2.trans x
 replace e_w3 := e_w3.trans x
 have e_w6 := x
 clear hd hs x
 have z8 := PxS.lt s5
 have l8 := (show (g7_5 = 0 ∨ w.heap.size < g7_5) ∧ True from ⟨by omega, trivial⟩)
 have l8_2 := PxS.lt (later e_w2 s2)
 have l8_3 := PxS.lt (later e_w3 s3)
 have l8_gL := OwnRA.lt (later e_w6 gL)
 refine wl_storeSm (lnkS (cutL l) sv11) hr size41 s5 (later e_w6 s11) (by exact lnkS_lens (cutL_ok _)) (by exact lnk_one (rw_one (OwnRA.rw (later e_w6 gL)))) rfl ?_; clear hr; intro a8 w8 hc hu hr hs
 have hb : Below w.heap.size w7 w8 := hc.below e_w.size l8.1
 revert s5; revert s12; revert s3; revert s2; revert s0; refine kp5 hs rfl ?_; intro s0 s2 s3 s12 s5
 clear s11
 replace s2 := PxS.other (later e_w2 s2) hc (by omega)
 replace s3 := PxS.other (later e_w3 s3) hc (by omega)
 replace s5 := hu _ _ _ s5
 try simp only [List.set_cons_zero, List.set_cons_succ, lnkS, netS] at s5
 replace gL := OwnRA.other (later e_w6 gL) hc (by omega)
 replace e_w := e_w.below (Nat.le_refl _) hb
 clear e_w2
 clear e_w3
 clear e_w6
 replace s12 := anyw (w2 := w8) s12
 clear hu hs hc hb
 refine wl_op hr (ok_assign s12) inferInstance ?_; clear hr; intro a9 w9 x hr hd hs
 revert s5; revert s3; revert s2; revert s0; refine kp4 hs rfl ?_; intro s0 s2 s3 s5
 clear s12
 have s6 := hd 6 rfl (by decide)
 replace e_w := e_w.trans x
 have e_w8 := x
 clear hd hs x
 refine wpList_nil ?_
 refine exit_then ?_
 refine wp_seq ?_
 refine wp_seq ?_
 refine wp_reg 35 [[(6, none)], [(13, some 0)]] [?b10_0, ?b10_1] mixed hr ?t10 ?o10 ?_
 case o10 =>
  refine oc0 (fun A W hx hf => ?_) ?_
  exact ok_movE (a0 := a9) (r0 hf)
  refine oc0 (fun A W hx hf => ?_) ?_
  exact ok_neq (p1 s6 hx (q0 ?b10_0 A W 13 hf)) (ec A (.int .i64 0))
  exact OpsOk.nil
 case t10 => exact inferInstance
 clear hr; intro a11 w11 x hr hd hs
 revert s5; revert s3; revert s2; revert s0; refine kp4 hs rfl ?_; intro s0 s2 s3 s5
 clear s6
 have s14 := fa ?b10_1 a11 w11 14 (hd 1 14 rfl)
 replace e_w := e_w.trans x
 replace e_w8 := e_w8.trans x
 clear hd hs x
 refine exit_then ?_
 refine wp_cond_split (show _ = _ from s14) (fun he => ?_) (fun he => ?_)
 ·
  have he : (linkRead l).2 ≠ 0 := by simpa using he
  have hcn : cutN l = net0 := by unfold cutN; rw [if_neg he]
  have hcp : cutP l = [] := by unfold cutP; rw [if_neg he]
  refine wp_seq ?_
  refine wp_reg_pre (l := [_, _]) (rest := [_, _, _]) 35 [[(5, none)], []] [?b13_0, ?b13_1] hr ?t13 ?o13 ?_
  case o13 =>
   refine oc0 (fun A W hx hf => ?_) ?_
   exact ok_loadAggS 5 Try.underlying41 rfl size41 (o2 s5 e_w8 hx (r0 hf)) rfl
   refine oc0 (fun A W hx hf => ?_) ?_
   exact ok_build0 built54
   exact OpsOk.nil
  case t13 => exact inferInstance
  clear hr; intro a14 w14 x hr hd hs
  revert s3; revert s2; refine kp2 hs rfl ?_; intro s2 s3
  clear s0 s5 s14
  have s15 := fa ?b13_0 a14 w14 15 (hd 0 15 rfl)
  have s16 := fa ?b13_1 a14 w14 16 (hd 1 16 rfl)
  replace e_w := e_w.trans x
  replace e_w8 := e_w8.trans x
  clear hd hs x
  have z15 := PxS.lt (later e_w8 s2)
  have l15 := (show (g2_2 = 0 ∨ w.heap.size < g2_2) ∧ True from ⟨by omega, trivial⟩)
  have l15_3 := PxS.lt (later e_w8 s3)
  have l15_gL := OwnRA.lt (later e_w8 gL)
  refine wl_storeSn hr size41 (later e_w8 s2) (Is.conv s15 (lnk_all (L := cutL l) (v := sv11))) (by exact lnk_len (cutL_ok _)) (by exact lnk_one (rw_one (OwnRA.rw (later e_w8 gL)))) rfl ?_; clear hr; intro a15 w15 hc hu hr hs
  have hb : Below w.heap.size w14 w15 := hc.below e_w.size l15.1
  revert s16; revert s3; revert s2; refine kp3 hs rfl ?_; intro s2 s3 s16
  clear s15
  replace s2 := hu _ _ _ (later e_w8 s2)
  try simp only [List.set_cons_zero, List.set_cons_succ, lnkS, netS] at s2
  replace s3 := PxS.other (later e_w8 s3) hc (by omega)
  replace gL := OwnRA.other (later e_w8 gL) hc (by omega)
  replace e_w := e_w.below (Nat.le_refl _) hb
  clear e_w8
  replace s16 := anyw (w2 := w15) s16
  clear hu hs hc hb
  have z16 := PxS.lt s3
  have l16 := (show (g3_3 = 0 ∨ w.heap.size < g3_3) ∧ True from ⟨by omega, trivial⟩)
  have l16_2 := PxS.lt s2
  have l16_gL := OwnRA.lt gL
  refine wl_storeSn hr size54 s3 s16 (by exact net_len net0) (by exact net_one (N := net0)) rfl ?_; clear hr; intro a16 w16 hc hu hr hs
  have hb : Below w.heap.size w15 w16 := hc.below e_w.size l16.1
  revert s3; revert s2; refine kp2 hs rfl ?_; intro s2 s3
  clear s16
  replace s2 := PxS.other s2 hc (by omega)
  replace s3 := hu _ _ _ s3
  try simp only [List.set_cons_zero, List.set_cons_succ, lnkS, netS] at s3
  replace gL := OwnRA.other gL hc (by omega)
  replace e_w := e_w.below (Nat.le_refl _) hb
  clear hu hs hc hb
  refine wl_op hr (ok_assignv (AtW W0 (Bs [])) (fun _ => bs_nil)) inferInstance ?_; clear hr; intro a17 w17 x hr hd hs
  revert s3; revert s2; refine kp2 hs rfl ?_; intro s2 s3
  have s4 := hd 4 rfl (by decide)
  replace e_w := e_w.trans x
  have e_w16 := x
  clear hd hs x
  refine wpList_nil ?_
  refine exit_then ?_
  refine wp_ret ?_
  refine then_ret ?_
  refine ret_cct Try.results19 hr Try.underlying41 rfl size41 (later e_w16 s2) Try.underlying54 rfl size54 (later e_w16 s3) e_w ?_
  first | (rw [hcn, hcp]; exact ⟨_, _, _, rfl, ⟨_, rfl, OwnR.mono (OwnRA.own (later e_w16 gL)) hB⟩, rfl, s4⟩) | (rw [hcp]; exact ⟨_, _, _, rfl, ⟨_, rfl, OwnR.mono (OwnRA.own (later e_w16 gL)) hB⟩, rfl, s4⟩)
 ·
  have he : (linkRead l).2 = 0 := by simpa using he
  obtain ⟨y1, y2, y3, y4⟩ := cut_bd l he
  have y5 : (cutL l).at' = (cutA l : Int) := y1.symm
  have hcn : cutN l = netRead (cutL l).type (l.drop (cutA l)) := by unfold cutN; rw [if_pos he]
  have hcp : cutP l = subl l (cutA l) (cutA l + (cutN l).total.toNat) := by unfold cutP; rw [if_pos he]
  have y6 := cut_tot he
  refine wp_skip ?_
  refine exit_then ?_
  refine wp_seq ?_
  refine wp_any_start mixed (fun w18 x => ?_)
  show wpAny _ _ _ _ 9 _ _ _
  replace e_w := e_w.trans x
  replace e_w8 := e_w8.trans x
  have e_w11 := x
  clear x
  refine wp_sel (l := [_, _, _, _, _, _, _, _, _]) 35 _ [false, false, false, false, false, false, false, false, true] [8] [[(5, none)], [(17, some 0)], [(0, none)], [(5, none)], [(20, some 3)], [(19, some 2), (21, some 4)], [(18, some 1), (22, some 5)], [], []] [?b19_0, ?b19_1, ?b19_2, ?b19_3, ?b19_4, ?b19_5, ?b19_6, ?b19_7, VP.top] (by kernel_rfl) rfl (by kernel_rfl) hr ?t19 ?o19 ?_
  case o19 =>
   refine lc0 (fun A W hx hf => ?_) ?_
   exact ok_fieldS 3 Try.underlying41 (k := 3) rfl size3 rfl (o2 s5 e_w8 hx (r0 hf)) rfl
   refine lc0 (fun A W hx hf => ?_) ?_
   exact ok_loadS Try.underlying3 rfl (q0 ?b19_0 A W 17 hf) rfl
   refine lc0 (fun A W hx hf => ?_) ?_
   exact ok_movE (a0 := a11) (r0 hf)
   refine lc0 (fun A W hx hf => ?_) ?_
   exact ok_fieldS 4 Try.underlying41 (k := 4) rfl size3 rfl (o2 s5 e_w8 hx (r0 hf)) rfl
   refine lc0 (fun A W hx hf => ?_) ?_
   exact ok_loadS Try.underlying3 rfl (q0 ?b19_3 A W 20 hf) rfl
   refine lc0 (fun A W hx hf => ?_) ?_
   exact ok_slice_lo (cutA l) Try.underlying22 size5 (BsW.now (p2 s0 e_w hx (q0 ?b19_2 A W 19 hf))) (Is.int (q1 ?b19_4 A W 21 hf) (by exact y5)) (by omega)
   refine lc0 (fun A W hx hf => ?_) ?_
   exact ok_call2 body29 (c_tread (q0 ?b19_1 A W 18 hf) (q1 ?b19_5 A W 22 hf))
   refine lc0 (fun A W hx hf => ?_) ?_
   exact ok_allocS (netS net0) [1, 1, 1, 1, 1] zerov54 (by rfl) (by rfl) hx.size
   refine lcs ?_
   exact lcn
  case t19 => exact inferInstance
  clear hr; intro a20 w20 x hr hd hs
  have z_w_w18 := e_w.size
  have z_w8_w18 := e_w8.size
  have z_w11_w18 := e_w11.size
  have l20_2 := PxS.lt (later e_w8 s2)
  have l20_3 := PxS.lt (later e_w8 s3)
  have l20_5 := PxS.lt (later e_w8 s5)
  have l20_gL := OwnRA.lt (later e_w8 gL)
  have u19 := mv s0 (fa ?b19_2 a20 w20 19 (hd 2 19 rfl rfl))
  revert s5; revert s3; revert s2; revert s0; refine kp4 hs rfl ?_; intro s0 s2 s3 s5
  clear s14
  have s19 := u19; clear u19
  have s17 := fa ?b19_0 a20 w20 17 (hd 0 17 rfl rfl)
  have s18 := fa ?b19_1 a20 w20 18 (hd 1 18 rfl rfl)
  have s20 := fa ?b19_3 a20 w20 20 (hd 3 20 rfl rfl)
  have s21 := fa ?b19_4 a20 w20 21 (hd 4 21 rfl rfl)
  have s22 := fa ?b19_5 a20 w20 22 (hd 5 22 rfl rfl)
  have s23 := fa ?b19_6 a20 w20 23 (hd 6 23 rfl rfl)
  have s7 := fa ?b19_7 a20 w20 7 (hd 7 7 rfl rfl)
  obtain ⟨g20_7, q20_7⟩ := PxN.at s7; clear s7; have n20_7 := PxS.lt q20_7
  replace q20_7 := PxS.mono q20_7 e_w.size
  have s7 := q20_7; clear q20_7
  replace e_w := e_w.trans x
  replace e_w8 := e_w8.trans x
  clear e_w11
  clear hd hs x
  show wpList _ _ _ [_] _ _
  have z21 := PxS.lt s7
  have l21 := (show (g20_7 = 0 ∨ w.heap.size < g20_7) ∧ True from ⟨by omega, trivial⟩)
  have l21_2 := PxS.lt (later e_w8 s2)
  have l21_3 := PxS.lt (later e_w8 s3)
  have l21_5 := PxS.lt (later e_w8 s5)
  have l21_gL := OwnRA.lt (later e_w8 gL)
  refine wl_storeSm (netS (cutN l)) hr size54 s7 (Is.conv s23 (show NetV _ = NetV (cutN l) from by rw [hcn])) (by rfl) (by exact net_one) rfl ?_; clear hr; intro a21 w21 hc hu hr hs
  have hb : Below w.heap.size w20 w21 := hc.below e_w.size l21.1
  revert s7; revert s5; revert s3; revert s2; revert s0; refine kp5 hs rfl ?_; intro s0 s2 s3 s5 s7
  clear s19 s17 s18 s20 s21 s22 s23
  replace s2 := PxS.other (later e_w8 s2) hc (by omega)
  replace s3 := PxS.other (later e_w8 s3) hc (by omega)
  replace s5 := PxS.other (later e_w8 s5) hc (by omega)
  replace s7 := hu _ _ _ s7
  try simp only [List.set_cons_zero, List.set_cons_succ, lnkS, netS] at s7
  replace gL := OwnRA.other (later e_w8 gL) hc (by omega)
  replace e_w := e_w.below (Nat.le_refl _) hb
  clear e_w8
  clear hu hs hc hb
  refine wpList_nil ?_
  refine exit_then ?_
  refine wp_seq ?_
  refine wp_anyH_start (fun W => Below w.heap.size w W ∧ BlkS g7_5 [6, 6, 1, 1, 1] _ W ∧ BlkS g20_7 [1, 1, 1, 1, 1] _ W) mixed (fun w' x => ⟨(e_w.trans x), PxS.blkS (later x s5), PxS.blkS (later x s7)⟩) (fun w22 x _ => ?_)
  show wpAnyH _ _ _ _ _ 14 _ _ _
  replace e_w := e_w.trans x
  have e_w21 := x
  clear x
  refine anyH_op (i := 0) hr rfl (by decide) (by kernel_rfl) (fun _ _ _ _ h => h) (yh_loadAgS 5 Try.underlying41 rfl size41 (later e_w21 s5) (fun W hW => hW.2.1) rfl) ⟨e_w, PxS.blkS (later e_w21 s5), PxS.blkS (later e_w21 s7)⟩ ?_; clear hr; intro a23 hr hd hs
  revert s7; revert s5; revert s3; revert s2; revert s0; refine kp5 hs rfl ?_; intro s0 s2 s3 s5 s7
  have s24 := hd
  clear hd hs
  refine anyH_op (i := 1) hr rfl (by decide) (by kernel_rfl) (fun _ _ _ _ h => h) (yh_loadAgS 5 Try.underlying54 rfl size54 (later e_w21 s7) (fun W hW => hW.2.2) rfl) ⟨e_w, PxS.blkS (later e_w21 s5), PxS.blkS (later e_w21 s7)⟩ ?_; clear hr; intro a24 hr hd hs
  revert s24; revert s7; revert s5; revert s3; revert s2; revert s0; refine kp6 hs rfl ?_; intro s0 s2 s3 s5 s7 s24
  have s25 := hd
  clear hd hs
  refine anyH_op (i := 2) hr rfl (by decide) (by kernel_rfl) (fun _ _ _ _ h => h) (yh (py_of (ok_move (later e_w s0)) (pv_move))) ⟨e_w, PxS.blkS (later e_w21 s5), PxS.blkS (later e_w21 s7)⟩ ?_; clear hr; intro a25 hr hd hs
  revert s25; revert s24; revert s7; revert s5; revert s3; revert s2; refine kp6 hs rfl ?_; intro s2 s3 s5 s7 s24 s25
  clear s0
  have s26 := hd
  clear hd hs
  refine anyH_op (i := 3) hr rfl (by decide) (by kernel_rfl) (fun _ _ _ _ h => h) (yh (py_of (ok_fieldS 4 Try.underlying41 (k := 4) rfl size3 rfl (later e_w21 s5) rfl) (pv_field Try.underlying41 (k := 4) rfl size3 rfl (PxS.cells (later e_w21 s5))))) ⟨e_w, PxS.blkS (later e_w21 s5), PxS.blkS (later e_w21 s7)⟩ ?_; clear hr; intro a26 hr hd hs
  revert s25; revert s24; revert s7; revert s5; revert s3; revert s2; refine kp6 hs rfl ?_; intro s2 s3 s5 s7 s24 s25
  revert s26; refine kp1 hs rfl ?_; intro s26
  have s27 := hd
  clear hd hs
  refine anyH_op (i := 4) hr rfl (by decide) (by kernel_rfl) (fun _ _ _ _ h => h) (yh_loadSg Try.underlying3 rfl s27 (fun W hW => hW.2.1) rfl) ⟨e_w, PxS.blkS (later e_w21 s5), PxS.blkS (later e_w21 s7)⟩ ?_; clear hr; intro a27 hr hd hs
  revert s25; revert s24; revert s7; revert s5; revert s3; revert s2; refine kp6 hs rfl ?_; intro s2 s3 s5 s7 s24 s25
  revert s26; refine kp1 hs rfl ?_; intro s26
  clear s27
  have s28 := hd
  clear hd hs
  refine anyH_op (i := 5) hr rfl (by decide) (by kernel_rfl) (fun _ _ _ _ h => h) (yh (py_of (ok_fieldS 4 Try.underlying41 (k := 4) rfl size3 rfl (later e_w21 s5) rfl) (pv_field Try.underlying41 (k := 4) rfl size3 rfl (PxS.cells (later e_w21 s5))))) ⟨e_w, PxS.blkS (later e_w21 s5), PxS.blkS (later e_w21 s7)⟩ ?_; clear hr; intro a28 hr hd hs
  revert s25; revert s24; revert s7; revert s5; revert s3; revert s2; refine kp6 hs rfl ?_; intro s2 s3 s5 s7 s24 s25
  revert s28; revert s26; refine kp2 hs rfl ?_; intro s26 s28
  have s29 := hd
  clear hd hs
  refine anyH_op (i := 6) hr rfl (by decide) (by kernel_rfl) (fun _ _ _ _ h => h) (yh_loadSg Try.underlying3 rfl s29 (fun W hW => hW.2.1) rfl) ⟨e_w, PxS.blkS (later e_w21 s5), PxS.blkS (later e_w21 s7)⟩ ?_; clear hr; intro a29 hr hd hs
  revert s25; revert s24; revert s7; revert s5; revert s3; revert s2; refine kp6 hs rfl ?_; intro s2 s3 s5 s7 s24 s25
  revert s28; revert s26; refine kp2 hs rfl ?_; intro s26 s28
  clear s29
  have s30 := hd
  clear hd hs
  refine anyH_op (i := 7) hr rfl (by decide) (by kernel_rfl) (fun _ _ _ _ h => h) (yh (py_of (ok_fieldS 1 Try.underlying54 (k := 1) rfl size3 rfl (later e_w21 s7) rfl) (pv_field Try.underlying54 (k := 1) rfl size3 rfl (PxS.cells (later e_w21 s7))))) ⟨e_w, PxS.blkS (later e_w21 s5), PxS.blkS (later e_w21 s7)⟩ ?_; clear hr; intro a30 hr hd hs
  revert s25; revert s24; revert s7; revert s5; revert s3; revert s2; refine kp6 hs rfl ?_; intro s2 s3 s5 s7 s24 s25
  revert s30; revert s28; revert s26; refine kp3 hs rfl ?_; intro s26 s28 s30
  have s31 := hd
  clear hd hs
  refine anyH_op (i := 8) hr rfl (by decide) (by kernel_rfl) (fun _ _ _ _ h => h) (yh_loadSg Try.underlying3 rfl s31 (fun W hW => hW.2.2) rfl) ⟨e_w, PxS.blkS (later e_w21 s5), PxS.blkS (later e_w21 s7)⟩ ?_; clear hr; intro a31 hr hd hs
  revert s25; revert s24; revert s7; revert s5; revert s3; revert s2; refine kp6 hs rfl ?_; intro s2 s3 s5 s7 s24 s25
  revert s30; revert s28; revert s26; refine kp3 hs rfl ?_; intro s26 s28 s30
  clear s31
  have s32 := hd
  clear hd hs
  refine anyH_op (i := 9) hr rfl (by decide) (by kernel_rfl) (fun _ _ _ _ h => h) (yh (py_of (ok_addI s30 s32 (by show (-9223372036854775808 : Int) ≤ (cutL l).at' + (cutN l).total ∧ (cutL l).at' + (cutN l).total ≤ 9223372036854775807; omega)) (pv_bin (by simp) s30 s32 rfl))) ⟨e_w, PxS.blkS (later e_w21 s5), PxS.blkS (later e_w21 s7)⟩ ?_; clear hr; intro a32 hr hd hs
  revert s25; revert s24; revert s7; revert s5; revert s3; revert s2; refine kp6 hs rfl ?_; intro s2 s3 s5 s7 s24 s25
  revert s28; revert s26; refine kp2 hs rfl ?_; intro s26 s28
  clear s30 s32
  have s33 := hd
  clear hd hs
  refine anyH_op (i := 10) hr rfl (by decide) (by kernel_rfl) (fun _ _ _ _ h => h) (yh (py_of (okW_slice_lh (cutA l) (cutA l + (cutN l).total.toNat) Try.underlying22 size5 (BsW.old s26) (Is.int s28 (by exact y5)) (Is.int s33 (by show (cutL l).at' + (cutN l).total = _; omega)) (by omega) (by omega)) (pv_slice_lh (cutA l) (cutA l + (cutN l).total.toNat) Try.underlying22 size5 (BsW.old s26) (Is.int s28 (by exact y5)) (Is.int s33 (by show (cutL l).at' + (cutN l).total = _; omega)) (by omega) (by omega)))) ⟨e_w, PxS.blkS (later e_w21 s5), PxS.blkS (later e_w21 s7)⟩ ?_; clear hr; intro a33 hr hd hs
  revert s25; revert s24; revert s7; revert s5; revert s3; revert s2; refine kp6 hs rfl ?_; intro s2 s3 s5 s7 s24 s25
  clear s26 s28 s33
  have s34 := hd
  clear hd hs
  refine anyH_br1 (i := 11) (by kernel_rfl) rfl ?_
  ·
   have z34 := PxS.lt (later e_w21 s2)
   have l34 := (show (g2_2 = 0 ∨ w.heap.size < g2_2) ∧ True from ⟨by omega, trivial⟩)
   have l34_3 := PxS.lt (later e_w21 s3)
   have l34_5 := PxS.lt (later e_w21 s5)
   have l34_7 := PxS.lt (later e_w21 s7)
   have l34_gL := OwnRA.lt (later e_w21 gL)
   refine wl_storeSn hr size41 (later e_w21 s2) (Is.conv s24 (lnk_all (L := cutL l) (v := sv11))) (by exact lnk_len (cutL_ok _)) (by exact lnk_one (rw_one (OwnRA.rw (later e_w21 gL)))) rfl ?_; clear hr; intro a34 w34 hc hu hr hs
   have hb : Below w.heap.size w22 w34 := hc.below e_w.size l34.1
   revert s34; revert s25; revert s7; revert s5; revert s3; revert s2; refine kp6 hs rfl ?_; intro s2 s3 s5 s7 s25 s34
   clear s24
   replace s2 := hu _ _ _ (later e_w21 s2)
   try simp only [List.set_cons_zero, List.set_cons_succ, lnkS, netS] at s2
   replace s3 := PxS.other (later e_w21 s3) hc (by omega)
   replace s5 := PxS.other (later e_w21 s5) hc (by omega)
   replace s7 := PxS.other (later e_w21 s7) hc (by omega)
   replace gL := OwnRA.other (later e_w21 gL) hc (by omega)
   replace e_w := e_w.below (Nat.le_refl _) hb
   clear e_w21
   replace s25 := anyw (w2 := w34) s25
   replace s34 := AtW.any (w2 := w34) s34
   clear hu hs hc hb
   refine qn_done ⟨e_w, PxS.blkS s5, PxS.blkS s7⟩ ?_
   refine anyH_br1 (i := 12) (by kernel_rfl) rfl ?_
   ·
    have z35 := PxS.lt s3
    have l35 := (show (g3_3 = 0 ∨ w.heap.size < g3_3) ∧ True from ⟨by omega, trivial⟩)
    have l35_2 := PxS.lt s2
    have l35_5 := PxS.lt s5
    have l35_7 := PxS.lt s7
    have l35_gL := OwnRA.lt gL
    refine wl_storeSn hr size54 s3 (Is.conv s25 (show _ = NetV (cutN l) from rfl)) (by exact net_len _) (by exact net_one) rfl ?_; clear hr; intro a35 w35 hc hu hr hs
    have hb : Below w.heap.size w34 w35 := hc.below e_w.size l35.1
    revert s34; revert s7; revert s5; revert s3; revert s2; refine kp5 hs rfl ?_; intro s2 s3 s5 s7 s34
    clear s25
    replace s2 := PxS.other s2 hc (by omega)
    replace s3 := hu _ _ _ s3
    try simp only [List.set_cons_zero, List.set_cons_succ, lnkS, netS] at s3
    replace s5 := PxS.other s5 hc (by omega)
    replace s7 := PxS.other s7 hc (by omega)
    replace gL := OwnRA.other gL hc (by omega)
    replace e_w := e_w.below (Nat.le_refl _) hb
    replace s34 := AtW.any (w2 := w35) s34
    clear hu hs hc hb
    refine qn_done ⟨e_w, PxS.blkS s5, PxS.blkS s7⟩ ?_
    refine anyH_op (i := 13) hr rfl (by decide) (by kernel_rfl) (fun _ _ _ _ h => h) (yh (py_of (ok_assign s34) (pv_assign))) ⟨e_w, PxS.blkS s5, PxS.blkS s7⟩ ?_; clear hr; intro a36 hr hd hs
    revert s7; revert s5; revert s3; revert s2; refine kp4 hs rfl ?_; intro s2 s3 s5 s7
    clear s34
    have s4 := hd
    clear hd hs
    refine anyH_done (by kernel_rfl) ?_
    refine exit_then ?_
    refine wp_ret ?_
    refine ret_cct Try.results19 hr Try.underlying41 rfl size41 s2 Try.underlying54 rfl size54 s3 e_w ?_
    first | (rw [hcn, hcp]; exact ⟨_, _, _, rfl, ⟨_, rfl, OwnR.mono (OwnRA.own gL) hB⟩, rfl, s4⟩) | (rw [hcp]; exact ⟨_, _, _, rfl, ⟨_, rfl, OwnR.mono (OwnRA.own gL) hB⟩, rfl, s4⟩)

theorem c_plain1 {x0 : Value} {w : World} {c : UInt8} (h0 : (ByteIs c) x0 w)  :
    Calls Try.prog 38 #[x0] w (Ret (Is (.bool (c != 0))) w) := by
 refine enter Try.func38 rfl Try.ntmps38 (k := 1) rfl (by decide) (fun a0 hr hargs => ?_)
 have s0 := sarg h0 (hargs 0 (by decide))
 clear hargs
 refine wp_seq ?_
 refine wp_reg 5 [[]] [?b1_0] mixed hr ?t1 ?o1 ?_
 case o1 =>
  refine oc0 (fun A W hx hf => ?_) ?_
  exact ok_assignc
  exact OpsOk.nil
 case t1 => exact inferInstance
 clear hr; intro a2 w2 x hr hd hs
 revert s0; refine kp1 hs rfl ?_; intro s0
 have e_w := x
 clear hd hs x
 refine exit_then ?_
 refine wp_seq ?_
 refine wp_reg 5 [[(0, none)], [(3, some 0)], [(4, some 1)]] [?b3_0, ?b3_1, ?b3_1] mixed hr ?t3 ?o3 ?_
 case o3 =>
  refine oc0 (fun A W hx hf => ?_) ?_
  exact ok_movE (a0 := a2) (r0 hf)
  refine oc0 (fun A W hx hf => ?_) ?_
  exact ok_neq (p2 s0 e_w hx (q0 ?b3_0 A W 3 hf)) (ec A (.int .u8 0))
  refine oc0 (fun A W hx hf => ?_) ?_
  exact ok_assign (q0 ?b3_1 A W 4 hf)
  exact OpsOk.nil
 case t3 => exact inferInstance
 clear hr; intro a4 w4 x hr hd hs
 clear s0
 have s2 := fa ?b3_1 a4 w4 2 (hd 2 2 rfl)
 replace e_w := e_w.trans x
 clear hd hs x
 refine exit_then ?_
 refine wp_ret ?_
 refine ret_tmp Try.results38 hr e_w ?_
 exact Is.bool s2 (nz_int c)

theorem c_plain {x0 : Value} {w : World} {Sa : Adr} (h0 : (Is (AdrV Sa)) x0 w) (hA : Sa.b.length = 16) :
    Calls Try.prog 20 #[x0] w (Ret (Is (.bool (!(Sa.b.drop 4).any (fun c => c != 0)))) w) := by
 refine enter Try.func20 rfl Try.ntmps20 (k := 1) rfl (by decide) (fun a0 hr hargs => ?_)
 have s0 := sarg h0 (hargs 0 (by decide))
 clear hargs
 refine wp_seq ?_
 refine wp_reg 7 [[(0, none)], []] [?b1_0, ?b1_1] mixed hr ?t1 ?o1 ?_
 case o1 =>
  refine oc0 (fun A W hx hf => ?_) ?_
  exact ok_boxA (o1 s0 hx (r0 hf))
  refine oc0 (fun A W hx hf => ?_) ?_
  exact ok_assignc
  exact OpsOk.nil
 case t1 => exact inferInstance
 clear hr; intro a2 w2 x hr hd hs
 clear s0
 have s1 := fa ?b1_0 a2 w2 1 (hd 0 1 rfl)
 have e_w := x
 clear hd hs x
 refine exit_then ?_
 refine wp_seq ?_
 refine wp_reg 7 [[(1, none)], [(3, some 0)], [(4, some 1)], [(5, some 2)], [(6, some 3)]] [?b3_0, ?b3_1, ?b3_2, ?b3_3, ?b3_3] mixed hr ?t3 ?o3 ?_
 case o3 =>
  refine oc0 (fun A W hx hf => ?_) ?_
  exact ok_fieldAddr Try.underlying25 (i := 1) rfl size23 rfl (o1 s1 hx (r0 hf))
  refine oc0 (fun A W hx hf => ?_) ?_
  exact ok_arr_lo 4 Try.underlying23 size5 (adr_take hA) hA (by decide) (q0 ?b3_0 A W 3 hf) (ec A (.int .i64 4)) (by first | omega | decide | (simp; done) | (simp; omega))
  refine oc0 (fun A W hx hf => ?_) ?_
  exact ok_call2 body37 (c_ContainsFunc (q0 ?b3_1 A W 4 hf) (show Is (FnV 38) (A.eval (.func 38)) _ from rfl) body38 fun c x w hc => c_plain1 hc)
  refine oc0 (fun A W hx hf => ?_) ?_
  exact ok_not (q0 ?b3_2 A W 5 hf)
  refine oc0 (fun A W hx hf => ?_) ?_
  exact ok_assign (q0 ?b3_3 A W 6 hf)
  exact OpsOk.nil
 case t3 => exact inferInstance
 clear hr; intro a4 w4 x hr hd hs
 clear s1
 have s2 := fa ?b3_3 a4 w4 2 (hd 4 2 rfl)
 replace e_w := e_w.trans x
 clear hd hs x
 refine exit_then ?_
 refine wp_ret ?_
 refine ret_tmp Try.results20 hr e_w ?_
 exact s2

theorem c_inner {x0 : Value} {w : World} {z : Int} (h0 : (Is (.int .i64 z)) x0 w)  :
    Calls Try.prog 28 #[x0] w (Ret (Is (.int .i64 (innerI z))) w) := by
 refine enter Try.func28 rfl Try.ntmps28 (k := 1) rfl (by decide) (fun a0 hr hargs => ?_)
 have s0 := sarg h0 (hargs 0 (by decide))
 clear hargs
 refine wp_seq ?_
 refine wp_reg 8 [[]] [?b1_0] mixed hr ?t1 ?o1 ?_
 case o1 =>
  refine oc0 (fun A W hx hf => ?_) ?_
  exact ok_assignc
  exact OpsOk.nil
 case t1 => exact inferInstance
 clear hr; intro a2 w2 x hr hd hs
 revert s0; refine kp1 hs rfl ?_; intro s0
 have e_w := x
 clear hd hs x
 refine exit_then ?_
 refine wp_seq ?_
 refine wp_seq ?_
 refine wp_reg 8 [[(0, none)]] [?b3_0] mixed hr ?t3 ?o3 ?_
 case o3 =>
  refine oc0 (fun A W hx hf => ?_) ?_
  exact ok_movE (a0 := a2) (r0 hf)
  exact OpsOk.nil
 case t3 => exact inferInstance
 clear hr; intro a4 w4 x hr hd hs
 have u3 := mv s0 (fa ?b3_0 a4 w4 3 (hd 0 3 rfl))
 clear s0
 have s3 := u3; clear u3
 replace e_w := e_w.trans x
 clear hd hs x
 refine exit_then ?_
 refine wp_block ?_
 refine wp_seq ?_
 refine wp_reg 8 [[(3, none)], [(5, some 0)]] [?b5_0, ?b5_0] mixed hr ?t5 ?o5 ?_
 case o5 =>
  refine oc0 (fun A W hx hf => ?_) ?_
  exact ok_eql (o2 s3 e_w hx (r0 hf)) (ec A (.int .i64 4))
  refine oc0 (fun A W hx hf => ?_) ?_
  exact ok_assign (q0 ?b5_0 A W 5 hf)
  exact OpsOk.nil
 case t5 => exact inferInstance
 clear hr; intro a6 w6 x hr hd hs
 revert s3; refine kp1 hs rfl ?_; intro s3
 have s4 := fa ?b5_0 a6 w6 4 (hd 1 4 rfl)
 replace e_w := e_w.trans x
 clear hd hs x
 refine exit_then ?_
 refine wp_cond_split (show _ = _ from s4) (fun hk => ?_) (fun hk => ?_)
 ·
  have hk : z = 4 := by simpa using hk
  refine wp_seq ?_
  refine wp_reg 8 [[]] [?b8_0] mixed hr ?t8 ?o8 ?_
  case o8 =>
   refine oc0 (fun A W hx hf => ?_) ?_
   exact ok_assignc
   exact OpsOk.nil
  case t8 => exact inferInstance
  clear hr; intro a9 w9 x hr hd hs
  clear s3 s4
  have s2 := fa ?b8_0 a9 w9 2 (hd 0 2 rfl)
  replace e_w := e_w.trans x
  clear hd hs x
  refine exit_then ?_
  refine wp_ret ?_
  refine blk_ret ?_
  refine then_ret ?_
  refine ret_tmp Try.results28 hr e_w ?_
  first | exact Is.int s2 (by unfold innerI; rw [if_pos hk]) | exact Is.int s2 (by unfold innerI; rw [if_neg hk, if_pos hk2]) | exact Is.int s2 (by unfold innerI; rw [if_neg hk, if_neg hk2])
 ·
  have hk : z ≠ 4 := by simpa using hk
  refine wp_seq ?_
  refine wp_reg 8 [[(3, none)], [(7, some 0)]] [?b10_0, ?b10_0] mixed hr ?t10 ?o10 ?_
  case o10 =>
   refine oc0 (fun A W hx hf => ?_) ?_
   exact ok_eql (o2 s3 e_w hx (r0 hf)) (ec A (.int .i64 41))
   refine oc0 (fun A W hx hf => ?_) ?_
   exact ok_assign (q0 ?b10_0 A W 7 hf)
   exact OpsOk.nil
  case t10 => exact inferInstance
  clear hr; intro a11 w11 x hr hd hs
  clear s3 s4
  have s6 := fa ?b10_0 a11 w11 6 (hd 1 6 rfl)
  replace e_w := e_w.trans x
  clear hd hs x
  refine exit_then ?_
  refine wp_cond_split (show _ = _ from s6) (fun hk2 => ?_) (fun hk2 => ?_)
  ·
   have hk2 : z = 41 := by simpa using hk2
   refine wp_seq ?_
   refine wp_reg 8 [[]] [?b13_0] mixed hr ?t13 ?o13 ?_
   case o13 =>
    refine oc0 (fun A W hx hf => ?_) ?_
    exact ok_assignc
    exact OpsOk.nil
   case t13 => exact inferInstance
   clear hr; intro a14 w14 x hr hd hs
   clear s6
   have s2 := fa ?b13_0 a14 w14 2 (hd 0 2 rfl)
   replace e_w := e_w.trans x
   clear hd hs x
   refine exit_then ?_
   refine wp_ret ?_
   refine blk_ret ?_
   refine then_ret ?_
   refine ret_tmp Try.results28 hr e_w ?_
   first | exact Is.int s2 (by unfold innerI; rw [if_pos hk]) | exact Is.int s2 (by unfold innerI; rw [if_neg hk, if_pos hk2]) | exact Is.int s2 (by unfold innerI; rw [if_neg hk, if_neg hk2])
  ·
   have hk2 : z ≠ 41 := by simpa using hk2
   refine wp_skip ?_
   refine blk_normal ?_
   refine exit_then ?_
   refine wp_seq ?_
   refine wp_reg 8 [[]] [?b15_0] mixed hr ?t15 ?o15 ?_
   case o15 =>
    refine oc0 (fun A W hx hf => ?_) ?_
    exact ok_assignc
    exact OpsOk.nil
   case t15 => exact inferInstance
   clear hr; intro a16 w16 x hr hd hs
   clear s6
   have s2 := fa ?b15_0 a16 w16 2 (hd 0 2 rfl)
   replace e_w := e_w.trans x
   clear hd hs x
   refine exit_then ?_
   refine wp_ret ?_
   refine ret_tmp Try.results28 hr e_w ?_
   first | exact Is.int s2 (by unfold innerI; rw [if_pos hk]) | exact Is.int s2 (by unfold innerI; rw [if_neg hk, if_pos hk2]) | exact Is.int s2 (by unfold innerI; rw [if_neg hk, if_neg hk2])

theorem c_join {x0 x1 x2 : Value} {w : World} {L : LinkL} {z : Int} {ls : List (List UInt8)} {B : Nat} (h0 : (LinkV L) x0 w) (h1 : (Is (.int .i64 z)) x1 w) (h2 : (Bss ls) x2 w) (hL : LinkOk L) (hn9 : ls.flatten.length ≤ 1000000) (hB : B ≤ w.heap.size) :
    Calls Try.prog 22 #[x0, x1, x2] w (Ret (OwnB B 5 ((linkPutR { L with type := z }).1 ++ ls.flatten)) w) := by
 obtain ⟨v, eh0, hT, hvh0⟩ := h0
 replace h0 : Is (LnkA L v) x0 w := eh0
 have hpl : (linkPutR { L with type := z }).1.length ≤ 22 := linkPutR_len hL
 refine enter Try.func22 rfl Try.ntmps22 (k := 3) rfl (by decide) (fun a0 hr hargs => ?_)
 have s0 := sarg h0 (hargs 0 (by decide))
 have s1 := sarg h1 (hargs 1 (by decide))
 have s2 := sarg h2 (hargs 2 (by decide))
 clear hargs
 refine wp_seq ?_
 refine wp_reg 21 [[(0, none)], []] [?b1_0, ?b1_1] mixed hr ?t1 ?o1 ?_
 case o1 =>
  refine oc0 (fun A W hx hf => ?_) ?_
  exact ok_boxS (lnkS L v) [6, 6, 1, 1, 1] (o1 s0 hx (r0 hf)) (by exact lnkS_lens hL) hx.size
  refine oc0 (fun A W hx hf => ?_) ?_
  exact ok_assignv (OwnBA 0 w.heap.size 5 []) (fun _ => ownBA_nil)
  exact OpsOk.nil
 case t1 => exact inferInstance
 clear hr; intro a2 w2 x hr hd hs
 revert s2; revert s1; refine kp2 hs rfl ?_; intro s1 s2
 clear s0
 have s3 := fa ?b1_0 a2 w2 3 (hd 0 3 rfl)
 obtain ⟨g2_3, q2_3⟩ := PxN.at s3; clear s3; have n2_3 := PxS.lt q2_3
 have s3 := q2_3; clear q2_3
 have e_w := x
 clear hd hs x
 refine exit_then ?_
 refine wp_seq ?_
 refine wp_reg_pre (l := [_, _]) (rest := [_]) 21 [[(1, none)], [(3, none)]] [?b3_0, ?b3_1] hr ?t3 ?o3 ?_
 case o3 =>
  refine oc0 (fun A W hx hf => ?_) ?_
  exact ok_movE (a0 := a2) (r0 hf)
  refine oc0 (fun A W hx hf => ?_) ?_
  exact ok_fieldS 3 Try.underlying41 (k := 3) rfl size3 rfl (o1 s3 hx (r0 hf)) rfl
  exact OpsOk.nil
 case t3 => exact inferInstance
 clear hr; intro a4 w4 x hr hd hs
 have u9 := mv s1 (fa ?b3_0 a4 w4 9 (hd 0 9 rfl))
 revert s3; revert s2; refine kp2 hs rfl ?_; intro s2 s3
 clear s1
 have s9 := u9; clear u9
 have s10 := fa ?b3_1 a4 w4 10 (hd 1 10 rfl)
 replace e_w := e_w.trans x
 have e_w2 := x
 clear hd hs x
 have z5 := PxS.lt s10
 have l5 := (show (g2_3 = 0 ∨ w.heap.size < g2_3) ∧ True from ⟨by omega, trivial⟩)
 refine wl_storeS hr size3 s10 (later e_w s9) (by rfl) rfl ?_; clear hr; intro a5 w5 hc hu hr hs
 have hb : Below w.heap.size w4 w5 := hc.below e_w.size l5.1
 revert s3; revert s2; refine kp2 hs rfl ?_; intro s2 s3
 clear s9 s10
 replace s3 := hu _ _ _ (later e_w2 s3)
 try simp only [List.set_cons_zero, List.set_cons_succ, lnkS] at s3
 replace e_w := e_w.below (Nat.le_refl _) hb
 clear e_w2
 clear hu hs hc hb
 refine wpList_nil ?_
 replace s3 := PxS.cast s3 (show _ = lnkS { L with type := z } v from rfl)
 refine exit_then ?_
 refine wp_seq ?_
 refine wp_reg 21 [[(3, none)], [(12, some 0)], [(13, some 1)], [(11, some 2)], [(11, some 2)], [(14, some 3)], [(15, some 4)]] [?b6_0, ?b6_1, ?b6_1, ?b6_3, ?b6_4, ?b6_3, ?b6_4] mixed hr ?t6 ?o6 ?_
 case o6 =>
  refine oc0 (fun A W hx hf => ?_) ?_
  exact ok_loadAggS 5 Try.underlying41 rfl size41 (o1 s3 hx (r0 hf)) rfl
  refine oc0 (fun A W hx hf => ?_) ?_
  exact ok_call1 body43 (c_lPut (LinkV.of (show Is (LnkA { L with type := z } v) _ _ from (q0 ?b6_0 A W 12 hf)) (later (e_w.trans hx) hT)) (by exact hL) hx.size)
  refine oc0 (fun A W hx hf => ?_) ?_
  exact ok_move (q0 ?b6_1 A W 13 hf)
  refine oc0 (fun A W hx hf => ?_) ?_
  exact ok_ext0 (q0 ?b6_1 A W 11 hf)
  refine oc0 (fun A W hx hf => ?_) ?_
  exact ok_ext1 (q0 ?b6_1 A W 11 hf)
  refine oc0 (fun A W hx hf => ?_) ?_
  exact ok_assign (q0 ?b6_3 A W 14 hf)
  refine oc0 (fun A W hx hf => ?_) ?_
  exact ok_assign (q0 ?b6_4 A W 15 hf)
  exact OpsOk.nil
 case t6 => exact inferInstance
 clear hr; intro a7 w7 x hr hd hs
 have z_w_w5 := e_w.size
 have l7_3 := PxS.lt s3
 revert s2; refine kp1 hs rfl ?_; intro s2
 clear s3
 have s7 := fa ?b6_3 a7 w7 7 (hd 5 7 rfl)
 obtain ⟨g7_7, q7_7⟩ := OwnB.at s7; clear s7; have n7_7 := OwnBA.lt q7_7
 replace q7_7 := OwnBA.mono q7_7 e_w.size
 have s7 := q7_7; clear q7_7
 replace e_w := e_w.trans x
 clear hd hs x
 refine exit_then ?_
 refine wp_seq ?_
 refine wp_reg 21 [[(7, none)], [(2, none)], [(17, some 1)], [(16, some 0), (18, some 2)], [(19, some 3)], [(20, some 4)]] [?b8_0, ?b8_1, ?b8_2, ?b8_3, ?b8_4, ?b8_4] mixed hr ?t8 ?o8 ?_
 case o8 =>
  refine oc0 (fun A W hx hf => ?_) ?_
  exact ok_movE (a0 := a7) (r0 hf)
  refine oc0 (fun A W hx hf => ?_) ?_
  exact ok_movE (a0 := a7) (r0 hf)
  refine oc0 (fun A W hx hf => ?_) ?_
  exact ok_call1 body42 (c_concat (p2 s2 e_w hx (q0 ?b8_1 A W 17 hf)) hx.size (by omega))
  refine oc0 (fun A W hx hf => ?_) ?_
  exact ok_buildBss [(.tmp 16), (.tmp 18)] [_, _] Try.underlying88 size22 zero22 rfl rfl (by decide) (PartsOk.cons (OwnBA.bs (p1 s7 hx (q0 ?b8_0 A W 16 hf))) (PartsOk.cons (OwnB.bs (q1 ?b8_2 A W 18 hf)) (PartsOk.nil)))
  refine oc0 (fun A W hx hf => ?_) ?_
  exact ok_call1 body42 (c_concat (q0 ?b8_3 A W 19 hf) hx.size (by simp only [List.flatten_cons, List.flatten_nil, List.append_nil, List.length_append]; omega))
  refine oc0 (fun A W hx hf => ?_) ?_
  exact ok_assign (q0 ?b8_4 A W 20 hf)
  exact OpsOk.nil
 case t8 => exact inferInstance
 clear hr; intro a9 w9 x hr hd hs
 have z_w_w7 := e_w.size
 have l9_7 := OwnBA.lt s7
 clear s2 s7
 have s6 := fa ?b8_4 a9 w9 6 (hd 5 6 rfl)
 obtain ⟨g9_6, q9_6⟩ := OwnB.at s6; clear s6; have n9_6 := OwnBA.lt q9_6
 replace q9_6 := OwnBA.mono q9_6 e_w.size
 have s6 := q9_6; clear q9_6
 replace e_w := e_w.trans x
 clear hd hs x
 refine exit_then ?_
 refine wp_ret ?_
 refine ret_tmp Try.results22 hr e_w ?_
 exact OwnB.cast (OwnB.mono s6.own hB) (by simp)

end Go.Proofs.Ytnlmppannjebfaa
