import Derived.Test.YtnlmppannjebfaaC08
import Derived.Test.YtnlmppannjebfaaC09e
import Derived.Test.YtnlmppannjebfaaS13
import Derived.Test.YtnlmppannjebfaaI
namespace Go.Proofs.Ytnlmppannjebfaa
open Go.RowKit
set_option linter.unusedVariables false
set_option linter.unusedSimpArgs false
set_option maxRecDepth 4000
theorem c_r13Net {x0 x1 : Value} {w : World} {z : Int} {l : List UInt8} (h0 : (Is (.int .i64 z)) x0 w) (h1 : (Bs l) x1 w) (hn : l.length ≤ 1000000000000) :
    Calls Try.prog 16 #[x0, x1] w (Ret (Tup5 (Is (.int .i64 (netRead z l).head)) (Is (.int .i64 (netRead z l).total)) (Is (.int .i64 (netRead z l).proto)) (Is (.bool (netRead z l).frag)) (Is (.bool (netRead z l).ok))) w) := by
 have hlen := Bs.len_le h1
 refine enter Try.func16 rfl Try.ntmps16 (k := 2) rfl (by decide) (fun a0 hr hargs => ?_)
 have s0 := sarg h0 (hargs 0 (by decide))
 have s1 := sarg h1 (hargs 1 (by decide))
 clear hargs
 refine wp_seq ?_
 refine wp_reg 47 [[], [], [], [], []] [?b1_0, ?b1_1, ?b1_2, ?b1_3, ?b1_4] mixed hr ?t1 ?o1 ?_
 case o1 =>
  refine oc0 (fun A W hx hf => ?_) ?_
  exact ok_assignc
  refine oc0 (fun A W hx hf => ?_) ?_
  exact ok_assignc
  refine oc0 (fun A W hx hf => ?_) ?_
  exact ok_assignc
  refine oc0 (fun A W hx hf => ?_) ?_
  exact ok_assignc
  refine oc0 (fun A W hx hf => ?_) ?_
  exact ok_assignc
  exact OpsOk.nil
 case t1 => exact inferInstance
 clear hr; intro a2 w2 x hr hd hs
 revert s1; revert s0; refine kp2 hs rfl ?_; intro s0 s1
 have e_w := x
 clear hd hs x
 refine exit_then ?_
 refine wp_seq ?_
 refine wp_seq ?_
 refine wp_reg 47 [[(0, none)], [(13, some 0)]] [?b3_0, ?b3_1] mixed hr ?t3 ?o3 ?_
 case o3 =>
  refine oc0 (fun A W hx hf => ?_) ?_
  exact ok_movE (a0 := a2) (r0 hf)
  refine oc0 (fun A W hx hf => ?_) ?_
  exact ok_eql (p2 s0 e_w hx (q0 ?b3_0 A W 13 hf)) (ec A (.int .i64 2048))
  exact OpsOk.nil
 case t3 => exact inferInstance
 clear hr; intro a4 w4 x hr hd hs
 revert s1; revert s0; refine kp2 hs rfl ?_; intro s0 s1
 have s14 := fa ?b3_1 a4 w4 14 (hd 1 14 rfl)
 replace e_w := e_w.trans x
 clear hd hs x
 refine exit_then ?_
 refine wp_cond_split (show _ = _ from s14) (fun hk => ?_) (fun hk => ?_)
 ·
  have hk : z = 2048 := by simpa using hk
  have hn9 : netRead z l = (⟨(fourRead l).1.head, (fourRead l).1.total, (fourRead l).1.proto, (fourRead l).1.frag, (fourRead l).2 == 0⟩ : NetL) := by unfold netRead; rw [if_pos hk]
  refine wp_seq ?_
  refine wp_reg_pre (l := [_, _, _, _, _, _]) (rest := [_, _]) 47 [[(1, none)], [(16, some 0)], [(17, some 1)], [(15, some 2)], [(15, some 2)], []] [?b6_0, ?b6_1, ?b6_1, ?b6_3, ?b6_4, ?b6_5] hr ?t6 ?o6 ?_
  case o6 =>
   refine oc0 (fun A W hx hf => ?_) ?_
   exact ok_movE (a0 := a4) (r0 hf)
   refine oc0 (fun A W hx hf => ?_) ?_
   exact ok_call1 body32 (c_r8Read (p2 s1 e_w hx (q0 ?b6_0 A W 16 hf)) (by omega))
   refine oc0 (fun A W hx hf => ?_) ?_
   exact ok_move (q0 ?b6_1 A W 17 hf)
   refine oc0 (fun A W hx hf => ?_) ?_
   exact ok_ext0 (q0 ?b6_1 A W 15 hf)
   refine oc0 (fun A W hx hf => ?_) ?_
   exact ok_ext1 (q0 ?b6_1 A W 15 hf)
   refine oc0 (fun A W hx hf => ?_) ?_
   exact ok_allocS (fourS2 four0) [1, 1, 1, 1, 1, 1, 1, 1, 1, 16, 1, 16] zerov64 (by rfl) (by rfl) hx.size
   exact OpsOk.nil
  case t6 => exact inferInstance
  clear hr; intro a7 w7 x hr hd hs
  have z_w_w4 := e_w.size
  clear s0 s1 s14
  have s18 := fa ?b6_3 a7 w7 18 (hd 3 18 rfl)
  have s19 := fa ?b6_4 a7 w7 19 (hd 4 19 rfl)
  have s9 := fa ?b6_5 a7 w7 9 (hd 5 9 rfl)
  obtain ⟨g7_9, q7_9⟩ := PxN.at s9; clear s9; have n7_9 := PxS.lt q7_9
  replace q7_9 := PxS.mono q7_9 e_w.size
  have s9 := q7_9; clear q7_9
  replace e_w := e_w.trans x
  clear hd hs x
  have z8 := PxS.lt s9
  have l8 := (show (g7_9 = 0 ∨ w.heap.size < g7_9) ∧ True from ⟨by omega, trivial⟩)
  refine wl_storeSm (fourS2 (fourRead l).1) hr size64 s9 s18 (by exact fourS2_lens (fourRead_ok _)) (by exact four_one) rfl ?_; clear hr; intro a8 w8 hc hu hr hs
  have hb : Below w.heap.size w7 w8 := hc.below e_w.size l8.1
  revert s9; revert s19; refine kp2 hs rfl ?_; intro s19 s9
  clear s18
  replace s9 := hu _ _ _ s9
  try simp only [List.set_cons_zero, List.set_cons_succ, fourS2, sixS2] at s9
  replace e_w := e_w.below (Nat.le_refl _) hb
  replace s19 := anyw (w2 := w8) s19
  clear hu hs hc hb
  refine wl_op hr (ok_assign s19) inferInstance ?_; clear hr; intro a9 w9 x hr hd hs
  revert s9; refine kp1 hs rfl ?_; intro s9
  clear s19
  have s10 := hd 10 rfl (by decide)
  replace e_w := e_w.trans x
  have e_w8 := x
  clear hd hs x
  refine wpList_nil ?_
  refine exit_then ?_
  refine wp_seq ?_
  refine wp_reg 47 [[(9, none)], [(20, some 0)], [(9, none)], [(22, some 2)], [(9, none)], [(24, some 4)], [(9, none)], [(26, some 6)], [(10, none)], [(28, some 8)], [(21, some 1)], [(23, some 3)], [(25, some 5)], [(27, some 7)], [(29, some 9)]] [?b10_0, ?b10_1, ?b10_2, ?b10_3, ?b10_4, ?b10_5, ?b10_6, ?b10_7, ?b10_8, ?b10_9, ?b10_1, ?b10_3, ?b10_5, ?b10_7, ?b10_9] mixed hr ?t10 ?o10 ?_
  case o10 =>
   refine oc0 (fun A W hx hf => ?_) ?_
   exact ok_fieldS 0 Try.underlying64 (k := 0) rfl size3 rfl (o2 s9 e_w8 hx (r0 hf)) rfl
   refine oc0 (fun A W hx hf => ?_) ?_
   exact ok_loadS Try.underlying3 rfl (q0 ?b10_0 A W 20 hf) rfl
   refine oc0 (fun A W hx hf => ?_) ?_
   exact ok_fieldS 1 Try.underlying64 (k := 1) rfl size3 rfl (o2 s9 e_w8 hx (r0 hf)) rfl
   refine oc0 (fun A W hx hf => ?_) ?_
   exact ok_loadS Try.underlying3 rfl (q0 ?b10_2 A W 22 hf) rfl
   refine oc0 (fun A W hx hf => ?_) ?_
   exact ok_fieldS 7 Try.underlying64 (k := 7) rfl size3 rfl (o2 s9 e_w8 hx (r0 hf)) rfl
   refine oc0 (fun A W hx hf => ?_) ?_
   exact ok_loadS Try.underlying3 rfl (q0 ?b10_4 A W 24 hf) rfl
   refine oc0 (fun A W hx hf => ?_) ?_
   exact ok_fieldS 4 Try.underlying64 (k := 4) rfl size4 rfl (o2 s9 e_w8 hx (r0 hf)) rfl
   refine oc0 (fun A W hx hf => ?_) ?_
   exact ok_loadS Try.underlying4 rfl (q0 ?b10_6 A W 26 hf) rfl
   refine oc0 (fun A W hx hf => ?_) ?_
   exact ok_movE (a0 := a9) (r0 hf)
   refine oc0 (fun A W hx hf => ?_) ?_
   exact ok_eql (p1 s10 hx (q0 ?b10_8 A W 28 hf)) (ec A (.int .i64 0))
   refine oc0 (fun A W hx hf => ?_) ?_
   exact ok_assign (q0 ?b10_1 A W 21 hf)
   refine oc0 (fun A W hx hf => ?_) ?_
   exact ok_assign (q0 ?b10_3 A W 23 hf)
   refine oc0 (fun A W hx hf => ?_) ?_
   exact ok_assign (q0 ?b10_5 A W 25 hf)
   refine oc0 (fun A W hx hf => ?_) ?_
   exact ok_assign (q0 ?b10_7 A W 27 hf)
   refine oc0 (fun A W hx hf => ?_) ?_
   exact ok_assign (q0 ?b10_9 A W 29 hf)
   exact OpsOk.nil
  case t10 => exact inferInstance
  clear hr; intro a11 w11 x hr hd hs
  clear s9 s10
  have s4 := fa ?b10_1 a11 w11 4 (hd 10 4 rfl)
  have s5 := fa ?b10_3 a11 w11 5 (hd 11 5 rfl)
  have s6 := fa ?b10_5 a11 w11 6 (hd 12 6 rfl)
  have s7 := fa ?b10_7 a11 w11 7 (hd 13 7 rfl)
  have s8 := fa ?b10_9 a11 w11 8 (hd 14 8 rfl)
  replace e_w := e_w.trans x
  clear e_w8
  clear hd hs x
  refine exit_then ?_
  refine wp_ret ?_
  refine then_ret ?_
  refine ret_tmp5 Try.results16 hr e_w ?_
  (rw [hn9]; exact ⟨_, _, _, _, _, rfl, s4, s5, s6, s7, s8⟩)
 ·
  have hk : z ≠ 2048 := by simpa using hk
  refine wp_skip ?_
  refine exit_then ?_
  refine wp_seq ?_
  refine wp_seq ?_
  refine wp_reg 47 [[(0, none)], [(30, some 0)]] [?b12_0, ?b12_1] mixed hr ?t12 ?o12 ?_
  case o12 =>
   refine oc0 (fun A W hx hf => ?_) ?_
   exact ok_movE (a0 := a4) (r0 hf)
   refine oc0 (fun A W hx hf => ?_) ?_
   exact ok_eql (p2 s0 e_w hx (q0 ?b12_0 A W 30 hf)) (ec A (.int .i64 34525))
   exact OpsOk.nil
  case t12 => exact inferInstance
  clear hr; intro a13 w13 x hr hd hs
  revert s1; refine kp1 hs rfl ?_; intro s1
  clear s0 s14
  have s31 := fa ?b12_1 a13 w13 31 (hd 1 31 rfl)
  replace e_w := e_w.trans x
  clear hd hs x
  refine exit_then ?_
  refine wp_cond_split (show _ = _ from s31) (fun hk2 => ?_) (fun hk2 => ?_)
  ·
   have hk2 : z = 34525 := by simpa using hk2
   have hn9 : netRead z l = (⟨(sixRead l).1.head, (sixRead l).1.total, (sixRead l).1.proto, (sixRead l).1.frag, (sixRead l).2 == 0⟩ : NetL) := by unfold netRead; rw [if_neg hk, if_pos hk2]
   refine wp_seq ?_
   refine wp_reg_pre (l := [_, _, _, _, _, _]) (rest := [_, _]) 47 [[(1, none)], [(33, some 0)], [(34, some 1)], [(32, some 2)], [(32, some 2)], []] [?b15_0, ?b15_1, ?b15_1, ?b15_3, ?b15_4, ?b15_5] hr ?t15 ?o15 ?_
   case o15 =>
    refine oc0 (fun A W hx hf => ?_) ?_
    exact ok_movE (a0 := a13) (r0 hf)
    refine oc0 (fun A W hx hf => ?_) ?_
    exact ok_call1 body33 (c_r9Read (p2 s1 e_w hx (q0 ?b15_0 A W 33 hf)))
    refine oc0 (fun A W hx hf => ?_) ?_
    exact ok_move (q0 ?b15_1 A W 34 hf)
    refine oc0 (fun A W hx hf => ?_) ?_
    exact ok_ext0 (q0 ?b15_1 A W 32 hf)
    refine oc0 (fun A W hx hf => ?_) ?_
    exact ok_ext1 (q0 ?b15_1 A W 32 hf)
    refine oc0 (fun A W hx hf => ?_) ?_
    exact ok_allocS (sixS2 six0) [1, 1, 1, 1, 1, 1, 1, 16, 1, 16] zerov60 (by rfl) (by rfl) hx.size
    exact OpsOk.nil
   case t15 => exact inferInstance
   clear hr; intro a16 w16 x hr hd hs
   have z_w_w13 := e_w.size
   clear s1 s31
   have s35 := fa ?b15_3 a16 w16 35 (hd 3 35 rfl)
   have s36 := fa ?b15_4 a16 w16 36 (hd 4 36 rfl)
   have s11 := fa ?b15_5 a16 w16 11 (hd 5 11 rfl)
   obtain ⟨g16_11, q16_11⟩ := PxN.at s11; clear s11; have n16_11 := PxS.lt q16_11
   replace q16_11 := PxS.mono q16_11 e_w.size
   have s11 := q16_11; clear q16_11
   replace e_w := e_w.trans x
   clear hd hs x
   have z17 := PxS.lt s11
   have l17 := (show (g16_11 = 0 ∨ w.heap.size < g16_11) ∧ True from ⟨by omega, trivial⟩)
   refine wl_storeSm (sixS2 (sixRead l).1) hr size60 s11 (Is.conv s35 (show SixV _ = _ from by unfold SixV; rw [six_seg])) (by exact sixS2_lens (sixRead_ok _)) (by rw [six_seg]; exact six_one) rfl ?_; clear hr; intro a17 w17 hc hu hr hs
   have hb : Below w.heap.size w16 w17 := hc.below e_w.size l17.1
   revert s11; revert s36; refine kp2 hs rfl ?_; intro s36 s11
   clear s35
   replace s11 := hu _ _ _ s11
   try simp only [List.set_cons_zero, List.set_cons_succ, fourS2, sixS2] at s11
   replace e_w := e_w.below (Nat.le_refl _) hb
   replace s36 := anyw (w2 := w17) s36
   clear hu hs hc hb
   refine wl_op hr (ok_assign s36) inferInstance ?_; clear hr; intro a18 w18 x hr hd hs
   revert s11; refine kp1 hs rfl ?_; intro s11
   clear s36
   have s12 := hd 12 rfl (by decide)
   replace e_w := e_w.trans x
   have e_w17 := x
   clear hd hs x
   refine wpList_nil ?_
   refine exit_then ?_
   refine wp_seq ?_
   refine wp_reg 47 [[(11, none)], [(37, some 0)], [(11, none)], [(39, some 2)], [(11, none)], [(41, some 4)], [(11, none)], [(43, some 6)], [(12, none)], [(45, some 8)], [(38, some 1)], [(40, some 3)], [(42, some 5)], [(44, some 7)], [(46, some 9)]] [?b19_0, ?b19_1, ?b19_2, ?b19_3, ?b19_4, ?b19_5, ?b19_6, ?b19_7, ?b19_8, ?b19_9, ?b19_1, ?b19_3, ?b19_5, ?b19_7, ?b19_9] mixed hr ?t19 ?o19 ?_
   case o19 =>
    refine oc0 (fun A W hx hf => ?_) ?_
    exact ok_fieldS 0 Try.underlying60 (k := 0) rfl size3 rfl (o2 s11 e_w17 hx (r0 hf)) rfl
    refine oc0 (fun A W hx hf => ?_) ?_
    exact ok_loadS Try.underlying3 rfl (q0 ?b19_0 A W 37 hf) rfl
    refine oc0 (fun A W hx hf => ?_) ?_
    exact ok_fieldS 1 Try.underlying60 (k := 1) rfl size3 rfl (o2 s11 e_w17 hx (r0 hf)) rfl
    refine oc0 (fun A W hx hf => ?_) ?_
    exact ok_loadS Try.underlying3 rfl (q0 ?b19_2 A W 39 hf) rfl
    refine oc0 (fun A W hx hf => ?_) ?_
    exact ok_fieldS 5 Try.underlying60 (k := 5) rfl size3 rfl (o2 s11 e_w17 hx (r0 hf)) rfl
    refine oc0 (fun A W hx hf => ?_) ?_
    exact ok_loadS Try.underlying3 rfl (q0 ?b19_4 A W 41 hf) rfl
    refine oc0 (fun A W hx hf => ?_) ?_
    exact ok_fieldS 3 Try.underlying60 (k := 3) rfl size4 rfl (o2 s11 e_w17 hx (r0 hf)) rfl
    refine oc0 (fun A W hx hf => ?_) ?_
    exact ok_loadS Try.underlying4 rfl (q0 ?b19_6 A W 43 hf) rfl
    refine oc0 (fun A W hx hf => ?_) ?_
    exact ok_movE (a0 := a18) (r0 hf)
    refine oc0 (fun A W hx hf => ?_) ?_
    exact ok_eql (p1 s12 hx (q0 ?b19_8 A W 45 hf)) (ec A (.int .i64 0))
    refine oc0 (fun A W hx hf => ?_) ?_
    exact ok_assign (q0 ?b19_1 A W 38 hf)
    refine oc0 (fun A W hx hf => ?_) ?_
    exact ok_assign (q0 ?b19_3 A W 40 hf)
    refine oc0 (fun A W hx hf => ?_) ?_
    exact ok_assign (q0 ?b19_5 A W 42 hf)
    refine oc0 (fun A W hx hf => ?_) ?_
    exact ok_assign (q0 ?b19_7 A W 44 hf)
    refine oc0 (fun A W hx hf => ?_) ?_
    exact ok_assign (q0 ?b19_9 A W 46 hf)
    exact OpsOk.nil
   case t19 => exact inferInstance
   clear hr; intro a20 w20 x hr hd hs
   clear s11 s12
   have s4 := fa ?b19_1 a20 w20 4 (hd 10 4 rfl)
   have s5 := fa ?b19_3 a20 w20 5 (hd 11 5 rfl)
   have s6 := fa ?b19_5 a20 w20 6 (hd 12 6 rfl)
   have s7 := fa ?b19_7 a20 w20 7 (hd 13 7 rfl)
   have s8 := fa ?b19_9 a20 w20 8 (hd 14 8 rfl)
   replace e_w := e_w.trans x
   clear e_w17
   clear hd hs x
   refine exit_then ?_
   refine wp_ret ?_
   refine then_ret ?_
   refine ret_tmp5 Try.results16 hr e_w ?_
   (rw [hn9]; exact ⟨_, _, _, _, _, rfl, s4, s5, s6, s7, s8⟩)
  ·
   have hk2 : z ≠ 34525 := by simpa using hk2
   have hn9 : netRead z l = net0 := by unfold netRead; rw [if_neg hk, if_neg hk2]
   refine wp_skip ?_
   refine exit_then ?_
   refine wp_seq ?_
   refine wp_reg 47 [[], [], [], [], []] [?b21_0, ?b21_1, ?b21_2, ?b21_3, ?b21_4] mixed hr ?t21 ?o21 ?_
   case o21 =>
    refine oc0 (fun A W hx hf => ?_) ?_
    exact ok_assignc
    refine oc0 (fun A W hx hf => ?_) ?_
    exact ok_assignc
    refine oc0 (fun A W hx hf => ?_) ?_
    exact ok_assignc
    refine oc0 (fun A W hx hf => ?_) ?_
    exact ok_assignc
    refine oc0 (fun A W hx hf => ?_) ?_
    exact ok_assignc
    exact OpsOk.nil
   case t21 => exact inferInstance
   clear hr; intro a22 w22 x hr hd hs
   clear s1 s31
   have s4 := fa ?b21_0 a22 w22 4 (hd 0 4 rfl)
   have s5 := fa ?b21_1 a22 w22 5 (hd 1 5 rfl)
   have s6 := fa ?b21_2 a22 w22 6 (hd 2 6 rfl)
   have s7 := fa ?b21_3 a22 w22 7 (hd 3 7 rfl)
   have s8 := fa ?b21_4 a22 w22 8 (hd 4 8 rfl)
   replace e_w := e_w.trans x
   clear hd hs x
   refine exit_then ?_
   refine wp_ret ?_
   refine ret_tmp5 Try.results16 hr e_w ?_
   (rw [hn9]; exact ⟨_, _, _, _, _, rfl, s4, s5, s6, s7, s8⟩)

end Go.Proofs.Ytnlmppannjebfaa
